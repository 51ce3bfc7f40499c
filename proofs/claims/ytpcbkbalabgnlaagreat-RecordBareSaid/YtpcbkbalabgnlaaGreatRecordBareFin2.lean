/-
  A part of the proof.
-/
import Derived.Test.YtpcbkbalabgnlaaGreatRecordBareLaws2
import Derived.Test.YtpcbkbalabgnlaaGreatRecordBareNewsB
import Derived.Test.YtpcbkbalabgnlaaGreatRecordBareZg
import Derived.Test.YtpcbkbalabgnlaaGreatRecordBareZt
import Derived.Test.YtpcbkbalabgnlaaGreatRecordBareFe
set_option maxRecDepth 100000
set_option linter.unusedVariables false
set_option linter.unusedSimpArgs false
namespace Go.Proofs.YtpcbkbalabgnlaaGreat
open Go Go.GD
theorem encode_U(i:Q0i):U (Q1n i).1:=by
 refine Tree.post (Qgu i) (W:=λr=>U r.1) ?_
 unfold Qgu
 exact w_lv λ_ _=>w_br (λ_=>U_0) (λ_=>U_or _ _)
theorem code_w(l:List Int)(hl:l.length*8≤reachBytes):(Qa4 l).w (λr=>(r.length:Int)=l.length∧ ∀w∈r,U w):=by
 have hl':l.length*8≤140737488351232:=hl
 have app: ∀{r:List Int} {x:Int},(∀w∈r,U w)→U x→ ∀w∈r++[x],U w:=λhr hx w hw=>by
   rw[List.mem_append]at hw
   rcases hw with hw|hw
   · exact hr w hw
   · rw[List.mem_singleton.1 hw];exact hx
 unfold Qa4
 refine w_lp (inv:=λz=>Qpq l z∧ ∀w∈z.2,U w) (μ:=Qd9 l) ⟨⟨by omega,by simp,by simp⟩,by simp⟩ (Nat.lt_succ_self _) (λv0 hv=> ?_)
 obtain⟨⟨h1,h2,h3⟩,h4⟩:=hv
 refine w_br (λh=> ?_) (λh=> ?_)
 · have h:=of_decide_eq_true h
   have next: ∀x:Int,U x→(Qpq l (IntKind.wrap IntKind.i64 (v0.1+1),v0.2++[x])∧ ∀w∈v0.2++[x],U w)∧Qd9 l (IntKind.wrap IntKind.i64 (v0.1+1),v0.2++[x])<Qd9 l v0:=λx hx=>by
     have hw:IntKind.i64.wrap (v0.1+1)=v0.1+1:=by rw[IntKind.wrap_i64];omega
     rw[hw]
     refine⟨⟨⟨?_,?_,?_⟩,app h4 hx⟩,?_⟩
     · show 0≤v0.1+1;omega
     · show v0.1+1≤l.length;omega
     · show((v0.2++[x]).length:Int)=v0.1+1;simp;omega
     · show(l.length-(v0.1+1)).toNat<(l.length-v0.1).toNat;omega
   have hb:(Nat.beq 1 1&&Nat.blt 0 1&&decide (0≤v0.1∧v0.1<(l.length:Int)))=true:=by simp [Nat.blt];omega
   have hc:decide (4*(v0.2.length+1)≤140737488355328)=true:=decide_eq_true (by omega)
   exact w_cn hb (w_br (λ_=>w_cn hb (w_cn hc (next _ (Q0s _)))) (λ_=>w_cn hb (w_an (inst_pre _) (w_lv λx0 _=>w_lv λx1 hx=>w_cn hc (next _ (by rw[hx];exact encode_U _))))))
 · have h:=of_decide_eq_false h
   exact⟨by show(v0.2.length:Int)=l.length;omega,h4⟩
theorem Qnc(steps:Int):0≤Q0q steps∧Q0q steps≤4000:=by
 refine Tree.post (Qib steps) (W:=λr=>0≤r∧r≤4000) ?_
 unfold Qib
 refine w_lf ?_
 constructor<;>(repeat' split)<;>omega
section
variable {P:Nat} {m:Q00} (h:okM P m)
include h
theorem min_w(port:Int){clock:Int}(hc:U clock):(Qka m port clock).w (λx=>U x.1∧okM P x.2∧x.2.A1=m.A1):=by
 have k:=(⟨h,rfl⟩:okM P m∧m.A1=m.A1)
 obtain⟨h1,h2,h3,h4,h5,h7⟩:=h
 unfold Qka
 exact w_br (λ_=>w_lv λx hx=>⟨hx▸Zef _ _,⟨⟨h1,h2,h3,h4,h5,h7⟩,rfl⟩⟩) (λ_=>w_br (λ_=>⟨hc,k⟩) (λ_=>w_br (λ_=>w_lv λx hx=>⟨hx▸timerIn_w _,k⟩) (λ_=>w_br (λ_=>w_lv λx hx=>⟨hx▸diskIn_w h3 _,k⟩) (λ_=>w_br (λ_=>w_lv λx hx=>⟨hx▸nicIn_w h4 _,k⟩) (λ_=>w_lv λx hx=>⟨hx▸Zex h5.1 _,k⟩)))))
theorem mout_w(port:Int){v:Int}(hv:U v):(Qdy m port v).w (λx=>x.1.length≤1∧okM P x.2∧x.2.A1=m.A1):=by
 have k:=(⟨h,rfl⟩:okM P m∧m.A1=m.A1)
 obtain⟨h1,h2,h3,h4,h5,h7⟩:=h
 unfold Qdy
 exact w_br (λ_=>⟨Nat.le_refl _,k⟩) (λ_=>w_br (λ_=>⟨Nat.zero_le _,k⟩) (λ_=>w_br (λ_=>w_lv λ_ _=>⟨Nat.zero_le _,⟨⟨h1,h2,h3,h4,h5,h7⟩,rfl⟩⟩) (λ_=>w_br (λ_=>Q0e (diskOut_w h2 h3 _ hv _) λx hx=>⟨hx.2,⟨⟨h1,h2,hx.1,h4,h5,h7⟩,rfl⟩⟩) (λ_=>w_br (λ_=>Q0e (nicOut_w h2 h4 _ hv _) λx hx=>⟨hx.2,⟨⟨h1,h2,h3,hx.1,h5,h7⟩,rfl⟩⟩) (λ_=>Q0e (give_w h2 h5 _ hv) λx hx=>⟨Nat.zero_le _,⟨⟨h1,hx.2,h3,h4,hx.1,h7⟩,rfl⟩⟩)))))
theorem Z4v{clock:Int}(hc:U clock):(Q9 m clock).w (λx=>x.1.length≤1∧okM P x.2∧x.2.A1=IntKind.wrap .u64 (m.A1+1)):=by
 obtain⟨h1,h2,h3,h4,h5,h7⟩:=h
 unfold Q9
 refine Q0e (Qr4 h1) λx0 c0=>Q0e (do_w c0 h2) λx1 hx=> ?_
 obtain⟨c1,v1,m1⟩:=hx
 refine w_br (λ_=>Zj3 (min_w (m:=⟨_,_,_,_,_,_,_,_,_,_⟩) ⟨c1,m1,h3,h4,h5,h7⟩ _ hc) λx2 hx=> ?_) (λ_=>w_br (λ_=>Q0e (mout_w (m:=⟨_,_,_,_,_,_,_,_,_,_⟩) ⟨c1,m1,h3,h4,h5,h7⟩ _ v1) λx4 hx=> ?_) (λ_=> ?_))
 · obtain⟨u,⟨k1,k2,k3,k4,k5,k7⟩,k6⟩:=hx
   exact Q0e (Z84 k1 _ u) λx3 h3=>⟨Nat.zero_le _,⟨h3,k2,k3,k4,k5,w0 _⟩,congrArg (λn=>IntKind.wrap .u64 (n+1)) k6⟩
 · obtain⟨u,⟨k1,k2,k3,k4,k5,k7⟩,k6⟩:=hx
   exact⟨u,⟨k1,k2,k3,k4,k5,w0 _⟩,congrArg (λn=>IntKind.wrap .u64 (n+1)) k6⟩
 · repeat'(first
     |exact⟨Nat.zero_le _,⟨c1,m1,h3,h4,h5,w0 _⟩,rfl⟩
     |refine w_br (λ_=> ?_) (λ_=> ?_))
theorem own7_w:(Qcp m).w (λx=>okM P x∧x.A1=m.A1):=by
 obtain⟨h1,h2,h3,h4,h5,h7⟩:=h
 unfold Qcp
 exact Q0e (copy_w h2) λx hx=>⟨⟨h1,by rw[hx];exact h2,h3,h4,h5,h7⟩,rfl⟩
end
theorem U_all(n:Nat): ∀w∈List.replicate n (0:Int),U w:=λw hw=>by rw[(List.mem_replicate.1 hw).2];exact U_0
theorem zero_ok:okM 0 ⟨⟨⟨0,0,0,0,0,0,0,0,0,0,0,0,0,0,0,0⟩,0,⟨0,0,0,0,0,0,0,0⟩⟩,[],⟨[]⟩,⟨false,0,false⟩,⟨0,0,0,0,0,0,0,[]⟩,⟨0,0,false,0,false,0⟩,⟨0,0⟩,0,false,false⟩:=
 ⟨⟨U_all 16,U_0,U_all 8⟩,⟨rfl,by omega,by omega,λw hw=>by cases hw⟩,⟨U_0,U_0,U_0,U_0⟩,⟨U_0,U_0,U_0,U_0⟩,⟨U_0,U_0⟩,by decide⟩
theorem Zj7{P:Nat}{m:Q00}(h:okM P m)(hc:0≤m.A1):(Qag m [] 87).w (λx=> ∃Q,okM Q x.1):=by
 have z: ∃Q,okM Q _:=⟨0,zero_ok⟩
 unfold Qag
 refine w_lv λx0 _=>w_br (λ_=>z) λ_=>w_br (λ_=>z) λ_=>w_br (λ_=>z) λ_=>w_an (show Q8t [] by show([]:List Q0n).length≤1000000000000;decide) (w_lv λx1 _=>w_br (λ_=>z) λ_=>Q0e (own7_w h) λx2 hx=> ?_)
 refine w_lp (inv:=λv:Q00×List Q03=>okM P v.1∧0≤v.1.A1∧v.2.length+(87-v.1.A1).toNat≤87) (μ:=Qga m [] 87) ⟨hx.1,by rw[hx.2];exact hc,by rw[hx.2];show 0+_≤87;omega⟩ (Nat.lt_succ_self _) λv0 ⟨a1,a2,a3⟩=> ?_
 refine w_br (λhb=>w_br (λ_=> ?_) (λ_=>⟨P,a1⟩)) (λ_=>⟨P,a1⟩)
 have hb:=of_decide_eq_true hb
 refine w_lp (inv:=λ_=>True) (μ:=Qg9 m [] 87 v0) trivial (Nat.lt_succ_self _) λv1 _=> ?_
 refine w_br (λ_=>⟨P,a1⟩) λ_=>Q0e (idle_w _) λx3 _=>w_br (λ_=>⟨P,a1⟩) λ_=>Q0e (reads_w a1.cpu a1.mem) λx4 _=>w_br (λ_=>z) λ_=>Q0e (Z4v a1 U_0) λx5 h5=> ?_
 obtain⟨b1,b2,b3⟩:=h5
 refine w_cn (decide_eq_true (by omega)) (w_nx ?_)
 have e:x5.2.A1=v0.1.A1+1:=by rw[b3,IntKind.wrap_u64];omega
 show(_∧_∧_)∧(_:Nat)<_
 refine⟨⟨b2,by show 0≤x5.2.A1;omega,by show(v0.2++x5.1).length+(87-x5.2.A1).toNat≤87;rw[List.length_append];omega⟩,by show(87-x5.2.A1).toNat<(87-v0.1.A1).toNat;omega⟩
set_option synthInstance.maxHeartbeats 2000000
set_option synthInstance.maxSize 100000
noncomputable section
instance ref1_lines_ck (src:(List UInt8)):Ck (Qk3 src):=ckT (t:=Qfd src) (by delta Qfd;infer_instance)
instance ref1_tokens_ck (s:(List UInt8)):Ck (Qhg s):=ckT (t:=Qdh s) (by delta Qdh;infer_instance)
instance ref1_digits_ck (n:Int):Ck (Q3w n):=let d:Decidable (Q3w n):=(by delta Q3w;infer_instance);⟨@decide _ d,@of_decide_eq_true _ d⟩
instance ref1_Decimal_ck (n:Int):Ck (Qg7 n):=ckT (t:=Q7h n) (by delta Q7h;infer_instance)
instance ref1_reg_ck (r:Int):Ck (Qo1 r):=ckT (t:=Qe1 r) (by delta Qe1;infer_instance)
instance ref1_name_ck (s:(List UInt8)):Ck (Qgz s):=ckT (t:=Qhu s) (by delta Qhu;infer_instance)
instance Zm7 (op:Int):Ck (Qe2 op):=ckT (t:=Q9x op) (by delta Q9x;infer_instance)
instance Zjm (s:(List UInt8)):Ck (Q3v s):=ckT (t:=Q8x s) (by delta Q8x;infer_instance)
instance ref1_pattern_ck (what:(List UInt8)):Ck (Q6s what):=ckT (t:=Qbj what) (by delta Qbj;infer_instance)
instance ref1_number_ck (s:(List UInt8)):Ck (Qi9 s):=ckT (t:=Qdc s) (by delta Qdc;infer_instance)
instance ref1_matched_ck (l:(List Q0h)) (p:(List UInt8)):Ck (Q6r l p):=ckT (t:=Qbs l p) (by delta Qbs;infer_instance)
instance ref1_parsed_ck (s:(List UInt8)):Ck (Qi1 s):=ckT (t:=Qd0 s) (by delta Qd0;infer_instance)
instance ref1_address_ck (l:(List Q2d)) (label:(List UInt8)):Ck (Q44 l label):=let d:Decidable (Q44 l label):=(by delta Q44;infer_instance);⟨@decide _ d,@of_decide_eq_true _ d⟩
instance ref1_read_ck (src:(List UInt8)):Ck (Qlf src):=ckT (t:=Qi8 src) (by delta Qi8;infer_instance)
instance ref1_inst_ck (st:Q0a) (v:Int):Ck (Qb1 st v):=ckT (t:=Qh9 st v) (by delta Qh9;infer_instance)
instance Zmh (src:(List UInt8)):Ck (Qax src):=ckT (t:=Qae src) (by delta Qae;infer_instance)
theorem asm_pre:Qax ((108:UInt8)::(tblZe0++Z4e++(Z5z++Z5r)++(Z4r++Z5d++(Z5k++Z3z))++(Z4h++Z5h++(Qts++Quq)++(Quj++Qtn++(Qu7++Qvd))))):=ck inferInstance (by kernel_rfl)
def inU(x:Int):Bool:=decide (0≤x)&&decide (x<4294967296)
theorem asm_gen(l:List Int)(h:(Nat.ble l.length 160&&List.all l inU)=true):l.length≤160∧ ∀w∈l,U w:=by
 rw[Bool.and_eq_true]at h
 refine⟨Nat.le_of_ble_eq_true h.1,λw hw=> ?_⟩
 have:=List.all_eq_true.1 h.2 w hw
 simp only[inU,Bool.and_eq_true,decide_eq_true_eq]at this
 exact this
theorem asm_ok:(Q1p (List.append (List.append (List.append (List.append Z8c Z4e) (List.append Z5z Z5r)) (List.append (List.append Z4r Z5d) (List.append Z5k Z3z))) (List.append (List.append (List.append Z4h Z5h) (List.append Qts Quq)) (List.append (List.append Quj Qtn) (List.append Qu7 Qvd))))).1.length≤160∧ ∀w∈(Q1p (List.append (List.append (List.append (List.append Z8c Z4e) (List.append Z5z Z5r)) (List.append (List.append Z4r Z5d) (List.append Z5k Z3z))) (List.append (List.append (List.append Z4h Z5h) (List.append Qts Quq)) (List.append (List.append Quj Qtn) (List.append Qu7 Qvd))))).1,U w:=asm_gen _ (by kernel_rfl)
end
theorem new_w(i:List Int)(hu: ∀w∈i,U w)(hl:i.length≤256):(Q82 8 4 i).w (λx=>okM 8 x.1∧x.1.A1=0):=by
 unfold Q82
 refine w_br (λh=>absurd h (by decide)) λ_=>w_br (λh=>absurd h (by decide)) λ_=>w_br (λh=>absurd h (by decide)) λ_=>w_br (λh=>absurd h (by decide)) λ_=>w_br (λh=> ?_) λ_=>w_lv λx0 e0=>w_an (Zcu _) (w_lv λx1 e1=> ?_)
 · have h:=of_decide_eq_true h
   rw[show IntKind.i64.wrap (8*32)=256 by decide]at h
   omega
 have hx:x1=List.replicate 256 0:=by rw[e1];kernel_rfl
 have c0:Q2z x0:=by rw[e0];exact⟨by
   intro w hw
   simp only[Qod,Qj8,Tree.m,A16.l,List.mem_cons,List.not_mem_nil,or_false,or_self]at hw
   rw[hw];exact U_0,U_0,by
   intro w hw
   simp only[Qod,Qj8,Tree.m,A8.l,List.mem_cons,List.not_mem_nil,or_false,or_self]at hw
   rcases hw with rfl|rfl
   · exact⟨by omega,by omega⟩
   · exact U_0⟩
 have hz: ∀w∈x1,U w:=by rw[hx];exact U_all 256
 have hn:x1.length=256:=by rw[hx,List.length_replicate]
 refine⟨⟨c0,⟨?_,by omega,by omega,λw hw=> ?_⟩,⟨U_0,U_0,U_0,U_0⟩,⟨U_0,U_0,U_0,U_0⟩,⟨U_0,U_0⟩,Int.le_refl _⟩,rfl⟩
 · simp only[List.length_append,List.length_take,List.length_drop,hn];omega
 · rcases List.mem_append.1 hw with h1|h1
   · exact hu w (List.mem_of_mem_take h1)
   · exact hz w (List.mem_of_mem_drop h1)
theorem machine_w(kind:Int)(l:List Int)(hl:l.length*8≤reachBytes):(Q7d kind l).w (λx=> ∃Q,okM Q x):=by
  have hl':l.length*8≤140737488351232:=hl
  unfold Q7d
  refine w_an (Qiw (by decide)) (w_lv λx0 _=>w_br (λ_=>w_an asm_pre (w_lv λx1 e1=> ?_)) (λ_=> ?_))
  · obtain⟨q1,q2⟩:x1.1.length≤160∧ ∀w∈x1.1,U w:=by rw[e1];exact asm_ok
    refine w_lp (inv:=λv:List Int=>v.length≤160∧ ∀w∈v,U w) (μ:=Qdb kind l) ⟨q1,q2⟩ (Nat.lt_succ_self _) λv0 ⟨a1,a2⟩=> ?_
    refine w_br (λhb=> ?_) (λ_=> ?_)
    · have hb:=of_decide_eq_true hb
      refine w_cn (decide_eq_true (by omega)) (w_nx ?_)
      show(_∧_)∧(_:Nat)<_
      refine⟨⟨by rw[List.length_append,List.length_singleton];omega,λw hw=> ?_⟩,by show 160-(v0++[0]).length<160-v0.length;rw[List.length_append,List.length_singleton];omega⟩
      rcases List.mem_append.1 hw with h1|h1
      · exact a2 w h1
      · rw[List.mem_singleton.1 h1];exact U_0
    · refine Q0e (code_w l hl) λx2 ⟨b1,b2⟩=>w_cn (decide_eq_true (by omega)) ?_
      have hu: ∀w∈v0++x2,U w:=λw hw=>(List.mem_append.1 hw).elim (a2 w) (b2 w)
      refine w_br (λhb=> ?_) (λhb=> ?_)
      · have hb:=of_decide_eq_true hb
        refine w_cn (by simp [Nat.blt];rw[List.length_append]at hb;omega) (Q0e (new_w _ (λw hw=>hu w (List.mem_of_mem_drop (List.mem_of_mem_take hw))) (by rw[List.length_take];exact Nat.le_trans (Nat.min_le_left _ _) (by decide))) λx3 ⟨c1,c2⟩=>w_br (λ_=>Q0e (Zj7 c1 (by omega)) λx4 hx=>hx) (λ_=>⟨8,c1⟩))
      · have hb:=of_decide_eq_false hb
        exact Q0e (new_w _ hu (by omega)) λx3 ⟨c1,c2⟩=>w_br (λ_=>Q0e (Zj7 c1 (by omega)) λx4 hx=>hx) (λ_=>⟨8,c1⟩)
  · refine Q0e (code_w l hl) λx2 ⟨b1,b2⟩=>w_cn (decide_eq_true (by omega)) ?_
    refine w_br (λhb=> ?_) (λhb=> ?_)
    · have hb:=of_decide_eq_true hb
      refine w_cn (by simp [Nat.blt];omega) (Q0e (new_w _ (λw hw=>b2 w (List.mem_of_mem_drop (List.mem_of_mem_take hw))) (by rw[List.length_take];exact Nat.le_trans (Nat.min_le_left _ _) (by decide))) λx3 ⟨c1,c2⟩=>w_br (λ_=>Q0e (Zj7 c1 (by omega)) λx4 hx=>hx) (λ_=>⟨8,c1⟩))
    · have hb:=of_decide_eq_false hb
      exact Q0e (new_w _ b2 (by omega)) λx3 ⟨c1,c2⟩=>w_br (λ_=>Q0e (Zj7 c1 (by omega)) λx4 hx=>hx) (λ_=>⟨8,c1⟩)
noncomputable section
def boot:List Int:=(Q1p (List.append (List.append (List.append (List.append Z8c Z4e) (List.append Z5z Z5r)) (List.append (List.append Z4r Z5d) (List.append Z5k Z3z))) (List.append (List.append (List.append Z4h Z5h) (List.append Qts Quq)) (List.append (List.append Quj Qtn) (List.append Qu7 Qvd))))).1
def Qjr:List Int:=boot++List.replicate (160-boot.length) 0
theorem run87(t0 t1 t2 t3 t4 t5 t6 t7 t8 t9 t10 t11 t12 t13 t14 t15 t16 t17 t18 t19 t20 t21 t22 t23 t24 t25 t26 t27 t28 t29 t30 t31 t32 t33 t34 t35 t36 t37 t38 t39 t40 t41 t42 t43 t44 t45 t46 t47 t48 t49 t50 t51 t52 t53 t54 t55 t56 t57 t58 t59 t60 t61 t62 t63 t64 t65 t66 t67 t68 t69 t70 t71 t72 t73 t74 t75 t76 t77 t78 t79 t80 t81 t82 t83 t84 t85 t86 t87 t88 t89 t90 t91 t92 t93 t94 t95:Int):(Qdw (Q1w 8 4 (Qjr++[t0,t1,t2,t3,t4,t5,t6,t7,t8,t9,t10,t11,t12,t13,t14,t15,t16,t17,t18,t19,t20,t21,t22,t23,t24,t25,t26,t27,t28,t29,t30,t31,t32,t33,t34,t35,t36,t37,t38,t39,t40,t41,t42,t43,t44,t45,t46,t47,t48,t49,t50,t51,t52,t53,t54,t55,t56,t57,t58,t59,t60,t61,t62,t63,t64,t65,t66,t67,t68,t69,t70,t71,t72,t73,t74,t75,t76,t77,t78,t79,t80,t81,t82,t83,t84,t85,t86,t87,t88,t89,t90,t91,t92,t93,t94,t95])).1 [] 87).2.2.2=0:=by kernel_rfl
end
attribute [local irreducible] Q1p
theorem new_mem(i j:List Int)(hi:i.length≤256)(hj:j.length≤256)(e:i++List.replicate (256-i.length) 0=j++List.replicate (256-j.length) 0):Q1w 8 4 i=Q1w 8 4 j:=by
 have w:IntKind.i64.wrap (8*32)=256:=by decide
 have m:Qsm 8=List.replicate 256 0:=by kernel_rfl
 have d: ∀k:List Int,k.length≤256→decide ((k.length:Int)>256)=false:=λk h=>decide_eq_false (by omega)
 have mem: ∀k:List Int,k.length≤256→List.take (min k.length (List.replicate 256 (0:Int)).length) k++List.drop (min k.length (List.replicate 256 (0:Int)).length) (List.replicate 256 0)=k++List.replicate (256-k.length) 0:=λk h=>by
   rw[List.length_replicate,Nat.min_eq_left h,List.take_length,List.drop_replicate]
 have r:Qsm 8=List.replicate 256 0:=by kernel_rfl
 simp only[Q1w,Q82,Tree.m,w,letv,r,d i hi,d j hj]
 simp only[mem i hi,mem j hj,e]
theorem list96(t:List Int)(ht:t.length=96):t=[t.getD 0 0,t.getD 1 0,t.getD 2 0,t.getD 3 0,t.getD 4 0,t.getD 5 0,t.getD 6 0,t.getD 7 0,t.getD 8 0,t.getD 9 0,t.getD 10 0,t.getD 11 0,t.getD 12 0,t.getD 13 0,t.getD 14 0,t.getD 15 0,t.getD 16 0,t.getD 17 0,t.getD 18 0,t.getD 19 0,t.getD 20 0,t.getD 21 0,t.getD 22 0,t.getD 23 0,t.getD 24 0,t.getD 25 0,t.getD 26 0,t.getD 27 0,t.getD 28 0,t.getD 29 0,t.getD 30 0,t.getD 31 0,t.getD 32 0,t.getD 33 0,t.getD 34 0,t.getD 35 0,t.getD 36 0,t.getD 37 0,t.getD 38 0,t.getD 39 0,t.getD 40 0,t.getD 41 0,t.getD 42 0,t.getD 43 0,t.getD 44 0,t.getD 45 0,t.getD 46 0,t.getD 47 0,t.getD 48 0,t.getD 49 0,t.getD 50 0,t.getD 51 0,t.getD 52 0,t.getD 53 0,t.getD 54 0,t.getD 55 0,t.getD 56 0,t.getD 57 0,t.getD 58 0,t.getD 59 0,t.getD 60 0,t.getD 61 0,t.getD 62 0,t.getD 63 0,t.getD 64 0,t.getD 65 0,t.getD 66 0,t.getD 67 0,t.getD 68 0,t.getD 69 0,t.getD 70 0,t.getD 71 0,t.getD 72 0,t.getD 73 0,t.getD 74 0,t.getD 75 0,t.getD 76 0,t.getD 77 0,t.getD 78 0,t.getD 79 0,t.getD 80 0,t.getD 81 0,t.getD 82 0,t.getD 83 0,t.getD 84 0,t.getD 85 0,t.getD 86 0,t.getD 87 0,t.getD 88 0,t.getD 89 0,t.getD 90 0,t.getD 91 0,t.getD 92 0,t.getD 93 0,t.getD 94 0,t.getD 95 0]:=by
 apply List.ext_getElem
 · rw[ht];rfl
 · intro i h1 h2
   have e: ∀j (hj:j<96),[t.getD 0 0,t.getD 1 0,t.getD 2 0,t.getD 3 0,t.getD 4 0,t.getD 5 0,t.getD 6 0,t.getD 7 0,t.getD 8 0,t.getD 9 0,t.getD 10 0,t.getD 11 0,t.getD 12 0,t.getD 13 0,t.getD 14 0,t.getD 15 0,t.getD 16 0,t.getD 17 0,t.getD 18 0,t.getD 19 0,t.getD 20 0,t.getD 21 0,t.getD 22 0,t.getD 23 0,t.getD 24 0,t.getD 25 0,t.getD 26 0,t.getD 27 0,t.getD 28 0,t.getD 29 0,t.getD 30 0,t.getD 31 0,t.getD 32 0,t.getD 33 0,t.getD 34 0,t.getD 35 0,t.getD 36 0,t.getD 37 0,t.getD 38 0,t.getD 39 0,t.getD 40 0,t.getD 41 0,t.getD 42 0,t.getD 43 0,t.getD 44 0,t.getD 45 0,t.getD 46 0,t.getD 47 0,t.getD 48 0,t.getD 49 0,t.getD 50 0,t.getD 51 0,t.getD 52 0,t.getD 53 0,t.getD 54 0,t.getD 55 0,t.getD 56 0,t.getD 57 0,t.getD 58 0,t.getD 59 0,t.getD 60 0,t.getD 61 0,t.getD 62 0,t.getD 63 0,t.getD 64 0,t.getD 65 0,t.getD 66 0,t.getD 67 0,t.getD 68 0,t.getD 69 0,t.getD 70 0,t.getD 71 0,t.getD 72 0,t.getD 73 0,t.getD 74 0,t.getD 75 0,t.getD 76 0,t.getD 77 0,t.getD 78 0,t.getD 79 0,t.getD 80 0,t.getD 81 0,t.getD 82 0,t.getD 83 0,t.getD 84 0,t.getD 85 0,t.getD 86 0,t.getD 87 0,t.getD 88 0,t.getD 89 0,t.getD 90 0,t.getD 91 0,t.getD 92 0,t.getD 93 0,t.getD 94 0,t.getD 95 0][j]'hj=t.getD j 0:=by
     intro j hj
     have:[t.getD 0 0,t.getD 1 0,t.getD 2 0,t.getD 3 0,t.getD 4 0,t.getD 5 0,t.getD 6 0,t.getD 7 0,t.getD 8 0,t.getD 9 0,t.getD 10 0,t.getD 11 0,t.getD 12 0,t.getD 13 0,t.getD 14 0,t.getD 15 0,t.getD 16 0,t.getD 17 0,t.getD 18 0,t.getD 19 0,t.getD 20 0,t.getD 21 0,t.getD 22 0,t.getD 23 0,t.getD 24 0,t.getD 25 0,t.getD 26 0,t.getD 27 0,t.getD 28 0,t.getD 29 0,t.getD 30 0,t.getD 31 0,t.getD 32 0,t.getD 33 0,t.getD 34 0,t.getD 35 0,t.getD 36 0,t.getD 37 0,t.getD 38 0,t.getD 39 0,t.getD 40 0,t.getD 41 0,t.getD 42 0,t.getD 43 0,t.getD 44 0,t.getD 45 0,t.getD 46 0,t.getD 47 0,t.getD 48 0,t.getD 49 0,t.getD 50 0,t.getD 51 0,t.getD 52 0,t.getD 53 0,t.getD 54 0,t.getD 55 0,t.getD 56 0,t.getD 57 0,t.getD 58 0,t.getD 59 0,t.getD 60 0,t.getD 61 0,t.getD 62 0,t.getD 63 0,t.getD 64 0,t.getD 65 0,t.getD 66 0,t.getD 67 0,t.getD 68 0,t.getD 69 0,t.getD 70 0,t.getD 71 0,t.getD 72 0,t.getD 73 0,t.getD 74 0,t.getD 75 0,t.getD 76 0,t.getD 77 0,t.getD 78 0,t.getD 79 0,t.getD 80 0,t.getD 81 0,t.getD 82 0,t.getD 83 0,t.getD 84 0,t.getD 85 0,t.getD 86 0,t.getD 87 0,t.getD 88 0,t.getD 89 0,t.getD 90 0,t.getD 91 0,t.getD 92 0,t.getD 93 0,t.getD 94 0,t.getD 95 0]=(List.range 96).map (λk=>t.getD k 0):=rfl
     simp only[this,List.getElem_map,List.getElem_range]
   rw[e i (by omega),List.getD_eq_getElem?_getD,List.getElem?_eq_getElem h1]
   rfl
theorem run_ok(t:List Int)(ht:t.length=96):(Qdw (Q1w 8 4 (Qjr++t)).1 [] 87).2.2.2=0:=by
 rw[list96 t ht]
 exact run87 _ _ _ _ _ _ _ _ _ _ _ _ _ _ _ _ _ _ _ _ _ _ _ _ _ _ _ _ _ _ _ _ _ _ _ _ _ _ _ _ _ _ _ _ _ _ _ _ _ _ _ _ _ _ _ _ _ _ _ _ _ _ _ _ _ _ _ _ _ _ _ _ _ _ _ _ _ _ _ _ _ _ _ _ _ _ _ _ _ _ _ _ _ _ _ _
theorem pad_len:Qjr.length=160:=by
 have h:boot.length≤160:=asm_ok.1
 unfold Qjr
 rw[List.length_append,List.length_replicate];omega
def out(f:Int)(m m':List Int):Prop:= ∀j:Nat,¬(f*32≤j∧(j:Int)<f*32+32)→m'.getD j 0=m.getD j 0
theorem Qoo(f:Int)(m:List Int):out f m m:=λ_ _=>rfl
theorem getDset(l:List Int)(i j:Nat)(v:Int)(h:i≠j):(l.set i v).getD j 0=l.getD j 0:=by
 simp only[List.getD_eq_getElem?_getD,List.getElem?_set_ne h]
theorem Q47{P:Nat}{m:List Int}(h:Q11 P m):Q0w m=P:=by
 obtain⟨h1,h2,h3,_⟩:=h
 simp only[Q0w,Q91,Tree.m]
 have e:(m.length:Int)=32*P:=by omega
 rw[e]
 have e1:(Int.tmod (32*(P:Int)) 32 !=0)=false:=by simp [Int.mul_tmod_right]
 have e2:decide ((32*(P:Int))>1024)=false:=decide_eq_false (by omega)
 rw[e1,e2]
 simp only[cond_false]
 rw[Int.mul_tdiv_cancel_left _ (by decide),IntKind.wrap_i64];omega
theorem has_eq{P:Nat}{m:List Int}(h:Q11 P m)(f:Int):Q5t m f=true→0≤f∧f<P:=by
 have hp:=Q47 h
 simp only[Q5t,Q8v,Tree.m,letv,hp]
 cases h1:decide (f≥0)
 · intro h;cases h
 · intro h;exact⟨of_decide_eq_true h1,of_decide_eq_true h⟩
theorem Z0x{P:Nat}{m:List Int}(h:Q11 P m)(f:Int)(s:List UInt8):(Q2f m f s).w (λr=>Q11 P r.1∧out f m r.1∧(r.2=false→r.1=m)):=by
 have hcl:Q02 m=m:=rfl
 have h2:=h.p2
 unfold Q2f
 refine w_an (Q9a h) (w_lv λx0 hx0=>w_lv λx1 hx1=> ?_)
 rw[hcl]at hx0;subst hx0
 refine w_br (λ_=>⟨h,Qoo _ _,λ_=>rfl⟩) λhb=>w_br (λ_=>⟨h,Qoo _ _,λ_=>rfl⟩) λhs=> ?_
 have hb:x1=true:=by simpa using hb
 obtain⟨f0,f1⟩:=has_eq h f (hx1.symm.trans hb)
 have hs:(s.length:Int)=128:=by simpa using hs
 refine w_lp (inv:=λz:Int×List Int=>0≤z.1∧z.1≤32∧Q11 P z.2∧out f x0 z.2) (μ:=Qbc x0 f s) ⟨show(0:Int)≤0 by decide,show(0:Int)≤32 by decide,h,Qoo _ _⟩ (Nat.lt_succ_self _) λz ⟨z1,z2,z3,z4⟩=> ?_
 refine w_br (λhb=> ?_) (λ_=>⟨z3,z4,λh=>by cases h⟩)
 have hb:=of_decide_eq_true hb
 have e1:IntKind.i64.wrap (4*z.1)=4*z.1:=by rw[IntKind.wrap_i64];omega
 have e2:IntKind.i64.wrap (IntKind.i64.wrap (4*z.1)+4)=4*z.1+4:=by rw[IntKind.wrap_i64,IntKind.wrap_i64];omega
 have e3:IntKind.i64.wrap (IntKind.i64.wrap (f*32)+z.1)=f*32+z.1:=by rw[IntKind.wrap_i64,IntKind.wrap_i64];omega
 have hl:=z3.len
 have hlen:(List.take (Int.toNat (IntKind.i64.wrap (IntKind.i64.wrap (4*z.1)+4))-Int.toNat (IntKind.i64.wrap (4*z.1))) (List.drop (Int.toNat (IntKind.i64.wrap (4*z.1))) s)).length=4:=by
   rw[e2,e1,List.length_take,List.length_drop];omega
 refine w_cn (decide_eq_true (by rw[e2,e1];omega)) ?_
 refine w_cn (decide_eq_true (by rw[hlen];decide)) (w_cn (decide_eq_true (by rw[hlen];decide)) (w_cn (decide_eq_true (by rw[hlen];decide)) (w_cn (decide_eq_true (by rw[hlen];decide)) (w_cn (by rw[e3];simp [Nat.blt];omega) (w_nx ?_)))))
 show(_∧_∧Q11 P (List.set _ _ _)∧out f x0 (List.set _ _ _))∧(_:Nat)<_
 have ew:IntKind.i64.wrap (z.1+1)=z.1+1:=by rw[IntKind.wrap_i64];omega
 rw[e3]
 refine⟨⟨by rw[ew];omega,by rw[ew];omega,⟨by rw[List.length_set];exact hl,z3.p1,z3.p2,Z2 z3.u (U_or _ _) _⟩,λj hj=> ?_⟩,by show(32-IntKind.i64.wrap (z.1+1)).toNat<(32-z.1).toNat;rw[ew];omega⟩
 rw[getDset _ _ _ _ (by omega)]
 exact z4 j hj
theorem text_w(w:List Int)(h:w.length≤32):(Q5k w).w (λr=>r.length=4*w.length):=by
 have e0:IntKind.i64.wrap (4*(w.length:Int))=4*w.length:=by rw[IntKind.wrap_i64];omega
 unfold Q5k
 refine w_cn (by rw[e0];simp [Nat.blt,D.plain];omega) ?_
 refine w_lp (inv:=λz:Int×List Int=>0≤z.1∧z.1≤w.length∧(z.2.length:Int)=4*z.1) (μ:=Q83 w) ⟨by decide,by show(0:Int)≤w.length;omega,rfl⟩ (Nat.lt_succ_self _) λz ⟨z1,z2,z3⟩=> ?_
 refine w_br (λhb=> ?_) (λhb=> ?_)
 · have hb:=of_decide_eq_true hb
   have ew:IntKind.i64.wrap (z.1+1)=z.1+1:=by rw[IntKind.wrap_i64];omega
   refine w_cn (by simp [Nat.blt];omega) (w_cn (decide_eq_true (by omega)) (w_nx ?_))
   show(_∧_∧_)∧(_:Nat)<_
   refine⟨⟨by rw[ew];omega,by rw[ew];omega,by rw[ew,List.length_append];simp only[List.length_cons,List.length_nil];omega⟩,by show(w.length-IntKind.i64.wrap (z.1+1)).toNat<(w.length-z.1).toNat;rw[ew];omega⟩
 · have hb:=of_decide_eq_false hb
   show(bytesOf z.2).length=_
   rw[Qhi];omega
theorem Zfb{P:Nat}{m:List Int}(h:Q11 P m)(f:Int):(Q4 m f).w (λr=>0≤f→f<P→r.1.length=128):=by
 have hl:=h.len
 have h2:=h.p2
 unfold Q4
 refine w_lv λx0 hx0=>w_br (λhb=>λf0 f1=> ?_) (λhb=> ?_)
 · have hp:=Q47 h
   have hb:x0=false:=by simpa using hb
   rw[hb]at hx0
   simp only[Q5t,Q8v,Tree.m,letv,hp]at hx0
   rw[decide_eq_true f0]at hx0
   exact absurd f1 (of_decide_eq_false hx0.symm)
 · have hb:x0=true:=by simpa using hb
   obtain⟨f0,f1⟩:=has_eq h f (hx0.symm.trans hb)
   have e1:IntKind.i64.wrap (f*32)=f*32:=by rw[IntKind.wrap_i64];omega
   have e2:IntKind.i64.wrap (IntKind.i64.wrap (f*32)+32)=f*32+32:=by rw[IntKind.wrap_i64,IntKind.wrap_i64];omega
   have hlen:(List.take (Int.toNat (IntKind.i64.wrap (IntKind.i64.wrap (f*32)+32))-Int.toNat (IntKind.i64.wrap (f*32))) (List.drop (Int.toNat (IntKind.i64.wrap (f*32))) m)).length=32:=by
     rw[e2,e1,List.length_take,List.length_drop];omega
   refine w_cn (by rw[e2,e1];simp [Nat.blt];omega) ?_
   refine w_an (by show List.length _≤1000000000000;rw[hlen];decide) (w_lv λx1 h1=> ?_)
   have h1:x1.length=4*(List.take (Int.toNat (IntKind.i64.wrap (IntKind.i64.wrap (f*32)+32))-Int.toNat (IntKind.i64.wrap (f*32))) (List.drop (Int.toNat (IntKind.i64.wrap (f*32))) m)).length:=by rw[h1];exact(Tree.pp (text_w _ (Nat.le_of_eq hlen))).2
   intro _ _
   show x1.length=128
   rw[h1,hlen]
theorem Zil{f:Int}(hf:U f){P:Nat}(hP:P≤32)(h:decide (IntKind.u64.wrap f<IntKind.u64.wrap (P:Int))=true):0≤f∧f<P:=by
 have h:=of_decide_eq_true h
 obtain⟨h1,h2⟩:=hf
 rw[IntKind.wrap_u64,IntKind.wrap_u64,Int.emod_eq_of_lt h1 (by omega),Int.emod_eq_of_lt (by omega) (by omega)]at h
 exact⟨h1,h⟩
theorem Zk4{P:Nat}{m:List Int}(h:Q11 P m){d:Q0c}(hd:Q9e d)(e:Q08):(Q4o d m e).w (λr=>Q9e r.1∧Q11 P r.2.1∧out d.B3 m r.2.1∧(r.2.2=false→r.2.1=m)∧(∀p,Q1k d p=true→Q1k r.1 p=true)):=by
 have hcl:Q02 m=m:=rfl
 have keep: ∀b:Bool,Q9e d∧Q11 P m∧out d.B3 m m∧(b=false→m=m)∧(∀p,Q1k d p=true→Q1k d p=true):=λb=>⟨hd,h,Qoo _ _,λ_=>rfl,λ_ h=>h⟩
 have blk: ∀{p:Int},Q1k d p=true→decide (d.Blocks>64)=false:=fun{p} hm=>by
   cases hb:decide (d.Blocks>64)
   · rfl
   · have:Q1k d p=false:=by simp only[Q1k,Q6o,Tree.m];rw[hb];rfl
     rw[this]at hm;cases hm
 have m2: ∀p,Q1k d p=true→Q1k {Blocks:=d.Blocks,C1:=d.C1,B4:=d.B4,C0:=2,D8:=0,B7:=0,B3:=0,C4:=[]} p=true:=λp hm=>by
   simp only[Q1k,Q6o,Tree.m];rw[blk hm];rfl
 have m3: ∀p,Q1k d p=true→Q1k {Blocks:=d.Blocks,C1:=d.C1,B4:=d.B4,C0:=3,D8:=0,B7:=0,B3:=0,C4:=[]} p=true:=λp hm=>by
   simp only[Q1k,Q6o,Tree.m];rw[blk hm];rfl
 unfold Q4o
 refine w_br (λ_=>w_an (Q9a h) (w_lv λx hx=>by rw[hcl]at hx;subst hx;exact keep _)) λ_=>w_br (λ_=>w_an (Q9a h) (w_lv λx hx=>by rw[hcl]at hx;subst hx;exact keep _)) λ_=>w_br (λ_=>w_an (Q9a h) (w_lv λx hx=>by rw[hcl]at hx;subst hx;exact keep _)) λ_=>w_an (Q9a h) (w_lv λx3 hx3=> ?_)
 rw[hcl]at hx3;subst hx3
 have fin: ∀{m':List Int},Q11 P m'→out d.B3 x3 m'→(Tree.br (e.N==1) (.lf (({Blocks:=d.Blocks,C1:=d.C1,B4:=d.B4,C0:=2,D8:=0,B7:=0,B3:=0,C4:=[]}:Q0c),m',true)) (.lf (({Blocks:=d.Blocks,C1:=d.C1,B4:=d.B4,C0:=3,D8:=0,B7:=0,B3:=0,C4:=[]}:Q0c),m',true))).w (λr=>Q9e r.1∧Q11 P r.2.1∧out d.B3 x3 r.2.1∧(r.2.2=false→r.2.1=x3)∧(∀p,Q1k d p=true→Q1k r.1 p=true)):=λhm ho=>
   w_br (λ_=>⟨⟨hd.block,hd.frame,U_0,U_0⟩,hm,ho,(λh=>by cases h),m2⟩) (λ_=>⟨⟨hd.block,hd.frame,U_0,U_0⟩,hm,ho,(λh=>by cases h),m3⟩)
 have nod:(Tree.br (!decide (e.C6=[])) (.lf (d,x3,false)) (Tree.br (e.N==1) (.lf (({Blocks:=d.Blocks,C1:=d.C1,B4:=d.B4,C0:=2,D8:=0,B7:=0,B3:=0,C4:=[]}:Q0c),x3,true)) (.lf (({Blocks:=d.Blocks,C1:=d.C1,B4:=d.B4,C0:=3,D8:=0,B7:=0,B3:=0,C4:=[]}:Q0c),x3,true)))).w (λr=>Q9e r.1∧Q11 P r.2.1∧out d.B3 x3 r.2.1∧(r.2.2=false→r.2.1=x3)∧(∀p,Q1k d p=true→Q1k r.1 p=true)):=
   w_br (λ_=>keep _) (λ_=>fin h (Qoo _ _))
 refine w_br (λ_=>w_br (λ_=>w_lv λx4 hx4=>w_br (λ_=>keep _) λhb=> ?_) (λ_=>nod)) (λ_=>nod)
 have hp:=Q47 h
 have hb:x4=true:=by simpa using hb
 rw[hb]at hx4
 simp only[Qad,Qdo,Tree.m,letv,hp]at hx4
 obtain⟨f0,f1⟩:=Zil hd.opFrame h.p2 hx4.symm
 have ef:IntKind.i64.wrap d.B3=d.B3:=by have:=h.p2;rw[IntKind.wrap_i64];omega
 refine Q0e (Z0x h _ _) λx5 ⟨h5,o5,k5⟩=> ?_
 rw[ef]at o5
 exact w_br (λhf=>⟨hd,h5,o5,λ_=>k5 (by simpa using hf),λ_ h=>h⟩) (λ_=>fin h5 o5)
theorem receive_w{P:Nat}{m:List Int}(h:Q11 P m){n:Q0o}(hn:Qj4 n)(frame:List UInt8):(Q6y n m frame).w (λr=>Qj4 r.1∧Q11 P r.2.1∧out n.B9 m r.2.1∧(r.2.2=false→r.2.1=m)∧(∀p,Q6l n p=true→Q6l r.1 p=true)):=by
 have hcl:Q02 m=m:=rfl
 have keep:Qj4 n∧Q11 P m∧out n.B9 m m∧(false=false→m=m)∧(∀p,Q6l n p=true→Q6l n p=true):=⟨hn,h,Qoo _ _,λ_=>rfl,λ_ h=>h⟩
 unfold Q6y
 refine w_br (λ_=>w_an (Q9a h) (w_lv λx hx=>by rw[hcl]at hx;subst hx;exact keep)) λhpo=>w_br (λ_=>w_an (Q9a h) (w_lv λx hx=>by rw[hcl]at hx;subst hx;exact keep)) λl1=>w_br (λ_=>w_an (Q9a h) (w_lv λx hx=>by rw[hcl]at hx;subst hx;exact keep)) λl2=>w_lv λx3 hx3=>w_br (λ_=>w_an (Q9a h) (w_lv λx hx=>by rw[hcl]at hx;subst hx;exact keep)) λhb=> ?_
 have l1:=of_decide_eq_false l1
 have l2:=of_decide_eq_false l2
 have hp:=Q47 h
 have hb:x3=true:=by simpa using hb
 rw[hb]at hx3
 simp only[Qay,Qfl,Tree.m,letv,hp]at hx3
 obtain⟨f0,f1⟩:=Zil hn.buffer h.p2 hx3.symm
 have ef:IntKind.i64.wrap n.B9=n.B9:=by have:=h.p2;rw[IntKind.wrap_i64];omega
 refine Q0e (Zfb h _) λx5 h5=> ?_
 rw[ef]at h5
 have h5:=h5 f0 f1
 have hmax:(maxLen:Nat)=9223372036854775807:=rfl
 refine w_cn (decide_eq_true (by omega)) (w_cn (decide_eq_true (by simp only[List.length_take,List.length_drop,hmax];omega)) (Q0e (Z0x h _ _) λx6 ⟨h6,o6,_⟩=> ?_))
 rw[ef]at o6
 have hg:IntKind.u32.wrap (frame.length:Int)=frame.length:=by rw[IntKind.wrap_u32];omega
 refine⟨⟨hn.frame,hn.len,U_0,Q0s _⟩,h6,o6,(λh=>by cases h),λp _=> ?_⟩
 simp only[Q6l,Qkp,Tree.m]
 rw[hg,decide_eq_true (show(frame.length:Int)≥1 by omega),decide_eq_true (show(frame.length:Int)≤128 by omega)]
 rfl
theorem ctype_w(c:Q0b)(b:Int):(Q7g c b).w (λr=>Q2p c=true→Q2p r.1=true):=by
 have hmax:(maxLen:Nat)=9223372036854775807:=rfl
 unfold Q7g
 refine w_br (λ_=>λh=>h) (λhb=> ?_)
 have hb:=of_decide_eq_false hb
 refine w_cn (decide_eq_true (by rw[hmax];omega)) ?_
 intro _
 show decide (((c.D3++[_]).length:Int)≤16)=true
 rw[List.length_append,List.length_singleton]
 exact decide_eq_true (by omega)
theorem fire_may(t:Q0g)(h:Q4y t=true):Q4y (Ql t).1=true:=by
 simp only[Ql,Qo5,Tree.m]
 cases ha:t.D2
 · exact h
 · rfl
theorem dev_eq(m:Q00):Q0y m=(Q2p m.A6&&(Q4y m.B0&&(Q1k m.B1 (Q0w m.Mem)&&(Q6l m.C5 (Q0w m.Mem)&&Q3 m.A2 (Q0w m.Mem))))):=by
 simp only[Q0y,Q1j,Tree.m,letv]
 cases Q2p m.A6<;>cases Q4y m.B0<;>cases Q1k m.B1 (Q0w m.Mem)<;>cases Q6l m.C5 (Q0w m.Mem)<;>rfl
theorem bal_eq{b c:Q06}(h:c.C3=b.C3)(p:Int):Q3 c p=Q3 b p:=by
 simp only[Q3,Q41,Tree.m,h]
theorem cnd{a x y:Bool}(h:x=true→y=true):(bif a then false else x)=true→(bif a then false else y)=true:=by cases a<;>simp_all
def chain(b1 b2 b3 b4 b5 b6 b7 w h dev:Bool):Bool:=bif b1 then false else bif b2 then false else bif b3 then false else bif b4 then false else bif b5 then false else bif b6 then false else bif b7 then false else bif w then(bif h then false else dev) else dev
theorem Zks{b1 b2 b3 b4 b5 b6 b7 w h d d':Bool}(hd:d=true→d'=true):chain b1 b2 b3 b4 b5 b6 b7 w h d=true→chain b1 b2 b3 b4 b5 b6 b7 w h d'=true:=by
 refine cnd (cnd (cnd (cnd (cnd (cnd (cnd ?_))))))
 cases w
 · exact hd
 · cases h
   · exact hd
   · exact λh=>h
def mayC(p:Int)(c:Q04)(ct:Int)(w h dev:Bool):Bool:=chain (p==0) (c.X.a0 !=0) (decide (c.B6.a0>31)) (decide (c.B6.a7>31)) (decide (c.B6.a6>255)) (Int.tmod c.B6.a1 4 !=0) (decide (ct>1152921504606846976)) w h dev
theorem mayC_mono{p:Int}{c:Q04}{ct:Int}{w h d d':Bool}(hd:d=true→d'=true)(g:mayC p c ct w h d=true):mayC p c ct w h d'=true:=Zks hd g
theorem may_eq(m:Q00):Q16 m=mayC (Q0w m.Mem) m.B2 m.A1 m.A7 m.A9 (Q0y m):=rfl
theorem Qsc{m n:Q00}(hp:Q0w n.Mem=Q0w m.Mem)(hcpu:n.B2=m.B2)(hct:n.A1=m.A1)(hw:n.A7=m.A7)(hh:n.A9=m.A9)
   (hc:Q2p m.A6=true→Q2p n.A6=true) (ht:Q4y m.B0=true→Q4y n.B0=true) (hd: ∀p,Q1k m.B1 p=true→Q1k n.B1 p=true) (hn: ∀p,Q6l m.C5 p=true→Q6l n.C5 p=true) (hb:n.A2.C3=m.A2.C3) (h:Q16 m=true):Q16 n=true:=by
 have dev:Q0y m=true→Q0y n=true:=λh=>by
   rw[dev_eq]at h⊢
   simp only[Bool.and_eq_true]at h⊢
   rw[hp,bal_eq hb]
   exact⟨hc h.1,ht h.2.1,hd _ h.2.2.1,hn _ h.2.2.2.1,h.2.2.2.2⟩
 rw[may_eq]at h⊢
 rw[hp,hcpu,hct,hw,hh]
 exact mayC_mono dev h
section
variable {P:Nat} {m:List Int} (h:Q11 P m)
include h
theorem dpage{f:Int}(hf:U f){b:Bool}(hx:b=Qad m f)(hb:b=true):0≤f∧f<P:=by
 have hp:=Q47 h
 rw[hb]at hx
 simp only[Qad,Qdo,Tree.m,letv,hp]at hx
 exact Zil hf h.p2 hx.symm
theorem npage{f:Int}(hf:U f){b:Bool}(hx:b=Qay m f)(hb:b=true):0≤f∧f<P:=by
 have hp:=Q47 h
 rw[hb]at hx
 simp only[Qay,Qfl,Tree.m,letv,hp]at hx
 exact Zil hf h.p2 hx.symm
def keepD(P:Nat)(d d':Q0c):Prop:=Q9e d'∧(Q1k d P=true→Q1k d' P=true)
theorem issue_w{d:Q0c}(hd:Q9e d){cmd:Int}(hc:cmd=1∨cmd=2)(at0:Int):(Q79 d m cmd at0).w (λr=>keepD P d r.1∧r.2.length≤1):=by
 have h2:=h.p2
 have st3:(d.C0 !=0)=false→keepD P d {Blocks:=d.Blocks,C1:=d.C1,B4:=d.B4,C0:=3,D8:=d.D8,B7:=d.B7,B3:=d.B3,C4:=d.C4}:=λhs=>by
   have hs:d.C0=0:=by simpa using hs
   refine⟨⟨hd.block,hd.frame,hd.opBlock,hd.opFrame⟩,λhm=> ?_⟩
   simp only[Q1k,Q6o,Tree.m,hs]at hm⊢
   exact hm
 have blk:Q1k d P=true→decide (d.Blocks>64)=false:=λhm=>by
   cases hb:decide (d.Blocks>64)
   · rfl
   · have:Q1k d P=false:=by simp only[Q1k,Q6o,Tree.m];rw[hb];rfl
     rw[this]at hm;cases hm
 unfold Q79
 refine w_br (λ_=>⟨⟨hd,λh=>h⟩,Nat.zero_le _⟩) λhs=>w_br (λ_=>⟨st3 hs,Nat.zero_le _⟩) λhb=>w_lv λx0 hx=>w_br (λ_=>⟨st3 hs,Nat.zero_le _⟩) λhp=> ?_
 have hb:=of_decide_eq_false hb
 obtain⟨f0,f1⟩:=dpage h hd.frame hx (by simpa using hp)
 have ef:IntKind.i64.wrap d.B4=d.B4:=by rw[IntKind.wrap_i64];omega
 have e1:decide (d.C1<d.Blocks)=true:=decide_eq_true (by omega)
 have e2:decide (IntKind.i64.wrap d.B4<(P:Int))=true:=by rw[ef];exact decide_eq_true f1
 refine w_br (λhcm=>Q0e (Zfb h _) λx1 h1=> ?_) (λhcm=> ?_)
 · rw[ef]at h1
   have h1:=h1 f0 f1
   have hcm:=eq_of_beq hcm
   subst hcm
   refine w_lv λx2 _=>⟨⟨⟨hd.block,hd.frame,hd.block,hd.frame⟩,λhm=> ?_⟩,Nat.le_refl _⟩
   simp only[Q1k,Q6o,Qa7,Q81,Tree.m,letv,blk hm,e1,e2,h1]
   rfl
 · have hc:cmd=1:=by
     rcases hc with h|h
     · exact h
     · rw[h]at hcm;exact absurd hcm (by decide)
   subst hc
   refine w_lv λx2 _=>⟨⟨⟨hd.block,hd.frame,hd.block,hd.frame⟩,λhm=> ?_⟩,Nat.le_refl _⟩
   simp only[Q1k,Q6o,Qa7,Q81,Tree.m,letv,blk hm,e1,e2]
   rfl
theorem diskP_w{d:Q0c}(hd:Q9e d)(port:Int){v:Int}(hv:U v)(at0:Int):(Qas d m port v at0).w (λr=>keepD P d r.1∧r.2.length≤1):=by
 have keep:keepD P d d:=⟨hd,λh=>h⟩
 have e1: ∀{k:Int},(v==k)=true→IntKind.i64.wrap v=k:=λhk=>by
   have:=eq_of_beq hk
   obtain⟨a,b⟩:=hv
   rw[IntKind.wrap_i64];omega
 unfold Qas
 refine w_br (λ_=>⟨⟨⟨hv,hd.frame,hd.opBlock,hd.opFrame⟩,λh=>h⟩,Nat.zero_le _⟩) λ_=>w_br (λ_=>⟨⟨⟨hd.block,hv,hd.opBlock,hd.opFrame⟩,λh=>h⟩,Nat.zero_le _⟩) λ_=>w_br (λ_=>w_br (λhk=>Q0e (issue_w h hd (.inl (e1 hk)) _) λx hx=>hx) λ_=>w_br (λhk=>Q0e (issue_w h hd (.inr (e1 hk)) _) λx hx=>hx) λ_=>w_br (λ_=>w_lv λx hx=>w_br (λhb=> ?_) (λ_=>⟨keep,Nat.zero_le _⟩)) (λ_=>⟨keep,Nat.zero_le _⟩)) (λ_=>⟨keep,Nat.zero_le _⟩)
 refine⟨⟨⟨hd.block,hd.frame,hd.opBlock,hd.opFrame⟩,λhm=> ?_⟩,Nat.zero_le _⟩
 rw[hb]at hx
 simp only[Qaf,Qk1,Tree.m]at hx
 cases h2:d.C0==2
 · rw[h2]at hx
   have h3:d.C0=3:=eq_of_beq hx.symm
   simp only[Q1k,Q6o,Tree.m,h3]at hm⊢
   exact hm
 · have h3:d.C0=2:=eq_of_beq h2
   simp only[Q1k,Q6o,Tree.m,h3]at hm⊢
   exact hm
def keepN(P:Nat)(n n':Q0o):Prop:=Qj4 n'∧(Q6l n P=true→Q6l n' P=true)
theorem send_w{n:Q0o}(hn:Qj4 n)(at0:Int):(Qb4 n m at0).w (λr=>r.length≤1):=by
 have h2:=h.p2
 unfold Qb4
 refine w_br (λ_=>Nat.zero_le _) λl1=>w_br (λ_=>Nat.zero_le _) λl2=>w_lv λx0 hx=>w_br (λ_=>Nat.zero_le _) λhp=>Q0e (Zfb h _) λx1 h1=> ?_
 have l1:=of_decide_eq_false l1
 have l2:=of_decide_eq_false l2
 obtain⟨f0,f1⟩:=npage h hn.frame hx (by simpa using hp)
 have ef:IntKind.i64.wrap n.B4=n.B4:=by rw[IntKind.wrap_i64];omega
 rw[ef]at h1
 have h1:=h1 f0 f1
 exact w_cn (decide_eq_true (by omega)) (Nat.le_refl _)
theorem nicP_w{n:Q0o}(hn:Qj4 n)(port:Int){v:Int}(hv:U v)(at0:Int):(Qdl n m port v at0).w (λr=>keepN P n r.1∧r.2.length≤1):=by
 have h2:=h.p2
 have keep:keepN P n n:=⟨hn,λh=>h⟩
 unfold Qdl
 refine w_br (λ_=>⟨⟨⟨hv,hn.len,hn.buffer,hn.got⟩,λh=>h⟩,Nat.zero_le _⟩) λ_=>w_br (λ_=>⟨⟨⟨hn.frame,hv,hn.buffer,hn.got⟩,λh=>h⟩,Nat.zero_le _⟩) λ_=>w_br (λ_=>w_br (λ_=>Q0e (send_w h hn _) λx hx=>⟨keep,hx⟩) λ_=>w_br (λ_=>w_lv λx hx=>w_br (λhb=>w_br (λnp=>w_br (λnr=> ?_) (λ_=>⟨keep,Nat.zero_le _⟩)) (λ_=>⟨keep,Nat.zero_le _⟩)) (λ_=>⟨keep,Nat.zero_le _⟩)) λ_=>w_br (λ_=> ?_) (λ_=>⟨keep,Nat.zero_le _⟩)) (λ_=>⟨keep,Nat.zero_le _⟩)
 · obtain⟨f0,f1⟩:=npage h hn.frame hx hb
   have np:n.C7=false:=by simpa using np
   have nr:n.B8=false:=by simpa using nr
   have e2:decide (IntKind.i64.wrap n.B4≥(P:Int))=false:=decide_eq_false (by rw[IntKind.wrap_i64];omega)
   refine⟨⟨⟨hn.frame,hn.len,hn.frame,hn.got⟩,λhm=> ?_⟩,Nat.zero_le _⟩
   simp only[Q6l,Qkp,Tree.m,np,nr,e2]at hm⊢
   cases hb:(n.B9 !=0)
   · rw[hb]at hm;exact hm
   · rw[hb]at hm;cases hm
 · refine⟨⟨⟨hn.frame,hn.len,hn.buffer,U_0⟩,λhm=> ?_⟩,Nat.zero_le _⟩
   simp only[Q6l,Qkp,Tree.m]at hm⊢
   revert hm
   cases n.C7<;>cases n.B8<;>cases decide (IntKind.i64.wrap n.B9≥(P:Int))<;>cases(n.B9 !=0)<;>simp
end
theorem arm_may(t:Q0g)(v:Int):Q4y (Qkd t v)=true:=by
 simp only[Qkd,Qld,Q4y,Qlc,Tree.m]
 cases h:(v !=0)
 · have:v=0:=by simpa using h
   subst this;rfl
 · rfl
theorem Qpt{a:Int}(k:Nat)(hk:k≤32):ishr .u32 a k=a/2^k:=by
 unfold ishr
 have e:min (k:Int).toNat IntKind.u32.bits=k:=by show min (k:Int).toNat 32=k;omega
 have hp:(0:Int)<2^k:=Int.pow_pos (by decide)
 rw[e,Int.fdiv_eq_ediv_of_nonneg _ (Int.le_of_lt hp)]
def Zl9(x:Int)(n:Nat):Prop:=x<2^n∧(n=0∨(2:Int)^(n-1)≤x)
theorem Z7i{x q:Int}{n k:Nat}(hq:q=x/2^k)(h0:0<q)(h:Zl9 q n):Zl9 x (n+k):=by
 have hp:(0:Int)<2^k:=Int.pow_pos (by decide)
 obtain⟨h1,h2⟩:=h
 have hn:n≠0:=λe=>by subst e;simp at h1;omega
 refine⟨?_, .inr ?_⟩
 · rw[Int.pow_add]
   have:x<(x/2^k+1)*2^k:=Int.lt_ediv_add_one_mul_self x hp
   have h3:(x/2^k+1)*2^k≤2^n*2^k:=Int.mul_le_mul_of_nonneg_right (by omega) (Int.le_of_lt hp)
   omega
 · have h2:=h2.resolve_left hn
   have e:n+k-1=(n-1)+k:=by omega
   rw[e,Int.pow_add]
   have h3:(2:Int)^(n-1)*2^k≤q*2^k:=Int.mul_le_mul_of_nonneg_right h2 (Int.le_of_lt hp)
   have h4:q*2^k≤x:=by rw[hq];exact Int.ediv_mul_le x (Int.ne_of_gt hp)
   omega
theorem isLen_le{x:Int}{n p:Nat}(h:Zl9 x n)(hx:x<2^p):n≤p:=by
  obtain⟨h1,h2⟩:=h
  rcases h2 with h2|h2
  · omega
  · rcases Nat.lt_or_ge p n with hlt|hge
    · have:(2:Int)^p≤2^(n-1):=by
        have:=Nat.pow_le_pow_right (show 0<2 by omega) (show p≤n-1 by omega)
        exact_mod_cast this
      omega
    · exact hge
theorem Zfm{x:Int}{n p:Nat}(h:Zl9 x n)(hn:n≤p):x<2^p:=by
 have:(2:Int)^n≤2^p:=by
   have:=Nat.pow_le_pow_right (show 0<2 by omega) hn
   exact_mod_cast this
 exact Int.lt_of_lt_of_le h.1 this
def lenChk(i:Nat):Bool:=match(Q1o (i:Int)) with
 | .ofNat n=>decide ((i:Int)<2^n)&&(Nat.beq n 0||decide ((2:Int)^(n-1)≤i))&&decide (n≤8)
 |_=>false
theorem Qs5{q:Int}(h0:0≤q)(h1:q<256): ∃n:Nat,Q1o q=n∧Zl9 q n∧n≤8:=by
 have all:List.all (List.range 256) lenChk=true:=by kernel_rfl
 have:=List.all_eq_true.1 all q.toNat (List.mem_range.2 (by omega))
 have hq:((q.toNat:Nat):Int)=q:=by omega
 unfold lenChk at this
 rw[hq]at this
 split at this
 · rename_i n hn
   simp only[Bool.and_eq_true,Bool.or_eq_true,decide_eq_true_eq]at this
   refine⟨n,hn,⟨this.1.1,?_⟩,this.2⟩
   rcases this.1.2 with h|h
   · exact .inl (Nat.eq_of_beq_eq_true h)
   · exact .inr h
 · cases this
theorem len_24{x:Int}(h:U x)(hx:16777216≤x):Q1o x=24+Q1o (x/16777216):=by
 obtain⟨h0,h1⟩:=h
 have s16:ishr .u32 x 16=x/65536:=Qpt 16 (by omega)
 have s24:ishr .u32 (x/65536) 8=x/16777216:=by rw[show((8:Int))=((8:Nat):Int) from rfl,Qpt 8 (by omega)];omega
 have d1:decide (x≥65536)=true:=decide_eq_true (by omega)
 have d2:decide (x/65536≥256)=true:=decide_eq_true (by omega)
 have d3:decide (x/16777216≥65536)=false:=decide_eq_false (by omega)
 have d4:decide (x/16777216≥256)=false:=decide_eq_false (by omega)
 have u:IntKind.u8.wrap (x/16777216)=x/16777216:=by rw[IntKind.wrap_u8];omega
 simp only[Q1o,Q24,Tree.m,s16,s24,d1,d2,d3,d4,u,cond_true,cond_false]
 generalize(List.getD _ (Int.toNat (x/16777216)) (0:UInt8))=b
 have hb:=UInt8.toNat_lt b
 rw[IntKind.wrap_i64,IntKind.wrap_i64,IntKind.wrap_i64,IntKind.wrap_i64]
 omega
theorem len_16{x:Int}(h0:65536≤x)(h1:x<16777216):Q1o x=16+Q1o (x/65536):=by
 have s16:ishr .u32 x 16=x/65536:=Qpt 16 (by omega)
 have d1:decide (x≥65536)=true:=decide_eq_true (by omega)
 have d2:decide (x/65536≥256)=false:=decide_eq_false (by omega)
 have d3:decide (x/65536≥65536)=false:=decide_eq_false (by omega)
 have u:IntKind.u8.wrap (x/65536)=x/65536:=by rw[IntKind.wrap_u8];omega
 simp only[Q1o,Q24,Tree.m,s16,d1,d2,d3,u,cond_true,cond_false]
 generalize(List.getD _ (Int.toNat (x/65536)) (0:UInt8))=b
 have hb:=UInt8.toNat_lt b
 rw[IntKind.wrap_i64,IntKind.wrap_i64,IntKind.wrap_i64]
 omega
theorem len_8{x:Int}(h0:256≤x)(h1:x<65536):Q1o x=8+Q1o (x/256):=by
 have s8:ishr .u32 x 8=x/256:=Qpt 8 (by omega)
 have d1:decide (x≥65536)=false:=decide_eq_false (by omega)
 have d2:decide (x≥256)=true:=decide_eq_true (by omega)
 have d3:decide (x/256≥65536)=false:=decide_eq_false (by omega)
 have d4:decide (x/256≥256)=false:=decide_eq_false (by omega)
 have u:IntKind.u8.wrap (x/256)=x/256:=by rw[IntKind.wrap_u8];omega
 simp only[Q1o,Q24,Tree.m,s8,d1,d2,d3,d4,u,cond_true,cond_false]
 generalize(List.getD _ (Int.toNat (x/256)) (0:UInt8))=b
 have hb:=UInt8.toNat_lt b
 rw[IntKind.wrap_i64,IntKind.wrap_i64,IntKind.wrap_i64,IntKind.wrap_i64]
 omega
theorem Zk1{x:Int}(h:U x): ∃n:Nat,Q1o x=n∧Zl9 x n:=by
  obtain⟨h0,h1⟩:=h
  rcases Int.lt_or_le x 256 with a|a
  · obtain⟨n,e,l,_⟩:=Qs5 h0 a
    exact⟨n,e,l⟩
  · rcases Int.lt_or_le x 65536 with b|b
    · obtain⟨n,e,l,_⟩:=Qs5 (q:=x/256) (by omega) (by omega)
      exact⟨n+8,by rw[len_8 a b,e];omega,Z7i (k:=8) rfl (by omega) l⟩
    · rcases Int.lt_or_le x 16777216 with c|c
      · obtain⟨n,e,l,_⟩:=Qs5 (q:=x/65536) (by omega) (by omega)
        exact⟨n+16,by rw[len_16 b c,e];omega,Z7i (k:=16) rfl (by omega) l⟩
      · obtain⟨n,e,l,_⟩:=Qs5 (q:=x/16777216) (by omega) (by omega)
        exact⟨n+24,by rw[len_24 ⟨h0,h1⟩ c,e];omega,Z7i (k:=24) rfl (by omega) l⟩
theorem Qym{b:Q06}(h:U b.C3){P:Nat}:Q3 b P=true↔b.C3<2^P:=by
 obtain⟨n,e,l⟩:=Zk1 h
 have hp:(if(0:Int)>(P:Int) then(0:Int) else P)=P:=by rw[if_neg (by omega)]
 simp only[Q3,Q41,Tree.m,letv,e,hp,decide_eq_true_eq]
 constructor
 · intro h;exact Zfm l (by omega)
 · intro h;have:=isLen_le l h;omega
theorem Z8x{a:Int}(h:U a){P:Nat}(h1:a<2^P):(BitVec.ofInt 32 a).toNat<2^P:=by
 obtain⟨a0,a1⟩:=h
 rw[BitVec.toNat_ofInt,Int.emod_eq_of_lt a0 (by omega)]
 have:((2^P:Nat):Int)=(2:Int)^P:=by exact_mod_cast rfl
 omega
theorem or_lt{a b:Int}(ha:U a)(hb:U b){P:Nat}(hP:P≤32)(h1:a<2^P)(h2:b<2^P):ior .u32 a b<2^P:=by
 have e:(BitVec.ofInt 32 a|||BitVec.ofInt 32 b).toNat<2^P:=by
   rw[BitVec.toNat_or]
   exact Nat.or_lt_two_pow (Z8x ha h1) (Z8x hb h2)
 have hc:((2^P:Nat):Int)=(2:Int)^P:=by exact_mod_cast rfl
 have l:=(BitVec.ofInt 32 a|||BitVec.ofInt 32 b).isLt
 show IntKind.wrap .u32 ((BitVec.ofInt 32 a|||BitVec.ofInt 32 b).toNat:Int)<2^P
 rw[IntKind.wrap_u32]
 omega
theorem andn_lt{a b:Int}(ha:U a){P:Nat}(h1:a<2^P):Qgm .u32 a b<2^P:=by
 have e:(BitVec.ofInt 32 a&&&~~~BitVec.ofInt 32 b).toNat<2^P:=by
   rw[BitVec.toNat_and]
   exact Nat.lt_of_le_of_lt Nat.and_le_left (Z8x ha h1)
 have hc:((2^P:Nat):Int)=(2:Int)^P:=by exact_mod_cast rfl
 have l:=(BitVec.ofInt 32 a&&&~~~BitVec.ofInt 32 b).isLt
 show IntKind.wrap .u32 ((BitVec.ofInt 32 a&&&~~~BitVec.ofInt 32 b).toNat:Int)<2^P
 rw[IntKind.wrap_u32]
 omega
theorem shl_one{v:Int}(h0:0≤v)(h1:v<32):ishl .u32 1 v=2^v.toNat:=by
 have e:min v.toNat IntKind.u32.bits=v.toNat:=by show min v.toNat 32=v.toNat;omega
 obtain⟨n,rfl⟩: ∃n:Nat,v=n:=⟨v.toNat,by omega⟩
 have hn:n<32:=by omega
 have hlt:(2:Nat)^n<4294967296:=by
   have:=Nat.pow_lt_pow_right (show 1<2 by omega) hn
   simpa using this
 have hc:((2^n:Nat):Int)=(2:Int)^n:=by exact_mod_cast rfl
 unfold ishl
 rw[e,IntKind.wrap_u32,Int.one_mul,Int.toNat_natCast,←hc]
 clear hc e
 generalize(2:Nat)^n=z at*
 omega
def keepB(P:Nat)(b b':Q06):Prop:=okB b'∧(Q3 b P=true→Q3 b' P=true)
theorem Zji{P:Nat}{m:List Int}(h:Q11 P m){b:Q06}(hb:okB b)(port:Int){v:Int}(hv:U v):(Q2w b m port v).w (λr=>keepB P b r.1∧Q11 P r.2):=by
 have hcl:Q02 m=m:=rfl
 have h2:=h.p2
 have hp:=Q47 h
 have keep:(Tree.an (Q05 m) (.lv (Q02 m) λx=> .lf (b,x))).w (λr=>keepB P b r.1∧Q11 P r.2):=w_an (Q9a h) (w_lv λx hx=>by rw[hcl]at hx;subst hx;exact⟨⟨hb,λh=>h⟩,h⟩)
 unfold Q2w
 refine w_br (λ_=>keep) λhlt=>w_cn (decide_eq_true hv.1) (w_br (λ_=>w_lv λx1 hx=>w_br (λhpg=>w_br (λ_=>w_an ⟨by decide,by decide,by decide⟩ (w_lv λx2 _=>Q0e (Z0x h _ _) λx3 ⟨h3,_⟩=> ?_)) (λ_=>keep)) (λ_=>keep)) (λ_=>w_br (λ_=>w_an (Q9a h) (w_lv λx hx=> ?_)) (λ_=>keep)))
 · have hlt:=of_decide_eq_false hlt
   have hpg:=of_decide_eq_true hpg
   rw[hx,hp]at hpg
   obtain⟨v0,v1⟩:=hv
   have ev:IntKind.i64.wrap v=v:=by rw[IntKind.wrap_i64];omega
   rw[ev]at hpg
   refine⟨⟨⟨hb.1,Q0s _⟩,λhm=> ?_⟩,h3⟩
   rw[Qym hb.2]at hm
   rw[Qym (Q0s _)]
   have hs:ishl .u32 1 v<2^P:=by
     rw[shl_one v0 (by omega)]
     have:=Nat.pow_lt_pow_right (show 1<2 by omega) (show v.toNat<P by omega)
     exact_mod_cast this
   exact or_lt hb.2 (Q0s _) h2 hm hs
 · rw[hcl]at hx;subst hx
   refine⟨⟨⟨hb.1,Q0s _⟩,λhm=> ?_⟩,h⟩
   rw[Qym hb.2]at hm
   rw[Qym (Q0s _)]
   exact andn_lt hb.2 hm
structure kept(P:Nat)(m n:Q00):Prop where
 ok:okS P n
 dev:Q0y m=true→Q0y n=true
 cpu:n.B2=m.B2
 cnt:n.A1=m.A1
 wait:n.A7=m.A7
 halt:n.A9=m.A9
theorem Zcz{P:Nat}{m:Q00}(h:okS P m):kept P m m:=⟨h,λh=>h,rfl,rfl,rfl,rfl⟩
theorem Qoi{P:Nat}{m n:Q00}(hm:Q11 P m.Mem)(hn:Q11 P n.Mem)(hc:Q2p m.A6=true→Q2p n.A6=true)(ht:Q4y m.B0=true→Q4y n.B0=true)
   (hd:Q1k m.B1 P=true→Q1k n.B1 P=true) (hk:Q6l m.C5 P=true→Q6l n.C5 P=true) (hb:Q3 m.A2 P=true→Q3 n.A2 P=true) (h:Q0y m=true):Q0y n=true:=by
 rw[dev_eq]at h⊢
 rw[Q47 hm]at h
 rw[Q47 hn]
 simp only[Bool.and_eq_true]at h⊢
 exact⟨hc h.1,ht h.2.1,hd h.2.2.1,hk h.2.2.2.1,hb h.2.2.2.2⟩
theorem Zh0{P:Nat}{m:Q00}(h:okS P m)(port:Int){v:Int}(hv:U v)(at0:Int):(Q2a m port v at0).w (λr=>kept P m r.1∧r.2.length≤1):=by
 have k:=Zcz h
 obtain⟨h1,h2,h3,h4,h5,h6⟩:=h
 have id: ∀{p:Prop},p→p:=λh=>h
 have D: ∀(x:Q0c×List Q03),(keepD P m.B1 x.1∧x.2.length≤1)→kept P m {B2:=m.B2,Mem:=m.Mem,A6:=m.A6,B0:=m.B0,B1:=x.1,C5:=m.C5,A2:=m.A2,A1:=m.A1,A7:=m.A7,A9:=m.A9}∧x.2.length≤1:=λx hx=>
   ⟨⟨⟨h1,h2,hx.1.1,h4,h5,h6⟩,Qoi h2 h2 id id hx.1.2 id id,rfl,rfl,rfl,rfl⟩,hx.2⟩
 have N: ∀(x:Q0o×List Q03),(keepN P m.C5 x.1∧x.2.length≤1)→kept P m {B2:=m.B2,Mem:=m.Mem,A6:=m.A6,B0:=m.B0,B1:=m.B1,C5:=x.1,A2:=m.A2,A1:=m.A1,A7:=m.A7,A9:=m.A9}∧x.2.length≤1:=λx hx=>
   ⟨⟨⟨h1,h2,h3,hx.1.1,h5,h6⟩,Qoi h2 h2 id id id hx.1.2 id,rfl,rfl,rfl,rfl⟩,hx.2⟩
 have B: ∀(x:Q06×List Int),(keepB P m.A2 x.1∧Q11 P x.2)→kept P m {B2:=m.B2,Mem:=x.2,A6:=m.A6,B0:=m.B0,B1:=m.B1,C5:=m.C5,A2:=x.1,A1:=m.A1,A7:=m.A7,A9:=m.A9}∧([]:List Q03).length≤1:=λx hx=>
   ⟨⟨⟨h1,hx.2,h3,h4,hx.1.1.1,hx.1.1.2⟩,Qoi h2 hx.2 id id id id hx.1.2,rfl,rfl,rfl,rfl⟩,Nat.zero_le _⟩
 unfold Q2a
 repeat'(first
   |exact⟨k,Nat.le_refl _⟩
   |exact⟨k,Nat.zero_le _⟩
   |exact w_lv λx hx=>⟨⟨⟨h1,h2,h3,h4,h5,h6⟩,Qoi h2 h2 id (λ_=>by rw[hx];exact arm_may _ _) id id id,rfl,rfl,rfl,rfl⟩,Nat.zero_le _⟩
   |exact Q0e (diskP_w h2 h3 _ hv _) λx hx=>D x hx
   |exact Q0e (nicP_w h2 h4 _ hv _) λx hx=>N x hx
   |exact Q0e (Zji h2 ⟨h5,h6⟩ _ hv) λx hx=>B x hx
   |refine w_br (λ_=> ?_) (λ_=> ?_))
theorem Z5q(c:Q0b)(port:Int):(Q9t c port).w (λr=>U r.2∧(Q2p c=true→Q2p r.1=true)):=by
 have u1:U 4294967295:=⟨by omega,by omega⟩
 unfold Q9t
 refine w_br (λ_=>w_br (λ_=>⟨u1,λh=>h⟩) (λhb=>w_cn ?_ (w_cn ?_ ⟨Q0s _,λhm=> ?_⟩))) (λ_=>w_br (λ_=>⟨Q0s _,λh=>h⟩) (λ_=>⟨U_0,λh=>h⟩))
 · have hb:=of_decide_eq_false hb
   have:0<c.D3.length:=List.length_pos_iff.2 hb
   simp [Nat.blt];omega
 · have hb:=of_decide_eq_false hb
   have:0<c.D3.length:=List.length_pos_iff.2 hb
   exact decide_eq_true (by omega)
 · have hm:decide ((c.D3.length:Int)≤16)=true:=hm
   have hm:=of_decide_eq_true hm
   show decide (((List.take _ (List.drop _ c.D3)).length:Int)≤16)=true
   refine decide_eq_true ?_
   rw[List.length_take,List.length_drop];omega
theorem Zky{P:Nat}{m:Q00}(h:okS P m)(port:Int){clock:Int}(hc:U clock):(Q26 m port clock).w (λr=>kept P m r.1∧U r.2):=by
 have k:=Zcz h
 obtain⟨h1,h2,h3,h4,h5,h6⟩:=h
 have id: ∀{p:Prop},p→p:=λh=>h
 have ti: ∀t,U (Qyc t):=λt=>by
   refine Tree.post (Qos t) (W:=U) ?_
   unfold Qos
   exact w_br (λ_=>⟨by omega,by omega⟩) (λ_=>U_0)
 have di: ∀p,U (Qv1 m.B1 p):=λp=>by
   refine Tree.post (Qsy m.B1 p) (W:=U) ?_
   unfold Qsy
   exact w_br (λ_=>h3.block) (λ_=>w_br (λ_=>h3.frame) (λ_=>w_br (λ_=>Q0s _) (λ_=>U_0)))
 have ni: ∀p,U (Qyw m.C5 p):=λp=>by
   refine Tree.post (Qsv m.C5 p) (W:=U) ?_
   unfold Qsv
   exact w_br (λ_=>h4.frame) (λ_=>w_br (λ_=>h4.got) (λ_=>w_br (λ_=>w_br (λ_=>w_br (λ_=>Q0s _) (λ_=>Q0s _)) (λ_=>w_br (λ_=>Q0s _) (λ_=>U_0))) (λ_=>U_0)))
 have bi: ∀p,(Q72 m.A2 p).w U:=λp=>by
   unfold Q72
   exact w_br (λ_=>h5) (λ_=>w_br (λ_=>Q0e (Zi3 h6) λ_ _=>Q0s _) (λ_=>U_0))
 have C: ∀(x:Q0b×Int),(U x.2∧(Q2p m.A6=true→Q2p x.1=true))→kept P m {B2:=m.B2,Mem:=m.Mem,A6:=x.1,B0:=m.B0,B1:=m.B1,C5:=m.C5,A2:=m.A2,A1:=m.A1,A7:=m.A7,A9:=m.A9}∧U x.2:=λx hx=>
   ⟨⟨⟨h1,h2,h3,h4,h5,h6⟩,Qoi h2 h2 hx.2 id id id id,rfl,rfl,rfl,rfl⟩,hx.1⟩
 unfold Q26
 repeat'(first
   |exact⟨k,hc⟩
   |exact⟨k,U_0⟩
   |exact Q0e (Z5q _ _) λx hx=>C x hx
   |exact Zj3 (Z5q _ _) λx hx=>C x hx
   |exact w_lv λx hx=>⟨k,by rw[hx];exact ti _⟩
   |exact w_lv λx hx=>⟨k,by rw[hx];exact di _⟩
   |exact w_lv λx hx=>⟨k,by rw[hx];exact ni _⟩
   |exact Q0e (bi _) λx hx=>⟨k,hx⟩
   |refine w_br (λ_=> ?_) (λ_=> ?_))
structure Q6k(c:Q04):Prop where
 x0:c.X.a0=0
 st:c.B6.a0≤31
 en:c.B6.a7≤31
 rt:c.B6.a6≤255
 ve:Int.tmod c.B6.a1 4=0
theorem Q6k.pc{c:Q04}(h:Q6k c)(p:Int):Q6k {X:=c.X,Pc:=p,B6:=c.B6}:=⟨h.x0,h.st,h.en,h.rt,h.ve⟩
theorem and31(a:Int):iand .u32 a 31≤31:=by
 have e:(BitVec.ofInt 32 a&&&BitVec.ofInt 32 31).toNat≤31:=by
   rw[BitVec.toNat_and]
   exact Nat.le_trans Nat.and_le_right (by decide)
 show IntKind.wrap .u32 ((BitVec.ofInt 32 a&&&BitVec.ofInt 32 31).toNat:Int)≤31
 rw[IntKind.wrap_u32];omega
theorem and255'(a:Int):iand .u32 a 255≤255:=by have:=and255 a;omega
theorem andn3(a:Int):Int.tmod (Qgm .u32 a 3) 4=0:=by
 have e:(BitVec.ofInt 32 a&&&~~~BitVec.ofInt 32 3).toNat%4=0:=by
   rw[BitVec.toNat_and,show(~~~BitVec.ofInt 32 3).toNat=4294967292 by decide]
   have:=Nat.and_mod_two_pow (a:=(BitVec.ofInt 32 a).toNat) (b:=4294967292) (n:=2)
   simpa using this
 have l:=(BitVec.ofInt 32 a&&&~~~BitVec.ofInt 32 3).isLt
 show Int.tmod (IntKind.wrap .u32 ((BitVec.ofInt 32 a&&&~~~BitVec.ofInt 32 3).toNat:Int)) 4=0
 rw[IntKind.wrap_u32,Int.tmod_eq_emod_of_nonneg (by omega)]
 omega
theorem fin32{f:Int→Int}(h:(List.range 32).all (λn=>decide (f n≤31))=true){s:Int}(h0:0≤s)(h1:s≤31):f s≤31:=by
 have:=List.all_eq_true.1 h s.toNat (List.mem_range.2 (by omega))
 have e:((s.toNat:Nat):Int)=s:=by omega
 rw[e]at this
 exact of_decide_eq_true this
theorem Ql4{c:Q04}(h:Q2z c)(m:Q6k c)(k b:Int):Q6k (Q5 c k b):=
 ⟨m.x0,fin32 (f:=λs=>Qgm .u32 (ior .u32 (Q9f (Q9f s 1 8) 2 16) 1) 2) (by kernel_rfl) h.a0.1 m.st,m.en,m.rt,m.ve⟩
theorem Zk3{c:Q04}(h:Q2z c)(m:Q6k c):Q6k (Qei c):=
 ⟨m.x0,fin32 (f:=λs=>Q9f (Q9f s 8 1) 16 2) (by kernel_rfl) h.a0.1 m.st,m.en,m.rt,m.ve⟩
theorem Qun{c:Q04}(m:Q6k c){r:Int}(hr:0≤r∧r<16)(v:Int):(Q8z c r v).w Q6k:=by
 unfold Q8z
 refine w_br (λhn=>w_cn (rc hr) ?_) (λ_=>m)
 have hn:r≠0:=by simpa using hn
 obtain⟨n,e⟩: ∃n:Nat,r.toNat=n+1:=⟨r.toNat-1,by omega⟩
 refine⟨?_,m.st,m.en,m.rt,m.ve⟩
 show(A16.of 0 (List.set (A16.l c.X) r.toNat v)).a0=0
 rw[e]
 exact m.x0
theorem write_may{c:Q04}(m:Q6k c)(k v:Int):(Q7f c k v).w Q6k:=by
 unfold Q7f
 refine w_br (λhk=>w_cn (by rw[eq_of_beq hk];decide) ?_) λ_=>w_br (λhk=>w_cn (by rw[eq_of_beq hk];decide) ?_) λ_=>w_br (λhk=>w_cn (by rw[eq_of_beq hk];decide) ?_) λ_=>w_br (λhk=>w_cn (by rw[eq_of_beq hk];decide) ?_) λ_=>w_br (λhk=>w_cn (by rw[eq_of_beq hk];decide) ?_) λ_=>w_br (λhk=>w_cn (by rw[eq_of_beq hk];decide) ?_) λ_=>w_br (λhk=>w_cn (by rw[eq_of_beq hk];decide) ?_) λ_=>w_br (λhk=>w_cn (by rw[eq_of_beq hk];decide) ?_) (λ_=>m)
 all_goals(have hk:=eq_of_beq hk;subst hk)
 · exact⟨m.x0,and31 _,m.en,m.rt,m.ve⟩
 · exact⟨m.x0,m.st,and31 _,m.rt,m.ve⟩
 · exact⟨m.x0,m.st,m.en,and255' _,m.ve⟩
 · exact⟨m.x0,m.st,m.en,m.rt,andn3 _⟩
 · exact⟨m.x0,m.st,m.en,m.rt,m.ve⟩
 · exact⟨m.x0,m.st,m.en,m.rt,m.ve⟩
 · exact⟨m.x0,m.st,m.en,m.rt,m.ve⟩
 · exact⟨m.x0,m.st,m.en,m.rt,m.ve⟩
section
variable {c:Q04} (h:Q2z c) (m:Q6k c) {i:Q0i} (hi:Qez i)
include h m hi
theorem Zf9:(Q3d c i).w (λr=>Q6k r.1):=by
 unfold Q3d
 refine w_cn (rc hi.a) (w_cn (rc hi.b) ?_)
 repeat'(first
   |refine w_br (λ_=> ?_) (λ_=> ?_)
   |exact Q0e (Qun m hi.a _) λx hx=>hx.pc _
   |exact w_lv λx _=>w_br (λ_=>m.pc _) (λ_=>m.pc _)
   |exact w_lv λx hx=>by rw[hx];exact Ql4 h m _ _
   |exact w_lv λx hx=>by rw[hx];exact Zk3 h m
   |exact w_cn (by have:=hi.csr (by simp_all);simp [Nat.blt];omega) (Q0e (Qun m hi.a _) λx hx=>hx.pc _)
   |exact Q0e (write_may m _ _) λx hx=>hx.pc _
   |refine w_cn (rc hi.c) ?_
   |exact Q0e (Z5m _ (h.r _) (Q0s _)) λy hy=>Q0e (Qun m hi.a _) λx hx=>hx.pc _
   |exact Q0e (Z5m _ (h.r _) (h.r _)) λy hy=>Q0e (Qun m hi.a _) λx hx=>hx.pc _
   |refine w_lf ?_)
 all_goals exact m.pc _
theorem load_may{P:Nat}{mem:List Int}(hm:Q11 P mem):(Q93 c mem i).w (λr=>Q6k r.1):=by
 have w:=Z94 i.Op
 unfold Q93
 refine w_cn (rc hi.b) (w_lv λx0 h0=> ?_)
 rw[←h0]at w
 refine Q0e (Qkm hm (Q0s _) w 2) λx1 h1=>w_br (λ_=>w_lv λy hy=>by rw[hy];exact Ql4 h m _ _) (λ_=>w_lv λx3 h3=> ?_)
 rw[h0,←h3]at w
 exact Q0e (Qqu h1.2 h1.1 w) λx4 h4=>w_br (λ_=>Q0e (Qvc h4.1 8) λy hy=>Q0e (Qun m hi.a _) λx hx=>hx.pc _) (λ_=>Q0e (Qun m hi.a _) λx hx=>hx.pc _)
theorem store_may{P:Nat}{mem:List Int}(hm:Q11 P mem):(Q7e c mem i).w (λr=>Q6k r.1):=by
 have w:=Z94 i.Op
 unfold Q7e
 refine w_cn (rc hi.b) (w_lv λx0 h0=> ?_)
 rw[←h0]at w
 refine Q0e (Qkm hm (Q0s _) w 3) λx1 h1=>w_br (λ_=>w_lv λy hy=>by rw[hy];exact Ql4 h m _ _) (λ_=>w_lv λx3 h3=>w_cn (rc hi.a) ?_)
 rw[h0,←h3]at w
 exact Q0e (Qy7 h1.2 h1.1 w (h.r _)) λx hx=>m.pc _
end
theorem exec_may{c:Q04}(h:Q2z c)(m:Q6k c){P:Nat}{mem:List Int}(hm:Q11 P mem):(Q6m c mem).w (λr=>Q6k r.1):=by
 unfold Q6m
 refine Q0e (Z6l hm h) λx0 h0=>w_br (λ_=>w_lv λy hy=>by rw[hy];exact Ql4 h m _ _) (λ_=>Q0e (Z1u _) λx2 h2=>w_br (λ_=>w_lv λy hy=>by rw[hy];exact Ql4 h m _ _) (λhb=> ?_))
 have hi:=h2 (by simpa using hb)
 refine w_lv λx4 _=> ?_
 repeat'(first
   |refine w_br (λ_=> ?_) (λ_=> ?_)
   |exact Q0e (load_may h m hi h0.2) λx hx=>hx
   |exact Q0e (store_may h m hi h0.2) λx hx=>hx
   |exact Q0e (Zf9 h m hi) λx hx=>hx
   |exact w_lv λy hy=>by rw[hy];exact Ql4 h m _ _
   |refine w_lv λ_ _=> ?_)
theorem Zeu{c:Q04}(h:Q2z c){i:Q0i}(hi:Qez i):(Q3d c i).w (λr=>0≤r.2.D9∧r.2.D9<16):=by
 have z:(0:Int)≤0∧(0:Int)<16:=⟨by decide,by decide⟩
 unfold Q3d
 refine w_cn (rc hi.a) (w_cn (rc hi.b) ?_)
 repeat'(first
   |refine w_br (λ_=> ?_) (λ_=> ?_)
   |exact Q0e (Qpn h hi.a (Q0s _)) λx hx=>z
   |exact w_lv λx _=>w_br (λ_=>z) (λ_=>z)
   |exact w_lv λx hx=>z
   |exact w_cn (by have:=hi.csr (by simp_all);simp [Nat.blt];omega) (Q0e (Qpn h hi.a (h.a _)) λx hx=>z)
   |exact Q0e (Zj8 h _ (h.r _)) λx hx=>z
   |refine w_cn (rc hi.c) ?_
   |exact Q0e (Z5m _ (h.r _) (Q0s _)) λy hy=>Q0e (Qpn h hi.a hy) λx hx=>z
   |exact Q0e (Z5m _ (h.r _) (h.r _)) λy hy=>Q0e (Qpn h hi.a hy) λx hx=>z
   |refine w_lf ?_)
 all_goals first|exact z|exact hi.a
theorem Zhg{c:Q04}(h:Q2z c){P:Nat}{mem:List Int}(hm:Q11 P mem):(Q6m c mem).w (λr=>0≤r.2.2.D9∧r.2.2.D9<16):=by
 have z:(0:Int)≤0∧(0:Int)<16:=⟨by decide,by decide⟩
 unfold Q6m
 refine Q0e (Z6l hm h) λx0 h0=>w_br (λ_=>w_lv λy hy=>z) (λ_=>Q0e (Z1u _) λx2 h2=>w_br (λ_=>w_lv λy hy=>z) (λhb=> ?_))
 have hi:=h2 (by simpa using hb)
 refine w_lv λx4 _=> ?_
 repeat'(first
   |refine w_br (λ_=> ?_) (λ_=> ?_)
   |exact Q0e (Qzc h hi h0.2) λx hx=>z
   |exact Q0e (Qvz h hi h0.2) λx hx=>z
   |exact Q0e (Zeu h hi) λx hx=>hx
   |exact w_lv λy hy=>z
   |refine w_lv λ_ _=> ?_)
theorem cnd2{a x:Bool}:(bif a then false else x)=true↔a=false∧x=true:=by cases a<;>simp
theorem Qju(m:Q00):Q16 m=true↔Q0w m.Mem≠0∧Q6k m.B2∧m.A1≤1152921504606846976∧ ¬(m.A7=true∧m.A9=true)∧Q0y m=true:=by
  rw[may_eq]
  unfold mayC chain
  rw[cnd2,cnd2,cnd2,cnd2,cnd2,cnd2,cnd2]
  simp only[decide_eq_false_iff_not,Int.not_lt,beq_eq_false_iff_ne,bne_eq_false_iff_eq,gt_iff_lt]
  constructor
  · rintro⟨a1,a2,a3,a4,a5,a6,a7,a8⟩
    refine⟨a1,⟨a2,a3,a4,a5,a6⟩,a7,?_,?_⟩
    · rintro⟨w,h⟩;rw[w,h]at a8;cases a8
    · revert a8;cases m.A7
      · exact λh=>h
      · cases m.A9
        · exact λh=>h
        · intro h;cases h
  · rintro⟨a1,⟨a2,a3,a4,a5,a6⟩,a7,a8,a9⟩
    refine⟨a1,a2,a3,a4,a5,a6,a7,?_⟩
    rw[a9]
    cases hw:m.A7
    · rfl
    · cases hh:m.A9
      · rfl
      · exact absurd ⟨hw,hh⟩ a8
theorem Qy6{m:Q00}(h:Q2m m=true):Q16 m=true∧m.A9=false∧m.A1<1152921504606846976:=by
  simp only[Q2m,Q3q,Tree.m,letv]at h
  cases h1:Q16 m
  · rw[h1]at h;cases h
  · cases h2:m.A9
    · rw[h1,h2]at h
      cases h3:Q35 m
      · rw[h3]at h
        have h:decide (m.A1<1152921504606846976)=true:=h
        exact⟨rfl,rfl,of_decide_eq_true h⟩
      · rw[h3]at h;cases h
    · rw[h1,h2]at h;cases h
theorem Qsa{P:Nat}{m:Q00}(h:okS P m)(g:Q6k m.B2):(Q2r m).w (λr=>Q6k r.B2∧okS P r∧r.Mem=m.Mem∧r.A7=false∧r.A9=m.A9∧r.A1=m.A1∧r.A6=m.A6∧r.B0=m.B0∧r.B1=m.B1∧r.C5=m.C5∧r.A2=m.A2):=by
 obtain⟨h1,h2,h3,h4,h5,h6⟩:=h
 unfold Q2r
 refine w_br (λ_=>⟨g,⟨h1,h2,h3,h4,h5,h6⟩,rfl,rfl,rfl,rfl,rfl,rfl,rfl,rfl,rfl⟩) (λ_=>Q0e (Quk (m:=⟨_,_,_,_,_,_,m.A2,_,_,_⟩) h6) λx0 _=>w_lp (inv:=λz=>0≤z∧z≤5) (μ:=Qc3 m) ⟨by omega,by omega⟩ (Nat.lt_succ_self _) (λz hz=> ?_))
 obtain⟨z1,z2⟩:=hz
 refine w_br (λhb=>w_cn (decide_eq_true z1) (w_br (λ_=>w_lv λx1 hx=>⟨by rw[hx];exact Ql4 h1 g _ _,⟨by rw[hx];exact Qmv h1 _ U_0,h2,h3,h4,h5,h6⟩,rfl,rfl,rfl,rfl,rfl,rfl,rfl,rfl,rfl⟩) (λ_=>w_nx ?_))) (λ_=>⟨g,⟨h1,h2,h3,h4,h5,h6⟩,rfl,rfl,rfl,rfl,rfl,rfl,rfl,rfl,rfl⟩)
 have hb:=of_decide_eq_true hb
 show(0≤IntKind.i64.wrap (z+1)∧IntKind.i64.wrap (z+1)≤5)∧(5-IntKind.i64.wrap (z+1)).toNat<(5-z).toNat
 have ew:IntKind.i64.wrap (z+1)=z+1:=by rw[IntKind.wrap_i64];omega
 rw[ew];omega
structure Good(P:Nat)(m r:Q00):Prop where
 ok:okS P r
 cnt:0≤r.A1
 may:Q16 m=true→Q16 r=true
 or:r=m∨r.A1=m.A1+1
theorem Z2a(m:Q00){port:Int}(hp:(port==2)=false)(a b:Int):Q12 m port a=Q12 m port b:=by
 simp only[Q12,Q26,Tree.m,hp,cond_false]
theorem Zlo{m:Q00}(h:Q1u m=false)(a b:Int):Q1t m a=Q1t m b:=by
 have hcl:Q02 m.Mem=m.Mem:=rfl
 have e:(⟨m.B2,m.Mem,m.A6,m.B0,m.B1,m.C5,m.A2,m.A1,m.A7,m.A9⟩:Q00)=m:=rfl
 simp only[Q1u,Q21,Tree.m,letv]at h
 simp only[Q1t,Q2t,Tree.m,letv,hcl,e]
 cases hr:Q2m m
 · rfl
 · rw[hr]at h
   have h:(bif(Q5p (Q0r m).B2 (Q0r m).Mem).2.2.B5==1 then(Q5p (Q0r m).B2 (Q0r m).Mem).2.2.D1==2 else false)=false:=h
   cases hk:(Q5p (Q0r m).B2 (Q0r m).Mem).2.2.B5==1
   · rfl
   · rw[hk]at h
     have hp:((Q5p (Q0r m).B2 (Q0r m).Mem).2.2.D1==2)=false:=h
     rw[Z2a _ hp a b]
theorem step_w0{P:Nat}{m:Q00}(h:okS P m)(hc0:0≤m.A1){clock:Int}(hk:U clock):(Q2t m clock).w (λr=>r.2.length≤1∧Good P m r.1):=by
 have hcl:Q02 m.Mem=m.Mem:=rfl
 unfold Q2t
 refine w_an (Q9a h.mem) (w_lv λl hl=> ?_)
 rw[hcl]at hl;subst hl
 refine w_an (Tree.pp (Zg0 (m:=⟨_,_,_,_,_,_,m.A2,_,_,_⟩) h.given)).1 (w_lv λx1 hx1=>w_br (λ_=>⟨Nat.zero_le _,h,hc0,λh=>h, .inl rfl⟩) (λhb=> ?_))
 have hr:Q2m m=true:=by rw[←show x1=Q2m m from hx1];simpa using hb
 obtain⟨hm,hh,hct⟩:=Qy6 hr
 obtain⟨g1,g2,g3,g4,g5⟩:=(Qju m).1 hm
 have hP:(P:Int)≠0:=by rw[←Q47 h.mem];exact g1
 have fin: ∀(n:Q00),okS P n→Q6k n.B2→Q0y n=true→n.A1=m.A1→ ¬(n.A7=true∧n.A9=true)→Good P m {B2:=n.B2,Mem:=n.Mem,A6:=n.A6,B0:=n.B0,B1:=n.B1,C5:=n.C5,A2:=n.A2,A1:=IntKind.wrap .u64 (n.A1+1),A7:=n.A7,A9:=n.A9}:=λn a b c d e=>by
   have ec:IntKind.wrap .u64 (n.A1+1)=m.A1+1:=by rw[d,IntKind.wrap_u64];omega
   refine⟨⟨a.cpu,a.mem,a.disk,a.nic,a.target,a.given⟩,?_,λ_=>(Qju _).2 ⟨?_,b,?_,e,c⟩, .inr ec⟩
   · show 0≤IntKind.wrap .u64 (n.A1+1);omega
   · show Q0w n.Mem≠0;rw[Q47 a.mem];exact hP
   · show IntKind.wrap .u64 (n.A1+1)≤_;omega
 refine Q0e (Qsa (m:=⟨_,_,m.A6,m.B0,m.B1,m.C5,m.A2,m.A1,m.A7,m.A9⟩) ⟨h.cpu,h.mem,h.disk,h.nic,h.target,h.given⟩ g2) λx2 hx2=> ?_
 obtain⟨b1,b2,b3,b4,b5,b6,b7,b8,b9,b10,b11⟩:=hx2
 have ex:=Tree.pp (execP_w b2.cpu b2.mem)
 have em:=Tree.pp (exec_may b2.cpu b1 b2.mem)
 have er:=Tree.pp (Zhg b2.cpu b2.mem)
 refine w_an ex.1 (w_lv λx3 h3=> ?_)
 obtain⟨e1,e2,e3⟩:Q2z x3.1∧Q11 P x3.2.1∧U x3.2.2.Value:=by rw[h3];exact ex.2
 have f1:Q6k x3.1:=by rw[h3];exact em.2
 have r1:0≤x3.2.2.D9∧x3.2.2.D9<16:=by rw[h3];exact er.2
 have ok3:okS P ⟨x3.1,x3.2.1,x2.A6,x2.B0,x2.B1,x2.C5,x2.A2,x2.A1,x2.A7,x2.A9⟩:=⟨e1,e2,b2.disk,b2.nic,b2.target,b2.given⟩
 have dev: ∀(w h:Bool),Q0y ⟨x3.1,x3.2.1,x2.A6,x2.B0,x2.B1,x2.C5,x2.A2,x2.A1,w,h⟩=true:=λw hh=>by
   have id: ∀{p:Prop},p→p:=λh=>h
   refine Qoi (m:=m) (P:=P) h.mem e2 ?_ ?_ ?_ ?_ ?_ g5
   · show _→Q2p x2.A6=true;rw[b7];exact id
   · show _→Q4y x2.B0=true;rw[b8];exact id
   · show _→Q1k x2.B1 P=true;rw[b9];exact id
   · show _→Q6l x2.C5 P=true;rw[b10];exact id
   · show _→Q3 x2.A2 P=true;rw[b11];exact id
 have hw:x2.A7=false:=b4
 have hh2:x2.A9=false:=b5.trans hh
 have hct2:x2.A1=m.A1:=b6
 refine w_br (λ_=> ?_) λ_=>w_br (λ_=> ?_) λ_=>w_br (λ_=> ?_) λ_=>w_br (λ_=> ?_) λ_=> ?_
 · refine Q0e (Zky ok3 _ hk) λx4 h4=> ?_
   obtain⟨k,u⟩:=h4
   have kc:x4.1.B2=x3.1:=k.cpu
   have kt:x4.1.A1=m.A1:=k.cnt.trans hct2
   have kw: ¬(x4.1.A7=true∧x4.1.A9=true):=λe=>by have:x4.1.A7=x2.A7:=k.wait;rw[this,hw]at e;cases e.1
   have km:Q6k x4.1.B2:=by rw[kc];exact f1
   refine w_br (λhn=>w_cn (rc r1) ⟨Nat.zero_le _,?_⟩) (λ_=>⟨Nat.zero_le _,fin x4.1 k.ok km (k.dev (dev _ _)) kt kw⟩)
   have hn:x3.2.2.D9≠0:=by simpa using hn
   obtain⟨q,e⟩: ∃q:Nat,x3.2.2.D9.toNat=q+1:=⟨x3.2.2.D9.toNat-1,by omega⟩
   refine fin ⟨⟨A16.of 0 (List.set (A16.l x4.1.B2.X) x3.2.2.D9.toNat x4.2),x4.1.B2.Pc,x4.1.B2.B6⟩,x4.1.Mem,x4.1.A6,x4.1.B0,x4.1.B1,x4.1.C5,x4.1.A2,x4.1.A1,x4.1.A7,x4.1.A9⟩ ⟨⟨Zed k.ok.cpu.x u _,k.ok.cpu.pc,k.ok.cpu.csr⟩,k.ok.mem,k.ok.disk,k.ok.nic,k.ok.target,k.ok.given⟩ ⟨?_,km.st,km.en,km.rt,km.ve⟩ (k.dev (dev _ _)) kt kw
   show(A16.of 0 (List.set (A16.l x4.1.B2.X) x3.2.2.D9.toNat x4.2)).a0=0
   rw[e]
   exact km.x0
 · refine Q0e (Zh0 ok3 _ e3 _) λx5 h5=> ?_
   obtain⟨k,u⟩:=h5
   have kc:x5.1.B2=x3.1:=k.cpu
   exact⟨u,fin x5.1 k.ok (by rw[kc];exact f1) (k.dev (dev _ _)) (k.cnt.trans hct2) (λe=>by have:x5.1.A7=x2.A7:=k.wait;rw[this,hw]at e;cases e.1)⟩
 · exact⟨Nat.zero_le _,fin ⟨x3.1,x3.2.1,x2.A6,x2.B0,x2.B1,x2.C5,x2.A2,x2.A1,true,x2.A9⟩ ⟨e1,e2,b2.disk,b2.nic,b2.target,b2.given⟩ f1 (dev _ _) hct2 (λe=>by have e2:x2.A9=true:=e.2;rw[hh2]at e2;cases e2)⟩
 · exact⟨Nat.zero_le _,fin ⟨x3.1,x3.2.1,x2.A6,x2.B0,x2.B1,x2.C5,x2.A2,x2.A1,x2.A7,true⟩ ⟨e1,e2,b2.disk,b2.nic,b2.target,b2.given⟩ f1 (dev _ _) hct2 (λe=>by have e2:x2.A7=true:=e.1;rw[hw]at e2;cases e2)⟩
 · exact⟨Nat.zero_le _,fin ⟨x3.1,x3.2.1,x2.A6,x2.B0,x2.B1,x2.C5,x2.A2,x2.A1,x2.A7,x2.A9⟩ ok3 f1 (dev _ _) hct2 (λe=>by have e2:x2.A7=true:=e.1;rw[hw]at e2;cases e2)⟩
theorem Zis{P:Nat}{m:Q00}(h:okM P m){e:Q08}(he:U e.N):(Q39 m e).w (λr=>(Q16 m=true→Q16 r.1=true)∧r.1.A1=m.A1∧U r.1.A2.C3):=by
 obtain⟨h1,h2,h3,h4,h5,h7⟩:=h
 have hcl:Q02 m.Mem=m.Mem:=rfl
 have pg: ∀{m':List Int},Q11 P m'→Q0w m'=Q0w m.Mem:=λh=>by rw[Q47 h,Q47 h2]
 have keep:(Q16 m=true→Q16 m=true)∧m.A1=m.A1∧U m.A2.C3:=⟨λh=>h,rfl,h5.2⟩
 unfold Q39
 refine w_an (Q9a h2) (w_lv λl hl=> ?_)
 rw[hcl]at hl;subst hl
 refine Q0e (Za6 (m:=⟨_,_,_,_,_,_,m.A2,_,_,_⟩) h5.2) λx1 _=>w_br (λ_=>keep) λ_=>w_br (λ_=>keep) λ_=> ?_
 refine w_br (λ_=>w_br (λ_=>w_br (λ_=>w_lv λx hx=> ?_) (λ_=>keep)) (λ_=>keep)) λ_=>w_br (λ_=>w_br (λ_=>w_br (λ_=>Q0e (ctype_w _ _) λx hx=> ?_) (λ_=>keep)) (λ_=>keep)) λ_=>w_br (λhk=>Q0e (Zk4 h2 h3 e) λx hx=> ?_) λ_=>w_br (λhk=>w_br (λ_=>Q0e (receive_w h2 h4 _) λx hx=> ?_) (λ_=>keep)) λ_=>w_br (λ_=>w_br (λ_=> ?_) (λ_=>keep)) (λ_=>keep)
 · exact⟨Qsc rfl rfl rfl rfl rfl (λh=>h) (λh=>by rw[hx];exact fire_may _ h) (λ_ h=>h) (λ_ h=>h) rfl,rfl,h5.2⟩
 · exact⟨Qsc rfl rfl rfl rfl rfl hx (λh=>h) (λ_ h=>h) (λ_ h=>h) rfl,rfl,h5.2⟩
 · obtain⟨a1,a2,a3,a4,a5⟩:=hx
   exact⟨Qsc (pg a2) rfl rfl rfl rfl (λh=>h) (λh=>h) a5 (λ_ h=>h) rfl,rfl,h5.2⟩
 · obtain⟨a1,a2,a3,a4,a5⟩:=hx
   exact⟨Qsc (pg a2) rfl rfl rfl rfl (λh=>h) (λh=>h) (λ_ h=>h) a5 rfl,rfl,h5.2⟩
 · exact⟨Qsc rfl rfl rfl rfl rfl (λh=>h) (λh=>h) (λ_ h=>h) (λ_ h=>h) rfl,rfl,h5.2⟩
structure okW(m:Q00):Prop where
 cpu:Q2z m.B2
 u: ∀w∈m.Mem,U w
 len:m.Mem.length≤1024
 disk:Q9e m.B1
 nic:Qj4 m.C5
 bal:okB m.A2
 cnt:0≤m.A1
theorem Qv6{a:Int}(h:U a):(BitVec.ofInt 32 a).toNat=a.toNat:=by
 obtain⟨h1,h2⟩:=h
 rw[BitVec.toNat_ofInt];omega
theorem Zh7{a b:Int}(ha:U a)(hb:U b):iand .u32 a b=((a.toNat&&&b.toNat:Nat):Int):=by
 have l:=(BitVec.ofInt 32 a&&&BitVec.ofInt 32 b).isLt
 have e:(BitVec.ofInt 32 a&&&BitVec.ofInt 32 b).toNat=a.toNat&&&b.toNat:=by rw[BitVec.toNat_and,Qv6 ha,Qv6 hb]
 show IntKind.wrap .u32 ((BitVec.ofInt 32 a&&&BitVec.ofInt 32 b).toNat:Int)=_
 rw[IntKind.wrap_u32,←e];omega
theorem or_nat{a b:Int}(ha:U a)(hb:U b):ior .u32 a b=((a.toNat|||b.toNat:Nat):Int):=by
 have l:=(BitVec.ofInt 32 a|||BitVec.ofInt 32 b).isLt
 have e:(BitVec.ofInt 32 a|||BitVec.ofInt 32 b).toNat=a.toNat|||b.toNat:=by rw[BitVec.toNat_or,Qv6 ha,Qv6 hb]
 show IntKind.wrap .u32 ((BitVec.ofInt 32 a|||BitVec.ofInt 32 b).toNat:Int)=_
 rw[IntKind.wrap_u32,←e];omega
theorem Z9e{a:Int}(ha:U a)(k:Nat)(hk:k≤32){q:Int}(hq:q=((2^k-1:Nat):Int)):iand .u32 a q=a%2^k:=by
 have hp:2^k≤2^32:=Nat.pow_le_pow_right (by decide) hk
 have h1:(2:Nat)^32=4294967296:=by decide
 have hpos:=Nat.two_pow_pos k
 subst hq
 rw[Zh7 ha ⟨by omega,by omega⟩,Int.toNat_natCast,Nat.and_two_pow_sub_one_eq_mod]
 have:=ha.1
 rw[Int.natCast_emod,Int.toNat_of_nonneg this]
 simp
theorem m15{a:Int}(ha:U a):iand .u32 a 15=a%16:=Z9e ha 4 (by decide) rfl
theorem m255{a:Int}(ha:U a):iand .u32 a 255=a%256:=Z9e ha 8 (by decide) rfl
theorem m65535{a:Int}(ha:U a):iand .u32 a 65535=a%65536:=Z9e ha 16 (by decide) rfl
theorem Qrp(p:Int→Bool)(N:Nat)(h:(List.range N).all (λn=>p n)=true){s:Int}(h0:0≤s)(h1:s<N):p s=true:=by
 have:=List.all_eq_true.1 h s.toNat (List.mem_range.2 (by omega))
 rwa [Int.toNat_of_nonneg h0]at this
theorem w64{x:Int}(h0: -9223372036854775808≤x)(h1:x<9223372036854775808):IntKind.wrap .i64 x=x:=by rw[IntKind.wrap_i64];omega
theorem shr0(a:Int):ishr .u32 a 0=a:=by have:=Qpt (a:=a) 0 (by decide);simpa using this
theorem fld(w:Int):Q3j w 24 8=iand .u32 (ishr .u32 w 24) 255∧Q3j w 20 4=iand .u32 (ishr .u32 w 20) 15∧Q3j w 16 4=iand .u32 (ishr .u32 w 16) 15∧Q3j w 0 16=iand .u32 (ishr .u32 w 0) 65535∧Q3j w 8 8=iand .u32 (ishr .u32 w 8) 255:=
 ⟨by kernel_rfl,by kernel_rfl,by kernel_rfl,by kernel_rfl,by kernel_rfl⟩
def useOf(f:Int):Q9d×Bool:=
 bif f==1 then(⟨false,false,false,0,0⟩,true) else bif f==2 then(⟨true,true,true,0,0⟩,true) else bif f==3 then(⟨true,true,false,-32768,32767⟩,true)
 else bif f==4 then(⟨true,true,false,0,65535⟩,true) else bif f==5 then(⟨true,true,false,0,31⟩,true) else bif f==6 then(⟨true,false,false,0,65535⟩,true)
 else bif f==7 then(⟨true,false,false,-32768,32767⟩,true) else bif f==8 then(⟨true,false,false,0,7⟩,true) else bif f==9 then(⟨true,false,false,0,11⟩,true) else(⟨false,false,false,0,0⟩,false)
def sameU(x y:Q9d×Bool):Bool:=x.1.a==y.1.a&&x.1.b==y.1.b&&x.1.c==y.1.c&&x.1.low==y.1.low&&x.1.D6==y.1.D6&&x.2==y.2
theorem sameU_eq{x y:Q9d×Bool}(h:sameU x y=true):x=y:=by
 obtain⟨⟨a,b,c,d,e⟩,f⟩:=x
 obtain⟨⟨a',b',c',d',e'⟩,f'⟩:=y
 simp only[sameU,Bool.and_eq_true,beq_iff_eq]at h
 obtain⟨⟨⟨⟨⟨rfl,rfl⟩,rfl⟩,rfl⟩,rfl⟩,rfl⟩:=h
 rfl
theorem use_eq{op:Int}(h0:0≤op)(h1:op<256):Qz8 op=useOf (Q2s op):=by
 exact sameU_eq (Qrp (λop=>sameU (Qz8 op) (useOf (Q2s op))) 256 (by kernel_rfl) h0 h1)
theorem form_le{op:Int}(h0:0≤op)(h1:op<256):Q2s op=0∨Q2s op=1∨Q2s op=2∨Q2s op=3∨Q2s op=4∨Q2s op=5∨Q2s op=6∨Q2s op=7∨Q2s op=8∨Q2s op=9:=by
 have:=of_decide_eq_true (Qrp (λop=>decide (0≤Q2s op∧Q2s op≤9)) 256 (by kernel_rfl) h0 h1)
 omega
theorem priv_eq{op:Int}(h0:0≤op)(h1:op<256):Q96 op=Q3t op:=by
 exact eq_of_beq (Qrp (λop=>Q96 op==Q3t op) 256 (by kernel_rfl) h0 h1)
theorem cond_iff{a x y:Bool}:(cond a x y=true)↔((a=true∧x=true)∨(a=false∧y=true)):=by cases a<;>simp
theorem Z7z{i:Q0i}(h0:0≤i.Op)(h1:i.Op<256)(hi:IntKind.wrap .i64 i.Imm=i.Imm):Qfh i=Q7v i:=by
 rw[Bool.eq_iff_iff]
 simp only[Qfh,Qin,Tree.m,letv,Q7v,Qft,use_eq h0 h1,hi]
 rcases form_le h0 h1 with h|h|h|h|h|h|h|h|h|h<;>rw[h]<;>
 simp [useOf,Q9n,Qes,Q8e,Qdp,Qly,Qlr,Tree.m,letv,cond_iff]<;>omega
theorem sx16{x:Int}(h0:0≤x)(h1:x<65536):IntKind.wrap .i32 (Q2n x 16)=IntKind.wrap .i32 (IntKind.wrap .i16 x):=by
 have e:Q2n x 16=IntKind.wrap .u32 (ishr .i32 (IntKind.wrap .i32 (ishl .u32 x 16)) 16):=by kernel_rfl
 have e2: ∀y,ishr .i32 y 16=y/65536:=λy=>by
   show Int.fdiv y 65536=_
   rw[Int.fdiv_eq_ediv_of_nonneg _ (by decide)]
 have e3:ishl .u32 x 16=IntKind.wrap .u32 (x*65536):=rfl
 have e4:IntKind.wrap .i16 x=(x+32768)%65536-32768:=by
   simp [IntKind.wrap,IntKind.bits,IntKind.signed]
   split<;>omega
 rw[e,e2,e3,e4]
 simp only[IntKind.wrap_i32,IntKind.wrap_u32]
 omega
theorem sx8{x:Int}(h0:0≤x)(h1:x<256):Q2n x 8=Q3u x 8:=by
 exact eq_of_beq (Qrp (λx=>Q2n x 8==Q3u x 8) 256 (by kernel_rfl) h0 h1)
theorem decode_eq{w:Int}(hw:U w):Qh w=Q22 w:=by
 obtain⟨f1,f2,f3,f4,_⟩:=fld w
 obtain⟨w0,w1⟩:=hw
 have s24:ishr .u32 w 24=w/16777216:=by have:=Qpt (a:=w) 24 (by decide);simpa using this
 have s20:U (ishr .u32 w 20):=Qur ⟨w0,w1⟩ _
 have s16:U (ishr .u32 w 16):=Qur ⟨w0,w1⟩ _
 rw[m255 (Qur ⟨w0,w1⟩ _),s24]at f1
 rw[m15 s20]at f2
 rw[m15 s16]at f3
 rw[shr0]at f4
 have g1:w/16777216%256=w/16777216:=by omega
 rw[g1]at f1
 have o0:0≤w/16777216:=by omega
 have o1:w/16777216<256:=by omega
 have eo:IntKind.wrap .i64 (w/16777216)=w/16777216:=w64 (by omega) (by omega)
 have i32: ∀x,IntKind.wrap .i64 (IntKind.wrap .i32 x)=IntKind.wrap .i32 x:=λx=>by rw[IntKind.wrap_i64,IntKind.wrap_i32];omega
 have l0:=m65535 ⟨w0,w1⟩
 have lx:=sx16 (x:=iand .u32 w 65535) (by omega) (by omega)
 simp only[Qh,Q6u,Q22,Q74,Tree.m,letv,f1,f2,f3,f4,s24,eo,use_eq o0 o1,m15 s20,m15 s16,lx]
 generalize w/16777216=op at*
 generalize IntKind.wrap .i64 (ishr .u32 w 20%16)=a
 generalize IntKind.wrap .i64 (ishr .u32 w 16%16)=b
 generalize iand .u32 w 65535=l
 rw[Z7z (i:=⟨op,a,b,IntKind.wrap .i64 l,0⟩) o0 o1 rfl,Z7z (i:=⟨op,a,b,0,IntKind.wrap .i32 (IntKind.wrap .i16 l)⟩) o0 o1 (i32 _),Z7z (i:=⟨op,a,b,0,IntKind.wrap .i32 l⟩) o0 o1 (i32 _)]
 rcases form_le o0 o1 with h|h|h|h|h|h|h|h|h|h<;>rw[h]<;>rfl
theorem put_nat(x v:BitVec 32)(s:Nat)(hs:s≤24):((x&&&~~~(255#32<<<s))|||((v&&&255#32)<<<s)).toNat=2^(s+8)*(x.toNat/2^(s+8))+(2^s*(v.toNat%256)+x.toNat%2^s):=by
  have hx:=x.isLt
  have h1:x.toNat%2^s<2^s:=Nat.mod_lt _ (Nat.two_pow_pos s)
  have h2:2^s*(v.toNat%256)+x.toNat%2^s<2^(s+8):=by
    have:v.toNat%256<256:=Nat.mod_lt _ (by decide)
    have h3:2^s*(v.toNat%256)≤2^s*255:=Nat.mul_le_mul_left _ (by omega)
    have:2^(s+8)=2^s*256:=by rw[Nat.pow_add]
    omega
  rw[Nat.two_pow_add_eq_or_of_lt h2,Nat.two_pow_add_eq_or_of_lt h1]
  apply Nat.eq_of_testBit_eq
  intro i
  rw[BitVec.testBit_toNat]
  simp only[BitVec.getLsbD_or,BitVec.getLsbD_and,BitVec.getLsbD_not,BitVec.getLsbD_shiftLeft,Nat.testBit_or,Nat.testBit_two_pow_mul,Nat.testBit_mod_two_pow,Nat.testBit_div_two_pow,BitVec.getLsbD_ofNat]
  have e255: ∀j,Nat.testBit 255 j=decide (j<8):=λj=>by
    rw[show 255=2^8-1 from rfl,Nat.testBit_two_pow_sub_one]
  have e256: ∀n j,Nat.testBit (n%256) j=(decide (j<8)&&Nat.testBit n j):=λn j=>by
    rw[show 256=2^8 from rfl,Nat.testBit_mod_two_pow]
  rw[e255,e256]
  by_cases hi:i<32
  · by_cases a1:i<s
    · have a2: ¬(s≤i):=by omega
      have a3: ¬(s+8≤i):=by omega
      simp [hi,a1,a2,a3,BitVec.getLsbD]
    · by_cases a4:s+8≤i
      · have a2: ¬(i-s<8):=by omega
        have a5:i-(s+8)+(s+8)=i:=by omega
        have a6:s≤i:=by omega
        simp [hi,a1,a2,a4,a5,a6,BitVec.getLsbD]
      · have a2:(i-s<8):=by omega
        have a6:s≤i:=by omega
        have a7:i-s<32:=by omega
        simp [hi,a1,a2,a4,a6,a7,BitVec.getLsbD]
  · have a0:x.toNat.testBit i=false:=Nat.testBit_lt_two_pow (Nat.lt_of_lt_of_le hx (Nat.pow_le_pow_right (by decide) (by omega)))
    have a1: ¬(i<s):=by omega
    have a2: ¬(i-s<8):=by omega
    have a4:s+8≤i:=by omega
    have a5:i-(s+8)+(s+8)=i:=by omega
    simp [hi,a0,a1,a2,a4,a5]
theorem Z5v(b:BitVec 32):BitVec.ofInt 32 (IntKind.wrap .u32 (b.toNat:Int))=b:=by
 have:=b.isLt
 rw[IntKind.wrap_u32]
 apply BitVec.eq_of_toNat_eq
 rw[BitVec.toNat_ofInt];omega
theorem Zm1(x:Int):BitVec.ofInt 32 (IntKind.wrap .u32 x)=BitVec.ofInt 32 x:=by
 apply BitVec.eq_of_toNat_eq
 rw[BitVec.toNat_ofInt,BitVec.toNat_ofInt,IntKind.wrap_u32]
 have:((2^32:Nat):Int)=4294967296:=by decide
 rw[this,Int.emod_emod_of_dvd _ (Int.dvd_refl _)]
theorem Zc8{x:Int}(hx:U x)(s:Nat)(hs:s≤32):BitVec.ofInt 32 (ishl .u32 x s)=BitVec.ofInt 32 x<<<s:=by
 obtain⟨n,rfl⟩: ∃n:Nat,x=n:=⟨x.toNat,by have:=hx.1;omega⟩
 have e:min (Int.toNat (s:Int)) IntKind.u32.bits=s:=by show min (Int.toNat (s:Int)) 32=s;omega
 unfold ishl
 rw[e,Zm1]
 have e2:((n:Int)*2^s)=((n*2^s:Nat):Int):=by simp
 have:=hx.2
 rw[e2,BitVec.ofInt_natCast,BitVec.ofInt_natCast]
 apply BitVec.eq_of_toNat_eq
 rw[BitVec.toNat_shiftLeft,BitVec.toNat_ofNat,BitVec.toNat_ofNat,Nat.shiftLeft_eq,Nat.mod_mul_mod]
def putW(W v:Int)(s:Nat):Int:=ior .u32 (Qgm .u32 W (ishl .u32 255 s)) (ishl .u32 (iand .u32 v 255) s)
theorem put_num{W v:Int}(hW:U W)(hv:U v)(s:Nat)(hs:s≤24):putW W v s=2^(s+8)*(W/2^(s+8))+(2^s*(v%256)+W%2^s):=by
 have e:=put_nat (BitVec.ofInt 32 W) (BitVec.ofInt 32 v) s hs
 have l:=((BitVec.ofInt 32 W&&&~~~(255#32<<<s))|||((BitVec.ofInt 32 v&&&255#32)<<<s)).isLt
 have h1:BitVec.ofInt 32 (Qgm .u32 W (ishl .u32 255 s))=BitVec.ofInt 32 W&&&~~~(255#32<<<s):=by
   show BitVec.ofInt 32 (IntKind.wrap .u32 (BitVec.ofInt 32 W&&&~~~BitVec.ofInt 32 (ishl .u32 255 s)).toNat)=_
   rw[Z5v,Zc8 ⟨by decide,by decide⟩ s (by omega)]
   rfl
 have h2:BitVec.ofInt 32 (ishl .u32 (iand .u32 v 255) s)=(BitVec.ofInt 32 v&&&255#32)<<<s:=by
   rw[Zc8 (Zh8 _ _) s (by omega)]
   congr 1
   show BitVec.ofInt 32 (IntKind.wrap .u32 (BitVec.ofInt 32 v&&&BitVec.ofInt 32 255).toNat)=_
   rw[Z5v];rfl
 show IntKind.wrap .u32 ((BitVec.ofInt 32 (Qgm .u32 W (ishl .u32 255 s))|||BitVec.ofInt 32 (ishl .u32 (iand .u32 v 255) s)).toNat:Int)=_
 rw[h1,h2]
 have lw:IntKind.wrap .u32 ((((BitVec.ofInt 32 W&&&~~~(255#32<<<s))|||((BitVec.ofInt 32 v&&&255#32)<<<s)).toNat:Nat):Int)=(((BitVec.ofInt 32 W&&&~~~(255#32<<<s))|||((BitVec.ofInt 32 v&&&255#32)<<<s)).toNat:Nat):=by rw[IntKind.wrap_u32];omega
 rw[lw,e,Qv6 hW,Qv6 hv]
 obtain⟨n,rfl⟩: ∃n:Nat,W=n:=⟨W.toNat,by have:=hW.1;omega⟩
 obtain⟨k,rfl⟩: ∃n:Nat,v=n:=⟨v.toNat,by have:=hv.1;omega⟩
 simp
def dig(w:Int)(k:Nat):Int:=if k=0 then w%256 else if k=1 then w/256%256 else if k=2 then w/65536%256 else w/16777216%256
def byt(m:List Int)(a:Nat):Int:=dig (m.getD (a/4) 0) (a%4)
theorem dig_lt(w:Int)(k:Nat):0≤dig w k∧dig w k<256:=by
 unfold dig
 split
 · omega
 · split
   · omega
   · split<;>omega
theorem dig_ext{w v:Int}(hw:U w)(hv:U v)(h: ∀k,k<4→dig w k=dig v k):w=v:=by
 have h0:=h 0 (by omega)
 have h1:=h 1 (by omega)
 have h2:=h 2 (by omega)
 have h3:=h 3 (by omega)
 simp [dig]at h0 h1 h2 h3
 obtain⟨a,b⟩:=hw
 obtain⟨c,d⟩:=hv
 omega
theorem Zfk{m n:List Int}(hl:m.length=n.length)(hm: ∀w∈m,U w)(hn: ∀w∈n,U w)(h: ∀a,byt m a=byt n a):m=n:=by
 refine List.ext_getElem hl λi h1 h2=> ?_
 have e1:m[i]=m.getD i 0:=by simp [List.getD,h1]
 have e2:n[i]=n.getD i 0:=by simp [List.getD,h2]
 rw[e1,e2]
 refine dig_ext (Ql2 hm i) (Ql2 hn i) λk hk=> ?_
 have:=h (4*i+k)
 simp only[byt]at this
 rwa [show(4*i+k)/4=i by omega,show(4*i+k)%4=k by omega]at this
theorem Qsp{l:List Int}{i:Nat}(h:i<l.length)(v:Int):(l.set i v).getD i 0=v:=by
 simp [List.getD,h]
theorem Zf2{m:List Int}{i:Nat}(hi:i<m.length)(v:Int)(a:Nat):byt (m.set i v) a=if a/4=i then dig v (a%4) else byt m a:=by
 unfold byt
 split
 · rename_i h;rw[h,Qsp hi]
 · rename_i h;rw[getDset _ _ _ _ (λe=>h e.symm)]
theorem put_dig{W v:Int}(hW:U W)(hv:U v){j:Nat}(hj:j<4){k:Nat}(hk:k<4):dig (putW W v (8*j)) k=if k=j then v%256 else dig W k:=by
 have h:=put_num hW hv (8*j) (by omega)
 rw[h]
 obtain⟨w0,w1⟩:=hW
 have h0:0≤v%256:=by omega
 have h1:v%256<256:=by omega
 generalize v%256=b at*
 clear h
 have hj:j=0∨j=1∨j=2∨j=3:=by omega
 have hk:k=0∨k=1∨k=2∨k=3:=by omega
 rcases hj with rfl|rfl|rfl|rfl<;>rcases hk with rfl|rfl|rfl|rfl<;>simp [dig]<;>omega
theorem puts_eq{m:List Int}{a v:Int}(ha:U a):Qb2 m a 1 v=m.set (a/4).toNat (putW (m.getD (a/4).toNat 0) v (8*(a%4).toNat)):=by
 obtain⟨a0,a1⟩:=ha
 have e1:IntKind.wrap .u32 (Int.tdiv a 4)=a/4:=by rw[IntKind.wrap_u32,Int.tdiv_eq_ediv_of_nonneg a0];omega
 have e2:IntKind.wrap .u32 (8*Int.tmod a 4)=((8*(a%4).toNat:Nat):Int):=by rw[IntKind.wrap_u32,Int.tmod_eq_emod_of_nonneg a0];omega
 have e3:((1:Int)==4)=false:=rfl
 simp only[Qb2,Qe,Tree.m,e1,e2,e3,cond_false]
 rfl
theorem puts_byte{P:Nat}{m:List Int}(h:Q11 P m){a v:Int}(ha:U a)(hl:a<128*P)(hv:U v):Q11 P (Qb2 m a 1 v)∧ ∀b:Nat,byt (Qb2 m a 1 v) b=if(b:Int)=a then v%256 else byt m b:=by
 have hlen:=h.len
 have a0:=ha.1
 rw[puts_eq ha]
 have hi:(a/4).toNat<m.length:=by omega
 refine⟨⟨by rw[List.length_set];exact hlen,h.p1,h.p2,Z2 h.u (U_or _ _) _⟩,λb=> ?_⟩
 rw[Zf2 hi]
 by_cases hb:b/4=(a/4).toNat
 · rw[if_pos hb,put_dig (Ql2 h.u _) hv (by omega) (by omega)]
   by_cases hc:b%4=(a%4).toNat
   · rw[if_pos hc,if_pos (by omega)]
   · rw[if_neg hc,if_neg (by omega),byt,hb]
 · rw[if_neg hb,if_neg (by omega)]
theorem fill_b{P:Nat}{m:List Int}(h:Q11 P m){frame:Int}(f0:0≤frame)(f1:frame<P)(s:List UInt8):(Qab m frame s).w (λr=>Q11 P r∧ ∀b:Nat,byt r b=if frame*128≤b∧(b:Int)<frame*128+min s.length 128 then((s.getD (b-frame*128).toNat 0).toNat:Int) else byt m b):=by
 unfold Qab
 have h3:=h.p2
 refine w_lp (inv:=λz=>0≤z.1∧z.1≤min s.length 128∧Q11 P z.2∧ ∀b:Nat,byt z.2 b=if frame*128≤b∧(b:Int)<frame*128+z.1 then((s.getD (b-frame*128).toNat 0).toNat:Int) else byt m b) (μ:=Qj m frame s) ⟨show(0:Int)≤0 by decide,by show(0:Int)≤_;omega,h,λb=>by rw[if_neg];show¬(_∧_<_+(0:Int));omega⟩ (Nat.lt_succ_self _) (λv0 hv0=> ?_)
 obtain⟨i,mm⟩:=v0
 obtain⟨i0,i1,hm,hy⟩:=hv0
 have i0:0≤i:=i0
 have i1:i≤min s.length 128:=i1
 have hm:Q11 P mm:=hm
 have fin: ∀r:List Int,r=mm→i=min s.length 128→Q11 P r∧ ∀b:Nat,byt r b=if frame*128≤b∧(b:Int)<frame*128+min s.length 128 then((s.getD (b-frame*128).toNat 0).toNat:Int) else byt m b:=λr hr hi=>by
   subst hr;refine⟨hm,λb=> ?_⟩
   rw[hy b];simp only[hi]
 refine w_br (λh1=>w_br (λh2=>w_cn ?_ ?_) (λh2=>fin mm rfl ?_)) (λh1=>fin mm rfl ?_)
 · have:=of_decide_eq_true h1
   simp [Nat.blt];omega
 · have h1:i<s.length:=of_decide_eq_true h1
   have h2:i<128:=of_decide_eq_true h2
   have e:IntKind.wrap IntKind.u32 (IntKind.wrap IntKind.i64 (IntKind.wrap IntKind.i64 (frame*128)+i))=frame*128+i:=by
     rw[IntKind.wrap_u32,IntKind.wrap_i64,IntKind.wrap_i64];omega
   show(Tree.an (Qey mm (IntKind.wrap IntKind.u32 (IntKind.wrap IntKind.i64 (IntKind.wrap IntKind.i64 (frame*128)+i))) 1 _) (Tree.lv _ _)).w _
   rw[e]
   have hu:U (frame*128+i):=⟨by omega,by omega⟩
   have hvU: ∀n:Nat,U (IntKind.wrap .u32 (n:Int)):=λn=>Q0s _
   obtain⟨g1,_⟩:=Tree.pp (put_w hm (size:=1) (addr:=frame*128+i) hu (by rw[hm.len];omega) (hvU (UInt8.toNat (s.getD i.toNat 0))))
   obtain⟨g2,g3⟩:=puts_byte hm hu (by omega) (hvU (UInt8.toNat (s.getD i.toNat 0)))
   refine w_an g1 (w_lv λx0 hx0=> ?_)
   rw[hx0]
   have ew:IntKind.i64.wrap (i+1)=i+1:=by rw[IntKind.wrap_i64];omega
   refine w_nx ?_
   show(0≤IntKind.i64.wrap (i+1)∧IntKind.i64.wrap (i+1)≤min s.length 128∧Q11 P _∧ ∀b:Nat,byt _ b=if frame*128≤b∧(b:Int)<frame*128+IntKind.i64.wrap (i+1) then _ else _)∧(128-IntKind.i64.wrap (i+1)).toNat<(128-i).toNat
   rw[ew]
   refine⟨⟨by omega,by omega,g2,λb=> ?_⟩,by omega⟩
   rw[show Qb2 mm (frame*128+i) 1 _=_ from rfl,g3 b]
   by_cases hb:(b:Int)=frame*128+i
   · rw[if_pos hb,if_pos (by omega),IntKind.wrap_u32]
     have:=(s.getD i.toNat 0).toNat_lt
     rw[show(b-frame*128).toNat=i.toNat by omega];omega
   · rw[if_neg hb,hy b]
     show(if frame*128≤(b:Int)∧(b:Int)<frame*128+i then _ else _)=_
     by_cases hc:frame*128≤(b:Int)∧(b:Int)<frame*128+i
     · rw[if_pos hc,if_pos (by omega)]
     · rw[if_neg hc,if_neg (by omega)]
 · have h1:i<s.length:=of_decide_eq_true h1
   have h2: ¬i<128:=of_decide_eq_false h2
   omega
 · have h1: ¬i<s.length:=of_decide_eq_false h1
   omega
theorem or_add{x y:Int}(hx:U x)(hy:U y)(k:Nat)(hk:x<2^k)(h:x+y*2^k<4294967296):ior .u32 x (y*2^k)=x+y*2^k:=by
 obtain⟨n,rfl⟩: ∃n:Nat,x=n:=⟨x.toNat,by have:=hx.1;omega⟩
 obtain⟨z,rfl⟩: ∃n:Nat,y=n:=⟨y.toNat,by have:=hy.1;omega⟩
 have e:((z:Int)*2^k)=((z*2^k:Nat):Int):=by simp
 rw[e]at h⊢
 have hn:n<2^k:=by exact_mod_cast hk
 rw[or_nat hx ⟨by omega,by omega⟩,Int.toNat_natCast,Int.toNat_natCast,Nat.or_comm,Nat.mul_comm,←Nat.two_pow_add_eq_or_of_lt hn]
 omega
theorem four{a b c d:Int}(ha:0≤a∧a<256)(hb:0≤b∧b<256)(hc:0≤c∧c<256)(hd:0≤d∧d<256):ior .u32 (ior .u32 (ior .u32 (IntKind.wrap .u32 a) (ishl .u32 (IntKind.wrap .u32 b) 8)) (ishl .u32 (IntKind.wrap .u32 c) 16)) (ishl .u32 (IntKind.wrap .u32 d) 24)=a+b*2^8+c*2^16+d*2^24:=by
 have w: ∀{x:Int},0≤x∧x<256→IntKind.wrap .u32 x=x:=λhx=>by rw[IntKind.wrap_u32];omega
 have s8: ∀{x:Int},0≤x∧x<256→ishl .u32 x 8=x*2^8:=fun{x} hx=>by show IntKind.wrap .u32 (x*2^8)=_;rw[IntKind.wrap_u32];omega
 have s16: ∀{x:Int},0≤x∧x<256→ishl .u32 x 16=x*2^16:=fun{x} hx=>by show IntKind.wrap .u32 (x*2^16)=_;rw[IntKind.wrap_u32];omega
 have s24: ∀{x:Int},0≤x∧x<256→ishl .u32 x 24=x*2^24:=fun{x} hx=>by show IntKind.wrap .u32 (x*2^24)=_;rw[IntKind.wrap_u32];omega
 rw[w ha,w hb,w hc,w hd,s8 hb,s16 hc,s24 hd]
 rw[or_add ⟨by omega,by omega⟩ ⟨by omega,by omega⟩ 8 (by omega) (by omega),or_add ⟨by omega,by omega⟩ ⟨by omega,by omega⟩ 16 (by omega) (by omega),or_add ⟨by omega,by omega⟩ ⟨by omega,by omega⟩ 24 (by omega) (by omega)]
theorem four_dig{a b c d:Int}(ha:0≤a∧a<256)(hb:0≤b∧b<256)(hc:0≤c∧c<256)(hd:0≤d∧d<256)(k:Nat)(hk:k<4):dig (a+b*2^8+c*2^16+d*2^24) k=if k=0 then a else if k=1 then b else if k=2 then c else d:=by
 have hk:k=0∨k=1∨k=2∨k=3:=by omega
 rcases hk with rfl|rfl|rfl|rfl<;>simp [dig]<;>omega
theorem Z92{P:Nat}{m:List Int}(h:Q11 P m)(f:Int):Q5t m f=decide (0≤f∧f<P):=by
 have hp:=Q47 h
 simp only[Q5t,Q8v,Tree.m,letv,hp]
 by_cases h1:0≤f
 · rw[decide_eq_true h1];simp [h1]
 · rw[decide_eq_false h1];simp [h1]
theorem getD_cut(s:List UInt8)(a b k:Nat)(h:k<b):(List.take b (List.drop a s)).getD k 0=s.getD (a+k) 0:=by
 simp [List.getD_eq_getElem?_getD,List.getElem?_take,h]
theorem u8I(x:UInt8):0≤(x.toNat:Int)∧(x.toNat:Int)<256:=by have:=x.toNat_lt;omega
theorem Z0f{P:Nat}{m:List Int}(h:Q11 P m){f:Int}(f0:0≤f)(f1:f<P){s:List UInt8}(hs:s.length=128):(Q2f m f s).w (λr=>r.2=true∧Q11 P r.1∧ ∀b:Nat,byt r.1 b=if f*128≤b∧(b:Int)<f*128+128 then((s.getD (b-f*128).toNat 0).toNat:Int) else byt m b):=by
  have hcl:Q02 m=m:=rfl
  have h2:=h.p2
  unfold Q2f
  refine w_an (Q9a h) (w_lv λx0 hx0=>w_lv λx1 hx1=> ?_)
  rw[hcl]at hx0;subst hx0
  rw[Z92 h,decide_eq_true ⟨f0,f1⟩]at hx1
  subst hx1
  refine w_br (λhb=>by cases hb) λ_=>w_br (λhb=>by simp [hs]at hb) λ_=> ?_
  refine w_lp (inv:=λz:Int×List Int=>0≤z.1∧z.1≤32∧Q11 P z.2∧ ∀b:Nat,byt z.2 b=if f*128≤b∧(b:Int)<f*128+4*z.1 then((s.getD (b-f*128).toNat 0).toNat:Int) else byt x0 b) (μ:=Qbc x0 f s) ⟨show(0:Int)≤0 by decide,show(0:Int)≤32 by decide,h,λb=>by rw[if_neg];show¬(_∧_<_+4*(0:Int));omega⟩ (Nat.lt_succ_self _) λz ⟨z1,z2,z3,z4⟩=> ?_
  refine w_br (λhb=> ?_) (λhb=>⟨rfl,z3,λb=> ?_⟩)
  · have hb:=of_decide_eq_true hb
    have e1:IntKind.i64.wrap (4*z.1)=4*z.1:=by rw[IntKind.wrap_i64];omega
    have e2:IntKind.i64.wrap (IntKind.i64.wrap (4*z.1)+4)=4*z.1+4:=by rw[IntKind.wrap_i64,IntKind.wrap_i64];omega
    have e3:IntKind.i64.wrap (IntKind.i64.wrap (f*32)+z.1)=f*32+z.1:=by rw[IntKind.wrap_i64,IntKind.wrap_i64];omega
    have hl:=z3.len
    have cut:Int.toNat (IntKind.i64.wrap (IntKind.i64.wrap (4*z.1)+4))-Int.toNat (IntKind.i64.wrap (4*z.1))=4:=by rw[e2,e1];omega
    have hlen:(List.take (Int.toNat (IntKind.i64.wrap (IntKind.i64.wrap (4*z.1)+4))-Int.toNat (IntKind.i64.wrap (4*z.1))) (List.drop (Int.toNat (IntKind.i64.wrap (4*z.1))) s)).length=4:=by
      rw[cut,e1,List.length_take,List.length_drop];omega
    refine w_cn (decide_eq_true (by rw[e2,e1];omega)) ?_
    refine w_cn (decide_eq_true (by rw[hlen];decide)) (w_cn (decide_eq_true (by rw[hlen];decide)) (w_cn (decide_eq_true (by rw[hlen];decide)) (w_cn (decide_eq_true (by rw[hlen];decide)) (w_cn (by rw[e3];simp [Nat.blt];omega) (w_nx ?_)))))
    have ew:IntKind.i64.wrap (z.1+1)=z.1+1:=by rw[IntKind.wrap_i64];omega
    rw[cut]
    refine⟨⟨by show 0≤IntKind.i64.wrap (z.1+1);rw[ew];omega,by show IntKind.i64.wrap (z.1+1)≤32;rw[ew];omega,?_,?_⟩,by show(32-IntKind.i64.wrap (z.1+1)).toNat<(32-z.1).toNat;rw[ew];omega⟩
    · show Q11 P (List.set _ _ _)
      exact⟨by rw[List.length_set];exact hl,z3.p1,z3.p2,Z2 z3.u (U_or _ _) _⟩
    · intro b
      show byt (List.set z.2 (Int.toNat (IntKind.i64.wrap (IntKind.i64.wrap (f*32)+z.1))) _) b=if f*128≤(b:Int)∧(b:Int)<f*128+4*IntKind.i64.wrap (z.1+1) then _ else _
      rw[e3,ew,four (u8I _) (u8I _) (u8I _) (u8I _),Zf2 (by omega)]
      have g: ∀k:Nat,k<4→(List.take 4 (List.drop (Int.toNat (IntKind.i64.wrap (4*z.1))) s)).getD k 0=s.getD ((4*z.1).toNat+k) 0:=λk hk=>by rw[e1];exact getD_cut _ _ _ _ hk
      by_cases hc:b/4=(f*32+z.1).toNat
      · have hin:f*128≤(b:Int)∧(b:Int)<f*128+4*(z.1+1):=by omega
        rw[if_pos hc,four_dig (u8I _) (u8I _) (u8I _) (u8I _) _ (by omega),if_pos hin]
        have hb4:b%4=0∨b%4=1∨b%4=2∨b%4=3:=by omega
        have gi:(b-f*128).toNat=(4*z.1).toNat+b%4:=by omega
        rw[gi]
        rcases hb4 with h4|h4|h4|h4<;>rw[h4]
        · rw[if_pos rfl,←g 0 (by omega)];rfl
        · rw[if_neg (by decide),if_pos rfl,←g 1 (by omega)];rfl
        · rw[if_neg (by decide),if_neg (by decide),if_pos rfl,←g 2 (by omega)];rfl
        · rw[if_neg (by decide),if_neg (by decide),if_neg (by decide),←g 3 (by omega)];rfl
      · rw[if_neg hc,z4 b]
        by_cases hd:f*128≤(b:Int)∧(b:Int)<f*128+4*z.1
        · rw[if_pos hd,if_pos (by omega)]
        · rw[if_neg hd,if_neg (by omega)]
  · have hb:=of_decide_eq_false hb
    show byt z.2 b=_
    rw[z4 b,show z.1=32 by omega]
    rfl
theorem Z8w{α:Type}(l l2:List α)(k:Nat)(z:α):(l++l2).getD k z=if k<l.length then l.getD k z else l2.getD (k-l.length) z:=by
 simp only[List.getD_eq_getElem?_getD,List.getElem?_append]
 split<;>rfl
theorem u8w{x:Int}:IntKind.wrap .u8 x=x%256:=IntKind.wrap_u8 x
theorem shr_c(W:Int):ishr .u32 W 8=W/256∧ishr .u32 W 16=W/65536∧ishr .u32 W 24=W/16777216:=by
 refine⟨?_,?_,?_⟩
 · show Int.fdiv W 256=_;rw[Int.fdiv_eq_ediv_of_nonneg _ (by decide)]
 · show Int.fdiv W 65536=_;rw[Int.fdiv_eq_ediv_of_nonneg _ (by decide)]
 · show Int.fdiv W 16777216=_;rw[Int.fdiv_eq_ediv_of_nonneg _ (by decide)]
theorem b4d(W:Int){k:Nat}(hk:k<4):[IntKind.wrap .u8 W,IntKind.wrap .u8 (ishr .u32 W 8),IntKind.wrap .u8 (ishr .u32 W 16),IntKind.wrap .u8 (ishr .u32 W 24)].getD k 0=dig W k:=by
 obtain⟨a,b,c⟩:=shr_c W
 have hk:k=0∨k=1∨k=2∨k=3:=by omega
 rcases hk with rfl|rfl|rfl|rfl<;>simp [dig,a,b,c,u8w]
theorem Qmy(l:List Int)(k:Nat)(h:0≤l.getD k 0∧l.getD k 0<256)(hk:k<l.length):(((bytesOf l).getD k 0).toNat:Int)=l.getD k 0:=by
 have e:(bytesOf l).getD k 0=UInt8.ofNat (l.getD k 0).toNat:=by
   simp [bytesOf,List.getD_eq_getElem?_getD,hk]
 rw[e,UInt8.toNat_ofNat']
 omega
theorem Zei(l:List UInt8)(k:Nat)(hk:k<l.length):(Qbq l).getD k 0=((l.getD k 0).toNat:Int):=by
 simp [Qbq,List.getD_eq_getElem?_getD,hk]
theorem text_b(w:List Int)(h:w.length≤32):(Q5k w).w (λr=>r.length=4*w.length∧ ∀k:Nat,k<4*w.length→((r.getD k 0).toNat:Int)=dig (w.getD (k/4) 0) (k%4)):=by
 have e0:IntKind.i64.wrap (4*(w.length:Int))=4*w.length:=by rw[IntKind.wrap_i64];omega
 unfold Q5k
 refine w_cn (by rw[e0];simp [Nat.blt,D.plain];omega) ?_
 refine w_lp (inv:=λz:Int×List Int=>0≤z.1∧z.1≤w.length∧(z.2.length:Int)=4*z.1∧ ∀k:Nat,(k:Int)<4*z.1→z.2.getD k 0=dig (w.getD (k/4) 0) (k%4)) (μ:=Q83 w) ⟨by decide,by show(0:Int)≤w.length;omega,rfl,λk hk=>by have hk:(k:Int)<4*0:=hk;omega⟩ (Nat.lt_succ_self _) λz ⟨z1,z2,z3,z4⟩=> ?_
 refine w_br (λhb=> ?_) (λhb=> ?_)
 · have hb:=of_decide_eq_true hb
   have ew:IntKind.i64.wrap (z.1+1)=z.1+1:=by rw[IntKind.wrap_i64];omega
   refine w_cn (by simp [Nat.blt];omega) (w_cn (decide_eq_true (by omega)) (w_nx ?_))
   show(_∧_∧_∧ ∀k:Nat,(k:Int)<4*IntKind.i64.wrap (z.1+1)→(z.2++_).getD k 0=_)∧(_:Nat)<_
   refine⟨⟨by rw[ew];omega,by rw[ew];omega,by rw[ew,List.length_append];simp only[List.length_cons,List.length_nil];omega,λk hk=> ?_⟩,by show(w.length-IntKind.i64.wrap (z.1+1)).toNat<(w.length-z.1).toNat;rw[ew];omega⟩
   rw[ew]at hk
   rw[Z8w]
   split
   · exact z4 k (by omega)
   · rename_i hn
     rw[b4d _ (by omega),show z.1.toNat=k/4 by omega,show k-z.2.length=k%4 by omega]
 · have hb:=of_decide_eq_false hb
   show(bytesOf z.2).length=_∧ ∀k:Nat,_→(((bytesOf z.2).getD k 0).toNat:Int)=_
   refine⟨by rw[Qhi];omega,λk hk=> ?_⟩
   have e:=z4 k (by omega)
   have:=dig_lt (w.getD (k/4) 0) (k%4)
   rw[Qmy _ _ (by rw[e];exact this) (by omega),e]
def isPg(m:List Int)(f:Int)(r:List UInt8):Prop:=r.length=128∧ ∀k:Nat,k<128→((r.getD k 0).toNat:Int)=byt m ((f*128).toNat+k)
theorem pg_ext{m:List Int}{f:Int}{r s:List UInt8}(a:isPg m f r)(b:isPg m f s):r=s:=by
 obtain⟨a1,a2⟩:=a
 obtain⟨b1,b2⟩:=b
 refine List.ext_getElem (by omega) λi h1 h2=> ?_
 have e:=(a2 i (by omega)).trans (b2 i (by omega)).symm
 have e1:r[i]=r.getD i 0:=by simp [List.getD,h1]
 have e2:s[i]=s.getD i 0:=by simp [List.getD,h2]
 rw[e1,e2]
 exact UInt8.toNat_inj.1 (by omega)
theorem mpage_b{P:Nat}{m:List Int}(h:Q11 P m){f:Int}(f0:0≤f)(f1:f<P):(Q4 m f).w (λr=>isPg m f r.1∧r.2=true):=by
 have hl:=h.len
 have h2:=h.p2
 unfold Q4
 refine w_lv λx0 hx0=> ?_
 rw[Z92 h,decide_eq_true ⟨f0,f1⟩]at hx0
 subst hx0
 refine w_br (λhb=>by cases hb) (λhb=> ?_)
 have e1:IntKind.i64.wrap (f*32)=f*32:=by rw[IntKind.wrap_i64];omega
 have e2:IntKind.i64.wrap (IntKind.i64.wrap (f*32)+32)=f*32+32:=by rw[IntKind.wrap_i64,IntKind.wrap_i64];omega
 have cut:Int.toNat (IntKind.i64.wrap (IntKind.i64.wrap (f*32)+32))-Int.toNat (IntKind.i64.wrap (f*32))=32:=by rw[e2,e1];omega
 have hlen:(List.take 32 (List.drop (Int.toNat (IntKind.i64.wrap (f*32))) m)).length=32:=by
   rw[e1,List.length_take,List.length_drop];omega
 refine w_cn (by rw[e2,e1];simp [Nat.blt];omega) ?_
 rw[cut]
 refine w_an (by show List.length _≤1000000000000;rw[hlen];decide) (w_lv λx1 h1=> ?_)
 have t:=(Tree.pp (text_b _ (Nat.le_of_eq hlen))).2
 rw[hlen,show(Q5k (List.take 32 (List.drop (Int.toNat (IntKind.i64.wrap (f*32))) m))).m=x1 from h1.symm]at t
 refine⟨⟨t.1,λk hk=> ?_⟩,rfl⟩
 show((x1.getD k 0).toNat:Int)=_
 rw[t.2 k hk,byt,e1]
 have g:(List.take 32 (List.drop (Int.toNat (f*32)) m)).getD (k/4) 0=m.getD ((f*32).toNat+k/4) 0:=by
   simp [List.getD_eq_getElem?_getD,List.getElem?_take,show k/4<32 by omega]
 rw[g,show((f*128).toNat+k)/4=(f*32).toNat+k/4 by omega,show((f*128).toNat+k)%4=k%4 by omega]
theorem low_eq(x:Int):Z65 x 4=bytesOf [IntKind.wrap .u8 (ishr .u32 x 0),IntKind.wrap .u8 (ishr .u32 x 8),IntKind.wrap .u8 (ishr .u32 x 16),IntKind.wrap .u8 (ishr .u32 x 24)]:=by kernel_rfl
theorem rpage_b{P:Nat}{m:List Int}(hm:Q11 P m){frame:Int}(f0:0≤frame)(f1:frame<P):(Q9v m frame).w (λr=>isPg m frame r.1∧r.2=true):=by
 have hp:=Qet hm
 have hl:=hm.len
 have h2:=hm.p2
 unfold Q9v
 refine w_br (λh=>by have:=of_decide_eq_true h;omega) (λh=>w_lv λx0 hx=>w_br (λh1=>by have:=of_decide_eq_true h1;rw[hx,hp]at this;omega) (λh1=> ?_))
 refine w_lp (inv:=λz:Int×List Int=>0≤z.1∧z.1≤32∧(z.2.length:Int)=4*z.1∧ ∀k:Nat,(k:Int)<4*z.1→z.2.getD k 0=byt m ((frame*128).toNat+k)) (μ:=Qhv m frame) ⟨by decide,by decide,rfl,λk hk=>by have hk:(k:Int)<4*0:=hk;omega⟩ (Nat.lt_succ_self _) (λz hz=> ?_)
 obtain⟨z1,z2,z3,z4⟩:=hz
 refine w_br (λhb=> ?_) (λhb=> ?_)
 · have hb:=of_decide_eq_true hb
   have e:IntKind.wrap IntKind.i64 (IntKind.wrap IntKind.i64 (frame*32)+z.1)=frame*32+z.1:=by rw[IntKind.wrap_i64,IntKind.wrap_i64];omega
   refine w_cn (by rw[e];simp [Nat.blt];omega) (w_an (show(4:Int)≤1000000000000 by decide) (w_lv λx1 h4=> ?_))
   rw[low_eq,shr0,e]at h4
   have l4:x1.length=4:=by rw[h4];rfl
   refine w_cn (decide_eq_true (by rw[Qoc,l4];omega)) (w_nx ?_)
   show(0≤IntKind.i64.wrap (z.1+1)∧IntKind.i64.wrap (z.1+1)≤32∧((z.2++Qbq x1).length:Int)=4*IntKind.i64.wrap (z.1+1)∧ ∀k:Nat,(k:Int)<4*IntKind.i64.wrap (z.1+1)→(z.2++Qbq x1).getD k 0=_)∧(32-IntKind.i64.wrap (z.1+1)).toNat<(32-z.1).toNat
   have ew:IntKind.i64.wrap (z.1+1)=z.1+1:=by rw[IntKind.wrap_i64];omega
   rw[ew]
   refine⟨⟨by omega,by omega,by rw[List.length_append,Qoc,l4];omega,λk hk=> ?_⟩,by omega⟩
   rw[Z8w]
   split
   · exact z4 k (by omega)
   · rename_i hn
     have hk4:k-z.2.length<4:=by omega
     rw[Zei _ _ (by omega),h4]
     have d:=b4d (m.getD (frame*32+z.1).toNat 0) hk4
     rw[Qmy _ _ (by rw[d];exact dig_lt _ _) (by simpa using hk4),d,byt]
     rw[show((frame*128).toNat+k)/4=(frame*32+z.1).toNat by omega,show((frame*128).toNat+k)%4=k-z.2.length by omega]
 · have hb:=of_decide_eq_false hb
   refine⟨⟨?_,λk hk=> ?_⟩,rfl⟩
   · show(bytesOf z.2).length=128
     rw[Qhi];omega
   · show(((bytesOf z.2).getD k 0).toNat:Int)=_
     have e:=z4 k (by omega)
     rw[Qmy _ _ (by rw[e];exact dig_lt _ _) (by omega),e]
theorem Ze1{P:Nat}{m:List Int}(h:Q11 P m)(f:Int):Q6b m f=Qj2 m f:=by
 by_cases hf:0≤f∧f<P
 · have a:=(Tree.pp (mpage_b h hf.1 hf.2)).2
   have b:=(Tree.pp (rpage_b h hf.1 hf.2)).2
   exact Prod.ext (pg_ext a.1 b.1) (a.2.trans b.2.symm)
 · have hp:=Qet h
   have e1:Q6b m f=([],false):=by
     simp only[Q6b,Q4,Tree.m,letv,Z92 h,decide_eq_false hf];rfl
   have e2:Qj2 m f=([],false):=by
     simp only[Qj2,Q9v,Tree.m,letv,hp]
     by_cases h0:f<0
     · rw[decide_eq_true h0];rfl
     · rw[decide_eq_false h0,decide_eq_true (show f≥P by omega)];rfl
   rw[e1,e2]
section
variable {P:Nat} {m:List Int} (h:Q11 P m)
include h
theorem Zdy{f:Int}(f0:0≤f)(f1:f<P){s:List UInt8}(hs:s.length=128):Q36 m f s=(Qku m f s,true):=by
 have a:=(Tree.pp (Z0f h f0 f1 hs)).2
 have b:=(Tree.pp (fill_b h f0 f1 s)).2
 refine Prod.ext (Zfk (a.2.1.len.trans b.1.len.symm) a.2.1.u b.1.u λk=> ?_) a.1
 have e:((min s.length 128:Nat):Int)=128:=by rw[hs];rfl
 have b2:=b.2 k
 have a2:=a.2.2 k
 rw[e]at b2
 exact a2.trans b2.symm
theorem Z9l{f:Int}(f0:0≤f)(f1:f<P){s r:List UInt8}(hs:s.length≤128)(hr:isPg m f r):Q36 m f (s++r.drop s.length)=(Qku m f s,true):=by
  have hl:(s++r.drop s.length).length=128:=by have:=hr.1;simp;omega
  have a:=(Tree.pp (Z0f h f0 f1 hl)).2
  have b:=(Tree.pp (fill_b h f0 f1 s)).2
  refine Prod.ext (Zfk (a.2.1.len.trans b.1.len.symm) a.2.1.u b.1.u λk=> ?_) a.1
  have b2:=b.2 k
  have a2:=a.2.2 k
  refine a2.trans (Eq.trans ?_ b2.symm)
  by_cases hc:f*128≤(k:Int)∧(k:Int)<f*128+128
  · rw [if_pos hc,Z8w]
    by_cases hd:(k-f*128).toNat<s.length
    · rw[if_pos hd,if_pos (by omega)]
    · rw[if_neg hd,if_neg (by omega)]
      have e:(r.drop s.length).getD ((k-f*128).toNat-s.length) 0=r.getD (k-f*128).toNat 0:=by
        simp [List.getD_eq_getElem?_getD,show s.length+((k-f*128).toNat-s.length)=(k-f*128).toNat by omega]
      rw[e,hr.2 _ (by omega),show(f*128).toNat+(k-f*128).toNat=k by omega]
  · rw[if_neg hc,if_neg (by omega)]
theorem Qh0{a:Int}(ha:U a){size:Int}(hs:size=1∨size=4):Q2b m a size=decide (a%size=0∧a<128*P):=by
 have hq:=Qet h
 have h2:=h.p2
 have a0:=ha.1
 have e:IntKind.wrap IntKind.u32 size=size:=by rcases hs with rfl|rfl<;>decide
 have e0:decide (IntKind.wrap IntKind.u32 size≠0)=true:=by rcases hs with rfl|rfl<;>decide
 have t:Int.tmod a (IntKind.wrap IntKind.u32 size)=a%size:=by rw[e,Int.tmod_eq_emod_of_nonneg a0]
 have l: ∀x,x=Q4e m→a%size=0→decide (a<IntKind.wrap IntKind.u32 (IntKind.wrap IntKind.i64 (128*x)))=decide (a%size=0∧a<128*P):=λx hx hz=>by
   rw[hx,hq,IntKind.wrap_u32,IntKind.wrap_i64]
   exact decide_eq_decide.2 ⟨λh=>⟨hz,by omega⟩,λh=>by omega⟩
 refine Tree.post (Q8f m a size) (W:=λb=>b=decide (a%size=0∧a<128*P)) ?_
 unfold Q8f
 refine w_br (λh1=>w_br (λh4=> ?_) (λ_=> ?_)) (λ_=> ?_)
 · have h1: ¬size=1:=by simpa using h1
   have h4: ¬size=4:=by simpa using h4
   omega
 all_goals
   refine w_cn e0 (w_br (λhb=>w_lv λx hx=>l x hx ?_) (λhb=> ?_))
   · rw[t]at hb;exact eq_of_beq hb
   · rw[t]at hb
     exact(decide_eq_false (λh=>by rw[h.1]at hb;cases hb)).symm
theorem Z18{a:Int}(ha:U a){size:Int}(hs:size=1∨size=4):Qgo m a size=Q2b m a size:=by
 rw[Qh0 h ha hs]
 have hq:=Qyz h
 have h2:=h.p2
 have a0:=ha.1
 have a1:=ha.2
 have e:IntKind.wrap IntKind.u32 size=size:=by rcases hs with rfl|rfl<;>decide
 have e0:decide (IntKind.wrap IntKind.u32 size≠0)=true:=by rcases hs with rfl|rfl<;>decide
 have t:Int.tmod a (IntKind.wrap IntKind.u32 size)=a%size:=by rw[e,Int.tmod_eq_emod_of_nonneg a0]
 have l: ∀x,x=Q0w m→a%size=0→decide (IntKind.wrap IntKind.u64 (IntKind.wrap IntKind.u64 a+IntKind.wrap IntKind.u64 size)≤IntKind.wrap IntKind.u64 (IntKind.wrap IntKind.u64 x*128))=decide (a%size=0∧a<128*P):=λx hx hz=>by
   rw[hx,hq]
   simp only[IntKind.wrap_u64]
   refine decide_eq_decide.2 ⟨λh=>⟨hz,?_⟩,λh=> ?_⟩<;>rcases hs with rfl|rfl<;>omega
 refine Tree.post (Q3a m a size) (W:=λb=>b=decide (a%size=0∧a<128*P)) ?_
 unfold Q3a
 refine w_br (λh1=>w_br (λh4=> ?_) (λ_=> ?_)) (λ_=> ?_)
 · have h1: ¬size=1:=by simpa using h1
   have h4: ¬size=4:=by simpa using h4
   omega
 all_goals
   refine w_cn e0 (w_br (λhb=> ?_) (λhb=>w_lv λx hx=>l x hx ?_))
   · rw[t]at hb
     exact(decide_eq_false (λh=>by rw[h.1]at hb;cases hb)).symm
   · rw[t]at hb;simpa using hb
end
theorem fldj(w:Int):Q3j w 0 8=iand .u32 (ishr .u32 w 0) 255∧Q3j w 8 8=iand .u32 (ishr .u32 w 8) 255∧Q3j w 16 8=iand .u32 (ishr .u32 w 16) 255∧Q3j w 24 8=iand .u32 (ishr .u32 w 24) 255:=
 ⟨by kernel_rfl,by kernel_rfl,by kernel_rfl,by kernel_rfl⟩
theorem setj(w v:Int):Q8g w 0 8 v=putW w v 0∧Q8g w 8 8 v=putW w v 8∧Q8g w 16 8 v=putW w v 16∧Q8g w 24 8 v=putW w v 24:=
 ⟨by kernel_rfl,by kernel_rfl,by kernel_rfl,by kernel_rfl⟩
theorem sh_same{a:Int}(ha:U a):IntKind.wrap .i64 (IntKind.wrap .i64 (Int.tmod a 4)*8)=8*(a%4)∧IntKind.wrap .u32 (8*Int.tmod a 4)=8*(a%4):=by
 obtain⟨a0,a1⟩:=ha
 rw[Int.tmod_eq_emod_of_nonneg a0]
 exact⟨by rw[IntKind.wrap_i64,IntKind.wrap_i64];omega,by rw[IntKind.wrap_u32];omega⟩
section
variable {P:Nat} {m:List Int} (h:Q11 P m)
include h
theorem Qn6{a:Int}(ha:U a){size:Int}(hs:size=1∨size=4):Q54 m a size=Q1d m a size:=by
 have e:=Z18 h ha hs
 obtain⟨s1,s2⟩:=sh_same ha
 have f:Q3j (m.getD (Int.toNat (IntKind.wrap .u32 (Int.tdiv a 4))) 0) (8*(a%4)) 8=iand .u32 (ishr .u32 (m.getD (Int.toNat (IntKind.wrap .u32 (Int.tdiv a 4))) 0) (8*(a%4))) 255:=by
   obtain⟨f0,f1,f2,f3⟩:=fldj (m.getD (Int.toNat (IntKind.wrap .u32 (Int.tdiv a 4))) 0)
   have:a%4=0∨a%4=1∨a%4=2∨a%4=3:=by omega
   rcases this with h|h|h|h<;>rw[h]
   · exact f0
   · exact f1
   · exact f2
   · exact f3
 simp only[Q54,Q5r,Q1d,Q4f,Tree.m,letv,e,s1,s2,f]
omit h in
theorem Z7g(a:Int)(size:Int):(Q1d m a size).2=Q2b m a size:=by
 simp only[Q1d,Q4f,Tree.m,letv]
 cases Q2b m a size
 · rfl
 · cases size==1<;>rfl
theorem Z6{a:Int}(ha:U a){size:Int}(hs:size=1∨size=4)(v:Int):Q9o m a size v=bif Q2b m a size then(Qb2 m a size v,true) else(m,false):=by
 have hcl:Q02 m=m:=rfl
 have e:=Z18 h ha hs
 obtain⟨s1,s2⟩:=sh_same ha
 have f: ∀w,Q8g w (8*(a%4)) 8 v=ior .u32 (Qgm .u32 w (ishl .u32 255 (8*(a%4)))) (ishl .u32 (iand .u32 v 255) (8*(a%4))):=λw=>by
   obtain⟨f0,f1,f2,f3⟩:=setj w v
   have:a%4=0∨a%4=1∨a%4=2∨a%4=3:=by omega
   rcases this with h|h|h|h<;>rw[h]
   · exact f0
   · exact f1
   · exact f2
   · exact f3
 simp only[Q9o,Q4l,Qb2,Qe,Tree.m,letv,hcl,e,s1,s2,f]
 rcases hs with rfl|rfl<;>cases Q2b m a _<;>rfl
end
section
variable {P:Nat} {m:List Int} (h:Q11 P m)
include h
theorem walk_same{root va:Int}(hr:U root)(hv:U va){access:Int}(ha:access=1∨access=2∨access=3):Qhh m root va access=Q75 m root va access:=by
 have hp:=Qet h
 have h2:=h.p2
 have hlen:=h.len
 obtain⟨r1,r2⟩:=hr
 obtain⟨v1,v2⟩:=hv
 have hpg: ∀{f:Int},U f→Qal m f=decide (f<P):=λhf=>pageP_eq h hf
 have eP:IntKind.wrap .u32 (P:Int)=P:=by rw[IntKind.wrap_u32];omega
 have kn:Qem access=true:=by rcases ha with rfl|rfl|rfl<;>rfl
 have ca:Qjo access=(Q28 access,true):=by rcases ha with rfl|rfl|rfl<;>rfl
 simp only[Qhh,Q5q,Q75,Q9u,Tree.m,letv,hp,eP,kn,ca,hpg ⟨r1,r2⟩]
 by_cases c1:va≥4096
 · rw[decide_eq_true c1];rfl
 by_cases c2:root<P
 · have eE:IntKind.wrap IntKind.u32 (IntKind.wrap IntKind.u32 (root*128)+IntKind.wrap IntKind.u32 (4*IntKind.wrap IntKind.u32 (Int.tdiv va 128)))=root*128+4*(va/128):=by
     rw[Int.tdiv_eq_ediv_of_nonneg v1,IntKind.wrap_u32,IntKind.wrap_u32,IntKind.wrap_u32,IntKind.wrap_u32];omega
   have hE:U (root*128+4*(va/128)):=⟨by omega,by omega⟩
   have wi:Q2b m (root*128+4*(va/128)) 4=true:=by
     rw[Qh0 h hE (.inr rfl)];exact decide_eq_true ⟨by omega,by omega⟩
   rw[decide_eq_false c1,decide_eq_true c2,decide_eq_false (show¬root≥P by omega),eE,Qn6 h hE (.inr rfl),Z7g,wi]
   have ld:(Q1d m (root*128+4*(va/128)) 4).1=m.getD (Int.toNat (IntKind.wrap .u32 (Int.tdiv (root*128+4*(va/128)) 4))) 0:=by
     simp only[Q1d,Q4f,Tree.m,letv,wi];rfl
   rw[ld]
   generalize m.getD (Int.toNat (IntKind.wrap .u32 (Int.tdiv (root*128+4*(va/128)) 4))) 0=w
   have fo:Qeo w=iand .u32 (ishr .u32 w 8) 255:=(fld w).2.2.2.2
   rw[fo,hpg (Zh8 _ _)]
   have hge:decide (iand .u32 (ishr .u32 w 8) 255≥(P:Int))=!decide (iand .u32 (ishr .u32 w 8) 255<(P:Int)):=by
     by_cases hq:iand .u32 (ishr .u32 w 8) 255<(P:Int)
     · rw[decide_eq_true hq,decide_eq_false (by omega)];rfl
     · rw[decide_eq_false hq,decide_eq_true (by omega)];rfl
   rw[hge]
   generalize decide (iand .u32 (ishr .u32 w 8) 255<(P:Int))=d
   rcases ha with rfl|rfl|rfl
   · show _=(bif iand .u32 w 1==0 then _ else bif iand .u32 w 4==0 then _ else bif !d then _ else _)
     have:Qbn w 1=(bif iand .u32 w 1==0 then false else !(iand .u32 w 4==0)):=rfl
     rw[this]
     cases iand .u32 w 1==0<;>cases iand .u32 w 4==0<;>cases d<;>rfl
   · show _=(bif iand .u32 w 1==0 then _ else bif !d then _ else _)
     have:Qbn w 2=(bif iand .u32 w 1==0 then false else true):=rfl
     rw[this]
     cases iand .u32 w 1==0<;>cases d<;>rfl
   · show _=(bif iand .u32 w 1==0 then _ else bif iand .u32 w 2==0 then _ else bif !d then _ else _)
     have:Qbn w 3=(bif iand .u32 w 1==0 then false else !(iand .u32 w 2==0)):=rfl
     rw[this]
     cases iand .u32 w 1==0<;>cases iand .u32 w 2==0<;>cases d<;>rfl
 · rw[decide_eq_false c1,decide_eq_false c2,decide_eq_true (show root≥P by omega)];rfl
theorem Zko{a:Int}(ha:U a)(access:Int):Qcl m a access=Qnj m a access:=by
 have hcl:Q02 m=m:=rfl
 have hl:=h.len
 have a0:=ha.1
 simp only[Qcl,Q4m,Qnj,Qe9,Tree.m,letv,Qn6 h ha (.inr rfl),Z7g,Z6 h ha (.inr rfl),hcl]
 cases hw:Q2b m a 4
 · rfl
 · rw[Qh0 h ha (.inr rfl)]at hw
   have hw:=of_decide_eq_true hw
   have wi:Q2b m a 4=true:=by rw[Qh0 h ha (.inr rfl)];exact decide_eq_true hw
   have ld:(Q1d m a 4).1=m.getD (Int.toNat (IntKind.wrap .u32 (Int.tdiv a 4))) 0:=by
     simp only[Q1d,Q4f,Tree.m,letv,wi];rfl
   have pu: ∀v,Qb2 m a 4 v=m.set (Int.toNat (IntKind.wrap .u32 (Int.tdiv a 4))) v:=λv=>rfl
   rw[ld,pu,pu]
   have hi:Int.toNat (IntKind.wrap .u32 (Int.tdiv a 4))<m.length:=by
     rw[Int.tdiv_eq_ediv_of_nonneg a0,IntKind.wrap_u32];omega
   generalize Int.toNat (IntKind.wrap .u32 (Int.tdiv a 4))=i at*
   rw[Qsp hi,List.set_set]
   rfl
end
theorem Qmx{c:Q04}(h0:0≤c.B6.a0)(h:c.B6.a0≤31)(k b:Int):Q5 c k b=Q3c c k b:=by
 have e:=eq_of_beq (Qrp (λs=>Qgm .u32 (ior .u32 (Q9f (Q9f s 1 8) 2 16) 1) 2==ior .u32 (Qgm .u32 (ior .u32 (ior .u32 (Qgm .u32 s 24) (IntKind.wrap .u32 (8*Qc0 (iand .u32 s 1 !=0)))) (IntKind.wrap .u32 (16*Qc0 (iand .u32 s 2 !=0)))) 2) 1) 32 (by kernel_rfl) h0 (by omega))
 simp only[Q5,Qkk,Q3c,Qhe,Tree.m,letv,e]
theorem Zgs{c:Q04}(h0:0≤c.B6.a0)(h:c.B6.a0≤31):Qei c=Qiz c:=by
 have e:=eq_of_beq (Qrp (λs=>Q9f (Q9f s 8 1) 16 2==ior .u32 (ior .u32 (Qgm .u32 s 3) (IntKind.wrap .u32 (1*Qc0 (iand .u32 s 8 !=0)))) (IntKind.wrap .u32 (2*Qc0 (iand .u32 s 16 !=0)))) 32 (by kernel_rfl) h0 (by omega))
 simp only[Qei,Qf1,Qiz,Qd2,Tree.m,letv,e]
theorem Z5o{c:Q04}(h0:0≤c.B6.a0)(h:c.B6.a0≤31):Qkl c=(!Qaw c&&(iand .u32 c.B6.a0 4 !=0)):=
 eq_of_beq (Qrp (λs=>(iand .u32 s 5==4)==(!(iand .u32 s 1 !=0)&&(iand .u32 s 4 !=0))) 32 (by kernel_rfl) h0 (by omega))
theorem Qy9(c:Q04){r:Int}(hr:0≤r∧r<16)(v:Int):Qb7 c r v=Q1x c r v:=by
 simp only[Qb7,Q8z,Q1x,Qed,Tree.m]
 by_cases h:r=0
 · subst h;rfl
 · rw[decide_eq_true (show r>0 by omega),decide_eq_true hr.2,show(r !=0)=true by simpa using h];rfl
theorem div_same{a b:Int}(ha:U a)(hb:U b):Qc4 a b=Qcc a b:=by
  obtain⟨a0,a1⟩:=ha
  obtain⟨b0,b1⟩:=hb
  have i: ∀x,IntKind.wrap .i64 (IntKind.wrap .i32 x)=IntKind.wrap .i32 x:=λx=>by rw[IntKind.wrap_i64,IntKind.wrap_i32];omega
  have r32: ∀x,-2147483648≤IntKind.wrap .i32 x∧IntKind.wrap .i32 x<2147483648:=λx=>by rw[IntKind.wrap_i32];omega
  have q32: ∀x y:Int,-2147483648≤x∧x<2147483648→ -2147483648≤Int.tdiv x y∧Int.tdiv x y≤2147483648:=λx y hx=>by
    have h1:(Int.tdiv x y).natAbs≤x.natAbs:=by rw[Int.natAbs_tdiv];exact Nat.div_le_self _ _
    omega
  simp only[Qc4,Q5n,Qcc,Qaq,Tree.m,i]
  cases hb:b==0
  · have w: ∀z,IntKind.wrap .u32 (IntKind.wrap .i32 z)=IntKind.wrap .u32 z:=λz=>by rw[IntKind.wrap_i32,IntKind.wrap_u32,IntKind.wrap_u32];omega
    have w2:IntKind.wrap .i64 (Int.tdiv (IntKind.wrap .i32 a) (IntKind.wrap .i32 b))=Int.tdiv (IntKind.wrap .i32 a) (IntKind.wrap .i32 b):=by
      have:=q32 _ (IntKind.wrap .i32 b) (r32 a)
      rw[IntKind.wrap_i64];omega
    rw[w,w2]
    cases h1:a==2147483648
    · rfl
    · cases h2:b==4294967295
      · rfl
      · have h1:=eq_of_beq h1
        have h2:=eq_of_beq h2
        subst h1;subst h2
        rfl
  · rfl
theorem alu_same{op a b:Int}(h0:1≤op)(h1:op≤23)(ha:U a)(hb:U b):Q4u op a b=Qcz op a b:=by
 have sub:IntKind.wrap .u32 (a+IntKind.wrap .u32 (0-b))=IntKind.wrap .u32 (a-b):=by
   rw[IntKind.wrap_u32,IntKind.wrap_u32,IntKind.wrap_u32];omega
 have hop:op=1∨op=2∨op=3∨op=4∨op=5∨op=6∨op=7∨op=8∨op=9∨op=10∨op=11∨op=12∨op=13∨op=14∨op=15∨op=16∨op=17∨op=18∨op=19∨op=20∨op=21∨op=22∨op=23:=by omega
 have d:=div_same ha hb
 rcases hop with rfl|rfl|rfl|rfl|rfl|rfl|rfl|rfl|rfl|rfl|rfl|rfl|rfl|rfl|rfl|rfl|rfl|rfl|rfl|rfl|rfl|rfl|rfl
 · rfl
 · show(IntKind.wrap .u32 (a+IntKind.wrap .u32 (0-b)),true)=(IntKind.wrap .u32 (a-b),true)
   rw[sub]
 · rfl
 · rfl
 · rfl
 · rfl
 · rfl
 · rfl
 · rfl
 · show((Qc4 a b).1,true)=((Qcc a b).1,true)
   rw[d]
 · show((Qc4 a b).2,true)=((Qcc a b).2,true)
   rw[d]
 all_goals rfl
theorem Qmr{P:Nat}{m:List Int}(h:Q11 P m){c:Q04}(hc:Q2z c)(hst:c.B6.a0≤31){va:Int}(hv:U va){size:Int}(hs:size=1∨size=4){access:Int}(ha:access=1∨access=2∨access=3):Q29 c m va size access=((Q14 c m va size access).1,(Q14 c m va size access).2.2,(Q14 c m va size access).2.1):=by
 have hcl:Q02 m=m:=rfl
 have kn:Qem access=true:=by rcases ha with rfl|rfl|rfl<;>rfl
 have ca:Qqb access=(Q28 access,true):=by rcases ha with rfl|rfl|rfl<;>rfl
 have pg:=Z5o hc.a0.1 hst
 have wk:=walk_same h hc.a6 hv ha
 have tc:Qcl m (Q75 m c.B6.a6 va access).F2 access=Qnj m (Q75 m c.B6.a6 va access).F2 access:=Zko h (Tree.pp (walk_w h hc.a6 hv access)).2.2.1 access
 have sz:(bif size !=1 then bif size !=4 then false else true else true)=true:=by rcases hs with rfl|rfl<;>rfl
 simp only[Q29,Q5o,Q14,Q8c,Tree.m,letv,hcl,kn,ca,pg,wk,tc,Qn6 h hv hs,Z7g]
 rcases hs with rfl|rfl<;>
 · show(bif _ then _ else _)=_
   cases Int.tmod va _ !=0<;>cases Qaw c<;>cases iand .u32 c.B6.a0 4 !=0<;>cases(Q75 m c.B6.a6 va access).F0 !=0<;>cases Q2b m va _<;>rfl
theorem Qz3{α:Type}{Q:α→Prop}{c:Bool}{x y:α}(hx:Q x)(hy:Q y):Q (cond c x y):=by cases c<;>assumption
theorem walk_al(m:List Int)(root:Int){va:Int}(hv:U va)(access:Int):(Q75 m root va access).F0=0→(Q75 m root va access).Addr%4=va%4:=by
 have hc:Q28 access≠0:=by
   simp only[Q28,Q97,Tree.m]
   cases access==1<;>cases access==3<;>simp
 have q :(λt:Q1a=>t.F0=0→t.Addr%4=va%4) (Q75 m root va access):=by
   simp only[Q75,Q9u,Tree.m,letv]
   repeat'(first
     |exact λe=>absurd e hc
     | (intro _
        show IntKind.wrap .u32 (IntKind.wrap .u32 (_*128)+Int.tmod va 128)%4=va%4
        rw[Int.tmod_eq_emod_of_nonneg hv.1,IntKind.wrap_u32,IntKind.wrap_u32];omega)
     |refine Qz3 (Q:=λt:Q1a=>t.F0=0→t.Addr%4=va%4) ?_ ?_)
 exact q
theorem reach_al{c:Q04}{m:List Int}{va:Int}(hv:U va){size:Int}(hs:size=1∨size=4){access:Int}(ha:access=1∨access=2∨access=3):(Q14 c m va size access).2.1=0→(Q14 c m va size access).1%size=0:=by
  have kn:Qem access=true:=by rcases ha with rfl|rfl|rfl<;>rfl
  have hc:Q28 access≠0:=by
    simp only[Q28,Q97,Tree.m]
    cases access==1<;>cases access==3<;>simp
  rcases hs with rfl|rfl
  · intro _;omega
  simp only[Q14,Q8c,Tree.m,letv,kn]
  show(bif Int.tmod va 4 !=0 then((0:Int),(3:Int),m) else _).2.1=0→(bif Int.tmod va 4 !=0 then((0:Int),(3:Int),m) else _).1%4=0
  rw[Int.tmod_eq_emod_of_nonneg hv.1]
  cases hz:va%4 !=0
  · have hz:va%4=0:=by simpa using hz
    have w:=walk_al m c.B6.a6 hv access
    cases hp:Qkl c
    · cases hw:Q2b m va 4
      · exact λe=>absurd e hc
      · exact λ_=>hz
    · cases hq:(Q75 m c.B6.a6 va access).F0 !=0
      · have hq:(Q75 m c.B6.a6 va access).F0=0:=by simpa using hq
        exact λ_=>(w hq).trans hz
      · have hq: ¬(Q75 m c.B6.a6 va access).F0=0:=by simpa using hq
        exact λe=>absurd e hq
  · intro e;cases e
def eff0:Q13:={B5:=0,D1:=0,D9:=0,Value:=0}
def Q6a(c:Q04)(m:List Int)(i:Q0i):Q04×List Int×Q13:=
 bif i.Op==32 then((Q6v c m i).1,(Q6v c m i).2,eff0) else bif i.Op==33 then((Q6v c m i).1,(Q6v c m i).2,eff0) else bif i.Op==34 then((Q6v c m i).1,(Q6v c m i).2,eff0)
 else bif i.Op==35 then((Q8y c m i).1,(Q8y c m i).2,eff0) else bif i.Op==36 then((Q8y c m i).1,(Q8y c m i).2,eff0) else((Qlz c i).1,m,(Qlz c i).2)
def regX(c:Q04)(r:Int):Int:=List.getD (A16.l c.X) r.toNat 0
def Qj6(c:Q04)(m:List Int)(i:Q0i):Q04×Q13×List Int:=
 bif decide (i.Op≥56) then((Qit c i).1,(Qit c i).2,m) else bif decide (i.Op≥40) then(Z0p c i,eff0,m) else bif decide (i.Op≥32) then((Q5i c m i).1,eff0,(Q5i c m i).2)
 else bif i.Op==24 then({X:=(Q1x c i.A (ishl .u32 (IntKind.wrap .u32 i.Imm) 16)).X,Pc:=IntKind.wrap .u32 ((Q1x c i.A (ishl .u32 (IntKind.wrap .u32 i.Imm) 16)).Pc+4),B6:=(Q1x c i.A (ishl .u32 (IntKind.wrap .u32 i.Imm) 16)).B6},eff0,m)
 else bif decide (i.Op≤13) then
   ({X:=(Q1x c i.A (Qcz i.Op (regX c i.B) (regX c i.C)).1).X,Pc:=IntKind.wrap .u32 ((Q1x c i.A (Qcz i.Op (regX c i.B) (regX c i.C)).1).Pc+4),B6:=(Q1x c i.A (Qcz i.Op (regX c i.B) (regX c i.C)).1).B6},eff0,m)
 else({X:=(Q1x c i.A (Qcz i.Op (regX c i.B) (IntKind.wrap .u32 i.Imm)).1).X,Pc:=IntKind.wrap .u32 ((Q1x c i.A (Qcz i.Op (regX c i.B) (IntKind.wrap .u32 i.Imm)).1).Pc+4),B6:=(Q1x c i.A (Qcz i.Op (regX c i.B) (IntKind.wrap .u32 i.Imm)).1).B6},eff0,m)
def isOp(op:Int):Prop:=op=1∨op=2∨op=3∨op=4∨op=5∨op=6∨op=7∨op=8∨op=9∨op=10∨op=11∨op=12∨op=13∨op=16∨op=17∨op=18∨op=19∨op=20∨op=21∨op=22∨op=23∨op=24∨op=32∨op=33∨op=34∨op=35∨op=36∨op=40∨op=41∨op=42∨op=43∨op=44∨op=45∨op=48∨op=49∨op=56∨op=57∨op=58∨op=59∨op=60∨op=61∨op=62∨op=63∨op=64
theorem set_pc(c:Q04)(r v:Int):(Q1x c r v).Pc=c.Pc∧(Q1x c r v).B6=c.B6:=by
 simp only[Q1x,Qed,Tree.m]
 cases decide (r>0)
 · exact⟨rfl,rfl⟩
 · cases decide (r<16)<;>exact⟨rfl,rfl⟩
def adv(c:Q04):Q04:={X:=c.X,Pc:=IntKind.wrap .u32 (c.Pc+4),B6:=c.B6}
def va(c:Q04)(B Imm:Int):Int:=IntKind.wrap .u32 (List.getD (A16.l c.X) B.toNat 0+IntKind.wrap .u32 Imm)
def ldP(c:Q04)(A v size:Int)(f:Int→Int)(y:Int×List Int×Int):Q04×List Int:=bif y.2.2 !=0 then(Q5 c y.2.2 v,y.2.1) else(adv (Qb7 c A (f (Q54 y.2.1 y.1 size).1)),y.2.1)
def ldR(c:Q04)(A v size:Int)(f:Int→Int)(x:Int×Int×List Int):Q04×List Int:=bif x.2.1 !=0 then(Q3c c x.2.1 v,x.2.2) else(adv (Q1x c A (f (Q1d x.2.2 x.1 size).1)),x.2.2)
def stP(c:Q04)(A v size:Int)(y:Int×List Int×Int):Q04×List Int:=bif y.2.2 !=0 then(Q5 c y.2.2 v,y.2.1) else(adv c,(Q9o y.2.1 y.1 size (List.getD (A16.l c.X) A.toNat 0)).1)
def stR(c:Q04)(A v size:Int)(x:Int×Int×List Int):Q04×List Int:=bif x.2.1 !=0 then(Q3c c x.2.1 v,x.2.2) else(adv c,Qb2 x.2.2 x.1 size (List.getD (A16.l c.X) A.toNat 0))
theorem ld_eq(c:Q04)(m:List Int)(A B C Imm:Int):
   (Q6v c m ⟨32,A,B,C,Imm⟩=ldP c A (va c B Imm) 4 (λv=>v) (Q29 c m (va c B Imm) 4 2)∧Q5i c m ⟨32,A,B,C,Imm⟩=ldR c A (va c B Imm) 4 (λv=>v) (Q14 c m (va c B Imm) 4 2))∧
   (Q6v c m ⟨33,A,B,C,Imm⟩=ldP c A (va c B Imm) 1 (λv=>Q2n v 8) (Q29 c m (va c B Imm) 1 2)∧Q5i c m ⟨33,A,B,C,Imm⟩=ldR c A (va c B Imm) 1 (λv=>Q3u v 8) (Q14 c m (va c B Imm) 1 2))∧
   (Q6v c m ⟨34,A,B,C,Imm⟩=ldP c A (va c B Imm) 1 (λv=>v) (Q29 c m (va c B Imm) 1 2)∧Q5i c m ⟨34,A,B,C,Imm⟩=ldR c A (va c B Imm) 1 (λv=>v) (Q14 c m (va c B Imm) 1 2))∧
   (Q8y c m ⟨35,A,B,C,Imm⟩=stP c A (va c B Imm) 4 (Q29 c m (va c B Imm) 4 3)∧Q5i c m ⟨35,A,B,C,Imm⟩=stR c A (va c B Imm) 4 (Q14 c m (va c B Imm) 4 3))∧
   (Q8y c m ⟨36,A,B,C,Imm⟩=stP c A (va c B Imm) 1 (Q29 c m (va c B Imm) 1 3)∧Q5i c m ⟨36,A,B,C,Imm⟩=stR c A (va c B Imm) 1 (Q14 c m (va c B Imm) 1 3)):=
 ⟨⟨by kernel_rfl,by kernel_rfl⟩,⟨by kernel_rfl,by kernel_rfl⟩,⟨by kernel_rfl,by kernel_rfl⟩,⟨by kernel_rfl,by kernel_rfl⟩,⟨by kernel_rfl,by kernel_rfl⟩⟩
theorem sx_load{P:Nat}{m:List Int}(h:Q11 P m)(a:Int):Q2n (Q1d m a 1).1 8=Q3u (Q1d m a 1).1 8:=by
 have: ∀x:Int×Bool,(∃w,U w∧x=(iand .u32 w 255,true))∨x=(0,false)→Q2n x.1 8=Q3u x.1 8:=λx hx=>by
   rcases hx with⟨w,hw,rfl⟩|rfl
   · have e:=m255 hw
     exact sx8 (by show 0≤iand .u32 w 255;omega) (by show iand .u32 w 255<256;omega)
   · rfl
 refine this _ ?_
 simp only[Q1d,Q4f,Tree.m,letv]
 cases Q2b m a 1
 · exact .inr rfl
 · exact .inl ⟨_,Qur (Ql2 h.u _) _,rfl⟩
section
variable {P:Nat} {m:List Int} (h:Q11 P m) {c:Q04} (hc:Q2z c) (hst:c.B6.a0≤31)
include h hc hst
omit hst in
theorem Zfc{v:Int}(hv:U v){size:Int}(hs:size=1∨size=4)(access:Int):Q11 P (Q14 c m v size access).2.2∧U (Q14 c m v size access).1∧((Q14 c m v size access).2.1=0→(Q14 c m v size access).1<128*P):=(Tree.pp (Z8f h hc hv hs access)).2
theorem Ze9{A v:Int}(hA:0≤A∧A<16)(hv:U v){size:Int}(hs:size=1∨size=4){f g:Int→Int}(hf: ∀{m':List Int},Q11 P m'→ ∀a,f (Q1d m' a size).1=g (Q1d m' a size).1):ldP c A v size f (Q29 c m v size 2)=ldR c A v size g (Q14 c m v size 2):=by
 rw[Qmr h hc hst hv hs (.inr (.inl rfl))]
 obtain⟨k,u,_⟩:=Zfc h hc hv hs 2
 generalize Q14 c m v size 2=x at*
 simp only[ldP,ldR,Qn6 k u hs,Qmx hc.a0.1 hst,Qy9 c hA,hf k]
theorem st_same{A v:Int}(hv:U v){size:Int}(hs:size=1∨size=4):stP c A v size (Q29 c m v size 3)=stR c A v size (Q14 c m v size 3):=by
 rw[Qmr h hc hst hv hs (.inr (.inr rfl))]
 obtain⟨k,u,b⟩:=Zfc h hc hv hs 3
 have al:=reach_al (c:=c) (m:=m) hv hs (access:=3) (.inr (.inr rfl))
 generalize Q14 c m v size 3=x at*
 simp only[stP,stR,Z6 k u hs,Qmx hc.a0.1 hst,Qh0 k u hs]
 cases hq:x.2.1 !=0
 · have hq:x.2.1=0:=by simpa using hq
   rw[decide_eq_true ⟨al hq,b hq⟩];rfl
 · rfl
end
theorem write_pc(c:Q04)(k v:Int):(Qh4 c k v).Pc=c.Pc:=by
 simp only[Qh4,Qci,Tree.m]
 repeat'(first|rfl|refine Qz3 (Q:=λx:Q04=>x.Pc=c.Pc) ?_ ?_)
def setP(c:Q04)(A v p:Int):Q04:={X:=(Qb7 c A v).X,Pc:=p,B6:=(Qb7 c A v).B6}
def setR(c:Q04)(A v p:Int):Q04:={X:=(Q1x c A v).X,Pc:=p,B6:=(Q1x c A v).B6}
def nxt(c:Q04):Int:=IntKind.wrap .u32 (c.Pc+4)
theorem Zbk(c:Q04){A:Int}(hA:0≤A∧A<16)(v p:Int):setP c A v p=setR c A v p:=by
 unfold setP setR;rw[Qy9 c hA]
theorem Zfg(c:Q04)(A v:Int):adv (Q1x c A v)=setR c A v (nxt c):=by
 unfold adv setR nxt;rw[(set_pc c A v).1]
theorem brc(t:Bool)(x y:Q04)(m:List Int):((bif t then(x,eff0) else(y,eff0)).1,m,(bif t then(x,eff0) else(y,eff0)).2)=((bif t then x else y),m,eff0):=by cases t<;>rfl
def isOpB(op:Int):Bool:=decide (op=1)||decide (op=2)||decide (op=3)||decide (op=4)||decide (op=5)||decide (op=6)||decide (op=7)||decide (op=8)||decide (op=9)||decide (op=10)||decide (op=11)||decide (op=12)||decide (op=13)||decide (op=16)||decide (op=17)||decide (op=18)||decide (op=19)||decide (op=20)||decide (op=21)||decide (op=22)||decide (op=23)||decide (op=24)||decide (op=32)||decide (op=33)||decide (op=34)||decide (op=35)||decide (op=36)||decide (op=40)||decide (op=41)||decide (op=42)||decide (op=43)||decide (op=44)||decide (op=45)||decide (op=48)||decide (op=49)||decide (op=56)||decide (op=57)||decide (op=58)||decide (op=59)||decide (op=60)||decide (op=61)||decide (op=62)||decide (op=63)||decide (op=64)
section
variable {P:Nat} {m:List Int} (h:Q11 P m) {c:Q04} (hc:Q2z c) (hst:c.B6.a0≤31) {A B C Imm:Int} (hA:0≤A∧A<16)
include h hc hst hA
theorem post_same{op:Int}(hop:isOp op):Q6a c m ⟨op,A,B,C,Imm⟩=((Qj6 c m ⟨op,A,B,C,Imm⟩).1,(Qj6 c m ⟨op,A,B,C,Imm⟩).2.2,(Qj6 c m ⟨op,A,B,C,Imm⟩).2.1):=by
 have alu: ∀{k y:Int},1≤k→k≤23→U y→((setP c A (Q4u k (regX c B) y).1 (nxt c),m,eff0):Q04×List Int×Q13)=(adv (Q1x c A (Qcz k (regX c B) y).1),m,eff0):=λh1 h2 hy=>by
   rw[alu_same h1 h2 (show U (regX c B) from hc.r _) hy,Zfg,Zbk c hA]
 have uC:U (regX c C):=hc.r _
 have uI:U (IntKind.wrap .u32 Imm):=Q0s _
 obtain⟨⟨l1,l2⟩,⟨l3,l4⟩,⟨l5,l6⟩,⟨l7,l8⟩,⟨l9,l10⟩⟩:=ld_eq c m A B C Imm
 have hva:U (va c B Imm):=Q0s _
 rcases hop with rfl|rfl|rfl|rfl|rfl|rfl|rfl|rfl|rfl|rfl|rfl|rfl|rfl|rfl|rfl|rfl|rfl|rfl|rfl|rfl|rfl|rfl|rfl|rfl|rfl|rfl|rfl|rfl|rfl|rfl|rfl|rfl|rfl|rfl|rfl|rfl|rfl|rfl|rfl|rfl|rfl|rfl|rfl|rfl
 · exact(show Q6a c m ⟨1,A,B,C,Imm⟩=(setP c A (Q4u 1 (regX c B) (regX c C)).1 (nxt c),m,eff0) by kernel_rfl).trans ((alu (by decide) (by decide) uC).trans (by kernel_rfl))
 · exact(show Q6a c m ⟨2,A,B,C,Imm⟩=(setP c A (Q4u 2 (regX c B) (regX c C)).1 (nxt c),m,eff0) by kernel_rfl).trans ((alu (by decide) (by decide) uC).trans (by kernel_rfl))
 · exact(show Q6a c m ⟨3,A,B,C,Imm⟩=(setP c A (Q4u 3 (regX c B) (regX c C)).1 (nxt c),m,eff0) by kernel_rfl).trans ((alu (by decide) (by decide) uC).trans (by kernel_rfl))
 · exact(show Q6a c m ⟨4,A,B,C,Imm⟩=(setP c A (Q4u 4 (regX c B) (regX c C)).1 (nxt c),m,eff0) by kernel_rfl).trans ((alu (by decide) (by decide) uC).trans (by kernel_rfl))
 · exact(show Q6a c m ⟨5,A,B,C,Imm⟩=(setP c A (Q4u 5 (regX c B) (regX c C)).1 (nxt c),m,eff0) by kernel_rfl).trans ((alu (by decide) (by decide) uC).trans (by kernel_rfl))
 · exact(show Q6a c m ⟨6,A,B,C,Imm⟩=(setP c A (Q4u 6 (regX c B) (regX c C)).1 (nxt c),m,eff0) by kernel_rfl).trans ((alu (by decide) (by decide) uC).trans (by kernel_rfl))
 · exact(show Q6a c m ⟨7,A,B,C,Imm⟩=(setP c A (Q4u 7 (regX c B) (regX c C)).1 (nxt c),m,eff0) by kernel_rfl).trans ((alu (by decide) (by decide) uC).trans (by kernel_rfl))
 · exact(show Q6a c m ⟨8,A,B,C,Imm⟩=(setP c A (Q4u 8 (regX c B) (regX c C)).1 (nxt c),m,eff0) by kernel_rfl).trans ((alu (by decide) (by decide) uC).trans (by kernel_rfl))
 · exact(show Q6a c m ⟨9,A,B,C,Imm⟩=(setP c A (Q4u 9 (regX c B) (regX c C)).1 (nxt c),m,eff0) by kernel_rfl).trans ((alu (by decide) (by decide) uC).trans (by kernel_rfl))
 · exact(show Q6a c m ⟨10,A,B,C,Imm⟩=(setP c A (Q4u 10 (regX c B) (regX c C)).1 (nxt c),m,eff0) by kernel_rfl).trans ((alu (by decide) (by decide) uC).trans (by kernel_rfl))
 · exact(show Q6a c m ⟨11,A,B,C,Imm⟩=(setP c A (Q4u 11 (regX c B) (regX c C)).1 (nxt c),m,eff0) by kernel_rfl).trans ((alu (by decide) (by decide) uC).trans (by kernel_rfl))
 · exact(show Q6a c m ⟨12,A,B,C,Imm⟩=(setP c A (Q4u 12 (regX c B) (regX c C)).1 (nxt c),m,eff0) by kernel_rfl).trans ((alu (by decide) (by decide) uC).trans (by kernel_rfl))
 · exact(show Q6a c m ⟨13,A,B,C,Imm⟩=(setP c A (Q4u 13 (regX c B) (regX c C)).1 (nxt c),m,eff0) by kernel_rfl).trans ((alu (by decide) (by decide) uC).trans (by kernel_rfl))
 · exact(show Q6a c m ⟨16,A,B,C,Imm⟩=(setP c A (Q4u 16 (regX c B) (IntKind.wrap .u32 Imm)).1 (nxt c),m,eff0) by kernel_rfl).trans ((alu (by decide) (by decide) uI).trans (by kernel_rfl))
 · exact(show Q6a c m ⟨17,A,B,C,Imm⟩=(setP c A (Q4u 17 (regX c B) (IntKind.wrap .u32 Imm)).1 (nxt c),m,eff0) by kernel_rfl).trans ((alu (by decide) (by decide) uI).trans (by kernel_rfl))
 · exact(show Q6a c m ⟨18,A,B,C,Imm⟩=(setP c A (Q4u 18 (regX c B) (IntKind.wrap .u32 Imm)).1 (nxt c),m,eff0) by kernel_rfl).trans ((alu (by decide) (by decide) uI).trans (by kernel_rfl))
 · exact(show Q6a c m ⟨19,A,B,C,Imm⟩=(setP c A (Q4u 19 (regX c B) (IntKind.wrap .u32 Imm)).1 (nxt c),m,eff0) by kernel_rfl).trans ((alu (by decide) (by decide) uI).trans (by kernel_rfl))
 · exact(show Q6a c m ⟨20,A,B,C,Imm⟩=(setP c A (Q4u 20 (regX c B) (IntKind.wrap .u32 Imm)).1 (nxt c),m,eff0) by kernel_rfl).trans ((alu (by decide) (by decide) uI).trans (by kernel_rfl))
 · exact(show Q6a c m ⟨21,A,B,C,Imm⟩=(setP c A (Q4u 21 (regX c B) (IntKind.wrap .u32 Imm)).1 (nxt c),m,eff0) by kernel_rfl).trans ((alu (by decide) (by decide) uI).trans (by kernel_rfl))
 · exact(show Q6a c m ⟨22,A,B,C,Imm⟩=(setP c A (Q4u 22 (regX c B) (IntKind.wrap .u32 Imm)).1 (nxt c),m,eff0) by kernel_rfl).trans ((alu (by decide) (by decide) uI).trans (by kernel_rfl))
 · exact(show Q6a c m ⟨23,A,B,C,Imm⟩=(setP c A (Q4u 23 (regX c B) (IntKind.wrap .u32 Imm)).1 (nxt c),m,eff0) by kernel_rfl).trans ((alu (by decide) (by decide) uI).trans (by kernel_rfl))
 · refine(show Q6a c m ⟨24,A,B,C,Imm⟩=(setP c A (ishl .u32 (IntKind.wrap .u32 Imm) 16) (nxt c),m,eff0) by kernel_rfl).trans ?_
   rw[Zbk c hA,←Zfg];kernel_rfl
 · have e:=Ze9 h hc hst hA hva (.inr rfl) (f:=λv=>v) (g:=λv=>v) (λ_ _=>rfl)
   rw[←l1,←l2]at e
   refine(show Q6a c m ⟨32,A,B,C,Imm⟩=((Q6v c m ⟨32,A,B,C,Imm⟩).1,(Q6v c m ⟨32,A,B,C,Imm⟩).2,eff0) by kernel_rfl).trans ?_
   rw[e];kernel_rfl
 · have e:=Ze9 h hc hst hA hva (.inl rfl) (f:=λv=>Q2n v 8) (g:=λv=>Q3u v 8) (λhm a=>sx_load hm a)
   rw[←l3,←l4]at e
   refine(show Q6a c m ⟨33,A,B,C,Imm⟩=((Q6v c m ⟨33,A,B,C,Imm⟩).1,(Q6v c m ⟨33,A,B,C,Imm⟩).2,eff0) by kernel_rfl).trans ?_
   rw[e];kernel_rfl
 · have e:=Ze9 h hc hst hA hva (.inl rfl) (f:=λv=>v) (g:=λv=>v) (λ_ _=>rfl)
   rw[←l5,←l6]at e
   refine(show Q6a c m ⟨34,A,B,C,Imm⟩=((Q6v c m ⟨34,A,B,C,Imm⟩).1,(Q6v c m ⟨34,A,B,C,Imm⟩).2,eff0) by kernel_rfl).trans ?_
   rw[e];kernel_rfl
 · have e:=st_same h hc hst (A:=A) hva (.inr rfl)
   rw[←l7,←l8]at e
   refine(show Q6a c m ⟨35,A,B,C,Imm⟩=((Q8y c m ⟨35,A,B,C,Imm⟩).1,(Q8y c m ⟨35,A,B,C,Imm⟩).2,eff0) by kernel_rfl).trans ?_
   rw[e];kernel_rfl
 · have e:=st_same h hc hst (A:=A) hva (.inl rfl)
   rw[←l9,←l10]at e
   refine(show Q6a c m ⟨36,A,B,C,Imm⟩=((Q8y c m ⟨36,A,B,C,Imm⟩).1,(Q8y c m ⟨36,A,B,C,Imm⟩).2,eff0) by kernel_rfl).trans ?_
   rw[e];kernel_rfl
 · exact(show Q6a c m ⟨40,A,B,C,Imm⟩=((bif(Q2l 40 (regX c A) (regX c B)) then((⟨c.X,IntKind.wrap .u32 (c.Pc+IntKind.wrap .u32 (4*IntKind.wrap .u32 Imm)),c.B6⟩:Q04),eff0) else(⟨c.X,nxt c,c.B6⟩,eff0)).1,m,(bif(Q2l 40 (regX c A) (regX c B)) then((⟨c.X,IntKind.wrap .u32 (c.Pc+IntKind.wrap .u32 (4*IntKind.wrap .u32 Imm)),c.B6⟩:Q04),eff0) else(⟨c.X,nxt c,c.B6⟩,eff0)).2) by kernel_rfl).trans ((brc (Q2l 40 (regX c A) (regX c B)) ⟨c.X,IntKind.wrap .u32 (c.Pc+IntKind.wrap .u32 (4*IntKind.wrap .u32 Imm)),c.B6⟩ ⟨c.X,nxt c,c.B6⟩ m).trans (by kernel_rfl))
 · exact(show Q6a c m ⟨41,A,B,C,Imm⟩=((bif(Q2l 41 (regX c A) (regX c B)) then((⟨c.X,IntKind.wrap .u32 (c.Pc+IntKind.wrap .u32 (4*IntKind.wrap .u32 Imm)),c.B6⟩:Q04),eff0) else(⟨c.X,nxt c,c.B6⟩,eff0)).1,m,(bif(Q2l 41 (regX c A) (regX c B)) then((⟨c.X,IntKind.wrap .u32 (c.Pc+IntKind.wrap .u32 (4*IntKind.wrap .u32 Imm)),c.B6⟩:Q04),eff0) else(⟨c.X,nxt c,c.B6⟩,eff0)).2) by kernel_rfl).trans ((brc (Q2l 41 (regX c A) (regX c B)) ⟨c.X,IntKind.wrap .u32 (c.Pc+IntKind.wrap .u32 (4*IntKind.wrap .u32 Imm)),c.B6⟩ ⟨c.X,nxt c,c.B6⟩ m).trans (by kernel_rfl))
 · exact(show Q6a c m ⟨42,A,B,C,Imm⟩=((bif(Q2l 42 (regX c A) (regX c B)) then((⟨c.X,IntKind.wrap .u32 (c.Pc+IntKind.wrap .u32 (4*IntKind.wrap .u32 Imm)),c.B6⟩:Q04),eff0) else(⟨c.X,nxt c,c.B6⟩,eff0)).1,m,(bif(Q2l 42 (regX c A) (regX c B)) then((⟨c.X,IntKind.wrap .u32 (c.Pc+IntKind.wrap .u32 (4*IntKind.wrap .u32 Imm)),c.B6⟩:Q04),eff0) else(⟨c.X,nxt c,c.B6⟩,eff0)).2) by kernel_rfl).trans ((brc (Q2l 42 (regX c A) (regX c B)) ⟨c.X,IntKind.wrap .u32 (c.Pc+IntKind.wrap .u32 (4*IntKind.wrap .u32 Imm)),c.B6⟩ ⟨c.X,nxt c,c.B6⟩ m).trans (by kernel_rfl))
 · exact(show Q6a c m ⟨43,A,B,C,Imm⟩=((bif(Q2l 43 (regX c A) (regX c B)) then((⟨c.X,IntKind.wrap .u32 (c.Pc+IntKind.wrap .u32 (4*IntKind.wrap .u32 Imm)),c.B6⟩:Q04),eff0) else(⟨c.X,nxt c,c.B6⟩,eff0)).1,m,(bif(Q2l 43 (regX c A) (regX c B)) then((⟨c.X,IntKind.wrap .u32 (c.Pc+IntKind.wrap .u32 (4*IntKind.wrap .u32 Imm)),c.B6⟩:Q04),eff0) else(⟨c.X,nxt c,c.B6⟩,eff0)).2) by kernel_rfl).trans ((brc (Q2l 43 (regX c A) (regX c B)) ⟨c.X,IntKind.wrap .u32 (c.Pc+IntKind.wrap .u32 (4*IntKind.wrap .u32 Imm)),c.B6⟩ ⟨c.X,nxt c,c.B6⟩ m).trans (by kernel_rfl))
 · exact(show Q6a c m ⟨44,A,B,C,Imm⟩=((bif(Q2l 44 (regX c A) (regX c B)) then((⟨c.X,IntKind.wrap .u32 (c.Pc+IntKind.wrap .u32 (4*IntKind.wrap .u32 Imm)),c.B6⟩:Q04),eff0) else(⟨c.X,nxt c,c.B6⟩,eff0)).1,m,(bif(Q2l 44 (regX c A) (regX c B)) then((⟨c.X,IntKind.wrap .u32 (c.Pc+IntKind.wrap .u32 (4*IntKind.wrap .u32 Imm)),c.B6⟩:Q04),eff0) else(⟨c.X,nxt c,c.B6⟩,eff0)).2) by kernel_rfl).trans ((brc (Q2l 44 (regX c A) (regX c B)) ⟨c.X,IntKind.wrap .u32 (c.Pc+IntKind.wrap .u32 (4*IntKind.wrap .u32 Imm)),c.B6⟩ ⟨c.X,nxt c,c.B6⟩ m).trans (by kernel_rfl))
 · exact(show Q6a c m ⟨45,A,B,C,Imm⟩=((bif(Q2l 45 (regX c A) (regX c B)) then((⟨c.X,IntKind.wrap .u32 (c.Pc+IntKind.wrap .u32 (4*IntKind.wrap .u32 Imm)),c.B6⟩:Q04),eff0) else(⟨c.X,nxt c,c.B6⟩,eff0)).1,m,(bif(Q2l 45 (regX c A) (regX c B)) then((⟨c.X,IntKind.wrap .u32 (c.Pc+IntKind.wrap .u32 (4*IntKind.wrap .u32 Imm)),c.B6⟩:Q04),eff0) else(⟨c.X,nxt c,c.B6⟩,eff0)).2) by kernel_rfl).trans ((brc (Q2l 45 (regX c A) (regX c B)) ⟨c.X,IntKind.wrap .u32 (c.Pc+IntKind.wrap .u32 (4*IntKind.wrap .u32 Imm)),c.B6⟩ ⟨c.X,nxt c,c.B6⟩ m).trans (by kernel_rfl))
 · refine(show Q6a c m ⟨48,A,B,C,Imm⟩=(setP c A (nxt c) (IntKind.wrap .u32 ((Qb7 c A (nxt c)).Pc+IntKind.wrap .u32 (4*IntKind.wrap .u32 Imm))),m,eff0) by kernel_rfl).trans ?_
   rw[Zbk c hA,Qy9 c hA,(set_pc c A (nxt c)).1];kernel_rfl
 · refine(show Q6a c m ⟨49,A,B,C,Imm⟩=(setP c A (nxt c) (va c B Imm),m,eff0) by kernel_rfl).trans ?_
   rw[Zbk c hA];kernel_rfl
 · refine(show Q6a c m ⟨56,A,B,C,Imm⟩=(Q5 c 7 0,m,eff0) by kernel_rfl).trans ?_
   rw[Qmx hc.a0.1 hst];kernel_rfl
 · refine(show Q6a c m ⟨57,A,B,C,Imm⟩=(Qei c,m,eff0) by kernel_rfl).trans ?_
   rw[Zgs hc.a0.1 hst];kernel_rfl
 · refine(show Q6a c m ⟨58,A,B,C,Imm⟩=(setP c A (List.getD (A8.l c.B6) Imm.toNat 0) (nxt c),m,eff0) by kernel_rfl).trans ?_
   rw[Zbk c hA,←Zfg];kernel_rfl
 · have e:=write_pc c (IntKind.wrap .i64 Imm) (regX c A)
   refine(show Q6a c m ⟨59,A,B,C,Imm⟩=((⟨(Qh4 c (IntKind.wrap .i64 Imm) (regX c A)).X,IntKind.wrap .u32 (c.Pc+4),(Qh4 c (IntKind.wrap .i64 Imm) (regX c A)).B6⟩:Q04),m,eff0) by kernel_rfl).trans ?_
   rw[←e];kernel_rfl
 · exact(show Q6a c m ⟨60,A,B,C,Imm⟩=((Qj6 c m ⟨60,A,B,C,Imm⟩).1,(Qj6 c m ⟨60,A,B,C,Imm⟩).2.2,(Qj6 c m ⟨60,A,B,C,Imm⟩).2.1) by kernel_rfl)
 · exact(show Q6a c m ⟨61,A,B,C,Imm⟩=((Qj6 c m ⟨61,A,B,C,Imm⟩).1,(Qj6 c m ⟨61,A,B,C,Imm⟩).2.2,(Qj6 c m ⟨61,A,B,C,Imm⟩).2.1) by kernel_rfl)
 · exact(show Q6a c m ⟨62,A,B,C,Imm⟩=((Qj6 c m ⟨62,A,B,C,Imm⟩).1,(Qj6 c m ⟨62,A,B,C,Imm⟩).2.2,(Qj6 c m ⟨62,A,B,C,Imm⟩).2.1) by kernel_rfl)
 · exact(show Q6a c m ⟨63,A,B,C,Imm⟩=((Qj6 c m ⟨63,A,B,C,Imm⟩).1,(Qj6 c m ⟨63,A,B,C,Imm⟩).2.2,(Qj6 c m ⟨63,A,B,C,Imm⟩).2.1) by kernel_rfl)
 · exact(show Q6a c m ⟨64,A,B,C,Imm⟩=((Qj6 c m ⟨64,A,B,C,Imm⟩).1,(Qj6 c m ⟨64,A,B,C,Imm⟩).2.2,(Qj6 c m ⟨64,A,B,C,Imm⟩).2.1) by kernel_rfl)
end
theorem form_op{op:Int}(h0:0≤op)(h1:op<256)(h:Q2s op≠0):isOp op:=by
 have e:=of_decide_eq_true (Qrp (λop=>decide (Q2s op=0∨isOpB op=true)) 256 (by kernel_rfl) h0 h1)
 rcases e with e|e
 · exact absurd e h
 · simpa only[isOpB,isOp,Bool.or_eq_true,decide_eq_true_eq,or_assoc] using e
theorem isOp_le{op:Int}(o:isOp op):1≤op∧op≤64:=by
 unfold isOp at o
 rcases o with h|h|h|h|h|h|h|h|h|h|h|h|h|h|h|h|h|h|h|h|h|h|h|h|h|h|h|h|h|h|h|h|h|h|h|h|h|h|h|h|h|h|h|h<;>(rw[h];decide)
theorem decode_op{w:Int}(hw:U w):(Q22 w).2=true→isOp (Q22 w).1.Op:=by
  have s24:ishr .u32 w 24=w/16777216:=by have:=Qpt (a:=w) 24 (by decide);simpa using this
  obtain⟨w0,w1⟩:=hw
  have eo:IntKind.wrap .i64 (w/16777216)=w/16777216:=w64 (by omega) (by omega)
  have q:(λr:Q0i×Bool=>r.2=true→isOp r.1.Op) (Q22 w):=by
    simp only[Q22,Q74,Tree.m,letv,s24,eo]
    cases hf:Q2s (w/16777216)==0
    · have g:isOp (w/16777216):=form_op (by omega) (by omega) (by simpa using hf)
      repeat'(first
        |exact λ_=>g
        |exact λe=>Bool.noConfusion (show false=true from e)
        |refine Qz3 (Q:=λr:Q0i×Bool=>r.2=true→isOp r.1.Op) ?_ ?_)
    · exact λe=>Bool.noConfusion (show false=true from e)
  exact q
section
variable (c:Q04) (m:List Int)
def doR(x:Int×Int×List Int)(w:Int)(d:Q0i×Bool):Q04×Q13×List Int:=
 bif x.2.1 !=0 then(Q3c c x.2.1 c.Pc,eff0,x.2.2) else bif !d.2 then(Q3c c 1 w,eff0,x.2.2) else bif Q3t d.1.Op then(bif iand .u32 c.B6.a0 1==0 then(Q3c c 2 w,eff0,x.2.2) else Qj6 c x.2.2 d.1) else Qj6 c x.2.2 d.1
def doP(y:Int×List Int×Int)(d:Q0i×Bool):Q04×List Int×Q13:=
 bif y.2.2 !=0 then(Q5 c y.2.2 c.Pc,y.2.1,eff0) else bif !d.2 then(Q5 c 1 y.1,y.2.1,eff0) else bif Q96 d.1.Op then(bif !Qaw c then(Q5 c 2 y.1,y.2.1,eff0) else Q6a c y.2.1 d.1) else Q6a c y.2.1 d.1
theorem do_eq:Q7u c m=doR c (Q14 c m c.Pc 4 1) (Q1d (Q14 c m c.Pc 4 1).2.2 (Q14 c m c.Pc 4 1).1 4).1 (Q22 (Q1d (Q14 c m c.Pc 4 1).2.2 (Q14 c m c.Pc 4 1).1 4).1):=by kernel_rfl
theorem exec_eq:Q5p c m=doP c (Qn2 c m) (Qh (Qn2 c m).1):=by kernel_rfl
theorem fetch_eq:Qn2 c m=bif(Q29 c m c.Pc 4 1).2.2 !=0 then(0,(Q29 c m c.Pc 4 1).2.1,(Q29 c m c.Pc 4 1).2.2) else((Q54 (Q29 c m c.Pc 4 1).2.1 (Q29 c m c.Pc 4 1).1 4).1,(Q29 c m c.Pc 4 1).2.1,0):=by kernel_rfl
end
theorem Z9t{P:Nat}{m:List Int}(h:Q11 P m){c:Q04}(hc:Q2z c)(hst:c.B6.a0≤31):Q5p c m=((Q7u c m).1,(Q7u c m).2.2,(Q7u c m).2.1):=by
  obtain⟨k,u,b⟩:=Zfc h hc hc.pc (.inr rfl) 1
  have tr: ∀k b,Q5 c k b=Q3c c k b:=Qmx hc.a0.1 hst
  rw[exec_eq,do_eq,fetch_eq,Qmr h hc hst hc.pc (.inr rfl) (.inl rfl)]
  generalize Q14 c m c.Pc 4 1=x at*
  cases hx:x.2.1 !=0
  · rw [Qn6 k u (.inr rfl)]
    have hw:U (Q1d x.2.2 x.1 4).1:=(Tree.pp (Zac k u (.inr rfl))).2
    generalize(Q1d x.2.2 x.1 4).1=w at*
    show doP c (w,x.2.2,0) (Qh w)=_
    rw[decode_eq hw]
    have o:=decode_op hw
    have i:=Tree.post _ (Zia w)
    change(Q22 w).2=true→Qez (Q22 w).1 at i
    generalize Q22 w=d at*
    obtain⟨⟨op,A,B,C,Imm⟩,ok⟩:=d
    cases ok
    · simp only[doP,doR,hx,tr];rfl
    · have o:isOp op:=o rfl
      have i:=i rfl
      have p:=post_same (C:=C) (B:=B) (Imm:=Imm) k hc hst i.a o
      have pv:Q96 op=Q3t op:=priv_eq (by have:=isOp_le o;omega) (by have:=isOp_le o;omega)
      have kn:(!Qaw c)=(iand .u32 c.B6.a0 1==0):=by
        show(!(!(iand .u32 c.B6.a0 1==0)))=_
        exact Bool.not_not _
      simp only[doP,doR,hx,tr,pv,kn,p]
      cases Q3t op
      · rfl
      · cases iand .u32 c.B6.a0 1==0<;>rfl
  · simp only[doP,doR,hx,cond_true,tr]
theorem ge_not{a b:Int}:decide (a≥b)=!decide (a<b):=by
 by_cases h:a<b
 · rw[decide_eq_true h,decide_eq_false (by omega)];rfl
 · rw[decide_eq_false h,decide_eq_true (by omega)];rfl
def bits(g:Int)(l:List Nat)(s:Int):Int:=l.foldl (λ(a:Int) (i:Nat)=>IntKind.wrap .i64 (a+IntKind.wrap .i64 (iand .u32 (ishr .u32 g (i:Int)) 1))) s
theorem given_eq(b:Q06):Qdx b=bits b.C3 [0,1,2,3,4,5,6,7,8,9,10,11,12,13,14,15,16,17,18,19,20,21,22,23,24,25,26,27,28,29,30,31] 0:=by kernel_rfl
theorem bit_eq{g:Int}(hg:U g){i:Nat}(hi:i≤32):IntKind.wrap .i64 (iand .u32 (ishr .u32 g (i:Int)) 1)=g/2^i%2:=by
 rw[and1 (Qur hg _),Qpt i hi]
 have:0≤g/2^i%2∧g/2^i%2<2:=by omega
 exact w64 (by omega) (by omega)
theorem bits_sum{g:Int}(hg:U g)(l:List Nat): ∀s:Int,(∀i∈l,i≤32)→0≤s→s+l.length≤1000→bits g l s=s+(l.map λi=>g/2^i%2).sum:=by
 induction l with
 |nil=>intro s _ _ _;simp [bits]
 | cons i l ih=>
   intro s hl h0 h1
   have h1:s+(l.length+1)≤1000:=by simpa using h1
   have hb:0≤g/2^i%2∧g/2^i%2<2:=by omega
   have e:bits g (i::l) s=bits g l (s+g/2^i%2):=by
     show bits g l (IntKind.wrap .i64 (s+IntKind.wrap .i64 (iand .u32 (ishr .u32 g (i:Int)) 1)))=_
     rw[bit_eq hg (hl i (by simp)),w64 (by omega) (by omega)]
   rw[e,ih _ (λj hj=>hl j (by simp [hj])) (by omega) (by omega)]
   simp;omega
theorem Zkq(n:Q0o)(port:Int):Qyw n port=Qh8 n port:=by
 simp only[Qyw,Qsv,Qh8,Qfp,Tree.m]
 cases n.C7<;>cases n.B8<;>rfl
theorem Z2k(t:Q0g):Q4y t=Qde t:=by
 simp only[Q4y,Qlc,Qde,Qho,Tree.m]
 cases t.D2<;>cases t.D5<;>rfl
theorem Zc(n:Q0o)(p:Int):Q6l n p=Qiv n p:=by
 simp only[Q6l,Qkp,Qiv,Ql6,Tree.m]
 cases n.C7<;>cases n.B8<;>rfl
theorem Z7x(d:Q0c)(p:Int):Q1k d p=Qf3 d p:=by
  simp only[Q1k,Q6o,Qa7,Q81,Qf3,Qjt,Tree.m,letv,ge_not]
  cases decide (d.Blocks>64)
  · by_cases s:d.C0=0∨d.C0=1∨d.C0=2∨d.C0=3
    · rcases s with s|s|s|s<;>rw[s]
      · rfl
      · by_cases c1:d.D8=1
        · rw[c1];cases decide (d.B7<d.Blocks)<;>cases decide (IntKind.wrap .i64 d.B3<p)<;>cases decide (d.C4=[])<;>rfl
        · by_cases c2:d.D8=2
          · rw[c2];cases decide (d.B7<d.Blocks)<;>cases decide (IntKind.wrap .i64 d.B3<p)<;>cases(d.C4.length:Int)==128<;>rfl
          · rw[show(d.D8==1)=false by simpa using c1,show(d.D8==2)=false by simpa using c2]
            cases decide (d.B7<d.Blocks)<;>cases decide (IntKind.wrap .i64 d.B3<p)<;>rfl
      · rfl
      · rfl
    · rw[show(d.C0==0)=false by simp;omega,show(d.C0==1)=false by simp;omega,show(d.C0==2)=false by simp;omega,show(d.C0==3)=false by simp;omega]
      by_cases n:d.C0<0
      · rw[decide_eq_true n];rfl
      · rw[decide_eq_false n,decide_eq_true (show d.C0>3 by omega)];rfl
  · rfl
theorem con_same(c:Q0b):Qa6 c=Q67 c:=by
 show(!decide (c.D3=[]))=decide ((c.D3.length:Int)>0)
 cases c.D3 with
 |nil=>rfl
 |cons a l=>rw[decide_eq_false (by simp),decide_eq_true (by simp)];rfl
theorem len_nil(k:List UInt8):decide (k=[])=((k.length:Int)==0):=by
 cases k with
 |nil=>rfl
 | cons a l=>
   rw[decide_eq_false (by simp)]
   exact(beq_eq_false_iff_ne.2 (by simp;omega)).symm
theorem Zku(c:Q0b)(port:Int):Qok c port=Q5w c port:=by
 simp only[Qok,Q9t,Q5w,Q42,Tree.m,len_nil]
 cases port==0
 · rfl
 · cases(c.D3.length:Int)==0<;>rfl
theorem arm_same(t:Q0g)(v:Int):Qkd t v=Qru v:=by
 simp only[Qkd,Qld,Qru,Qv,Tree.m]
 cases h:v==0
 · rw[show(v !=0)=true by simp only[bne,h];rfl];rfl
 · rw[show(v !=0)=false by simp only[bne,h];rfl,eq_of_beq h];rfl
section
variable {P:Nat} {m:List Int} (h:Q11 P m)
include h
theorem Z61(f:Int):Qad m f=Q2e m f:=by
 have a:=Q47 h
 have b:=Qet h
 simp only[Qad,Qdo,Q2e,Qig,Tree.m,letv,a,b]
theorem Z4m(f:Int):Qay m f=Q2e m f:=by
 have a:=Q47 h
 have b:=Qet h
 simp only[Qay,Qfl,Q2e,Qig,Tree.m,letv,a,b]
theorem Zd7(d:Q0c)(port:Int)(v:Int)(at0:Int):Qy5 d m port v at0=Qfs d m port v at0:=by
  have pg:=Z61 h
  have pa:=Ze1 h
  have rq: ∀d a,Qj7 d a=Qjm d a:=λ_ _=>rfl
  simp only[Qy5,Qas,Quf,Q79,Qfs,Q94,Tree.m,letv,pg,pa,rq]
  cases port==4
  · cases port==5
    · cases h6:port==6
      · rw[show(port !=6)=true by simp only[bne,h6];rfl];rfl
      · rw [show(port !=6)=false by simp only[bne,h6];rfl]
        by_cases v1:v=1
        · subst v1
          cases hs:d.C0==0
          · rw[show(d.C0 !=0)=true by simp only[bne,hs];rfl];rfl
          · rw[show(d.C0 !=0)=false by simp only[bne,hs];rfl];rfl
        · by_cases v2:v=2
          · subst v2
            cases hs:d.C0==0
            · rw[show(d.C0 !=0)=true by simp only[bne,hs];rfl];rfl
            · rw[show(d.C0 !=0)=false by simp only[bne,hs];rfl];rfl
          · rw[show(v==1)=false by simpa using v1,show(v==2)=false by simpa using v2]
            cases v==0
            · rfl
            · have:Qaf d=(bif d.C0==2 then true else d.C0==3):=rfl
              rw[this]
              cases d.C0==2<;>cases d.C0==3<;>rfl
    · rfl
  · rfl
theorem Zf5(n:Q0o)(port:Int)(v:Int)(at0:Int):Z7w n m port v at0=Qil n m port v at0:=by
  have pg:=Z4m h
  have pa:=Ze1 h
  simp only[Z7w,Qdl,Z6k,Qb4,Qil,Qav,Tree.m,letv,pg,pa]
  have g1:decide (n.E0≥1)=!decide (n.E0<1):=ge_not
  have g2:decide (n.E0≤128)=!decide (n.E0>128):=by
    by_cases h:n.E0>128
    · rw[decide_eq_true h,decide_eq_false (by omega)];rfl
    · rw[decide_eq_false h,decide_eq_true (by omega)];rfl
  rw[g1,g2]
  cases port==7
  · cases port==8
    · cases h9:port==9
      · rw[show(port !=9)=true by simp only[bne,h9];rfl];rfl
      · rw [show(port !=9)=false by simp only[bne,h9];rfl]
        by_cases v1:v=1
        · subst v1
          cases decide (n.E0<1)<;>cases decide (n.E0>128)<;>cases Q2e m n.B4<;>rfl
        · by_cases v2:v=2
          · subst v2;rfl
          · rw[show(v==1)=false by simpa using v1,show(v==2)=false by simpa using v2]
            cases v==0<;>rfl
    · rfl
  · rfl
theorem Z8{d:Q0c}(hd:Q9e d)(e:Q08):Qgs d m e=((Q8r d m e).1,(Q8r d m e).2.2,(Q8r d m e).2.1):=by
  have hcl:Q02 m=m:=rfl
  have pg:=Z61 h d.B3
  have lp:decide ((e.C6.length:Int)>0)=!decide (e.C6=[]):=by
    cases e.C6 with
    |nil=>rfl
    |cons a l=>rw[decide_eq_true (by simp),decide_eq_false (by simp)];rfl
  have bad:(e.C6.length:Int)≠128→Q2e m d.B3=true→Q36 m (IntKind.wrap .i64 d.B3) e.C6=(m,false):=λhl hp=>by
    rw[Qlh h hd.opFrame]at hp
    have hp:=of_decide_eq_true hp
    have h1:=hd.opFrame.1
    have h3:=h.p2
    have ew:IntKind.i64.wrap d.B3=d.B3:=w64 (by omega) (by omega)
    simp only[Q36,Q2f,Tree.m,letv,hcl,ew,Z92 h,decide_eq_true (⟨h1,hp⟩:0≤d.B3∧d.B3<P),show((e.C6.length:Int) !=128)=true by simpa using hl]
    rfl
  have good:(e.C6.length:Int)=128→Q2e m d.B3=true→Q36 m (IntKind.wrap .i64 d.B3) e.C6=(Qku m (IntKind.wrap .i64 d.B3) e.C6,true):=λhl hp=>by
    rw[Qlh h hd.opFrame]at hp
    have hp:=of_decide_eq_true hp
    have h1:=hd.opFrame.1
    have h3:=h.p2
    have ew:IntKind.i64.wrap d.B3=d.B3:=w64 (by omega) (by omega)
    rw[ew];exact Zdy h h1 hp (by omega)
  simp only[Qgs,Q4o,Q8r,Q73,Tree.m,letv,hcl,pg,lp]
  cases d.C0 !=1
  · cases e.B5 !=4
    · cases decide (e.N>1)
      · cases e.N==1
        · cases decide (e.C6=[])<;>rfl
        · cases hc:d.D8==1
          · cases decide (e.C6=[])<;>rfl
          · by_cases hl:(e.C6.length:Int)=128
            · rw[show((e.C6.length:Int) !=128)=false by simpa using hl]
              cases hp:Q2e m d.B3
              · rfl
              · rw[good hl hp];rfl
            · rw[show((e.C6.length:Int) !=128)=true by simpa using hl]
              cases hp:Q2e m d.B3
              · rfl
              · rw[bad hl hp];rfl
      · rfl
    · rfl
  · rfl
theorem Zdp{n:Q0o}(hn:Qj4 n)(frame:List UInt8):Qlo n m frame=((Q8i n m frame).1,(Q8i n m frame).2.2,(Q8i n m frame).2.1):=by
  have hcl:Q02 m=m:=rfl
  have pg:=Z4m h n.B9
  simp only[Qlo,Q6y,Q8i,Q70,Tree.m,letv,hcl,pg]
  cases !n.C7
  · cases decide ((frame.length:Int)<1)
    · cases hf:decide ((frame.length:Int)>128)
      · cases hp:Q2e m n.B9
        · rfl
        · rw[Qlh h hn.buffer]at hp
          have hp:=of_decide_eq_true hp
          have h1:=hn.buffer.1
          have h3:=h.p2
          have ew:IntKind.i64.wrap n.B9=n.B9:=w64 (by omega) (by omega)
          have hf:=of_decide_eq_false hf
          obtain⟨b1,b2⟩:=(Tree.pp (mpage_b h h1 hp)).2
          change isPg m n.B9 (Q6b m n.B9).1 at b1
          have tk:List.take (Int.toNat ((Q6b m n.B9).1.length:Int)-Int.toNat (frame.length:Int)) (List.drop (Int.toNat (frame.length:Int)) (Q6b m n.B9).1)=(Q6b m n.B9).1.drop frame.length:=by
            rw[Int.toNat_natCast,Int.toNat_natCast]
            exact List.take_of_length_le (by simp)
          rw[ew,tk,Z9l h h1 hp (by omega) b1]
          rfl
      · rfl
    · rfl
  · rfl
end
def ptab:List UInt8:=(List.range 256).map λn=>UInt8.ofNat (n%2+n/2%2+n/4%2+n/8%2+n/16%2+n/32%2+n/64%2+n/128%2)
def pt(n:Int):Int:=((UInt8.toNat (ptab.getD n.toNat 0):Nat):Int)
theorem pop_form(x:Int):Q78 x=IntKind.wrap .i64 (IntKind.wrap .u8 (IntKind.wrap .u8 (IntKind.wrap .u8 (pt (ishr .u32 x 24)+pt (iand .u32 (ishr .u32 x 16) 255))+pt (iand .u32 (ishr .u32 x 8) 255))+pt (iand .u32 x 255))):=by kernel_rfl
theorem pt8{a:Int}(h0:0≤a)(h1:a<256):pt a=a%2+a/2%2+a/4%2+a/8%2+a/16%2+a/32%2+a/64%2+a/128%2:=
 eq_of_beq (Qrp (λa=>pt a==a%2+a/2%2+a/4%2+a/8%2+a/16%2+a/32%2+a/64%2+a/128%2) 256 (by kernel_rfl) h0 h1)
theorem given_sum{g:Int}(hg:U g):bits g [0,1,2,3,4,5,6,7,8,9,10,11,12,13,14,15,16,17,18,19,20,21,22,23,24,25,26,27,28,29,30,31] 0=pt (g%256)+pt (g/256%256)+pt (g/65536%256)+pt (g/16777216):=by
 rw[bits_sum hg _ 0 (by decide) (by decide) (by decide),pt8 (by omega) (by omega),pt8 (by omega) (by omega),pt8 (by omega) (by omega),pt8 (by have:=hg.1;omega) (by have:=hg.2;omega)]
 obtain⟨g0,g1⟩:=hg
 simp only[List.map_cons,List.map_nil,List.sum_cons,List.sum_nil]
 have e: ∀i j:Nat,∀k:Int,i<8→k=2^j→g/2^(i+j)%2=(g/k%256)/2^i%2:=λi j k hi hk=>by
   subst hk
   rw[Nat.add_comm,Int.pow_add,←Int.ediv_ediv_of_nonneg (Int.le_of_lt (Int.pow_pos (by decide)))]
   generalize g/2^j=x
   have:i=0∨i=1∨i=2∨i=3∨i=4∨i=5∨i=6∨i=7:=by omega
   rcases this with rfl|rfl|rfl|rfl|rfl|rfl|rfl|rfl<;>simp<;>omega
 have e0: ∀i:Nat,i<8→g/2^i%2=(g%256)/2^i%2:=λi hi=>by have:=e i 0 1 hi rfl;simpa using this
 have e24:g/16777216%256=g/16777216:=by omega
 rw[e0 0 (by decide),e0 1 (by decide),e0 2 (by decide),e0 3 (by decide),e0 4 (by decide),e0 5 (by decide),e0 6 (by decide),e0 7 (by decide)]
 rw[e 0 8 256 (by decide) (by decide),e 1 8 256 (by decide) (by decide),e 2 8 256 (by decide) (by decide),e 3 8 256 (by decide) (by decide),e 4 8 256 (by decide) (by decide),e 5 8 256 (by decide) (by decide),e 6 8 256 (by decide) (by decide),e 7 8 256 (by decide) (by decide)]
 rw[e 0 16 65536 (by decide) (by decide),e 1 16 65536 (by decide) (by decide),e 2 16 65536 (by decide) (by decide),e 3 16 65536 (by decide) (by decide),e 4 16 65536 (by decide) (by decide),e 5 16 65536 (by decide) (by decide),e 6 16 65536 (by decide) (by decide),e 7 16 65536 (by decide) (by decide)]
 rw[e 0 24 16777216 (by decide) (by decide),e 1 24 16777216 (by decide) (by decide),e 2 24 16777216 (by decide) (by decide),e 3 24 16777216 (by decide) (by decide),e 4 24 16777216 (by decide) (by decide),e 5 24 16777216 (by decide) (by decide),e 6 24 16777216 (by decide) (by decide),e 7 24 16777216 (by decide) (by decide),e24]
 generalize g%256=a
 generalize g/256%256=b
 generalize g/65536%256=c
 generalize g/16777216=d
 simp only[show(2:Int)^0=1 from rfl,show(2:Int)^1=2 from rfl,show(2:Int)^2=4 from rfl,show(2:Int)^3=8 from rfl,show(2:Int)^4=16 from rfl,show(2:Int)^5=32 from rfl,show(2:Int)^6=64 from rfl,show(2:Int)^7=128 from rfl,Int.ediv_one]
 omega
theorem pt_le{a:Int}(h0:0≤a)(h1:a<256):0≤pt a∧pt a≤8:=by rw[pt8 h0 h1];omega
theorem Z49{b:Q06}(hg:U b.C3):Qdm b=Qdx b∧0≤Qdx b∧Qdx b≤32:=by
 obtain⟨s8,s16,s24⟩:=shr_c b.C3
 have u8:U (ishr .u32 b.C3 8):=Qur hg _
 have u16:U (ishr .u32 b.C3 16):=Qur hg _
 have e:Qdm b=Q78 b.C3:=rfl
 rw[e,pop_form,given_eq,given_sum hg,m255 u8,m255 u16,m255 hg,s8,s16,s24]
 obtain⟨g0,g1⟩:=hg
 have p0:=pt_le (a:=b.C3%256) (by omega) (by omega)
 have p1:=pt_le (a:=b.C3/256%256) (by omega) (by omega)
 have p2:=pt_le (a:=b.C3/65536%256) (by omega) (by omega)
 have p3:=pt_le (a:=b.C3/16777216) (by omega) (by omega)
 have w8: ∀x,IntKind.wrap .u8 x=x%256:=λx=>IntKind.wrap_u8 x
 rw[w8,w8,w8,IntKind.wrap_i64]
 omega
theorem Zco{b:Q06}(h:okB b):Q84 b=Q4d b:=by
 obtain⟨e,l0,l1⟩:=Z49 h.2
 obtain⟨t0,t1⟩:=h.1
 simp only[Q84,Q2x,Q4d,Qa0,Tree.m,letv,e]
 rw[IntKind.wrap_u32,IntKind.wrap_u64,IntKind.wrap_u64,Int.emod_eq_of_lt l0 (by omega),Int.emod_eq_of_lt l0 (by omega),Int.emod_eq_of_lt t0 (by omega)]
theorem Zkp{b:Q06}(h:okB b)(port:Int):Qot b port=Q5u b port:=by
 simp only[Qot,Q72,Q5u,Q6n,Tree.m,letv,(Z49 h.2).1]
theorem bit_pow(g:Int)(z:Nat):g%2^(z+1)=g%2^z+2^z*(g/2^z%2):=by
 have hp:(0:Int)<2^z:=Int.pow_pos (by decide)
 have h1:=Int.mul_ediv_add_emod g (2^z)
 have h2:=Int.mul_ediv_add_emod (g/2^z) 2
 have h3:(g/2^z)/2=g/2^(z+1):=by rw[Int.pow_succ,Int.ediv_ediv_of_nonneg (Int.le_of_lt hp)]
 have h4:=Int.mul_ediv_add_emod g (2^(z+1))
 rw[h3]at h2
 have h5:(2:Int)^(z+1)*(g/2^(z+1))=2^z*(2*(g/2^(z+1))):=by rw[Int.pow_succ,Int.mul_assoc]
 have h6:(2:Int)^z*(g/2^z)=2^z*(2*(g/2^(z+1)))+2^z*(g/2^z%2):=by rw[←Int.mul_add,h2]
 omega
theorem rbal_w{b:Q06}(hg:U b.C3){P:Nat}(hP:P≤32):(Q62 b P).w (λr=>r=decide (b.C3<2^P)):=by
 unfold Q62
 have fin: ∀v:Int,0≤v→v≤32→IntKind.wrap .u64 v=(v.toNat:Int):=λv h0 h1=>by rw[IntKind.wrap_u64];omega
 refine w_lp (inv:=λz:Int=>0≤z∧z≤32∧b.C3%2^z.toNat<2^P) (μ:=Q6z b P) ⟨by decide,by decide,by have:(0:Int)<2^P:=Int.pow_pos (by decide);simpa using this⟩ (Nat.lt_succ_self _) λz ⟨z0,z1,z2⟩=> ?_
 refine w_br (λhb=> ?_) (λhb=> ?_)
 · have hb:=of_decide_eq_true hb
   have ew:IntKind.i64.wrap (z+1)=z+1:=w64 (by omega) (by omega)
   have bt:iand .u32 (ishr .u32 b.C3 (IntKind.wrap .u64 z)) 1=b.C3/2^z.toNat%2:=by
     rw[fin z z0 z1,and1 (Qur hg _),Qpt _ (by omega)]
   have bp:=bit_pow b.C3 z.toNat
   have zt:(z+1).toNat=z.toNat+1:=by omega
   refine w_cn (decide_eq_true (by rw[IntKind.wrap_u64];omega)) ?_
   rw[bt]
   refine w_br (λe=>w_br (λhp=> ?_) (λhp=>w_nx ?_)) (λe=>w_nx ?_)
   · have e:=eq_of_beq e
     have hp:=of_decide_eq_true hp
     show false=_
     refine(decide_eq_false λhlt=> ?_).symm
     have hle:(2:Int)^P≤2^z.toNat:=by exact_mod_cast Nat.pow_le_pow_right (show 0<2 by decide) (show P≤z.toNat by omega)
     have:b.C3/2^z.toNat=0:=Int.ediv_eq_zero_of_lt hg.1 (by omega)
     rw[this]at e;cases e
   · have e:=eq_of_beq e
     have hp:=of_decide_eq_false hp
     show(0≤IntKind.i64.wrap (z+1)∧IntKind.i64.wrap (z+1)≤32∧b.C3%2^(IntKind.i64.wrap (z+1)).toNat<2^P)∧(32-IntKind.i64.wrap (z+1)).toNat<(32-z).toNat
     rw[ew,zt]
     have hle:(2:Int)^(z.toNat+1)≤2^P:=by exact_mod_cast Nat.pow_le_pow_right (show 0<2 by decide) (show z.toNat+1≤P by omega)
     have:=Int.emod_lt_of_pos b.C3 (show(0:Int)<2^(z.toNat+1) from Int.pow_pos (by decide))
     exact⟨⟨by omega,by omega,by omega⟩,by omega⟩
   · have e: ¬b.C3/2^z.toNat%2=1:=by simpa using e
     have e:b.C3/2^z.toNat%2=0:=by omega
     rw[e]at bp
     show(0≤IntKind.i64.wrap (z+1)∧IntKind.i64.wrap (z+1)≤32∧b.C3%2^(IntKind.i64.wrap (z+1)).toNat<2^P)∧(32-IntKind.i64.wrap (z+1)).toNat<(32-z).toNat
     rw[ew,zt,bp]
     exact⟨⟨by omega,by omega,by omega⟩,by omega⟩
 · have hb:=of_decide_eq_false hb
   have:z=32:=by omega
   subst this
   show true=_
   refine(decide_eq_true ?_).symm
   have h2:b.C3%2^(32:Int).toNat=b.C3:=Int.emod_eq_of_lt hg.1 hg.2
   rwa [h2]at z2
theorem Zee{b:Q06}(hg:U b.C3){P:Nat}(hP:P≤32):Q3 b P=Q9y b P:=by
 have r:=(Tree.pp (rbal_w hg hP)).2
 change Q9y b P=_ at r
 rw[r,Bool.eq_iff_iff,Qym hg,decide_eq_true_eq]
theorem zeros:strings_Repeat [(0:UInt8)] 128=List.replicate 128 0:=by kernel_rfl
theorem give_b{P:Nat}{m:List Int}(hm:Q11 P m){b:Q06}{port:Int}{v:Int}(hv:U v)(hp:v<P)(h10:port=10)(hb:(iand .u32 (ishr .u32 b.C3 v) 1==0)=true):(Q56 b m port v).w (λr=>r.1={C9:=b.C9,C3:=ior .u32 b.C3 (ishl .u32 1 v)}∧Q11 P r.2∧ ∀k:Nat,byt r.2 k=if v*128≤k∧(k:Int)<v*128+128 then 0 else byt m k):=by
 have hv0:decide (0≤v)=true:=decide_eq_true hv.1
 have h2:=hm.p2
 have pg:Q2e m v=true:=by rw[Qlh hm hv];exact decide_eq_true hp
 obtain⟨v1,v2⟩:=hv
 subst h10
 unfold Q56
 refine w_br (λ_=>w_lv λx0 hx=>w_br (λ_=>w_cn hv0 (w_br (λ_=>w_cn hv0 ?_) (λh=>by rw[hb]at h;cases h))) (λh=>by rw[hx,pg]at h;cases h)) (λh=>by cases h)
 refine w_lp (inv:=λz=>0≤z.1∧z.1≤32∧Q11 P z.2∧ ∀k:Nat,byt z.2 k=if v*128≤k∧(k:Int)<v*128+4*z.1 then 0 else byt m k) (μ:=Qi4 b m 10 v) ⟨show(0:Int)≤0 by decide,show(0:Int)≤32 by decide,hm,λk=>by rw[if_neg];show¬(_∧_<_+4*(0:Int));omega⟩ (Nat.lt_succ_self _) (λz hz=> ?_)
 obtain⟨z1,z2,z3,z4⟩:=hz
 have hl:=z3.len
 refine w_br (λh=> ?_) (λh=>⟨rfl,z3,λk=> ?_⟩)
 · have h:=of_decide_eq_true h
   have e:IntKind.wrap IntKind.i64 (IntKind.wrap IntKind.i64 (IntKind.wrap IntKind.i64 v*32)+z.1)=v*32+z.1:=by rw[IntKind.wrap_i64,IntKind.wrap_i64,IntKind.wrap_i64];omega
   refine w_cn (by rw[e];simp [Nat.blt];omega) (w_nx ?_)
   have ew:IntKind.i64.wrap (z.1+1)=z.1+1:=by rw[IntKind.wrap_i64];omega
   show(0≤IntKind.i64.wrap (z.1+1)∧IntKind.i64.wrap (z.1+1)≤32∧Q11 P (List.set _ _ _)∧ ∀k:Nat,byt (List.set z.2 (Int.toNat (IntKind.wrap IntKind.i64 (IntKind.wrap IntKind.i64 (IntKind.wrap IntKind.i64 v*32)+z.1))) 0) k=if v*128≤(k:Int)∧(k:Int)<v*128+4*IntKind.i64.wrap (z.1+1) then 0 else _)∧(32-IntKind.i64.wrap (z.1+1)).toNat<(32-z.1).toNat
   rw[ew,e]
   refine⟨⟨by omega,by omega,⟨by simp [hl],z3.p1,z3.p2,Z2 z3.u U_0 _⟩,λk=> ?_⟩,by omega⟩
   rw[Zf2 (by omega)]
   by_cases hc:k/4=(v*32+z.1).toNat
   · rw[if_pos hc,if_pos (by omega)]
     have:k%4=0∨k%4=1∨k%4=2∨k%4=3:=by omega
     rcases this with h|h|h|h<;>rw[h]<;>rfl
   · rw[if_neg hc,z4 k]
     by_cases hd:v*128≤(k:Int)∧(k:Int)<v*128+4*z.1
     · rw[if_pos hd,if_pos (by omega)]
     · rw[if_neg hd,if_neg (by omega)]
 · have h:=of_decide_eq_false h
   show byt z.2 k=_
   rw[z4 k,show z.1=32 by omega];rfl
theorem bitv{g v:Int}(hg:U g)(v0:0≤v)(v1:v<32):(iand .u32 g (ishl .u32 1 v)==0)=(iand .u32 (ishr .u32 g v) 1==0):=by
 obtain⟨z,rfl⟩: ∃z:Nat,v=z:=⟨v.toNat,by omega⟩
 obtain⟨n,rfl⟩: ∃n:Nat,g=n:=⟨g.toNat,by have:=hg.1;omega⟩
 have hz:z<32:=by omega
 have hlt:(2:Nat)^z<4294967296:=by have:=Nat.pow_lt_pow_right (show 1<2 by omega) hz;simpa using this
 rw[and1 (Qur hg _),Qpt z (by omega),shl_one v0 v1,Int.toNat_natCast]
 have hc:((2:Int)^z)=((2^z:Nat):Int):=by simp
 generalize hq:2^z=q at*
 rw[hc,Zh7 hg ⟨by omega,by omega⟩,Int.toNat_natCast,Int.toNat_natCast,←hq]
 have e1:(n&&&2^z)=0↔n/2^z%2=0:=by
   have t:n.testBit z=decide (n/2^z%2=1):=Nat.testBit_eq_decide_div_mod_eq
   constructor
   · intro h
     have h2:(n&&&2^z).testBit z=false:=by rw[h];exact Nat.zero_testBit z
     rw[Nat.testBit_and,Nat.testBit_two_pow_self,Bool.and_true,t]at h2
     have:=of_decide_eq_false h2
     omega
   · intro h
     have t0:n.testBit z=false:=by rw[t];exact decide_eq_false (by omega)
     apply Nat.eq_of_testBit_eq
     intro i
     rw[Nat.testBit_and,Nat.testBit_two_pow,Nat.zero_testBit]
     by_cases hi:z=i
     · subst hi;rw[t0];rfl
     · rw[decide_eq_false hi,Bool.and_false]
 rw[Bool.eq_iff_iff,beq_iff_eq,beq_iff_eq]
 constructor
 · intro h;have:=e1.1 (by omega);omega
 · intro h;have:=e1.2 (by omega);omega
theorem Zeq{P:Nat}{m:List Int}(h:Q11 P m){b:Q06}(hb:okB b)(port:Int){v:Int}(hv:U v):Q8k b m port v=Q71 b m port v:=by
  have hcl:Q02 m=m:=rfl
  have hp:=Q47 h
  have h2:=h.p2
  have ew:IntKind.i64.wrap v=v:=w64 (by have:=hv.1;omega) (by have:=hv.2;omega)
  have pe:=Qlh h hv
  by_cases h32:v<32
  · have bv :=bitv hb.2 hv.1 h32
    by_cases h10:port=10
    · by_cases hP:v<P
      · cases hz:iand .u32 (ishr .u32 b.C3 v) 1==0
        · simp only[Q8k,Q2w,Q71,Q56,Tree.m,letv,hcl,hp,ew,pe,bv,hz,h10,decide_eq_true hP,decide_eq_false (show¬v≥32 by omega)]
          rfl
        · obtain⟨g1,g2,g3⟩:=(Tree.pp (give_b h hv hP h10 hz)).2
          change(Q71 b m port v).1=_ at g1
          change Q11 P (Q71 b m port v).2 at g2
          change∀k:Nat,byt (Q71 b m port v).2 k=_ at g3
          obtain⟨s1,s2,s3⟩:=(Tree.pp (Z0f h hv.1 hP (s:=List.replicate 128 0) (by simp))).2
          have em:(Q36 m v (List.replicate 128 0)).1=(Q71 b m port v).2:=by
            refine Zfk (s2.len.trans g2.len.symm) s2.u g2.u λk=> ?_
            rw[g3 k]
            refine(s3 k).trans ?_
            by_cases hk:v*128≤(k:Int)∧(k:Int)<v*128+128
            · rw[if_pos hk,if_pos hk]
              have:(List.replicate 128 (0:UInt8)).getD ((k:Int)-v*128).toNat 0=0:=by
                rw[List.getD_eq_getElem?_getD,List.getElem?_replicate]
                split<;>rfl
              rw[this];rfl
            · rw[if_neg hk,if_neg hk]
          have el:Q8k b m port v=({C9:=b.C9,C3:=ior .u32 b.C3 (ishl .u32 1 v)},(Q36 m v (List.replicate 128 0)).1):=by
            simp only[Q8k,Q2w,Tree.m,letv,hcl,hp,ew,bv,hz,h10,decide_eq_true hP,decide_eq_false (show¬v≥32 by omega),zeros]
            rfl
          rw[el,em,←g1]
      · simp only[Q8k,Q2w,Q71,Q56,Tree.m,letv,hcl,hp,ew,pe,h10,decide_eq_false hP,decide_eq_false (show¬v≥32 by omega)]
        rfl
    · simp only[Q8k,Q2w,Q71,Q56,Tree.m,letv,hcl,decide_eq_true h32,decide_eq_false (show¬v≥32 by omega),show(port==10)=false by simpa using h10]
      cases port==11<;>rfl
  · simp only[Q8k,Q2w,Q71,Q56,Tree.m,letv,hcl,pe,decide_eq_false h32,decide_eq_true (show v≥32 by omega),decide_eq_false (show¬v<P by omega)]
    cases port==10<;>cases port==11<;>rfl
structure okV(m:Q00):Prop where
 cpu:Q2z m.B2
 mem: ∀w∈m.Mem,U w
 disk:Q9e m.B1
 nic:Qj4 m.C5
 bal:okB m.A2
 cnt:0≤m.A1
theorem Qn1(m:List Int)(hm: ∀w∈m,U w):Q0w m=Q4e m∧(Q0w m=0∨ ∃P:Nat,1≤P∧Q11 P m):=by
 refine⟨rfl,?_⟩
 simp only[Q0w,Q91,Tree.m]
 cases h1:Int.tmod (m.length:Int) 32 !=0
 · cases h2:decide ((m.length:Int)>1024)
   · have h1:Int.tmod (m.length:Int) 32=0:=by simpa using h1
     have h2:=of_decide_eq_false h2
     rw[Int.tmod_eq_emod_of_nonneg (by omega)]at h1
     by_cases h0:m.length=0
     · left;rw[h0];rfl
     · right;exact⟨m.length/32,by omega,⟨by omega,by omega,by omega,hm⟩⟩
   · left;rfl
 · left;rfl
theorem rcnd{a x:Bool}:(bif !a then false else x)=true↔a=true∧x=true:=by cases a<;>simp
theorem rmay_iff(m:Q00):Q7o m=true↔ ¬(Q4e m.Mem<1)∧Q6k m.B2∧Qhq m.A6=true∧Qde m.B0=true∧Qf3 m.B1 (Q4e m.Mem)=true∧Qiv m.C5 (Q4e m.Mem)=true∧Q9y m.A2 (Q4e m.Mem)=true∧m.A1≤1152921504606846976∧ ¬(m.A7=true∧m.A9=true):=by
 simp only[Q7o,Quh,Tree.m,letv]
 rw[cnd2,cnd2,cnd2,cnd2,cnd2,cnd2,rcnd,rcnd,rcnd,rcnd,rcnd]
 simp only[decide_eq_false_iff_not,Int.not_lt,bne_eq_false_iff_eq,gt_iff_lt]
 have l:((bif decide (m.A1≤1152921504606846976) then(bif m.A7 then !m.A9 else true) else false)=true)↔m.A1≤1152921504606846976∧ ¬(m.A7=true∧m.A9=true):=by
   by_cases hc:m.A1≤1152921504606846976
   · rw[decide_eq_true hc]
     cases m.A7<;>cases m.A9<;>simp [hc]
   · rw[decide_eq_false hc];simp [hc]
 rw[l]
 constructor
 · rintro⟨a1,a2,a3,a4,a5,a6,a7⟩
   exact⟨by omega,⟨a2,a3,a4,a5,a6⟩,a7⟩
 · rintro⟨a1,⟨a2,a3,a4,a5,a6⟩,a7⟩
   exact⟨by omega,a2,a3,a4,a5,a6,a7⟩
theorem Qyf{m:Q00}(h:okV m):Q16 m=Q7o m:=by
 rw[Bool.eq_iff_iff,Qju,rmay_iff,dev_eq]
 obtain⟨e,c⟩:=Qn1 m.Mem h.mem
 simp only[Bool.and_eq_true,←e]
 rcases c with c|⟨P,hP,hm⟩
 · constructor
   · rintro⟨a,_⟩;exact absurd c a
   · rintro⟨a,_⟩;omega
 · rw[Q47 hm,Z2k,Z7x,Zc,Zee h.bal.2 hm.p2]
   constructor
   · rintro⟨a1,a2,a3,a4,a5,a6,a7,a8,a9⟩;exact⟨by omega,a2,a5,a6,a7,a8,a9,a3,a4⟩
   · rintro⟨a1,a2,a5,a6,a7,a8,a9,a3,a4⟩;exact⟨by omega,a2,a3,a4,a5,a6,a7,a8,a9⟩
def Z6v(a b c d e:Bool):Int:=ior .u32 (ior .u32 (ior .u32 (ior .u32 (Q9z a 0) (Q9z b 1)) (Q9z c 2)) (Q9z d 3)) (Q9z e 4)
theorem mlines(m:Q00):Qda m=Z6v (Qgq m.B0) (Qa6 m.A6) (Qaf m.B1) (Ql7 m.C5) (Q84 m.A2):=by
 unfold Qda Q3z
 simp only[Tree.m,letv]
 generalize Qgq m.B0=a
 generalize Qa6 m.A6=b
 generalize Qaf m.B1=c
 generalize Ql7 m.C5=d
 generalize Q84 m.A2=e
 cases a<;>cases b<;>cases c<;>cases d<;>cases e<;>kernel_rfl
theorem Zjh(a b c d e:Bool):0≤Z6v a b c d e∧Z6v a b c d e<32:=by
 cases a<;>cases b<;>cases c<;>cases d<;>cases e<;>decide
theorem rlines(m:Q00):Qh1 m=Z6v (Qaj m.B0) (Q67 m.A6) (Qc1 m.B1) (Qcu m.C5) (Q4d m.A2):=rfl
section
variable {m:Q00} (h:okV m)
include h
theorem Zjv:Qda m=Qh1 m:=by
 rw[mlines,rlines,con_same,Zco h.bal];rfl
theorem Qw:Q6c m=Q3h m:=by
 have e:=Zjv h
 simp only[Q6c,Q23,Q3h,Q90,Tree.m,letv,e]
theorem Zdc:Q35 m=Qdj m:=by
 have e:=Qw h
 simp only[Q35,Q37,Qdj,Qe0,Tree.m,letv,e]
theorem Qs1:Q2m m=!Q0u m:=by
 have e1:=Qyf h
 have e2:=Zdc h
 have e3:decide (m.A1≥1152921504606846976)=!decide (m.A1<1152921504606846976):=ge_not
 simp only[Q2m,Q3q,Q0u,Qfv,Tree.m,letv,e1,e2,e3]
 cases Q7o m<;>cases m.A9<;>cases Qdj m<;>cases decide (m.A1<1152921504606846976)<;>rfl
theorem Z42:0≤Q3h m∧Q3h m<32:=by
 have e:Q3h m=iand .u32 (Qh1 m) m.B2.B6.a7:=rfl
 have l:=Zjh (Qaj m.B0) (Q67 m.A6) (Qc1 m.B1) (Qcu m.C5) (Q4d m.A2)
 rw[←rlines]at l
 rw[e,Zh7 ⟨l.1,by omega⟩ h.cpu.a7]
 have:=Nat.and_le_left (n:=(Qh1 m).toNat) (m:=m.B2.B6.a7.toNat)
 omega
def low(l:Int):Int:=if l%2=1 then 0 else if l/2%2=1 then 1 else if l/4%2=1 then 2 else if l/8%2=1 then 3 else 4
end
theorem cases32{l:Int}(h0:0≤l)(h1:l<32):l=0∨l=1∨l=2∨l=3∨l=4∨l=5∨l=6∨l=7∨l=8∨l=9∨l=10∨l=11∨l=12∨l=13∨l=14∨l=15∨l=16∨l=17∨l=18∨l=19∨l=20∨l=21∨l=22∨l=23∨l=24∨l=25∨l=26∨l=27∨l=28∨l=29∨l=30∨l=31:=by omega
def intr(m:Q00)(l:Int):Q04:=bif iand .u32 m.B2.B6.a0 2==0 then m.B2 else bif l==0 then m.B2 else Q3c m.B2 (IntKind.wrap .i64 (16+low l)) 0
theorem rintr{m:Q00}(h:okV m):Q0l m=intr m (Q3h m):=by
 obtain⟨l0,l1⟩:=Z42 h
 unfold Q0l Q50
 simp only[Tree.m,letv]
 revert l0 l1
 generalize Q3h m=l
 intro l0 l1
 unfold intr
 cases iand .u32 m.B2.B6.a0 2==0
 · rcases cases32 l0 l1 with rfl|rfl|rfl|rfl|rfl|rfl|rfl|rfl|rfl|rfl|rfl|rfl|rfl|rfl|rfl|rfl|rfl|rfl|rfl|rfl|rfl|rfl|rfl|rfl|rfl|rfl|rfl|rfl|rfl|rfl|rfl|rfl<;>kernel_rfl
 · rfl
def beg(m:Q00)(c:Q04):Q00:={B2:=c,Mem:=m.Mem,A6:=m.A6,B0:=m.B0,B1:=m.B1,C5:=m.C5,A2:=m.A2,A1:=m.A1,A7:=false,A9:=m.A9}
theorem Qve{m:Q00}(h:okV m)(hst:m.B2.B6.a0≤31):Q0r m=beg m (Q0l m):=by
 obtain⟨l0,l1⟩:=Z42 h
 have tr: ∀k b,Q5 m.B2 k b=Q3c m.B2 k b:=Qmx h.cpu.a0.1 hst
 have e:Q6c (beg m m.B2)=Q3h m:=Qw (m:=beg m m.B2) ⟨h.cpu,h.mem,h.disk,h.nic,h.bal,h.cnt⟩
 rw[rintr h]
 unfold Q0r Q2r
 simp only[Tree.m,letv]
 rw[show Q6c {B2:=m.B2,Mem:=m.Mem,A6:=m.A6,B0:=m.B0,B1:=m.B1,C5:=m.C5,A2:=m.A2,A1:=m.A1,A7:=false,A9:=m.A9}=Q3h m from e]
 revert l0 l1
 generalize Q3h m=l
 intro l0 l1
 unfold intr
 simp only[←tr]
 cases iand .u32 m.B2.B6.a0 2==0
 · rcases cases32 l0 l1 with rfl|rfl|rfl|rfl|rfl|rfl|rfl|rfl|rfl|rfl|rfl|rfl|rfl|rfl|rfl|rfl|rfl|rfl|rfl|rfl|rfl|rfl|rfl|rfl|rfl|rfl|rfl|rfl|rfl|rfl|rfl|rfl<;>(show _=_;kernel_rfl)
 · rfl
theorem ports{p:Int}:p=0∨p=1∨p=2∨p=3∨p=4∨p=5∨p=6∨p=7∨p=8∨p=9∨p=10∨p=11∨p<0∨12≤p:=by omega
theorem in_same{m:Q00}(hb:okB m.A2)(port clock:Int):Q12 m port clock=((Qdd m port clock).2,(Qdd m port clock).1):=by
 have e1:=Zku m.A6
 have e2: ∀p,Qv1 m.B1 p=Qhy m.B1 p:=λ_=>rfl
 have e3:=Zkq m.C5
 have e4:=Zkp hb
 have e5:Qyc m.B0=Qfg m.B0:=rfl
 simp only[Q12,Q26,Qdd,Qka,Tree.m,letv,e1,e2,e3,e4,e5]
 rcases ports (p:=port) with rfl|rfl|rfl|rfl|rfl|rfl|rfl|rfl|rfl|rfl|rfl|rfl|h|h
 all_goals first|rfl|skip
 · have n: ∀k:Int,0≤k→(port==k)=false:=λk hk=>beq_eq_false_iff_ne.2 (by omega)
   have c:Q5w m.A6 port=(m.A6,0):=by
     simp only[Q5w,Q42,Tree.m,n 0 (by decide),n 1 (by decide),cond_false]
   simp only[n 0 (by decide),n 1 (by decide),n 2 (by decide),n 3 (by decide),n 4 (by decide),n 5 (by decide),n 6 (by decide),n 7 (by decide),n 8 (by decide),n 9 (by decide),n 10 (by decide),n 11 (by decide),cond_false,decide_eq_true (show port≤1 by omega),cond_true,c]
 · have n: ∀k:Int,k<12→(port==k)=false:=λk hk=>beq_eq_false_iff_ne.2 (by omega)
   have c:Q5u m.A2 port=0:=by
     simp only[Q5u,Q6n,Tree.m,n 10 (by decide),n 11 (by decide),cond_false]
   simp only[n 0 (by decide),n 1 (by decide),n 2 (by decide),n 3 (by decide),n 4 (by decide),n 5 (by decide),n 6 (by decide),n 7 (by decide),n 8 (by decide),n 9 (by decide),n 10 (by decide),n 11 (by decide),cond_false,decide_eq_false (show¬port≤1 by omega),decide_eq_false (show¬port≤6 by omega),decide_eq_false (show¬port≤9 by omega),c]
theorem out_same{P:Nat}{m:Q00}(hm:Q11 P m.Mem)(hb:okB m.A2)(port:Int){v:Int}(hv:U v):Q2v m port v m.A1=((Qam m port v).2,(Qam m port v).1):=by
 have e1:=Zd7 hm m.B1
 have e2:=Zf5 hm m.C5
 have e3:=Zeq hm hb port hv
 have e4:=arm_same m.B0 v
 simp only[Q2v,Q2a,Qam,Qdy,Tree.m,letv,e1,e2,e3,e4]
 rcases ports (p:=port) with rfl|rfl|rfl|rfl|rfl|rfl|rfl|rfl|rfl|rfl|rfl|rfl|h|h
 all_goals first|rfl|skip
 · have n: ∀k:Int,0≤k→(port==k)=false:=λk hk=>beq_eq_false_iff_ne.2 (by omega)
   simp only[n 0 (by decide),n 1 (by decide),n 2 (by decide),n 3 (by decide),n 4 (by decide),n 5 (by decide),n 6 (by decide),n 7 (by decide),n 8 (by decide),n 9 (by decide),n 10 (by decide),n 11 (by decide),cond_false,decide_eq_true (show port≤2 by omega),cond_true]
 · have n: ∀k:Int,k<12→(port==k)=false:=λk hk=>beq_eq_false_iff_ne.2 (by omega)
   have c:Q71 m.A2 m.Mem port v=(m.A2,m.Mem):=by
     simp only[Q71,Q56,Tree.m,n 10 (by decide),n 11 (by decide),cond_false]
   simp only[n 0 (by decide),n 1 (by decide),n 2 (by decide),n 3 (by decide),n 4 (by decide),n 5 (by decide),n 6 (by decide),n 7 (by decide),n 8 (by decide),n 9 (by decide),n 10 (by decide),n 11 (by decide),cond_false,decide_eq_false (show¬port≤2 by omega),decide_eq_false (show¬port≤6 by omega),decide_eq_false (show¬port≤9 by omega),c]
def tick(n:Q00)(c:Q04)(w h:Bool):Q00:={B2:=c,Mem:=n.Mem,A6:=n.A6,B0:=n.B0,B1:=n.B1,C5:=n.C5,A2:=n.A2,A1:=IntKind.wrap .u64 (n.A1+1),A7:=w,A9:=h}
def withX(m:Q00)(c:Q04)(mem:List Int):Q00:={B2:=c,Mem:=mem,A6:=m.A6,B0:=m.B0,B1:=m.B1,C5:=m.C5,A2:=m.A2,A1:=m.A1,A7:=false,A9:=m.A9}
def finP(n:Q00)(e:Q13)(clock at0:Int):Q00×List Q03:=
 bif e.B5==1 then
   (bif e.D9 !=0 then(tick (Q12 n e.D1 clock).1 {X:=A16.of 0 (List.set (A16.l (Q12 n e.D1 clock).1.B2.X) e.D9.toNat (Q12 n e.D1 clock).2),Pc:=(Q12 n e.D1 clock).1.B2.Pc,B6:=(Q12 n e.D1 clock).1.B2.B6} (Q12 n e.D1 clock).1.A7 (Q12 n e.D1 clock).1.A9,[])
   else(tick (Q12 n e.D1 clock).1 (Q12 n e.D1 clock).1.B2 (Q12 n e.D1 clock).1.A7 (Q12 n e.D1 clock).1.A9,[]))
 else bif e.B5==2 then(tick (Q2v n e.D1 e.Value at0).1 (Q2v n e.D1 e.Value at0).1.B2 (Q2v n e.D1 e.Value at0).1.A7 (Q2v n e.D1 e.Value at0).1.A9,(Q2v n e.D1 e.Value at0).2)
 else bif e.B5==3 then(tick n n.B2 true n.A9,[]) else bif e.B5==4 then(tick n n.B2 n.A7 true,[]) else(tick n n.B2 n.A7 n.A9,[])
def finR(n:Q00)(e:Q13)(clock:Int):List Q03×Q00:=
 bif e.B5==1 then([],tick (Qdd n e.D1 clock).2 (Q1x (Qdd n e.D1 clock).2.B2 e.D9 (Qdd n e.D1 clock).1) (Qdd n e.D1 clock).2.A7 (Qdd n e.D1 clock).2.A9)
 else bif e.B5==2 then((Qam n e.D1 e.Value).1,tick (Qam n e.D1 e.Value).2 (Qam n e.D1 e.Value).2.B2 (Qam n e.D1 e.Value).2.A7 (Qam n e.D1 e.Value).2.A9)
 else bif e.B5==3 then([],tick n n.B2 true n.A9) else bif e.B5==4 then([],tick n n.B2 n.A7 true) else([],tick n n.B2 n.A7 n.A9)
theorem adv_eq(m:Q00)(clock:Int):Q0f m clock=finR (withX m (Q7u (Q0l m) m.Mem).1 (Q7u (Q0l m) m.Mem).2.2) (Q7u (Q0l m) m.Mem).2.1 clock:=by kernel_rfl
theorem Zj(m:Q00)(clock:Int):Q1t m clock=bif !Q2m m then(m,[]) else finP {B2:=(Q5p (Q0r m).B2 (Q0r m).Mem).1,Mem:=(Q5p (Q0r m).B2 (Q0r m).Mem).2.1,A6:=(Q0r m).A6,B0:=(Q0r m).B0,B1:=(Q0r m).B1,C5:=(Q0r m).C5,A2:=(Q0r m).A2,A1:=(Q0r m).A1,A7:=(Q0r m).A7,A9:=(Q0r m).A9} (Q5p (Q0r m).B2 (Q0r m).Mem).2.2 clock m.A1:=by kernel_rfl
theorem copy_eq(m:List Int):Qn4 m=m:=by
 simp [Qn4,Qa,Tree.m]
theorem Zb9(m:Q00):Qol m=m:=by
 simp only[Qol,Qcp,Tree.m,letv,copy_eq]
def Za5(m:Q00)(clock:Int):Q00×List Q03:=bif Q0u m then(m,[]) else((Q0f m clock).2,(Q0f m clock).1)
theorem Z8d(m:Q00)(clock:Int):Za5 m clock=bif Q0u m then(m,[]) else((Q0f m clock).2,(Q0f m clock).1):=rfl
theorem fin_same{P:Nat}{n:Q00}(hm:Q11 P n.Mem)(hb:okB n.A2){e:Q13}(hr:0≤e.D9∧e.D9<16)(hv:U e.Value)(clock:Int):finP n e clock n.A1=((finR n e clock).2,(finR n e clock).1):=by
 unfold finP finR
 rw[in_same hb e.D1 clock,out_same hm hb e.D1 hv]
 cases e.B5==1
 · cases e.B5==2
   · cases e.B5==3
     · cases e.B5==4<;>rfl
     · rfl
   · rfl
 · generalize Qdd n e.D1 clock=r
   have s:=Qy9 r.2.B2 hr r.1
   show(bif e.D9 !=0 then _ else _)=(tick r.2 (Q1x r.2.B2 e.D9 r.1) r.2.A7 r.2.A9,[])
   rw[←s]
   simp only[Qb7,Q8z,Tree.m]
   cases e.D9 !=0<;>rfl
theorem Zao{m:Q00}(h:okV m)(clock:Int):Q1t m clock=Za5 m clock:=by
 rw[Zj,Z8d,Qs1 h]
 cases hs:Q0u m
 · have hr:Q2m m=true:=by rw[Qs1 h,hs];rfl
   obtain⟨hm,hh,hct⟩:=Qy6 hr
   obtain⟨g1,g2,g3,g4,g5⟩:=(Qju m).1 hm
   rcases(Qn1 m.Mem h.mem).2 with c|⟨P,hP,hmem⟩
   · exact absurd c g1
   have okm:okS P m:=⟨h.cpu,hmem,h.disk,h.nic,h.bal.1,h.bal.2⟩
   obtain⟨b1,b2,b3,_⟩:=(Tree.pp (Qsa okm g2)).2
   change Q6k (Q0r m).B2 at b1
   change okS P (Q0r m) at b2
   change(Q0r m).Mem=m.Mem at b3
   have be:=Qve h g2.st
   have b1':Q6k (Q0l m):=by have:=b1;rw[be]at this;exact this
   have b2':Q2z (Q0l m):=by have:=b2.cpu;rw[be]at this;exact this
   have ex:=Z9t hmem b2' b1'.st
   have er:=(Tree.pp (Zhg b2' hmem)).2
   change 0≤(Q5p (Q0l m) m.Mem).2.2.D9∧(Q5p (Q0l m) m.Mem).2.2.D9<16 at er
   obtain⟨d1,d2,d3⟩:=(Tree.pp (do_w b2' hmem)).2
   change U (Q7u (Q0l m) m.Mem).2.1.Value at d2
   change Q11 P (Q7u (Q0l m) m.Mem).2.2 at d3
   rw[ex]at er
   rw[adv_eq,be]
   show finP {B2:=(Q5p (Q0l m) m.Mem).1,Mem:=(Q5p (Q0l m) m.Mem).2.1,A6:=m.A6,B0:=m.B0,B1:=m.B1,C5:=m.C5,A2:=m.A2,A1:=m.A1,A7:=false,A9:=m.A9} (Q5p (Q0l m) m.Mem).2.2 clock m.A1=_
   rw[ex]
   exact fin_same (n:=withX m (Q7u (Q0l m) m.Mem).1 (Q7u (Q0l m) m.Mem).2.2) d3 h.bal er d2 clock
 · rfl
theorem Qux{m:Q00}(h:okV m)(e:Q08):Q7c m e=Qau m e:=by
 have hcl:Q02 m.Mem=m.Mem:=rfl
 have mm:=Qyf h
 have t1:Ql m.B0=Q7a m.B0:=rfl
 have t2: ∀b,Qnq m.A6 b=Qkg m.A6 b:=λ_=>rfl
 simp only[Q7c,Q39,Qau,Q89,Q0m,Q4p,Tree.m,letv,Zb9,hcl,t1,t2]
 rw[show Q16 {B2:=m.B2,Mem:=m.Mem,A6:=m.A6,B0:=m.B0,B1:=m.B1,C5:=m.C5,A2:=m.A2,A1:=m.A1,A7:=m.A7,A9:=m.A9}=Q7o m from mm]
 cases hM:Q7o m
 · rfl
 have hM':Q16 m=true:=mm.trans hM
 rcases(Qn1 m.Mem h.mem).2 with c|⟨P,hP,hmem⟩
 · exact absurd c ((Qju m).1 hM').1
 have cs:=Z8 hmem h.disk e
 have rs:=Zdp hmem h.nic e.C6
 clear mm hM hM' hcl h
 obtain⟨c,mem,con,ti,d,n,b,ct,w,hl⟩:=m
 cases hl
 · by_cases k2:e.B5=2
   · rw[k2];cases e.N==0<;>cases decide (e.C6=[])<;>rfl
   by_cases k3:e.B5=3
   · rw[k3];cases decide (e.N≤255)<;>cases decide (e.C6=[])<;>rfl
   by_cases k4:e.B5=4
   · rw[k4,cs];rfl
   by_cases k5:e.B5=5
   · rw[k5,rs];cases e.N==0<;>rfl
   by_cases k6:e.B5=6
   · rw[k6];cases decide (e.C6=[])<;>rfl
   · rw[show(e.B5==2)=false by simpa using k2,show(e.B5==3)=false by simpa using k3,show(e.B5==4)=false by simpa using k4,show(e.B5==5)=false by simpa using k5,show(e.B5==6)=false by simpa using k6]
     rfl
 · rfl
theorem few_two{l acts:List Int}{x0:Bool}(hx0:x0=Qrs l acts)(hb:(!x0)=false):l.length≤40∧acts.length≤30:=by
 have hb:x0=true:=by simpa using hb
 rw[hb]at hx0
 simp only[Qrs,Qut,Tree.m]at hx0
 cases h1:decide ((l.length:Int)≤40)<;>rw[h1]at hx0
 · cases hx0
 · have:=of_decide_eq_true hx0.symm
   have:=of_decide_eq_true h1
   omega
section
variable {m:Q00} (h:okV m) (hl:m.Mem.length≤1024)
include h
theorem may_P(hm:Q16 m=true): ∃P,okS P m∧okM P m:=by
 rcases(Qn1 m.Mem h.mem).2 with c|⟨P,hP,hmem⟩
 · exact absurd c ((Qju m).1 hm).1
 · exact⟨P,⟨h.cpu,hmem,h.disk,h.nic,h.bal.1,h.bal.2⟩,⟨h.cpu,hmem,h.disk,h.nic,h.bal,h.cnt⟩⟩
include hl
theorem Z9m{clock:Int}(hk:U clock):Q2c m clock∧(Q1t m clock).2.length≤1∧(Q1t m clock).1.Mem.length≤1024:=by
 cases hr:Q2m m
 · have e:Q1t m clock=(m,[]):=by rw[Zj,hr];rfl
   rw[e]
   refine⟨?_,Nat.zero_le _,hl⟩
   have hcl:Q02 m.Mem=m.Mem:=rfl
   show(Q2t m clock).p
   unfold Tree.p Q2t
   refine w_an (by show m.Mem.length≤35184372088832;omega) (w_lv λl hl=> ?_)
   rw[hcl]at hl;subst hl
   refine w_an (Tree.pp (Zg0 (m:=⟨_,_,_,_,_,_,m.A2,_,_,_⟩) h.bal.2)).1 (w_lv λx1 hx1=>w_br (λ_=>trivial) (λhb=> ?_))
   have:x1=false:=hx1.trans hr
   rw[this]at hb;cases hb
 · obtain⟨P,s,_⟩:=may_P h (Qy6 hr).1
   have g:=Tree.pp (step_w0 s h.cnt hk)
   have ml:=g.2.2.ok.mem.len
   have mp:=g.2.2.ok.mem.p2
   exact⟨g.1,g.2.1,by show(Q2t m clock).m.1.Mem.length≤1024;omega⟩
omit h in
theorem ownV:(Qcp m).w (λx=>x=m):=by
 unfold Qcp Qn4
 have c:(Qa m.Mem).w (λr=>r=m.Mem):=by
   unfold Qa
   refine w_cn ?_ ?_
   · simp [Nat.blt,D.plain];omega
   · show _=_;simp
 exact Q0e c λx hx=>by rw[hx];rfl
omit h hl in
theorem Zhc{P:Nat}(h:okM P m){e:Q08}(he:U e.N):(Q4p m e).w (λx=>okM P x.2):=by
 have k:=h
 obtain⟨h1,h2,h3,h4,h5,h7⟩:=h
 unfold Q4p
 repeat'(first
   |exact k
   |exact⟨h1,h2,h3,h4,⟨he,h5.2⟩,h7⟩
   |exact w_lv λ_ _=>⟨h1,h2,h3,h4,h5,h7⟩
   |exact Q0e (type_w _ _) λ_ _=>⟨h1,h2,h3,h4,h5,h7⟩
   |exact Q0e (finish_w h2 h3 _) λx hx=>⟨h1,hx.2,hx.1,h4,h5,h7⟩
   |exact Q0e (accept_w h2 h4 _) λx hx=>⟨h1,hx.2,h3,hx.1,h5,h7⟩
   |refine w_br (λ_=> ?_) (λ_=> ?_))
theorem rapplyV{e:Q08}(he:U e.N):Qjv m e∧(Qau m e).1.Mem.length≤1024:=by
 refine Tree.pp (t:=Q89 m e) (W:=λr=>r.1.Mem.length≤1024) ?_
 unfold Q89
 refine Q0e (ownV hl) λx0 e0=> ?_
 subst e0
 refine w_lv λx1 h1=>w_br (λ_=>hl) λhb=> ?_
 have hm:Q16 x0=true:=by
   rw[Qyf h]
   have:x1=true:=by simpa using hb
   exact h1.symm.trans this
 obtain⟨P,_,o⟩:=may_P h hm
 exact Q0e (Zhc o he) λx hx=>by
   show x.2.Mem.length≤1024
   have:=hx.mem.len
   have:=hx.mem.p2
   omega
theorem Z4u{e:Q08}(he:U e.N):Q7z m e:=by
 cases hm:Q16 m
 · have hcl:Q02 m.Mem=m.Mem:=rfl
   show(Q39 m e).p
   unfold Tree.p Q39
   refine w_an (by show m.Mem.length≤35184372088832;omega) (w_lv λl hl=> ?_)
   rw[hcl]at hl;subst hl
   refine w_an (Tree.pp (Za6 (m:=⟨_,_,_,_,_,_,m.A2,_,_,_⟩) h.bal.2)).1 (w_lv λx1 hx1=>w_br (λ_=>trivial) (λhb=> ?_))
   have:x1=false:=hx1.trans hm
   rw[this]at hb;cases hb
 · obtain⟨P,s,o⟩:=may_P h hm
   exact(Tree.pp (Zis o he)).1
end
theorem rsame_w(a:Q00)(ha:a.Mem.length≤1000000000000):(Q9q a a).w (λb=>b=true):=by
 unfold Q9q
 repeat'(first
   |refine w_br (λ_=> ?_) (λh=>absurd h (by simp [eqs,eq1];done))
   |exact w_an ha (w_lv λx hx=>by rw[hx];exact Z5x _ ha)
   |refine w_an ha (w_lv λx hx=>w_br (λ_=> ?_) (λh=>by rw[hx,Z5x _ ha]at h;cases h))
   |exact rfl)
 all_goals(show(_==_)=true;simp)
theorem same_outs(a:List Q03)(ha:a.length≤1000000000000):(Q53 a a).w (λb=>b=true):=by
 unfold Q53
 refine w_br (λh=>by simp at h) (λ_=> ?_)
 refine w_lp (inv:=λv:Int=>0≤v∧v≤a.length) (μ:=Q6h a a) ⟨by omega,by omega⟩ (Nat.lt_succ_self _) λv ⟨h1,h2⟩=> ?_
 refine w_br (λhb=> ?_) (λ_=>rfl)
 have hb:=of_decide_eq_true hb
 have e:IntKind.i64.wrap (v+1)=v+1:=by rw[IntKind.wrap_i64];omega
 refine w_cn (by simp [Nat.blt];omega) (w_cn (by simp [Nat.blt];omega) (w_br (λh=>by simp [eqs,eq1]at h) (λ_=>w_nx ?_)))
 show(_∧_)∧(_:Nat)<_
 exact⟨⟨by rw[e];omega,by rw[e];omega⟩,by show(a.length-IntKind.i64.wrap (v+1)).toNat<(a.length-v).toNat;rw[e];omega⟩
def Tree.V{β:Type}(t:Tree β)(W:β→Prop):Prop:=W t.m
section
variable {α β:Type} {W:β→Prop} {c:Bool} {t e:Tree β}
theorem v_lf{x:β}(h:W x):Tree.V (.lf x) W:=h
theorem v_nx{f:Prop}{x:β}{hf:f}(h:W x):Tree.V (.nx f x hf) W:=h
theorem v_br(h:c=true→Tree.V t W)(g:c=false→Tree.V e W):Tree.V (.br c t e) W:=by
 cases c
 · exact g rfl
 · exact h rfl
theorem v_cn(g:Tree.V t W):Tree.V (.cn c t) W:=g
theorem v_an{p:Prop}(g:Tree.V t W):Tree.V (.an p t) W:=g
theorem v_lv{x:α}{k:α→Tree β}(h: ∀y,y=x→Tree.V (k y) W):Tree.V (.lv x k) W:=h x rfl
theorem v_lp{d:Inhabited β}{n:Nat}{f:Prop}{x:α}{k:α→Tree (α⊕β)}{hf:f}{inv:α→Prop}{μ:α→Nat}(h:inv x)(hn:μ x<n)(g: ∀y,inv y→Tree.V (k y) (Sum.elim (λz=>inv z∧μ z<μ y) W)):Tree.V (.lp d n f x k hf) W:=by
 refine run_ind (P:=inv) (R:=W) (μ:=μ) (λa ha=> ?_) n x h hn
 have:=g a ha
 unfold Tree.V at this
 revert this
 cases(k a).m with
 |inl z=>exact λh=>h
 |inr b=>exact λh=>h
end
def Z3w(r:Q01)(m:Q00):Q01:={A0:=m,A4:=r.A4,C2:=r.C2,A3:=r.A3}
theorem inR_eq(r:Q01)(port clock:Int):Qyv r port clock=((Qdd r.A0 port clock).1,Z3w r (Qdd r.A0 port clock).2):=by
 simp only[Qyv,Z0b,Qdd,Qka,Tree.m,letv]
 cases decide (port≤1)<;>cases port==2<;>cases port==3<;>cases decide (port≤6)<;>cases decide (port≤9)<;>rfl
theorem outR_eq(r:Q01)(port v:Int):Qth r port v=((Qam r.A0 port v).1,Z3w r (Qam r.A0 port v).2):=by
 simp only[Qth,Qnk,Qam,Qdy,Tree.m,letv]
 cases port==0<;>cases decide (port≤2)<;>cases port==3<;>cases decide (port≤6)<;>cases decide (port≤9)<;>rfl
theorem cond_R{r:Q01}{c:Bool}{x y:Bool×Q01}{x' y':Bool×Q00}(hx:x=(x'.1,Z3w r x'.2))(hy:y=(y'.1,Z3w r y'.2)):cond c x y=((cond c x' y').1,Z3w r (cond c x' y').2):=by cases c<;>assumption
theorem applyR_eq(r:Q01)(e:Q08):Qnw r e=((Q0m r.A0 e).1,Z3w r (Q0m r.A0 e).2):=by
 simp only[Qnw,Qjw,Q0m,Q4p,Tree.m,letv]
 repeat'(first|rfl|refine cond_R ?_ ?_)
theorem Z8i(r:Q01)(clock:Int):Q95 r clock=((Q0f r.A0 clock).1,Z3w r (Q0f r.A0 clock).2):=by
 simp only[Q95,Qfx,Q0f,Q9,Tree.m,letv,inR_eq,outR_eq,Z3w]
 cases(Q7u (Q0l r.A0) r.A0.Mem).2.1.B5==1<;>cases(Q7u (Q0l r.A0) r.A0.Mem).2.1.B5==2<;>cases(Q7u (Q0l r.A0) r.A0.Mem).2.1.B5==3<;>cases(Q7u (Q0l r.A0) r.A0.Mem).2.1.B5==4<;>rfl
def Q1m(r:Q01)(e:Q08):Q01:=
 bif(Q0m r.A0 e).1 then{A0:=(Q0m r.A0 e).2,A4:=r.A4,C2:=r.C2++[{At:=(Q0m r.A0 e).2.A1,D0:=e}],A3:=r.A3} else Z3w r (Q0m r.A0 e).2
theorem Zij(r:Q01)(e:Q08):Qll r e=Q1m r e:=by
 have a:Qlq r e=((Q0m r.A0 e).1,Z3w r (Q0m r.A0 e).2):=by
   simp only[Qlq,Qi2,Tree.m,letv,applyR_eq]
 simp only[Qll,Ql8,Tree.m,letv,a,Q1m]
 cases(Q0m r.A0 e).1<;>rfl
def Q20(r:Q01):Q01:=bif Q7r r.A0.B0 r.A4 then Q1m r {B5:=2,N:=0,C6:=[]} else r
def Z73(r:Q01):Q01:=bif Q1g r.A0 then{A0:=r.A0,A4:=r.A4,C2:=r.C2++[{At:=r.A0.A1,D0:={B5:=1,N:=r.A4,C6:=[]}}],A3:=r.A3} else r
def Qgl(r:Q01):Q01:={A0:=(Q0f r.A0 r.A4).2,A4:=IntKind.wrap .u32 (r.A4+1),C2:=(Z73 r).C2,A3:=r.A3}
def recF:Nat→Q01→List Q03→Q01×List Q03
 |0,r,o=>(r,o)
 |n+1,r,o=>bif Q0u (Q20 r).A0 then(Q20 r,o) else recF n (Qgl (Q20 r)) (o++(Q0f (Q20 r).A0 (Q20 r).A4).1)
def noQ(r:Q01):Q01:={A0:=r.A0,A4:=r.A4,C2:=r.C2,A3:=[]}
def advF(r:Q01)(steps clock:Int):Q01×List Q03:=
 bif !Q7o r.A0 then(r,[]) else recF (Q0q steps).toNat (noQ (r.A3.foldl Q1m {A0:=r.A0,A4:=if clock>r.A4 then clock else r.A4,C2:=r.C2,A3:=r.A3})) []
theorem Qjk(r:Q01)(e:Q08):(Q1m r e).A3=r.A3:=by
 unfold Q1m;cases(Q0m r.A0 e).1<;>rfl
theorem Zhv(r:Q01):Qsk r=r:=by
 simp only[Qsk,Qqw,Tree.m,letv,Zb9]
theorem Qoe(r:Q01)(steps clock:Int)(hq:r.A3.length≤1000000):Qgv r steps clock=advF r steps clock:=by
  show Tree.V (Qcy r steps clock) (λx=>x=advF r steps clock)
  obtain⟨lim0,lim⟩:=Qnc steps
  unfold Qcy
  refine v_an (v_lv λx0 e0=>v_lv λx1 e1=> ?_)
  rw[Zhv]at e0
  subst e0
  refine v_br (λhb=>v_lf ?_) λhb=> ?_
  · unfold advF;rw[←e1,hb];rfl
  generalize hr0:({A0:=x0.A0,A4:=if clock>x0.A4 then clock else x0.A4,C2:=x0.C2,A3:=x0.A3}:Q01)=r0
  have hA:advF x0 steps clock=recF (Q0q steps).toNat (noQ (x0.A3.foldl Q1m r0)) []:=by
    unfold advF;rw[←e1,hb,hr0];rfl
  have hQ:r0.A3=x0.A3:=by rw[←hr0]
  refine v_lp (inv:=λz:Int×Q01=>0≤z.1∧z.1≤x0.A3.length∧z.2.A3=x0.A3∧(x0.A3.drop z.1.toNat).foldl Q1m z.2=x0.A3.foldl Q1m r0) (μ:=Qhn x0 steps clock) ⟨Int.le_refl 0,by show(0:Int)≤_;omega,hQ,rfl⟩ (Nat.lt_succ_self _) λz ⟨z0,z1,z2,z3⟩=> ?_
  refine v_br (λhb=> ?_) (λhb=> ?_)
  · have hb:=of_decide_eq_true hb
    rw[z2]at hb
    refine v_cn (v_an (v_lv λx2 e2=>v_nx ?_))
    have ew:IntKind.i64.wrap (z.1+1)=z.1+1:=by rw[IntKind.wrap_i64];omega
    rw[Zij]at e2
    have q2:x2.A3=x0.A3:=by rw[e2,Qjk,z2]
    have hlt:z.1.toNat<x0.A3.length:=by omega
    have ed:z.2.A3.getD z.1.toNat (RK.dflt RK.apiEvent)=x0.A3[z.1.toNat]:=by rw[z2,List.getD_eq_getElem?_getD,List.getElem?_eq_getElem hlt];rfl
    show(0≤IntKind.i64.wrap (z.1+1)∧IntKind.i64.wrap (z.1+1)≤x0.A3.length∧x2.A3=x0.A3∧(x0.A3.drop (IntKind.i64.wrap (z.1+1)).toNat).foldl Q1m x2=_)∧(x2.A3.length-IntKind.i64.wrap (z.1+1)).toNat<(z.2.A3.length-z.1).toNat
    rw[ew,q2,z2]
    refine⟨⟨by omega,by omega,rfl,?_⟩,by omega⟩
    rw[←z3,List.drop_eq_getElem_cons hlt,List.foldl_cons,show(z.1+1).toNat=z.1.toNat+1 by omega,e2,ed]
  · have hb:=of_decide_eq_false hb
    rw[z2]at hb
    obtain⟨zi,zr⟩:=z
    have hb: ¬zi<x0.A3.length:=hb
    have ze:zr=x0.A3.foldl Q1m r0:=by
      rw[←z3,List.drop_eq_nil_of_le (by show x0.A3.length≤zi.toNat;omega)];rfl
    rw[←ze]at hA
    refine v_lp (inv:=λy:Int×Q01×List Q03=>0≤y.1∧y.1≤Q0q steps∧recF (Q0q steps-y.1).toNat y.2.1 y.2.2=advF x0 steps clock) (μ:=Q8l x0 steps clock (zi,zr)) ⟨Int.le_refl 0,by show(0:Int)≤_;omega,by rw[hA];show recF (Q0q steps-0).toNat _ _=_;rw[Int.sub_zero];rfl⟩ (Nat.lt_succ_self _) λy ⟨y0,y1,y2⟩=> ?_
    obtain⟨yi,yr,yo⟩:=y
    have mu: ∀q,yi<4000→Q8l x0 steps clock (zi,zr) (IntKind.wrap .i64 (yi+1),q)<Q8l x0 steps clock (zi,zr) (yi,yr,yo):=λq h=>by
      show(4000-IntKind.wrap .i64 (yi+1)).toNat<(4000-yi).toNat
      have y0:0≤yi:=y0
      rw[IntKind.wrap_i64];omega
    have y0:0≤yi:=y0
    refine v_lv λx3 e3=>v_br (λhb=> ?_) (λhb=> ?_)
    · have hb:yi<x3:=of_decide_eq_true hb
      rw[e3]at hb
      have mu:=λq=>mu q (by omega)
      have ew:IntKind.i64.wrap (yi+1)=yi+1:=by rw[IntKind.wrap_i64];omega
      have en:(Q0q steps-yi).toNat=(Q0q steps-(yi+1)).toNat+1:=by omega
      change recF (Q0q steps-yi).toNat yr yo=_ at y2
      rw[en]at y2
      refine v_lv λx4 e4=>v_br (λhd=>v_an (v_lv λx5 e5=> ?_)) (λhd=> ?_)
      · have e5:x5=Q20 yr:=by rw[e5,Zij];unfold Q20;rw[←e4,hd];rfl
        refine v_an (v_lv λx6 e6=>v_br (λhs=>v_lf ?_) λhs=>v_an (v_lv λx7 e7=>v_br (λhr=>v_cn (v_an (v_lv λx8 e8=>v_cn (v_nx ?_)))) λhr=>v_an (v_lv λx9 e9=>v_cn (v_nx ?_))))
        · show(_,yo)=_
          rw[←y2];unfold recF
          rw[←e5,←e6,hs];rfl
        · rw[Z8i]at e8
          refine⟨⟨by show 0≤IntKind.wrap .i64 (yi+1);rw[ew];omega,by show IntKind.wrap .i64 (yi+1)≤_;rw[ew];omega,?_⟩,mu _⟩
          show recF (Q0q steps-IntKind.wrap .i64 (yi+1)).toNat _ _=_
          rw[ew,←y2,e8]
          conv=>rhs;unfold recF
          rw[←e5,←e6,hs]
          unfold Qgl Z73
          rw[←e7,hr];rfl
        · rw[Z8i]at e9
          refine⟨⟨by show 0≤IntKind.wrap .i64 (yi+1);rw[ew];omega,by show IntKind.wrap .i64 (yi+1)≤_;rw[ew];omega,?_⟩,mu _⟩
          show recF (Q0q steps-IntKind.wrap .i64 (yi+1)).toNat _ _=_
          rw[ew,←y2,e9]
          conv=>rhs;unfold recF
          rw[←e5,←e6,hs]
          unfold Qgl Z73
          rw[←e7,hr];rfl
      · have e5:yr=Q20 yr:=by
          have e4:x4=Q7r yr.A0.B0 yr.A4:=e4
          unfold Q20;rw[←e4,hd];rfl
        refine v_an (v_lv λx6 e6=>v_br (λhs=>v_lf ?_) λhs=>v_an (v_lv λx7 e7=>v_br (λhr=>v_cn (v_an (v_lv λx8 e8=>v_cn (v_nx ?_)))) λhr=>v_an (v_lv λx9 e9=>v_cn (v_nx ?_))))
        · show(_,yo)=_
          rw[←y2];unfold recF
          rw[←e5,←e6,hs];rfl
        · rw[Z8i]at e8
          refine⟨⟨by show 0≤IntKind.wrap .i64 (yi+1);rw[ew];omega,by show IntKind.wrap .i64 (yi+1)≤_;rw[ew];omega,?_⟩,mu _⟩
          show recF (Q0q steps-IntKind.wrap .i64 (yi+1)).toNat _ _=_
          rw[ew,←y2,e8]
          conv=>rhs;unfold recF
          rw[←e5,←e6,hs]
          unfold Qgl Z73
          rw[←e7,hr];rfl
        · rw[Z8i]at e9
          refine⟨⟨by show 0≤IntKind.wrap .i64 (yi+1);rw[ew];omega,by show IntKind.wrap .i64 (yi+1)≤_;rw[ew];omega,?_⟩,mu _⟩
          show recF (Q0q steps-IntKind.wrap .i64 (yi+1)).toNat _ _=_
          rw[ew,←y2,e9]
          conv=>rhs;unfold recF
          rw[←e5,←e6,hs]
          unfold Qgl Z73
          rw[←e7,hr];rfl
    · have hb: ¬yi<x3:=of_decide_eq_false hb
      rw[e3]at hb
      refine v_lf ?_
      show(yr,yo)=_
      change recF (Q0q steps-yi).toNat yr yo=_ at y2
      rw[←y2,show(Q0q steps-yi).toNat=0 by omega];rfl
structure good(P:Nat)(m:Q00):Prop where
 ok:okM P m
 may:Q16 m=true
section
variable {P:Nat} {m:Q00} (h:good P m)
include h
theorem good.v:okV m:=⟨h.ok.cpu,h.ok.mem.u,h.ok.disk,h.ok.nic,h.ok.target,h.ok.cnt⟩
theorem good.s:okS P m:=⟨h.ok.cpu,h.ok.mem,h.ok.disk,h.ok.nic,h.ok.target.1,h.ok.target.2⟩
theorem good.rmay:Q7o m=true:=(Qyf h.v).symm.trans h.may
theorem Qlx{e:Q08}(he:U e.N):good P (Q0m m e).2∧(Q0m m e).2.A1=m.A1:=by
 have o:okM P (Q0m m e).2:=Tree.post _ (Zhc h.ok he)
 have a:=(Tree.pp (Zis h.ok he)).2
 change(Q16 m=true→Q16 (Q7c m e).1=true)∧(Q7c m e).1.A1=m.A1∧_ at a
 have e1:Qau m e=((Q0m m e).2,(Q0m m e).1):=by
   simp only[Qau,Q89,Tree.m,letv,Zb9,h.rmay];rfl
 rw[Qux h.v e,e1]at a
 exact⟨⟨o,a.1 h.may⟩,a.2.1⟩
theorem Zcw:Q0u m=false↔m.A9=false∧Qdj m=false∧m.A1<1152921504606846976:=by
 simp only[Q0u,Qfv,Tree.m,letv,h.rmay]
 cases m.A9<;>cases Qdj m<;>simp
theorem Q8n(hs:Q0u m=false){clock:Int}(hc:U clock):good P (Q0f m clock).2∧(Q0f m clock).2.A1=m.A1+1∧(Q0f m clock).1.length≤1:=by
 have o:=Tree.post _ (Z4v h.ok hc)
 change(Q0f m clock).1.length≤1∧okM P (Q0f m clock).2∧(Q0f m clock).2.A1=IntKind.wrap .u64 (m.A1+1) at o
 have s:=(Tree.pp (step_w0 h.s h.ok.cnt hc)).2
 change _∧Good P m (Q1t m clock).1 at s
 have e:Q1t m clock=((Q0f m clock).2,(Q0f m clock).1):=by rw[Zao h.v,Z8d,hs];rfl
 rw[e]at s
 have hct:=((Zcw h).1 hs).2.2
 have h0:=h.ok.cnt
 refine⟨⟨o.2.1,s.2.may h.may⟩,?_,o.1⟩
 rw[o.2.2,IntKind.wrap_u64];omega
end
structure Q64(P:Nat)(k:Int)(r:Q01):Prop where
 m:good P r.A0
 clock:U r.A4
 cnt:r.A0.A1≤k
theorem Qi0{P:Nat}{k:Int}{r:Q01}(h:Q64 P k r){e:Q08}(he:U e.N):Q64 P k (Q1m r e)∧(Q1m r e).A0.A1=r.A0.A1:=by
 obtain⟨a,b⟩:=Qlx h.m he
 have hc:=h.cnt
 unfold Q1m
 cases(Q0m r.A0 e).1
 · exact⟨⟨a,h.clock,by show(Q0m r.A0 e).2.A1≤k;omega⟩,b⟩
 · exact⟨⟨a,h.clock,by show(Q0m r.A0 e).2.A1≤k;omega⟩,b⟩
theorem Qh7{P:Nat}{k:Int}{r:Q01}(h:Q64 P k r):Q64 P k (Q20 r)∧(Q20 r).A0.A1=r.A0.A1:=by
 unfold Q20
 cases Q7r r.A0.B0 r.A4
 · exact⟨h,rfl⟩
 · exact Qi0 h U_0
theorem Qh2{P:Nat}{k:Int}{r:Q01}(h:Q64 P k r)(hs:Q0u r.A0=false):Q64 P (k+1) (Qgl r):=by
 obtain⟨a,b,_⟩:=Q8n h.m hs h.clock
 have hc:=h.cnt
 exact⟨a,Q0s _,by show(Q0f r.A0 r.A4).2.A1≤k+1;omega⟩
theorem Zc4{P:Nat}(n:Nat): ∀{k:Int} {r:Q01} {o:List Q03},Q64 P k r→Q64 P (k+n) (recF n r o).1:=by
 induction n with
 |zero=>intro k r o h;exact⟨h.m,h.clock,by have:=h.cnt;show r.A0.A1≤k+(0:Nat);omega⟩
 | succ n ih=>
   intro k r o h
   obtain⟨f,fc⟩:=Qh7 h
   unfold recF
   cases hs:Q0u (Q20 r).A0
   · have t:=ih (o:=o++(Q0f (Q20 r).A0 (Q20 r).A4).1) (Qh2 f hs)
     exact⟨t.m,t.clock,by have:=t.cnt;show(recF n _ _).1.A0.A1≤_;omega⟩
   · exact⟨f.m,f.clock,by have:=f.cnt;show(Q20 r).A0.A1≤_;omega⟩
theorem Z41{P:Nat}{k:Int}(l:List Q08): ∀{r:Q01},Q64 P k r→(∀q∈l,U q.N)→Q64 P k (l.foldl Q1m r)∧(l.foldl Q1m r).A3=r.A3:=by
 induction l with
 |nil=>intro r h _;exact⟨h,rfl⟩
 | cons e l ih=>
   intro r h hu
   obtain⟨a,b⟩:=ih (Qi0 h (hu e (by simp))).1 (λq hq=>hu q (by simp [hq]))
   exact⟨a,b.trans (Qjk r e)⟩
theorem Z64(n:Nat): ∀(r:Q01) (o:List Q03),(recF n r o).1.A3=r.A3:=by
 induction n with
 |zero=>intro r o;rfl
 | succ n ih=>
   intro r o
   have f:(Q20 r).A3=r.A3:=by
     unfold Q20;cases Q7r r.A0.B0 r.A4
     · rfl
     · exact Qjk _ _
   unfold recF
   cases Q0u (Q20 r).A0
   · exact(ih _ _).trans f
   · exact f
def okQ(l:List Q08):Prop:=l.length≤16∧ ∀q∈l,U q.N
theorem advF_keep{P:Nat}{k:Int}{r:Q01}(h:Q64 P k r)(hq:okQ r.A3)(steps:Int){clock:Int}(hc:U clock):Q64 P (k+4000) (advF r steps clock).1∧okQ (advF r steps clock).1.A3:=by
 obtain⟨l0,l1⟩:=Qnc steps
 unfold advF
 rw[h.m.rmay]
 have hcl:U (if clock>r.A4 then clock else r.A4):=by split<;>first|exact hc|exact h.clock
 obtain⟨a,b⟩:=Z41 r.A3 (r:={A0:=r.A0,A4:=if clock>r.A4 then clock else r.A4,C2:=r.C2,A3:=r.A3}) ⟨h.m,hcl,h.cnt⟩ hq.2
 have c:=Zc4 (Q0q steps).toNat (o:=[]) (r:=noQ (r.A3.foldl Q1m {A0:=r.A0,A4:=if clock>r.A4 then clock else r.A4,C2:=r.C2,A3:=r.A3})) ⟨a.m,a.clock,a.cnt⟩
 refine⟨⟨c.m,c.clock,?_⟩,?_⟩
 · have:=c.cnt
   show(recF _ _ _).1.A0.A1≤_
   omega
 · show okQ (recF _ _ _).1.A3
   rw[Z64];exact⟨Nat.zero_le _,λq hq=>by cases hq⟩
theorem Zgw(n:Int):U (Q3g n).N:=Tree.post _ (event_w n)
theorem Qbt(r:Q01)(e:Q08):Q2i r e=bif !Q32 e then(r,false) else bif e.B5==1 then(r,false) else bif decide ((r.A3.length:Int)≥16) then(r,false) else({A0:=r.A0,A4:=r.A4,C2:=r.C2,A3:=r.A3++[e]},true):=by
 simp only[Q2i,Qjp,Tree.m,letv,Zhv]
theorem Zfy{P:Nat}{k:Int}{r:Q01}(h:Q64 P k r)(hq:okQ r.A3){e:Q08}(he:U e.N):Q64 P k (Q2i r e).1∧okQ (Q2i r e).1.A3:=by
  rw[Qbt]
  cases Q32 e
  · exact⟨h,hq⟩
  · cases e.B5==1
    · cases hl:decide ((r.A3.length:Int)≥16)
      · have hl:=of_decide_eq_false hl
        refine⟨⟨h.m,h.clock,h.cnt⟩,?_,λq hm=> ?_⟩
        · show(r.A3++[e]).length≤16
          rw[List.length_append,List.length_singleton];omega
        · have hm:q∈r.A3++[e]:=hm
          rcases List.mem_append.1 hm with hm|hm
          · exact hq.2 q hm
          · rw[List.mem_singleton.1 hm];exact he
      · exact⟨h,hq⟩
    · exact⟨h,hq⟩
theorem Qo6{r:Q01}{n:Int}(h:(Int.tmod (Q3e n 3) 3==0)=true):Q48 r n=((Q2i r (Q3g n)).1,[]):=by
 show Tree.V (Qi7 r n) (λx=>x=((Q2i r (Q3g n)).1,[]))
 unfold Qi7
 refine v_lv λx0 e0=>v_br (λ_=>v_an (v_lv λx1 e1=>v_an (v_lv λx2 e2=>v_lf ?_))) (λhb=> ?_)
 · rw[e2,e1]
 · rw[e0,h]at hb;cases hb
theorem Qoy{r:Q01}{n:Int}(h:(Int.tmod (Q3e n 3) 3==0)=false):Q48 r n=Qgv r (Q4g (ishr .i64 (Q3e n 3) 4) 12) (IntKind.wrap .u32 (iand .i64 (ishr .i64 (Q3e n 3) 12) 255)):=by
 show Tree.V (Qi7 r n) (λx=>x=Qgv r (Q4g (ishr .i64 (Q3e n 3) 4) 12) (IntKind.wrap .u32 (iand .i64 (ishr .i64 (Q3e n 3) 12) 255)))
 unfold Qi7
 refine v_lv λx0 e0=>v_br (λhb=> ?_) (λ_=>v_an (v_lv λx1 e1=>v_an (v_lv λx2 e2=>v_lf ?_)))
 · rw[e0,h]at hb;cases hb
 · rw[e2,e1,e0]
def Qlw(s:Q01×List Q03)(n:Int):Q01×List Q03:=((Q48 s.1 n).1,s.2++(Q48 s.1 n).2)
theorem Qrg(s:Q01×List Q03)(n:Int):Qlw s n=((Q48 s.1 n).1,s.2++(Q48 s.1 n).2):=by unfold Qlw;rfl
theorem Zhz{i:List Int}(hu: ∀w∈i,U w)(hl:i.length≤256):good 8 (Q1w 8 4 i).1∧(Q1w 8 4 i).1.A1=0:=by
 obtain⟨a,b⟩:=(Tree.pp (new_w i hu hl)).2
 change okM 8 (Q1w 8 4 i).1 at a
 refine⟨⟨a,?_⟩,b⟩
 have e:(Q1w 8 4 i).2=true:=by
   have w:IntKind.i64.wrap (8*32)=256:=by decide
   simp only[Q1w,Q82,Tree.m,w,letv,decide_eq_false (show¬((i.length:Int)>256) by omega)]
   rfl
 obtain⟨a1,a2,a3,a4,a5,a6⟩:=new_ok 8 4 i e
 exact(may_of _ 8 4 a1 a2 a3 a4 a5 _ a6).1
theorem runN_good{m:Q00}(h:good 8 m)(hc:m.A1≤87):Tree.V (Qag m [] 87) (λx=>x.2.2.2=0→good 8 x.1∧x.1.A1≤87):=by
 have z: ∀{k:Int} {p:Prop},k≠0→k=0→p:=λa b=>absurd b a
 unfold Qag
 refine v_lv λx0 _=>v_br (λ_=>v_lf (z (by decide))) λ_=>v_br (λ_=>v_lf (z (by decide))) λ_=>v_br (λ_=>v_lf (z (by decide))) λ_=>v_an (v_lv λx1 _=>v_br (λ_=>v_lf (z (by decide))) λ_=>v_an (v_lv λx2 hx=> ?_))
 rw[Zb9]at hx
 refine v_lp (inv:=λv:Q00×List Q03=>good 8 v.1∧v.1.A1≤87) (μ:=Qga m [] 87) ⟨by rw[hx];exact h,by rw[hx];exact hc⟩ (Nat.lt_succ_self _) λv0 ⟨a1,a3⟩=> ?_
 have a2:=a1.ok.cnt
 refine v_br (λhb=>v_br (λhm=> ?_) (λ_=>v_lf λ_=>⟨a1,a3⟩)) (λ_=>v_lf λ_=>⟨a1,a3⟩)
 have hb:=of_decide_eq_true hb
 have hm:=of_decide_eq_true hm
 refine v_lp (inv:=λ_=>True) (μ:=Qg9 m [] 87 v0) trivial (Nat.lt_succ_self _) λv1 _=> ?_
 refine v_br (λ_=>v_lf λ_=>⟨a1,a3⟩) λhh=>v_an (v_lv λx3 h3=>v_br (λ_=>v_lf λ_=>⟨a1,a3⟩) λhi=>v_an (v_lv λx4 _=>v_br (λ_=>v_lf (z (by decide))) λ_=>v_an (v_lv λx5 h5=>v_cn (v_nx ?_))))
 obtain⟨b1,b2,_⟩:=Q8n a1 ((Zcw a1).2 ⟨hh,h3.symm.trans hi,hm⟩) (clock:=0) U_0
 rw[←h5]at b1 b2
 show(good 8 x5.2∧x5.2.A1≤87)∧(87-x5.2.A1).toNat<(87-v0.1.A1).toNat
 exact⟨⟨b1,by omega⟩,by omega⟩
theorem Zdo(kind:Int)(l:List Int)(hl:l.length*8≤reachBytes)(h40:l.length≤40):good 8 (Qjj kind l)∧(Qjj kind l).A1≤87:=by
  show Tree.V (Q7d kind l) (λm=>good 8 m∧m.A1≤87)
  have code:=(Tree.pp (code_w l hl)).2
  change((Qnd l).length:Int)=l.length∧ ∀w∈Qnd l,U w at code
  obtain⟨b1,b2⟩:=code
  unfold Q7d
  refine v_an (v_lv λx0 hx0=>v_br (λ_=>v_an (v_lv λx1 e1=> ?_)) (λhk=> ?_))
  · have eb:x1.1=boot:=by rw[e1];rfl
    obtain⟨q1,q2⟩:boot.length≤160∧ ∀w∈boot,U w:=asm_ok
    refine v_lp (inv:=λv:List Int=>v.length≤160∧v=boot++List.replicate (v.length-boot.length) 0) (μ:=Qdb kind l) ⟨by rw[eb];exact q1,by rw[eb];simp⟩ (Nat.lt_succ_self _) λv0 ⟨a1,a2⟩=> ?_
    have a3:boot.length≤v0.length:=by rw[a2,List.length_append];omega
    refine v_br (λhb=> ?_) (λhb=> ?_)
    · have hb:=of_decide_eq_true hb
      refine v_cn (v_nx ?_)
      show(_∧_)∧(_:Nat)<_
      refine⟨⟨by rw[List.length_append,List.length_singleton];omega,?_⟩,by show 160-(v0++[0]).length<160-v0.length;rw[List.length_append,List.length_singleton];omega⟩
      show v0++[0]=boot++List.replicate ((v0++[0]).length-boot.length) 0
      rw[List.length_append,List.length_singleton,show v0.length+1-boot.length=(v0.length-boot.length)+1 by omega,List.replicate_succ',←List.append_assoc,←a2]
    · have hb:=of_decide_eq_false hb
      have hv:v0=Qjr:=by
        unfold Qjr
        rw[show(160:Nat)=v0.length by omega]
        exact a2
      subst hv
      have hp:=pad_len
      have hu0: ∀w∈Qjr,U w:=λw hw=>(List.mem_append.1 hw).elim (q2 w) (U_all _ w)
      refine v_an (v_lv λx2 e2=>v_cn ?_)
      rw[←e2]at b1 b2
      have hu: ∀w∈Qjr++x2,U w:=λw hw=>(List.mem_append.1 hw).elim (hu0 w) (b2 w)
      have hlen:(Qjr++x2).length≤256:=by rw[List.length_append];omega
      refine v_br (λhb=> ?_) (λhb=> ?_)
      · have hb:=of_decide_eq_true hb;omega
      · obtain⟨c1,c2⟩:=Zhz hu hlen
        refine v_an (v_lv λx3 h3=> ?_)
        rw[←h3]at c1 c2
        have rn:=runN_good c1 (by omega)
        refine v_br (λ_=>v_an (v_lv λx4 hx=>v_lf ?_)) (λ_=>v_lf ⟨c1,by omega⟩)
        have e:x3=Q1w 8 4 (Qjr++(x2++List.replicate (96-x2.length) 0)):=by
          rw[h3]
          have hl2:(x2++List.replicate (96-x2.length) (0:Int)).length=96:=by rw[List.length_append,List.length_replicate];omega
          refine new_mem _ _ hlen (by rw[List.length_append,hl2];omega) ?_
          rw[List.length_append,List.length_append,hl2,hp,List.append_assoc,List.append_assoc,List.append_assoc,show 256-(160+96)=0 by omega,show 256-(160+x2.length)=96-x2.length by omega]
          simp
        have h0:x4.2.2.2=0:=by
          rw[hx,e]
          exact run_ok _ (by rw[List.length_append,List.length_replicate];omega)
        exact(by rw[hx];exact rn:x4.2.2.2=0→good 8 x4.1∧x4.1.A1≤87) h0
  · have hk:=of_decide_eq_false hk
    refine v_an (v_lv λx2 e2=>v_cn ?_)
    rw[←e2]at b1 b2
    refine v_br (λhb=> ?_) (λhb=> ?_)
    · have hb:=of_decide_eq_true hb;omega
    · obtain⟨c1,c2⟩:=Zhz b2 (by omega)
      refine v_an (v_lv λx3 h3=> ?_)
      rw[←h3]at c1 c2
      exact v_br (λh=>absurd (eq_of_beq h) (by omega)) (λ_=>v_lf ⟨c1,by omega⟩)
set_option synthInstance.maxHeartbeats 2000000
set_option synthInstance.maxSize 100000
noncomputable section
instance Qx8 (s:(List Int)):Ck (Q05 s):=let d:Decidable (Q05 s):=(by delta Q05;infer_instance);⟨@decide _ d,@of_decide_eq_true _ d⟩
instance Zmb (m:(List Int)) (addr:Int) (size:Int):Ck (Q5z m addr size):=ckT (t:=Q3a m addr size) (by delta Q3a;infer_instance)
instance bits_mask_ck (n:Int):Ck (Qb3 n):=ckT (t:=Qah n) (by delta Qah;infer_instance)
instance bits_Field_ck (w:Int) (low:Int) (n:Int):Ck (Q3r w low n):=ckT (t:=Q88 w low n) (by delta Q88;infer_instance)
instance Zmd (w:Int) (low:Int) (n:Int) (v:Int):Ck (Q7y w low n v):=ckT (t:=Q4t w low n v) (by delta Q4t;infer_instance)
instance memory_Store_ck (m:(List Int)) (addr:Int) (size:Int) (v:Int):Ck (Q59 m addr size v):=ckT (t:=Q4l m addr size v) (by delta Q4l;infer_instance)
instance Zhq (x:Int) (n:Int):Ck (Q4b x n):=ckT (t:=Q3k x n) (by delta Q3k;infer_instance)
instance isa_Decode_ck (w:Int):Ck (Qbi w):=ckT (t:=Q6u w) (by delta Q6u;infer_instance)
instance bits_Divide_ck (a:Int) (b:Int):Ck (Q87 a b):=ckT (t:=Q5n a b) (by delta Q5n;infer_instance)
instance cpu_Alu_ck (op:Int) (a:Int) (b:Int):Ck (Qej op a b):=ckT (t:=Qf7 op a b) (by delta Qf7;infer_instance)
instance memory_Load_ck (m:(List Int)) (addr:Int) (size:Int):Ck (Q2o m addr size):=ckT (t:=Q5r m addr size) (by delta Q5r;infer_instance)
instance Zl (pte:Int):Ck (Q52 pte):=ckT (t:=Q43 pte) (by delta Q43;infer_instance)
instance paging_Walk_ck (m:(List Int)) (root:Int) (va:Int) (access:Int):Ck (Q7x m root va access):=ckT (t:=Q5q m root va access) (by delta Q5q;infer_instance)
instance paging_Touch_ck (m:(List Int)) (entry:Int) (access:Int):Ck (Q6p m entry access):=ckT (t:=Q4m m entry access) (by delta Q4m;infer_instance)
instance cpu_Resolve_ck (c:Q04) (m:(List Int)) (va:Int) (size:Int) (access:Int):Ck (Q63 c m va size access):=ckT (t:=Q5o c m va size access) (by delta Q5o;infer_instance)
instance cpu_Fetch_ck (c:Q04) (m:(List Int)):Ck (Qcs c m):=ckT (t:=Q9w c m) (by delta Q9w;infer_instance)
instance cpu_set_ck (c:Q04) (register:Int) (v:Int):Ck (Q5b c register v):=ckT (t:=Q8z c register v) (by delta Q8z;infer_instance)
instance cpu_load_ck (c:Q04) (m:(List Int)) (i:Q0i):Ck (Qf c m i):=ckT (t:=Q93 c m i) (by delta Q93;infer_instance)
instance cpu_store_ck (c:Q04) (m:(List Int)) (i:Q0i):Ck (Qct c m i):=ckT (t:=Q7e c m i) (by delta Q7e;infer_instance)
instance cpu_Write_ck (c:Q04) (csr:Int) (v:Int):Ck (Qd8 c csr v):=ckT (t:=Q7f c csr v) (by delta Q7f;infer_instance)
instance cpu_execute_ck (c:Q04) (i:Q0i):Ck (Qa9 c i):=ckT (t:=Q3d c i) (by delta Q3d;infer_instance)
instance cpu_Exec_ck (c:Q04) (m:(List Int)):Ck (Qcm c m):=ckT (t:=Q6m c m) (by delta Q6m;infer_instance)
instance Zi1 (x:Int):Ck (Q69 x):=ckT (t:=Q24 x) (by delta Q24;infer_instance)
instance balloon_May_ck (b:Q06) (pages:Int):Ck (Q7t b pages):=ckT (t:=Q41 b pages) (by delta Q41;infer_instance)
instance Zba (m:Q00):Ck (Q1y m):=ckT (t:=Q1j m) (by delta Q1j;infer_instance)
instance machine_May_ck (m:Q00):Ck (Q3b m):=ckT (t:=Q4k m) (by delta Q4k;infer_instance)
instance Z44 (x:Int):Ck (Q38 x):=ckT (t:=Q1s x) (by delta Q1s;infer_instance)
instance Zm5 (b:Q06):Ck (Q61 b):=ckT (t:=Q4q b) (by delta Q4q;infer_instance)
instance Zj6 (b:Q06):Ck (Q6d b):=ckT (t:=Q2x b) (by delta Q2x;infer_instance)
instance Zmf (m:Q00):Ck (Q85 m):=ckT (t:=Q3z m) (by delta Q3z;infer_instance)
instance Zi9 (m:Q00):Ck (Q4a m):=ckT (t:=Q23 m) (by delta Q23;infer_instance)
instance machine_Idle_ck (m:Q00):Ck (Q2g m):=ckT (t:=Q37 m) (by delta Q37;infer_instance)
instance machine_runs_ck (m:Q00):Ck (Q6t m):=ckT (t:=Q3q m) (by delta Q3q;infer_instance)
instance Zm9 (m:Q00):Ck (Q6 m):=ckT (t:=Q2r m) (by delta Q2r;infer_instance)
instance balloon_In_ck (b:Q06) (port:Int):Ck (Qbo b port):=ckT (t:=Q72 b port) (by delta Q72;infer_instance)
instance Zgc (m:Q00) (port:Int) (clock:Int):Ck (Q5f m port clock):=ckT (t:=Q26 m port clock) (by delta Q26;infer_instance)
instance memory_text_ck (words:(List Int)):Ck (Q40 words):=let d:Decidable (Q40 words):=(by delta Q40;infer_instance);⟨@decide _ d,@of_decide_eq_true _ d⟩
instance memory_Page_ck (m:(List Int)) (frame:Int):Ck (Q6f m frame):=ckT (t:=Q4 m frame) (by delta Q4;infer_instance)
instance disk_issue_ck (d0:Q0c) (m:(List Int)) (cmd:Int) (at0:Int):Ck (Qbh d0 m cmd at0):=ckT (t:=Q79 d0 m cmd at0) (by delta Q79;infer_instance)
instance disk_Out_ck (d0:Q0c) (m:(List Int)) (port:Int) (v:Int) (at0:Int):Ck (Qf9 d0 m port v at0):=ckT (t:=Qas d0 m port v at0) (by delta Qas;infer_instance)
instance nic_send_ck (n:Q0o) (m:(List Int)) (at0:Int):Ck (Qfc n m at0):=ckT (t:=Qb4 n m at0) (by delta Qb4;infer_instance)
instance nic_Out_ck (n:Q0o) (m:(List Int)) (port:Int) (v:Int) (at0:Int):Ck (Qij n m port v at0):=ckT (t:=Qdl n m port v at0) (by delta Qdl;infer_instance)
instance Zkr (m:(List Int)) (frame:Int) (s:(List UInt8)):Ck (Q3s m frame s):=ckT (t:=Q2f m frame s) (by delta Q2f;infer_instance)
instance Zkm (s:(List UInt8)) (count:Int):Ck (Q34 s count):=let d:Decidable (Q34 s count):=(by delta Q34;infer_instance);⟨@decide _ d,@of_decide_eq_true _ d⟩
instance balloon_Out_ck (b:Q06) (m:(List Int)) (port:Int) (v:Int):Ck (Qa1 b m port v):=ckT (t:=Q2w b m port v) (by delta Q2w;infer_instance)
instance Ze3 (m:Q00) (port:Int) (v:Int) (at0:Int):Ck (Q4s m port v at0):=ckT (t:=Q2a m port v at0) (by delta Q2a;infer_instance)
instance machine_Step_ck (m:Q00) (clock:Int):Ck (Q2c m clock):=ckT (t:=Q2t m clock) (by delta Q2t;infer_instance)
instance make_Round_ck (n:Int) (k:Int):Ck (Q2h n k):=ckT (t:=Qcn n k) (by delta Qcn;infer_instance)
instance make_Inst_ck (n:Int):Ck (Q8j n):=ckT (t:=Qc6 n) (by delta Qc6;infer_instance)
instance make_Code_ck (l:(List Int)):Ck (Qak l):=ckT (t:=Qa4 l) (by delta Qa4;infer_instance)
instance ref1_New_ck (pages:Int):Ck (Q9r pages):=ckT (t:=Qch pages) (by delta Qch;infer_instance)
instance ref7_New_ck (pages:Int) (blocks:Int) (image:(List Int)):Ck (Q76 pages blocks image):=ckT (t:=Q82 pages blocks image) (by delta Q82;infer_instance)
instance Zkc (a:(List Int)) (b:(List Int)):Ck (Q2k a b):=let d:Decidable (Q2k a b):=(by delta Q2k;infer_instance);⟨@decide _ d,@of_decide_eq_true _ d⟩
instance ref7_Same_ck (a:Q00) (b:Q00):Ck (Qan a b):=ckT (t:=Q9q a b) (by delta Q9q;infer_instance)
instance Z9o (m:Q00):Ck (Q1i m):=ckT (t:=Q21 m) (by delta Q21;infer_instance)
instance console_Type_ck (c:Q0b) (b:Int):Ck (Qg5 c b):=ckT (t:=Q7g c b) (by delta Q7g;infer_instance)
instance Zm4 (d0:Q0c) (m:(List Int)) (e:Q08):Ck (Qe6 d0 m e):=ckT (t:=Q4o d0 m e) (by delta Q4o;infer_instance)
instance nic_Receive_ck (n:Q0o) (m:(List Int)) (frame:(List UInt8)):Ck (Qhd n m frame):=ckT (t:=Q6y n m frame) (by delta Q6y;infer_instance)
instance Zm3 (m:Q00) (e:Q08):Ck (Q7z m e):=ckT (t:=Q39 m e) (by delta Q39;infer_instance)
instance Qqz (s:(List Q0n)):Ck (Q0z s):=let d:Decidable (Q0z s):=(by delta Q0z;infer_instance);⟨@decide _ d,@of_decide_eq_true _ d⟩
instance Qqr (s:(List Q08)):Ck (Q1 s):=let d:Decidable (Q1 s):=(by delta Q1;infer_instance);⟨@decide _ d,@of_decide_eq_true _ d⟩
instance Zma (r:Q01):Ck (Q49 r):=ckT (t:=Q6e r) (by delta Q6e;infer_instance)
instance record_New_ck (m:Q00):Ck (Qex m):=ckT (t:=Qaa m) (by delta Qaa;infer_instance)
instance Zm6 (r:Q01) (e:Q08):Ck (Q7s r e):=ckT (t:=Q65 r e) (by delta Q65;infer_instance)
instance record_Cut_ck (r:Q01):Ck (Qjq r):=ckT (t:=Qfu r) (by delta Qfu;infer_instance)
instance Zfq (e:Q08) (fr0:Q01):Ck (Q7n e fr0):=ckT (t:=Q3x e fr0) (by delta Q3x;infer_instance)
instance Ze4 (e:Q08) (fr0:Q01):Ck (Q9p e fr0):=ckT (t:=Q3f e fr0) (by delta Q3f;infer_instance)
instance Zgr (e:Q08) (fr0:Q01):Ck (Q7l e fr0):=ckT (t:=Q3y e fr0) (by delta Q3y;infer_instance)
instance Zkt (r:Q01) (steps:Int) (clock:Int):Ck (Q9k r steps clock):=ckT (t:=Q45 r steps clock) (by delta Q45;infer_instance)
theorem awake_pre:Q8:=ck (ckT (t:=Qdi) (by delta Qdi;infer_instance)) (by kernel_rfl)
theorem Zk5:Qe3=true:=by kernel_rfl
end
theorem Zkh(w:Int):IntKind.wrap .i64 (Q22 w).1.Imm=(Q22 w).1.Imm:=by
 show Tree.V (Q74 w) (λr=>IntKind.wrap .i64 r.1.Imm=r.1.Imm)
 have e: ∀x,IntKind.wrap .i64 (IntKind.wrap .i32 x)=IntKind.wrap .i32 x:=λx=>by rw[IntKind.wrap_i64,IntKind.wrap_i32];omega
 unfold Q74
 refine v_lv λx0 _=> ?_
 have l: ∀i:Q0i,IntKind.wrap .i64 i.Imm=i.Imm→Tree.V (Tree.lv (Q7v i) λx=> .br (!x) (.lf ((⟨0,0,0,0,0⟩:Q0i),false)) (.lf (i,true))) (λr=>IntKind.wrap .i64 r.1.Imm=r.1.Imm):=λi hi=>v_lv λx hx=>v_br (λ_=>v_lf rfl) (λhb=>v_lf hi)
 exact v_br (λ_=>v_lf rfl) (λ_=>v_br (λ_=>l _ rfl) (λ_=>v_br (λ_=>l _ (e _)) (λ_=>v_br (λ_=>l _ (e _)) (λ_=>l _ (e _)))))
def ioP(e:Q13):Bool:=bif e.B5==1 then e.D1==2 else false
def readsC(c:Q04)(m:List Int):Bool:=
 bif iand .u32 c.B6.a0 1==0 then false else bif(Q1d m c.Pc 4).2 then bif(Q22 (Q1d m c.Pc 4).1).2 then bif(Q22 (Q1d m c.Pc 4).1).1.Op==60 then(Q22 (Q1d m c.Pc 4).1).1.Imm==2 else false else false else false
theorem Zde(m:Q00):Qek m=readsC (Q0l m) m.Mem:=rfl
theorem sys_io(c:Q04)(i:Q0i):ioP (Qit c i).2=(bif i.Op==60 then IntKind.wrap .i64 i.Imm==2 else false):=by
 show Tree.V (Q8o c i) (λr=>ioP r.2=_)
 have no: ∀{k:Int},i.Op=k→k≠60→ ∀e:Q13,e.B5≠1→ioP e=(bif i.Op==60 then IntKind.wrap .i64 i.Imm==2 else false):=λh g e he=>by
   unfold ioP
   rw[h,show(_==(60:Int))=false from beq_false_of_ne g,show(e.B5==1)=false from beq_false_of_ne he];rfl
 have eq: ∀{k:Int},(i.Op==k)=true→i.Op=k:=λh=>eq_of_beq h
 unfold Q8o
 refine v_br (λh=>v_lv λ_ _=>v_lf (no (eq h) (by decide) _ (show(0:Int)≠1 by decide))) λ_=>v_br (λh=>v_lv λ_ _=>v_lf (no (eq h) (by decide) _ (show(0:Int)≠1 by decide))) λ_=>v_br (λh=>v_cn (v_an (v_lv λ_ _=>v_lf (no (eq h) (by decide) _ (show(0:Int)≠1 by decide))))) λ_=>v_br (λh=>v_cn (v_an (v_lv λ_ _=>v_lf (no (eq h) (by decide) _ (show(0:Int)≠1 by decide))))) λ_=>v_br (λh=>v_lf ?_) λh60=> ?_
 · show(bif(1:Int)==1 then IntKind.wrap .i64 i.Imm==2 else false)=_
   rw[h];rfl
 · have n60:i.Op≠60:=λe=>by rw[e]at h60;cases h60
   refine v_br (λh=>v_cn (v_lf (no (eq h) (by decide) _ (by show(2:Int)≠1;decide)))) λ_=>v_br (λh=>v_lf (no (eq h) (by decide) _ (show(3:Int)≠1 by decide))) λ_=>v_br (λh=>v_lf (no (eq h) (by decide) _ (show(5:Int)≠1 by decide))) λ_=>v_br (λh=>v_lf (no (eq h) (by decide) _ (show(4:Int)≠1 by decide))) λ_=>v_lf (no rfl n60 _ (show(0:Int)≠1 by decide))
theorem post_io(c:Q04)(m:List Int)(i:Q0i):ioP (Qj6 c m i).2.1=(bif i.Op==60 then IntKind.wrap .i64 i.Imm==2 else false):=by
 unfold Qj6
 cases h:decide (i.Op≥56)
 · have h:=of_decide_eq_false h
   rw[show(i.Op==60)=false from beq_false_of_ne (by omega)]
   cases decide (i.Op≥40)<;>cases decide (i.Op≥32)<;>cases i.Op==24<;>cases decide (i.Op≤13)<;>rfl
 · exact sys_io c i
theorem Zhs{P:Nat}{m:List Int}(h:Q11 P m){c:Q04}(hc:Q2z c)(hst:c.B6.a0≤31):ioP (Q7u c m).2.1=readsC c m:=by
  rw[do_eq]
  unfold readsC
  cases hk:iand .u32 c.B6.a0 1==0
  · have hp:Qkl c=false:=by
      rw[Z5o hc.a0.1 hst,show Qaw c=true from by show(iand .u32 c.B6.a0 1 !=0)=true;rw[bne,hk];rfl]
      rfl
    have wi:=Qh0 h hc.pc (size:=4) (.inr rfl)
    have kn:Qem 1=true:=rfl
    have p0:=hc.pc.1
    have tm:Int.tmod c.Pc (IntKind.wrap .u32 4)=c.Pc%4:=by
      rw[show IntKind.wrap .u32 4=4 from rfl,Int.tmod_eq_emod_of_nonneg p0]
    have rc:Q14 c m c.Pc 4 1=bif c.Pc%4 !=0 then(0,3,m) else bif !Q2b m c.Pc 4 then(0,Q28 1,m) else(c.Pc,0,m):=by
      simp only[Q14,Q8c,Tree.m,letv,kn,hp,tm]
      rfl
    rw[rc]
    cases h4:(c.Pc%4 !=0)
    · cases hw:Q2b m c.Pc 4
      · have l2:(Q1d m c.Pc 4).2=false:=by
          simp only[Q1d,Q4f,Tree.m,letv,hw];rfl
        rw[l2]
        show ioP (doR c (0,Q28 1,m) _ _).2.1=false
        unfold doR
        rw[show((0,Q28 1,m):Int×Int×List Int).2.1=Q28 1 from rfl,show(Q28 1 !=0)=true by decide]
        rfl
      · have l2:(Q1d m c.Pc 4).2=true:=by
          simp only[Q1d,Q4f,Tree.m,letv,hw];rfl
        rw[l2]
        show ioP (doR c (c.Pc,0,m) (Q1d m c.Pc 4).1 (Q22 (Q1d m c.Pc 4).1)).2.1=_
        have im:=Zkh (Q1d m c.Pc 4).1
        generalize Q1d m c.Pc 4=x at*
        generalize Q22 x.1=d at*
        unfold doR
        cases d.2
        · rfl
        · rw[hk]
          have:=post_io c m d.1
          rw[im]at this
          cases Q3t d.1.Op<;>exact this
    · have hw:Q2b m c.Pc 4=false:=by
        rw[wi]
        refine decide_eq_false λe=> ?_
        rw[e.1]at h4;cases h4
      have l2:(Q1d m c.Pc 4).2=false:=by
        simp only[Q1d,Q4f,Tree.m,letv,hw];rfl
      rw[l2];rfl
  · have us : ∀x w d,ioP (doR c x w d).2.1=false:=λx w d=>by
      unfold doR
      cases x.2.1 !=0
      · cases d.2
        · rfl
        · cases hp:Q3t d.1.Op
          · have:=post_io c x.2.2 d.1
            rw[show(d.1.Op==60)=false from beq_false_of_ne λe=>by rw[e]at hp;cases hp]at this
            exact this
          · rw[hk];rfl
      · rfl
    exact us _ _ _
theorem Qul{m:Q00}(h:okV m):Q1u m=Q1g m:=by
 have rd:Q1g m=bif Q0u m then false else Qek m:=rfl
 have pd:Q1u m=bif !Q2m m then false else ioP (Q5p (Q0r m).B2 (Q0r m).Mem).2.2:=rfl
 rw[rd,pd,Qs1 h]
 cases hs:Q0u m
 · have hr:Q2m m=true:=by rw[Qs1 h,hs];rfl
   obtain⟨hm,hh,hct⟩:=Qy6 hr
   obtain⟨g1,g2,g3,g4,g5⟩:=(Qju m).1 hm
   rcases(Qn1 m.Mem h.mem).2 with c|⟨P,hP,hmem⟩
   · exact absurd c g1
   have okm:okS P m:=⟨h.cpu,hmem,h.disk,h.nic,h.bal.1,h.bal.2⟩
   obtain⟨b1,b2,b3,_⟩:=(Tree.pp (Qsa okm g2)).2
   change Q6k (Q0r m).B2 at b1
   change okS P (Q0r m) at b2
   have be:=Qve h g2.st
   have b1':Q6k (Q0l m):=by have:=b1;rw[be]at this;exact this
   have b2':Q2z (Q0l m):=by have:=b2.cpu;rw[be]at this;exact this
   have ex:=Z9t hmem b2' b1'.st
   rw[be,Zde,←Zhs hmem b2' b1'.st]
   show ioP (Q5p (Q0l m) m.Mem).2.2=_
   rw[ex];rfl
 · rfl
theorem fin_no(d:Q0c)(m:List Int)(e:Q08):(Q8r d m e).2.1=false→Q8r d m e=(d,false,m):=by
 show Tree.V (Q73 d m e) (λr=>r.2.1=false→r=(d,false,m))
 have no: ∀{p:Prop},true=false→p:=λh=>by cases h
 unfold Q73
 repeat'(first
   |exact v_lf λ_=>rfl
   |exact v_lf no
   |exact v_an (v_lv λ_ _=>v_lf no)
   |refine v_lv λ_ _=> ?_
   |refine v_an ?_
   |refine v_br (λ_=> ?_) (λ_=> ?_))
theorem acc_no(n:Q0o)(m:List Int)(s:List UInt8):(Q8i n m s).2.1=false→Q8i n m s=(n,false,m):=by
 show Tree.V (Q70 n m s) (λr=>r.2.1=false→r=(n,false,m))
 have no: ∀{p:Prop},true=false→p:=λh=>by cases h
 unfold Q70
 repeat'(first
   |exact v_lf λ_=>rfl
   |exact v_an (v_lv λ_ _=>v_lf no)
   |refine v_lv λ_ _=> ?_
   |refine v_br (λ_=> ?_) (λ_=> ?_))
theorem fire_no(t:Q0g):(Q7a t).2=false→(Q7a t).1=t:=by
 show Tree.V (Qac t) (λr=>r.2=false→r.1=t)
 have no: ∀{p:Prop},true=false→p:=λh=>by cases h
 unfold Qac
 repeat'(first
   |exact v_lf λ_=>rfl
   |exact v_lf no
   |refine v_br (λ_=> ?_) (λ_=> ?_))
theorem type_no(c:Q0b)(b:Int):(Qkg c b).2=false→(Qkg c b).1=c:=by
 show Tree.V (Qca c b) (λr=>r.2=false→r.1=c)
 have no: ∀{p:Prop},true=false→p:=λh=>by cases h
 unfold Qca
 exact v_br (λ_=>v_lf λ_=>rfl) (λ_=>v_cn (v_lf no))
theorem app_no(m:Q00)(e:Q08):(Q0m m e).1=false→(Q0m m e).2=m:=by
 show Tree.V (Q4p m e) (λr=>r.1=false→r.2=m)
 have no: ∀{p:Prop},true=false→p:=λh=>by cases h
 unfold Q4p
 repeat'(first
   |exact v_lf λ_=>rfl
   |exact v_lf no
   |exact v_lv λx hx=>v_lf λh=>by rw[hx]at h⊢;rw[fire_no _ h]
   |exact v_an (v_lv λx hx=>v_lf λh=>by rw[hx]at h⊢;rw[fin_no _ _ _ h])
   |exact v_an (v_lv λx hx=>v_lf λh=>by rw[hx]at h⊢;rw[acc_no _ _ _ h])
   |exact v_an (v_lv λx hx=>v_lf λh=>by rw[hx]at h⊢;rw[type_no _ _ h])
   |refine v_br (λ_=> ?_) (λ_=> ?_))
theorem midle_w{m:Q00}(h:U m.A2.C3):Q2g m:=by
 show(Q37 m).p
 unfold Tree.p Q37
 refine w_br (λ_=>w_an ?_ (w_lv λ_ _=>trivial)) (λ_=>trivial)
 show(Q23 m).p
 unfold Tree.p Q23
 exact Q0e (Ziv h) λ_ _=>trivial
theorem Zhe{P:Nat}{m:Q00}(h:okS P m):(Q21 m).w (λ_=>True):=by
 unfold Q21
 exact Q0e (Zg0 h.given) λ_ _=>w_br (λ_=>trivial) (λ_=>Q0e (beginP_w h) λx1 h1=>Q0e (execP_w h1.cpu h1.mem) λx2 _=>w_br (λ_=>trivial) (λ_=>trivial))
theorem Zkd{e:Q08}(h:U e.N):Qew e=Q32 e:=by
 obtain⟨h0,h1⟩:=h
 have d: ∀b:Bool,(bif e.N==1 then(bif decide (e.C6=[]) then true else b) else(bif e.N==0 then decide (e.C6=[]) else false))=(bif decide (e.N≤1) then(bif decide (e.C6=[]) then true else(bif e.N==1 then b else false)) else false):=λb=>by
   rcases(by omega:e.N=0∨e.N=1∨2≤e.N) with k|k|k
   · rw[k];cases decide (e.C6=[])<;>rfl
   · rw[k];cases decide (e.C6=[])<;>rfl
   · rw[show(e.N==1)=false from beq_false_of_ne (by omega),show(e.N==0)=false from beq_false_of_ne (by omega),decide_eq_false (show¬e.N≤1 by omega)];rfl
 simp only[Qew,Qgd,Q32,Qt5,Tree.m,d]
theorem Z19(r:Q01):Qb5 r=r:=rfl
theorem Qvn{r:Q01}(hm:r.A0.Mem.length≤1024)(hl:r.C2.length≤1000000)(hq:r.A3.length≤1000000):Q49 r:=by
 show(Q6e r).p
 unfold Tree.p Q6e
 exact w_an (by show r.A0.Mem.length≤35184372088832;omega) (w_lv λ_ _=>w_an (by show r.C2.length≤3518437208883;omega) (w_lv λ_ _=>w_an (by show r.A3.length≤3518437208883;omega) (w_lv λ_ _=>trivial)))
section
variable {P:Nat} {m:Q00} (h:good P m)
include h
theorem good.len:m.Mem.length≤1024:=by have:=h.ok.mem.len;have:=h.ok.mem.p2;omega
theorem good.app(e:Q08):Q7c m e=((Q0m m e).2,(Q0m m e).1):=by
 rw[Qux h.v]
 simp only[Qau,Q89,Tree.m,letv,Zb9,h.rmay];rfl
theorem good.step(hs:Q0u m=false)(clock:Int):Q1t m clock=((Q0f m clock).2,(Q0f m clock).1):=by
 rw[Zao h.v,Z8d,hs];rfl
theorem good.idle:Q35 m=Qdj m:=Zdc h.v
end
theorem rlog_w(e:Q08){r:Q01}(hl:r.C2.length≤1000000):(Q3x e r).w (λx=>x={A0:=r.A0,A4:=r.A4,C2:=r.C2++[{At:=r.A0.A1,D0:=e}],A3:=r.A3}):=by
 unfold Q3x
 exact w_cn (decide_eq_true (by omega)) rfl
theorem rlogR_w(e:Q08){r:Q01}(hl:r.C2.length≤1000000):(Q3f e r).w (λx=>x={A0:=r.A0,A4:=r.A4,C2:=r.C2++[{At:=r.A0.A1,D0:=e}],A3:=r.A3}):=by
 unfold Q3f
 exact w_cn (decide_eq_true (by omega)) rfl
theorem Zht{P:Nat}{r:Q01}(h:good P r.A0){e:Q08}(he:U e.N)(hl:r.C2.length≤1000000):(Q3y e r).w (λx=>x=Q1m r e):=by
 unfold Q3y
 refine w_an (Z4u h.v h.len he) (w_lv λx0 e0=> ?_)
 rw[h.app]at e0
 refine w_br (λhb=>Q0e (rlogR_w e (r:=⟨x0.1,r.A4,r.C2,r.A3⟩) hl) λx1 e1=> ?_) (λhb=> ?_)
 · have hb:(Q0m r.A0 e).1=true:=by rw[e0]at hb;exact hb
   show x1=_
   unfold Q1m
   rw[e1,hb,e0];rfl
 · have hb:(Q0m r.A0 e).1=false:=by rw[e0]at hb;exact hb
   show r=_
   unfold Q1m
   rw[hb,app_no _ _ hb];rfl
theorem Qkx(r:Q01)(e:Q08):(Q1m r e).C2.length≤r.C2.length+1:=by
 unfold Q1m
 cases(Q0m r.A0 e).1
 · exact Nat.le_succ _
 · show(r.C2++[_]).length≤_
   rw[List.length_append,List.length_singleton];omega
theorem Zb3(r:Q01):(Q20 r).C2.length≤r.C2.length+1:=by
 unfold Q20
 cases Q7r r.A0.B0 r.A4
 · exact Nat.le_succ _
 · exact Qkx _ _
theorem readF_log(r:Q01):(Z73 r).C2.length≤r.C2.length+1:=by
 unfold Z73
 cases Q1g r.A0
 · exact Nat.le_succ _
 · show(r.C2++[_]).length≤_
   rw[List.length_append,List.length_singleton];omega
theorem Z50{P:Nat}{m:Q00}(h:good P m):Q0u m=bif m.A9 then true else bif Q35 m then true else m.A1==1152921504606846976:=by
 have hc:=((Qju m).1 h.may).2.2.1
 have e:decide (m.A1≥1152921504606846976)=(m.A1==1152921504606846976):=by
   by_cases g:m.A1=1152921504606846976
   · rw[g];rfl
   · rw[show(m.A1==1152921504606846976)=false from beq_false_of_ne g,decide_eq_false (by omega)]
 rw[h.idle,←e]
 simp only[Q0u,Qfv,Tree.m,letv,h.rmay];rfl
theorem Qrr{r:Q01}(hr:Q1g r.A0=true):Qgl r={A0:=(Q0f r.A0 r.A4).2,A4:=IntKind.wrap .u32 (r.A4+1),C2:=r.C2++[{At:=r.A0.A1,D0:={B5:=1,N:=r.A4,C6:=[]}}],A3:=r.A3}:=by
 unfold Qgl Z73;rw[hr];rfl
theorem Z9a{r:Q01}(hr:Q1g r.A0=false):Qgl r={A0:=(Q0f r.A0 r.A4).2,A4:=IntKind.wrap .u32 (r.A4+1),C2:=r.C2,A3:=r.A3}:=by
 unfold Qgl Z73;rw[hr];rfl
theorem Z1i(r:Q01):(Qgl r).C2.length≤r.C2.length+1:=readF_log r
theorem Zlq{n:Nat}{r:Q01}{o:List Q03}(hs:Q0u (Q20 r).A0=true):recF (n+1) r o=(Q20 r,o):=by
 conv=>lhs;unfold recF
 rw[hs];rfl
theorem recF_go{n:Nat}{r:Q01}{o:List Q03}(hs:Q0u (Q20 r).A0=false):recF (n+1) r o=recF n (Qgl (Q20 r)) (o++(Q0f (Q20 r).A0 (Q20 r).A4).1):=by
 conv=>lhs;unfold recF
 rw[hs];rfl
theorem advF_may{r:Q01}(h:Q7o r.A0=true)(steps clock:Int):advF r steps clock=recF (Q0q steps).toNat (noQ (r.A3.foldl Q1m {A0:=r.A0,A4:=if clock>r.A4 then clock else r.A4,C2:=r.C2,A3:=r.A3})) []:=by
 unfold advF;rw[h];rfl
theorem radv_w{P:Nat}{k:Int}{r:Q01}(h:Q64 P k r)(steps:Int){clock:Int}(hc:U clock)(hl:r.C2.length≤900000)(hq:r.A3.length≤1000)(hu: ∀q∈r.A3,U q.N):
    (Q45 r steps clock).w (λx=>x=advF r steps clock):=by
  obtain⟨lim0,lim1⟩:=Qnc steps
  have lim:(if 4000<(if 0>steps then 0 else steps) then 4000 else(if 0>steps then 0 else steps))=Q0q steps:=rfl
  have hA:=advF_may h.m.rmay steps clock
  unfold Q45
  refine w_an (Qvn h.m.len (by omega) (by omega)) (w_lv λx0 e0=> ?_)
  rw[Z19]at e0
  subst e0
  refine w_an (Tree.pp (Za6 h.m.ok.target.2)).1 (w_lv λx1 e1=>w_br (λhb=>by rw[e1,h.m.may]at hb;cases hb) λhb=> ?_)
  have hcl:U (if clock>x0.A4 then clock else x0.A4):=by split<;>first|exact hc|exact h.clock
  generalize hr0:({A0:=x0.A0,A4:=if clock>x0.A4 then clock else x0.A4,C2:=x0.C2,A3:=x0.A3}:Q01)=r0 at*
  have hQ:r0.A3=x0.A3:=by rw[←hr0]
  have hL:r0.C2=x0.C2:=by rw[←hr0]
  have g0:Q64 P k r0:=by rw[←hr0];exact⟨h.m,hcl,h.cnt⟩
  refine w_lp (inv:=λz:Int×Q01=>0≤z.1∧z.1≤x0.A3.length∧z.2.A3=x0.A3∧Q64 P k z.2∧(z.2.C2.length:Int)≤x0.C2.length+z.1∧(x0.A3.drop z.1.toNat).foldl Q1m z.2=x0.A3.foldl Q1m r0) (μ:=Qgf x0 steps clock) ⟨Int.le_refl 0,by show(0:Int)≤_;omega,hQ,g0,by rw[hL];omega,rfl⟩ (Nat.lt_succ_self _) λz ⟨z0,z1,z2,z3,z4,z5⟩=> ?_
  refine w_br (λhb=> ?_) (λhb=> ?_)
  · have hb:=of_decide_eq_true hb
    have hlt:z.1.toNat<x0.A3.length:=by omega
    have ed:x0.A3.getD z.1.toNat (RK.dflt RK.apiEvent)=x0.A3[z.1.toNat]:=by rw[List.getD_eq_getElem?_getD,List.getElem?_eq_getElem hlt];rfl
    have hm:x0.A3.getD z.1.toNat (RK.dflt RK.apiEvent)∈x0.A3:=by rw[ed];exact List.getElem_mem hlt
    refine w_cn (by simp [Nat.blt];omega) (Q0e (Zht z3.m (hu _ hm) (by omega)) λx2 e2=>w_nx ?_)
    have ew:IntKind.i64.wrap (z.1+1)=z.1+1:=by rw[IntKind.wrap_i64];omega
    have q2:x2.A3=x0.A3:=by rw[e2,Qjk,z2]
    have l2:=Qkx z.2 (x0.A3.getD z.1.toNat (RK.dflt RK.apiEvent))
    rw[←e2]at l2
    have g2:=(Qi0 z3 (hu _ hm)).1
    rw[←e2]at g2
    show(0≤IntKind.i64.wrap (z.1+1)∧IntKind.i64.wrap (z.1+1)≤x0.A3.length∧x2.A3=x0.A3∧Q64 P k x2∧(x2.C2.length:Int)≤x0.C2.length+IntKind.i64.wrap (z.1+1)∧(x0.A3.drop (IntKind.i64.wrap (z.1+1)).toNat).foldl Q1m x2=_)∧(x2.A3.length-IntKind.i64.wrap (z.1+1)).toNat<(z.2.A3.length-z.1).toNat
    rw[ew,q2,z2]
    refine⟨⟨by omega,by omega,rfl,g2,by omega,?_⟩,by omega⟩
    rw[←z5,List.drop_eq_getElem_cons hlt,List.foldl_cons,show(z.1+1).toNat=z.1.toNat+1 by omega,e2,ed]
  · have hb:=of_decide_eq_false hb
    obtain⟨zi,zr⟩:=z
    have hb: ¬zi<x0.A3.length:=hb
    have ze:zr=x0.A3.foldl Q1m r0:=by
      rw[←z5,List.drop_eq_nil_of_le (by show x0.A3.length≤zi.toNat;omega)];rfl
    rw[←ze]at hA
    have z3:Q64 P k zr:=z3
    have z4:(zr.C2.length:Int)≤x0.C2.length+zi:=z4
    have z1:zi≤x0.A3.length:=z1
    refine w_lp (inv:=λy:Int×Q01×List Q03=>0≤y.1∧y.1≤Q0q steps∧Q64 P (k+y.1) y.2.1∧(y.2.1.C2.length:Int)≤zr.C2.length+2*y.1∧(y.2.2.length:Int)≤y.1∧recF (Q0q steps-y.1).toNat y.2.1 y.2.2=advF x0 steps clock) (μ:=Q7p x0 steps clock (zi,zr)) ⟨Int.le_refl 0,by show(0:Int)≤_;omega,⟨z3.m,z3.clock,by have:=z3.cnt;show zr.A0.A1≤k+0;omega⟩,by show(zr.C2.length:Int)≤_+2*0;omega,Int.le_refl 0,by rw[hA];show recF (Q0q steps-0).toNat _ _=_;rw[Int.sub_zero];rfl⟩ (Nat.lt_succ_self _) λy ⟨y0,y1,y2,y3,y4,y5⟩=> ?_
    obtain⟨yi,yr,yo⟩:=y
    have y0:0≤yi:=y0
    have y1:yi≤Q0q steps:=y1
    have y2:Q64 P (k+yi) yr:=y2
    have y3:(yr.C2.length:Int)≤zr.C2.length+2*yi:=y3
    have y4:(yo.length:Int)≤yi:=y4
    change recF (Q0q steps-yi).toNat yr yo=_ at y5
    refine w_br (λhb=> ?_) (λhb=> ?_)
    · have hb:yi<Q0q steps:=of_decide_eq_true hb
      have ew:IntKind.i64.wrap (yi+1)=yi+1:=by rw[IntKind.wrap_i64];omega
      have en:(Q0q steps-yi).toNat=(Q0q steps-(yi+1)).toNat+1:=by omega
      rw[en]at y5
      obtain⟨gf,gc⟩:=Qh7 y2
      have lf:=Zb3 yr
      have mu: ∀q,Q7p x0 steps clock (zi,zr) (IntKind.wrap .i64 (yi+1),q)<Q7p x0 steps clock (zi,zr) (yi,yr,yo):=λq=>by
        show(4000-IntKind.wrap .i64 (yi+1)).toNat<(4000-yi).toNat
        rw[ew];omega
      have nxt: ∀(x:Q01) (o:List Q03),Q0u (Q20 yr).A0=false→x=Qgl (Q20 yr)→o=yo++(Q0f (Q20 yr).A0 (Q20 yr).A4).1→(0≤IntKind.wrap .i64 (yi+1)∧IntKind.wrap .i64 (yi+1)≤Q0q steps∧Q64 P (k+IntKind.wrap .i64 (yi+1)) x∧(x.C2.length:Int)≤zr.C2.length+2*IntKind.wrap .i64 (yi+1)∧(o.length:Int)≤IntKind.wrap .i64 (yi+1)∧recF (Q0q steps-IntKind.wrap .i64 (yi+1)).toNat x o=advF x0 steps clock):=λx o hs hx ho=>by
        have t:=Qh2 gf hs
        have lt:=Z1i (Q20 yr)
        obtain⟨_,_,a3⟩:=Q8n gf.m hs gf.clock
        rw[ew,hx,ho]
        refine⟨by omega,by omega,⟨t.m,t.clock,by have:=t.cnt;omega⟩,by omega,by rw[List.length_append];omega,?_⟩
        rw[←y5,recF_go hs]
      have stk: ∀(x:Q01),Q0u (Q20 yr).A0=true→x=Q20 yr→(x,yo)=advF x0 steps clock:=λx hs hx=>by
        rw[←y5,Zlq hs,hx]
      have sg:=Z50 gf.m
      have cn: ∀(o:List Q03),Q0u (Q20 yr).A0=false→o=(Q0f (Q20 yr).A0 (Q20 yr).A4).1→decide (40*(yo.length+o.length)≤140737488355328)=true:=λo hs ho=>decide_eq_true (by
        obtain⟨_,_,a3⟩:=Q8n gf.m hs gf.clock
        rw[ho];omega)
      have sp:=(Z9m gf.m.v gf.m.len (clock:=(Q20 yr).A4) gf.clock).1
      have ms:=λhs=>gf.m.step hs (Q20 yr).A4
      have rs:=Qul gf.m.v
      have rp:Q1i (Q20 yr).A0:=(Tree.pp (Zhe gf.m.s)).1
      have ip:Q2g (Q20 yr).A0:=midle_w gf.m.ok.target.2
      have lw:=λe=>rlog_w e (r:=Q20 yr) (by omega)
      have tr:=Qrr (r:=Q20 yr)
      have tn:=Z9a (r:=Q20 yr)
      have fin: ∀f:Q01,f=Q20 yr→Q64 P (k+yi) yr→f=f:=λ_ _ _=>rfl
      refine w_lv λx3 e3=>w_br (λhd=>Q0e (Zht y2.m U_0 (by omega)) λx4 e4=> ?_) (λhd=> ?_)
      · have e5:x4=Q20 yr:=by
          have e3:x3=Q7r yr.A0.B0 yr.A4:=e3
          rw[e4];unfold Q20;rw[←e3,hd];rfl
        rw[←e5]at nxt stk sg cn sp ms rs rp ip lw tr tn
        refine w_br (λhh=>stk _ (by rw[sg,hh];rfl) rfl) λhh=>w_an ip (w_lv λx5 i5=>w_br (λhi=>stk _ (by rw[sg,hh,←i5,hi];rfl) rfl) λhi=>w_br (λhct=>stk _ (by rw[sg,hh,←i5,hi,hct];rfl) rfl) λhct=> ?_)
        have hs:Q0u x4.A0=false:=by rw[sg,hh,←i5,hi,hct];rfl
        refine w_an rp (w_lv λx6 e6=>w_br (λhr=>Q0e (lw _) λx7 e7=> ?_) (λhr=>w_an sp (w_lv λx9 e9=>w_cn (cn _ hs (by rw[e9,ms hs])) (w_nx ⟨nxt _ _ hs (by rw[e9,ms hs,tn (by rw[←rs,←e6,hr])]) (by rw[e9,ms hs]),mu _⟩))))
        subst e7
        refine w_an sp (w_lv λx8 e8=>w_cn (cn _ hs (by rw[e8];exact congrArg Prod.snd (ms hs))) (w_nx ⟨nxt _ _ hs ?_ ?_,mu _⟩))
        · rw[tr (by rw[←rs,←e6,hr]),e8]
          exact congrArg (λq:Q00×List Q03=>({A0:=q.1,A4:=IntKind.wrap .u32 (x4.A4+1),C2:=x4.C2++[{At:=x4.A0.A1,D0:={B5:=1,N:=x4.A4,C6:=[]}}],A3:=x4.A3}:Q01)) (ms hs)
        · rw[e8];exact congrArg (λq:Q00×List Q03=>yo++q.2) (ms hs)
      · have e5:yr=Q20 yr:=by
          have e3:x3=Q7r yr.A0.B0 yr.A4:=e3
          unfold Q20;rw[←e3,hd];rfl
        rw[←e5]at nxt stk sg cn sp ms rs rp ip lw tr tn
        refine w_br (λhh=>stk _ (by rw[sg,hh];rfl) rfl) λhh=>w_an ip (w_lv λx5 i5=>w_br (λhi=>stk _ (by rw[sg,hh,←i5,hi];rfl) rfl) λhi=>w_br (λhct=>stk _ (by rw[sg,hh,←i5,hi,hct];rfl) rfl) λhct=> ?_)
        have hs:Q0u yr.A0=false:=by rw[sg,hh,←i5,hi,hct];rfl
        refine w_an rp (w_lv λx6 e6=>w_br (λhr=>Q0e (lw _) λx7 e7=> ?_) (λhr=>w_an sp (w_lv λx9 e9=>w_cn (cn _ hs (by rw[e9,ms hs])) (w_nx ⟨nxt _ _ hs (by rw[e9,ms hs,tn (by rw[←rs,←e6,hr])]) (by rw[e9,ms hs]),mu _⟩))))
        subst e7
        refine w_an sp (w_lv λx8 e8=>w_cn (cn _ hs (by rw[e8];exact congrArg Prod.snd (ms hs))) (w_nx ⟨nxt _ _ hs ?_ ?_,mu _⟩))
        · rw[tr (by rw[←rs,←e6,hr]),e8]
          exact congrArg (λq:Q00×List Q03=>({A0:=q.1,A4:=IntKind.wrap .u32 (yr.A4+1),C2:=yr.C2++[{At:=yr.A0.A1,D0:={B5:=1,N:=yr.A4,C6:=[]}}],A3:=yr.A3}:Q01)) (ms hs)
        · rw[e8];exact congrArg (λq:Q00×List Q03=>yo++q.2) (ms hs)
    · have hb: ¬yi<Q0q steps:=of_decide_eq_false hb
      show(yr,yo)=_
      rw[←y5,show(Q0q steps-yi).toNat=0 by omega];rfl
def Qpl:Q08:={B5:=2,N:=0,C6:=[]}
theorem Ze7(m:Q00):Q0m m Qpl=bif m.A9 then(false,m) else((Q7a m.B0).2,{B2:=m.B2,Mem:=m.Mem,A6:=m.A6,B0:=(Q7a m.B0).1,B1:=m.B1,C5:=m.C5,A2:=m.A2,A1:=m.A1,A7:=m.A7,A9:=m.A9}):=rfl
theorem fire_done(t:Q0g):(Q7a t).2=true→(Q7a t).1.D2=false:=by
 show Tree.V (Qac t) (λr=>r.2=true→r.1.D2=false)
 unfold Qac
 exact v_br (λ_=>v_lf λh=>by cases h) (λ_=>v_lf λ_=>rfl)
theorem due_armed{t:Q0g}{c:Int}(h:t.D2=false):Q7r t c=false:=by
 simp only[Q7r,Z4i,Tree.m,h];rfl
theorem Z1p{r:Q01}{e:Q08}(h:(Q0m r.A0 e).1=false):Q1m r e=r:=by
 unfold Q1m;rw[h,app_no _ _ h];rfl
theorem Qms(r:Q01):Q20 r=bif Q7r r.A0.B0 r.A4 then Q1m r Qpl else r:=rfl
theorem fireF_not{r:Q01}(h:Q7r r.A0.B0 r.A4=false):Q20 r=r:=by rw[Qms,h];rfl
theorem Zcl(r:Q01)(o:List Q03):recF 0 r o=(r,o):=rfl
theorem Qqy{n:Nat}{r:Q01}{o:List Q03}(hs:Q0u (Q20 r).A0=true):recF (n+1) r o=(Q20 r,o):=by
 conv=>lhs;unfold recF
 rw[hs];rfl
theorem Qqc{n:Nat}{r:Q01}{o:List Q03}(hs:Q0u (Q20 r).A0=false):recF (n+1) r o=recF n (Qgl (Q20 r)) (o++(Q0f (Q20 r).A0 (Q20 r).A4).1):=by
 conv=>lhs;unfold recF
 rw[hs];rfl
theorem recF_out(n:Nat): ∀(r:Q01) (o:List Q03),recF n r o=((recF n r []).1,o++(recF n r []).2):=by
 induction n with
 |zero=>intro r o;rw[Zcl,Zcl,List.append_nil]
 | succ n ih=>
   intro r o
   cases hs:Q0u (Q20 r).A0
   · rw[Qqc hs,Qqc hs,ih,ih (Qgl (Q20 r)) ([]++_),List.nil_append,List.append_assoc]
   · rw[Qqy hs,Qqy hs,List.append_nil]
theorem Qtp{r:Q01}(h:Q7o r.A0=true)(steps clock:Int):advF r steps clock=recF (Q0q steps).toNat (noQ (r.A3.foldl Q1m {A0:=r.A0,A4:=if clock>r.A4 then clock else r.A4,C2:=r.C2,A3:=r.A3})) []:=by
 unfold advF;rw[h];rfl
theorem Qu6{s:Int}(h0:0≤s)(h1:s≤4000):Q0q s=s:=by
 have:Q0q s=(if 4000<(if 0>s then 0 else s) then 4000 else(if 0>s then 0 else s)):=rfl
 rw[this,if_neg (show¬0>s by omega),if_neg (show¬4000<s by omega)]
structure Qj5(P:Nat)(k:Int)(r:Q01):Prop where
 g:Q64 P k r
 q:okQ r.A3
 l:(r.C2.length:Int)≤3*k
theorem recF_log(n:Nat): ∀(r:Q01) (o:List Q03),(recF n r o).1.C2.length≤r.C2.length+2*n:=by
 induction n with
 |zero=>intro r o;exact Nat.le_refl _
 | succ n ih=>
   intro r o
   have f:=Zb3 r
   cases hs:Q0u (Q20 r).A0
   · rw[Qqc hs]
     have:=ih (Qgl (Q20 r)) (o++(Q0f (Q20 r).A0 (Q20 r).A4).1)
     have:=Z1i (Q20 r)
     omega
   · rw[Qqy hs]
     show(Q20 r).C2.length≤_
     omega
theorem foldl_log(l:List Q08): ∀r:Q01,(l.foldl Q1m r).C2.length≤r.C2.length+l.length:=by
 induction l with
 |nil=>intro r;exact Nat.le_refl _
 | cons e l ih=>
   intro r
   have:=ih (Q1m r e)
   have:=Qkx r e
   rw[List.foldl_cons,List.length_cons];omega
theorem advF_log(r:Q01)(steps clock:Int):(advF r steps clock).1.C2.length≤r.C2.length+r.A3.length+8000:=by
 obtain⟨l0,l1⟩:=Qnc steps
 cases hm:Q7o r.A0
 · unfold advF;rw[hm]
   show r.C2.length≤_
   omega
 · rw[Qtp hm]
   have a:=recF_log (Q0q steps).toNat (noQ (r.A3.foldl Q1m {A0:=r.A0,A4:=if clock>r.A4 then clock else r.A4,C2:=r.C2,A3:=r.A3})) []
   have b:=foldl_log r.A3 {A0:=r.A0,A4:=if clock>r.A4 then clock else r.A4,C2:=r.C2,A3:=r.A3}
   have b:(noQ (r.A3.foldl Q1m {A0:=r.A0,A4:=if clock>r.A4 then clock else r.A4,C2:=r.C2,A3:=r.A3})).C2.length≤r.C2.length+r.A3.length:=b
   omega
theorem recF_outs{P:Nat}(n:Nat): ∀{k:Int} {r:Q01} (o:List Q03),Q64 P k r→(recF n r o).2.length≤o.length+n:=by
 induction n with
 |zero=>intro k r o _;exact Nat.le_refl _
 | succ n ih=>
   intro k r o h
   obtain⟨f,_⟩:=Qh7 h
   cases hs:Q0u (Q20 r).A0
   · rw[Qqc hs]
     have:=ih (o++(Q0f (Q20 r).A0 (Q20 r).A4).1) (Qh2 f hs)
     obtain⟨_,_,a3⟩:=Q8n f.m hs f.clock
     rw[List.length_append]at this
     omega
   · rw[Qqy hs]
     show o.length≤_
     omega
theorem Zgb{P:Nat}{k:Int}{r:Q01}(h:Q64 P k r)(hu: ∀q∈r.A3,U q.N){clock:Int}(hc:U clock):Q64 P k (noQ (r.A3.foldl Q1m {A0:=r.A0,A4:=if clock>r.A4 then clock else r.A4,C2:=r.C2,A3:=r.A3})):=by
 have hcl:U (if clock>r.A4 then clock else r.A4):=by split<;>first|exact hc|exact h.clock
 obtain⟨a,b⟩:=Z41 r.A3 (r:={A0:=r.A0,A4:=if clock>r.A4 then clock else r.A4,C2:=r.C2,A3:=r.A3}) ⟨h.m,hcl,h.cnt⟩ hu
 exact⟨a.m,a.clock,a.cnt⟩
theorem Qoj{P:Nat}{k:Int}{r:Q01}(h:Q64 P k r)(hq:okQ r.A3){clock:Int}(hc:U clock):Q64 P k (noQ (r.A3.foldl Q1m {A0:=r.A0,A4:=if clock>r.A4 then clock else r.A4,C2:=r.C2,A3:=r.A3})):=Zgb h hq.2 hc
theorem advF_outs{P:Nat}{k:Int}{r:Q01}(h:Q64 P k r)(hq:okQ r.A3)(steps:Int){clock:Int}(hc:U clock):(advF r steps clock).2.length≤4000:=by
 obtain⟨l0,l1⟩:=Qnc steps
 rw[Qtp h.m.rmay]
 have:=recF_outs (Q0q steps).toNat [] (Qoj h hq hc)
 have e:([]:List Q03).length=0:=rfl
 omega
theorem advP{P:Nat}{k:Int}{r:Q01}(h:Qj5 P k r)(steps:Int){clock:Int}(hc:U clock):Qj5 P (k+4000) (advF r steps clock).1:=by
 obtain⟨a,b⟩:=advF_keep h.g h.q steps hc
 have c:=advF_log r steps clock
 have d:=h.q.1
 have e:=h.l
 exact⟨a,b,by omega⟩
theorem arriveP{P:Nat}{k:Int}{r:Q01}(h:Qj5 P k r){e:Q08}(he:U e.N):Qj5 P k (Q2i r e).1:=by
 obtain⟨a,b⟩:=Zfy h.g h.q he
 refine⟨a,b,?_⟩
 have:=h.l
 rw[Qbt]
 cases Q32 e<;>cases e.B5==1<;>cases decide ((r.A3.length:Int)≥16)<;>exact this
theorem Qj5.more{P:Nat}{k j:Int}{r:Q01}(h:Qj5 P k r)(hj:k≤j):Qj5 P j r:=
 ⟨⟨h.g.m,h.g.clock,by have:=h.g.cnt;omega⟩,h.q,by have:=h.l;omega⟩
theorem more_P{P:Nat}{k:Int}{A:Q01×Bool}(h:Qj5 P k A.1):Qj5 P (k+4000) (A.1,([]:List Q03)).1:=h.more (by omega)
theorem mstepP{P:Nat}{k:Int}{r:Q01}(h:Qj5 P k r)(n:Int):Qj5 P (k+4000) (Q48 r n).1:=by
 cases hm:Int.tmod (Q3e n 3) 3==0
 · rw[Qoy hm,Qoe _ _ _ (by have:=h.q.1;omega)]
   exact advP h _ (Q0s _)
 · rw[Qo6 hm]
   exact more_P (arriveP h (Zgw n))
theorem fst_mk{α β:Type}(a:α)(b:β):(a,b).1=a:=rfl
theorem Qni(s:Q01×List Q03)(n:Int):(Qlw s n).1=(Q48 s.1 n).1:=(congrArg Prod.fst (Qrg s n)).trans (fst_mk _ _)
theorem newP{P:Nat}{m:Q00}(h:good P m)(hc:m.A1≤87):Qj5 P 87 {A0:=m,A4:=0,C2:=[],A3:=[]}:=
 ⟨⟨h,U_0,hc⟩,⟨Nat.zero_le _,λq hq=>by cases hq⟩,by show((0:Nat):Int)≤_;omega⟩
theorem few_lens{l acts:List Int}{x0:Bool}(hx0:x0=Qrs l acts)(hb:(!x0)=false):l.length≤40∧acts.length≤30:=few_two hx0 hb
theorem rnew_w{m:Q00}(h:m.Mem.length≤1024):(Qaa m).w (λx=>x={A0:=m,A4:=0,C2:=[],A3:=[]}):=by
 unfold Qaa
 refine w_an (Qvn (r:=⟨m,0,[],[]⟩) h (Nat.zero_le _) (Nat.zero_le _)) (w_lv λx hx=> ?_)
 show x=_
 rw[hx,Z19]
theorem rarrive_w{r:Q01}(hm:r.A0.Mem.length≤1024)(hl:r.C2.length≤1000000)(hq:r.A3.length≤1000000){e:Q08}(he:U e.N):(Q65 r e).w (λx=>x=Q2i r e):=by
 have hv:=Zkd he
 unfold Q65
 refine w_an (Qvn hm hl hq) (w_lv λx0 h0=>w_lv λx1 h1=> ?_)
 rw[Z19]at h0
 subst h0
 rw[h1,hv]
 refine w_br (λhb=> ?_) λhb=>w_br (λhk=> ?_) λhk=>w_br (λhl=> ?_) λhl=>w_cn (decide_eq_true (by omega)) ?_
 · show(x0,false)=_;rw[Qbt,hb];rfl
 · show(x0,false)=_;rw[Qbt,hb,hk];rfl
 · show(x0,false)=_;rw[Qbt,hb,hk,hl];rfl
 · show(_,true)=_;rw[Qbt,hb,hk,hl];rfl
theorem advP_w{P:Nat}{k:Int}{r:Q01}(h:Qj5 P k r)(hk:k≤250000)(steps:Int){clock:Int}(hc:U clock):(Q45 r steps clock).w (λx=>x=advF r steps clock∧Qj5 P (k+4000) x.1∧x.2.length≤4000):=
 Tree.mono _ (λx hx=>by rw[hx];exact⟨rfl,advP h steps hc,advF_outs h.g h.q steps hc⟩) (radv_w h.g steps hc (by have:=h.l;omega) (by have:=h.q.1;omega) h.q.2)
theorem aw21{W:Bool→Prop}(h:W true):(Tree.an Q8 (.lv Qe3 λx=> .lf x)).w W:=w_an awake_pre (w_lv λx e=>by show W x;rw[e,Zk5];exact h)
theorem and255i(a:Int):0≤iand .i64 a 255∧iand .i64 a 255≤255:=by
 unfold iand
 rw[IntKind.wrap_i64]
 have:(BitVec.ofInt IntKind.i64.bits a&&&BitVec.ofInt IntKind.i64.bits 255).toNat≤255:=by
   show(BitVec.ofInt 64 a&&&BitVec.ofInt 64 255).toNat≤255
   rw[BitVec.toNat_and]
   exact Nat.le_trans Nat.and_le_right (by decide)
 omega
theorem Zfl(a:Int):0≤IntKind.wrap .u32 (iand .i64 a 255)∧IntKind.wrap .u32 (iand .i64 a 255)≤255:=by
 have:=and255i a
 rw[IntKind.wrap_u32];omega
theorem Zi2(n k:Int)(h0:0≤k)(h1:k≤1000):(Qse n k).length=k.toNat:=by
 show Tree.V (Qec n k) (λs=>s.length=k.toNat)
 unfold Qec
 refine v_lp (inv:=λv:Int×List Int=>0≤v.1∧v.1≤k∧v.2.length=v.1.toNat) (μ:=Qcx n k) ⟨Int.le_refl 0,h0,rfl⟩ (Nat.lt_succ_self _) λv ⟨a,b,c⟩=> ?_
 refine v_br (λhb=> ?_) (λhb=> ?_)
 · have hb:=of_decide_eq_true hb
   have e:IntKind.i64.wrap (v.1+1)=v.1+1:=by rw[IntKind.wrap_i64];omega
   refine v_lv λx _=>v_cn (v_nx ?_)
   show(0≤IntKind.i64.wrap (v.1+1)∧IntKind.i64.wrap (v.1+1)≤k∧(v.2++[_]).length=(IntKind.i64.wrap (v.1+1)).toNat)∧(k-IntKind.i64.wrap (v.1+1)).toNat<(k-v.1).toNat
   rw[e,List.length_append,List.length_singleton]
   exact⟨⟨by omega,by omega,by omega⟩,by omega⟩
 · have hb:=of_decide_eq_false hb
   refine v_lf ?_
   show(bytesOf v.2).length=_
   unfold bytesOf
   rw[List.length_map,c];omega
theorem mix_pos(n k:Int):0≤Q3e n k:=by
 show Tree.V (Qo8 n k) (λx=>0≤x)
 unfold Qo8
 refine v_lv λx hx=>v_lf ?_
 have r:0≤x.1∧x.1<18446744073709551616:=by
   rw[hx]
   show 0≤IntKind.wrap .u64 _∧IntKind.wrap .u64 _<_
   rw[IntKind.wrap_u64];omega
 show 0≤IntKind.wrap .i64 (x.1.fdiv 2)
 rw[Int.fdiv_eq_ediv_of_nonneg _ (by decide),IntKind.wrap_i64];omega
def evOK(e:Q08):Prop:=Q32 e=true∧e.B5≠1
theorem Z4w:evOK Qpl:=⟨rfl,by decide⟩
theorem Za7{n:Int}(h:n≤255):Q32 {B5:=3,N:=n,C6:=[]}=true:=by
 show(bif decide (n≤255) then decide (([]:List UInt8)=[]) else false)=true
 rw[decide_eq_true h];rfl
theorem Zju{s:List UInt8}(h:s.length=128):Q32 {B5:=4,N:=1,C6:=s}=true:=by
 show(bif decide (s=[]) then true else(s.length:Int)==128)=true
 rw[h];cases decide (s=[])<;>rfl
theorem valid_net{s:List UInt8}(h1:1≤s.length)(h2:s.length≤128):Q32 {B5:=5,N:=0,C6:=s}=true:=by
 show(bif decide ((s.length:Int)≥1) then decide ((s.length:Int)≤128) else false)=true
 rw[decide_eq_true (show(s.length:Int)≥1 by omega),decide_eq_true (show(s.length:Int)≤128 by omega)];rfl
theorem event_ok(n:Int):evOK (Q3g n):=by
 show Tree.V (Qa3 n) evOK
 unfold Qa3
 refine v_lv λx hx=> ?_
 have x0:0≤x:=by rw[hx];exact mix_pos n 2
 have i2: ∀k:Int,k≠1→ ¬k=1:=λ_ h=>h
 refine v_br (λ_=>v_lf ⟨rfl,by decide⟩) λ_=>v_br (λ_=>v_lf ⟨Za7 (Zfl _).2,by show(3:Int)≠1;decide⟩) λ_=>v_br (λ_=>v_lf ⟨Za7 (Zfl _).2,by show(3:Int)≠1;decide⟩) λ_=>v_br (λ_=>v_lf ⟨rfl,by decide⟩) λ_=>v_br (λ_=>v_an (v_lv λy hy=>v_lf ⟨Zju ?_,by show(4:Int)≠1;decide⟩)) λ_=>v_br (λ_=>v_an (v_lv λy hy=>v_lf ⟨?_,by show(5:Int)≠1;decide⟩)) λ_=>v_br (λ_=>v_lf ⟨rfl,by decide⟩) λ_=>v_lf ⟨rfl,by show(6:Int)≠1;decide⟩
 · rw[hy,Zi2 _ _ (by decide) (by decide)];rfl
 · have s0:0≤ishr .i64 x 8:=by
     unfold ishr
     exact Int.fdiv_nonneg x0 (Int.le_of_lt (Int.pow_pos (by decide)))
   have t1:=Int.tmod_lt_of_pos (ishr .i64 x 8) (b:=40) (by decide)
   have t0:=Int.tmod_nonneg 40 s0
   have e:IntKind.i64.wrap (1+Int.tmod (ishr .i64 x 8) 40)=1+Int.tmod (ishr .i64 x 8) 40:=by rw[IntKind.wrap_i64];omega
   rw[e]at hy
   have:=Zi2 x (1+Int.tmod (ishr .i64 x 8) 40) (by omega) (by omega)
   rw[←hy]at this
   exact valid_net (by omega) (by omega)
structure Qkr(c0:Int)(r:Q01):Prop where
 pw:r.C2.Pairwise λa b=>a.At≤b.At∧(a.D0.B5=1→a.At<b.At∧(b.D0.B5=1→a.D0.N≤b.D0.N))
 all: ∀e∈r.C2,c0≤e.At∧e.At≤r.A0.A1∧Q32 e.D0=true∧(e.D0.B5=1→e.At<r.A0.A1∧e.D0.N<r.A4∧0≤e.D0.N)
 q: ∀e∈r.A3,evOK e
 c:c0≤r.A0.A1
theorem Qkr.with{c0:Int}{r x:Q01}(h:Qkr c0 r)(hl:x.C2=r.C2)(hm:x.A0.A1=r.A0.A1)(hc:r.A4≤x.A4)(hq: ∀e∈x.A3,evOK e):Qkr c0 x:=
 ⟨by rw[hl];exact h.pw,by
   rw[hl,hm]
   exact λe he=>⟨(h.all e he).1,(h.all e he).2.1,(h.all e he).2.2.1,λk=>⟨((h.all e he).2.2.2 k).1,by have:=((h.all e he).2.2.2 k).2.1;omega,((h.all e he).2.2.2 k).2.2⟩⟩,hq,by rw[hm];exact h.c⟩
theorem Zaa{P:Nat}{k c0:Int}{r:Q01}(h:Qkr c0 r)(g:Q64 P k r){e:Q08}(he:evOK e)(hu:U e.N):Qkr c0 (Q1m r e):=by
  obtain⟨a,b⟩:=Qlx g.m hu
  unfold Q1m
  cases(Q0m r.A0 e).1
  · exact h.with rfl b (Int.le_refl _) h.q
  · show Qkr c0 {A0:=(Q0m r.A0 e).2,A4:=r.A4,C2:=r.C2++[{At:=(Q0m r.A0 e).2.A1,D0:=e}],A3:=r.A3}
    rw[b]
    refine⟨List.pairwise_append.2 ⟨h.pw,List.pairwise_singleton _ _,λx hx y hy=> ?_⟩,λx hx=> ?_,h.q,by show c0≤(Q0m r.A0 e).2.A1;rw[b];exact h.c⟩
    · rw[List.mem_singleton.1 hy]
      obtain⟨p1,p2,p3,p4⟩:=h.all x hx
      exact⟨p2,λkx=>⟨(p4 kx).1,λke=>absurd ke he.2⟩⟩
    · show c0≤x.At∧x.At≤(Q0m r.A0 e).2.A1∧_∧(_→x.At<(Q0m r.A0 e).2.A1∧_)
      rw[b]
      rcases List.mem_append.1 hx with hx|hx
      · exact h.all x hx
      · rw[List.mem_singleton.1 hx]
        exact⟨h.c,Int.le_refl _,he.1,λke=>absurd ke he.2⟩
theorem fire_log{P:Nat}{k c0:Int}{r:Q01}(h:Qkr c0 r)(g:Q64 P k r):Qkr c0 (Q20 r):=by
 rw[Qms]
 cases Q7r r.A0.B0 r.A4
 · exact h
 · exact Zaa h g Z4w U_0
theorem tick_log{P:Nat}{k c0:Int}{r:Q01}(h:Qkr c0 r)(g:Q64 P k r)(hs:Q0u r.A0=false)(hc:r.A4<4294967295):Qkr c0 (Qgl r)∧(Qgl r).A4=r.A4+1:=by
  obtain⟨_,b,_⟩:=Q8n g.m hs g.clock
  have c0':=g.clock.1
  have ec:IntKind.wrap .u32 (r.A4+1)=r.A4+1:=by rw[IntKind.wrap_u32];omega
  have old: ∀x∈r.C2,c0≤x.At∧x.At≤r.A0.A1+1∧Q32 x.D0=true∧(x.D0.B5=1→x.At<r.A0.A1+1∧x.D0.N<r.A4+1∧0≤x.D0.N):=λx hx=>by
    obtain⟨p1,p2,p3,p4⟩:=h.all x hx
    exact⟨p1,by omega,p3,λkx=>⟨by have:=(p4 kx).1;omega,by have:=(p4 kx).2.1;omega,(p4 kx).2.2⟩⟩
  have hcc:=h.c
  cases hr:Q1g r.A0
  · rw[Z9a hr,ec]
    refine⟨⟨h.pw,?_,h.q,by show c0≤(Q0f r.A0 r.A4).2.A1;omega⟩,rfl⟩
    show∀x∈r.C2,c0≤x.At∧x.At≤(Q0f r.A0 r.A4).2.A1∧_∧(_→x.At<(Q0f r.A0 r.A4).2.A1∧_)
    rw[b];exact old
  · rw [Qrr hr,ec]
    refine⟨⟨List.pairwise_append.2 ⟨h.pw,List.pairwise_singleton _ _,λx hx y hy=> ?_⟩,?_,h.q,by show c0≤(Q0f r.A0 r.A4).2.A1;omega⟩,rfl⟩
    · rw[List.mem_singleton.1 hy]
      obtain⟨p1,p2,p3,p4⟩:=h.all x hx
      exact⟨p2,λkx=>⟨(p4 kx).1,λ_=>Int.le_of_lt (p4 kx).2.1⟩⟩
    · show∀x∈r.C2++[_],c0≤x.At∧x.At≤(Q0f r.A0 r.A4).2.A1∧_∧(_→x.At<(Q0f r.A0 r.A4).2.A1∧_)
      rw[b]
      intro x hx
      rcases List.mem_append.1 hx with hx|hx
      · exact old x hx
      · rw[List.mem_singleton.1 hx]
        exact⟨h.c,by show r.A0.A1≤_;omega,rfl,λ_=>⟨by show r.A0.A1<_;omega,by show r.A4<r.A4+1;omega,c0'⟩⟩
theorem Zf8(r:Q01):(Q20 r).A4=r.A4:=by
 rw[Qms]
 cases Q7r r.A0.B0 r.A4
 · rfl
 · show(Q1m r Qpl).A4=r.A4
   unfold Q1m;cases(Q0m r.A0 Qpl).1<;>rfl
theorem Zbw(r:Q01)(e:Q08):(Q1m r e).A4=r.A4:=by
 unfold Q1m;cases(Q0m r.A0 e).1<;>rfl
theorem rec_log{P:Nat}{c0:Int}(n:Nat): ∀{k B:Int} {r:Q01} {o:List Q03},Qkr c0 r→Q64 P k r→r.A4≤B→B+n<4294967295→Qkr c0 (recF n r o).1∧(recF n r o).1.A4≤B+n:=by
 induction n with
 |zero=>intro k B r o h g hb _;exact⟨h,by show r.A4≤B+(0:Nat);omega⟩
 | succ n ih=>
   intro k B r o h g hb hn
   have f:=fire_log h g
   obtain⟨gf,_⟩:=Qh7 g
   have fc:=Zf8 r
   cases hs:Q0u (Q20 r).A0
   · rw[Qqc hs]
     obtain⟨t1,t2⟩:=tick_log f gf hs (by omega)
     have:=ih (o:=o++(Q0f (Q20 r).A0 (Q20 r).A4).1) t1 (Qh2 gf hs) (B:=B+1) (by omega) (by omega)
     exact⟨this.1,by have:=this.2;omega⟩
   · rw[Qqy hs]
     exact⟨f,by show(Q20 r).A4≤_;omega⟩
theorem fold_log{P:Nat}{k c0:Int}(l:List Q08): ∀{r:Q01},Qkr c0 r→Q64 P k r→(∀e∈l,evOK e∧U e.N)→Qkr c0 (l.foldl Q1m r)∧(l.foldl Q1m r).A4=r.A4∧Q64 P k (l.foldl Q1m r):=by
 induction l with
 |nil=>intro r h g _;exact⟨h,rfl,g⟩
 | cons e l ih=>
   intro r h g hu
   obtain⟨a,b⟩:=hu e (by simp)
   obtain⟨p,q,s⟩:=ih (Zaa h g a b) (Qi0 g b).1 (λq hq=>hu q (by simp [hq]))
   exact⟨p,q.trans (Zbw r e),s⟩
theorem adv_log{P:Nat}{k c0 B:Int}{r:Q01}(h:Qkr c0 r)(g:Q64 P k r)(hq:okQ r.A3){steps clock:Int}(hb:r.A4≤B)(hc0:0≤clock)(hc:clock≤B)(hs:0≤steps∧steps<12)(hB:B<1000000000):Qkr c0 (advF r steps clock).1∧(advF r steps clock).1.A4≤B+12:=by
 rw[Qtp g.m.rmay,Qu6 hs.1 (by omega)]
 have m0:r.A4≤(if clock>r.A4 then clock else r.A4)∧(if clock>r.A4 then clock else r.A4)≤B:=by split<;>omega
 generalize(if clock>r.A4 then clock else r.A4)=cl at*
 have u:U cl:=by have:=g.clock;unfold U at*;omega
 obtain⟨a,b,c⟩:=fold_log r.A3 (r:={A0:=r.A0,A4:=cl,C2:=r.C2,A3:=r.A3}) (h.with rfl rfl m0.1 h.q) ⟨g.m,u,g.cnt⟩ (λe he=>⟨h.q e he,hq.2 e he⟩)
 have b:(r.A3.foldl Q1m {A0:=r.A0,A4:=cl,C2:=r.C2,A3:=r.A3}).A4=cl:=b
 generalize r.A3.foldl Q1m {A0:=r.A0,A4:=cl,C2:=r.C2,A3:=r.A3}=y at*
 have:=rec_log steps.toNat (o:=[]) (r:=noQ y) (B:=B) (a.with rfl rfl (Int.le_refl _) (λe he=>by cases he)) (k:=k) ⟨c.m,c.clock,c.cnt⟩ (by show y.A4≤B;omega) (by omega)
 exact⟨this.1,by have:=this.2;omega⟩
theorem arr_log{c0:Int}{r:Q01}(h:Qkr c0 r){e:Q08}(he:evOK e):Qkr c0 (Q2i r e).1∧(Q2i r e).1.A4=r.A4:=by
  rw[Qbt]
  cases Q32 e
  · exact⟨h,rfl⟩
  · cases e.B5==1
    · cases decide ((r.A3.length:Int)≥16)
      · refine⟨h.with rfl rfl (Int.le_refl _) λq hq=> ?_,rfl⟩
        have hq:q∈r.A3++[e]:=hq
        rcases List.mem_append.1 hq with hq|hq
        · exact h.q q hq
        · rw[List.mem_singleton.1 hq];exact he
      · exact⟨h,rfl⟩
    · exact⟨h,rfl⟩
structure logP(c0 k B:Int)(r:Q01):Prop where
 p:Qj5 8 k r
 l:Qkr c0 r
 b:r.A4≤B
theorem arr_logP{c0 k B:Int}{A:Q01×Bool}(p:Qj5 8 k A.1)(a:Qkr c0 A.1)(b:A.1.A4≤B):logP c0 k B (A.1,([]:List Q03)).1:=⟨p,a,b⟩
theorem Qoq{c0 k B:Int}{r:Q01}(h:logP c0 k B r)(h255:255≤B)(hB:B<1000000000)(n:Int):logP c0 (k+4000) (B+12) (Q48 r n).1:=by
 have p:=mstepP h.p n
 have hb:=h.b
 cases hm:Int.tmod (Q3e n 3) 3==0
 · have rr:=Qli (n:=ishr .i64 (Q3e n 3) 4) (k:=12) (by decide) (by decide)
   have w:=Zfl (ishr .i64 (Q3e n 3) 12)
   rw[Qoy hm,Qoe _ _ _ (by have:=h.p.q.1;omega)]at p⊢
   obtain⟨a,b⟩:=adv_log h.l h.p.g h.p.q (steps:=Q4g (ishr .i64 (Q3e n 3) 4) 12) (clock:=IntKind.wrap .u32 (iand .i64 (ishr .i64 (Q3e n 3) 12) 255)) hb w.1 (by omega) rr hB
   exact⟨p,a,b⟩
 · have hb':r.A4≤B+12:=by omega
   obtain⟨a,b⟩:=arr_log h.l (event_ok n)
   rw[Qo6 hm]
   exact arr_logP (A:=Q2i r (Q3g n)) ((arriveP h.p (Zgw n)).more (Int.le_add_of_nonneg_right (by decide))) a (Int.le_trans (Int.le_of_eq b) hb')
theorem play_logP{c0:Int}(l:List Int): ∀{k B:Int} {s:Q01×List Q03},logP c0 k B s.1→255≤B→B+12*l.length<1000000000→logP c0 (k+4000*l.length) (B+12*l.length) (l.foldl Qlw s).1:=by
 induction l with
 |nil=>intro k B s h _ _;simpa using h
 | cons n l ih=>
   intro k B s h h1 h2
   have e:((n::l).length:Int)=l.length+1:=by rw[List.length_cons];omega
   rw[e]at h2⊢
   have a:=Qoq h h1 (by omega) n
   rw[←Qni]at a
   have:=ih a (by omega) (by omega)
   rw[List.foldl_cons,show k+4000*((l.length:Int)+1)=k+4000+4000*l.length by omega,show B+12*((l.length:Int)+1)=B+12+12*l.length by omega]
   exact this
theorem new_logP{m:Q00}(h:good 8 m)(hc:m.A1≤87):logP m.A1 87 255 {A0:=m,A4:=0,C2:=[],A3:=[]}:=
 ⟨newP h hc,⟨List.Pairwise.nil,(λe he=>by cases he),(λe he=>by cases he),Int.le_refl _⟩,by show(0:Int)≤255;decide⟩
theorem playF_ev0{r:Q01}{o:List Q03}{n:Int}{A:Q01×Bool}(e2:Q48 r n=(A.1,[])):Qlw (r,o) n=(A.1,o):=by
 rw[Qrg]
 show((Q48 r n).1,o++(Q48 r n).2)=(A.1,o)
 rw[e2]
 exact Prod.ext rfl (List.append_nil o)
theorem playF_ev{r:Q01}{o:List Q03}{n:Int}(h:(Int.tmod (Q3e n 3) 3==0)=true):Qlw (r,o) n=((Q2i r (Q3g n)).1,o):=playF_ev0 (A:=Q2i r (Q3g n)) (Qo6 h)
theorem played_w{m:Q00}(h:good 8 m)(hc:m.A1≤87)(acts:List Int)(h30:acts.length≤30):(Qbu m acts).w (λx=>x=acts.foldl Qlw ({A0:=m,A4:=0,C2:=[],A3:=[]},[])∧Qj5 8 121000 x.1∧(x.2.length:Int)≤4000*acts.length):=by
 generalize hs0:(({A0:=m,A4:=0,C2:=[],A3:=[]},[]):Q01×List Q03)=s0
 have p0:Qj5 8 87 s0.1:=by rw[←hs0];exact newP h hc
 have o0:s0.2=[]:=by rw[←hs0]
 unfold Qbu
 refine Q0e (rnew_w h.len) λx0 e0=> ?_
 have e0:(x0,([]:List Q03))=s0:=by rw[←hs0,e0]
 refine w_lp (inv:=λv:Int×Q01×List Q03=>0≤v.1∧v.1≤acts.length∧Qj5 8 (87+4000*v.1) v.2.1∧(v.2.2.length:Int)≤4000*v.1∧(acts.drop v.1.toNat).foldl Qlw v.2=acts.foldl Qlw s0) (μ:=Q9j m acts) ⟨Int.le_refl 0,by show(0:Int)≤_;omega,by show Qj5 8 (87+4000*0) x0;rw[←e0]at p0;exact p0,Int.le_refl 0,by show acts.foldl Qlw (x0,[])=_;rw[e0]⟩ (Nat.lt_succ_self _) λv ⟨a1,a2,a3,a4,a5⟩=> ?_
 obtain⟨i,r,o⟩:=v
 have a1:0≤i:=a1
 have a2:i≤acts.length:=a2
 have a3:Qj5 8 (87+4000*i) r:=a3
 have a4:(o.length:Int)≤4000*i:=a4
 have a5:(acts.drop i.toNat).foldl Qlw (r,o)=acts.foldl Qlw s0:=a5
 refine w_br (λhb=> ?_) (λhb=> ?_)
 · have hb:i<acts.length:=of_decide_eq_true hb
   have ew:IntKind.i64.wrap (i+1)=i+1:=by rw[IntKind.wrap_i64];omega
   have hlt:i.toNat<acts.length:=by omega
   have ed:acts.getD i.toNat 0=acts[i.toNat]:=by rw[List.getD_eq_getElem?_getD,List.getElem?_eq_getElem hlt];rfl
   rw[List.drop_eq_getElem_cons hlt,List.foldl_cons,←ed]at a5
   have cn:(Nat.beq 1 1&&Nat.blt 0 1&&decide (0≤i∧i<((acts.length:Nat):Int)))=true:=by simp [Nat.blt];omega
   have mu: ∀q,Q9j m acts (IntKind.wrap .i64 (i+1),q)<Q9j m acts (i,r,o):=λq=>by
     show(acts.length-IntKind.wrap .i64 (i+1)).toNat<(acts.length-i).toNat
     rw[ew];omega
   have nxt: ∀(x:Q01) (p:List Q03),(x,p)=Qlw (r,o) (acts.getD i.toNat 0)→p.length≤o.length+4000→(0≤IntKind.wrap .i64 (i+1)∧IntKind.wrap .i64 (i+1)≤acts.length∧Qj5 8 (87+4000*IntKind.wrap .i64 (i+1)) x∧(p.length:Int)≤4000*IntKind.wrap .i64 (i+1)∧(acts.drop (IntKind.wrap .i64 (i+1)).toNat).foldl Qlw (x,p)=acts.foldl Qlw s0):=λx p hx hp=>by
     have g:=mstepP a3 (acts.getD i.toNat 0)
     have hx1:x=(Q48 r (acts.getD i.toNat 0)).1:=(congrArg Prod.fst hx).trans (Qni _ _)
     rw[ew,hx]
     refine⟨by omega,by omega,?_,by omega,?_⟩
     · rw[hx1];exact g.more (by omega)
     · rw[←a5,show(i+1).toNat=i.toNat+1 by omega]
   refine w_cn cn (w_lv λx1 e1=>w_br (λhm=>w_cn cn (w_an (Tree.pp (event_w _)).1 (w_lv λx2 e2=>Q0e (rarrive_w a3.g.m.len (by have:=a3.l;show r.C2.length≤_;omega) (by have:=a3.q.1;show r.A3.length≤_;omega) (by rw[e2];exact Zgw _)) λx3 e3=>w_nx ⟨nxt _ _ (by rw[e1]at hm;have q:=playF_ev (r:=r) (o:=o) hm;rw[←e2,←e3]at q;exact q.symm) (Nat.le_add_right _ _),mu _⟩))) λhm=>w_an (Qiw (by decide)) (w_lv λx4 e4=>Q0e (advP_w a3 (by omega) x4 (Q0s _)) λx5 ⟨e5,g5,l5⟩=>w_cn (decide_eq_true (by omega)) (w_nx ⟨nxt _ _ ?_ ?_,mu _⟩)))
   · rw[e1]at hm
     rw[Qrg,Qoy hm,Qoe _ _ _ (by have:=a3.q.1;show r.A3.length≤_;omega),←e1,←e4,←e5]
   · show(o++x5.2).length≤o.length+4000
     rw[List.length_append];omega
 · have hb: ¬i<acts.length:=of_decide_eq_false hb
   refine⟨?_,a3.more (by omega),by show(o.length:Int)≤_;omega⟩
   show(r,o)=_
   rw[←a5,List.drop_eq_nil_of_le (by omega)];rfl
inductive Q9m:Q00→List Q0n→List Q03→Q00→Prop
 |nil {m:Q00}:Q9m m [] [] m
 |ev {m n:Q00} {e:Q08} {L:List Q0n} {o:List Q03}:(Q0m m e).1=true→e.B5≠1→U e.N→Q9m (Q0m m e).2 L o n→Q9m m ({At:=m.A1,D0:=e}::L) o n
 |rd {m n:Q00} {c:Int} {L:List Q0n} {o:List Q03}:Q0u m=false→Q1g m=true→U c→Q9m (Q0f m c).2 L o n→Q9m m ({At:=m.A1,D0:={B5:=1,N:=c,C6:=[]}}::L) ((Q0f m c).1++o) n
 |st {m n:Q00} {c:Int} {L:List Q0n} {o:List Q03}:Q0u m=false→Q1g m=false→U c→Q9m (Q0f m c).2 L o n→Q9m m L ((Q0f m c).1++o) n
theorem Q9m.trans{a b c:Q00}{L M:List Q0n}{o p:List Q03}(h:Q9m a L o b)(g:Q9m b M p c):Q9m a (L++M) (o++p) c:=by
 induction h with
 |nil=>exact g
 |ev h1 h2 h3 _ ih=>exact .ev h1 h2 h3 (ih g)
 |rd h1 h2 h3 _ ih=>rw[List.append_assoc];exact .rd h1 h2 h3 (ih g)
 |st h1 h2 h3 _ ih=>rw[List.append_assoc];exact .st h1 h2 h3 (ih g)
theorem Q9m.good{P:Nat}{a b:Q00}{L:List Q0n}{o:List Q03}(h:Q9m a L o b):good P a→good P b∧a.A1≤b.A1∧ ∀e∈L,a.A1≤e.At:=by
 induction h with
 |nil=>exact λg=>⟨g,Int.le_refl _,λe he=>by cases he⟩
 | ev h1 h2 h3 _ ih=>
   intro g
   obtain⟨g1,c1⟩:=Qlx g h3
   obtain⟨p,q,r⟩:=ih g1
   rw[c1]at q r
   exact⟨p,q,λe he=>(List.mem_cons.1 he).elim (λh=>by rw[h];exact Int.le_refl _) (λh=>r e h)⟩
 | rd h1 h2 h3 _ ih=>
   intro g
   obtain⟨g1,c1,_⟩:=Q8n g h1 h3
   obtain⟨p,q,r⟩:=ih g1
   rw[c1]at q r
   exact⟨p,by omega,λe he=>(List.mem_cons.1 he).elim (λh=>by rw[h];exact Int.le_refl _) (λh=>by have:=r e h;omega)⟩
 | st h1 h2 h3 _ ih=>
   intro g
   obtain⟨g1,c1,_⟩:=Q8n g h1 h3
   obtain⟨p,q,r⟩:=ih g1
   rw[c1]at q r
   exact⟨p,by omega,λe he=>by have:=r e he;omega⟩
def Q7j(r x:Q01)(o:List Q03):Prop:= ∃L,x.C2=r.C2++L∧Q9m r.A0 L o x.A0
theorem Q7j.rfl{r:Q01}:Q7j r r []:=⟨[],(List.append_nil _).symm, .nil⟩
theorem Q7j.trans{a b c:Q01}{o p:List Q03}(h:Q7j a b o)(g:Q7j b c p):Q7j a c (o++p):=by
 obtain⟨L,l1,l2⟩:=h
 obtain⟨M,m1,m2⟩:=g
 exact⟨L++M,by rw[m1,l1,List.append_assoc],l2.trans m2⟩
theorem Q7j.trans0{a b c:Q01}{p:List Q03}(h:Q7j a b [])(g:Q7j b c p):Q7j a c p:=h.trans g
theorem Zhd{P:Nat}{k:Int}{r:Q01}(g:Q64 P k r){e:Q08}(he:evOK e)(hu:U e.N):Q7j r (Q1m r e) []:=by
 obtain⟨_,b⟩:=Qlx g.m hu
 cases ha:(Q0m r.A0 e).1
 · rw[Z1p ha];exact Q7j.rfl
 · unfold Q1m
   rw[ha]
   refine⟨[{At:=r.A0.A1,D0:=e}],?_, .ev ha he.2 hu .nil⟩
   show r.C2++[{At:=(Q0m r.A0 e).2.A1,D0:=e}]=_
   rw[b]
theorem fire_on{P:Nat}{k:Int}{r:Q01}(g:Q64 P k r):Q7j r (Q20 r) []:=by
 rw[Qms]
 cases Q7r r.A0.B0 r.A4
 · exact Q7j.rfl
 · exact Zhd g Z4w U_0
theorem tick_on{P:Nat}{k:Int}{r:Q01}(g:Q64 P k r)(hs:Q0u r.A0=false):Q7j r (Qgl r) (Q0f r.A0 r.A4).1:=by
 cases hr:Q1g r.A0
 · rw[Z9a hr]
   refine⟨[],(List.append_nil _).symm,?_⟩
   have:=Q9m.st (L:=[]) (o:=[]) hs hr g.clock .nil
   rw[List.append_nil]at this;exact this
 · rw[Qrr hr]
   refine⟨[{At:=r.A0.A1,D0:={B5:=1,N:=r.A4,C6:=[]}}],_root_.rfl,?_⟩
   have:=Q9m.rd (L:=[]) (o:=[]) hs hr g.clock .nil
   rw[List.append_nil]at this;exact this
theorem rec_on{P:Nat}(n:Nat): ∀{k:Int} {r:Q01},Q64 P k r→Q7j r (recF n r []).1 (recF n r []).2:=by
 induction n with
 |zero=>intro k r _;exact Q7j.rfl
 | succ n ih=>
   intro k r g
   obtain⟨gf,_⟩:=Qh7 g
   have f:=fire_on g
   cases hs:Q0u (Q20 r).A0
   · rw[Qqc hs,recF_out,List.nil_append]
     exact f.trans0 ((tick_on gf hs).trans (ih (Qh2 gf hs)))
   · rw[Qqy hs];exact f
theorem fold_on{P:Nat}{k:Int}(l:List Q08): ∀{r:Q01},Q64 P k r→(∀e∈l,evOK e∧U e.N)→Q7j r (l.foldl Q1m r) []:=by
 induction l with
 |nil=>intro r _ _;exact Q7j.rfl
 | cons e l ih=>
   intro r g hu
   obtain⟨a,b⟩:=hu e (by simp)
   exact(Zhd g a b).trans0 (ih (Qi0 g b).1 (λq hq=>hu q (by simp [hq])))
theorem adv_on{P:Nat}{k:Int}{r:Q01}(g:Q64 P k r)(hq:okQ r.A3)(he: ∀e∈r.A3,evOK e)(steps:Int){clock:Int}(hc:U clock):Q7j r (advF r steps clock).1 (advF r steps clock).2:=by
 rw[Qtp g.m.rmay]
 have s:=Qoj g hq hc
 have u:U (if clock>r.A4 then clock else r.A4):=by split<;>first|exact hc|exact g.clock
 have f:=fold_on r.A3 (r:={A0:=r.A0,A4:=if clock>r.A4 then clock else r.A4,C2:=r.C2,A3:=r.A3}) (k:=k) ⟨g.m,u,g.cnt⟩ (λe h=>⟨he e h,hq.2 e h⟩)
 generalize r.A3.foldl Q1m {A0:=r.A0,A4:=if clock>r.A4 then clock else r.A4,C2:=r.C2,A3:=r.A3}=y at*
 have f:Q7j r (noQ y) []:=f
 exact f.trans0 (rec_on _ s)
theorem arr_on(r:Q01)(e:Q08):Q7j r (Q2i r e).1 []:=by
 rw[Qbt]
 cases Q32 e<;>cases e.B5==1<;>cases decide ((r.A3.length:Int)≥16)<;>exact Q7j.rfl
theorem ev_on{r:Q01}{A:Q01×Bool}(h:Q7j r A.1 []):Q7j r (A.1,([]:List Q03)).1 (A.1,([]:List Q03)).2:=h
theorem mstep_on{c0 k B:Int}{r:Q01}(h:logP c0 k B r)(n:Int):Q7j r (Q48 r n).1 (Q48 r n).2:=by
 cases hm:Int.tmod (Q3e n 3) 3==0
 · rw[Qoy hm,Qoe _ _ _ (by have:=h.p.q.1;omega)]
   exact adv_on h.p.g h.p.q h.l.q _ (Q0s _)
 · rw[Qo6 hm]
   exact ev_on (A:=Q2i r (Q3g n)) (arr_on _ _)
theorem play_on{c0:Int}(l:List Int): ∀{k B:Int} {s:Q01×List Q03},logP c0 k B s.1→255≤B→B+12*l.length<1000000000→ ∃o,(l.foldl Qlw s).2=s.2++o∧Q7j s.1 (l.foldl Qlw s).1 o:=by
 induction l with
 |nil=>intro k B s _ _ _;exact⟨[],(List.append_nil _).symm,Q7j.rfl⟩
 | cons n l ih=>
   intro k B s h h1 h2
   rw[List.length_cons]at h2
   have a:=Qoq h h1 (by omega) n
   have b:=mstep_on h n
   rw[←Qni]at a b
   obtain⟨o,o1,o2⟩:=ih a (by omega) (by omega)
   refine⟨(Q48 s.1 n).2++o,?_,b.trans o2⟩
   rw[List.foldl_cons,o1,Qrg,List.append_assoc]
def arm(r:Q01):Nat:=if r.A0.B0.D2 then 1 else 0
theorem arm_le(r:Q01):arm r≤1:=by unfold arm;split<;>omega
theorem Zff(m:Q00)(e:Q08):(Q0m m e).2.B0=m.B0∨(Q0m m e).2.B0=(Q7a m.B0).1:=by
 show Tree.V (Q4p m e) (λx=>x.2.B0=m.B0∨x.2.B0=(Q7a m.B0).1)
 unfold Q4p
 repeat'(first
   |exact v_lf (.inl rfl)
   |exact v_lv λx hx=>v_lf (.inr (by rw[hx]))
   |exact v_lv λx hx=>v_lf (.inl rfl)
   |exact v_an (v_lv λx hx=>v_lf (.inl rfl))
   |refine v_br (λ_=> ?_) (λ_=> ?_))
theorem fire_arm(t:Q0g):(Q7a t).1.D2=true→t.D2=true:=by
 show Tree.V (Qac t) (λr=>r.1.D2=true→t.D2=true)
 unfold Qac
 exact v_br (λ_=>v_lf λh=>h) (λ_=>v_lf λh=>by cases h)
theorem offer_arm(r:Q01)(e:Q08):(Q1m r e).C2.length+arm (Q1m r e)≤r.C2.length+arm r+1:=by
  have l:=Qkx r e
  cases ha:(Q0m r.A0 e).1
  · rw[Z1p ha];omega
  · have h:arm (Q1m r e)≤arm r:=by
      unfold arm Q1m
      rw[ha]
      show(if(Q0m r.A0 e).2.B0.D2=true then 1 else 0)≤_
      rcases Zff r.A0 e with t|t
      · rw[t];exact Nat.le_refl _
      · rw[t]
        split
        · rename_i q;rw[if_pos (fire_arm _ q)];exact Nat.le_refl _
        · exact Nat.zero_le _
    omega
theorem fire_cnt(r:Q01):(Q20 r).C2.length+arm (Q20 r)≤r.C2.length+arm r:=by
  cases hd:Q7r r.A0.B0 r.A4
  · rw[fireF_not hd];exact Nat.le_refl _
  · have e:Q20 r=Q1m r Qpl:=by rw[Qms,hd];rfl
    rw[e]
    cases ha:(Q0m r.A0 Qpl).1
    · rw[Z1p ha];exact Nat.le_refl _
    · have a1:arm r=1:=by
        unfold arm
        refine if_pos ?_
        cases h:r.A0.B0.D2
        · rw[due_armed h]at hd;cases hd
        · rfl
      have l:=Qkx r Qpl
      have a0:arm (Q1m r Qpl)=0:=by
        unfold arm Q1m
        rw[ha]
        refine if_neg ?_
        show¬(Q0m r.A0 Qpl).2.B0.D2=true
        rw[Ze7]at ha⊢
        cases hh:r.A0.A9
        · rw[hh]at ha
          have:=fire_done _ ha
          show¬(Q7a r.A0.B0).1.D2=true
          rw[this];decide
        · rw[hh]at ha;cases ha
      omega
theorem Zgx{P:Nat}{m:Q00}(g:good P m)(hr:Q1g m=true)(clock:Int):(Q0f m clock).2.B0=m.B0:=by
 have rd:Q1g m=bif Q0u m then false else Qek m:=rfl
 rw[rd]at hr
 cases hs:Q0u m
 · rw[hs]at hr
   have hr:Qek m=true:=hr
   obtain⟨g1,g2,g3,g4,g5⟩:=(Qju m).1 g.may
   obtain⟨b1,b2,b3,_⟩:=(Tree.pp (Qsa g.s g2)).2
   change Q6k (Q0r m).B2 at b1
   change okS P (Q0r m) at b2
   have be:=Qve g.v g2.st
   have b1':Q6k (Q0l m):=by have:=b1;rw[be]at this;exact this
   have b2':Q2z (Q0l m):=by have:=b2.cpu;rw[be]at this;exact this
   rw[Zde,←Zhs g.ok.mem b2' b1'.st]at hr
   rw[adv_eq]
   generalize Q7u (Q0l m) m.Mem=D at*
   unfold ioP at hr
   unfold finR
   cases hk:D.2.1.B5==1
   · rw[hk]at hr;cases hr
   · rw[hk]at hr
     have hp:D.2.1.D1=2:=eq_of_beq hr
     rw[hp];rfl
 · rw[hs]at hr;cases hr
theorem tick_cnt{P:Nat}{k:Int}{r:Q01}(g:Q64 P k r):(Qgl r).C2.length+arm (Qgl r)≤r.C2.length+arm r+1:=by
 cases hr:Q1g r.A0
 · have:=arm_le (Qgl r)
   have e:(Qgl r).C2=r.C2:=by rw[Z9a hr]
   rw[e];omega
 · have l:=Z1i r
   have e:arm (Qgl r)=arm r:=by
     unfold arm
     rw[Qrr hr]
     show(if(Q0f r.A0 r.A4).2.B0.D2=true then 1 else 0)=_
     rw[Zgx g.m hr]
   omega
theorem rec_cnt{P:Nat}(n:Nat): ∀{k:Int} {r:Q01} {o:List Q03},Q64 P k r→(recF n r o).1.C2.length+arm (recF n r o).1≤r.C2.length+arm r+n:=by
 induction n with
 |zero=>intro k r o _;exact Nat.le_refl _
 | succ n ih=>
   intro k r o g
   obtain⟨gf,_⟩:=Qh7 g
   have f:=fire_cnt r
   cases hs:Q0u (Q20 r).A0
   · rw[Qqc hs]
     have a:=ih (o:=o++(Q0f (Q20 r).A0 (Q20 r).A4).1) (Qh2 gf hs)
     have b:=tick_cnt gf
     omega
   · rw[Qqy hs]
     show(Q20 r).C2.length+arm (Q20 r)≤_
     omega
theorem fold_cnt(l:List Q08): ∀r:Q01,(l.foldl Q1m r).C2.length+arm (l.foldl Q1m r)≤r.C2.length+arm r+l.length:=by
 induction l with
 |nil=>intro r;exact Nat.le_refl _
 | cons e l ih=>
   intro r
   have a:=ih (Q1m r e)
   have b:=offer_arm r e
   rw[List.foldl_cons,List.length_cons];omega
def cntR(r:Q01):Nat:=r.C2.length+arm r+r.A3.length
theorem adv_cnt{P:Nat}{k:Int}{r:Q01}(g:Q64 P k r)(hq:okQ r.A3){steps clock:Int}(hc:U clock)(hs:0≤steps∧steps<12):cntR (advF r steps clock).1≤cntR r+11:=by
 have s:=Qoj g hq hc
 have f:=fold_cnt r.A3 {A0:=r.A0,A4:=if clock>r.A4 then clock else r.A4,C2:=r.C2,A3:=r.A3}
 rw[Qtp g.m.rmay,Qu6 hs.1 (by omega)]
 generalize r.A3.foldl Q1m {A0:=r.A0,A4:=if clock>r.A4 then clock else r.A4,C2:=r.C2,A3:=r.A3}=y at*
 have q:(recF steps.toNat (noQ y) []).1.A3=[]:=Z64 _ _ _
 have c:=rec_cnt steps.toNat (o:=[]) s
 have e:arm (noQ y)=arm y:=rfl
 have e1:(noQ y).C2=y.C2:=rfl
 have e2:arm {A0:=r.A0,A4:=if clock>r.A4 then clock else r.A4,C2:=r.C2,A3:=r.A3}=arm r:=rfl
 rw[e,e1]at c
 rw[e2]at f
 have f:y.C2.length+arm y≤r.C2.length+arm r+r.A3.length:=f
 unfold cntR
 rw[q]
 show _+_+0≤_
 omega
theorem adv_steps{P:Nat}{k:Int}{r:Q01}(g:Q64 P k r)(hq:okQ r.A3){steps clock:Int}(hc:U clock)(hs:0≤steps∧steps<12):(advF r steps clock).1.A0.A1≤r.A0.A1+11:=by
 have s:=Qoj (k:=r.A0.A1) ⟨g.m,g.clock,Int.le_refl _⟩ hq hc
 rw[Qtp g.m.rmay,Qu6 hs.1 (by omega)]
 have:=(Zc4 steps.toNat (o:=[]) s).cnt
 omega
theorem Zgl{c0 k B:Int}{r:Q01}(h:logP c0 k B r)(n:Int):(Q48 r n).1.A0.A1≤r.A0.A1+11:=by
 cases hm:Int.tmod (Q3e n 3) 3==0
 · rw[Qoy hm,Qoe _ _ _ (by have:=h.p.q.1;omega)]
   exact adv_steps h.p.g h.p.q (Q0s _) (Qli (n:=ishr .i64 (Q3e n 3) 4) (k:=12) (by decide) (by decide))
 · rw[Qo6 hm,Qbt]
   have z:r.A0.A1≤r.A0.A1+11:=by omega
   cases Q32 (Q3g n)<;>cases(Q3g n).B5==1<;>cases decide ((r.A3.length:Int)≥16)<;>exact z
theorem Zl7{c0:Int}(l:List Int): ∀{k B:Int} {s:Q01×List Q03},logP c0 k B s.1→255≤B→B+12*l.length<1000000000→(l.foldl Qlw s).1.A0.A1≤s.1.A0.A1+11*l.length:=by
 induction l with
 |nil=>intro k B s _ _ _;show s.1.A0.A1≤s.1.A0.A1+11*((0:Nat):Int);omega
 | cons n l ih=>
   intro k B s h h1 h2
   rw[List.length_cons]at h2
   have a:=Qoq h h1 (by omega) n
   have b:=Zgl h n
   rw[←Qni]at a b
   have:=ih a (by omega) (by omega)
   rw[List.foldl_cons,List.length_cons];omega
theorem mstep_cnt{c0 k B:Int}{r:Q01}(h:logP c0 k B r)(n:Int):cntR (Q48 r n).1≤cntR r+11:=by
 cases hm:Int.tmod (Q3e n 3) 3==0
 · rw[Qoy hm,Qoe _ _ _ (by have:=h.p.q.1;omega)]
   exact adv_cnt h.p.g h.p.q (Q0s _) (Qli (n:=ishr .i64 (Q3e n 3) 4) (k:=12) (by decide) (by decide))
 · rw[Qo6 hm,Qbt]
   have:cntR {A0:=r.A0,A4:=r.A4,C2:=r.C2,A3:=r.A3++[Q3g n]}=cntR r+1:=by
     show r.C2.length+arm r+(r.A3++[_]).length=r.C2.length+arm r+r.A3.length+1
     rw[List.length_append,List.length_singleton];omega
   cases Q32 (Q3g n)<;>cases(Q3g n).B5==1<;>cases decide ((r.A3.length:Int)≥16)<;>first|exact Nat.le_add_right _ _|(show cntR {A0:=r.A0,A4:=r.A4,C2:=r.C2,A3:=r.A3++[Q3g n]}≤_;omega)
theorem play_cnt{c0:Int}(l:List Int): ∀{k B:Int} {s:Q01×List Q03},logP c0 k B s.1→255≤B→B+12*l.length<1000000000→cntR (l.foldl Qlw s).1≤cntR s.1+11*l.length:=by
 induction l with
 |nil=>intro k B s _ _ _;exact Nat.le_refl _
 | cons n l ih=>
   intro k B s h h1 h2
   rw[List.length_cons]at h2
   have a:=Qoq h h1 (by omega) n
   have b:=mstep_cnt h n
   rw[←Qni]at a b
   have:=ih a (by omega) (by omega)
   rw[List.foldl_cons,List.length_cons];omega
theorem Qr8{l:List Q0n}{i:Nat}(h:i<l.length):l.getD i (RK.dflt RK.apiEntry)=l[i]:=by
 rw[List.getD_eq_getElem?_getD,List.getElem?_eq_getElem h];rfl
theorem ordered_w{s:List Q0n}(hl:s.length≤1000000)(hp:s.Pairwise λa b=>a.At≤b.At∧(a.D0.B5=1→a.At<b.At∧(b.D0.B5=1→a.D0.N≤b.D0.N))):(Q98 s).w (λb=>b=true):=by
 unfold Q98
 refine w_lp (inv:=λz:Int=>1≤z∧(z≤s.length∨z=1)) (μ:=Q51 s) ⟨Int.le_refl 1, .inr rfl⟩ (Nat.lt_succ_self _) λi ⟨a,b⟩=> ?_
 refine w_br (λhb=> ?_) (λ_=>rfl)
 have hb:=of_decide_eq_true hb
 have ew:IntKind.i64.wrap (i+1)=i+1:=by rw[IntKind.wrap_i64];omega
 have em:IntKind.i64.wrap (i-1)=i-1:=by rw[IntKind.wrap_i64];omega
 have hlt:i.toNat<s.length:=by omega
 have hlt':(i-1).toNat<s.length:=by omega
 have q:=List.pairwise_iff_getElem.1 hp (i-1).toNat i.toNat hlt' hlt (by omega)
 rw[←Qr8 hlt,←Qr8 hlt']at q
 have nx:(1≤IntKind.i64.wrap (i+1)∧(IntKind.i64.wrap (i+1)≤s.length∨IntKind.i64.wrap (i+1)=1))∧Q51 s (IntKind.i64.wrap (i+1))<Q51 s i:=by
   show _∧(s.length-IntKind.i64.wrap (i+1)).toNat<(s.length-i).toNat
   rw[ew];omega
 refine w_cn (by rw[em];simp [Nat.blt];omega) (w_cn (by simp [Nat.blt];omega) (w_br (λh=> ?_) λ_=>w_br (λh1=>w_br (λh2=> ?_) λ_=>w_nx nx) λ_=>w_nx nx))
 · have h:=of_decide_eq_true h
   rw[em]at h
   have:=q.1;omega
 · rw[em]at h1 h2
   have h1:=eq_of_beq h1
   have:=(q.2 (eq_of_beq h2)).1;omega
theorem Zha{l:List Q0n}{i:Nat}{e:Q0n}{L:List Q0n}(h:l.drop i=e::L):i<l.length∧l.getD i (RK.dflt RK.apiEntry)=e∧l.drop (i+1)=L:=by
 have hlt:i<l.length:=by
   by_cases g:i<l.length
   · exact g
   · rw[List.drop_eq_nil_of_le (by omega)]at h;cases h
 rw[List.drop_eq_getElem_cons hlt]at h
 injection h with h1 h2
 exact⟨hlt,by rw[Qr8 hlt,h1],h2⟩
theorem drop_nil{l:List Q0n}{i:Nat}(h:l.drop i=[]):l.length≤i:=List.drop_eq_nil_iff.1 h
theorem Zkn{P:Nat}{a b:Q00}{L:List Q0n}{o:List Q03}(h:Q9m a L o b)(g:good P a)(hc:a.A1<b.A1):
   (∃e M,L={At:=a.A1,D0:=e}::M∧e.B5≠1∧U e.N∧(Q0m a e).1=true∧Q9m (Q0m a e).2 M o b)∨
   (∃c M p,L={At:=a.A1,D0:={B5:=1,N:=c,C6:=[]}}::M∧Q0u a=false∧Q1g a=true∧U c∧o=(Q0f a c).1++p∧Q9m (Q0f a c).2 M p b)∨
   (∃p,Q0u a=false∧Q1g a=false∧(∀e∈L,a.A1<e.At)∧o=(Q0f a 0).1++p∧Q9m (Q0f a 0).2 L p b):=by
 cases h with
 |nil=>omega
 |ev h1 h2 h3 h4=>exact .inl ⟨_,_,rfl,h2,h3,h1,h4⟩
 |rd h1 h2 h3 h4=>exact .inr (.inl ⟨_,_,_,rfl,h1,h2,h3,rfl,h4⟩)
 | @st _ _ c _ _ h1 h2 h3 h4=>
   refine .inr (.inr ?_)
   have e:Q0f a c=Q0f a 0:=by
     have s1:=g.step h1 c
     have s0:=g.step h1 0
     have:=Zlo (m:=a) (by rw[Qul g.v];exact h2) c 0
     rw[s1,s0]at this
     injection this with p q
     exact Prod.ext q p
   obtain⟨g1,c1,_⟩:=Q8n g h1 h3
   have r:=(h4.good g1).2.2
   rw[c1]at r
   rw[e]at h4
   exact⟨_,h1,h2,λe he=>by have:=r e he;omega,by rw[e],h4⟩
theorem Z59{P:Nat}{a b:Q00}{L:List Q0n}{o:List Q03}(h:Q9m a L o b)(g:good P a)(hc:b.A1≤a.A1):o=[]∧((L=[]∧a=b)∨ ∃e M,L={At:=a.A1,D0:=e}::M∧U e.N∧(Q0m a e).1=true∧Q9m (Q0m a e).2 M [] b):=by
 have main: ∀{a b:Q00} {L:List Q0n} {o:List Q03},Q9m a L o b→good P a→b.A1≤a.A1→o=[]:=by
   intro a b L o h
   induction h with
   |nil=>exact λ_ _=>rfl
   | ev h1 h2 h3 _ ih=>
     intro g hc
     obtain⟨g1,c1⟩:=Qlx g h3
     exact ih g1 (by omega)
   | rd h1 h2 h3 h4 ih=>
     intro g hc
     obtain⟨g1,c1,_⟩:=Q8n g h1 h3
     have:=(h4.good g1).2.1;omega
   | st h1 h2 h3 h4 ih=>
     intro g hc
     obtain⟨g1,c1,_⟩:=Q8n g h1 h3
     have:=(h4.good g1).2.1;omega
 have z:=main h g hc
 refine⟨z,?_⟩
 cases h with
 |nil=>exact .inl ⟨rfl,rfl⟩
 |ev h1 h2 h3 h4=>rw[z]at h4;exact .inr ⟨_,_,rfl,h3,h1,h4⟩
 | rd h1 h2 h3 h4=>
   obtain⟨g1,c1,_⟩:=Q8n g h1 h3
   have:=(h4.good g1).2.1;omega
 | st h1 h2 h3 h4=>
   obtain⟨g1,c1,_⟩:=Q8n g h1 h3
   have:=(h4.good g1).2.1;omega
theorem check_w{m:Q00}(g:good 8 m){s:List Q0n}(hs:s.length≤400){until0:Int}(h1:m.A1≤until0)(h2:until0≤m.A1+4000)
   (hp:s.Pairwise λa b=>a.At≤b.At∧(a.D0.B5=1→a.At<b.At∧(b.D0.B5=1→a.D0.N≤b.D0.N))) (ha: ∀e∈s,m.A1≤e.At):(Qfn m s until0).w (λx=>x=0):=by
 have c0:=g.ok.cnt
 have ord:Qne s=true:=Tree.post _ (ordered_w (by omega) hp)
 unfold Qfn
 refine w_an (Tree.pp (Za6 g.ok.target.2)).1 (w_lv λx0 e0=>w_br (λh=>by rw[e0,g.may]at h;cases h) λ_=>w_br (λh=>absurd (of_decide_eq_true h) (by omega)) λ_=>w_br (λh=> ?_) λ_=>w_br (λh=>absurd (of_decide_eq_true h) (by omega)) λ_=>w_an (show s.length≤1000000000000 by omega) (w_lv λx1 e1=>w_br (λh=>by rw[e1,ord]at h;cases h) λ_=> ?_))
 · have h:=of_decide_eq_true h
   rw[IntKind.wrap_u64]at h;omega
 · refine w_lp (inv:=λi:Int=>0≤i∧i≤s.length) (μ:=Qm0 m s until0) ⟨Int.le_refl 0,by omega⟩ (Nat.lt_succ_self _) λi ⟨v1,v2⟩=> ?_
   refine w_br (λhb=> ?_) (λhb=>rfl)
   have hb:=of_decide_eq_true hb
   have hlt:i.toNat<s.length:=by omega
   have ew:IntKind.i64.wrap (i+1)=i+1:=by rw[IntKind.wrap_i64];omega
   have hin:=ha (s.getD i.toNat (RK.dflt RK.apiEntry)) (by rw[Qr8 hlt];exact List.getElem_mem hlt)
   refine w_cn (by simp [Nat.blt];omega) (w_br (λh=>absurd (of_decide_eq_true h) (by omega)) λ_=>w_nx ?_)
   show(0≤IntKind.i64.wrap (i+1)∧IntKind.i64.wrap (i+1)≤s.length)∧(s.length-IntKind.i64.wrap (i+1)).toNat<(s.length-i).toNat
   rw[ew];omega
theorem run_w{m n:Q00}(g:good 8 m){s:List Q0n}(hs:s.length≤400){O:List Q03}(tr:Q9m m s O n)(hO:O.length≤1000000)(h2:n.A1≤m.A1+4000)
    (hp:s.Pairwise λa b=>a.At≤b.At∧(a.D0.B5=1→a.At<b.At∧(b.D0.B5=1→a.D0.N≤b.D0.N))):
    (Qkw m s n.A1).w (λx=>x.2.2.2=0∧x.2.1=O∧0≤x.2.2.1∧x.2.2.1≤s.length∧good 8 x.1∧n.A1≤x.1.A1∧Q9m x.1 (s.drop x.2.2.1.toNat) [] n):=by
  obtain⟨gn,cn0,ha⟩:=tr.good g
  have n60:n.A1≤1152921504606846976:=((Qju n).1 gn.may).2.2.1
  unfold Qkw
  refine Q0e (check_w g hs cn0 h2 hp ha) λx0 e0=>w_br (λh=>by rw[e0]at h;cases h) λ_=>w_an (Q9a g.ok.mem) (w_lv λx1 e1=> ?_)
  have hcl:Q02 m.Mem=m.Mem:=rfl
  rw[hcl]at e1
  subst e1
  refine w_lp (inv:=λv:Int×Q00×List Q03=>0≤v.1∧v.1≤s.length∧good 8 v.2.1∧ ∃o,O=v.2.2++o∧Q9m v.2.1 (s.drop v.1.toNat) o n) (μ:=Qpj m s n.A1) ⟨Int.le_refl 0,by show(0:Int)≤_;omega,g,O,rfl,tr⟩ (Nat.lt_succ_self _) λv ⟨a1,a2,a3,o,a4,a5⟩=> ?_
  obtain⟨u,x,out⟩:=v
  have a1:0≤u:=a1
  have a2:u≤s.length:=a2
  have a3:good 8 x:=a3
  have a4:O=out++o:=a4
  have a5:Q9m x (s.drop u.toNat) o n:=a5
  have lO:O.length=out.length+o.length:=by rw[a4,List.length_append]
  refine w_br (λhb=>w_br (λ_=> ?_) (λh=>absurd (of_decide_eq_false h) (by have hb:x.A1<n.A1:=of_decide_eq_true hb;show¬ ¬x.A1<_;omega))) (λhb=> ?_)
  · have hb:x.A1<n.A1:=of_decide_eq_true hb
    refine w_lp (inv:=λw:Int×Q00=>0≤w.1∧w.1≤s.length∧good 8 w.2∧w.2.A1=x.A1∧Q9m w.2 (s.drop w.1.toNat) o n) (μ:=Qpo m s n.A1 (u,x,out)) ⟨a1,a2,a3,rfl,a5⟩ (Nat.lt_succ_self _) λw ⟨b1,b2,b3,b4,b5⟩=> ?_
    obtain⟨i,y⟩:=w
    have b1:0≤i:=b1
    have b2:i≤s.length:=b2
    have b3:good 8 y:=b3
    have b4:y.A1=x.A1:=b4
    have b5:Q9m y (s.drop i.toNat) o n:=b5
    have y0:=b3.ok.cnt
    have ip:Q2g y:=midle_w b3.ok.target.2
    have rp:Q1i y:=(Tree.pp (Zhe b3.s)).1
    have sp:=λ(c:Int) (hc:U c)=>(Z9m b3.v b3.len (clock:=c) hc).1
    have sg:=Z50 b3
    have rs:=Qul b3.v
    have ew:IntKind.i64.wrap (i+1)=i+1:=by rw[IntKind.wrap_i64];omega
    have cc:i<s.length→ ∀k:Nat,(Nat.beq 4 4&&Nat.blt 0 4&&decide (0≤i∧i<((s.length:Nat):Int)))=true:=λh k=>by simp [Nat.blt];omega
    rcases Zkn b5 b3 (by omega) with⟨e,M,l1,l2,l3,l4,l5⟩|⟨c,M,p,l1,l2,l3,l4,l5,l6⟩|⟨p,l1,l2,l3,l4,l5⟩
    · obtain⟨d1,d2,d3⟩:=Zha l1
      have hi:i<s.length:=by omega
      obtain⟨g1,c1⟩:=Qlx b3 l3
      refine w_br (λ_=>w_cn (cc hi 0) (w_br (λ_=>w_cn (cc hi 0) (w_br (λ_=>w_cn (cc hi 0) (w_an ?_ (w_lv λx2 e2=>w_nx ?_))) (λh=> ?_))) (λh=> ?_))) (λh=>absurd (of_decide_eq_false h) (λz=>z hi))
      · rw[d2];exact Z4u b3.v b3.len l3
      · rw[d2,b3.app]at e2
        show(0≤IntKind.i64.wrap (i+1)∧IntKind.i64.wrap (i+1)≤s.length∧good 8 x2.1∧x2.1.A1=x.A1∧Q9m x2.1 (s.drop (IntKind.i64.wrap (i+1)).toNat) o n)∧(s.length-IntKind.i64.wrap (i+1)).toNat<(s.length-i).toNat
        rw[ew,show(i+1).toNat=i.toNat+1 by omega,d3,e2]
        exact⟨⟨by omega,by omega,g1,by show(Q0m y e).2.A1=_;omega,l5⟩,by omega⟩
      · rw[d2]at h
        have h:e.B5=1:=by simpa using h
        exact absurd h l2
      · rw[d2]at h;simp at h
    · obtain⟨d1,d2,d3⟩:=Zha l1
      have hi:i<s.length:=by omega
      obtain⟨g1,c1,o1⟩:=Q8n b3 l2 l4
      have ms:=b3.step l2 c
      rw[l2]at sg
      have hh:y.A9=false:=by
        cases hh:y.A9
        · rfl
        · rw[hh]at sg;cases sg
      have hid:Q35 y=false:=by
        cases hid:Q35 y
        · rfl
        · rw[hh,hid]at sg;cases sg
      have hr:Q1u y=true:=rs.trans l3
      have lo:o.length=(Q0f y c).1.length+p.length:=by rw[l5,List.length_append]
      refine w_br (λ_=>w_cn (cc hi 0) (w_br (λ_=>w_cn (cc hi 0) (w_br (λh=> ?_) (λ_=> ?_))) (λh=> ?_))) (λh=>absurd (of_decide_eq_false h) (λz=>z hi))
      · rw[d2]at h;cases h
      · refine w_br (λh=>by rw[hh]at h;cases h) λ_=>w_an ip (w_lv λx3 e3=>w_br (λh=>by rw[e3,hid]at h;cases h) λ_=>w_br (λ_=>w_cn (cc hi 0) (w_an rp (w_lv λx4 e4=>w_br (λh=> ?_) λ_=>w_br (λ_=>w_cn (cc hi 0) (w_an ?_ (w_lv λx5 e5=> ?_))) λh=> ?_))) λh=>absurd (of_decide_eq_false h) (λz=>z hi))
        · rw[e4,hr,d2]at h;simp at h
        · rw[d2];exact sp c l4
        · rw[d2]at e5
          have e5:x5=((Q0f y c).2,(Q0f y c).1):=e5.trans ms
          refine w_cn (decide_eq_true (by rw[e5];show 40*(out.length+(Q0f y c).1.length)≤_;omega)) (w_nx ?_)
          show(0≤IntKind.i64.wrap (i+1)∧IntKind.i64.wrap (i+1)≤s.length∧good 8 x5.1∧ ∃o',O=(out++x5.2)++o'∧Q9m x5.1 (s.drop (IntKind.i64.wrap (i+1)).toNat) o' n)∧(n.A1-x5.1.A1).toNat<(n.A1-x.A1).toNat
          rw[ew,show(i+1).toNat=i.toNat+1 by omega,d3,e5]
          exact⟨⟨by omega,by omega,g1,p,by rw[a4,l5,List.append_assoc],l6⟩,by show(n.A1-(Q0f y c).2.A1).toNat<_;omega⟩
        · rw[d2]at h;simp at h
      · rw[d2]at h;simp at h
    · obtain⟨g1,c1,o1⟩:=Q8n b3 l1 U_0
      have ms:=b3.step l1 0
      rw[l1]at sg
      have hh:y.A9=false:=by
        cases hh:y.A9
        · rfl
        · rw[hh]at sg;cases sg
      have hid:Q35 y=false:=by
        cases hid:Q35 y
        · rfl
        · rw[hh,hid]at sg;cases sg
      have hr:Q1u y=false:=rs.trans l2
      have lo:o.length=(Q0f y 0).1.length+p.length:=by rw[l4,List.length_append]
      have ne:i<s.length→((s.getD i.toNat (RK.dflt RK.apiEntry)).At==y.A1)=false:=λhi=>by
        have hlt:i.toNat<s.length:=by omega
        refine beq_false_of_ne λq=> ?_
        have:=l3 (s.getD i.toNat (RK.dflt RK.apiEntry)) (by rw[Qr8 hlt,List.drop_eq_getElem_cons hlt];exact List.mem_cons_self)
        omega
      have fin: ∀x5:Q00×List Q03,x5=Q1t y 0→decide (40*(out.length+x5.2.length)≤140737488355328)=true∧((0≤i∧i≤s.length∧good 8 x5.1∧ ∃o',O=(out++x5.2)++o'∧Q9m x5.1 (s.drop i.toNat) o' n)∧(n.A1-x5.1.A1).toNat<(n.A1-x.A1).toNat):=λx5 e5=>by
        have e5:x5=((Q0f y 0).2,(Q0f y 0).1):=e5.trans ms
        rw[e5]
        exact⟨decide_eq_true (by show 40*(out.length+(Q0f y 0).1.length)≤_;omega),⟨b1,b2,g1,p,by rw[a4,l4,List.append_assoc],l5⟩,by show(n.A1-(Q0f y 0).2.A1).toNat<_;omega⟩
      refine w_br (λhi=>w_cn (cc (of_decide_eq_true hi) 0) (w_br (λh=>by rw[ne (of_decide_eq_true hi)]at h;cases h) λ_=> ?_)) (λhi=> ?_)
      · have hi:i<s.length:=of_decide_eq_true hi
        refine w_br (λh=>by rw[hh]at h;cases h) λ_=>w_an ip (w_lv λx3 e3=>w_br (λh=>by rw[e3,hid]at h;cases h) λ_=>w_br (λ_=>w_cn (cc hi 0) (w_an rp (w_lv λx4 e4=>w_br (λh=>by rw[e4,hr,ne hi]at h;cases h) λ_=>w_br (λh=>by rw[ne hi]at h;cases h) λ_=>w_an (sp 0 U_0) (w_lv λx6 e6=>w_cn (fin x6 e6).1 (w_nx (fin x6 e6).2))))) λh=>absurd (of_decide_eq_false h) (λz=>z hi))
      · have hi: ¬i<s.length:=of_decide_eq_false hi
        refine w_br (λh=>by rw[hh]at h;cases h) λ_=>w_an ip (w_lv λx3 e3=>w_br (λh=>by rw[e3,hid]at h;cases h) λ_=>w_br (λh=>absurd (of_decide_eq_true h) hi) λ_=>w_an rp (w_lv λx4 e4=>w_br (λh=>by rw[e4,hr]at h;cases h) λ_=>w_an (sp 0 U_0) (w_lv λx6 e6=>w_cn (fin x6 e6).1 (w_nx (fin x6 e6).2))))
  · have hb: ¬x.A1<n.A1:=of_decide_eq_false hb
    obtain⟨z,_⟩:=Z59 a5 a3 (by omega)
    rw[z]at a5 a4
    rw[List.append_nil]at a4
    exact⟨rfl,a4.symm,a1,a2,a3,by show n.A1≤x.A1;omega,a5⟩
theorem bares(kind:Int)(l acts:List Int)(hl:l.length*8≤reachBytes):Qgh kind l acts∧Qg1 kind l acts=true:=by
 have aw:(Tree.an Q8 (.lv Qe3 λx=> .lf x)).w (λr=>r=true):=aw21 rfl
 refine Tree.pp (W:=λr=>r=true) ?_
 unfold Q9g
 refine w_lv λx0 h0=>w_br (λ_=>aw) λhb=> ?_
 obtain⟨f1,f2⟩:=few_lens h0 hb
 obtain⟨a,b⟩:=Zdo kind l hl f1
 refine w_an (Tree.pp (machine_w kind l hl)).1 (w_lv λm hm=> ?_)
 rw[←hm]at a b
 refine Q0e (played_w a b acts f2) λx3 ⟨e3,g3,o3⟩=> ?_
 have s0:=new_logP a b
 have lp:=play_logP acts (s:=({A0:=m,A4:=0,C2:=[],A3:=[]},[])) s0 (Int.le_refl _) (by omega)
 have ct:=play_cnt acts (s:=({A0:=m,A4:=0,C2:=[],A3:=[]},[])) s0 (Int.le_refl _) (by omega)
 obtain⟨o,on1,L,on2,on3⟩:=play_on acts (s:=({A0:=m,A4:=0,C2:=[],A3:=[]},[])) s0 (Int.le_refl _) (by omega)
 have sp:=Zl7 acts (s:=({A0:=m,A4:=0,C2:=[],A3:=[]},[])) s0 (Int.le_refl _) (by omega)
 rw[←e3]at lp ct on1 on2 on3 sp
 have on1:x3.2=o:=on1
 have on2:x3.1.C2=L:=on2
 have on3:Q9m m L o x3.1.A0:=on3
 rw[←on1,←on2]at on3
 have sp:x3.1.A0.A1≤m.A1+11*acts.length:=sp
 have hlen:x3.1.C2.length≤400:=by
   have c0:cntR ({A0:=m,A4:=0,C2:=[],A3:=[]}:Q01)≤1:=by
     have:=arm_le {A0:=m,A4:=0,C2:=[],A3:=[]}
     show 0+arm {A0:=m,A4:=0,C2:=[],A3:=[]}+0≤1
     omega
   have ct:cntR x3.1≤cntR ({A0:=m,A4:=0,C2:=[],A3:=[]}:Q01)+11*acts.length:=ct
   unfold cntR at ct c0
   omega
 refine Q0e (run_w a hlen on3 (by omega) (by omega) lp.l.pw) λx4 ⟨r1,r2,r3,r4,r5,r6,r7⟩=>w_br (λh=>by rw[r1]at h;cases h) λ_=> ?_
 rw[r2]
 have so:Qfz x3.2 x3.2=true:=Tree.post _ (same_outs x3.2 (by omega))
 refine w_an (show x3.2.length≤1000000000000 by omega) (w_lv λx5 e5=>w_br (λh=>by rw[e5,so]at h;cases h) λ_=>w_br (λh=>absurd (of_decide_eq_true h) (by omega)) λ_=> ?_)
 refine w_lp (inv:=λv:Int×Q00=>0≤v.1∧v.1≤x3.1.C2.length∧good 8 v.2∧x3.1.A0.A1≤v.2.A1∧Q9m v.2 (x3.1.C2.drop v.1.toNat) [] x3.1.A0) (μ:=Qdt kind l acts) ⟨r3,r4,r5,r6,r7⟩ (Nat.lt_succ_self _) λv ⟨v1,v2,v3,v4,v5⟩=> ?_
 obtain⟨i,y⟩:=v
 have v1:0≤i:=v1
 have v2:i≤x3.1.C2.length:=v2
 have v3:good 8 y:=v3
 have v4:x3.1.A0.A1≤y.A1:=v4
 have v5:Q9m y (x3.1.C2.drop i.toNat) [] x3.1.A0:=v5
 have yc:=(v5.good v3).2.1
 rcases(Z59 v5 v3 v4).2 with⟨z1,z2⟩|⟨e,M,z1,z2,z3,z4⟩
 · have hi:=drop_nil z1
   refine w_br (λh=>absurd (of_decide_eq_true h) (by show¬i<_;omega)) λ_=> ?_
   show(Tree.an (Qan y x3.1.A0) _).w _
   rw[z2]
   exact Q0e (rsame_w _ (by have:=g3.g.m.len;omega)) λx7 e7=>w_br (λ_=>aw) λh=>by rw[e7]at h;cases h
 · obtain⟨d1,d2,d3⟩:=Zha z1
   have hi:i<x3.1.C2.length:=by omega
   have ew:IntKind.i64.wrap (i+1)=i+1:=by rw[IntKind.wrap_i64];omega
   have cc:(Nat.beq 4 4&&Nat.blt 0 4&&decide (0≤i∧i<((x3.1.C2.length:Nat):Int)))=true:=by simp [Nat.blt];omega
   obtain⟨g1,c1⟩:=Qlx v3 z2
   have ap:Qau y e=((Q0m y e).2,(Q0m y e).1):=by
     rw[←Qux v3.v,v3.app]
   refine w_br (λ_=>w_cn cc (w_br (λh=> ?_) λ_=>w_cn cc (w_an ?_ (w_lv λx6 e6=>w_br (λh=> ?_) λ_=>w_nx ?_)))) λh=>absurd (of_decide_eq_false h) (λz=>z hi)
   · rw[d2]at h
     have h:y.A1≠x3.1.A0.A1:=by simpa using h
     omega
   · rw[d2];exact(rapplyV v3.v v3.len z2).1
   · rw[d2,ap]at e6
     rw[e6]at h
     have h:(!(Q0m y e).1)=true:=h
     rw[z3]at h;cases h
   · rw[d2,ap]at e6
     show(0≤IntKind.i64.wrap (i+1)∧IntKind.i64.wrap (i+1)≤x3.1.C2.length∧good 8 x6.1∧x3.1.A0.A1≤x6.1.A1∧Q9m x6.1 (x3.1.C2.drop (IntKind.i64.wrap (i+1)).toNat) [] x3.1.A0)∧(1000000000000-IntKind.i64.wrap (i+1)).toNat<(1000000000000-i).toNat
     rw[ew,show(i+1).toNat=i.toNat+1 by omega,d3,e6]
     exact⟨⟨by omega,by omega,g1,by show _≤(Q0m y e).2.A1;omega,z4⟩,by omega⟩
end Go.Proofs.YtpcbkbalabgnlaaGreat

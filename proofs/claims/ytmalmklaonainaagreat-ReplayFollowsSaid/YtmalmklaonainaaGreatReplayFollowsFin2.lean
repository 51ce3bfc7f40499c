import Derived.Test.YtmalmklaonainaaGreatReplayFollowsLaws2
import Derived.Test.YtmalmklaonainaaGreatReplayFollowsNewsB
import Derived.Test.YtmalmklaonainaaGreatReplayFollowsZt
open Nat renaming lt_succ_self->cK, beq->bS, blt->bT, le_refl->aO, zero_le->aT, le_trans->bH, min_le_left->cV, le_of_eq->dH, pow_le_pow_right->dP, and_le_left->dW, pow_lt_pow_right->dX, and_le_right->eA, two_pow_pos->eC, two_pow_add_eq_or_of_lt->eH, eq_of_testBit_eq->eI, testBit_mod_two_pow->eJ, testBit->eK, zero_testBit->fA, testBit_and->fB, le_succ->fD, le_add_right->fJ
open List renaming replicate->cL, append->cM, mem_cons->cN, not_mem_nil->cO, length_replicate->cP, length_take->bD, length_drop->bF, mem_of_mem_take->cR, mem_of_mem_drop->cS, length_singleton->cU, take->cW, drop->cX, ext_getElem->bM, range->cY, getD_eq_getElem?_getD->cZ, getElem?_eq_getElem->cG, set->dC, length_set->dD, length_cons->dE, length_nil->dF, length->dG, getD->aK, getElem?_take->aU, take_of_length_le->eW, append_assoc->fC, getElem_mem->fE, drop_eq_getElem_cons->aB, foldl_cons->aD, drop_eq_nil_of_le->aA, append_nil->cJ, nil_append->fH, pairwise_singleton->fI, suffix_refl->bW, suffix_cons->cA, mem_append_right->fK
open Int renaming le_refl->cQ, tmod->dA, toNat->dB, emod_eq_of_lt->dI, pow_pos->dJ, fdiv_eq_ediv_of_nonneg->dK, le_of_lt->dL, pow_add->dM, mul_le_mul_of_nonneg_right->dO, lt_or_le->dR, toNat_natCast->dZ, tmod_eq_emod_of_nonneg->eB, toNat_of_nonneg->eD, fdiv->eG, tdiv->eQ, tdiv_eq_ediv_of_nonneg->eR, ediv_ediv_of_nonneg->eX, mul_ediv_add_emod->eY, pow_succ->eZ, sub_zero->fF
open Bool renaming or_eq_true->aI, eq_iff_iff->eF, noConfusion->eV
open UInt8 renaming toNat_lt->dQ, toNat->eS, ofNat->eT
open BitVec renaming ofInt->dS, toNat_ofInt->dT, toNat_or->dU, toNat_and->dV, getLsbD->eL, eq_of_toNat_eq->eM, ofInt_natCast->eN, toNat_ofNat->eO
open Prod renaming ext->eU, snd->fG
set_option maxRecDepth 100000
set_option linter.all false
namespace Go.Proofs.YtmalmklaonainaaGreat
open Go Go.GD
open Go.IntKind(wrap i64 u32 u64 u8 wrap_i64 wrap_u32 wrap_u64 wrap_u8 wrap_i32)
theorem zG(i:Q0m):U (Q1q i).1:=by
 refine Tree.post (Qha i) (W:=λr=>U r.1) ?_
 unfold Qha
 exact w_lv λ_ _=>w_br (λ_=>U_0) (λ_=>U_or _ _)
theorem qd(l:List Int)(hl:l.length*8<=reachBytes):(Qi9 l).w (λr=>(r.length:Int)=l.length/\ ∀w∈r,U w):=by
 have hl':l.length*8<=140737488351232:=hl
 have app: ∀{r:List Int} {x:Int},(∀w∈r,U w)->U x-> ∀w∈r++[x],U w:=λhr hx w hw=>by
   rw[List.mem_append]at hw
   rcases hw with hw|hw
   . exact hr w hw
   . rw[List.mem_singleton.1 hw];exact hx
 unfold Qi9
 refine w_lp (inv:=λz=>Qqv l z/\ ∀w∈z.2,U w) (μ:=Qd9 l) ⟨⟨by omega,by simp,by simp⟩,by simp⟩ (cK _) (λv0 hv=> ?_)
 obtain⟨⟨h1,h2,h3⟩,h4⟩:=hv
 refine w_br (λh=> ?_) (λh=> ?_)
 . have h:=oY h
   have next: ∀x:Int,U x->(Qqv l (wrap i64 (v0.1+1),v0.2++[x])/\ ∀w∈v0.2++[x],U w)/\Qd9 l (wrap i64 (v0.1+1),v0.2++[x])<Qd9 l v0:=λx hx=>by
     have hw:i64.wrap (v0.1+1)=v0.1+1:=by rw[wrap_i64];omega
     rw[hw]
     refine⟨⟨⟨?_,?_,?_⟩,app h4 hx⟩,?_⟩
     . show 0<=v0.1+1;omega
     . show v0.1+1<=l.length;omega
     . show((v0.2++[x]).length:Int)=v0.1+1;simp;omega
     . show(l.length-(v0.1+1)).toNat<(l.length-v0.1).toNat;omega
   have hb:(bS 1 1&&bT 0 1&&decide (0<=v0.1/\v0.1<(l.length:Int)))=true:=by simp [bT];omega
   have hc:decide (4*(v0.2.length+1)<=140737488355328)=true:=dY (by omega)
   exact w_cn hb (w_br (λ_=>w_cn hb (w_cn hc (next _ (Q0v _)))) (λ_=>w_cn hb (w_an (zW _) (w_lv λx0 _=>w_lv λx1 hx=>w_cn hc (next _ (by rw[hx];exact zG _))))))
 . have h:=oN h
   exact⟨by show(v0.2.length:Int)=l.length;omega,h4⟩
theorem Qol(steps:Int):0<=Q0o steps/\Q0o steps<=4000:=by
 refine Tree.post (Qik steps) (W:=λr=>0<=r/\r<=4000) ?_
 unfold Qik
 refine w_lf ?_
 constructor<;>(repeat' split)<;>omega
section
variable {P:Nat} {m:Q00} (h:okM P m)
include h
theorem min_w(port:Int){clock:Int}(hc:U clock):(Qo0 m port clock).w (λx=>U x.1/\okM P x.2/\x.2.A1=m.A1):=by
 have k:=(⟨h,rfl⟩:okM P m/\m.A1=m.A1)
 obtain⟨h1,h2,h3,h4,h5,h7⟩:=h
 unfold Qo0
 exact w_br (λ_=>w_lv λx hx=>⟨hx▸Zh5 _ _,⟨⟨h1,h2,h3,h4,h5,h7⟩,rfl⟩⟩) (λ_=>w_br (λ_=>⟨hc,k⟩) (λ_=>w_br (λ_=>w_lv λx hx=>⟨hx▸zx _,k⟩) (λ_=>w_br (λ_=>w_lv λx hx=>⟨hx▸qW h3 _,k⟩) (λ_=>w_br (λ_=>w_lv λx hx=>⟨hx▸qaB h4 _,k⟩) (λ_=>w_lv λx hx=>⟨hx▸Ziq h5.1 _,k⟩)))))
theorem zaD(port:Int){v:Int}(hv:U v):(Qht m port v).w (λx=>x.1.length<=1/\okM P x.2/\x.2.A1=m.A1):=by
 have k:=(⟨h,rfl⟩:okM P m/\m.A1=m.A1)
 obtain⟨h1,h2,h3,h4,h5,h7⟩:=h
 unfold Qht
 exact w_br (λ_=>⟨aO _,k⟩) (λ_=>w_br (λ_=>⟨aT _,k⟩) (λ_=>w_br (λ_=>w_lv λ_ _=>⟨aT _,⟨⟨h1,h2,h3,h4,h5,h7⟩,rfl⟩⟩) (λ_=>w_br (λ_=>Q0h (xx h2 h3 _ hv _) λx hx=>⟨hx.2,⟨⟨h1,h2,hx.1,h4,h5,h7⟩,rfl⟩⟩) (λ_=>w_br (λ_=>Q0h (vV h2 h4 _ hv _) λx hx=>⟨hx.2,⟨⟨h1,h2,h3,hx.1,h5,h7⟩,rfl⟩⟩) (λ_=>Q0h (qaQ h2 h5 _ hv) λx hx=>⟨aT _,⟨⟨h1,hx.2,h3,h4,hx.1,h7⟩,rfl⟩⟩)))))
theorem Z89{clock:Int}(hc:U clock):(Qbs m clock).w (λx=>x.1.length<=1/\okM P x.2/\x.2.A1=wrap .u64 (m.A1+1)):=by
 obtain⟨h1,h2,h3,h4,h5,h7⟩:=h
 unfold Qbs
 refine Q0h (Qt1 h1) λx0 c0=>Q0h (do_w c0 h2) λx1 hx=> ?_
 obtain⟨c1,v1,m1⟩:=hx
 refine w_br (λ_=>Zll (min_w (m:=⟨_,_,_,_,_,_,_,_,_,_⟩) ⟨c1,m1,h3,h4,h5,h7⟩ _ hc) λx2 hx=> ?_) (λ_=>w_br (λ_=>Q0h (zaD (m:=⟨_,_,_,_,_,_,_,_,_,_⟩) ⟨c1,m1,h3,h4,h5,h7⟩ _ v1) λx4 hx=> ?_) (λ_=> ?_))
 . obtain⟨u,⟨k1,k2,k3,k4,k5,k7⟩,k6⟩:=hx
   exact Q0h (Zc1 k1 _ u) λx3 h3=>⟨aT _,⟨h3,k2,k3,k4,k5,w0 _⟩,congrArg (λn=>wrap .u64 (n+1)) k6⟩
 . obtain⟨u,⟨k1,k2,k3,k4,k5,k7⟩,k6⟩:=hx
   exact⟨u,⟨k1,k2,k3,k4,k5,w0 _⟩,congrArg (λn=>wrap .u64 (n+1)) k6⟩
 . repeat'(first
     |exact⟨aT _,⟨c1,m1,h3,h4,h5,w0 _⟩,rfl⟩
     |refine w_br (λ_=> ?_) (λ_=> ?_))
theorem xaD:(Qhs m).w (λx=>okM P x/\x.A1=m.A1):=by
 obtain⟨h1,h2,h3,h4,h5,h7⟩:=h
 unfold Qhs
 exact Q0h (xaO h2) λx hx=>⟨⟨h1,by rw[hx];exact h2,h3,h4,h5,h7⟩,rfl⟩
end
theorem U_all(n:Nat): ∀w∈cL n (0:Int),U w:=λw hw=>by rw[(List.mem_replicate.1 hw).2];exact U_0
theorem qaf:okM 0 ⟨⟨⟨0,0,0,0,0,0,0,0,0,0,0,0,0,0,0,0⟩,0,⟨0,0,0,0,0,0,0,0⟩⟩,[],⟨[]⟩,⟨false,0,false⟩,⟨0,0,0,0,0,0,0,[]⟩,⟨0,0,false,0,false,0⟩,⟨0,0⟩,0,false,false⟩:=
 ⟨⟨U_all 16,U_0,U_all 8⟩,⟨rfl,by omega,by omega,λw hw=>by cases hw⟩,⟨U_0,U_0,U_0,U_0⟩,⟨U_0,U_0,U_0,U_0⟩,⟨U_0,U_0⟩,by decide⟩
theorem Zl6{P:Nat}{m:Q00}(h:okM P m)(hc:0<=m.A1):(Q9o m [] 87).w (λx=> ∃Q,okM Q x.1):=by
 have z: ∃Q,okM Q _:=⟨0,qaf⟩
 unfold Q9o
 refine w_lv λx0 _=>w_br (λ_=>z) λ_=>w_br (λ_=>z) λ_=>w_br (λ_=>z) λ_=>w_an (show Q8h [] by show([]:List Q0c).length<=1000000000000;decide) (w_lv λx1 _=>w_br (λ_=>z) λ_=>Q0h (xaD h) λx2 hx=> ?_)
 refine w_lp (inv:=λv:Q00×List Q04=>okM P v.1/\0<=v.1.A1/\v.2.length+(87-v.1.A1).toNat<=87) (μ:=Qgk m [] 87) ⟨hx.1,by rw[hx.2];exact hc,by rw[hx.2];show 0+_<=87;omega⟩ (cK _) λv0 ⟨a1,a2,a3⟩=> ?_
 refine w_br (λhb=>w_br (λ_=> ?_) (λ_=>⟨P,a1⟩)) (λ_=>⟨P,a1⟩)
 have hb:=oY hb
 refine w_lp (inv:=λ_=>True) (μ:=Qgi m [] 87 v0) trivial (cK _) λv1 _=> ?_
 refine w_br (λ_=>⟨P,a1⟩) λ_=>Q0h (xaP _) λx3 _=>w_br (λ_=>⟨P,a1⟩) λ_=>Q0h (xaA a1.cpu a1.mem) λx4 _=>w_br (λ_=>z) λ_=>Q0h (Z89 a1 U_0) λx5 h5=> ?_
 obtain⟨b1,b2,b3⟩:=h5
 refine w_cn (dY (by omega)) (w_nx ?_)
 have e:x5.2.A1=v0.1.A1+1:=by rw[b3,wrap_u64];omega
 show(_/\_/\_)/\(_:Nat)<_
 refine⟨⟨b2,by show 0<=x5.2.A1;omega,by show(v0.2++x5.1).length+(87-x5.2.A1).toNat<=87;rw[lA];omega⟩,by show(87-x5.2.A1).toNat<(87-v0.1.A1).toNat;omega⟩
set_option synthInstance.maxHeartbeats 2000000
set_option synthInstance.maxSize 100000
noncomputable section
instance yG (src:List UInt8):Ck (Qkn src):=ckT (t:=Qg9 src) (by delta Qg9;infer_instance)
instance xC (s:List UInt8):Ck (Qj7 s):=ckT (t:=Qdw s) (by delta Qdw;infer_instance)
instance zC (n:Int):Ck (Q3k n):=let d:Decidable (Q3k n):=(by delta Q3k;infer_instance);⟨@decide _ d,@oY _ d⟩
instance xd (n:Int):Ck (Qgp n):=ckT (t:=Q72 n) (by delta Q72;infer_instance)
instance zaf (r:Int):Ck (Qnx r):=ckT (t:=Qey r) (by delta Qey;infer_instance)
instance yX (s:List UInt8):Ck (Qhf s):=ckT (t:=Qhw s) (by delta Qhw;infer_instance)
instance Zoo (op:Int):Ck (Qek op):=ckT (t:=Q9v op) (by delta Q9v;infer_instance)
instance Znz (s:List UInt8):Ck (Q3m s):=ckT (t:=Q8f s) (by delta Q8f;infer_instance)
instance zd (what:List UInt8):Ck (Q6a what):=ckT (t:=Qbd what) (by delta Qbd;infer_instance)
instance yC (s:List UInt8):Ck (Qi8 s):=ckT (t:=Qdz s) (by delta Qdz;infer_instance)
instance yd (l:List Q0k) (p:List UInt8):Ck (Q6e l p):=ckT (t:=Qbp l p) (by delta Qbp;infer_instance)
instance vC (s:List UInt8):Ck (Qi2 s):=ckT (t:=Qe5 s) (by delta Qe5;infer_instance)
instance vd (l:List Q2d) (label:List UInt8):Ck (Q3s l label):=let d:Decidable (Q3s l label):=(by delta Q3s;infer_instance);⟨@decide _ d,@oY _ d⟩
instance vX (src:List UInt8):Ck (Qmc src):=ckT (t:=Qhv src) (by delta Qhv;infer_instance)
instance qY (st:Q0b) (v:Int):Ck (Qao st v):=ckT (t:=Qic st v) (by delta Qic;infer_instance)
instance Zom (src:List UInt8):Ck (Qai src):=ckT (t:=Q9t src) (by delta Q9t;infer_instance)
theorem xaf:Qai ((108:UInt8)::(tblZe0++Z6k++(Z88++Z8p)++(Z81++Z8c++(Z8b++Z7w))++(Z7n++Z7x++(Qv++Qwm)++(Qv9++Qvs++(Quy++Qvq))))):=ck inferInstance (by kernel_rfl)
def inU(x:Int):Bool:=decide (0<=x)&&decide (x<4294967296)
theorem qag(l:List Int)(h:(Nat.ble l.length 160&&List.all l inU)=true):l.length<=160/\ ∀w∈l,U w:=by
 rw[aE]at h
 refine⟨lE h.1,λw hw=> ?_⟩
 have:=List.all_eq_true.1 h.2 w hw
 simp only[inU,aE,decide_eq_true_eq]at this
 exact this
theorem qe:(Q1j (cM (cM (cM (cM Z8u Z6k) (cM Z88 Z8p)) (cM (cM Z81 Z8c) (cM Z8b Z7w))) (cM (cM (cM Z7n Z7x) (cM Qv Qwm)) (cM (cM Qv9 Qvs) (cM Quy Qvq))))).1.length<=160/\ ∀w∈(Q1j (cM (cM (cM (cM Z8u Z6k) (cM Z88 Z8p)) (cM (cM Z81 Z8c) (cM Z8b Z7w))) (cM (cM (cM Z7n Z7x) (cM Qv Qwm)) (cM (cM Qv9 Qvs) (cM Quy Qvq))))).1,U w:=qag _ (by kernel_rfl)
end
theorem new_w(i:List Int)(hu: ∀w∈i,U w)(hl:i.length<=256):(Q8s 8 4 i).w (λx=>okM 8 x.1/\x.1.A1=0):=by
 unfold Q8s
 refine w_br (λh=>absurd h (by decide)) λ_=>w_br (λh=>absurd h (by decide)) λ_=>w_br (λh=>absurd h (by decide)) λ_=>w_br (λh=>absurd h (by decide)) λ_=>w_br (λh=> ?_) λ_=>w_lv λx0 e0=>w_an (Zfl _) (w_lv λx1 e1=> ?_)
 . have h:=oY h
   rw[show i64.wrap (8*32)=256 by decide]at h
   omega
 have hx:x1=cL 256 0:=by rw[e1];kernel_rfl
 have c0:Q2r x0:=by rw[e0];exact⟨by
   intro w hw
   simp only[Qq5,Qjy,Tree.m,A16.l,cN,cO,or_false,or_self]at hw
   rw[hw];exact U_0,U_0,by
   intro w hw
   simp only[Qq5,Qjy,Tree.m,A8.l,cN,cO,or_false,or_self]at hw
   rcases hw with rfl|rfl
   . exact⟨by omega,by omega⟩
   . exact U_0⟩
 have hz: ∀w∈x1,U w:=by rw[hx];exact U_all 256
 have hn:x1.length=256:=by rw[hx,cP]
 refine⟨⟨c0,⟨?_,by omega,by omega,λw hw=> ?_⟩,⟨U_0,U_0,U_0,U_0⟩,⟨U_0,U_0,U_0,U_0⟩,⟨U_0,U_0⟩,cQ _⟩,rfl⟩
 . simp only[lA,bD,bF,hn];omega
 . rcases List.mem_append.1 hw with h1|h1
   . exact hu w (cR h1)
   . exact hz w (cS h1)
theorem xe(kind:Int)(l:List Int)(hl:l.length*8<=reachBytes):(Q71 kind l).w (λx=> ∃Q,okM Q x):=by
  have hl':l.length*8<=140737488351232:=hl
  unfold Q71
  refine w_an (Qdx (by decide)) (w_lv λx0 _=>w_br (λ_=>w_an xaf (w_lv λx1 e1=> ?_)) (λ_=> ?_))
  . obtain⟨q1,q2⟩:x1.1.length<=160/\ ∀w∈x1.1,U w:=by rw[e1];exact qe
    refine w_lp (inv:=λv:List Int=>v.length<=160/\ ∀w∈v,U w) (μ:=Qe4 kind l) ⟨q1,q2⟩ (cK _) λv0 ⟨a1,a2⟩=> ?_
    refine w_br (λhb=> ?_) (λ_=> ?_)
    . have hb:=oY hb
      refine w_cn (dY (by omega)) (w_nx ?_)
      show(_/\_)/\(_:Nat)<_
      refine⟨⟨by rw[lA,cU];omega,λw hw=> ?_⟩,by show 160-(v0++[0]).length<160-v0.length;rw[lA,cU];omega⟩
      rcases List.mem_append.1 hw with h1|h1
      . exact a2 w h1
      . rw[List.mem_singleton.1 h1];exact U_0
    . refine Q0h (qd l hl) λx2 ⟨b1,b2⟩=>w_cn (dY (by omega)) ?_
      have hu: ∀w∈v0++x2,U w:=λw hw=>(List.mem_append.1 hw).elim (a2 w) (b2 w)
      refine w_br (λhb=> ?_) (λhb=> ?_)
      . have hb:=oY hb
        refine w_cn (by simp [bT];rw[lA]at hb;omega) (Q0h (new_w _ (λw hw=>hu w (cS (cR hw))) (by rw[bD];exact bH (cV _ _) (by decide))) λx3 ⟨c1,c2⟩=>w_br (λ_=>Q0h (Zl6 c1 (by omega)) λx4 hx=>hx) (λ_=>⟨8,c1⟩))
      . have hb:=oN hb
        exact Q0h (new_w _ hu (by omega)) λx3 ⟨c1,c2⟩=>w_br (λ_=>Q0h (Zl6 c1 (by omega)) λx4 hx=>hx) (λ_=>⟨8,c1⟩)
  . refine Q0h (qd l hl) λx2 ⟨b1,b2⟩=>w_cn (dY (by omega)) ?_
    refine w_br (λhb=> ?_) (λhb=> ?_)
    . have hb:=oY hb
      refine w_cn (by simp [bT];omega) (Q0h (new_w _ (λw hw=>b2 w (cS (cR hw))) (by rw[bD];exact bH (cV _ _) (by decide))) λx3 ⟨c1,c2⟩=>w_br (λ_=>Q0h (Zl6 c1 (by omega)) λx4 hx=>hx) (λ_=>⟨8,c1⟩))
    . have hb:=oN hb
      exact Q0h (new_w _ b2 (by omega)) λx3 ⟨c1,c2⟩=>w_br (λ_=>Q0h (Zl6 c1 (by omega)) λx4 hx=>hx) (λ_=>⟨8,c1⟩)
noncomputable section
def boot:List Int:=(Q1j (cM (cM (cM (cM Z8u Z6k) (cM Z88 Z8p)) (cM (cM Z81 Z8c) (cM Z8b Z7w))) (cM (cM (cM Z7n Z7x) (cM Qv Qwm)) (cM (cM Qv9 Qvs) (cM Quy Qvq))))).1
def Qkk:List Int:=boot++cL (160-boot.length) 0
theorem run87(t0 t1 t2 t3 t4 t5 t6 t7 t8 t9 t10 t11 t12 t13 t14 t15 t16 t17 t18 t19 t20 t21 t22 t23 t24 t25 t26 t27 t28 t29 t30 t31 t32 t33 t34 t35 t36 t37 t38 t39 t40 t41 t42 t43 t44 t45 t46 t47 t48 t49 t50 t51 t52 t53 t54 t55 t56 t57 t58 t59 t60 t61 t62 t63 t64 t65 t66 t67 t68 t69 t70 t71 t72 t73 t74 t75 t76 t77 t78 t79 t80 t81 t82 t83 t84 t85 t86 t87 t88 t89 t90 t91 t92 t93 t94 t95:Int):(Qev (Q20 8 4 (Qkk++[t0,t1,t2,t3,t4,t5,t6,t7,t8,t9,t10,t11,t12,t13,t14,t15,t16,t17,t18,t19,t20,t21,t22,t23,t24,t25,t26,t27,t28,t29,t30,t31,t32,t33,t34,t35,t36,t37,t38,t39,t40,t41,t42,t43,t44,t45,t46,t47,t48,t49,t50,t51,t52,t53,t54,t55,t56,t57,t58,t59,t60,t61,t62,t63,t64,t65,t66,t67,t68,t69,t70,t71,t72,t73,t74,t75,t76,t77,t78,t79,t80,t81,t82,t83,t84,t85,t86,t87,t88,t89,t90,t91,t92,t93,t94,t95])).1 [] 87).2.2.2=0:=by kernel_rfl
end
attribute [local irreducible] Q1j
theorem zag(i j:List Int)(hi:i.length<=256)(hj:j.length<=256)(e:i++cL (256-i.length) 0=j++cL (256-j.length) 0):Q20 8 4 i=Q20 8 4 j:=by
 have w:i64.wrap (8*32)=256:=by decide
 have m:Qu6 8=cL 256 0:=by kernel_rfl
 have d: ∀k:List Int,k.length<=256->decide ((k.length:Int)>256)=false:=λk h=>dN (by omega)
 have mem: ∀k:List Int,k.length<=256->cW (min k.length (cL 256 (0:Int)).length) k++cX (min k.length (cL 256 (0:Int)).length) (cL 256 0)=k++cL (256-k.length) 0:=λk h=>by
   rw[cP,Nat.min_eq_left h,List.take_length,List.drop_replicate]
 have r:Qu6 8=cL 256 0:=by kernel_rfl
 simp only[Q20,Q8s,Tree.m,w,letv,r,d i hi,d j hj]
 simp only[mem i hi,mem j hj,e]
theorem list96(t:List Int)(ht:t.length=96):t=[t.getD 0 0,t.getD 1 0,t.getD 2 0,t.getD 3 0,t.getD 4 0,t.getD 5 0,t.getD 6 0,t.getD 7 0,t.getD 8 0,t.getD 9 0,t.getD 10 0,t.getD 11 0,t.getD 12 0,t.getD 13 0,t.getD 14 0,t.getD 15 0,t.getD 16 0,t.getD 17 0,t.getD 18 0,t.getD 19 0,t.getD 20 0,t.getD 21 0,t.getD 22 0,t.getD 23 0,t.getD 24 0,t.getD 25 0,t.getD 26 0,t.getD 27 0,t.getD 28 0,t.getD 29 0,t.getD 30 0,t.getD 31 0,t.getD 32 0,t.getD 33 0,t.getD 34 0,t.getD 35 0,t.getD 36 0,t.getD 37 0,t.getD 38 0,t.getD 39 0,t.getD 40 0,t.getD 41 0,t.getD 42 0,t.getD 43 0,t.getD 44 0,t.getD 45 0,t.getD 46 0,t.getD 47 0,t.getD 48 0,t.getD 49 0,t.getD 50 0,t.getD 51 0,t.getD 52 0,t.getD 53 0,t.getD 54 0,t.getD 55 0,t.getD 56 0,t.getD 57 0,t.getD 58 0,t.getD 59 0,t.getD 60 0,t.getD 61 0,t.getD 62 0,t.getD 63 0,t.getD 64 0,t.getD 65 0,t.getD 66 0,t.getD 67 0,t.getD 68 0,t.getD 69 0,t.getD 70 0,t.getD 71 0,t.getD 72 0,t.getD 73 0,t.getD 74 0,t.getD 75 0,t.getD 76 0,t.getD 77 0,t.getD 78 0,t.getD 79 0,t.getD 80 0,t.getD 81 0,t.getD 82 0,t.getD 83 0,t.getD 84 0,t.getD 85 0,t.getD 86 0,t.getD 87 0,t.getD 88 0,t.getD 89 0,t.getD 90 0,t.getD 91 0,t.getD 92 0,t.getD 93 0,t.getD 94 0,t.getD 95 0]:=by
 apply bM
 . rw[ht];rfl
 . intro i h1 h2
   have e: ∀j (hj:j<96),[t.getD 0 0,t.getD 1 0,t.getD 2 0,t.getD 3 0,t.getD 4 0,t.getD 5 0,t.getD 6 0,t.getD 7 0,t.getD 8 0,t.getD 9 0,t.getD 10 0,t.getD 11 0,t.getD 12 0,t.getD 13 0,t.getD 14 0,t.getD 15 0,t.getD 16 0,t.getD 17 0,t.getD 18 0,t.getD 19 0,t.getD 20 0,t.getD 21 0,t.getD 22 0,t.getD 23 0,t.getD 24 0,t.getD 25 0,t.getD 26 0,t.getD 27 0,t.getD 28 0,t.getD 29 0,t.getD 30 0,t.getD 31 0,t.getD 32 0,t.getD 33 0,t.getD 34 0,t.getD 35 0,t.getD 36 0,t.getD 37 0,t.getD 38 0,t.getD 39 0,t.getD 40 0,t.getD 41 0,t.getD 42 0,t.getD 43 0,t.getD 44 0,t.getD 45 0,t.getD 46 0,t.getD 47 0,t.getD 48 0,t.getD 49 0,t.getD 50 0,t.getD 51 0,t.getD 52 0,t.getD 53 0,t.getD 54 0,t.getD 55 0,t.getD 56 0,t.getD 57 0,t.getD 58 0,t.getD 59 0,t.getD 60 0,t.getD 61 0,t.getD 62 0,t.getD 63 0,t.getD 64 0,t.getD 65 0,t.getD 66 0,t.getD 67 0,t.getD 68 0,t.getD 69 0,t.getD 70 0,t.getD 71 0,t.getD 72 0,t.getD 73 0,t.getD 74 0,t.getD 75 0,t.getD 76 0,t.getD 77 0,t.getD 78 0,t.getD 79 0,t.getD 80 0,t.getD 81 0,t.getD 82 0,t.getD 83 0,t.getD 84 0,t.getD 85 0,t.getD 86 0,t.getD 87 0,t.getD 88 0,t.getD 89 0,t.getD 90 0,t.getD 91 0,t.getD 92 0,t.getD 93 0,t.getD 94 0,t.getD 95 0][j]'hj=t.getD j 0:=by
     intro j hj
     have:[t.getD 0 0,t.getD 1 0,t.getD 2 0,t.getD 3 0,t.getD 4 0,t.getD 5 0,t.getD 6 0,t.getD 7 0,t.getD 8 0,t.getD 9 0,t.getD 10 0,t.getD 11 0,t.getD 12 0,t.getD 13 0,t.getD 14 0,t.getD 15 0,t.getD 16 0,t.getD 17 0,t.getD 18 0,t.getD 19 0,t.getD 20 0,t.getD 21 0,t.getD 22 0,t.getD 23 0,t.getD 24 0,t.getD 25 0,t.getD 26 0,t.getD 27 0,t.getD 28 0,t.getD 29 0,t.getD 30 0,t.getD 31 0,t.getD 32 0,t.getD 33 0,t.getD 34 0,t.getD 35 0,t.getD 36 0,t.getD 37 0,t.getD 38 0,t.getD 39 0,t.getD 40 0,t.getD 41 0,t.getD 42 0,t.getD 43 0,t.getD 44 0,t.getD 45 0,t.getD 46 0,t.getD 47 0,t.getD 48 0,t.getD 49 0,t.getD 50 0,t.getD 51 0,t.getD 52 0,t.getD 53 0,t.getD 54 0,t.getD 55 0,t.getD 56 0,t.getD 57 0,t.getD 58 0,t.getD 59 0,t.getD 60 0,t.getD 61 0,t.getD 62 0,t.getD 63 0,t.getD 64 0,t.getD 65 0,t.getD 66 0,t.getD 67 0,t.getD 68 0,t.getD 69 0,t.getD 70 0,t.getD 71 0,t.getD 72 0,t.getD 73 0,t.getD 74 0,t.getD 75 0,t.getD 76 0,t.getD 77 0,t.getD 78 0,t.getD 79 0,t.getD 80 0,t.getD 81 0,t.getD 82 0,t.getD 83 0,t.getD 84 0,t.getD 85 0,t.getD 86 0,t.getD 87 0,t.getD 88 0,t.getD 89 0,t.getD 90 0,t.getD 91 0,t.getD 92 0,t.getD 93 0,t.getD 94 0,t.getD 95 0]=(cY 96).map (λk=>t.getD k 0):=rfl
     simp only[this,List.getElem_map,List.getElem_range]
   rw[e i (by omega),cZ,cG h1]
   rfl
theorem qaE(t:List Int)(ht:t.length=96):(Qev (Q20 8 4 (Qkk++t)).1 [] 87).2.2.2=0:=by
 rw[list96 t ht]
 exact run87 _ _ _ _ _ _ _ _ _ _ _ _ _ _ _ _ _ _ _ _ _ _ _ _ _ _ _ _ _ _ _ _ _ _ _ _ _ _ _ _ _ _ _ _ _ _ _ _ _ _ _ _ _ _ _ _ _ _ _ _ _ _ _ _ _ _ _ _ _ _ _ _ _ _ _ _ _ _ _ _ _ _ _ _ _ _ _ _ _ _ _ _ _ _ _ _
theorem xag:Qkk.length=160:=by
 have h:boot.length<=160:=qe.1
 unfold Qkk
 rw[lA,cP];omega
def out(f:Int)(m m':List Int):Prop:= ∀j:Nat,¬(f*32<=j/\(j:Int)<f*32+32)->m'.getD j 0=m.getD j 0
theorem Qpl(f:Int)(m:List Int):out f m m:=λ_ _=>rfl
theorem getDset(l:List Int)(i j:Nat)(v:Int)(h:i≠j):(l.set i v).getD j 0=l.getD j 0:=by
 simp only[cZ,List.getElem?_set_ne h]
theorem Q3v{P:Nat}{m:List Int}(h:Q15 P m):Q1 m=P:=by
 obtain⟨h1,h2,h3,_⟩:=h
 simp only[Q1,Q8k,Tree.m]
 have e:(m.length:Int)=32*P:=by omega
 rw[e]
 have e1:(dA (32*(P:Int)) 32 !=0)=false:=by simp [Int.mul_tmod_right]
 have e2:decide ((32*(P:Int))>1024)=false:=dN (by omega)
 rw[e1,e2]
 simp only[cond_false]
 rw[Int.mul_tdiv_cancel_left _ (by decide),wrap_i64];omega
theorem xY{P:Nat}{m:List Int}(h:Q15 P m)(f:Int):Q5d m f=true->0<=f/\f<P:=by
 have hp:=Q3v h
 simp only[Q5d,Q8e,Tree.m,letv,hp]
 cases h1:decide (f>=0)
 . intro h;cases h
 . intro h;exact⟨oY h1,oY h⟩
theorem Z33{P:Nat}{m:List Int}(h:Q15 P m)(f:Int)(s:List UInt8):(Q3p m f s).w (λr=>Q15 P r.1/\out f m r.1/\(r.2=false->r.1=m)):=by
 have hcl:Q03 m=m:=rfl
 have h2:=h.p2
 unfold Q3p
 refine w_an (Q9j h) (w_lv λx0 hx0=>w_lv λx1 hx1=> ?_)
 rw[hcl]at hx0;subst hx0
 refine w_br (λ_=>⟨h,Qpl _ _,λ_=>rfl⟩) λhb=>w_br (λ_=>⟨h,Qpl _ _,λ_=>rfl⟩) λhs=> ?_
 have hb:x1=true:=by simpa using hb
 obtain⟨f0,f1⟩:=xY h f (hx1.symm.trans hb)
 have hs:(s.length:Int)=128:=by simpa using hs
 refine w_lp (inv:=λz:Int×List Int=>0<=z.1/\z.1<=32/\Q15 P z.2/\out f x0 z.2) (μ:=Qb4 x0 f s) ⟨show(0:Int)<=0 by decide,show(0:Int)<=32 by decide,h,Qpl _ _⟩ (cK _) λz ⟨z1,z2,z3,z4⟩=> ?_
 refine w_br (λhb=> ?_) (λ_=>⟨z3,z4,λh=>by cases h⟩)
 have hb:=oY hb
 have e1:i64.wrap (4*z.1)=4*z.1:=by rw[wrap_i64];omega
 have e2:i64.wrap (i64.wrap (4*z.1)+4)=4*z.1+4:=by rw[wrap_i64,wrap_i64];omega
 have e3:i64.wrap (i64.wrap (f*32)+z.1)=f*32+z.1:=by rw[wrap_i64,wrap_i64];omega
 have hl:=z3.len
 have hlen:(cW (dB (i64.wrap (i64.wrap (4*z.1)+4))-dB (i64.wrap (4*z.1))) (cX (dB (i64.wrap (4*z.1))) s)).length=4:=by
   rw[e2,e1,bD,bF];omega
 refine w_cn (dY (by rw[e2,e1];omega)) ?_
 refine w_cn (dY (by rw[hlen];decide)) (w_cn (dY (by rw[hlen];decide)) (w_cn (dY (by rw[hlen];decide)) (w_cn (dY (by rw[hlen];decide)) (w_cn (by rw[e3];simp [bT];omega) (w_nx ?_)))))
 show(_/\_/\Q15 P (dC _ _ _)/\out f x0 (dC _ _ _))/\(_:Nat)<_
 have ew:i64.wrap (z.1+1)=z.1+1:=by rw[wrap_i64];omega
 rw[e3]
 refine⟨⟨by rw[ew];omega,by rw[ew];omega,⟨by rw[dD];exact hl,z3.p1,z3.p2,Z4p z3.u (U_or _ _) _⟩,λj hj=> ?_⟩,by show(32-i64.wrap (z.1+1)).toNat<(32-z.1).toNat;rw[ew];omega⟩
 rw[getDset _ _ _ _ (by omega)]
 exact z4 j hj
theorem zaE(w:List Int)(h:w.length<=32):(Q59 w).w (λr=>r.length=4*w.length):=by
 have e0:i64.wrap (4*(w.length:Int))=4*w.length:=by rw[wrap_i64];omega
 unfold Q59
 refine w_cn (by rw[e0];simp [bT,D.plain];omega) ?_
 refine w_lp (inv:=λz:Int×List Int=>0<=z.1/\z.1<=w.length/\(z.2.length:Int)=4*z.1) (μ:=Q7m w) ⟨by decide,by show(0:Int)<=w.length;omega,rfl⟩ (cK _) λz ⟨z1,z2,z3⟩=> ?_
 refine w_br (λhb=> ?_) (λhb=> ?_)
 . have hb:=oY hb
   have ew:i64.wrap (z.1+1)=z.1+1:=by rw[wrap_i64];omega
   refine w_cn (by simp [bT];omega) (w_cn (dY (by omega)) (w_nx ?_))
   show(_/\_/\_)/\(_:Nat)<_
   refine⟨⟨by rw[ew];omega,by rw[ew];omega,by rw[ew,lA];simp only[dE,dF];omega⟩,by show(w.length-i64.wrap (z.1+1)).toNat<(w.length-z.1).toNat;rw[ew];omega⟩
 . have hb:=oN hb
   show(bytesOf z.2).length=_
   rw[Qim];omega
theorem Zic{P:Nat}{m:List Int}(h:Q15 P m)(f:Int):(Q6w m f).w (λr=>0<=f->f<P->r.1.length=128):=by
 have hl:=h.len
 have h2:=h.p2
 unfold Q6w
 refine w_lv λx0 hx0=>w_br (λhb=>λf0 f1=> ?_) (λhb=> ?_)
 . have hp:=Q3v h
   have hb:x0=false:=by simpa using hb
   rw[hb]at hx0
   simp only[Q5d,Q8e,Tree.m,letv,hp]at hx0
   rw[dY f0]at hx0
   exact absurd f1 (oN hx0.symm)
 . have hb:x0=true:=by simpa using hb
   obtain⟨f0,f1⟩:=xY h f (hx0.symm.trans hb)
   have e1:i64.wrap (f*32)=f*32:=by rw[wrap_i64];omega
   have e2:i64.wrap (i64.wrap (f*32)+32)=f*32+32:=by rw[wrap_i64,wrap_i64];omega
   have hlen:(cW (dB (i64.wrap (i64.wrap (f*32)+32))-dB (i64.wrap (f*32))) (cX (dB (i64.wrap (f*32))) m)).length=32:=by
     rw[e2,e1,bD,bF];omega
   refine w_cn (by rw[e2,e1];simp [bT];omega) ?_
   refine w_an (by show dG _<=1000000000000;rw[hlen];decide) (w_lv λx1 h1=> ?_)
   have h1:x1.length=4*(cW (dB (i64.wrap (i64.wrap (f*32)+32))-dB (i64.wrap (f*32))) (cX (dB (i64.wrap (f*32))) m)).length:=by rw[h1];exact(Tree.pp (zaE _ (dH hlen))).2
   intro _ _
   show x1.length=128
   rw[h1,hlen]
theorem Zl2{f:Int}(hf:U f){P:Nat}(hP:P<=32)(h:decide (u64.wrap f<u64.wrap (P:Int))=true):0<=f/\f<P:=by
 have h:=oY h
 obtain⟨h1,h2⟩:=hf
 rw[wrap_u64,wrap_u64,dI h1 (by omega),dI (by omega) (by omega)]at h
 exact⟨h1,h⟩
theorem Zod{P:Nat}{m:List Int}(h:Q15 P m){d:Q0f}(hd:Q91 d)(e:Q0a):(Q7u d m e).w (λr=>Q91 r.1/\Q15 P r.2.1/\out d.B3 m r.2.1/\(r.2.2=false->r.2.1=m)/\(∀p,Q1l d p=true->Q1l r.1 p=true)):=by
 have hcl:Q03 m=m:=rfl
 have keep: ∀b:Bool,Q91 d/\Q15 P m/\out d.B3 m m/\(b=false->m=m)/\(∀p,Q1l d p=true->Q1l d p=true):=λb=>⟨hd,h,Qpl _ _,λ_=>rfl,λ_ h=>h⟩
 have blk: ∀{p:Int},Q1l d p=true->decide (d.Blocks>64)=false:=fun{p} hm=>by
   cases hb:decide (d.Blocks>64)
   . rfl
   . have:Q1l d p=false:=by simp only[Q1l,Q6b,Tree.m];rw[hb];rfl
     rw[this]at hm;cases hm
 have m2: ∀p,Q1l d p=true->Q1l {Blocks:=d.Blocks,C2:=d.C2,Frame:=d.Frame,C0:=2,D8:=0,B7:=0,B3:=0,C4:=[]} p=true:=λp hm=>by
   simp only[Q1l,Q6b,Tree.m];rw[blk hm];rfl
 have m3: ∀p,Q1l d p=true->Q1l {Blocks:=d.Blocks,C2:=d.C2,Frame:=d.Frame,C0:=3,D8:=0,B7:=0,B3:=0,C4:=[]} p=true:=λp hm=>by
   simp only[Q1l,Q6b,Tree.m];rw[blk hm];rfl
 unfold Q7u
 refine w_br (λ_=>w_an (Q9j h) (w_lv λx hx=>by rw[hcl]at hx;subst hx;exact keep _)) λ_=>w_br (λ_=>w_an (Q9j h) (w_lv λx hx=>by rw[hcl]at hx;subst hx;exact keep _)) λ_=>w_br (λ_=>w_an (Q9j h) (w_lv λx hx=>by rw[hcl]at hx;subst hx;exact keep _)) λ_=>w_an (Q9j h) (w_lv λx3 hx3=> ?_)
 rw[hcl]at hx3;subst hx3
 have fin: ∀{m':List Int},Q15 P m'->out d.B3 x3 m'->(Tree.br (e.N==1) (.lf (({Blocks:=d.Blocks,C2:=d.C2,Frame:=d.Frame,C0:=2,D8:=0,B7:=0,B3:=0,C4:=[]}:Q0f),m',true)) (.lf (({Blocks:=d.Blocks,C2:=d.C2,Frame:=d.Frame,C0:=3,D8:=0,B7:=0,B3:=0,C4:=[]}:Q0f),m',true))).w (λr=>Q91 r.1/\Q15 P r.2.1/\out d.B3 x3 r.2.1/\(r.2.2=false->r.2.1=x3)/\(∀p,Q1l d p=true->Q1l r.1 p=true)):=λhm ho=>
   w_br (λ_=>⟨⟨hd.block,hd.frame,U_0,U_0⟩,hm,ho,(λh=>by cases h),m2⟩) (λ_=>⟨⟨hd.block,hd.frame,U_0,U_0⟩,hm,ho,(λh=>by cases h),m3⟩)
 have nod:(Tree.br (!decide (e.C9=[])) (.lf (d,x3,false)) (Tree.br (e.N==1) (.lf (({Blocks:=d.Blocks,C2:=d.C2,Frame:=d.Frame,C0:=2,D8:=0,B7:=0,B3:=0,C4:=[]}:Q0f),x3,true)) (.lf (({Blocks:=d.Blocks,C2:=d.C2,Frame:=d.Frame,C0:=3,D8:=0,B7:=0,B3:=0,C4:=[]}:Q0f),x3,true)))).w (λr=>Q91 r.1/\Q15 P r.2.1/\out d.B3 x3 r.2.1/\(r.2.2=false->r.2.1=x3)/\(∀p,Q1l d p=true->Q1l r.1 p=true)):=
   w_br (λ_=>keep _) (λ_=>fin h (Qpl _ _))
 refine w_br (λ_=>w_br (λ_=>w_lv λx4 hx4=>w_br (λ_=>keep _) λhb=> ?_) (λ_=>nod)) (λ_=>nod)
 have hp:=Q3v h
 have hb:x4=true:=by simpa using hb
 rw[hb]at hx4
 simp only[Q9k,Qe6,Tree.m,letv,hp]at hx4
 obtain⟨f0,f1⟩:=Zl2 hd.opFrame h.p2 hx4.symm
 have ef:i64.wrap d.B3=d.B3:=by have:=h.p2;rw[wrap_i64];omega
 refine Q0h (Z33 h _ _) λx5 ⟨h5,o5,k5⟩=> ?_
 rw[ef]at o5
 exact w_br (λhf=>⟨hd,h5,o5,λ_=>k5 (by simpa using hf),λ_ h=>h⟩) (λ_=>fin h5 o5)
theorem ye{P:Nat}{m:List Int}(h:Q15 P m){n:Q0q}(hn:Qjm n)(frame:List UInt8):(Qak n m frame).w (λr=>Qjm r.1/\Q15 P r.2.1/\out n.B9 m r.2.1/\(r.2.2=false->r.2.1=m)/\(∀p,Q69 n p=true->Q69 r.1 p=true)):=by
 have hcl:Q03 m=m:=rfl
 have keep:Qjm n/\Q15 P m/\out n.B9 m m/\(false=false->m=m)/\(∀p,Q69 n p=true->Q69 n p=true):=⟨hn,h,Qpl _ _,λ_=>rfl,λ_ h=>h⟩
 unfold Qak
 refine w_br (λ_=>w_an (Q9j h) (w_lv λx hx=>by rw[hcl]at hx;subst hx;exact keep)) λhpo=>w_br (λ_=>w_an (Q9j h) (w_lv λx hx=>by rw[hcl]at hx;subst hx;exact keep)) λl1=>w_br (λ_=>w_an (Q9j h) (w_lv λx hx=>by rw[hcl]at hx;subst hx;exact keep)) λl2=>w_lv λx3 hx3=>w_br (λ_=>w_an (Q9j h) (w_lv λx hx=>by rw[hcl]at hx;subst hx;exact keep)) λhb=> ?_
 have l1:=oN l1
 have l2:=oN l2
 have hp:=Q3v h
 have hb:x3=true:=by simpa using hb
 rw[hb]at hx3
 simp only[Qan,Qfv,Tree.m,letv,hp]at hx3
 obtain⟨f0,f1⟩:=Zl2 hn.buffer h.p2 hx3.symm
 have ef:i64.wrap n.B9=n.B9:=by have:=h.p2;rw[wrap_i64];omega
 refine Q0h (Zic h _) λx5 h5=> ?_
 rw[ef]at h5
 have h5:=h5 f0 f1
 have hmax:(maxLen:Nat)=9223372036854775807:=rfl
 refine w_cn (dY (by omega)) (w_cn (dY (by simp only[bD,bF,hmax];omega)) (Q0h (Z33 h _ _) λx6 ⟨h6,o6,_⟩=> ?_))
 rw[ef]at o6
 have hg:u32.wrap (frame.length:Int)=frame.length:=by rw[wrap_u32];omega
 refine⟨⟨hn.frame,hn.len,U_0,Q0v _⟩,h6,o6,(λh=>by cases h),λp _=> ?_⟩
 simp only[Q69,Ql8,Tree.m]
 rw[hg,dY (show(frame.length:Int)>=1 by omega),dY (show(frame.length:Int)<=128 by omega)]
 rfl
theorem qah(c:Q0d)(b:Int):(Qb9 c b).w (λr=>Q2l c=true->Q2l r.1=true):=by
 have hmax:(maxLen:Nat)=9223372036854775807:=rfl
 unfold Qb9
 refine w_br (λ_=>λh=>h) (λhb=> ?_)
 have hb:=oN hb
 refine w_cn (dY (by rw[hmax];omega)) ?_
 intro _
 show decide (((c.D3++[_]).length:Int)<=16)=true
 rw[lA,cU]
 exact dY (by omega)
theorem vG(t:Q0i)(h:Q4h t=true):Q4h (Qlr t).1=true:=by
 simp only[Qlr,Qpa,Tree.m]
 cases ha:t.D2
 . exact h
 . rfl
theorem qf(m:Q00):Q10 m=(Q2l m.A4&&(Q4h m.B0&&(Q1l m.B2 (Q1 m.Mem)&&(Q69 m.C6 (Q1 m.Mem)&&Q2w m.A2 (Q1 m.Mem))))):=by
 simp only[Q10,Q1w,Tree.m,letv]
 cases Q2l m.A4<;>cases Q4h m.B0<;>cases Q1l m.B2 (Q1 m.Mem)<;>cases Q69 m.C6 (Q1 m.Mem)<;>rfl
theorem xaE{b c:Q09}(h:c.C3=b.C3)(p:Int):Q2w c p=Q2w b p:=by
 simp only[Q2w,Q46,Tree.m,h]
theorem cnd{a x y:Bool}(h:x=true->y=true):(bif a then false else x)=true->(bif a then false else y)=true:=by cases a<;>simp_all
def chain(b1 b2 b3 b4 b5 b6 b7 w h dev:Bool):Bool:=bif b1 then false else bif b2 then false else bif b3 then false else bif b4 then false else bif b5 then false else bif b6 then false else bif b7 then false else bif w then(bif h then false else dev) else dev
theorem Zmv{b1 b2 b3 b4 b5 b6 b7 w h d d':Bool}(hd:d=true->d'=true):chain b1 b2 b3 b4 b5 b6 b7 w h d=true->chain b1 b2 b3 b4 b5 b6 b7 w h d'=true:=by
 refine cnd (cnd (cnd (cnd (cnd (cnd (cnd ?_))))))
 cases w
 . exact hd
 . cases h
   . exact hd
   . exact λh=>h
def mayC(p:Int)(c:Q05)(ct:Int)(w h dev:Bool):Bool:=chain (p==0) (c.X.a0 !=0) (decide (c.B5.a0>31)) (decide (c.B5.a7>31)) (decide (c.B5.a6>255)) (dA c.B5.a1 4 !=0) (decide (ct>1152921504606846976)) w h dev
theorem xf{p:Int}{c:Q05}{ct:Int}{w h d d':Bool}(hd:d=true->d'=true)(g:mayC p c ct w h d=true):mayC p c ct w h d'=true:=Zmv hd g
theorem zY(m:Q00):Q1a m=mayC (Q1 m.Mem) m.B1 m.A1 m.A7 m.A9 (Q10 m):=rfl
theorem Qsh{m n:Q00}(hp:Q1 n.Mem=Q1 m.Mem)(hcpu:n.B1=m.B1)(hct:n.A1=m.A1)(hw:n.A7=m.A7)(hh:n.A9=m.A9)
   (hc:Q2l m.A4=true->Q2l n.A4=true) (ht:Q4h m.B0=true->Q4h n.B0=true) (hd: ∀p,Q1l m.B2 p=true->Q1l n.B2 p=true) (hn: ∀p,Q69 m.C6 p=true->Q69 n.C6 p=true) (hb:n.A2.C3=m.A2.C3) (h:Q1a m=true):Q1a n=true:=by
 have dev:Q10 m=true->Q10 n=true:=λh=>by
   rw[qf]at h⊢
   simp only[aE]at h⊢
   rw[hp,xaE hb]
   exact⟨hc h.1,ht h.2.1,hd _ h.2.2.1,hn _ h.2.2.2.1,h.2.2.2.2⟩
 rw[zY]at h⊢
 rw[hp,hcpu,hct,hw,hh]
 exact xf dev h
section
variable {P:Nat} {m:List Int} (h:Q15 P m)
include h
theorem dpage{f:Int}(hf:U f){b:Bool}(hx:b=Q9k m f)(hb:b=true):0<=f/\f<P:=by
 have hp:=Q3v h
 rw[hb]at hx
 simp only[Q9k,Qe6,Tree.m,letv,hp]at hx
 exact Zl2 hf h.p2 hx.symm
theorem npage{f:Int}(hf:U f){b:Bool}(hx:b=Qan m f)(hb:b=true):0<=f/\f<P:=by
 have hp:=Q3v h
 rw[hb]at hx
 simp only[Qan,Qfv,Tree.m,letv,hp]at hx
 exact Zl2 hf h.p2 hx.symm
def keepD(P:Nat)(d d':Q0f):Prop:=Q91 d'/\(Q1l d P=true->Q1l d' P=true)
theorem zf{d:Q0f}(hd:Q91 d){cmd:Int}(hc:cmd=1\/cmd=2)(at0:Int):(Qcy d m cmd at0).w (λr=>keepD P d r.1/\r.2.length<=1):=by
 have h2:=h.p2
 have st3:(d.C0 !=0)=false->keepD P d {Blocks:=d.Blocks,C2:=d.C2,Frame:=d.Frame,C0:=3,D8:=d.D8,B7:=d.B7,B3:=d.B3,C4:=d.C4}:=λhs=>by
   have hs:d.C0=0:=by simpa using hs
   refine⟨⟨hd.block,hd.frame,hd.opBlock,hd.opFrame⟩,λhm=> ?_⟩
   simp only[Q1l,Q6b,Tree.m,hs]at hm⊢
   exact hm
 have blk:Q1l d P=true->decide (d.Blocks>64)=false:=λhm=>by
   cases hb:decide (d.Blocks>64)
   . rfl
   . have:Q1l d P=false:=by simp only[Q1l,Q6b,Tree.m];rw[hb];rfl
     rw[this]at hm;cases hm
 unfold Qcy
 refine w_br (λ_=>⟨⟨hd,λh=>h⟩,aT _⟩) λhs=>w_br (λ_=>⟨st3 hs,aT _⟩) λhb=>w_lv λx0 hx=>w_br (λ_=>⟨st3 hs,aT _⟩) λhp=> ?_
 have hb:=oN hb
 obtain⟨f0,f1⟩:=dpage h hd.frame hx (by simpa using hp)
 have ef:i64.wrap d.Frame=d.Frame:=by rw[wrap_i64];omega
 have e1:decide (d.C2<d.Blocks)=true:=dY (by omega)
 have e2:decide (i64.wrap d.Frame<(P:Int))=true:=by rw[ef];exact dY f1
 refine w_br (λhcm=>Q0h (Zic h _) λx1 h1=> ?_) (λhcm=> ?_)
 . rw[ef]at h1
   have h1:=h1 f0 f1
   have hcm:=eq_of_beq hcm
   subst hcm
   refine w_lv λx2 _=>⟨⟨⟨hd.block,hd.frame,hd.block,hd.frame⟩,λhm=> ?_⟩,aO _⟩
   simp only[Q1l,Q6b,Qa0,Q7v,Tree.m,letv,blk hm,e1,e2,h1]
   rfl
 . have hc:cmd=1:=by
     rcases hc with h|h
     . exact h
     . rw[h]at hcm;exact absurd hcm (by decide)
   subst hc
   refine w_lv λx2 _=>⟨⟨⟨hd.block,hd.frame,hd.block,hd.frame⟩,λhm=> ?_⟩,aO _⟩
   simp only[Q1l,Q6b,Qa0,Q7v,Tree.m,letv,blk hm,e1,e2]
   rfl
theorem zah{d:Q0f}(hd:Q91 d)(port:Int){v:Int}(hv:U v)(at0:Int):(Qhr d m port v at0).w (λr=>keepD P d r.1/\r.2.length<=1):=by
 have keep:keepD P d d:=⟨hd,λh=>h⟩
 have e1: ∀{k:Int},(v==k)=true->i64.wrap v=k:=λhk=>by
   have:=eq_of_beq hk
   obtain⟨a,b⟩:=hv
   rw[wrap_i64];omega
 unfold Qhr
 refine w_br (λ_=>⟨⟨⟨hv,hd.frame,hd.opBlock,hd.opFrame⟩,λh=>h⟩,aT _⟩) λ_=>w_br (λ_=>⟨⟨⟨hd.block,hv,hd.opBlock,hd.opFrame⟩,λh=>h⟩,aT _⟩) λ_=>w_br (λ_=>w_br (λhk=>Q0h (zf h hd (.inl (e1 hk)) _) λx hx=>hx) λ_=>w_br (λhk=>Q0h (zf h hd (.inr (e1 hk)) _) λx hx=>hx) λ_=>w_br (λ_=>w_lv λx hx=>w_br (λhb=> ?_) (λ_=>⟨keep,aT _⟩)) (λ_=>⟨keep,aT _⟩)) (λ_=>⟨keep,aT _⟩)
 refine⟨⟨⟨hd.block,hd.frame,hd.opBlock,hd.opFrame⟩,λhm=> ?_⟩,aT _⟩
 rw[hb]at hx
 simp only[Q9p,Qkf,Tree.m]at hx
 cases h2:d.C0==2
 . rw[h2]at hx
   have h3:d.C0=3:=eq_of_beq hx.symm
   simp only[Q1l,Q6b,Tree.m,h3]at hm⊢
   exact hm
 . have h3:d.C0=2:=eq_of_beq h2
   simp only[Q1l,Q6b,Tree.m,h3]at hm⊢
   exact hm
def keepN(P:Nat)(n n':Q0q):Prop:=Qjm n'/\(Q69 n P=true->Q69 n' P=true)
theorem qaF{n:Q0q}(hn:Qjm n)(at0:Int):(Qho n m at0).w (λr=>r.length<=1):=by
 have h2:=h.p2
 unfold Qho
 refine w_br (λ_=>aT _) λl1=>w_br (λ_=>aT _) λl2=>w_lv λx0 hx=>w_br (λ_=>aT _) λhp=>Q0h (Zic h _) λx1 h1=> ?_
 have l1:=oN l1
 have l2:=oN l2
 obtain⟨f0,f1⟩:=npage h hn.frame hx (by simpa using hp)
 have ef:i64.wrap n.Frame=n.Frame:=by rw[wrap_i64];omega
 rw[ef]at h1
 have h1:=h1 f0 f1
 exact w_cn (dY (by omega)) (aO _)
theorem zaF{n:Q0q}(hn:Qjm n)(port:Int){v:Int}(hv:U v)(at0:Int):(Ql9 n m port v at0).w (λr=>keepN P n r.1/\r.2.length<=1):=by
 have h2:=h.p2
 have keep:keepN P n n:=⟨hn,λh=>h⟩
 unfold Ql9
 refine w_br (λ_=>⟨⟨⟨hv,hn.len,hn.buffer,hn.got⟩,λh=>h⟩,aT _⟩) λ_=>w_br (λ_=>⟨⟨⟨hn.frame,hv,hn.buffer,hn.got⟩,λh=>h⟩,aT _⟩) λ_=>w_br (λ_=>w_br (λ_=>Q0h (qaF h hn _) λx hx=>⟨keep,hx⟩) λ_=>w_br (λ_=>w_lv λx hx=>w_br (λhb=>w_br (λnp=>w_br (λnr=> ?_) (λ_=>⟨keep,aT _⟩)) (λ_=>⟨keep,aT _⟩)) (λ_=>⟨keep,aT _⟩)) λ_=>w_br (λ_=> ?_) (λ_=>⟨keep,aT _⟩)) (λ_=>⟨keep,aT _⟩)
 . obtain⟨f0,f1⟩:=npage h hn.frame hx hb
   have np:n.C7=false:=by simpa using np
   have nr:n.B8=false:=by simpa using nr
   have e2:decide (i64.wrap n.Frame>=(P:Int))=false:=dN (by rw[wrap_i64];omega)
   refine⟨⟨⟨hn.frame,hn.len,hn.frame,hn.got⟩,λhm=> ?_⟩,aT _⟩
   simp only[Q69,Ql8,Tree.m,np,nr,e2]at hm⊢
   cases hb:(n.B9 !=0)
   . rw[hb]at hm;exact hm
   . rw[hb]at hm;cases hm
 . refine⟨⟨⟨hn.frame,hn.len,hn.buffer,U_0⟩,λhm=> ?_⟩,aT _⟩
   simp only[Q69,Ql8,Tree.m]at hm⊢
   revert hm
   cases n.C7<;>cases n.B8<;>cases decide (i64.wrap n.B9>=(P:Int))<;>cases(n.B9 !=0)<;>simp
end
theorem xah(t:Q0i)(v:Int):Q4h (Qlc t v)=true:=by
 simp only[Qlc,Qmn,Q4h,Qm2,Tree.m]
 cases h:(v !=0)
 . have:v=0:=by simpa using h
   subst this;rfl
 . rfl
theorem Qr{a:Int}(k:Nat)(hk:k<=32):ishr .u32 a k=a/2^k:=by
 unfold ishr
 have e:min (k:Int).toNat u32.bits=k:=by show min (k:Int).toNat 32=k;omega
 have hp:(0:Int)<2^k:=dJ (by decide)
 rw[e,dK _ (dL hp)]
def Zn7(x:Int)(n:Nat):Prop:=x<2^n/\(n=0\/(2:Int)^(n-1)<=x)
theorem Zbo{x q:Int}{n k:Nat}(hq:q=x/2^k)(h0:0<q)(h:Zn7 q n):Zn7 x (n+k):=by
 have hp:(0:Int)<2^k:=dJ (by decide)
 obtain⟨h1,h2⟩:=h
 have hn:n≠0:=λe=>by subst e;simp at h1;omega
 refine⟨?_, .inr ?_⟩
 . rw[dM]
   have:x<(x/2^k+1)*2^k:=Int.lt_ediv_add_one_mul_self x hp
   have h3:(x/2^k+1)*2^k<=2^n*2^k:=dO (by omega) (dL hp)
   omega
 . have h2:=h2.resolve_left hn
   have e:n+k-1=(n-1)+k:=by omega
   rw[e,dM]
   have h3:(2:Int)^(n-1)*2^k<=q*2^k:=dO h2 (dL hp)
   have h4:q*2^k<=x:=by rw[hq];exact Int.ediv_mul_le x (Int.ne_of_gt hp)
   omega
theorem qH{x:Int}{n p:Nat}(h:Zn7 x n)(hx:x<2^p):n<=p:=by
  obtain⟨h1,h2⟩:=h
  rcases h2 with h2|h2
  . omega
  . rcases Nat.lt_or_ge p n with hlt|hge
    . have:(2:Int)^p<=2^(n-1):=by
        have:=dP (show 0<2 by omega) (show p<=n-1 by omega)
        exact_mod_cast this
      omega
    . exact hge
theorem Zh0{x:Int}{n p:Nat}(h:Zn7 x n)(hn:n<=p):x<2^p:=by
 have:(2:Int)^n<=2^p:=by
   have:=dP (show 0<2 by omega) hn
   exact_mod_cast this
 exact Int.lt_of_lt_of_le h.1 this
def lenChk(i:Nat):Bool:=match(Q1p (i:Int)) with
 | .ofNat n=>decide ((i:Int)<2^n)&&(bS n 0||decide ((2:Int)^(n-1)<=i))&&decide (n<=8)
 |_=>false
theorem Qtq{q:Int}(h0:0<=q)(h1:q<256): ∃n:Nat,Q1p q=n/\Zn7 q n/\n<=8:=by
 have all:List.all (cY 256) lenChk=true:=by kernel_rfl
 have:=List.all_eq_true.1 all q.toNat (List.mem_range.2 (by omega))
 have hq:((q.toNat:Nat):Int)=q:=by omega
 unfold lenChk at this
 rw[hq]at this
 split at this
 . rename_i n hn
   simp only[aE,aI,decide_eq_true_eq]at this
   refine⟨n,hn,⟨this.1.1,?_⟩,this.2⟩
   rcases this.1.2 with h|h
   . exact .inl (bE h)
   . exact .inr h
 . cases this
theorem xaF{x:Int}(h:U x)(hx:16777216<=x):Q1p x=24+Q1p (x/16777216):=by
 obtain⟨h0,h1⟩:=h
 have s16:ishr .u32 x 16=x/65536:=Qr 16 (by omega)
 have s24:ishr .u32 (x/65536) 8=x/16777216:=by rw[show((8:Int))=((8:Nat):Int) from rfl,Qr 8 (by omega)];omega
 have d1:decide (x>=65536)=true:=dY (by omega)
 have d2:decide (x/65536>=256)=true:=dY (by omega)
 have d3:decide (x/16777216>=65536)=false:=dN (by omega)
 have d4:decide (x/16777216>=256)=false:=dN (by omega)
 have u:u8.wrap (x/16777216)=x/16777216:=by rw[wrap_u8];omega
 simp only[Q1p,Q1y,Tree.m,s16,s24,d1,d2,d3,d4,u,cond_true,cond_false]
 generalize(aK _ (dB (x/16777216)) (0:UInt8))=b
 have hb:=dQ b
 rw[wrap_i64,wrap_i64,wrap_i64,wrap_i64]
 omega
theorem qaG{x:Int}(h0:65536<=x)(h1:x<16777216):Q1p x=16+Q1p (x/65536):=by
 have s16:ishr .u32 x 16=x/65536:=Qr 16 (by omega)
 have d1:decide (x>=65536)=true:=dY (by omega)
 have d2:decide (x/65536>=256)=false:=dN (by omega)
 have d3:decide (x/65536>=65536)=false:=dN (by omega)
 have u:u8.wrap (x/65536)=x/65536:=by rw[wrap_u8];omega
 simp only[Q1p,Q1y,Tree.m,s16,d1,d2,d3,u,cond_true,cond_false]
 generalize(aK _ (dB (x/65536)) (0:UInt8))=b
 have hb:=dQ b
 rw[wrap_i64,wrap_i64,wrap_i64]
 omega
theorem len_8{x:Int}(h0:256<=x)(h1:x<65536):Q1p x=8+Q1p (x/256):=by
 have s8:ishr .u32 x 8=x/256:=Qr 8 (by omega)
 have d1:decide (x>=65536)=false:=dN (by omega)
 have d2:decide (x>=256)=true:=dY (by omega)
 have d3:decide (x/256>=65536)=false:=dN (by omega)
 have d4:decide (x/256>=256)=false:=dN (by omega)
 have u:u8.wrap (x/256)=x/256:=by rw[wrap_u8];omega
 simp only[Q1p,Q1y,Tree.m,s8,d1,d2,d3,d4,u,cond_true,cond_false]
 generalize(aK _ (dB (x/256)) (0:UInt8))=b
 have hb:=dQ b
 rw[wrap_i64,wrap_i64,wrap_i64,wrap_i64]
 omega
theorem Zn8{x:Int}(h:U x): ∃n:Nat,Q1p x=n/\Zn7 x n:=by
  obtain⟨h0,h1⟩:=h
  rcases dR x 256 with a|a
  . obtain⟨n,e,l,_⟩:=Qtq h0 a
    exact⟨n,e,l⟩
  . rcases dR x 65536 with b|b
    . obtain⟨n,e,l,_⟩:=Qtq (q:=x/256) (by omega) (by omega)
      exact⟨n+8,by rw[len_8 a b,e];omega,Zbo (k:=8) rfl (by omega) l⟩
    . rcases dR x 16777216 with c|c
      . obtain⟨n,e,l,_⟩:=Qtq (q:=x/65536) (by omega) (by omega)
        exact⟨n+16,by rw[qaG b c,e];omega,Zbo (k:=16) rfl (by omega) l⟩
      . obtain⟨n,e,l,_⟩:=Qtq (q:=x/16777216) (by omega) (by omega)
        exact⟨n+24,by rw[xaF ⟨h0,h1⟩ c,e];omega,Zbo (k:=24) rfl (by omega) l⟩
theorem Z3c{b:Q09}(h:U b.C3){P:Nat}:Q2w b P=true↔b.C3<2^P:=by
 obtain⟨n,e,l⟩:=Zn8 h
 have hp:(if(0:Int)>(P:Int) then(0:Int) else P)=P:=by rw[if_neg (by omega)]
 simp only[Q2w,Q46,Tree.m,letv,e,hp,decide_eq_true_eq]
 constructor
 . intro h;exact Zh0 l (by omega)
 . intro h;have:=qH l h;omega
theorem Zb4{a:Int}(h:U a){P:Nat}(h1:a<2^P):(dS 32 a).toNat<2^P:=by
 obtain⟨a0,a1⟩:=h
 rw[dT,dI a0 (by omega)]
 have:((2^P:Nat):Int)=(2:Int)^P:=by exact_mod_cast rfl
 omega
theorem or_lt{a b:Int}(ha:U a)(hb:U b){P:Nat}(hP:P<=32)(h1:a<2^P)(h2:b<2^P):ior .u32 a b<2^P:=by
 have e:(dS 32 a|||dS 32 b).toNat<2^P:=by
   rw[dU]
   exact Nat.or_lt_two_pow (Zb4 ha h1) (Zb4 hb h2)
 have hc:((2^P:Nat):Int)=(2:Int)^P:=by exact_mod_cast rfl
 have l:=(dS 32 a|||dS 32 b).isLt
 show wrap .u32 ((dS 32 a|||dS 32 b).toNat:Int)<2^P
 rw[wrap_u32]
 omega
theorem qai{a b:Int}(ha:U a){P:Nat}(h1:a<2^P):Qhc .u32 a b<2^P:=by
 have e:(dS 32 a&&&~~~dS 32 b).toNat<2^P:=by
   rw[dV]
   exact Nat.lt_of_le_of_lt dW (Zb4 ha h1)
 have hc:((2^P:Nat):Int)=(2:Int)^P:=by exact_mod_cast rfl
 have l:=(dS 32 a&&&~~~dS 32 b).isLt
 show wrap .u32 ((dS 32 a&&&~~~dS 32 b).toNat:Int)<2^P
 rw[wrap_u32]
 omega
theorem yf{v:Int}(h0:0<=v)(h1:v<32):ishl .u32 1 v=2^v.toNat:=by
 have e:min v.toNat u32.bits=v.toNat:=by show min v.toNat 32=v.toNat;omega
 obtain⟨n,rfl⟩: ∃n:Nat,v=n:=⟨v.toNat,by omega⟩
 have hn:n<32:=by omega
 have hlt:(2:Nat)^n<4294967296:=by
   have:=dX (show 1<2 by omega) hn
   simpa using this
 have hc:((2^n:Nat):Int)=(2:Int)^n:=by exact_mod_cast rfl
 unfold ishl
 rw[e,wrap_u32,Int.one_mul,dZ,<-hc]
 clear hc e
 generalize(2:Nat)^n=z at*
 omega
def keepB(P:Nat)(b b':Q09):Prop:=okB b'/\(Q2w b P=true->Q2w b' P=true)
theorem Zo8{P:Nat}{m:List Int}(h:Q15 P m){b:Q09}(hb:okB b)(port:Int){v:Int}(hv:U v):(Q47 b m port v).w (λr=>keepB P b r.1/\Q15 P r.2):=by
 have hcl:Q03 m=m:=rfl
 have h2:=h.p2
 have hp:=Q3v h
 have keep:(Tree.an (Q08 m) (.lv (Q03 m) λx=> .lf (b,x))).w (λr=>keepB P b r.1/\Q15 P r.2):=w_an (Q9j h) (w_lv λx hx=>by rw[hcl]at hx;subst hx;exact⟨⟨hb,λh=>h⟩,h⟩)
 unfold Q47
 refine w_br (λ_=>keep) λhlt=>w_cn (dY hv.1) (w_br (λ_=>w_lv λx1 hx=>w_br (λhpg=>w_br (λ_=>w_an ⟨by decide,by decide,by decide⟩ (w_lv λx2 _=>Q0h (Z33 h _ _) λx3 ⟨h3,_⟩=> ?_)) (λ_=>keep)) (λ_=>keep)) (λ_=>w_br (λ_=>w_an (Q9j h) (w_lv λx hx=> ?_)) (λ_=>keep)))
 . have hlt:=oN hlt
   have hpg:=oY hpg
   rw[hx,hp]at hpg
   obtain⟨v0,v1⟩:=hv
   have ev:i64.wrap v=v:=by rw[wrap_i64];omega
   rw[ev]at hpg
   refine⟨⟨⟨hb.1,Q0v _⟩,λhm=> ?_⟩,h3⟩
   rw[Z3c hb.2]at hm
   rw[Z3c (Q0v _)]
   have hs:ishl .u32 1 v<2^P:=by
     rw[yf v0 (by omega)]
     have:=dX (show 1<2 by omega) (show v.toNat<P by omega)
     exact_mod_cast this
   exact or_lt hb.2 (Q0v _) h2 hm hs
 . rw[hcl]at hx;subst hx
   refine⟨⟨⟨hb.1,Q0v _⟩,λhm=> ?_⟩,h⟩
   rw[Z3c hb.2]at hm
   rw[Z3c (Q0v _)]
   exact qai hb.2 hm
structure kept(P:Nat)(m n:Q00):Prop where
 ok:okS P n
 dev:Q10 m=true->Q10 n=true
 cpu:n.B1=m.B1
 cnt:n.A1=m.A1
 wait:n.A7=m.A7
 halt:n.A9=m.A9
theorem Zdz{P:Nat}{m:Q00}(h:okS P m):kept P m m:=⟨h,λh=>h,rfl,rfl,rfl,rfl⟩
theorem Qpr{P:Nat}{m n:Q00}(hm:Q15 P m.Mem)(hn:Q15 P n.Mem)(hc:Q2l m.A4=true->Q2l n.A4=true)(ht:Q4h m.B0=true->Q4h n.B0=true)
   (hd:Q1l m.B2 P=true->Q1l n.B2 P=true) (hk:Q69 m.C6 P=true->Q69 n.C6 P=true) (hb:Q2w m.A2 P=true->Q2w n.A2 P=true) (h:Q10 m=true):Q10 n=true:=by
 rw[qf]at h⊢
 rw[Q3v hm]at h
 rw[Q3v hn]
 simp only[aE]at h⊢
 exact⟨hc h.1,ht h.2.1,hd h.2.2.1,hk h.2.2.2.1,hb h.2.2.2.2⟩
theorem Zhd{P:Nat}{m:Q00}(h:okS P m)(port:Int){v:Int}(hv:U v)(at0:Int):(Q43 m port v at0).w (λr=>kept P m r.1/\r.2.length<=1):=by
 have k:=Zdz h
 obtain⟨h1,h2,h3,h4,h5,h6⟩:=h
 have id: ∀{p:Prop},p->p:=λh=>h
 have D: ∀(x:Q0f×List Q04),(keepD P m.B2 x.1/\x.2.length<=1)->kept P m {B1:=m.B1,Mem:=m.Mem,A4:=m.A4,B0:=m.B0,B2:=x.1,C6:=m.C6,A2:=m.A2,A1:=m.A1,A7:=m.A7,A9:=m.A9}/\x.2.length<=1:=λx hx=>
   ⟨⟨⟨h1,h2,hx.1.1,h4,h5,h6⟩,Qpr h2 h2 id id hx.1.2 id id,rfl,rfl,rfl,rfl⟩,hx.2⟩
 have N: ∀(x:Q0q×List Q04),(keepN P m.C6 x.1/\x.2.length<=1)->kept P m {B1:=m.B1,Mem:=m.Mem,A4:=m.A4,B0:=m.B0,B2:=m.B2,C6:=x.1,A2:=m.A2,A1:=m.A1,A7:=m.A7,A9:=m.A9}/\x.2.length<=1:=λx hx=>
   ⟨⟨⟨h1,h2,h3,hx.1.1,h5,h6⟩,Qpr h2 h2 id id id hx.1.2 id,rfl,rfl,rfl,rfl⟩,hx.2⟩
 have B: ∀(x:Q09×List Int),(keepB P m.A2 x.1/\Q15 P x.2)->kept P m {B1:=m.B1,Mem:=x.2,A4:=m.A4,B0:=m.B0,B2:=m.B2,C6:=m.C6,A2:=x.1,A1:=m.A1,A7:=m.A7,A9:=m.A9}/\([]:List Q04).length<=1:=λx hx=>
   ⟨⟨⟨h1,hx.2,h3,h4,hx.1.1.1,hx.1.1.2⟩,Qpr h2 hx.2 id id id id hx.1.2,rfl,rfl,rfl,rfl⟩,aT _⟩
 unfold Q43
 repeat'(first
   |exact⟨k,aO _⟩
   |exact⟨k,aT _⟩
   |exact w_lv λx hx=>⟨⟨⟨h1,h2,h3,h4,h5,h6⟩,Qpr h2 h2 id (λ_=>by rw[hx];exact xah _ _) id id id,rfl,rfl,rfl,rfl⟩,aT _⟩
   |exact Q0h (zah h2 h3 _ hv _) λx hx=>D x hx
   |exact Q0h (zaF h2 h4 _ hv _) λx hx=>N x hx
   |exact Q0h (Zo8 h2 ⟨h5,h6⟩ _ hv) λx hx=>B x hx
   |refine w_br (λ_=> ?_) (λ_=> ?_))
theorem Z7b(c:Q0d)(port:Int):(Q9x c port).w (λr=>U r.2/\(Q2l c=true->Q2l r.1=true)):=by
 have u1:U 4294967295:=⟨by omega,by omega⟩
 unfold Q9x
 refine w_br (λ_=>w_br (λ_=>⟨u1,λh=>h⟩) (λhb=>w_cn ?_ (w_cn ?_ ⟨Q0v _,λhm=> ?_⟩))) (λ_=>w_br (λ_=>⟨Q0v _,λh=>h⟩) (λ_=>⟨U_0,λh=>h⟩))
 . have hb:=oN hb
   have:0<c.D3.length:=List.length_pos_iff.2 hb
   simp [bT];omega
 . have hb:=oN hb
   have:0<c.D3.length:=List.length_pos_iff.2 hb
   exact dY (by omega)
 . have hm:decide ((c.D3.length:Int)<=16)=true:=hm
   have hm:=oY hm
   show decide (((cW _ (cX _ c.D3)).length:Int)<=16)=true
   refine dY ?_
   rw[bD,bF];omega
theorem Zml{P:Nat}{m:Q00}(h:okS P m)(port:Int){clock:Int}(hc:U clock):(Q3h m port clock).w (λr=>kept P m r.1/\U r.2):=by
 have k:=Zdz h
 obtain⟨h1,h2,h3,h4,h5,h6⟩:=h
 have id: ∀{p:Prop},p->p:=λh=>h
 have ti: ∀t,U (Z0b t):=λt=>by
   refine Tree.post (Qq3 t) (W:=U) ?_
   unfold Qq3
   exact w_br (λ_=>⟨by omega,by omega⟩) (λ_=>U_0)
 have di: ∀p,U (Qw0 m.B2 p):=λp=>by
   refine Tree.post (Qtm m.B2 p) (W:=U) ?_
   unfold Qtm
   exact w_br (λ_=>h3.block) (λ_=>w_br (λ_=>h3.frame) (λ_=>w_br (λ_=>Q0v _) (λ_=>U_0)))
 have ni: ∀p,U (Z1r m.C6 p):=λp=>by
   refine Tree.post (Qu1 m.C6 p) (W:=U) ?_
   unfold Qu1
   exact w_br (λ_=>h4.frame) (λ_=>w_br (λ_=>h4.got) (λ_=>w_br (λ_=>w_br (λ_=>w_br (λ_=>Q0v _) (λ_=>Q0v _)) (λ_=>w_br (λ_=>Q0v _) (λ_=>U_0))) (λ_=>U_0)))
 have bi: ∀p,(Qcu m.A2 p).w U:=λp=>by
   unfold Qcu
   exact w_br (λ_=>h5) (λ_=>w_br (λ_=>Q0h (Zkp h6) λ_ _=>Q0v _) (λ_=>U_0))
 have C: ∀(x:Q0d×Int),(U x.2/\(Q2l m.A4=true->Q2l x.1=true))->kept P m {B1:=m.B1,Mem:=m.Mem,A4:=x.1,B0:=m.B0,B2:=m.B2,C6:=m.C6,A2:=m.A2,A1:=m.A1,A7:=m.A7,A9:=m.A9}/\U x.2:=λx hx=>
   ⟨⟨⟨h1,h2,h3,h4,h5,h6⟩,Qpr h2 h2 hx.2 id id id id,rfl,rfl,rfl,rfl⟩,hx.1⟩
 unfold Q3h
 repeat'(first
   |exact⟨k,hc⟩
   |exact⟨k,U_0⟩
   |exact Q0h (Z7b _ _) λx hx=>C x hx
   |exact Zll (Z7b _ _) λx hx=>C x hx
   |exact w_lv λx hx=>⟨k,by rw[hx];exact ti _⟩
   |exact w_lv λx hx=>⟨k,by rw[hx];exact di _⟩
   |exact w_lv λx hx=>⟨k,by rw[hx];exact ni _⟩
   |exact Q0h (bi _) λx hx=>⟨k,hx⟩
   |refine w_br (λ_=> ?_) (λ_=> ?_))
structure Q65(c:Q05):Prop where
 x0:c.X.a0=0
 st:c.B5.a0<=31
 en:c.B5.a7<=31
 rt:c.B5.a6<=255
 ve:dA c.B5.a1 4=0
theorem Q65.pc{c:Q05}(h:Q65 c)(p:Int):Q65 {X:=c.X,Pc:=p,B5:=c.B5}:=⟨h.x0,h.st,h.en,h.rt,h.ve⟩
theorem and31(a:Int):iand .u32 a 31<=31:=by
 have e:(dS 32 a&&&dS 32 31).toNat<=31:=by
   rw[dV]
   exact bH eA (by decide)
 show wrap .u32 ((dS 32 a&&&dS 32 31).toNat:Int)<=31
 rw[wrap_u32];omega
theorem and255'(a:Int):iand .u32 a 255<=255:=by have:=and255 a;omega
theorem andn3(a:Int):dA (Qhc .u32 a 3) 4=0:=by
 have e:(dS 32 a&&&~~~dS 32 3).toNat%4=0:=by
   rw[dV,show(~~~dS 32 3).toNat=4294967292 by decide]
   have:=Nat.and_mod_two_pow (a:=(dS 32 a).toNat) (b:=4294967292) (n:=2)
   simpa using this
 have l:=(dS 32 a&&&~~~dS 32 3).isLt
 show dA (wrap .u32 ((dS 32 a&&&~~~dS 32 3).toNat:Int)) 4=0
 rw[wrap_u32,eB (by omega)]
 omega
theorem fin32{f:Int->Int}(h:(cY 32).all (λn=>decide (f n<=31))=true){s:Int}(h0:0<=s)(h1:s<=31):f s<=31:=by
 have:=List.all_eq_true.1 h s.toNat (List.mem_range.2 (by omega))
 have e:((s.toNat:Nat):Int)=s:=by omega
 rw[e]at this
 exact oY this
theorem Qm0{c:Q05}(h:Q2r c)(m:Q65 c)(k b:Int):Q65 (Q4s c k b):=
 ⟨m.x0,fin32 (f:=λs=>Qhc .u32 (ior .u32 (Q92 (Q92 s 1 8) 2 16) 1) 2) (by kernel_rfl) h.a0.1 m.st,m.en,m.rt,m.ve⟩
theorem Zmj{c:Q05}(h:Q2r c)(m:Q65 c):Q65 (Qes c):=
 ⟨m.x0,fin32 (f:=λs=>Q92 (Q92 s 8 1) 16 2) (by kernel_rfl) h.a0.1 m.st,m.en,m.rt,m.ve⟩
theorem Qvb{c:Q05}(m:Q65 c){r:Int}(hr:0<=r/\r<16)(v:Int):(Qe3 c r v).w Q65:=by
 unfold Qe3
 refine w_br (λhn=>w_cn (rc hr) ?_) (λ_=>m)
 have hn:r≠0:=by simpa using hn
 obtain⟨n,e⟩: ∃n:Nat,r.toNat=n+1:=⟨r.toNat-1,by omega⟩
 refine⟨?_,m.st,m.en,m.rt,m.ve⟩
 show(A16.of 0 (dC (A16.l c.X) r.toNat v)).a0=0
 rw[e]
 exact m.x0
theorem vf{c:Q05}(m:Q65 c)(k v:Int):(Qcf c k v).w Q65:=by
 unfold Qcf
 refine w_br (λhk=>w_cn (by rw[eq_of_beq hk];decide) ?_) λ_=>w_br (λhk=>w_cn (by rw[eq_of_beq hk];decide) ?_) λ_=>w_br (λhk=>w_cn (by rw[eq_of_beq hk];decide) ?_) λ_=>w_br (λhk=>w_cn (by rw[eq_of_beq hk];decide) ?_) λ_=>w_br (λhk=>w_cn (by rw[eq_of_beq hk];decide) ?_) λ_=>w_br (λhk=>w_cn (by rw[eq_of_beq hk];decide) ?_) λ_=>w_br (λhk=>w_cn (by rw[eq_of_beq hk];decide) ?_) λ_=>w_br (λhk=>w_cn (by rw[eq_of_beq hk];decide) ?_) (λ_=>m)
 all_goals(have hk:=eq_of_beq hk;subst hk)
 . exact⟨m.x0,and31 _,m.en,m.rt,m.ve⟩
 . exact⟨m.x0,m.st,and31 _,m.rt,m.ve⟩
 . exact⟨m.x0,m.st,m.en,and255' _,m.ve⟩
 . exact⟨m.x0,m.st,m.en,m.rt,andn3 _⟩
 . exact⟨m.x0,m.st,m.en,m.rt,m.ve⟩
 . exact⟨m.x0,m.st,m.en,m.rt,m.ve⟩
 . exact⟨m.x0,m.st,m.en,m.rt,m.ve⟩
 . exact⟨m.x0,m.st,m.en,m.rt,m.ve⟩
section
variable {c:Q05} (h:Q2r c) (m:Q65 c) {i:Q0m} (hi:Qfk i)
include h m hi
theorem Zjs:(Q56 c i).w (λr=>Q65 r.1):=by
 unfold Q56
 refine w_cn (rc hi.a) (w_cn (rc hi.b) ?_)
 repeat'(first
   |refine w_br (λ_=> ?_) (λ_=> ?_)
   |exact Q0h (Qvb m hi.a _) λx hx=>hx.pc _
   |exact w_lv λx _=>w_br (λ_=>m.pc _) (λ_=>m.pc _)
   |exact w_lv λx hx=>by rw[hx];exact Qm0 h m _ _
   |exact w_lv λx hx=>by rw[hx];exact Zmj h m
   |exact w_cn (by have:=hi.csr (by simp_all);simp [bT];omega) (Q0h (Qvb m hi.a _) λx hx=>hx.pc _)
   |exact Q0h (vf m _ _) λx hx=>hx.pc _
   |refine w_cn (rc hi.c) ?_
   |exact Q0h (Z7c _ (h.r _) (Q0v _)) λy hy=>Q0h (Qvb m hi.a _) λx hx=>hx.pc _
   |exact Q0h (Z7c _ (h.r _) (h.r _)) λy hy=>Q0h (Qvb m hi.a _) λx hx=>hx.pc _
   |refine w_lf ?_)
 all_goals exact m.pc _
theorem xH{P:Nat}{mem:List Int}(hm:Q15 P mem):(Qex c mem i).w (λr=>Q65 r.1):=by
 have w:=Zbu i.Op
 unfold Qex
 refine w_cn (rc hi.b) (w_lv λx0 h0=> ?_)
 rw[<-h0]at w
 refine Q0h (Qlb hm (Q0v _) w 2) λx1 h1=>w_br (λ_=>w_lv λy hy=>by rw[hy];exact Qm0 h m _ _) (λ_=>w_lv λx3 h3=> ?_)
 rw[h0,<-h3]at w
 exact Q0h (Qs5 h1.2 h1.1 w) λx4 h4=>w_br (λ_=>Q0h (Qwh h4.1 8) λy hy=>Q0h (Qvb m hi.a _) λx hx=>hx.pc _) (λ_=>Q0h (Qvb m hi.a _) λx hx=>hx.pc _)
theorem qg{P:Nat}{mem:List Int}(hm:Q15 P mem):(Qc8 c mem i).w (λr=>Q65 r.1):=by
 have w:=Zbu i.Op
 unfold Qc8
 refine w_cn (rc hi.b) (w_lv λx0 h0=> ?_)
 rw[<-h0]at w
 refine Q0h (Qlb hm (Q0v _) w 3) λx1 h1=>w_br (λ_=>w_lv λy hy=>by rw[hy];exact Qm0 h m _ _) (λ_=>w_lv λx3 h3=>w_cn (rc hi.a) ?_)
 rw[h0,<-h3]at w
 exact Q0h (Z0e h1.2 h1.1 w (h.r _)) λx hx=>m.pc _
end
theorem zH{c:Q05}(h:Q2r c)(m:Q65 c){P:Nat}{mem:List Int}(hm:Q15 P mem):(Q7w c mem).w (λr=>Q65 r.1):=by
 unfold Q7w
 refine Q0h (Z9a hm h) λx0 h0=>w_br (λ_=>w_lv λy hy=>by rw[hy];exact Qm0 h m _ _) (λ_=>Q0h (Z1h _) λx2 h2=>w_br (λ_=>w_lv λy hy=>by rw[hy];exact Qm0 h m _ _) (λhb=> ?_))
 have hi:=h2 (by simpa using hb)
 refine w_lv λx4 _=> ?_
 repeat'(first
   |refine w_br (λ_=> ?_) (λ_=> ?_)
   |exact Q0h (xH h m hi h0.2) λx hx=>hx
   |exact Q0h (qg h m hi h0.2) λx hx=>hx
   |exact Q0h (Zjs h m hi) λx hx=>hx
   |exact w_lv λy hy=>by rw[hy];exact Qm0 h m _ _
   |refine w_lv λ_ _=> ?_)
theorem Zjv{c:Q05}(h:Q2r c){i:Q0m}(hi:Qfk i):(Q56 c i).w (λr=>0<=r.2.D9/\r.2.D9<16):=by
 have z:(0:Int)<=0/\(0:Int)<16:=⟨by decide,by decide⟩
 unfold Q56
 refine w_cn (rc hi.a) (w_cn (rc hi.b) ?_)
 repeat'(first
   |refine w_br (λ_=> ?_) (λ_=> ?_)
   |exact Q0h (Qqr h hi.a (Q0v _)) λx hx=>z
   |exact w_lv λx _=>w_br (λ_=>z) (λ_=>z)
   |exact w_lv λx hx=>z
   |exact w_cn (by have:=hi.csr (by simp_all);simp [bT];omega) (Q0h (Qqr h hi.a (h.a _)) λx hx=>z)
   |exact Q0h (Zld h _ (h.r _)) λx hx=>z
   |refine w_cn (rc hi.c) ?_
   |exact Q0h (Z7c _ (h.r _) (Q0v _)) λy hy=>Q0h (Qqr h hi.a hy) λx hx=>z
   |exact Q0h (Z7c _ (h.r _) (h.r _)) λy hy=>Q0h (Qqr h hi.a hy) λx hx=>z
   |refine w_lf ?_)
 all_goals first|exact z|exact hi.a
theorem Zk4{c:Q05}(h:Q2r c){P:Nat}{mem:List Int}(hm:Q15 P mem):(Q7w c mem).w (λr=>0<=r.2.2.D9/\r.2.2.D9<16):=by
 have z:(0:Int)<=0/\(0:Int)<16:=⟨by decide,by decide⟩
 unfold Q7w
 refine Q0h (Z9a hm h) λx0 h0=>w_br (λ_=>w_lv λy hy=>z) (λ_=>Q0h (Z1h _) λx2 h2=>w_br (λ_=>w_lv λy hy=>z) (λhb=> ?_))
 have hi:=h2 (by simpa using hb)
 refine w_lv λx4 _=> ?_
 repeat'(first
   |refine w_br (λ_=> ?_) (λ_=> ?_)
   |exact Q0h (Z3e h hi h0.2) λx hx=>z
   |exact Q0h (Qy8 h hi h0.2) λx hx=>z
   |exact Q0h (Zjv h hi) λx hx=>hx
   |exact w_lv λy hy=>z
   |refine w_lv λ_ _=> ?_)
theorem cnd2{a x:Bool}:(bif a then false else x)=true↔a=false/\x=true:=by cases a<;>simp
theorem Qlw(m:Q00):Q1a m=true↔Q1 m.Mem≠0/\Q65 m.B1/\m.A1<=1152921504606846976/\ ¬(m.A7=true/\m.A9=true)/\Q10 m=true:=by
  rw[zY]
  unfold mayC chain
  rw[cnd2,cnd2,cnd2,cnd2,cnd2,cnd2,cnd2]
  simp only[decide_eq_false_iff_not,Int.not_lt,beq_eq_false_iff_ne,bne_eq_false_iff_eq,gt_iff_lt]
  constructor
  . rintro⟨a1,a2,a3,a4,a5,a6,a7,a8⟩
    refine⟨a1,⟨a2,a3,a4,a5,a6⟩,a7,?_,?_⟩
    . rintro⟨w,h⟩;rw[w,h]at a8;cases a8
    . revert a8;cases m.A7
      . exact λh=>h
      . cases m.A9
        . exact λh=>h
        . intro h;cases h
  . rintro⟨a1,⟨a2,a3,a4,a5,a6⟩,a7,a8,a9⟩
    refine⟨a1,a2,a3,a4,a5,a6,a7,?_⟩
    rw[a9]
    cases hw:m.A7
    . rfl
    . cases hh:m.A9
      . rfl
      . exact absurd ⟨hw,hh⟩ a8
theorem Qzz{m:Q00}(h:Q2h m=true):Q1a m=true/\m.A9=false/\m.A1<1152921504606846976:=by
  simp only[Q2h,Q45,Tree.m,letv]at h
  cases h1:Q1a m
  . rw[h1]at h;cases h
  . cases h2:m.A9
    . rw[h1,h2]at h
      cases h3:Q37 m
      . rw[h3]at h
        have h:decide (m.A1<1152921504606846976)=true:=h
        exact⟨rfl,rfl,oY h⟩
      . rw[h3]at h;cases h
    . rw[h1,h2]at h;cases h
theorem Qta{P:Nat}{m:Q00}(h:okS P m)(g:Q65 m.B1):(Q31 m).w (λr=>Q65 r.B1/\okS P r/\r.Mem=m.Mem/\r.A7=false/\r.A9=m.A9/\r.A1=m.A1/\r.A4=m.A4/\r.B0=m.B0/\r.B2=m.B2/\r.C6=m.C6/\r.A2=m.A2):=by
 obtain⟨h1,h2,h3,h4,h5,h6⟩:=h
 unfold Q31
 refine w_br (λ_=>⟨g,⟨h1,h2,h3,h4,h5,h6⟩,rfl,rfl,rfl,rfl,rfl,rfl,rfl,rfl,rfl⟩) (λ_=>Q0h (Quz (m:=⟨_,_,_,_,_,_,m.A2,_,_,_⟩) h6) λx0 _=>w_lp (inv:=λz=>0<=z/\z<=5) (μ:=Qc5 m) ⟨by omega,by omega⟩ (cK _) (λz hz=> ?_))
 obtain⟨z1,z2⟩:=hz
 refine w_br (λhb=>w_cn (dY z1) (w_br (λ_=>w_lv λx1 hx=>⟨by rw[hx];exact Qm0 h1 g _ _,⟨by rw[hx];exact Qou h1 _ U_0,h2,h3,h4,h5,h6⟩,rfl,rfl,rfl,rfl,rfl,rfl,rfl,rfl,rfl⟩) (λ_=>w_nx ?_))) (λ_=>⟨g,⟨h1,h2,h3,h4,h5,h6⟩,rfl,rfl,rfl,rfl,rfl,rfl,rfl,rfl,rfl⟩)
 have hb:=oY hb
 show(0<=i64.wrap (z+1)/\i64.wrap (z+1)<=5)/\(5-i64.wrap (z+1)).toNat<(5-z).toNat
 have ew:i64.wrap (z+1)=z+1:=by rw[wrap_i64];omega
 rw[ew];omega
structure Good(P:Nat)(m r:Q00):Prop where
 ok:okS P r
 cnt:0<=r.A1
 may:Q1a m=true->Q1a r=true
 or:r=m\/r.A1=m.A1+1
theorem Z4x(m:Q00){port:Int}(hp:(port==2)=false)(a b:Int):Q16 m port a=Q16 m port b:=by
 simp only[Q16,Q3h,Tree.m,hp,cond_false]
theorem Znf{m:Q00}(h:Q2 m=false)(a b:Int):Q1z m a=Q1z m b:=by
 have hcl:Q03 m.Mem=m.Mem:=rfl
 have e:(⟨m.B1,m.Mem,m.A4,m.B0,m.B2,m.C6,m.A2,m.A1,m.A7,m.A9⟩:Q00)=m:=rfl
 simp only[Q2,Q2e,Tree.m,letv]at h
 simp only[Q1z,Q30,Tree.m,letv,hcl,e]
 cases hr:Q2h m
 . rfl
 . rw[hr]at h
   have h:(bif(Q57 (Q0s m).B1 (Q0s m).Mem).2.2.B6==1 then(Q57 (Q0s m).B1 (Q0s m).Mem).2.2.D1==2 else false)=false:=h
   cases hk:(Q57 (Q0s m).B1 (Q0s m).Mem).2.2.B6==1
   . rfl
   . rw[hk]at h
     have hp:((Q57 (Q0s m).B1 (Q0s m).Mem).2.2.D1==2)=false:=h
     rw[Z4x _ hp a b]
theorem xg{P:Nat}{m:Q00}(h:okS P m)(hc0:0<=m.A1){clock:Int}(hk:U clock):(Q30 m clock).w (λr=>r.2.length<=1/\Good P m r.1):=by
 have hcl:Q03 m.Mem=m.Mem:=rfl
 unfold Q30
 refine w_an (Q9j h.mem) (w_lv λl hl=> ?_)
 rw[hcl]at hl;subst hl
 refine w_an (Tree.pp (Zj (m:=⟨_,_,_,_,_,_,m.A2,_,_,_⟩) h.given)).1 (w_lv λx1 hx1=>w_br (λ_=>⟨aT _,h,hc0,λh=>h, .inl rfl⟩) (λhb=> ?_))
 have hr:Q2h m=true:=by rw[<-show x1=Q2h m from hx1];simpa using hb
 obtain⟨hm,hh,hct⟩:=Qzz hr
 obtain⟨g1,g2,g3,g4,g5⟩:=(Qlw m).1 hm
 have hP:(P:Int)≠0:=by rw[<-Q3v h.mem];exact g1
 have fin: ∀(n:Q00),okS P n->Q65 n.B1->Q10 n=true->n.A1=m.A1-> ¬(n.A7=true/\n.A9=true)->Good P m {B1:=n.B1,Mem:=n.Mem,A4:=n.A4,B0:=n.B0,B2:=n.B2,C6:=n.C6,A2:=n.A2,A1:=wrap .u64 (n.A1+1),A7:=n.A7,A9:=n.A9}:=λn a b c d e=>by
   have ec:wrap .u64 (n.A1+1)=m.A1+1:=by rw[d,wrap_u64];omega
   refine⟨⟨a.cpu,a.mem,a.disk,a.nic,a.target,a.given⟩,?_,λ_=>(Qlw _).2 ⟨?_,b,?_,e,c⟩, .inr ec⟩
   . show 0<=wrap .u64 (n.A1+1);omega
   . show Q1 n.Mem≠0;rw[Q3v a.mem];exact hP
   . show wrap .u64 (n.A1+1)<=_;omega
 refine Q0h (Qta (m:=⟨_,_,m.A4,m.B0,m.B2,m.C6,m.A2,m.A1,m.A7,m.A9⟩) ⟨h.cpu,h.mem,h.disk,h.nic,h.target,h.given⟩ g2) λx2 hx2=> ?_
 obtain⟨b1,b2,b3,b4,b5,b6,b7,b8,b9,b10,b11⟩:=hx2
 have ex:=Tree.pp (yw b2.cpu b2.mem)
 have em:=Tree.pp (zH b2.cpu b1 b2.mem)
 have er:=Tree.pp (Zk4 b2.cpu b2.mem)
 refine w_an ex.1 (w_lv λx3 h3=> ?_)
 obtain⟨e1,e2,e3⟩:Q2r x3.1/\Q15 P x3.2.1/\U x3.2.2.Value:=by rw[h3];exact ex.2
 have f1:Q65 x3.1:=by rw[h3];exact em.2
 have r1:0<=x3.2.2.D9/\x3.2.2.D9<16:=by rw[h3];exact er.2
 have ok3:okS P ⟨x3.1,x3.2.1,x2.A4,x2.B0,x2.B2,x2.C6,x2.A2,x2.A1,x2.A7,x2.A9⟩:=⟨e1,e2,b2.disk,b2.nic,b2.target,b2.given⟩
 have dev: ∀(w h:Bool),Q10 ⟨x3.1,x3.2.1,x2.A4,x2.B0,x2.B2,x2.C6,x2.A2,x2.A1,w,h⟩=true:=λw hh=>by
   have id: ∀{p:Prop},p->p:=λh=>h
   refine Qpr (m:=m) (P:=P) h.mem e2 ?_ ?_ ?_ ?_ ?_ g5
   . show _->Q2l x2.A4=true;rw[b7];exact id
   . show _->Q4h x2.B0=true;rw[b8];exact id
   . show _->Q1l x2.B2 P=true;rw[b9];exact id
   . show _->Q69 x2.C6 P=true;rw[b10];exact id
   . show _->Q2w x2.A2 P=true;rw[b11];exact id
 have hw:x2.A7=false:=b4
 have hh2:x2.A9=false:=b5.trans hh
 have hct2:x2.A1=m.A1:=b6
 refine w_br (λ_=> ?_) λ_=>w_br (λ_=> ?_) λ_=>w_br (λ_=> ?_) λ_=>w_br (λ_=> ?_) λ_=> ?_
 . refine Q0h (Zml ok3 _ hk) λx4 h4=> ?_
   obtain⟨k,u⟩:=h4
   have kc:x4.1.B1=x3.1:=k.cpu
   have kt:x4.1.A1=m.A1:=k.cnt.trans hct2
   have kw: ¬(x4.1.A7=true/\x4.1.A9=true):=λe=>by have:x4.1.A7=x2.A7:=k.wait;rw[this,hw]at e;cases e.1
   have km:Q65 x4.1.B1:=by rw[kc];exact f1
   refine w_br (λhn=>w_cn (rc r1) ⟨aT _,?_⟩) (λ_=>⟨aT _,fin x4.1 k.ok km (k.dev (dev _ _)) kt kw⟩)
   have hn:x3.2.2.D9≠0:=by simpa using hn
   obtain⟨q,e⟩: ∃q:Nat,x3.2.2.D9.toNat=q+1:=⟨x3.2.2.D9.toNat-1,by omega⟩
   refine fin ⟨⟨A16.of 0 (dC (A16.l x4.1.B1.X) x3.2.2.D9.toNat x4.2),x4.1.B1.Pc,x4.1.B1.B5⟩,x4.1.Mem,x4.1.A4,x4.1.B0,x4.1.B2,x4.1.C6,x4.1.A2,x4.1.A1,x4.1.A7,x4.1.A9⟩ ⟨⟨Zhn k.ok.cpu.x u _,k.ok.cpu.pc,k.ok.cpu.csr⟩,k.ok.mem,k.ok.disk,k.ok.nic,k.ok.target,k.ok.given⟩ ⟨?_,km.st,km.en,km.rt,km.ve⟩ (k.dev (dev _ _)) kt kw
   show(A16.of 0 (dC (A16.l x4.1.B1.X) x3.2.2.D9.toNat x4.2)).a0=0
   rw[e]
   exact km.x0
 . refine Q0h (Zhd ok3 _ e3 _) λx5 h5=> ?_
   obtain⟨k,u⟩:=h5
   have kc:x5.1.B1=x3.1:=k.cpu
   exact⟨u,fin x5.1 k.ok (by rw[kc];exact f1) (k.dev (dev _ _)) (k.cnt.trans hct2) (λe=>by have:x5.1.A7=x2.A7:=k.wait;rw[this,hw]at e;cases e.1)⟩
 . exact⟨aT _,fin ⟨x3.1,x3.2.1,x2.A4,x2.B0,x2.B2,x2.C6,x2.A2,x2.A1,true,x2.A9⟩ ⟨e1,e2,b2.disk,b2.nic,b2.target,b2.given⟩ f1 (dev _ _) hct2 (λe=>by have e2:x2.A9=true:=e.2;rw[hh2]at e2;cases e2)⟩
 . exact⟨aT _,fin ⟨x3.1,x3.2.1,x2.A4,x2.B0,x2.B2,x2.C6,x2.A2,x2.A1,x2.A7,true⟩ ⟨e1,e2,b2.disk,b2.nic,b2.target,b2.given⟩ f1 (dev _ _) hct2 (λe=>by have e2:x2.A7=true:=e.1;rw[hw]at e2;cases e2)⟩
 . exact⟨aT _,fin ⟨x3.1,x3.2.1,x2.A4,x2.B0,x2.B2,x2.C6,x2.A2,x2.A1,x2.A7,x2.A9⟩ ok3 f1 (dev _ _) hct2 (λe=>by have e2:x2.A7=true:=e.1;rw[hw]at e2;cases e2)⟩
theorem Zkm{P:Nat}{m:Q00}(h:okM P m){e:Q0a}(he:U e.N):(Q4e m e).w (λr=>(Q1a m=true->Q1a r.1=true)/\r.1.A1=m.A1/\U r.1.A2.C3):=by
 obtain⟨h1,h2,h3,h4,h5,h7⟩:=h
 have hcl:Q03 m.Mem=m.Mem:=rfl
 have pg: ∀{m':List Int},Q15 P m'->Q1 m'=Q1 m.Mem:=λh=>by rw[Q3v h,Q3v h2]
 have keep:(Q1a m=true->Q1a m=true)/\m.A1=m.A1/\U m.A2.C3:=⟨λh=>h,rfl,h5.2⟩
 unfold Q4e
 refine w_an (Q9j h2) (w_lv λl hl=> ?_)
 rw[hcl]at hl;subst hl
 refine Q0h (Z73 (m:=⟨_,_,_,_,_,_,m.A2,_,_,_⟩) h5.2) λx1 _=>w_br (λ_=>keep) λ_=>w_br (λ_=>keep) λ_=> ?_
 refine w_br (λ_=>w_br (λ_=>w_br (λ_=>w_lv λx hx=> ?_) (λ_=>keep)) (λ_=>keep)) λ_=>w_br (λ_=>w_br (λ_=>w_br (λ_=>Q0h (qah _ _) λx hx=> ?_) (λ_=>keep)) (λ_=>keep)) λ_=>w_br (λhk=>Q0h (Zod h2 h3 e) λx hx=> ?_) λ_=>w_br (λhk=>w_br (λ_=>Q0h (ye h2 h4 _) λx hx=> ?_) (λ_=>keep)) λ_=>w_br (λ_=>w_br (λ_=> ?_) (λ_=>keep)) (λ_=>keep)
 . exact⟨Qsh rfl rfl rfl rfl rfl (λh=>h) (λh=>by rw[hx];exact vG _ h) (λ_ h=>h) (λ_ h=>h) rfl,rfl,h5.2⟩
 . exact⟨Qsh rfl rfl rfl rfl rfl hx (λh=>h) (λ_ h=>h) (λ_ h=>h) rfl,rfl,h5.2⟩
 . obtain⟨a1,a2,a3,a4,a5⟩:=hx
   exact⟨Qsh (pg a2) rfl rfl rfl rfl (λh=>h) (λh=>h) a5 (λ_ h=>h) rfl,rfl,h5.2⟩
 . obtain⟨a1,a2,a3,a4,a5⟩:=hx
   exact⟨Qsh (pg a2) rfl rfl rfl rfl (λh=>h) (λh=>h) (λ_ h=>h) a5 rfl,rfl,h5.2⟩
 . exact⟨Qsh rfl rfl rfl rfl rfl (λh=>h) (λh=>h) (λ_ h=>h) (λ_ h=>h) rfl,rfl,h5.2⟩
structure okW(m:Q00):Prop where
 cpu:Q2r m.B1
 u: ∀w∈m.Mem,U w
 len:m.Mem.length<=1024
 disk:Q91 m.B2
 nic:Qjm m.C6
 bal:okB m.A2
 cnt:0<=m.A1
theorem Qw1{a:Int}(h:U a):(dS 32 a).toNat=a.toNat:=by
 obtain⟨h1,h2⟩:=h
 rw[dT];omega
theorem Zil{a b:Int}(ha:U a)(hb:U b):iand .u32 a b=((a.toNat&&&b.toNat:Nat):Int):=by
 have l:=(dS 32 a&&&dS 32 b).isLt
 have e:(dS 32 a&&&dS 32 b).toNat=a.toNat&&&b.toNat:=by rw[dV,Qw1 ha,Qw1 hb]
 show wrap .u32 ((dS 32 a&&&dS 32 b).toNat:Int)=_
 rw[wrap_u32,<-e];omega
theorem zaG{a b:Int}(ha:U a)(hb:U b):ior .u32 a b=((a.toNat|||b.toNat:Nat):Int):=by
 have l:=(dS 32 a|||dS 32 b).isLt
 have e:(dS 32 a|||dS 32 b).toNat=a.toNat|||b.toNat:=by rw[dU,Qw1 ha,Qw1 hb]
 show wrap .u32 ((dS 32 a|||dS 32 b).toNat:Int)=_
 rw[wrap_u32,<-e];omega
theorem Zab{a:Int}(ha:U a)(k:Nat)(hk:k<=32){q:Int}(hq:q=((2^k-1:Nat):Int)):iand .u32 a q=a%2^k:=by
 have hp:2^k<=2^32:=dP (by decide) hk
 have h1:(2:Nat)^32=4294967296:=by decide
 have hpos:=eC k
 subst hq
 rw[Zil ha ⟨by omega,by omega⟩,dZ,Nat.and_two_pow_sub_one_eq_mod]
 have:=ha.1
 rw[Int.natCast_emod,eD this]
 simp
theorem m15{a:Int}(ha:U a):iand .u32 a 15=a%16:=Zab ha 4 (by decide) rfl
theorem m255{a:Int}(ha:U a):iand .u32 a 255=a%256:=Zab ha 8 (by decide) rfl
theorem m65535{a:Int}(ha:U a):iand .u32 a 65535=a%65536:=Zab ha 16 (by decide) rfl
theorem Qsi(p:Int->Bool)(N:Nat)(h:(cY N).all (λn=>p n)=true){s:Int}(h0:0<=s)(h1:s<N):p s=true:=by
 have:=List.all_eq_true.1 h s.toNat (List.mem_range.2 (by omega))
 rwa [eD h0]at this
theorem w64{x:Int}(h0: -9223372036854775808<=x)(h1:x<9223372036854775808):wrap .i64 x=x:=by rw[wrap_i64];omega
theorem shr0(a:Int):ishr .u32 a 0=a:=by have:=Qr (a:=a) 0 (by decide);simpa using this
theorem fld(w:Int):Q35 w 24 8=iand .u32 (ishr .u32 w 24) 255/\Q35 w 20 4=iand .u32 (ishr .u32 w 20) 15/\Q35 w 16 4=iand .u32 (ishr .u32 w 16) 15/\Q35 w 0 16=iand .u32 (ishr .u32 w 0) 65535/\Q35 w 8 8=iand .u32 (ishr .u32 w 8) 255:=
 ⟨by kernel_rfl,by kernel_rfl,by kernel_rfl,by kernel_rfl,by kernel_rfl⟩
def useOf(f:Int):Q90×Bool:=
 bif f==1 then(⟨false,false,false,0,0⟩,true) else bif f==2 then(⟨true,true,true,0,0⟩,true) else bif f==3 then(⟨true,true,false,-32768,32767⟩,true)
 else bif f==4 then(⟨true,true,false,0,65535⟩,true) else bif f==5 then(⟨true,true,false,0,31⟩,true) else bif f==6 then(⟨true,false,false,0,65535⟩,true)
 else bif f==7 then(⟨true,false,false,-32768,32767⟩,true) else bif f==8 then(⟨true,false,false,0,7⟩,true) else bif f==9 then(⟨true,false,false,0,11⟩,true) else(⟨false,false,false,0,0⟩,false)
def sameU(x y:Q90×Bool):Bool:=x.1.a==y.1.a&&x.1.b==y.1.b&&x.1.c==y.1.c&&x.1.low==y.1.low&&x.1.D6==y.1.D6&&x.2==y.2
theorem yH{x y:Q90×Bool}(h:sameU x y=true):x=y:=by
 obtain⟨⟨a,b,c,d,e⟩,f⟩:=x
 obtain⟨⟨a',b',c',d',e'⟩,f'⟩:=y
 simp only[sameU,aE,beq_iff_eq]at h
 obtain⟨⟨⟨⟨⟨rfl,rfl⟩,rfl⟩,rfl⟩,rfl⟩,rfl⟩:=h
 rfl
theorem yY{op:Int}(h0:0<=op)(h1:op<256):Z2v op=useOf (Q2k op):=by
 exact yH (Qsi (λop=>sameU (Z2v op) (useOf (Q2k op))) 256 (by kernel_rfl) h0 h1)
theorem zg{op:Int}(h0:0<=op)(h1:op<256):Q2k op=0\/Q2k op=1\/Q2k op=2\/Q2k op=3\/Q2k op=4\/Q2k op=5\/Q2k op=6\/Q2k op=7\/Q2k op=8\/Q2k op=9:=by
 have:=oY (Qsi (λop=>decide (0<=Q2k op/\Q2k op<=9)) 256 (by kernel_rfl) h0 h1)
 omega
theorem zai{op:Int}(h0:0<=op)(h1:op<256):Q8p op=Q3j op:=by
 exact eq_of_beq (Qsi (λop=>Q8p op==Q3j op) 256 (by kernel_rfl) h0 h1)
theorem vH{a x y:Bool}:(cond a x y=true)↔((a=true/\x=true)\/(a=false/\y=true)):=by cases a<;>simp
theorem Z9x{i:Q0m}(h0:0<=i.Op)(h1:i.Op<256)(hi:wrap .i64 i.Imm=i.Imm):Qg7 i=Q7x i:=by
 rw[eF]
 simp only[Qg7,Qi,Tree.m,letv,Q7x,Qfn,yY h0 h1,hi]
 rcases zg h0 h1 with h|h|h|h|h|h|h|h|h|h<;>rw[h]<;>
 simp [useOf,Q9d,Qfc,Q80,Qda,Qmo,Qme,Tree.m,letv,vH]<;>omega
theorem sx16{x:Int}(h0:0<=x)(h1:x<65536):wrap .i32 (Q2j x 16)=wrap .i32 (wrap .i16 x):=by
 have e:Q2j x 16=wrap .u32 (ishr .i32 (wrap .i32 (ishl .u32 x 16)) 16):=by kernel_rfl
 have e2: ∀y,ishr .i32 y 16=y/65536:=λy=>by
   show eG y 65536=_
   rw[dK _ (by decide)]
 have e3:ishl .u32 x 16=wrap .u32 (x*65536):=rfl
 have e4:wrap .i16 x=(x+32768)%65536-32768:=by
   simp [wrap,IntKind.bits,IntKind.signed]
   split<;>omega
 rw[e,e2,e3,e4]
 simp only[wrap_i32,wrap_u32]
 omega
theorem sx8{x:Int}(h0:0<=x)(h1:x<256):Q2j x 8=Q3l x 8:=by
 exact eq_of_beq (Qsi (λx=>Q2j x 8==Q3l x 8) 256 (by kernel_rfl) h0 h1)
theorem yg{w:Int}(hw:U w):Qhi w=Q26 w:=by
 obtain⟨f1,f2,f3,f4,_⟩:=fld w
 obtain⟨w0,w1⟩:=hw
 have s24:ishr .u32 w 24=w/16777216:=by have:=Qr (a:=w) 24 (by decide);simpa using this
 have s20:U (ishr .u32 w 20):=Qvj ⟨w0,w1⟩ _
 have s16:U (ishr .u32 w 16):=Qvj ⟨w0,w1⟩ _
 rw[m255 (Qvj ⟨w0,w1⟩ _),s24]at f1
 rw[m15 s20]at f2
 rw[m15 s16]at f3
 rw[shr0]at f4
 have g1:w/16777216%256=w/16777216:=by omega
 rw[g1]at f1
 have o0:0<=w/16777216:=by omega
 have o1:w/16777216<256:=by omega
 have eo:wrap .i64 (w/16777216)=w/16777216:=w64 (by omega) (by omega)
 have i32: ∀x,wrap .i64 (wrap .i32 x)=wrap .i32 x:=λx=>by rw[wrap_i64,wrap_i32];omega
 have l0:=m65535 ⟨w0,w1⟩
 have lx:=sx16 (x:=iand .u32 w 65535) (by omega) (by omega)
 simp only[Qhi,Q7y,Q26,Q6x,Tree.m,letv,f1,f2,f3,f4,s24,eo,yY o0 o1,m15 s20,m15 s16,lx]
 generalize w/16777216=op at*
 generalize wrap .i64 (ishr .u32 w 20%16)=a
 generalize wrap .i64 (ishr .u32 w 16%16)=b
 generalize iand .u32 w 65535=l
 rw[Z9x (i:=⟨op,a,b,wrap .i64 l,0⟩) o0 o1 rfl,Z9x (i:=⟨op,a,b,0,wrap .i32 (wrap .i16 l)⟩) o0 o1 (i32 _),Z9x (i:=⟨op,a,b,0,wrap .i32 l⟩) o0 o1 (i32 _)]
 rcases zg o0 o1 with h|h|h|h|h|h|h|h|h|h<;>rw[h]<;>rfl
theorem xai(x v:BitVec 32)(s:Nat)(hs:s<=24):((x&&&~~~(255#32<<<s))|||((v&&&255#32)<<<s)).toNat=2^(s+8)*(x.toNat/2^(s+8))+(2^s*(v.toNat%256)+x.toNat%2^s):=by
  have hx:=x.isLt
  have h1:x.toNat%2^s<2^s:=Nat.mod_lt _ (eC s)
  have h2:2^s*(v.toNat%256)+x.toNat%2^s<2^(s+8):=by
    have:v.toNat%256<256:=Nat.mod_lt _ (by decide)
    have h3:2^s*(v.toNat%256)<=2^s*255:=Nat.mul_le_mul_left _ (by omega)
    have:2^(s+8)=2^s*256:=by rw[Nat.pow_add]
    omega
  rw[eH h2,eH h1]
  apply eI
  intro i
  rw[BitVec.testBit_toNat]
  simp only[BitVec.getLsbD_or,BitVec.getLsbD_and,BitVec.getLsbD_not,BitVec.getLsbD_shiftLeft,Nat.testBit_or,Nat.testBit_two_pow_mul,eJ,Nat.testBit_div_two_pow,BitVec.getLsbD_ofNat]
  have e255: ∀j,eK 255 j=decide (j<8):=λj=>by
    rw[show 255=2^8-1 from rfl,Nat.testBit_two_pow_sub_one]
  have e256: ∀n j,eK (n%256) j=(decide (j<8)&&eK n j):=λn j=>by
    rw[show 256=2^8 from rfl,eJ]
  rw[e255,e256]
  by_cases hi:i<32
  . by_cases a1:i<s
    . have a2: ¬(s<=i):=by omega
      have a3: ¬(s+8<=i):=by omega
      simp [hi,a1,a2,a3,eL]
    . by_cases a4:s+8<=i
      . have a2: ¬(i-s<8):=by omega
        have a5:i-(s+8)+(s+8)=i:=by omega
        have a6:s<=i:=by omega
        simp [hi,a1,a2,a4,a5,a6,eL]
      . have a2:(i-s<8):=by omega
        have a6:s<=i:=by omega
        have a7:i-s<32:=by omega
        simp [hi,a1,a2,a4,a6,a7,eL]
  . have a0:x.toNat.testBit i=false:=Nat.testBit_lt_two_pow (Nat.lt_of_lt_of_le hx (dP (by decide) (by omega)))
    have a1: ¬(i<s):=by omega
    have a2: ¬(i-s<8):=by omega
    have a4:s+8<=i:=by omega
    have a5:i-(s+8)+(s+8)=i:=by omega
    simp [hi,a0,a1,a2,a4,a5]
theorem Z7g(b:BitVec 32):dS 32 (wrap .u32 (b.toNat:Int))=b:=by
 have:=b.isLt
 rw[wrap_u32]
 apply eM
 rw[dT];omega
theorem Zn3(x:Int):dS 32 (wrap .u32 x)=dS 32 x:=by
 apply eM
 rw[dT,dT,wrap_u32]
 have:((2^32:Nat):Int)=4294967296:=by decide
 rw[this,Int.emod_emod_of_dvd _ (Int.dvd_refl _)]
theorem Zcp{x:Int}(hx:U x)(s:Nat)(hs:s<=32):dS 32 (ishl .u32 x s)=dS 32 x<<<s:=by
 obtain⟨n,rfl⟩: ∃n:Nat,x=n:=⟨x.toNat,by have:=hx.1;omega⟩
 have e:min (dB (s:Int)) u32.bits=s:=by show min (dB (s:Int)) 32=s;omega
 unfold ishl
 rw[e,Zn3]
 have e2:((n:Int)*2^s)=((n*2^s:Nat):Int):=by simp
 have:=hx.2
 rw[e2,eN,eN]
 apply eM
 rw[BitVec.toNat_shiftLeft,eO,eO,Nat.shiftLeft_eq,Nat.mod_mul_mod]
def putW(W v:Int)(s:Nat):Int:=ior .u32 (Qhc .u32 W (ishl .u32 255 s)) (ishl .u32 (iand .u32 v 255) s)
theorem qaj{W v:Int}(hW:U W)(hv:U v)(s:Nat)(hs:s<=24):putW W v s=2^(s+8)*(W/2^(s+8))+(2^s*(v%256)+W%2^s):=by
 have e:=xai (dS 32 W) (dS 32 v) s hs
 have l:=((dS 32 W&&&~~~(255#32<<<s))|||((dS 32 v&&&255#32)<<<s)).isLt
 have h1:dS 32 (Qhc .u32 W (ishl .u32 255 s))=dS 32 W&&&~~~(255#32<<<s):=by
   show dS 32 (wrap .u32 (dS 32 W&&&~~~dS 32 (ishl .u32 255 s)).toNat)=_
   rw[Z7g,Zcp ⟨by decide,by decide⟩ s (by omega)]
   rfl
 have h2:dS 32 (ishl .u32 (iand .u32 v 255) s)=(dS 32 v&&&255#32)<<<s:=by
   rw[Zcp (Zj6 _ _) s (by omega)]
   congr 1
   show dS 32 (wrap .u32 (dS 32 v&&&dS 32 255).toNat)=_
   rw[Z7g];rfl
 show wrap .u32 ((dS 32 (Qhc .u32 W (ishl .u32 255 s))|||dS 32 (ishl .u32 (iand .u32 v 255) s)).toNat:Int)=_
 rw[h1,h2]
 have lw:wrap .u32 ((((dS 32 W&&&~~~(255#32<<<s))|||((dS 32 v&&&255#32)<<<s)).toNat:Nat):Int)=(((dS 32 W&&&~~~(255#32<<<s))|||((dS 32 v&&&255#32)<<<s)).toNat:Nat):=by rw[wrap_u32];omega
 rw[lw,e,Qw1 hW,Qw1 hv]
 obtain⟨n,rfl⟩: ∃n:Nat,W=n:=⟨W.toNat,by have:=hW.1;omega⟩
 obtain⟨k,rfl⟩: ∃n:Nat,v=n:=⟨v.toNat,by have:=hv.1;omega⟩
 simp
def dig(w:Int)(k:Nat):Int:=if k=0 then w%256 else if k=1 then w/256%256 else if k=2 then w/65536%256 else w/16777216%256
def byt(m:List Int)(a:Nat):Int:=dig (m.getD (a/4) 0) (a%4)
theorem vg(w:Int)(k:Nat):0<=dig w k/\dig w k<256:=by
 unfold dig
 split
 . omega
 . split
   . omega
   . split<;>omega
theorem zaj{w v:Int}(hw:U w)(hv:U v)(h: ∀k,k<4->dig w k=dig v k):w=v:=by
 have h0:=h 0 (by omega)
 have h1:=h 1 (by omega)
 have h2:=h 2 (by omega)
 have h3:=h 3 (by omega)
 simp [dig]at h0 h1 h2 h3
 obtain⟨a,b⟩:=hw
 obtain⟨c,d⟩:=hv
 omega
theorem Zie{m n:List Int}(hl:m.length=n.length)(hm: ∀w∈m,U w)(hn: ∀w∈n,U w)(h: ∀a,byt m a=byt n a):m=n:=by
 refine bM hl λi h1 h2=> ?_
 have e1:m[i]=m.getD i 0:=by simp [aK,h1]
 have e2:n[i]=n.getD i 0:=by simp [aK,h2]
 rw[e1,e2]
 refine zaj (Qkv hm i) (Qkv hn i) λk hk=> ?_
 have:=h (4*i+k)
 simp only[byt]at this
 rwa [show(4*i+k)/4=i by omega,show(4*i+k)%4=k by omega]at this
theorem Qty{l:List Int}{i:Nat}(h:i<l.length)(v:Int):(l.set i v).getD i 0=v:=by
 simp [aK,h]
theorem Zig{m:List Int}{i:Nat}(hi:i<m.length)(v:Int)(a:Nat):byt (m.set i v) a=if a/4=i then dig v (a%4) else byt m a:=by
 unfold byt
 split
 . rename_i h;rw[h,Qty hi]
 . rename_i h;rw[getDset _ _ _ _ (λe=>h e.symm)]
theorem xaj{W v:Int}(hW:U W)(hv:U v){j:Nat}(hj:j<4){k:Nat}(hk:k<4):dig (putW W v (8*j)) k=if k=j then v%256 else dig W k:=by
 have h:=qaj hW hv (8*j) (by omega)
 rw[h]
 obtain⟨w0,w1⟩:=hW
 have h0:0<=v%256:=by omega
 have h1:v%256<256:=by omega
 generalize v%256=b at*
 clear h
 have hj:j=0\/j=1\/j=2\/j=3:=by omega
 have hk:k=0\/k=1\/k=2\/k=3:=by omega
 rcases hj with rfl|rfl|rfl|rfl<;>rcases hk with rfl|rfl|rfl|rfl<;>simp [dig]<;>omega
theorem qak{m:List Int}{a v:Int}(ha:U a):Qa2 m a 1 v=m.set (a/4).toNat (putW (m.getD (a/4).toNat 0) v (8*(a%4).toNat)):=by
 obtain⟨a0,a1⟩:=ha
 have e1:wrap .u32 (eQ a 4)=a/4:=by rw[wrap_u32,eR a0];omega
 have e2:wrap .u32 (8*dA a 4)=((8*(a%4).toNat:Nat):Int):=by rw[wrap_u32,eB a0];omega
 have e3:((1:Int)==4)=false:=rfl
 simp only[Qa2,Qeo,Tree.m,e1,e2,e3,cond_false]
 rfl
theorem qh{P:Nat}{m:List Int}(h:Q15 P m){a v:Int}(ha:U a)(hl:a<128*P)(hv:U v):Q15 P (Qa2 m a 1 v)/\ ∀b:Nat,byt (Qa2 m a 1 v) b=if(b:Int)=a then v%256 else byt m b:=by
 have hlen:=h.len
 have a0:=ha.1
 rw[qak ha]
 have hi:(a/4).toNat<m.length:=by omega
 refine⟨⟨by rw[dD];exact hlen,h.p1,h.p2,Z4p h.u (U_or _ _) _⟩,λb=> ?_⟩
 rw[Zig hi]
 by_cases hb:b/4=(a/4).toNat
 . rw[if_pos hb,xaj (Qkv h.u _) hv (by omega) (by omega)]
   by_cases hc:b%4=(a%4).toNat
   . rw[if_pos hc,if_pos (by omega)]
   . rw[if_neg hc,if_neg (by omega),byt,hb]
 . rw[if_neg hb,if_neg (by omega)]
theorem vY{P:Nat}{m:List Int}(h:Q15 P m){frame:Int}(f0:0<=frame)(f1:frame<P)(s:List UInt8):(Q99 m frame s).w (λr=>Q15 P r/\ ∀b:Nat,byt r b=if frame*128<=b/\(b:Int)<frame*128+min s.length 128 then((s.getD (b-frame*128).toNat 0).toNat:Int) else byt m b):=by
 unfold Q99
 have h3:=h.p2
 refine w_lp (inv:=λz=>0<=z.1/\z.1<=min s.length 128/\Q15 P z.2/\ ∀b:Nat,byt z.2 b=if frame*128<=b/\(b:Int)<frame*128+z.1 then((s.getD (b-frame*128).toNat 0).toNat:Int) else byt m b) (μ:=Qir m frame s) ⟨show(0:Int)<=0 by decide,by show(0:Int)<=_;omega,h,λb=>by rw[if_neg];show¬(_/\_<_+(0:Int));omega⟩ (cK _) (λv0 hv0=> ?_)
 obtain⟨i,mm⟩:=v0
 obtain⟨i0,i1,hm,hy⟩:=hv0
 have i0:0<=i:=i0
 have i1:i<=min s.length 128:=i1
 have hm:Q15 P mm:=hm
 have fin: ∀r:List Int,r=mm->i=min s.length 128->Q15 P r/\ ∀b:Nat,byt r b=if frame*128<=b/\(b:Int)<frame*128+min s.length 128 then((s.getD (b-frame*128).toNat 0).toNat:Int) else byt m b:=λr hr hi=>by
   subst hr;refine⟨hm,λb=> ?_⟩
   rw[hy b];simp only[hi]
 refine w_br (λh1=>w_br (λh2=>w_cn ?_ ?_) (λh2=>fin mm rfl ?_)) (λh1=>fin mm rfl ?_)
 . have:=oY h1
   simp [bT];omega
 . have h1:i<s.length:=oY h1
   have h2:i<128:=oY h2
   have e:wrap u32 (wrap i64 (wrap i64 (frame*128)+i))=frame*128+i:=by
     rw[wrap_u32,wrap_i64,wrap_i64];omega
   show(Tree.an (Qfl mm (wrap u32 (wrap i64 (wrap i64 (frame*128)+i))) 1 _) (Tree.lv _ _)).w _
   rw[e]
   have hu:U (frame*128+i):=⟨by omega,by omega⟩
   have hvU: ∀n:Nat,U (wrap .u32 (n:Int)):=λn=>Q0v _
   obtain⟨g1,_⟩:=Tree.pp (put_w hm (size:=1) (addr:=frame*128+i) hu (by rw[hm.len];omega) (hvU (eS (s.getD i.toNat 0))))
   obtain⟨g2,g3⟩:=qh hm hu (by omega) (hvU (eS (s.getD i.toNat 0)))
   refine w_an g1 (w_lv λx0 hx0=> ?_)
   rw[hx0]
   have ew:i64.wrap (i+1)=i+1:=by rw[wrap_i64];omega
   refine w_nx ?_
   show(0<=i64.wrap (i+1)/\i64.wrap (i+1)<=min s.length 128/\Q15 P _/\ ∀b:Nat,byt _ b=if frame*128<=b/\(b:Int)<frame*128+i64.wrap (i+1) then _ else _)/\(128-i64.wrap (i+1)).toNat<(128-i).toNat
   rw[ew]
   refine⟨⟨by omega,by omega,g2,λb=> ?_⟩,by omega⟩
   rw[show Qa2 mm (frame*128+i) 1 _=_ from rfl,g3 b]
   by_cases hb:(b:Int)=frame*128+i
   . rw[if_pos hb,if_pos (by omega),wrap_u32]
     have:=(s.getD i.toNat 0).toNat_lt
     rw[show(b-frame*128).toNat=i.toNat by omega];omega
   . rw[if_neg hb,hy b]
     show(if frame*128<=(b:Int)/\(b:Int)<frame*128+i then _ else _)=_
     by_cases hc:frame*128<=(b:Int)/\(b:Int)<frame*128+i
     . rw[if_pos hc,if_pos (by omega)]
     . rw[if_neg hc,if_neg (by omega)]
 . have h1:i<s.length:=oY h1
   have h2: ¬i<128:=oN h2
   omega
 . have h1: ¬i<s.length:=oN h1
   omega
theorem xh{x y:Int}(hx:U x)(hy:U y)(k:Nat)(hk:x<2^k)(h:x+y*2^k<4294967296):ior .u32 x (y*2^k)=x+y*2^k:=by
 obtain⟨n,rfl⟩: ∃n:Nat,x=n:=⟨x.toNat,by have:=hx.1;omega⟩
 obtain⟨z,rfl⟩: ∃n:Nat,y=n:=⟨y.toNat,by have:=hy.1;omega⟩
 have e:((z:Int)*2^k)=((z*2^k:Nat):Int):=by simp
 rw[e]at h⊢
 have hn:n<2^k:=by exact_mod_cast hk
 rw[zaG hx ⟨by omega,by omega⟩,dZ,dZ,Nat.or_comm,Nat.mul_comm,<-eH hn]
 omega
theorem four{a b c d:Int}(ha:0<=a/\a<256)(hb:0<=b/\b<256)(hc:0<=c/\c<256)(hd:0<=d/\d<256):ior .u32 (ior .u32 (ior .u32 (wrap .u32 a) (ishl .u32 (wrap .u32 b) 8)) (ishl .u32 (wrap .u32 c) 16)) (ishl .u32 (wrap .u32 d) 24)=a+b*2^8+c*2^16+d*2^24:=by
 have w: ∀{x:Int},0<=x/\x<256->wrap .u32 x=x:=λhx=>by rw[wrap_u32];omega
 have s8: ∀{x:Int},0<=x/\x<256->ishl .u32 x 8=x*2^8:=fun{x} hx=>by show wrap .u32 (x*2^8)=_;rw[wrap_u32];omega
 have s16: ∀{x:Int},0<=x/\x<256->ishl .u32 x 16=x*2^16:=fun{x} hx=>by show wrap .u32 (x*2^16)=_;rw[wrap_u32];omega
 have s24: ∀{x:Int},0<=x/\x<256->ishl .u32 x 24=x*2^24:=fun{x} hx=>by show wrap .u32 (x*2^24)=_;rw[wrap_u32];omega
 rw[w ha,w hb,w hc,w hd,s8 hb,s16 hc,s24 hd]
 rw[xh ⟨by omega,by omega⟩ ⟨by omega,by omega⟩ 8 (by omega) (by omega),xh ⟨by omega,by omega⟩ ⟨by omega,by omega⟩ 16 (by omega) (by omega),xh ⟨by omega,by omega⟩ ⟨by omega,by omega⟩ 24 (by omega) (by omega)]
theorem qI{a b c d:Int}(ha:0<=a/\a<256)(hb:0<=b/\b<256)(hc:0<=c/\c<256)(hd:0<=d/\d<256)(k:Nat)(hk:k<4):dig (a+b*2^8+c*2^16+d*2^24) k=if k=0 then a else if k=1 then b else if k=2 then c else d:=by
 have hk:k=0\/k=1\/k=2\/k=3:=by omega
 rcases hk with rfl|rfl|rfl|rfl<;>simp [dig]<;>omega
theorem Zc0{P:Nat}{m:List Int}(h:Q15 P m)(f:Int):Q5d m f=decide (0<=f/\f<P):=by
 have hp:=Q3v h
 simp only[Q5d,Q8e,Tree.m,letv,hp]
 by_cases h1:0<=f
 . rw[dY h1];simp [h1]
 . rw[dN h1];simp [h1]
theorem xI(s:List UInt8)(a b k:Nat)(h:k<b):(cW b (cX a s)).getD k 0=s.getD (a+k) 0:=by
 simp [cZ,aU,h]
theorem u8I(x:UInt8):0<=(x.toNat:Int)/\(x.toNat:Int)<256:=by have:=x.toNat_lt;omega
theorem Z24{P:Nat}{m:List Int}(h:Q15 P m){f:Int}(f0:0<=f)(f1:f<P){s:List UInt8}(hs:s.length=128):(Q3p m f s).w (λr=>r.2=true/\Q15 P r.1/\ ∀b:Nat,byt r.1 b=if f*128<=b/\(b:Int)<f*128+128 then((s.getD (b-f*128).toNat 0).toNat:Int) else byt m b):=by
  have hcl:Q03 m=m:=rfl
  have h2:=h.p2
  unfold Q3p
  refine w_an (Q9j h) (w_lv λx0 hx0=>w_lv λx1 hx1=> ?_)
  rw[hcl]at hx0;subst hx0
  rw[Zc0 h,dY ⟨f0,f1⟩]at hx1
  subst hx1
  refine w_br (λhb=>by cases hb) λ_=>w_br (λhb=>by simp [hs]at hb) λ_=> ?_
  refine w_lp (inv:=λz:Int×List Int=>0<=z.1/\z.1<=32/\Q15 P z.2/\ ∀b:Nat,byt z.2 b=if f*128<=b/\(b:Int)<f*128+4*z.1 then((s.getD (b-f*128).toNat 0).toNat:Int) else byt x0 b) (μ:=Qb4 x0 f s) ⟨show(0:Int)<=0 by decide,show(0:Int)<=32 by decide,h,λb=>by rw[if_neg];show¬(_/\_<_+4*(0:Int));omega⟩ (cK _) λz ⟨z1,z2,z3,z4⟩=> ?_
  refine w_br (λhb=> ?_) (λhb=>⟨rfl,z3,λb=> ?_⟩)
  . have hb:=oY hb
    have e1:i64.wrap (4*z.1)=4*z.1:=by rw[wrap_i64];omega
    have e2:i64.wrap (i64.wrap (4*z.1)+4)=4*z.1+4:=by rw[wrap_i64,wrap_i64];omega
    have e3:i64.wrap (i64.wrap (f*32)+z.1)=f*32+z.1:=by rw[wrap_i64,wrap_i64];omega
    have hl:=z3.len
    have cut:dB (i64.wrap (i64.wrap (4*z.1)+4))-dB (i64.wrap (4*z.1))=4:=by rw[e2,e1];omega
    have hlen:(cW (dB (i64.wrap (i64.wrap (4*z.1)+4))-dB (i64.wrap (4*z.1))) (cX (dB (i64.wrap (4*z.1))) s)).length=4:=by
      rw[cut,e1,bD,bF];omega
    refine w_cn (dY (by rw[e2,e1];omega)) ?_
    refine w_cn (dY (by rw[hlen];decide)) (w_cn (dY (by rw[hlen];decide)) (w_cn (dY (by rw[hlen];decide)) (w_cn (dY (by rw[hlen];decide)) (w_cn (by rw[e3];simp [bT];omega) (w_nx ?_)))))
    have ew:i64.wrap (z.1+1)=z.1+1:=by rw[wrap_i64];omega
    rw[cut]
    refine⟨⟨by show 0<=i64.wrap (z.1+1);rw[ew];omega,by show i64.wrap (z.1+1)<=32;rw[ew];omega,?_,?_⟩,by show(32-i64.wrap (z.1+1)).toNat<(32-z.1).toNat;rw[ew];omega⟩
    . show Q15 P (dC _ _ _)
      exact⟨by rw[dD];exact hl,z3.p1,z3.p2,Z4p z3.u (U_or _ _) _⟩
    . intro b
      show byt (dC z.2 (dB (i64.wrap (i64.wrap (f*32)+z.1))) _) b=if f*128<=(b:Int)/\(b:Int)<f*128+4*i64.wrap (z.1+1) then _ else _
      rw[e3,ew,four (u8I _) (u8I _) (u8I _) (u8I _),Zig (by omega)]
      have g: ∀k:Nat,k<4->(cW 4 (cX (dB (i64.wrap (4*z.1))) s)).getD k 0=s.getD ((4*z.1).toNat+k) 0:=λk hk=>by rw[e1];exact xI _ _ _ _ hk
      by_cases hc:b/4=(f*32+z.1).toNat
      . have hin:f*128<=(b:Int)/\(b:Int)<f*128+4*(z.1+1):=by omega
        rw[if_pos hc,qI (u8I _) (u8I _) (u8I _) (u8I _) _ (by omega),if_pos hin]
        have hb4:b%4=0\/b%4=1\/b%4=2\/b%4=3:=by omega
        have gi:(b-f*128).toNat=(4*z.1).toNat+b%4:=by omega
        rw[gi]
        rcases hb4 with h4|h4|h4|h4<;>rw[h4]
        . rw[if_pos rfl,<-g 0 (by omega)];rfl
        . rw[if_neg (by decide),if_pos rfl,<-g 1 (by omega)];rfl
        . rw[if_neg (by decide),if_neg (by decide),if_pos rfl,<-g 2 (by omega)];rfl
        . rw[if_neg (by decide),if_neg (by decide),if_neg (by decide),<-g 3 (by omega)];rfl
      . rw[if_neg hc,z4 b]
        by_cases hd:f*128<=(b:Int)/\(b:Int)<f*128+4*z.1
        . rw[if_pos hd,if_pos (by omega)]
        . rw[if_neg hd,if_neg (by omega)]
  . have hb:=oN hb
    show byt z.2 b=_
    rw[z4 b,show z.1=32 by omega]
    rfl
theorem Z90{α:Type}(l l2:List α)(k:Nat)(z:α):(l++l2).getD k z=if k<l.length then l.getD k z else l2.getD (k-l.length) z:=by
 simp only[cZ,List.getElem?_append]
 split<;>rfl
theorem u8w{x:Int}:wrap .u8 x=x%256:=wrap_u8 x
theorem shr_c(W:Int):ishr .u32 W 8=W/256/\ishr .u32 W 16=W/65536/\ishr .u32 W 24=W/16777216:=by
 refine⟨?_,?_,?_⟩
 . show eG W 256=_;rw[dK _ (by decide)]
 . show eG W 65536=_;rw[dK _ (by decide)]
 . show eG W 16777216=_;rw[dK _ (by decide)]
theorem b4d(W:Int){k:Nat}(hk:k<4):[wrap .u8 W,wrap .u8 (ishr .u32 W 8),wrap .u8 (ishr .u32 W 16),wrap .u8 (ishr .u32 W 24)].getD k 0=dig W k:=by
 obtain⟨a,b,c⟩:=shr_c W
 have hk:k=0\/k=1\/k=2\/k=3:=by omega
 rcases hk with rfl|rfl|rfl|rfl<;>simp [dig,a,b,c,u8w]
theorem Qnl(l:List Int)(k:Nat)(h:0<=l.getD k 0/\l.getD k 0<256)(hk:k<l.length):(((bytesOf l).getD k 0).toNat:Int)=l.getD k 0:=by
 have e:(bytesOf l).getD k 0=eT (l.getD k 0).toNat:=by
   simp [bytesOf,cZ,hk]
 rw[e,UInt8.toNat_ofNat']
 omega
theorem Zjw(l:List UInt8)(k:Nat)(hk:k<l.length):(Qb8 l).getD k 0=((l.getD k 0).toNat:Int):=by
 simp [Qb8,cZ,hk]
theorem xaG(w:List Int)(h:w.length<=32):(Q59 w).w (λr=>r.length=4*w.length/\ ∀k:Nat,k<4*w.length->((r.getD k 0).toNat:Int)=dig (w.getD (k/4) 0) (k%4)):=by
 have e0:i64.wrap (4*(w.length:Int))=4*w.length:=by rw[wrap_i64];omega
 unfold Q59
 refine w_cn (by rw[e0];simp [bT,D.plain];omega) ?_
 refine w_lp (inv:=λz:Int×List Int=>0<=z.1/\z.1<=w.length/\(z.2.length:Int)=4*z.1/\ ∀k:Nat,(k:Int)<4*z.1->z.2.getD k 0=dig (w.getD (k/4) 0) (k%4)) (μ:=Q7m w) ⟨by decide,by show(0:Int)<=w.length;omega,rfl,λk hk=>by have hk:(k:Int)<4*0:=hk;omega⟩ (cK _) λz ⟨z1,z2,z3,z4⟩=> ?_
 refine w_br (λhb=> ?_) (λhb=> ?_)
 . have hb:=oY hb
   have ew:i64.wrap (z.1+1)=z.1+1:=by rw[wrap_i64];omega
   refine w_cn (by simp [bT];omega) (w_cn (dY (by omega)) (w_nx ?_))
   show(_/\_/\_/\ ∀k:Nat,(k:Int)<4*i64.wrap (z.1+1)->(z.2++_).getD k 0=_)/\(_:Nat)<_
   refine⟨⟨by rw[ew];omega,by rw[ew];omega,by rw[ew,lA];simp only[dE,dF];omega,λk hk=> ?_⟩,by show(w.length-i64.wrap (z.1+1)).toNat<(w.length-z.1).toNat;rw[ew];omega⟩
   rw[ew]at hk
   rw[Z90]
   split
   . exact z4 k (by omega)
   . rename_i hn
     rw[b4d _ (by omega),show z.1.toNat=k/4 by omega,show k-z.2.length=k%4 by omega]
 . have hb:=oN hb
   show(bytesOf z.2).length=_/\ ∀k:Nat,_->(((bytesOf z.2).getD k 0).toNat:Int)=_
   refine⟨by rw[Qim];omega,λk hk=> ?_⟩
   have e:=z4 k (by omega)
   have:=vg (w.getD (k/4) 0) (k%4)
   rw[Qnl _ _ (by rw[e];exact this) (by omega),e]
def isPg(m:List Int)(f:Int)(r:List UInt8):Prop:=r.length=128/\ ∀k:Nat,k<128->((r.getD k 0).toNat:Int)=byt m ((f*128).toNat+k)
theorem qaH{m:List Int}{f:Int}{r s:List UInt8}(a:isPg m f r)(b:isPg m f s):r=s:=by
 obtain⟨a1,a2⟩:=a
 obtain⟨b1,b2⟩:=b
 refine bM (by omega) λi h1 h2=> ?_
 have e:=(a2 i (by omega)).trans (b2 i (by omega)).symm
 have e1:r[i]=r.getD i 0:=by simp [aK,h1]
 have e2:s[i]=s.getD i 0:=by simp [aK,h2]
 rw[e1,e2]
 exact UInt8.toNat_inj.1 (by omega)
theorem zh{P:Nat}{m:List Int}(h:Q15 P m){f:Int}(f0:0<=f)(f1:f<P):(Q6w m f).w (λr=>isPg m f r.1/\r.2=true):=by
 have hl:=h.len
 have h2:=h.p2
 unfold Q6w
 refine w_lv λx0 hx0=> ?_
 rw[Zc0 h,dY ⟨f0,f1⟩]at hx0
 subst hx0
 refine w_br (λhb=>by cases hb) (λhb=> ?_)
 have e1:i64.wrap (f*32)=f*32:=by rw[wrap_i64];omega
 have e2:i64.wrap (i64.wrap (f*32)+32)=f*32+32:=by rw[wrap_i64,wrap_i64];omega
 have cut:dB (i64.wrap (i64.wrap (f*32)+32))-dB (i64.wrap (f*32))=32:=by rw[e2,e1];omega
 have hlen:(cW 32 (cX (dB (i64.wrap (f*32))) m)).length=32:=by
   rw[e1,bD,bF];omega
 refine w_cn (by rw[e2,e1];simp [bT];omega) ?_
 rw[cut]
 refine w_an (by show dG _<=1000000000000;rw[hlen];decide) (w_lv λx1 h1=> ?_)
 have t:=(Tree.pp (xaG _ (dH hlen))).2
 rw[hlen,show(Q59 (cW 32 (cX (dB (i64.wrap (f*32))) m))).m=x1 from h1.symm]at t
 refine⟨⟨t.1,λk hk=> ?_⟩,rfl⟩
 show((x1.getD k 0).toNat:Int)=_
 rw[t.2 k hk,byt,e1]
 have g:(cW 32 (cX (dB (f*32)) m)).getD (k/4) 0=m.getD ((f*32).toNat+k/4) 0:=by
   simp [cZ,aU,show k/4<32 by omega]
 rw[g,show((f*128).toNat+k)/4=(f*32).toNat+k/4 by omega,show((f*128).toNat+k)%4=k%4 by omega]
theorem zaH(x:Int):Zav x 4=bytesOf [wrap .u8 (ishr .u32 x 0),wrap .u8 (ishr .u32 x 8),wrap .u8 (ishr .u32 x 16),wrap .u8 (ishr .u32 x 24)]:=by kernel_rfl
theorem zak{P:Nat}{m:List Int}(hm:Q15 P m){frame:Int}(f0:0<=frame)(f1:frame<P):(Q98 m frame).w (λr=>isPg m frame r.1/\r.2=true):=by
 have hp:=Qfb hm
 have hl:=hm.len
 have h2:=hm.p2
 unfold Q98
 refine w_br (λh=>by have:=oY h;omega) (λh=>w_lv λx0 hx=>w_br (λh1=>by have:=oY h1;rw[hx,hp]at this;omega) (λh1=> ?_))
 refine w_lp (inv:=λz:Int×List Int=>0<=z.1/\z.1<=32/\(z.2.length:Int)=4*z.1/\ ∀k:Nat,(k:Int)<4*z.1->z.2.getD k 0=byt m ((frame*128).toNat+k)) (μ:=Qin m frame) ⟨by decide,by decide,rfl,λk hk=>by have hk:(k:Int)<4*0:=hk;omega⟩ (cK _) (λz hz=> ?_)
 obtain⟨z1,z2,z3,z4⟩:=hz
 refine w_br (λhb=> ?_) (λhb=> ?_)
 . have hb:=oY hb
   have e:wrap i64 (wrap i64 (frame*32)+z.1)=frame*32+z.1:=by rw[wrap_i64,wrap_i64];omega
   refine w_cn (by rw[e];simp [bT];omega) (w_an (show(4:Int)<=1000000000000 by decide) (w_lv λx1 h4=> ?_))
   rw[zaH,shr0,e]at h4
   have l4:x1.length=4:=by rw[h4];rfl
   refine w_cn (dY (by rw[Qpp,l4];omega)) (w_nx ?_)
   show(0<=i64.wrap (z.1+1)/\i64.wrap (z.1+1)<=32/\((z.2++Qb8 x1).length:Int)=4*i64.wrap (z.1+1)/\ ∀k:Nat,(k:Int)<4*i64.wrap (z.1+1)->(z.2++Qb8 x1).getD k 0=_)/\(32-i64.wrap (z.1+1)).toNat<(32-z.1).toNat
   have ew:i64.wrap (z.1+1)=z.1+1:=by rw[wrap_i64];omega
   rw[ew]
   refine⟨⟨by omega,by omega,by rw[lA,Qpp,l4];omega,λk hk=> ?_⟩,by omega⟩
   rw[Z90]
   split
   . exact z4 k (by omega)
   . rename_i hn
     have hk4:k-z.2.length<4:=by omega
     rw[Zjw _ _ (by omega),h4]
     have d:=b4d (m.getD (frame*32+z.1).toNat 0) hk4
     rw[Qnl _ _ (by rw[d];exact vg _ _) (by simpa using hk4),d,byt]
     rw[show((frame*128).toNat+k)/4=(frame*32+z.1).toNat by omega,show((frame*128).toNat+k)%4=k-z.2.length by omega]
 . have hb:=oN hb
   refine⟨⟨?_,λk hk=> ?_⟩,rfl⟩
   . show(bytesOf z.2).length=128
     rw[Qim];omega
   . show(((bytesOf z.2).getD k 0).toNat:Int)=_
     have e:=z4 k (by omega)
     rw[Qnl _ _ (by rw[e];exact vg _ _) (by omega),e]
theorem Zg9{P:Nat}{m:List Int}(h:Q15 P m)(f:Int):Q6 m f=Qi7 m f:=by
 by_cases hf:0<=f/\f<P
 . have a:=(Tree.pp (zh h hf.1 hf.2)).2
   have b:=(Tree.pp (zak h hf.1 hf.2)).2
   exact eU (qaH a.1 b.1) (a.2.trans b.2.symm)
 . have hp:=Qfb h
   have e1:Q6 m f=([],false):=by
     simp only[Q6,Q6w,Tree.m,letv,Zc0 h,dN hf];rfl
   have e2:Qi7 m f=([],false):=by
     simp only[Qi7,Q98,Tree.m,letv,hp]
     by_cases h0:f<0
     . rw[dY h0];rfl
     . rw[dN h0,dY (show f>=P by omega)];rfl
   rw[e1,e2]
section
variable {P:Nat} {m:List Int} (h:Q15 P m)
include h
theorem Zgb{f:Int}(f0:0<=f)(f1:f<P){s:List UInt8}(hs:s.length=128):Q3 m f s=(Qli m f s,true):=by
 have a:=(Tree.pp (Z24 h f0 f1 hs)).2
 have b:=(Tree.pp (vY h f0 f1 s)).2
 refine eU (Zie (a.2.1.len.trans b.1.len.symm) a.2.1.u b.1.u λk=> ?_) a.1
 have e:((min s.length 128:Nat):Int)=128:=by rw[hs];rfl
 have b2:=b.2 k
 have a2:=a.2.2 k
 rw[e]at b2
 exact a2.trans b2.symm
theorem Zdj{f:Int}(f0:0<=f)(f1:f<P){s r:List UInt8}(hs:s.length<=128)(hr:isPg m f r):Q3 m f (s++r.drop s.length)=(Qli m f s,true):=by
  have hl:(s++r.drop s.length).length=128:=by have:=hr.1;simp;omega
  have a:=(Tree.pp (Z24 h f0 f1 hl)).2
  have b:=(Tree.pp (vY h f0 f1 s)).2
  refine eU (Zie (a.2.1.len.trans b.1.len.symm) a.2.1.u b.1.u λk=> ?_) a.1
  have b2:=b.2 k
  have a2:=a.2.2 k
  refine a2.trans (Eq.trans ?_ b2.symm)
  by_cases hc:f*128<=(k:Int)/\(k:Int)<f*128+128
  . rw [if_pos hc,Z90]
    by_cases hd:(k-f*128).toNat<s.length
    . rw[if_pos hd,if_pos (by omega)]
    . rw[if_neg hd,if_neg (by omega)]
      have e:(r.drop s.length).getD ((k-f*128).toNat-s.length) 0=r.getD (k-f*128).toNat 0:=by
        simp [cZ,show s.length+((k-f*128).toNat-s.length)=(k-f*128).toNat by omega]
      rw[e,hr.2 _ (by omega),show(f*128).toNat+(k-f*128).toNat=k by omega]
  . rw[if_neg hc,if_neg (by omega)]
theorem Qhp{a:Int}(ha:U a){size:Int}(hs:size=1\/size=4):Q2b m a size=decide (a%size=0/\a<128*P):=by
 have hq:=Qfb h
 have h2:=h.p2
 have a0:=ha.1
 have e:wrap u32 size=size:=by rcases hs with rfl|rfl<;>decide
 have e0:decide (wrap u32 size≠0)=true:=by rcases hs with rfl|rfl<;>decide
 have t:dA a (wrap u32 size)=a%size:=by rw[e,eB a0]
 have l: ∀x,x=Q3x m->a%size=0->decide (a<wrap u32 (wrap i64 (128*x)))=decide (a%size=0/\a<128*P):=λx hx hz=>by
   rw[hx,hq,wrap_u32,wrap_i64]
   exact decide_eq_decide.2 ⟨λh=>⟨hz,by omega⟩,λh=>by omega⟩
 refine Tree.post (Q84 m a size) (W:=λb=>b=decide (a%size=0/\a<128*P)) ?_
 unfold Q84
 refine w_br (λh1=>w_br (λh4=> ?_) (λ_=> ?_)) (λ_=> ?_)
 . have h1: ¬size=1:=by simpa using h1
   have h4: ¬size=4:=by simpa using h4
   omega
 all_goals
   refine w_cn e0 (w_br (λhb=>w_lv λx hx=>l x hx ?_) (λhb=> ?_))
   . rw[t]at hb;exact eq_of_beq hb
   . rw[t]at hb
     exact(dN (λh=>by rw[h.1]at hb;cases hb)).symm
theorem Z43{a:Int}(ha:U a){size:Int}(hs:size=1\/size=4):Qh3 m a size=Q2b m a size:=by
 rw[Qhp h ha hs]
 have hq:=Z3a h
 have h2:=h.p2
 have a0:=ha.1
 have a1:=ha.2
 have e:wrap u32 size=size:=by rcases hs with rfl|rfl<;>decide
 have e0:decide (wrap u32 size≠0)=true:=by rcases hs with rfl|rfl<;>decide
 have t:dA a (wrap u32 size)=a%size:=by rw[e,eB a0]
 have l: ∀x,x=Q1 m->a%size=0->decide (wrap u64 (wrap u64 a+wrap u64 size)<=wrap u64 (wrap u64 x*128))=decide (a%size=0/\a<128*P):=λx hx hz=>by
   rw[hx,hq]
   simp only[wrap_u64]
   refine decide_eq_decide.2 ⟨λh=>⟨hz,?_⟩,λh=> ?_⟩<;>rcases hs with rfl|rfl<;>omega
 refine Tree.post (Q3e m a size) (W:=λb=>b=decide (a%size=0/\a<128*P)) ?_
 unfold Q3e
 refine w_br (λh1=>w_br (λh4=> ?_) (λ_=> ?_)) (λ_=> ?_)
 . have h1: ¬size=1:=by simpa using h1
   have h4: ¬size=4:=by simpa using h4
   omega
 all_goals
   refine w_cn e0 (w_br (λhb=> ?_) (λhb=>w_lv λx hx=>l x hx ?_))
   . rw[t]at hb
     exact(dN (λh=>by rw[h.1]at hb;cases hb)).symm
   . rw[t]at hb;simpa using hb
end
theorem fldj(w:Int):Q35 w 0 8=iand .u32 (ishr .u32 w 0) 255/\Q35 w 8 8=iand .u32 (ishr .u32 w 8) 255/\Q35 w 16 8=iand .u32 (ishr .u32 w 16) 255/\Q35 w 24 8=iand .u32 (ishr .u32 w 24) 255:=
 ⟨by kernel_rfl,by kernel_rfl,by kernel_rfl,by kernel_rfl⟩
theorem setj(w v:Int):Q88 w 0 8 v=putW w v 0/\Q88 w 8 8 v=putW w v 8/\Q88 w 16 8 v=putW w v 16/\Q88 w 24 8 v=putW w v 24:=
 ⟨by kernel_rfl,by kernel_rfl,by kernel_rfl,by kernel_rfl⟩
theorem yh{a:Int}(ha:U a):wrap .i64 (wrap .i64 (dA a 4)*8)=8*(a%4)/\wrap .u32 (8*dA a 4)=8*(a%4):=by
 obtain⟨a0,a1⟩:=ha
 rw[eB a0]
 exact⟨by rw[wrap_i64,wrap_i64];omega,by rw[wrap_u32];omega⟩
section
variable {P:Nat} {m:List Int} (h:Q15 P m)
include h
theorem Qp2{a:Int}(ha:U a){size:Int}(hs:size=1\/size=4):Q4z m a size=Q1g m a size:=by
 have e:=Z43 h ha hs
 obtain⟨s1,s2⟩:=yh ha
 have f:Q35 (m.getD (dB (wrap .u32 (eQ a 4))) 0) (8*(a%4)) 8=iand .u32 (ishr .u32 (m.getD (dB (wrap .u32 (eQ a 4))) 0) (8*(a%4))) 255:=by
   obtain⟨f0,f1,f2,f3⟩:=fldj (m.getD (dB (wrap .u32 (eQ a 4))) 0)
   have:a%4=0\/a%4=1\/a%4=2\/a%4=3:=by omega
   rcases this with h|h|h|h<;>rw[h]
   . exact f0
   . exact f1
   . exact f2
   . exact f3
 simp only[Q4z,Q6y,Q1g,Q40,Tree.m,letv,e,s1,s2,f]
omit h in
theorem Z9j(a size:Int):(Q1g m a size).2=Q2b m a size:=by
 simp only[Q1g,Q40,Tree.m,letv]
 cases Q2b m a size
 . rfl
 . cases size==1<;>rfl
theorem Z6e{a:Int}(ha:U a){size:Int}(hs:size=1\/size=4)(v:Int):Q9i m a size v=bif Q2b m a size then(Qa2 m a size v,true) else(m,false):=by
 have hcl:Q03 m=m:=rfl
 have e:=Z43 h ha hs
 obtain⟨s1,s2⟩:=yh ha
 have f: ∀w,Q88 w (8*(a%4)) 8 v=ior .u32 (Qhc .u32 w (ishl .u32 255 (8*(a%4)))) (ishl .u32 (iand .u32 v 255) (8*(a%4))):=λw=>by
   obtain⟨f0,f1,f2,f3⟩:=setj w v
   have:a%4=0\/a%4=1\/a%4=2\/a%4=3:=by omega
   rcases this with h|h|h|h<;>rw[h]
   . exact f0
   . exact f1
   . exact f2
   . exact f3
 simp only[Q9i,Q8n,Qa2,Qeo,Tree.m,letv,hcl,e,s1,s2,f]
 rcases hs with rfl|rfl<;>cases Q2b m a _<;>rfl
end
section
variable {P:Nat} {m:List Int} (h:Q15 P m)
include h
theorem vh{root va:Int}(hr:U root)(hv:U va){access:Int}(ha:access=1\/access=2\/access=3):Qij m root va access=Q6s m root va access:=by
 have hp:=Qfb h
 have h2:=h.p2
 have hlen:=h.len
 obtain⟨r1,r2⟩:=hr
 obtain⟨v1,v2⟩:=hv
 have hpg: ∀{f:Int},U f->Qah m f=decide (f<P):=λhf=>xU h hf
 have eP:wrap .u32 (P:Int)=P:=by rw[wrap_u32];omega
 have kn:Qem access=true:=by rcases ha with rfl|rfl|rfl<;>rfl
 have ca:Qkj access=(Q29 access,true):=by rcases ha with rfl|rfl|rfl<;>rfl
 simp only[Qij,Qae,Q6s,Qa1,Tree.m,letv,hp,eP,kn,ca,hpg ⟨r1,r2⟩]
 by_cases c1:va>=4096
 . rw[dY c1];rfl
 by_cases c2:root<P
 . have eE:wrap u32 (wrap u32 (root*128)+wrap u32 (4*wrap u32 (eQ va 128)))=root*128+4*(va/128):=by
     rw[eR v1,wrap_u32,wrap_u32,wrap_u32,wrap_u32];omega
   have hE:U (root*128+4*(va/128)):=⟨by omega,by omega⟩
   have wi:Q2b m (root*128+4*(va/128)) 4=true:=by
     rw[Qhp h hE (.inr rfl)];exact dY ⟨by omega,by omega⟩
   rw[dN c1,dY c2,dN (show¬root>=P by omega),eE,Qp2 h hE (.inr rfl),Z9j,wi]
   have ld:(Q1g m (root*128+4*(va/128)) 4).1=m.getD (dB (wrap .u32 (eQ (root*128+4*(va/128)) 4))) 0:=by
     simp only[Q1g,Q40,Tree.m,letv,wi];rfl
   rw[ld]
   generalize m.getD (dB (wrap .u32 (eQ (root*128+4*(va/128)) 4))) 0=w
   have fo:Qf5 w=iand .u32 (ishr .u32 w 8) 255:=(fld w).2.2.2.2
   rw[fo,hpg (Zj6 _ _)]
   have hge:decide (iand .u32 (ishr .u32 w 8) 255>=(P:Int))=!decide (iand .u32 (ishr .u32 w 8) 255<(P:Int)):=by
     by_cases hq:iand .u32 (ishr .u32 w 8) 255<(P:Int)
     . rw[dY hq,dN (by omega)];rfl
     . rw[dN hq,dY (by omega)];rfl
   rw[hge]
   generalize decide (iand .u32 (ishr .u32 w 8) 255<(P:Int))=d
   rcases ha with rfl|rfl|rfl
   . show _=(bif iand .u32 w 1==0 then _ else bif iand .u32 w 4==0 then _ else bif !d then _ else _)
     have:Qbe w 1=(bif iand .u32 w 1==0 then false else !(iand .u32 w 4==0)):=rfl
     rw[this]
     cases iand .u32 w 1==0<;>cases iand .u32 w 4==0<;>cases d<;>rfl
   . show _=(bif iand .u32 w 1==0 then _ else bif !d then _ else _)
     have:Qbe w 2=(bif iand .u32 w 1==0 then false else true):=rfl
     rw[this]
     cases iand .u32 w 1==0<;>cases d<;>rfl
   . show _=(bif iand .u32 w 1==0 then _ else bif iand .u32 w 2==0 then _ else bif !d then _ else _)
     have:Qbe w 3=(bif iand .u32 w 1==0 then false else !(iand .u32 w 2==0)):=rfl
     rw[this]
     cases iand .u32 w 1==0<;>cases iand .u32 w 2==0<;>cases d<;>rfl
 . rw[dN c1,dN c2,dY (show root>=P by omega)];rfl
theorem Zmm{a:Int}(ha:U a)(access:Int):Qcz m a access=Qoj m a access:=by
 have hcl:Q03 m=m:=rfl
 have hl:=h.len
 have a0:=ha.1
 simp only[Qcz,Q8l,Qoj,Qeu,Tree.m,letv,Qp2 h ha (.inr rfl),Z9j,Z6e h ha (.inr rfl),hcl]
 cases hw:Q2b m a 4
 . rfl
 . rw[Qhp h ha (.inr rfl)]at hw
   have hw:=oY hw
   have wi:Q2b m a 4=true:=by rw[Qhp h ha (.inr rfl)];exact dY hw
   have ld:(Q1g m a 4).1=m.getD (dB (wrap .u32 (eQ a 4))) 0:=by
     simp only[Q1g,Q40,Tree.m,letv,wi];rfl
   have pu: ∀v,Qa2 m a 4 v=m.set (dB (wrap .u32 (eQ a 4))) v:=λv=>rfl
   rw[ld,pu,pu]
   have hi:dB (wrap .u32 (eQ a 4))<m.length:=by
     rw[eR a0,wrap_u32];omega
   generalize dB (wrap .u32 (eQ a 4))=i at*
   rw[Qty hi,List.set_set]
   rfl
end
theorem Qok{c:Q05}(h0:0<=c.B5.a0)(h:c.B5.a0<=31)(k b:Int):Q4s c k b=Q2y c k b:=by
 have e:=eq_of_beq (Qsi (λs=>Qhc .u32 (ior .u32 (Q92 (Q92 s 1 8) 2 16) 1) 2==ior .u32 (Qhc .u32 (ior .u32 (ior .u32 (Qhc .u32 s 24) (wrap .u32 (8*Qc (iand .u32 s 1 !=0)))) (wrap .u32 (16*Qc (iand .u32 s 2 !=0)))) 2) 1) 32 (by kernel_rfl) h0 (by omega))
 simp only[Q4s,Qlm,Q2y,Qjj,Tree.m,letv,e]
theorem Zjt{c:Q05}(h0:0<=c.B5.a0)(h:c.B5.a0<=31):Qes c=Qhz c:=by
 have e:=eq_of_beq (Qsi (λs=>Q92 (Q92 s 8 1) 16 2==ior .u32 (ior .u32 (Qhc .u32 s 3) (wrap .u32 (1*Qc (iand .u32 s 8 !=0)))) (wrap .u32 (2*Qc (iand .u32 s 16 !=0)))) 32 (by kernel_rfl) h0 (by omega))
 simp only[Qes,Qfq,Qhz,Qde,Tree.m,letv,e]
theorem Z8d{c:Q05}(h0:0<=c.B5.a0)(h:c.B5.a0<=31):Ql3 c=(!Qa6 c&&(iand .u32 c.B5.a0 4 !=0)):=
 eq_of_beq (Qsi (λs=>(iand .u32 s 5==4)==(!(iand .u32 s 1 !=0)&&(iand .u32 s 4 !=0))) 32 (by kernel_rfl) h0 (by omega))
theorem Z07(c:Q05){r:Int}(hr:0<=r/\r<16)(v:Int):Qb3 c r v=Q23 c r v:=by
 simp only[Qb3,Qe3,Q23,Qef,Tree.m]
 by_cases h:r=0
 . subst h;rfl
 . rw[dY (show r>0 by omega),dY hr.2,show(r !=0)=true by simpa using h];rfl
theorem zI{a b:Int}(ha:U a)(hb:U b):Qcb a b=Qce a b:=by
  obtain⟨a0,a1⟩:=ha
  obtain⟨b0,b1⟩:=hb
  have i: ∀x,wrap .i64 (wrap .i32 x)=wrap .i32 x:=λx=>by rw[wrap_i64,wrap_i32];omega
  have r32: ∀x,-2147483648<=wrap .i32 x/\wrap .i32 x<2147483648:=λx=>by rw[wrap_i32];omega
  have q32: ∀x y:Int,-2147483648<=x/\x<2147483648-> -2147483648<=eQ x y/\eQ x y<=2147483648:=λx y hx=>by
    have h1:(eQ x y).natAbs<=x.natAbs:=by rw[Int.natAbs_tdiv];exact Nat.div_le_self _ _
    omega
  simp only[Qcb,Qaf,Qce,Qa9,Tree.m,i]
  cases hb:b==0
  . have w: ∀z,wrap .u32 (wrap .i32 z)=wrap .u32 z:=λz=>by rw[wrap_i32,wrap_u32,wrap_u32];omega
    have w2:wrap .i64 (eQ (wrap .i32 a) (wrap .i32 b))=eQ (wrap .i32 a) (wrap .i32 b):=by
      have:=q32 _ (wrap .i32 b) (r32 a)
      rw[wrap_i64];omega
    rw[w,w2]
    cases h1:a==2147483648
    . rfl
    . cases h2:b==4294967295
      . rfl
      . have h1:=eq_of_beq h1
        have h2:=eq_of_beq h2
        subst h1;subst h2
        rfl
  . rfl
theorem yI{op a b:Int}(h0:1<=op)(h1:op<=23)(ha:U a)(hb:U b):Q4a op a b=Qdr op a b:=by
 have sub:wrap .u32 (a+wrap .u32 (0-b))=wrap .u32 (a-b):=by
   rw[wrap_u32,wrap_u32,wrap_u32];omega
 have hop:op=1\/op=2\/op=3\/op=4\/op=5\/op=6\/op=7\/op=8\/op=9\/op=10\/op=11\/op=12\/op=13\/op=14\/op=15\/op=16\/op=17\/op=18\/op=19\/op=20\/op=21\/op=22\/op=23:=by omega
 have d:=zI ha hb
 rcases hop with rfl|rfl|rfl|rfl|rfl|rfl|rfl|rfl|rfl|rfl|rfl|rfl|rfl|rfl|rfl|rfl|rfl|rfl|rfl|rfl|rfl|rfl|rfl
 . rfl
 . show(wrap .u32 (a+wrap .u32 (0-b)),true)=(wrap .u32 (a-b),true)
   rw[sub]
 . rfl
 . rfl
 . rfl
 . rfl
 . rfl
 . rfl
 . rfl
 . show((Qcb a b).1,true)=((Qce a b).1,true)
   rw[d]
 . show((Qcb a b).2,true)=((Qce a b).2,true)
   rw[d]
 all_goals rfl
theorem Qnr{P:Nat}{m:List Int}(h:Q15 P m){c:Q05}(hc:Q2r c)(hst:c.B5.a0<=31){va:Int}(hv:U va){size:Int}(hs:size=1\/size=4){access:Int}(ha:access=1\/access=2\/access=3):Q2a c m va size access=((Q17 c m va size access).1,(Q17 c m va size access).2.2,(Q17 c m va size access).2.1):=by
 have hcl:Q03 m=m:=rfl
 have kn:Qem access=true:=by rcases ha with rfl|rfl|rfl<;>rfl
 have ca:Qsb access=(Q29 access,true):=by rcases ha with rfl|rfl|rfl<;>rfl
 have pg:=Z8d hc.a0.1 hst
 have wk:=vh h hc.a6 hv ha
 have tc:Qcz m (Q6s m c.B5.a6 va access).F3 access=Qoj m (Q6s m c.B5.a6 va access).F3 access:=Zmm h (Tree.pp (qaa h hc.a6 hv access)).2.2.1 access
 have sz:(bif size !=1 then bif size !=4 then false else true else true)=true:=by rcases hs with rfl|rfl<;>rfl
 simp only[Q2a,Q6v,Q17,Q8,Tree.m,letv,hcl,kn,ca,pg,wk,tc,Qp2 h hv hs,Z9j]
 rcases hs with rfl|rfl<;>
 . show(bif _ then _ else _)=_
   cases dA va _ !=0<;>cases Qa6 c<;>cases iand .u32 c.B5.a0 4 !=0<;>cases(Q6s m c.B5.a6 va access).F0 !=0<;>cases Q2b m va _<;>rfl
theorem Z3w{α:Type}{Q:α->Prop}{c:Bool}{x y:α}(hx:Q x)(hy:Q y):Q (cond c x y):=by cases c<;>assumption
theorem xak(m:List Int)(root:Int){va:Int}(hv:U va)(access:Int):(Q6s m root va access).F0=0->(Q6s m root va access).Addr%4=va%4:=by
 have hc:Q29 access≠0:=by
   simp only[Q29,Q8w,Tree.m]
   cases access==1<;>cases access==3<;>simp
 have q :(λt:Q1b=>t.F0=0->t.Addr%4=va%4) (Q6s m root va access):=by
   simp only[Q6s,Qa1,Tree.m,letv]
   repeat'(first
     |exact λe=>absurd e hc
     | (intro _
        show wrap .u32 (wrap .u32 (_*128)+dA va 128)%4=va%4
        rw[eB hv.1,wrap_u32,wrap_u32];omega)
     |refine Z3w (Q:=λt:Q1b=>t.F0=0->t.Addr%4=va%4) ?_ ?_)
 exact q
theorem vI{c:Q05}{m:List Int}{va:Int}(hv:U va){size:Int}(hs:size=1\/size=4){access:Int}(ha:access=1\/access=2\/access=3):(Q17 c m va size access).2.1=0->(Q17 c m va size access).1%size=0:=by
  have kn:Qem access=true:=by rcases ha with rfl|rfl|rfl<;>rfl
  have hc:Q29 access≠0:=by
    simp only[Q29,Q8w,Tree.m]
    cases access==1<;>cases access==3<;>simp
  rcases hs with rfl|rfl
  . intro _;omega
  simp only[Q17,Q8,Tree.m,letv,kn]
  show(bif dA va 4 !=0 then((0:Int),(3:Int),m) else _).2.1=0->(bif dA va 4 !=0 then((0:Int),(3:Int),m) else _).1%4=0
  rw[eB hv.1]
  cases hz:va%4 !=0
  . have hz:va%4=0:=by simpa using hz
    have w:=xak m c.B5.a6 hv access
    cases hp:Ql3 c
    . cases hw:Q2b m va 4
      . exact λe=>absurd e hc
      . exact λ_=>hz
    . cases hq:(Q6s m c.B5.a6 va access).F0 !=0
      . have hq:(Q6s m c.B5.a6 va access).F0=0:=by simpa using hq
        exact λ_=>(w hq).trans hz
      . have hq: ¬(Q6s m c.B5.a6 va access).F0=0:=by simpa using hq
        exact λe=>absurd e hq
  . intro e;cases e
def eff0:Q18:={B6:=0,D1:=0,D9:=0,Value:=0}
def Q63(c:Q05)(m:List Int)(i:Q0m):Q05×List Int×Q18:=
 bif i.Op==32 then((Q6z c m i).1,(Q6z c m i).2,eff0) else bif i.Op==33 then((Q6z c m i).1,(Q6z c m i).2,eff0) else bif i.Op==34 then((Q6z c m i).1,(Q6z c m i).2,eff0)
 else bif i.Op==35 then((Q8j c m i).1,(Q8j c m i).2,eff0) else bif i.Op==36 then((Q8j c m i).1,(Q8j c m i).2,eff0) else((Qly c i).1,m,(Qly c i).2)
def regX(c:Q05)(r:Int):Int:=aK (A16.l c.X) r.toNat 0
def Qjl(c:Q05)(m:List Int)(i:Q0m):Q05×Q18×List Int:=
 bif decide (i.Op>=56) then((Qiz c i).1,(Qiz c i).2,m) else bif decide (i.Op>=40) then(Z36 c i,eff0,m) else bif decide (i.Op>=32) then((Q53 c m i).1,eff0,(Q53 c m i).2)
 else bif i.Op==24 then({X:=(Q23 c i.A (ishl .u32 (wrap .u32 i.Imm) 16)).X,Pc:=wrap .u32 ((Q23 c i.A (ishl .u32 (wrap .u32 i.Imm) 16)).Pc+4),B5:=(Q23 c i.A (ishl .u32 (wrap .u32 i.Imm) 16)).B5},eff0,m)
 else bif decide (i.Op<=13) then
   ({X:=(Q23 c i.A (Qdr i.Op (regX c i.B) (regX c i.C)).1).X,Pc:=wrap .u32 ((Q23 c i.A (Qdr i.Op (regX c i.B) (regX c i.C)).1).Pc+4),B5:=(Q23 c i.A (Qdr i.Op (regX c i.B) (regX c i.C)).1).B5},eff0,m)
 else({X:=(Q23 c i.A (Qdr i.Op (regX c i.B) (wrap .u32 i.Imm)).1).X,Pc:=wrap .u32 ((Q23 c i.A (Qdr i.Op (regX c i.B) (wrap .u32 i.Imm)).1).Pc+4),B5:=(Q23 c i.A (Qdr i.Op (regX c i.B) (wrap .u32 i.Imm)).1).B5},eff0,m)
def isOp(op:Int):Prop:=op=1\/op=2\/op=3\/op=4\/op=5\/op=6\/op=7\/op=8\/op=9\/op=10\/op=11\/op=12\/op=13\/op=16\/op=17\/op=18\/op=19\/op=20\/op=21\/op=22\/op=23\/op=24\/op=32\/op=33\/op=34\/op=35\/op=36\/op=40\/op=41\/op=42\/op=43\/op=44\/op=45\/op=48\/op=49\/op=56\/op=57\/op=58\/op=59\/op=60\/op=61\/op=62\/op=63\/op=64
theorem qZ(c:Q05)(r v:Int):(Q23 c r v).Pc=c.Pc/\(Q23 c r v).B5=c.B5:=by
 simp only[Q23,Qef,Tree.m]
 cases decide (r>0)
 . exact⟨rfl,rfl⟩
 . cases decide (r<16)<;>exact⟨rfl,rfl⟩
def adv(c:Q05):Q05:={X:=c.X,Pc:=wrap .u32 (c.Pc+4),B5:=c.B5}
def va(c:Q05)(B Imm:Int):Int:=wrap .u32 (aK (A16.l c.X) B.toNat 0+wrap .u32 Imm)
def ldP(c:Q05)(A v size:Int)(f:Int->Int)(y:Int×List Int×Int):Q05×List Int:=bif y.2.2 !=0 then(Q4s c y.2.2 v,y.2.1) else(adv (Qb3 c A (f (Q4z y.2.1 y.1 size).1)),y.2.1)
def ldR(c:Q05)(A v size:Int)(f:Int->Int)(x:Int×Int×List Int):Q05×List Int:=bif x.2.1 !=0 then(Q2y c x.2.1 v,x.2.2) else(adv (Q23 c A (f (Q1g x.2.2 x.1 size).1)),x.2.2)
def stP(c:Q05)(A v size:Int)(y:Int×List Int×Int):Q05×List Int:=bif y.2.2 !=0 then(Q4s c y.2.2 v,y.2.1) else(adv c,(Q9i y.2.1 y.1 size (aK (A16.l c.X) A.toNat 0)).1)
def stR(c:Q05)(A v size:Int)(x:Int×Int×List Int):Q05×List Int:=bif x.2.1 !=0 then(Q2y c x.2.1 v,x.2.2) else(adv c,Qa2 x.2.2 x.1 size (aK (A16.l c.X) A.toNat 0))
theorem ld_eq(c:Q05)(m:List Int)(A B C Imm:Int):
   (Q6z c m ⟨32,A,B,C,Imm⟩=ldP c A (va c B Imm) 4 (λv=>v) (Q2a c m (va c B Imm) 4 2)/\Q53 c m ⟨32,A,B,C,Imm⟩=ldR c A (va c B Imm) 4 (λv=>v) (Q17 c m (va c B Imm) 4 2))/\
   (Q6z c m ⟨33,A,B,C,Imm⟩=ldP c A (va c B Imm) 1 (λv=>Q2j v 8) (Q2a c m (va c B Imm) 1 2)/\Q53 c m ⟨33,A,B,C,Imm⟩=ldR c A (va c B Imm) 1 (λv=>Q3l v 8) (Q17 c m (va c B Imm) 1 2))/\
   (Q6z c m ⟨34,A,B,C,Imm⟩=ldP c A (va c B Imm) 1 (λv=>v) (Q2a c m (va c B Imm) 1 2)/\Q53 c m ⟨34,A,B,C,Imm⟩=ldR c A (va c B Imm) 1 (λv=>v) (Q17 c m (va c B Imm) 1 2))/\
   (Q8j c m ⟨35,A,B,C,Imm⟩=stP c A (va c B Imm) 4 (Q2a c m (va c B Imm) 4 3)/\Q53 c m ⟨35,A,B,C,Imm⟩=stR c A (va c B Imm) 4 (Q17 c m (va c B Imm) 4 3))/\
   (Q8j c m ⟨36,A,B,C,Imm⟩=stP c A (va c B Imm) 1 (Q2a c m (va c B Imm) 1 3)/\Q53 c m ⟨36,A,B,C,Imm⟩=stR c A (va c B Imm) 1 (Q17 c m (va c B Imm) 1 3)):=
 ⟨⟨by kernel_rfl,by kernel_rfl⟩,⟨by kernel_rfl,by kernel_rfl⟩,⟨by kernel_rfl,by kernel_rfl⟩,⟨by kernel_rfl,by kernel_rfl⟩,⟨by kernel_rfl,by kernel_rfl⟩⟩
theorem qal{P:Nat}{m:List Int}(h:Q15 P m)(a:Int):Q2j (Q1g m a 1).1 8=Q3l (Q1g m a 1).1 8:=by
 have: ∀x:Int×Bool,(∃w,U w/\x=(iand .u32 w 255,true))\/x=(0,false)->Q2j x.1 8=Q3l x.1 8:=λx hx=>by
   rcases hx with⟨w,hw,rfl⟩|rfl
   . have e:=m255 hw
     exact sx8 (by show 0<=iand .u32 w 255;omega) (by show iand .u32 w 255<256;omega)
   . rfl
 refine this _ ?_
 simp only[Q1g,Q40,Tree.m,letv]
 cases Q2b m a 1
 . exact .inr rfl
 . exact .inl ⟨_,Qvj (Qkv h.u _) _,rfl⟩
section
variable {P:Nat} {m:List Int} (h:Q15 P m) {c:Q05} (hc:Q2r c) (hst:c.B5.a0<=31)
include h hc hst
omit hst in
theorem Zh3{v:Int}(hv:U v){size:Int}(hs:size=1\/size=4)(access:Int):Q15 P (Q17 c m v size access).2.2/\U (Q17 c m v size access).1/\((Q17 c m v size access).2.1=0->(Q17 c m v size access).1<128*P):=(Tree.pp (Zah h hc hv hs access)).2
theorem Zj4{A v:Int}(hA:0<=A/\A<16)(hv:U v){size:Int}(hs:size=1\/size=4){f g:Int->Int}(hf: ∀{m':List Int},Q15 P m'-> ∀a,f (Q1g m' a size).1=g (Q1g m' a size).1):ldP c A v size f (Q2a c m v size 2)=ldR c A v size g (Q17 c m v size 2):=by
 rw[Qnr h hc hst hv hs (.inr (.inl rfl))]
 obtain⟨k,u,_⟩:=Zh3 h hc hv hs 2
 generalize Q17 c m v size 2=x at*
 simp only[ldP,ldR,Qp2 k u hs,Qok hc.a0.1 hst,Z07 c hA,hf k]
theorem qi{A v:Int}(hv:U v){size:Int}(hs:size=1\/size=4):stP c A v size (Q2a c m v size 3)=stR c A v size (Q17 c m v size 3):=by
 rw[Qnr h hc hst hv hs (.inr (.inr rfl))]
 obtain⟨k,u,b⟩:=Zh3 h hc hv hs 3
 have al:=vI (c:=c) (m:=m) hv hs (access:=3) (.inr (.inr rfl))
 generalize Q17 c m v size 3=x at*
 simp only[stP,stR,Z6e k u hs,Qok hc.a0.1 hst,Qhp k u hs]
 cases hq:x.2.1 !=0
 . have hq:x.2.1=0:=by simpa using hq
   rw[dY ⟨al hq,b hq⟩];rfl
 . rfl
end
theorem qJ(c:Q05)(k v:Int):(Qhq c k v).Pc=c.Pc:=by
 simp only[Qhq,Qd,Tree.m]
 repeat'(first|rfl|refine Z3w (Q:=λx:Q05=>x.Pc=c.Pc) ?_ ?_)
def setP(c:Q05)(A v p:Int):Q05:={X:=(Qb3 c A v).X,Pc:=p,B5:=(Qb3 c A v).B5}
def setR(c:Q05)(A v p:Int):Q05:={X:=(Q23 c A v).X,Pc:=p,B5:=(Q23 c A v).B5}
def nxt(c:Q05):Int:=wrap .u32 (c.Pc+4)
theorem Zdg(c:Q05){A:Int}(hA:0<=A/\A<16)(v p:Int):setP c A v p=setR c A v p:=by
 unfold setP setR;rw[Z07 c hA]
theorem Zjy(c:Q05)(A v:Int):adv (Q23 c A v)=setR c A v (nxt c):=by
 unfold adv setR nxt;rw[(qZ c A v).1]
theorem brc(t:Bool)(x y:Q05)(m:List Int):((bif t then(x,eff0) else(y,eff0)).1,m,(bif t then(x,eff0) else(y,eff0)).2)=((bif t then x else y),m,eff0):=by cases t<;>rfl
def isOpB(op:Int):Bool:=decide (op=1)||decide (op=2)||decide (op=3)||decide (op=4)||decide (op=5)||decide (op=6)||decide (op=7)||decide (op=8)||decide (op=9)||decide (op=10)||decide (op=11)||decide (op=12)||decide (op=13)||decide (op=16)||decide (op=17)||decide (op=18)||decide (op=19)||decide (op=20)||decide (op=21)||decide (op=22)||decide (op=23)||decide (op=24)||decide (op=32)||decide (op=33)||decide (op=34)||decide (op=35)||decide (op=36)||decide (op=40)||decide (op=41)||decide (op=42)||decide (op=43)||decide (op=44)||decide (op=45)||decide (op=48)||decide (op=49)||decide (op=56)||decide (op=57)||decide (op=58)||decide (op=59)||decide (op=60)||decide (op=61)||decide (op=62)||decide (op=63)||decide (op=64)
section
variable {P:Nat} {m:List Int} (h:Q15 P m) {c:Q05} (hc:Q2r c) (hst:c.B5.a0<=31) {A B C Imm:Int} (hA:0<=A/\A<16)
include h hc hst hA
theorem xi{op:Int}(hop:isOp op):Q63 c m ⟨op,A,B,C,Imm⟩=((Qjl c m ⟨op,A,B,C,Imm⟩).1,(Qjl c m ⟨op,A,B,C,Imm⟩).2.2,(Qjl c m ⟨op,A,B,C,Imm⟩).2.1):=by
 have alu: ∀{k y:Int},1<=k->k<=23->U y->((setP c A (Q4a k (regX c B) y).1 (nxt c),m,eff0):Q05×List Int×Q18)=(adv (Q23 c A (Qdr k (regX c B) y).1),m,eff0):=λh1 h2 hy=>by
   rw[yI h1 h2 (show U (regX c B) from hc.r _) hy,Zjy,Zdg c hA]
 have uC:U (regX c C):=hc.r _
 have uI:U (wrap .u32 Imm):=Q0v _
 obtain⟨⟨l1,l2⟩,⟨l3,l4⟩,⟨l5,l6⟩,⟨l7,l8⟩,⟨l9,l10⟩⟩:=ld_eq c m A B C Imm
 have hva:U (va c B Imm):=Q0v _
 rcases hop with rfl|rfl|rfl|rfl|rfl|rfl|rfl|rfl|rfl|rfl|rfl|rfl|rfl|rfl|rfl|rfl|rfl|rfl|rfl|rfl|rfl|rfl|rfl|rfl|rfl|rfl|rfl|rfl|rfl|rfl|rfl|rfl|rfl|rfl|rfl|rfl|rfl|rfl|rfl|rfl|rfl|rfl|rfl|rfl
 . exact(show Q63 c m ⟨1,A,B,C,Imm⟩=(setP c A (Q4a 1 (regX c B) (regX c C)).1 (nxt c),m,eff0) by kernel_rfl).trans ((alu (by decide) (by decide) uC).trans (by kernel_rfl))
 . exact(show Q63 c m ⟨2,A,B,C,Imm⟩=(setP c A (Q4a 2 (regX c B) (regX c C)).1 (nxt c),m,eff0) by kernel_rfl).trans ((alu (by decide) (by decide) uC).trans (by kernel_rfl))
 . exact(show Q63 c m ⟨3,A,B,C,Imm⟩=(setP c A (Q4a 3 (regX c B) (regX c C)).1 (nxt c),m,eff0) by kernel_rfl).trans ((alu (by decide) (by decide) uC).trans (by kernel_rfl))
 . exact(show Q63 c m ⟨4,A,B,C,Imm⟩=(setP c A (Q4a 4 (regX c B) (regX c C)).1 (nxt c),m,eff0) by kernel_rfl).trans ((alu (by decide) (by decide) uC).trans (by kernel_rfl))
 . exact(show Q63 c m ⟨5,A,B,C,Imm⟩=(setP c A (Q4a 5 (regX c B) (regX c C)).1 (nxt c),m,eff0) by kernel_rfl).trans ((alu (by decide) (by decide) uC).trans (by kernel_rfl))
 . exact(show Q63 c m ⟨6,A,B,C,Imm⟩=(setP c A (Q4a 6 (regX c B) (regX c C)).1 (nxt c),m,eff0) by kernel_rfl).trans ((alu (by decide) (by decide) uC).trans (by kernel_rfl))
 . exact(show Q63 c m ⟨7,A,B,C,Imm⟩=(setP c A (Q4a 7 (regX c B) (regX c C)).1 (nxt c),m,eff0) by kernel_rfl).trans ((alu (by decide) (by decide) uC).trans (by kernel_rfl))
 . exact(show Q63 c m ⟨8,A,B,C,Imm⟩=(setP c A (Q4a 8 (regX c B) (regX c C)).1 (nxt c),m,eff0) by kernel_rfl).trans ((alu (by decide) (by decide) uC).trans (by kernel_rfl))
 . exact(show Q63 c m ⟨9,A,B,C,Imm⟩=(setP c A (Q4a 9 (regX c B) (regX c C)).1 (nxt c),m,eff0) by kernel_rfl).trans ((alu (by decide) (by decide) uC).trans (by kernel_rfl))
 . exact(show Q63 c m ⟨10,A,B,C,Imm⟩=(setP c A (Q4a 10 (regX c B) (regX c C)).1 (nxt c),m,eff0) by kernel_rfl).trans ((alu (by decide) (by decide) uC).trans (by kernel_rfl))
 . exact(show Q63 c m ⟨11,A,B,C,Imm⟩=(setP c A (Q4a 11 (regX c B) (regX c C)).1 (nxt c),m,eff0) by kernel_rfl).trans ((alu (by decide) (by decide) uC).trans (by kernel_rfl))
 . exact(show Q63 c m ⟨12,A,B,C,Imm⟩=(setP c A (Q4a 12 (regX c B) (regX c C)).1 (nxt c),m,eff0) by kernel_rfl).trans ((alu (by decide) (by decide) uC).trans (by kernel_rfl))
 . exact(show Q63 c m ⟨13,A,B,C,Imm⟩=(setP c A (Q4a 13 (regX c B) (regX c C)).1 (nxt c),m,eff0) by kernel_rfl).trans ((alu (by decide) (by decide) uC).trans (by kernel_rfl))
 . exact(show Q63 c m ⟨16,A,B,C,Imm⟩=(setP c A (Q4a 16 (regX c B) (wrap .u32 Imm)).1 (nxt c),m,eff0) by kernel_rfl).trans ((alu (by decide) (by decide) uI).trans (by kernel_rfl))
 . exact(show Q63 c m ⟨17,A,B,C,Imm⟩=(setP c A (Q4a 17 (regX c B) (wrap .u32 Imm)).1 (nxt c),m,eff0) by kernel_rfl).trans ((alu (by decide) (by decide) uI).trans (by kernel_rfl))
 . exact(show Q63 c m ⟨18,A,B,C,Imm⟩=(setP c A (Q4a 18 (regX c B) (wrap .u32 Imm)).1 (nxt c),m,eff0) by kernel_rfl).trans ((alu (by decide) (by decide) uI).trans (by kernel_rfl))
 . exact(show Q63 c m ⟨19,A,B,C,Imm⟩=(setP c A (Q4a 19 (regX c B) (wrap .u32 Imm)).1 (nxt c),m,eff0) by kernel_rfl).trans ((alu (by decide) (by decide) uI).trans (by kernel_rfl))
 . exact(show Q63 c m ⟨20,A,B,C,Imm⟩=(setP c A (Q4a 20 (regX c B) (wrap .u32 Imm)).1 (nxt c),m,eff0) by kernel_rfl).trans ((alu (by decide) (by decide) uI).trans (by kernel_rfl))
 . exact(show Q63 c m ⟨21,A,B,C,Imm⟩=(setP c A (Q4a 21 (regX c B) (wrap .u32 Imm)).1 (nxt c),m,eff0) by kernel_rfl).trans ((alu (by decide) (by decide) uI).trans (by kernel_rfl))
 . exact(show Q63 c m ⟨22,A,B,C,Imm⟩=(setP c A (Q4a 22 (regX c B) (wrap .u32 Imm)).1 (nxt c),m,eff0) by kernel_rfl).trans ((alu (by decide) (by decide) uI).trans (by kernel_rfl))
 . exact(show Q63 c m ⟨23,A,B,C,Imm⟩=(setP c A (Q4a 23 (regX c B) (wrap .u32 Imm)).1 (nxt c),m,eff0) by kernel_rfl).trans ((alu (by decide) (by decide) uI).trans (by kernel_rfl))
 . refine(show Q63 c m ⟨24,A,B,C,Imm⟩=(setP c A (ishl .u32 (wrap .u32 Imm) 16) (nxt c),m,eff0) by kernel_rfl).trans ?_
   rw[Zdg c hA,<-Zjy];kernel_rfl
 . have e:=Zj4 h hc hst hA hva (.inr rfl) (f:=λv=>v) (g:=λv=>v) (λ_ _=>rfl)
   rw[<-l1,<-l2]at e
   refine(show Q63 c m ⟨32,A,B,C,Imm⟩=((Q6z c m ⟨32,A,B,C,Imm⟩).1,(Q6z c m ⟨32,A,B,C,Imm⟩).2,eff0) by kernel_rfl).trans ?_
   rw[e];kernel_rfl
 . have e:=Zj4 h hc hst hA hva (.inl rfl) (f:=λv=>Q2j v 8) (g:=λv=>Q3l v 8) (λhm a=>qal hm a)
   rw[<-l3,<-l4]at e
   refine(show Q63 c m ⟨33,A,B,C,Imm⟩=((Q6z c m ⟨33,A,B,C,Imm⟩).1,(Q6z c m ⟨33,A,B,C,Imm⟩).2,eff0) by kernel_rfl).trans ?_
   rw[e];kernel_rfl
 . have e:=Zj4 h hc hst hA hva (.inl rfl) (f:=λv=>v) (g:=λv=>v) (λ_ _=>rfl)
   rw[<-l5,<-l6]at e
   refine(show Q63 c m ⟨34,A,B,C,Imm⟩=((Q6z c m ⟨34,A,B,C,Imm⟩).1,(Q6z c m ⟨34,A,B,C,Imm⟩).2,eff0) by kernel_rfl).trans ?_
   rw[e];kernel_rfl
 . have e:=qi h hc hst (A:=A) hva (.inr rfl)
   rw[<-l7,<-l8]at e
   refine(show Q63 c m ⟨35,A,B,C,Imm⟩=((Q8j c m ⟨35,A,B,C,Imm⟩).1,(Q8j c m ⟨35,A,B,C,Imm⟩).2,eff0) by kernel_rfl).trans ?_
   rw[e];kernel_rfl
 . have e:=qi h hc hst (A:=A) hva (.inl rfl)
   rw[<-l9,<-l10]at e
   refine(show Q63 c m ⟨36,A,B,C,Imm⟩=((Q8j c m ⟨36,A,B,C,Imm⟩).1,(Q8j c m ⟨36,A,B,C,Imm⟩).2,eff0) by kernel_rfl).trans ?_
   rw[e];kernel_rfl
 . exact(show Q63 c m ⟨40,A,B,C,Imm⟩=((bif(Q2f 40 (regX c A) (regX c B)) then((⟨c.X,wrap .u32 (c.Pc+wrap .u32 (4*wrap .u32 Imm)),c.B5⟩:Q05),eff0) else(⟨c.X,nxt c,c.B5⟩,eff0)).1,m,(bif(Q2f 40 (regX c A) (regX c B)) then((⟨c.X,wrap .u32 (c.Pc+wrap .u32 (4*wrap .u32 Imm)),c.B5⟩:Q05),eff0) else(⟨c.X,nxt c,c.B5⟩,eff0)).2) by kernel_rfl).trans ((brc (Q2f 40 (regX c A) (regX c B)) ⟨c.X,wrap .u32 (c.Pc+wrap .u32 (4*wrap .u32 Imm)),c.B5⟩ ⟨c.X,nxt c,c.B5⟩ m).trans (by kernel_rfl))
 . exact(show Q63 c m ⟨41,A,B,C,Imm⟩=((bif(Q2f 41 (regX c A) (regX c B)) then((⟨c.X,wrap .u32 (c.Pc+wrap .u32 (4*wrap .u32 Imm)),c.B5⟩:Q05),eff0) else(⟨c.X,nxt c,c.B5⟩,eff0)).1,m,(bif(Q2f 41 (regX c A) (regX c B)) then((⟨c.X,wrap .u32 (c.Pc+wrap .u32 (4*wrap .u32 Imm)),c.B5⟩:Q05),eff0) else(⟨c.X,nxt c,c.B5⟩,eff0)).2) by kernel_rfl).trans ((brc (Q2f 41 (regX c A) (regX c B)) ⟨c.X,wrap .u32 (c.Pc+wrap .u32 (4*wrap .u32 Imm)),c.B5⟩ ⟨c.X,nxt c,c.B5⟩ m).trans (by kernel_rfl))
 . exact(show Q63 c m ⟨42,A,B,C,Imm⟩=((bif(Q2f 42 (regX c A) (regX c B)) then((⟨c.X,wrap .u32 (c.Pc+wrap .u32 (4*wrap .u32 Imm)),c.B5⟩:Q05),eff0) else(⟨c.X,nxt c,c.B5⟩,eff0)).1,m,(bif(Q2f 42 (regX c A) (regX c B)) then((⟨c.X,wrap .u32 (c.Pc+wrap .u32 (4*wrap .u32 Imm)),c.B5⟩:Q05),eff0) else(⟨c.X,nxt c,c.B5⟩,eff0)).2) by kernel_rfl).trans ((brc (Q2f 42 (regX c A) (regX c B)) ⟨c.X,wrap .u32 (c.Pc+wrap .u32 (4*wrap .u32 Imm)),c.B5⟩ ⟨c.X,nxt c,c.B5⟩ m).trans (by kernel_rfl))
 . exact(show Q63 c m ⟨43,A,B,C,Imm⟩=((bif(Q2f 43 (regX c A) (regX c B)) then((⟨c.X,wrap .u32 (c.Pc+wrap .u32 (4*wrap .u32 Imm)),c.B5⟩:Q05),eff0) else(⟨c.X,nxt c,c.B5⟩,eff0)).1,m,(bif(Q2f 43 (regX c A) (regX c B)) then((⟨c.X,wrap .u32 (c.Pc+wrap .u32 (4*wrap .u32 Imm)),c.B5⟩:Q05),eff0) else(⟨c.X,nxt c,c.B5⟩,eff0)).2) by kernel_rfl).trans ((brc (Q2f 43 (regX c A) (regX c B)) ⟨c.X,wrap .u32 (c.Pc+wrap .u32 (4*wrap .u32 Imm)),c.B5⟩ ⟨c.X,nxt c,c.B5⟩ m).trans (by kernel_rfl))
 . exact(show Q63 c m ⟨44,A,B,C,Imm⟩=((bif(Q2f 44 (regX c A) (regX c B)) then((⟨c.X,wrap .u32 (c.Pc+wrap .u32 (4*wrap .u32 Imm)),c.B5⟩:Q05),eff0) else(⟨c.X,nxt c,c.B5⟩,eff0)).1,m,(bif(Q2f 44 (regX c A) (regX c B)) then((⟨c.X,wrap .u32 (c.Pc+wrap .u32 (4*wrap .u32 Imm)),c.B5⟩:Q05),eff0) else(⟨c.X,nxt c,c.B5⟩,eff0)).2) by kernel_rfl).trans ((brc (Q2f 44 (regX c A) (regX c B)) ⟨c.X,wrap .u32 (c.Pc+wrap .u32 (4*wrap .u32 Imm)),c.B5⟩ ⟨c.X,nxt c,c.B5⟩ m).trans (by kernel_rfl))
 . exact(show Q63 c m ⟨45,A,B,C,Imm⟩=((bif(Q2f 45 (regX c A) (regX c B)) then((⟨c.X,wrap .u32 (c.Pc+wrap .u32 (4*wrap .u32 Imm)),c.B5⟩:Q05),eff0) else(⟨c.X,nxt c,c.B5⟩,eff0)).1,m,(bif(Q2f 45 (regX c A) (regX c B)) then((⟨c.X,wrap .u32 (c.Pc+wrap .u32 (4*wrap .u32 Imm)),c.B5⟩:Q05),eff0) else(⟨c.X,nxt c,c.B5⟩,eff0)).2) by kernel_rfl).trans ((brc (Q2f 45 (regX c A) (regX c B)) ⟨c.X,wrap .u32 (c.Pc+wrap .u32 (4*wrap .u32 Imm)),c.B5⟩ ⟨c.X,nxt c,c.B5⟩ m).trans (by kernel_rfl))
 . refine(show Q63 c m ⟨48,A,B,C,Imm⟩=(setP c A (nxt c) (wrap .u32 ((Qb3 c A (nxt c)).Pc+wrap .u32 (4*wrap .u32 Imm))),m,eff0) by kernel_rfl).trans ?_
   rw[Zdg c hA,Z07 c hA,(qZ c A (nxt c)).1];kernel_rfl
 . refine(show Q63 c m ⟨49,A,B,C,Imm⟩=(setP c A (nxt c) (va c B Imm),m,eff0) by kernel_rfl).trans ?_
   rw[Zdg c hA];kernel_rfl
 . refine(show Q63 c m ⟨56,A,B,C,Imm⟩=(Q4s c 7 0,m,eff0) by kernel_rfl).trans ?_
   rw[Qok hc.a0.1 hst];kernel_rfl
 . refine(show Q63 c m ⟨57,A,B,C,Imm⟩=(Qes c,m,eff0) by kernel_rfl).trans ?_
   rw[Zjt hc.a0.1 hst];kernel_rfl
 . refine(show Q63 c m ⟨58,A,B,C,Imm⟩=(setP c A (aK (A8.l c.B5) Imm.toNat 0) (nxt c),m,eff0) by kernel_rfl).trans ?_
   rw[Zdg c hA,<-Zjy];kernel_rfl
 . have e:=qJ c (wrap .i64 Imm) (regX c A)
   refine(show Q63 c m ⟨59,A,B,C,Imm⟩=((⟨(Qhq c (wrap .i64 Imm) (regX c A)).X,wrap .u32 (c.Pc+4),(Qhq c (wrap .i64 Imm) (regX c A)).B5⟩:Q05),m,eff0) by kernel_rfl).trans ?_
   rw[<-e];kernel_rfl
 . exact(show Q63 c m ⟨60,A,B,C,Imm⟩=((Qjl c m ⟨60,A,B,C,Imm⟩).1,(Qjl c m ⟨60,A,B,C,Imm⟩).2.2,(Qjl c m ⟨60,A,B,C,Imm⟩).2.1) by kernel_rfl)
 . exact(show Q63 c m ⟨61,A,B,C,Imm⟩=((Qjl c m ⟨61,A,B,C,Imm⟩).1,(Qjl c m ⟨61,A,B,C,Imm⟩).2.2,(Qjl c m ⟨61,A,B,C,Imm⟩).2.1) by kernel_rfl)
 . exact(show Q63 c m ⟨62,A,B,C,Imm⟩=((Qjl c m ⟨62,A,B,C,Imm⟩).1,(Qjl c m ⟨62,A,B,C,Imm⟩).2.2,(Qjl c m ⟨62,A,B,C,Imm⟩).2.1) by kernel_rfl)
 . exact(show Q63 c m ⟨63,A,B,C,Imm⟩=((Qjl c m ⟨63,A,B,C,Imm⟩).1,(Qjl c m ⟨63,A,B,C,Imm⟩).2.2,(Qjl c m ⟨63,A,B,C,Imm⟩).2.1) by kernel_rfl)
 . exact(show Q63 c m ⟨64,A,B,C,Imm⟩=((Qjl c m ⟨64,A,B,C,Imm⟩).1,(Qjl c m ⟨64,A,B,C,Imm⟩).2.2,(Qjl c m ⟨64,A,B,C,Imm⟩).2.1) by kernel_rfl)
end
theorem zal{op:Int}(h0:0<=op)(h1:op<256)(h:Q2k op≠0):isOp op:=by
 have e:=oY (Qsi (λop=>decide (Q2k op=0\/isOpB op=true)) 256 (by kernel_rfl) h0 h1)
 rcases e with e|e
 . exact absurd e h
 . simpa only[isOpB,isOp,aI,decide_eq_true_eq,or_assoc] using e
theorem vi{op:Int}(o:isOp op):1<=op/\op<=64:=by
 unfold isOp at o
 rcases o with h|h|h|h|h|h|h|h|h|h|h|h|h|h|h|h|h|h|h|h|h|h|h|h|h|h|h|h|h|h|h|h|h|h|h|h|h|h|h|h|h|h|h|h<;>(rw[h];decide)
theorem qj{w:Int}(hw:U w):(Q26 w).2=true->isOp (Q26 w).1.Op:=by
  have s24:ishr .u32 w 24=w/16777216:=by have:=Qr (a:=w) 24 (by decide);simpa using this
  obtain⟨w0,w1⟩:=hw
  have eo:wrap .i64 (w/16777216)=w/16777216:=w64 (by omega) (by omega)
  have q:(λr:Q0m×Bool=>r.2=true->isOp r.1.Op) (Q26 w):=by
    simp only[Q26,Q6x,Tree.m,letv,s24,eo]
    cases hf:Q2k (w/16777216)==0
    . have g:isOp (w/16777216):=zal (by omega) (by omega) (by simpa using hf)
      repeat'(first
        |exact λ_=>g
        |exact λe=>eV (show false=true from e)
        |refine Z3w (Q:=λr:Q0m×Bool=>r.2=true->isOp r.1.Op) ?_ ?_)
    . exact λe=>eV (show false=true from e)
  exact q
section
variable (c:Q05) (m:List Int)
def doR(x:Int×Int×List Int)(w:Int)(d:Q0m×Bool):Q05×Q18×List Int:=
 bif x.2.1 !=0 then(Q2y c x.2.1 c.Pc,eff0,x.2.2) else bif !d.2 then(Q2y c 1 w,eff0,x.2.2) else bif Q3j d.1.Op then(bif iand .u32 c.B5.a0 1==0 then(Q2y c 2 w,eff0,x.2.2) else Qjl c x.2.2 d.1) else Qjl c x.2.2 d.1
def doP(y:Int×List Int×Int)(d:Q0m×Bool):Q05×List Int×Q18:=
 bif y.2.2 !=0 then(Q4s c y.2.2 c.Pc,y.2.1,eff0) else bif !d.2 then(Q4s c 1 y.1,y.2.1,eff0) else bif Q8p d.1.Op then(bif !Qa6 c then(Q4s c 2 y.1,y.2.1,eff0) else Q63 c y.2.1 d.1) else Q63 c y.2.1 d.1
theorem do_eq:Qci c m=doR c (Q17 c m c.Pc 4 1) (Q1g (Q17 c m c.Pc 4 1).2.2 (Q17 c m c.Pc 4 1).1 4).1 (Q26 (Q1g (Q17 c m c.Pc 4 1).2.2 (Q17 c m c.Pc 4 1).1 4).1):=by kernel_rfl
theorem xal:Q57 c m=doP c (Qnj c m) (Qhi (Qnj c m).1):=by kernel_rfl
theorem xJ:Qnj c m=bif(Q2a c m c.Pc 4 1).2.2 !=0 then(0,(Q2a c m c.Pc 4 1).2.1,(Q2a c m c.Pc 4 1).2.2) else((Q4z (Q2a c m c.Pc 4 1).2.1 (Q2a c m c.Pc 4 1).1 4).1,(Q2a c m c.Pc 4 1).2.1,0):=by kernel_rfl
end
theorem Zfg{P:Nat}{m:List Int}(h:Q15 P m){c:Q05}(hc:Q2r c)(hst:c.B5.a0<=31):Q57 c m=((Qci c m).1,(Qci c m).2.2,(Qci c m).2.1):=by
  obtain⟨k,u,b⟩:=Zh3 h hc hc.pc (.inr rfl) 1
  have tr: ∀k b,Q4s c k b=Q2y c k b:=Qok hc.a0.1 hst
  rw[xal,do_eq,xJ,Qnr h hc hst hc.pc (.inr rfl) (.inl rfl)]
  generalize Q17 c m c.Pc 4 1=x at*
  cases hx:x.2.1 !=0
  . rw [Qp2 k u (.inr rfl)]
    have hw:U (Q1g x.2.2 x.1 4).1:=(Tree.pp (Ze7 k u (.inr rfl))).2
    generalize(Q1g x.2.2 x.1 4).1=w at*
    show doP c (w,x.2.2,0) (Qhi w)=_
    rw[yg hw]
    have o:=qj hw
    have i:=Tree.post _ (Zkh w)
    change(Q26 w).2=true->Qfk (Q26 w).1 at i
    generalize Q26 w=d at*
    obtain⟨⟨op,A,B,C,Imm⟩,ok⟩:=d
    cases ok
    . simp only[doP,doR,hx,tr];rfl
    . have o:isOp op:=o rfl
      have i:=i rfl
      have p:=xi (C:=C) (B:=B) (Imm:=Imm) k hc hst i.a o
      have pv:Q8p op=Q3j op:=zai (by have:=vi o;omega) (by have:=vi o;omega)
      have kn:(!Qa6 c)=(iand .u32 c.B5.a0 1==0):=by
        show(!(!(iand .u32 c.B5.a0 1==0)))=_
        exact Bool.not_not _
      simp only[doP,doR,hx,tr,pv,kn,p]
      cases Q3j op
      . rfl
      . cases iand .u32 c.B5.a0 1==0<;>rfl
  . simp only[doP,doR,hx,cond_true,tr]
theorem xj{a b:Int}:decide (a>=b)=!decide (a<b):=by
 by_cases h:a<b
 . rw[dY h,dN (by omega)];rfl
 . rw[dN h,dY (by omega)];rfl
def bits(g:Int)(l:List Nat)(s:Int):Int:=l.foldl (λ(a:Int) (i:Nat)=>wrap .i64 (a+wrap .i64 (iand .u32 (ishr .u32 g (i:Int)) 1))) s
theorem zJ(b:Q09):Qf0 b=bits b.C3 [0,1,2,3,4,5,6,7,8,9,10,11,12,13,14,15,16,17,18,19,20,21,22,23,24,25,26,27,28,29,30,31] 0:=by kernel_rfl
theorem xaH{g:Int}(hg:U g){i:Nat}(hi:i<=32):wrap .i64 (iand .u32 (ishr .u32 g (i:Int)) 1)=g/2^i%2:=by
 rw[and1 (Qvj hg _),Qr i hi]
 have:0<=g/2^i%2/\g/2^i%2<2:=by omega
 exact w64 (by omega) (by omega)
theorem yJ{g:Int}(hg:U g)(l:List Nat): ∀s:Int,(∀i∈l,i<=32)->0<=s->s+l.length<=1000->bits g l s=s+(l.map λi=>g/2^i%2).sum:=by
 induction l with
 |nil=>intro s _ _ _;simp [bits]
 | cons i l ih=>
   intro s hl h0 h1
   have h1:s+(l.length+1)<=1000:=by simpa using h1
   have hb:0<=g/2^i%2/\g/2^i%2<2:=by omega
   have e:bits g (i::l) s=bits g l (s+g/2^i%2):=by
     show bits g l (wrap .i64 (s+wrap .i64 (iand .u32 (ishr .u32 g (i:Int)) 1)))=_
     rw[xaH hg (hl i (by simp)),w64 (by omega) (by omega)]
   rw[e,ih _ (λj hj=>hl j (by simp [hj])) (by omega) (by omega)]
   simp;omega
theorem Znu(n:Q0q)(port:Int):Z1r n port=Ql6 n port:=by
 simp only[Z1r,Qu1,Ql6,Qga,Tree.m]
 cases n.C7<;>cases n.B8<;>rfl
theorem Z51(t:Q0i):Q4h t=Qe0 t:=by
 simp only[Q4h,Qm2,Qe0,Qib,Tree.m]
 cases t.D2<;>cases t.D5<;>rfl
theorem Zd4(n:Q0q)(p:Int):Q69 n p=Qil n p:=by
 simp only[Q69,Ql8,Qil,Qm6,Tree.m]
 cases n.C7<;>cases n.B8<;>rfl
theorem Zbn(d:Q0f)(p:Int):Q1l d p=Qg5 d p:=by
  simp only[Q1l,Q6b,Qa0,Q7v,Qg5,Qko,Tree.m,letv,xj]
  cases decide (d.Blocks>64)
  . by_cases s:d.C0=0\/d.C0=1\/d.C0=2\/d.C0=3
    . rcases s with s|s|s|s<;>rw[s]
      . rfl
      . by_cases c1:d.D8=1
        . rw[c1];cases decide (d.B7<d.Blocks)<;>cases decide (wrap .i64 d.B3<p)<;>cases decide (d.C4=[])<;>rfl
        . by_cases c2:d.D8=2
          . rw[c2];cases decide (d.B7<d.Blocks)<;>cases decide (wrap .i64 d.B3<p)<;>cases(d.C4.length:Int)==128<;>rfl
          . rw[show(d.D8==1)=false by simpa using c1,show(d.D8==2)=false by simpa using c2]
            cases decide (d.B7<d.Blocks)<;>cases decide (wrap .i64 d.B3<p)<;>rfl
      . rfl
      . rfl
    . rw[show(d.C0==0)=false by simp;omega,show(d.C0==1)=false by simp;omega,show(d.C0==2)=false by simp;omega,show(d.C0==3)=false by simp;omega]
      by_cases n:d.C0<0
      . rw[dY n];rfl
      . rw[dN n,dY (show d.C0>3 by omega)];rfl
  . rfl
theorem vJ(c:Q0d):Q9m c=Q5v c:=by
 show(!decide (c.D3=[]))=decide ((c.D3.length:Int)>0)
 cases c.D3 with
 |nil=>rfl
 |cons a l=>rw[dN (by simp),dY (by simp)];rfl
theorem qam(k:List UInt8):decide (k=[])=((k.length:Int)==0):=by
 cases k with
 |nil=>rfl
 | cons a l=>
   rw[dN (by simp)]
   exact(beq_eq_false_iff_ne.2 (by simp;omega)).symm
theorem Zoh(c:Q0d)(port:Int):Qpq c port=Q74 c port:=by
 simp only[Qpq,Q9x,Q74,Q3o,Tree.m,qam]
 cases port==0
 . rfl
 . cases(c.D3.length:Int)==0<;>rfl
theorem qK(t:Q0i)(v:Int):Qlc t v=Z05 v:=by
 simp only[Qlc,Qmn,Z05,Qwr,Tree.m]
 cases h:v==0
 . rw[show(v !=0)=true by simp only[bne,h];rfl];rfl
 . rw[show(v !=0)=false by simp only[bne,h];rfl,eq_of_beq h];rfl
section
variable {P:Nat} {m:List Int} (h:Q15 P m)
include h
theorem Z6w(f:Int):Q9k m f=Q2c m f:=by
 have a:=Q3v h
 have b:=Qfb h
 simp only[Q9k,Qe6,Q2c,Qif,Tree.m,letv,a,b]
theorem Z7o(f:Int):Qan m f=Q2c m f:=by
 have a:=Q3v h
 have b:=Qfb h
 simp only[Qan,Qfv,Q2c,Qif,Tree.m,letv,a,b]
theorem Zde(d:Q0f)(port v at0:Int):Z0f d m port v at0=Qk4 d m port v at0:=by
  have pg:=Z6w h
  have pa:=Zg9 h
  have rq: ∀d a,Qk6 d a=Qk0 d a:=λ_ _=>rfl
  simp only[Z0f,Qhr,Qw8,Qcy,Qk4,Q8u,Tree.m,letv,pg,pa,rq]
  cases port==4
  . cases port==5
    . cases h6:port==6
      . rw[show(port !=6)=true by simp only[bne,h6];rfl];rfl
      . rw [show(port !=6)=false by simp only[bne,h6];rfl]
        by_cases v1:v=1
        . subst v1
          cases hs:d.C0==0
          . rw[show(d.C0 !=0)=true by simp only[bne,hs];rfl];rfl
          . rw[show(d.C0 !=0)=false by simp only[bne,hs];rfl];rfl
        . by_cases v2:v=2
          . subst v2
            cases hs:d.C0==0
            . rw[show(d.C0 !=0)=true by simp only[bne,hs];rfl];rfl
            . rw[show(d.C0 !=0)=false by simp only[bne,hs];rfl];rfl
          . rw[show(v==1)=false by simpa using v1,show(v==2)=false by simpa using v2]
            cases v==0
            . rfl
            . have:Q9p d=(bif d.C0==2 then true else d.C0==3):=rfl
              rw[this]
              cases d.C0==2<;>cases d.C0==3<;>rfl
    . rfl
  . rfl
theorem Zh6(n:Q0q)(port v at0:Int):Zbd n m port v at0=Qm7 n m port v at0:=by
  have pg:=Z7o h
  have pa:=Zg9 h
  simp only[Zbd,Ql9,Zb,Qho,Qm7,Qas,Tree.m,letv,pg,pa]
  have g1:decide (n.E0>=1)=!decide (n.E0<1):=xj
  have g2:decide (n.E0<=128)=!decide (n.E0>128):=by
    by_cases h:n.E0>128
    . rw[dY h,dN (by omega)];rfl
    . rw[dN h,dY (by omega)];rfl
  rw[g1,g2]
  cases port==7
  . cases port==8
    . cases h9:port==9
      . rw[show(port !=9)=true by simp only[bne,h9];rfl];rfl
      . rw [show(port !=9)=false by simp only[bne,h9];rfl]
        by_cases v1:v=1
        . subst v1
          cases decide (n.E0<1)<;>cases decide (n.E0>128)<;>cases Q2c m n.Frame<;>rfl
        . by_cases v2:v=2
          . subst v2;rfl
          . rw[show(v==1)=false by simpa using v1,show(v==2)=false by simpa using v2]
            cases v==0<;>rfl
    . rfl
  . rfl
theorem Zc{d:Q0f}(hd:Q91 d)(e:Q0a):Qh1 d m e=((Q9w d m e).1,(Q9w d m e).2.2,(Q9w d m e).2.1):=by
  have hcl:Q03 m=m:=rfl
  have pg:=Z6w h d.B3
  have lp:decide ((e.C9.length:Int)>0)=!decide (e.C9=[]):=by
    cases e.C9 with
    |nil=>rfl
    |cons a l=>rw[dY (by simp),dN (by simp)];rfl
  have bad:(e.C9.length:Int)≠128->Q2c m d.B3=true->Q3 m (wrap .i64 d.B3) e.C9=(m,false):=λhl hp=>by
    rw[Qmd h hd.opFrame]at hp
    have hp:=oY hp
    have h1:=hd.opFrame.1
    have h3:=h.p2
    have ew:i64.wrap d.B3=d.B3:=w64 (by omega) (by omega)
    simp only[Q3,Q3p,Tree.m,letv,hcl,ew,Zc0 h,dY (⟨h1,hp⟩:0<=d.B3/\d.B3<P),show((e.C9.length:Int) !=128)=true by simpa using hl]
    rfl
  have good:(e.C9.length:Int)=128->Q2c m d.B3=true->Q3 m (wrap .i64 d.B3) e.C9=(Qli m (wrap .i64 d.B3) e.C9,true):=λhl hp=>by
    rw[Qmd h hd.opFrame]at hp
    have hp:=oY hp
    have h1:=hd.opFrame.1
    have h3:=h.p2
    have ew:i64.wrap d.B3=d.B3:=w64 (by omega) (by omega)
    rw[ew];exact Zgb h h1 hp (by omega)
  simp only[Qh1,Q7u,Q9w,Q6o,Tree.m,letv,hcl,pg,lp]
  cases d.C0 !=1
  . cases e.B6 !=4
    . cases decide (e.N>1)
      . cases e.N==1
        . cases decide (e.C9=[])<;>rfl
        . cases hc:d.D8==1
          . cases decide (e.C9=[])<;>rfl
          . by_cases hl:(e.C9.length:Int)=128
            . rw[show((e.C9.length:Int) !=128)=false by simpa using hl]
              cases hp:Q2c m d.B3
              . rfl
              . rw[good hl hp];rfl
            . rw[show((e.C9.length:Int) !=128)=true by simpa using hl]
              cases hp:Q2c m d.B3
              . rfl
              . rw[bad hl hp];rfl
      . rfl
    . rfl
  . rfl
theorem Zeh{n:Q0q}(hn:Qjm n)(frame:List UInt8):Qm5 n m frame=((Q97 n m frame).1,(Q97 n m frame).2.2,(Q97 n m frame).2.1):=by
  have hcl:Q03 m=m:=rfl
  have pg:=Z7o h n.B9
  simp only[Qm5,Qak,Q97,Q6k,Tree.m,letv,hcl,pg]
  cases !n.C7
  . cases decide ((frame.length:Int)<1)
    . cases hf:decide ((frame.length:Int)>128)
      . cases hp:Q2c m n.B9
        . rfl
        . rw[Qmd h hn.buffer]at hp
          have hp:=oY hp
          have h1:=hn.buffer.1
          have h3:=h.p2
          have ew:i64.wrap n.B9=n.B9:=w64 (by omega) (by omega)
          have hf:=oN hf
          obtain⟨b1,b2⟩:=(Tree.pp (zh h h1 hp)).2
          change isPg m n.B9 (Q6 m n.B9).1 at b1
          have tk:cW (dB ((Q6 m n.B9).1.length:Int)-dB (frame.length:Int)) (cX (dB (frame.length:Int)) (Q6 m n.B9).1)=(Q6 m n.B9).1.drop frame.length:=by
            rw[dZ,dZ]
            exact eW (by simp)
          rw[ew,tk,Zdj h h1 hp (by omega) b1]
          rfl
      . rfl
    . rfl
  . rfl
end
def ptab:List UInt8:=(cY 256).map λn=>eT (n%2+n/2%2+n/4%2+n/8%2+n/16%2+n/32%2+n/64%2+n/128%2)
def pt(n:Int):Int:=((eS (ptab.getD n.toNat 0):Nat):Int)
theorem xK(x:Int):Q7 x=wrap .i64 (wrap .u8 (wrap .u8 (wrap .u8 (pt (ishr .u32 x 24)+pt (iand .u32 (ishr .u32 x 16) 255))+pt (iand .u32 (ishr .u32 x 8) 255))+pt (iand .u32 x 255))):=by kernel_rfl
theorem pt8{a:Int}(h0:0<=a)(h1:a<256):pt a=a%2+a/2%2+a/4%2+a/8%2+a/16%2+a/32%2+a/64%2+a/128%2:=
 eq_of_beq (Qsi (λa=>pt a==a%2+a/2%2+a/4%2+a/8%2+a/16%2+a/32%2+a/64%2+a/128%2) 256 (by kernel_rfl) h0 h1)
theorem zj{g:Int}(hg:U g):bits g [0,1,2,3,4,5,6,7,8,9,10,11,12,13,14,15,16,17,18,19,20,21,22,23,24,25,26,27,28,29,30,31] 0=pt (g%256)+pt (g/256%256)+pt (g/65536%256)+pt (g/16777216):=by
 rw[yJ hg _ 0 (by decide) (by decide) (by decide),pt8 (by omega) (by omega),pt8 (by omega) (by omega),pt8 (by omega) (by omega),pt8 (by have:=hg.1;omega) (by have:=hg.2;omega)]
 obtain⟨g0,g1⟩:=hg
 simp only[List.map_cons,List.map_nil,List.sum_cons,List.sum_nil]
 have e: ∀i j:Nat,∀k:Int,i<8->k=2^j->g/2^(i+j)%2=(g/k%256)/2^i%2:=λi j k hi hk=>by
   subst hk
   rw[Nat.add_comm,dM,<-eX (dL (dJ (by decide)))]
   generalize g/2^j=x
   have:i=0\/i=1\/i=2\/i=3\/i=4\/i=5\/i=6\/i=7:=by omega
   rcases this with rfl|rfl|rfl|rfl|rfl|rfl|rfl|rfl<;>simp<;>omega
 have e0: ∀i:Nat,i<8->g/2^i%2=(g%256)/2^i%2:=λi hi=>by have:=e i 0 1 hi rfl;simpa using this
 have e24:g/16777216%256=g/16777216:=by omega
 rw[e0 0 (by decide),e0 1 (by decide),e0 2 (by decide),e0 3 (by decide),e0 4 (by decide),e0 5 (by decide),e0 6 (by decide),e0 7 (by decide)]
 rw[e 0 8 256 (by decide) (by decide),e 1 8 256 (by decide) (by decide),e 2 8 256 (by decide) (by decide),e 3 8 256 (by decide) (by decide),e 4 8 256 (by decide) (by decide),e 5 8 256 (by decide) (by decide),e 6 8 256 (by decide) (by decide),e 7 8 256 (by decide) (by decide)]
 rw[e 0 16 65536 (by decide) (by decide),e 1 16 65536 (by decide) (by decide),e 2 16 65536 (by decide) (by decide),e 3 16 65536 (by decide) (by decide),e 4 16 65536 (by decide) (by decide),e 5 16 65536 (by decide) (by decide),e 6 16 65536 (by decide) (by decide),e 7 16 65536 (by decide) (by decide)]
 rw[e 0 24 16777216 (by decide) (by decide),e 1 24 16777216 (by decide) (by decide),e 2 24 16777216 (by decide) (by decide),e 3 24 16777216 (by decide) (by decide),e 4 24 16777216 (by decide) (by decide),e 5 24 16777216 (by decide) (by decide),e 6 24 16777216 (by decide) (by decide),e 7 24 16777216 (by decide) (by decide),e24]
 generalize g%256=a
 generalize g/256%256=b
 generalize g/65536%256=c
 generalize g/16777216=d
 simp only[show(2:Int)^0=1 from rfl,show(2:Int)^1=2 from rfl,show(2:Int)^2=4 from rfl,show(2:Int)^3=8 from rfl,show(2:Int)^4=16 from rfl,show(2:Int)^5=32 from rfl,show(2:Int)^6=64 from rfl,show(2:Int)^7=128 from rfl,Int.ediv_one]
 omega
theorem pt_le{a:Int}(h0:0<=a)(h1:a<256):0<=pt a/\pt a<=8:=by rw[pt8 h0 h1];omega
theorem Z78{b:Q09}(hg:U b.C3):Qdf b=Qf0 b/\0<=Qf0 b/\Qf0 b<=32:=by
 obtain⟨s8,s16,s24⟩:=shr_c b.C3
 have u8:U (ishr .u32 b.C3 8):=Qvj hg _
 have u16:U (ishr .u32 b.C3 16):=Qvj hg _
 have e:Qdf b=Q7 b.C3:=rfl
 rw[e,xK,zJ,zj hg,m255 u8,m255 u16,m255 hg,s8,s16,s24]
 obtain⟨g0,g1⟩:=hg
 have p0:=pt_le (a:=b.C3%256) (by omega) (by omega)
 have p1:=pt_le (a:=b.C3/256%256) (by omega) (by omega)
 have p2:=pt_le (a:=b.C3/65536%256) (by omega) (by omega)
 have p3:=pt_le (a:=b.C3/16777216) (by omega) (by omega)
 have w8: ∀x,wrap .u8 x=x%256:=λx=>wrap_u8 x
 rw[w8,w8,w8,wrap_i64]
 omega
theorem Zgf{b:Q09}(h:okB b):Q7t b=Q3y b:=by
 obtain⟨e,l0,l1⟩:=Z78 h.2
 obtain⟨t0,t1⟩:=h.1
 simp only[Q7t,Q5n,Q3y,Q93,Tree.m,letv,e]
 rw[wrap_u32,wrap_u64,wrap_u64,dI l0 (by omega),dI l0 (by omega),dI t0 (by omega)]
theorem Zm6{b:Q09}(h:okB b)(port:Int):Qq4 b port=Q73 b port:=by
 simp only[Qq4,Qcu,Q73,Q6c,Tree.m,letv,(Z78 h.2).1]
theorem zam(g:Int)(z:Nat):g%2^(z+1)=g%2^z+2^z*(g/2^z%2):=by
 have hp:(0:Int)<2^z:=dJ (by decide)
 have h1:=eY g (2^z)
 have h2:=eY (g/2^z) 2
 have h3:(g/2^z)/2=g/2^(z+1):=by rw[eZ,eX (dL hp)]
 have h4:=eY g (2^(z+1))
 rw[h3]at h2
 have h5:(2:Int)^(z+1)*(g/2^(z+1))=2^z*(2*(g/2^(z+1))):=by rw[eZ,Int.mul_assoc]
 have h6:(2:Int)^z*(g/2^z)=2^z*(2*(g/2^(z+1)))+2^z*(g/2^z%2):=by rw[<-Int.mul_add,h2]
 omega
theorem qaI{b:Q09}(hg:U b.C3){P:Nat}(hP:P<=32):(Q5m b P).w (λr=>r=decide (b.C3<2^P)):=by
 unfold Q5m
 have fin: ∀v:Int,0<=v->v<=32->wrap .u64 v=(v.toNat:Int):=λv h0 h1=>by rw[wrap_u64];omega
 refine w_lp (inv:=λz:Int=>0<=z/\z<=32/\b.C3%2^z.toNat<2^P) (μ:=Q6i b P) ⟨by decide,by decide,by have:(0:Int)<2^P:=dJ (by decide);simpa using this⟩ (cK _) λz ⟨z0,z1,z2⟩=> ?_
 refine w_br (λhb=> ?_) (λhb=> ?_)
 . have hb:=oY hb
   have ew:i64.wrap (z+1)=z+1:=w64 (by omega) (by omega)
   have bt:iand .u32 (ishr .u32 b.C3 (wrap .u64 z)) 1=b.C3/2^z.toNat%2:=by
     rw[fin z z0 z1,and1 (Qvj hg _),Qr _ (by omega)]
   have bp:=zam b.C3 z.toNat
   have zt:(z+1).toNat=z.toNat+1:=by omega
   refine w_cn (dY (by rw[wrap_u64];omega)) ?_
   rw[bt]
   refine w_br (λe=>w_br (λhp=> ?_) (λhp=>w_nx ?_)) (λe=>w_nx ?_)
   . have e:=eq_of_beq e
     have hp:=oY hp
     show false=_
     refine(dN λhlt=> ?_).symm
     have hle:(2:Int)^P<=2^z.toNat:=by exact_mod_cast dP (show 0<2 by decide) (show P<=z.toNat by omega)
     have:b.C3/2^z.toNat=0:=Int.ediv_eq_zero_of_lt hg.1 (by omega)
     rw[this]at e;cases e
   . have e:=eq_of_beq e
     have hp:=oN hp
     show(0<=i64.wrap (z+1)/\i64.wrap (z+1)<=32/\b.C3%2^(i64.wrap (z+1)).toNat<2^P)/\(32-i64.wrap (z+1)).toNat<(32-z).toNat
     rw[ew,zt]
     have hle:(2:Int)^(z.toNat+1)<=2^P:=by exact_mod_cast dP (show 0<2 by decide) (show z.toNat+1<=P by omega)
     have:=Int.emod_lt_of_pos b.C3 (show(0:Int)<2^(z.toNat+1) from dJ (by decide))
     exact⟨⟨by omega,by omega,by omega⟩,by omega⟩
   . have e: ¬b.C3/2^z.toNat%2=1:=by simpa using e
     have e:b.C3/2^z.toNat%2=0:=by omega
     rw[e]at bp
     show(0<=i64.wrap (z+1)/\i64.wrap (z+1)<=32/\b.C3%2^(i64.wrap (z+1)).toNat<2^P)/\(32-i64.wrap (z+1)).toNat<(32-z).toNat
     rw[ew,zt,bp]
     exact⟨⟨by omega,by omega,by omega⟩,by omega⟩
 . have hb:=oN hb
   have:z=32:=by omega
   subst this
   show true=_
   refine(dY ?_).symm
   have h2:b.C3%2^(32:Int).toNat=b.C3:=dI hg.1 hg.2
   rwa [h2]at z2
theorem Zj0{b:Q09}(hg:U b.C3){P:Nat}(hP:P<=32):Q2w b P=Q9u b P:=by
 have r:=(Tree.pp (qaI hg hP)).2
 change Q9u b P=_ at r
 rw[r,eF,Z3c hg,decide_eq_true_eq]
theorem zeros:strings_Repeat [(0:UInt8)] 128=cL 128 0:=by kernel_rfl
theorem zaI{P:Nat}{m:List Int}(hm:Q15 P m){b:Q09}{port:Int}{v:Int}(hv:U v)(hp:v<P)(h10:port=10)(hb:(iand .u32 (ishr .u32 b.C3 v) 1==0)=true):(Q4y b m port v).w (λr=>r.1={D0:=b.D0,C3:=ior .u32 b.C3 (ishl .u32 1 v)}/\Q15 P r.2/\ ∀k:Nat,byt r.2 k=if v*128<=k/\(k:Int)<v*128+128 then 0 else byt m k):=by
 have hv0:decide (0<=v)=true:=dY hv.1
 have h2:=hm.p2
 have pg:Q2c m v=true:=by rw[Qmd hm hv];exact dY hp
 obtain⟨v1,v2⟩:=hv
 subst h10
 unfold Q4y
 refine w_br (λ_=>w_lv λx0 hx=>w_br (λ_=>w_cn hv0 (w_br (λ_=>w_cn hv0 ?_) (λh=>by rw[hb]at h;cases h))) (λh=>by rw[hx,pg]at h;cases h)) (λh=>by cases h)
 refine w_lp (inv:=λz=>0<=z.1/\z.1<=32/\Q15 P z.2/\ ∀k:Nat,byt z.2 k=if v*128<=k/\(k:Int)<v*128+4*z.1 then 0 else byt m k) (μ:=Qid b m 10 v) ⟨show(0:Int)<=0 by decide,show(0:Int)<=32 by decide,hm,λk=>by rw[if_neg];show¬(_/\_<_+4*(0:Int));omega⟩ (cK _) (λz hz=> ?_)
 obtain⟨z1,z2,z3,z4⟩:=hz
 have hl:=z3.len
 refine w_br (λh=> ?_) (λh=>⟨rfl,z3,λk=> ?_⟩)
 . have h:=oY h
   have e:wrap i64 (wrap i64 (wrap i64 v*32)+z.1)=v*32+z.1:=by rw[wrap_i64,wrap_i64,wrap_i64];omega
   refine w_cn (by rw[e];simp [bT];omega) (w_nx ?_)
   have ew:i64.wrap (z.1+1)=z.1+1:=by rw[wrap_i64];omega
   show(0<=i64.wrap (z.1+1)/\i64.wrap (z.1+1)<=32/\Q15 P (dC _ _ _)/\ ∀k:Nat,byt (dC z.2 (dB (wrap i64 (wrap i64 (wrap i64 v*32)+z.1))) 0) k=if v*128<=(k:Int)/\(k:Int)<v*128+4*i64.wrap (z.1+1) then 0 else _)/\(32-i64.wrap (z.1+1)).toNat<(32-z.1).toNat
   rw[ew,e]
   refine⟨⟨by omega,by omega,⟨by simp [hl],z3.p1,z3.p2,Z4p z3.u U_0 _⟩,λk=> ?_⟩,by omega⟩
   rw[Zig (by omega)]
   by_cases hc:k/4=(v*32+z.1).toNat
   . rw[if_pos hc,if_pos (by omega)]
     have:k%4=0\/k%4=1\/k%4=2\/k%4=3:=by omega
     rcases this with h|h|h|h<;>rw[h]<;>rfl
   . rw[if_neg hc,z4 k]
     by_cases hd:v*128<=(k:Int)/\(k:Int)<v*128+4*z.1
     . rw[if_pos hd,if_pos (by omega)]
     . rw[if_neg hd,if_neg (by omega)]
 . have h:=oN h
   show byt z.2 k=_
   rw[z4 k,show z.1=32 by omega];rfl
theorem bitv{g v:Int}(hg:U g)(v0:0<=v)(v1:v<32):(iand .u32 g (ishl .u32 1 v)==0)=(iand .u32 (ishr .u32 g v) 1==0):=by
 obtain⟨z,rfl⟩: ∃z:Nat,v=z:=⟨v.toNat,by omega⟩
 obtain⟨n,rfl⟩: ∃n:Nat,g=n:=⟨g.toNat,by have:=hg.1;omega⟩
 have hz:z<32:=by omega
 have hlt:(2:Nat)^z<4294967296:=by have:=dX (show 1<2 by omega) hz;simpa using this
 rw[and1 (Qvj hg _),Qr z (by omega),yf v0 v1,dZ]
 have hc:((2:Int)^z)=((2^z:Nat):Int):=by simp
 generalize hq:2^z=q at*
 rw[hc,Zil hg ⟨by omega,by omega⟩,dZ,dZ,<-hq]
 have e1:(n&&&2^z)=0↔n/2^z%2=0:=by
   have t:n.testBit z=decide (n/2^z%2=1):=Nat.testBit_eq_decide_div_mod_eq
   constructor
   . intro h
     have h2:(n&&&2^z).testBit z=false:=by rw[h];exact fA z
     rw[fB,Nat.testBit_two_pow_self,Bool.and_true,t]at h2
     have:=oN h2
     omega
   . intro h
     have t0:n.testBit z=false:=by rw[t];exact dN (by omega)
     apply eI
     intro i
     rw[fB,Nat.testBit_two_pow,fA]
     by_cases hi:z=i
     . subst hi;rw[t0];rfl
     . rw[dN hi,Bool.and_false]
 rw[eF,beq_iff_eq,beq_iff_eq]
 constructor
 . intro h;have:=e1.1 (by omega);omega
 . intro h;have:=e1.2 (by omega);omega
theorem Zin{P:Nat}{m:List Int}(h:Q15 P m){b:Q09}(hb:okB b)(port:Int){v:Int}(hv:U v):Q85 b m port v=Q7q b m port v:=by
  have hcl:Q03 m=m:=rfl
  have hp:=Q3v h
  have h2:=h.p2
  have ew:i64.wrap v=v:=w64 (by have:=hv.1;omega) (by have:=hv.2;omega)
  have pe:=Qmd h hv
  by_cases h32:v<32
  . have bv :=bitv hb.2 hv.1 h32
    by_cases h10:port=10
    . by_cases hP:v<P
      . cases hz:iand .u32 (ishr .u32 b.C3 v) 1==0
        . simp only[Q85,Q47,Q7q,Q4y,Tree.m,letv,hcl,hp,ew,pe,bv,hz,h10,dY hP,dN (show¬v>=32 by omega)]
          rfl
        . obtain⟨g1,g2,g3⟩:=(Tree.pp (zaI h hv hP h10 hz)).2
          change(Q7q b m port v).1=_ at g1
          change Q15 P (Q7q b m port v).2 at g2
          change∀k:Nat,byt (Q7q b m port v).2 k=_ at g3
          obtain⟨s1,s2,s3⟩:=(Tree.pp (Z24 h hv.1 hP (s:=cL 128 0) (by simp))).2
          have em:(Q3 m v (cL 128 0)).1=(Q7q b m port v).2:=by
            refine Zie (s2.len.trans g2.len.symm) s2.u g2.u λk=> ?_
            rw[g3 k]
            refine(s3 k).trans ?_
            by_cases hk:v*128<=(k:Int)/\(k:Int)<v*128+128
            . rw[if_pos hk,if_pos hk]
              have:(cL 128 (0:UInt8)).getD ((k:Int)-v*128).toNat 0=0:=by
                rw[cZ,List.getElem?_replicate]
                split<;>rfl
              rw[this];rfl
            . rw[if_neg hk,if_neg hk]
          have el:Q85 b m port v=({D0:=b.D0,C3:=ior .u32 b.C3 (ishl .u32 1 v)},(Q3 m v (cL 128 0)).1):=by
            simp only[Q85,Q47,Tree.m,letv,hcl,hp,ew,bv,hz,h10,dY hP,dN (show¬v>=32 by omega),zeros]
            rfl
          rw[el,em,<-g1]
      . simp only[Q85,Q47,Q7q,Q4y,Tree.m,letv,hcl,hp,ew,pe,h10,dN hP,dN (show¬v>=32 by omega)]
        rfl
    . simp only[Q85,Q47,Q7q,Q4y,Tree.m,letv,hcl,dY h32,dN (show¬v>=32 by omega),show(port==10)=false by simpa using h10]
      cases port==11<;>rfl
  . simp only[Q85,Q47,Q7q,Q4y,Tree.m,letv,hcl,pe,dN h32,dY (show v>=32 by omega),dN (show¬v<P by omega)]
    cases port==10<;>cases port==11<;>rfl
structure okV(m:Q00):Prop where
 cpu:Q2r m.B1
 mem: ∀w∈m.Mem,U w
 disk:Q91 m.B2
 nic:Qjm m.C6
 bal:okB m.A2
 cnt:0<=m.A1
theorem Qor(m:List Int)(hm: ∀w∈m,U w):Q1 m=Q3x m/\(Q1 m=0\/ ∃P:Nat,1<=P/\Q15 P m):=by
 refine⟨rfl,?_⟩
 simp only[Q1,Q8k,Tree.m]
 cases h1:dA (m.length:Int) 32 !=0
 . cases h2:decide ((m.length:Int)>1024)
   . have h1:dA (m.length:Int) 32=0:=by simpa using h1
     have h2:=oN h2
     rw[eB (by omega)]at h1
     by_cases h0:m.length=0
     . left;rw[h0];rfl
     . right;exact⟨m.length/32,by omega,⟨by omega,by omega,by omega,hm⟩⟩
   . left;rfl
 . left;rfl
theorem rcnd{a x:Bool}:(bif !a then false else x)=true↔a=true/\x=true:=by cases a<;>simp
theorem zK(m:Q00):Q55 m=true↔ ¬(Q3x m.Mem<1)/\Q65 m.B1/\Qih m.A4=true/\Qe0 m.B0=true/\Qg5 m.B2 (Q3x m.Mem)=true/\Qil m.C6 (Q3x m.Mem)=true/\Q9u m.A2 (Q3x m.Mem)=true/\m.A1<=1152921504606846976/\ ¬(m.A7=true/\m.A9=true):=by
 simp only[Q55,Qwg,Tree.m,letv]
 rw[cnd2,cnd2,cnd2,cnd2,cnd2,cnd2,rcnd,rcnd,rcnd,rcnd,rcnd]
 simp only[decide_eq_false_iff_not,Int.not_lt,bne_eq_false_iff_eq,gt_iff_lt]
 have l:((bif decide (m.A1<=1152921504606846976) then(bif m.A7 then !m.A9 else true) else false)=true)↔m.A1<=1152921504606846976/\ ¬(m.A7=true/\m.A9=true):=by
   by_cases hc:m.A1<=1152921504606846976
   . rw[dY hc]
     cases m.A7<;>cases m.A9<;>simp [hc]
   . rw[dN hc];simp [hc]
 rw[l]
 constructor
 . rintro⟨a1,a2,a3,a4,a5,a6,a7⟩
   exact⟨by omega,⟨a2,a3,a4,a5,a6⟩,a7⟩
 . rintro⟨a1,⟨a2,a3,a4,a5,a6⟩,a7⟩
   exact⟨by omega,a2,a3,a4,a5,a6,a7⟩
theorem Za6{m:Q00}(h:okV m):Q1a m=Q55 m:=by
 rw[eF,Qlw,zK,qf]
 obtain⟨e,c⟩:=Qor m.Mem h.mem
 simp only[aE,<-e]
 rcases c with c|⟨P,hP,hm⟩
 . constructor
   . rintro⟨a,_⟩;exact absurd c a
   . rintro⟨a,_⟩;omega
 . rw[Q3v hm,Z51,Zbn,Zd4,Zj0 h.bal.2 hm.p2]
   constructor
   . rintro⟨a1,a2,a3,a4,a5,a6,a7,a8,a9⟩;exact⟨by omega,a2,a5,a6,a7,a8,a9,a3,a4⟩
   . rintro⟨a1,a2,a5,a6,a7,a8,a9,a3,a4⟩;exact⟨by omega,a2,a3,a4,a5,a6,a7,a8,a9⟩
def Z95(a b c d e:Bool):Int:=ior .u32 (ior .u32 (ior .u32 (ior .u32 (Q9y a 0) (Q9y b 1)) (Q9y c 2)) (Q9y d 3)) (Q9y e 4)
theorem mlines(m:Q00):Qdb m=Z95 (Qh0 m.B0) (Q9m m.A4) (Q9p m.B2) (Qm m.C6) (Q7t m.A2):=by
 unfold Qdb Q7p
 simp only[Tree.m,letv]
 generalize Qh0 m.B0=a
 generalize Q9m m.A4=b
 generalize Q9p m.B2=c
 generalize Qm m.C6=d
 generalize Q7t m.A2=e
 cases a<;>cases b<;>cases c<;>cases d<;>cases e<;>kernel_rfl
theorem Zmt(a b c d e:Bool):0<=Z95 a b c d e/\Z95 a b c d e<32:=by
 cases a<;>cases b<;>cases c<;>cases d<;>cases e<;>decide
theorem rlines(m:Q00):Qhh m=Z95 (Qal m.B0) (Q5v m.A4) (Qby m.B2) (Qe2 m.C6) (Q3y m.A2):=rfl
section
variable {m:Q00} (h:okV m)
include h
theorem Zm2:Qdb m=Qhh m:=by
 rw[mlines,rlines,vJ,Zgf h.bal];rfl
theorem Qy7:Q5x m=Q36 m:=by
 have e:=Zm2 h
 simp only[Q5x,Q38,Q36,Q8q,Tree.m,letv,e]
theorem Zed:Q37 m=Qdv m:=by
 have e:=Qy7 h
 simp only[Q37,Q3d,Qdv,Qel,Tree.m,letv,e]
theorem Qsr:Q2h m=!Q0r m:=by
 have e1:=Za6 h
 have e2:=Zed h
 have e3:decide (m.A1>=1152921504606846976)=!decide (m.A1<1152921504606846976):=xj
 simp only[Q2h,Q45,Q0r,Qfp,Tree.m,letv,e1,e2,e3]
 cases Q55 m<;>cases m.A9<;>cases Qdv m<;>cases decide (m.A1<1152921504606846976)<;>rfl
theorem Z7i:0<=Q36 m/\Q36 m<32:=by
 have e:Q36 m=iand .u32 (Qhh m) m.B1.B5.a7:=rfl
 have l:=Zmt (Qal m.B0) (Q5v m.A4) (Qby m.B2) (Qe2 m.C6) (Q3y m.A2)
 rw[<-rlines]at l
 rw[e,Zil ⟨l.1,by omega⟩ h.cpu.a7]
 have:=dW (n:=(Qhh m).toNat) (m:=m.B1.B5.a7.toNat)
 omega
def low(l:Int):Int:=if l%2=1 then 0 else if l/2%2=1 then 1 else if l/4%2=1 then 2 else if l/8%2=1 then 3 else 4
end
theorem cases32{l:Int}(h0:0<=l)(h1:l<32):l=0\/l=1\/l=2\/l=3\/l=4\/l=5\/l=6\/l=7\/l=8\/l=9\/l=10\/l=11\/l=12\/l=13\/l=14\/l=15\/l=16\/l=17\/l=18\/l=19\/l=20\/l=21\/l=22\/l=23\/l=24\/l=25\/l=26\/l=27\/l=28\/l=29\/l=30\/l=31:=by omega
def intr(m:Q00)(l:Int):Q05:=bif iand .u32 m.B1.B5.a0 2==0 then m.B1 else bif l==0 then m.B1 else Q2y m.B1 (wrap .i64 (16+low l)) 0
theorem rintr{m:Q00}(h:okV m):Q0t m=intr m (Q36 m):=by
 obtain⟨l0,l1⟩:=Z7i h
 unfold Q0t Q4r
 simp only[Tree.m,letv]
 revert l0 l1
 generalize Q36 m=l
 intro l0 l1
 unfold intr
 cases iand .u32 m.B1.B5.a0 2==0
 . rcases cases32 l0 l1 with rfl|rfl|rfl|rfl|rfl|rfl|rfl|rfl|rfl|rfl|rfl|rfl|rfl|rfl|rfl|rfl|rfl|rfl|rfl|rfl|rfl|rfl|rfl|rfl|rfl|rfl|rfl|rfl|rfl|rfl|rfl|rfl<;>kernel_rfl
 . rfl
def beg(m:Q00)(c:Q05):Q00:={B1:=c,Mem:=m.Mem,A4:=m.A4,B0:=m.B0,B2:=m.B2,C6:=m.C6,A2:=m.A2,A1:=m.A1,A7:=false,A9:=m.A9}
theorem Qx4{m:Q00}(h:okV m)(hst:m.B1.B5.a0<=31):Q0s m=beg m (Q0t m):=by
 obtain⟨l0,l1⟩:=Z7i h
 have tr: ∀k b,Q4s m.B1 k b=Q2y m.B1 k b:=Qok h.cpu.a0.1 hst
 have e:Q5x (beg m m.B1)=Q36 m:=Qy7 (m:=beg m m.B1) ⟨h.cpu,h.mem,h.disk,h.nic,h.bal,h.cnt⟩
 rw[rintr h]
 unfold Q0s Q31
 simp only[Tree.m,letv]
 rw[show Q5x {B1:=m.B1,Mem:=m.Mem,A4:=m.A4,B0:=m.B0,B2:=m.B2,C6:=m.C6,A2:=m.A2,A1:=m.A1,A7:=false,A9:=m.A9}=Q36 m from e]
 revert l0 l1
 generalize Q36 m=l
 intro l0 l1
 unfold intr
 simp only[<-tr]
 cases iand .u32 m.B1.B5.a0 2==0
 . rcases cases32 l0 l1 with rfl|rfl|rfl|rfl|rfl|rfl|rfl|rfl|rfl|rfl|rfl|rfl|rfl|rfl|rfl|rfl|rfl|rfl|rfl|rfl|rfl|rfl|rfl|rfl|rfl|rfl|rfl|rfl|rfl|rfl|rfl|rfl<;>(show _=_;kernel_rfl)
 . rfl
theorem ports{p:Int}:p=0\/p=1\/p=2\/p=3\/p=4\/p=5\/p=6\/p=7\/p=8\/p=9\/p=10\/p=11\/p<0\/12<=p:=by omega
theorem xam{m:Q00}(hb:okB m.A2)(port clock:Int):Q16 m port clock=((Qj4 m port clock).2,(Qj4 m port clock).1):=by
 have e1:=Zoh m.A4
 have e2: ∀p,Qw0 m.B2 p=Qm9 m.B2 p:=λ_=>rfl
 have e3:=Znu m.C6
 have e4:=Zm6 hb
 have e5:Z0b m.B0=Qk2 m.B0:=rfl
 simp only[Q16,Q3h,Qj4,Qo0,Tree.m,letv,e1,e2,e3,e4,e5]
 rcases ports (p:=port) with rfl|rfl|rfl|rfl|rfl|rfl|rfl|rfl|rfl|rfl|rfl|rfl|h|h
 all_goals first|rfl|skip
 . have n: ∀k:Int,0<=k->(port==k)=false:=λk hk=>beq_eq_false_iff_ne.2 (by omega)
   have c:Q74 m.A4 port=(m.A4,0):=by
     simp only[Q74,Q3o,Tree.m,n 0 (by decide),n 1 (by decide),cond_false]
   simp only[n 0 (by decide),n 1 (by decide),n 2 (by decide),n 3 (by decide),n 4 (by decide),n 5 (by decide),n 6 (by decide),n 7 (by decide),n 8 (by decide),n 9 (by decide),n 10 (by decide),n 11 (by decide),cond_false,dY (show port<=1 by omega),cond_true,c]
 . have n: ∀k:Int,k<12->(port==k)=false:=λk hk=>beq_eq_false_iff_ne.2 (by omega)
   have c:Q73 m.A2 port=0:=by
     simp only[Q73,Q6c,Tree.m,n 10 (by decide),n 11 (by decide),cond_false]
   simp only[n 0 (by decide),n 1 (by decide),n 2 (by decide),n 3 (by decide),n 4 (by decide),n 5 (by decide),n 6 (by decide),n 7 (by decide),n 8 (by decide),n 9 (by decide),n 10 (by decide),n 11 (by decide),cond_false,dN (show¬port<=1 by omega),dN (show¬port<=6 by omega),dN (show¬port<=9 by omega),c]
theorem yK{P:Nat}{m:Q00}(hm:Q15 P m.Mem)(hb:okB m.A2)(port:Int){v:Int}(hv:U v):Q2q m port v m.A1=((Qf2 m port v).2,(Qf2 m port v).1):=by
 have e1:=Zde hm m.B2
 have e2:=Zh6 hm m.C6
 have e3:=Zin hm hb port hv
 have e4:=qK m.B0 v
 simp only[Q2q,Q43,Qf2,Qht,Tree.m,letv,e1,e2,e3,e4]
 rcases ports (p:=port) with rfl|rfl|rfl|rfl|rfl|rfl|rfl|rfl|rfl|rfl|rfl|rfl|h|h
 all_goals first|rfl|skip
 . have n: ∀k:Int,0<=k->(port==k)=false:=λk hk=>beq_eq_false_iff_ne.2 (by omega)
   simp only[n 0 (by decide),n 1 (by decide),n 2 (by decide),n 3 (by decide),n 4 (by decide),n 5 (by decide),n 6 (by decide),n 7 (by decide),n 8 (by decide),n 9 (by decide),n 10 (by decide),n 11 (by decide),cond_false,dY (show port<=2 by omega),cond_true]
 . have n: ∀k:Int,k<12->(port==k)=false:=λk hk=>beq_eq_false_iff_ne.2 (by omega)
   have c:Q7q m.A2 m.Mem port v=(m.A2,m.Mem):=by
     simp only[Q7q,Q4y,Tree.m,n 10 (by decide),n 11 (by decide),cond_false]
   simp only[n 0 (by decide),n 1 (by decide),n 2 (by decide),n 3 (by decide),n 4 (by decide),n 5 (by decide),n 6 (by decide),n 7 (by decide),n 8 (by decide),n 9 (by decide),n 10 (by decide),n 11 (by decide),cond_false,dN (show¬port<=2 by omega),dN (show¬port<=6 by omega),dN (show¬port<=9 by omega),c]
def tick(n:Q00)(c:Q05)(w h:Bool):Q00:={B1:=c,Mem:=n.Mem,A4:=n.A4,B0:=n.B0,B2:=n.B2,C6:=n.C6,A2:=n.A2,A1:=wrap .u64 (n.A1+1),A7:=w,A9:=h}
def withX(m:Q00)(c:Q05)(mem:List Int):Q00:={B1:=c,Mem:=mem,A4:=m.A4,B0:=m.B0,B2:=m.B2,C6:=m.C6,A2:=m.A2,A1:=m.A1,A7:=false,A9:=m.A9}
def finP(n:Q00)(e:Q18)(clock at0:Int):Q00×List Q04:=
 bif e.B6==1 then
   (bif e.D9 !=0 then(tick (Q16 n e.D1 clock).1 {X:=A16.of 0 (dC (A16.l (Q16 n e.D1 clock).1.B1.X) e.D9.toNat (Q16 n e.D1 clock).2),Pc:=(Q16 n e.D1 clock).1.B1.Pc,B5:=(Q16 n e.D1 clock).1.B1.B5} (Q16 n e.D1 clock).1.A7 (Q16 n e.D1 clock).1.A9,[])
   else(tick (Q16 n e.D1 clock).1 (Q16 n e.D1 clock).1.B1 (Q16 n e.D1 clock).1.A7 (Q16 n e.D1 clock).1.A9,[]))
 else bif e.B6==2 then(tick (Q2q n e.D1 e.Value at0).1 (Q2q n e.D1 e.Value at0).1.B1 (Q2q n e.D1 e.Value at0).1.A7 (Q2q n e.D1 e.Value at0).1.A9,(Q2q n e.D1 e.Value at0).2)
 else bif e.B6==3 then(tick n n.B1 true n.A9,[]) else bif e.B6==4 then(tick n n.B1 n.A7 true,[]) else(tick n n.B1 n.A7 n.A9,[])
def finR(n:Q00)(e:Q18)(clock:Int):List Q04×Q00:=
 bif e.B6==1 then([],tick (Qj4 n e.D1 clock).2 (Q23 (Qj4 n e.D1 clock).2.B1 e.D9 (Qj4 n e.D1 clock).1) (Qj4 n e.D1 clock).2.A7 (Qj4 n e.D1 clock).2.A9)
 else bif e.B6==2 then((Qf2 n e.D1 e.Value).1,tick (Qf2 n e.D1 e.Value).2 (Qf2 n e.D1 e.Value).2.B1 (Qf2 n e.D1 e.Value).2.A7 (Qf2 n e.D1 e.Value).2.A9)
 else bif e.B6==3 then([],tick n n.B1 true n.A9) else bif e.B6==4 then([],tick n n.B1 n.A7 true) else([],tick n n.B1 n.A7 n.A9)
theorem xZ(m:Q00)(clock:Int):Q0j m clock=finR (withX m (Qci (Q0t m) m.Mem).1 (Qci (Q0t m) m.Mem).2.2) (Qci (Q0t m) m.Mem).2.1 clock:=by kernel_rfl
theorem Zlj(m:Q00)(clock:Int):Q1z m clock=bif !Q2h m then(m,[]) else finP {B1:=(Q57 (Q0s m).B1 (Q0s m).Mem).1,Mem:=(Q57 (Q0s m).B1 (Q0s m).Mem).2.1,A4:=(Q0s m).A4,B0:=(Q0s m).B0,B2:=(Q0s m).B2,C6:=(Q0s m).C6,A2:=(Q0s m).A2,A1:=(Q0s m).A1,A7:=(Q0s m).A7,A9:=(Q0s m).A9} (Q57 (Q0s m).B1 (Q0s m).Mem).2.2 clock m.A1:=by kernel_rfl
theorem qan(m:List Int):Qtz m=m:=by
 simp [Qtz,Qeg,Tree.m]
theorem Zeq(m:Q00):Qpo m=m:=by
 simp only[Qpo,Qhs,Tree.m,letv,qan]
def Ze5(m:Q00)(clock:Int):Q00×List Q04:=bif Q0r m then(m,[]) else((Q0j m clock).2,(Q0j m clock).1)
def Qkd(m:Q00)(e:Q0a):Tree (Q00×Bool):=
 .an (Qjp m) (.lv (Qpo m) λ(x0:Q00)=> .lv (Q55 x0) λ(x1:Bool)=> .br (!x1) (.lf (x0,false)) (.an (Qqy x0 e) (.lv (Q0n x0 e) λ(x2:Bool×Q00)=> .lf (x2.2,x2.1))))
def Qkt m e:=(Qkd m e).m
theorem Z9k(m:Q00)(clock:Int):Ze5 m clock=bif Q0r m then(m,[]) else((Q0j m clock).2,(Q0j m clock).1):=rfl
theorem vK{P:Nat}{n:Q00}(hm:Q15 P n.Mem)(hb:okB n.A2){e:Q18}(hr:0<=e.D9/\e.D9<16)(hv:U e.Value)(clock:Int):finP n e clock n.A1=((finR n e clock).2,(finR n e clock).1):=by
 unfold finP finR
 rw[xam hb e.D1 clock,yK hm hb e.D1 hv]
 cases e.B6==1
 . cases e.B6==2
   . cases e.B6==3
     . cases e.B6==4<;>rfl
     . rfl
   . rfl
 . generalize Qj4 n e.D1 clock=r
   have s:=Z07 r.2.B1 hr r.1
   show(bif e.D9 !=0 then _ else _)=(tick r.2 (Q23 r.2.B1 e.D9 r.1) r.2.A7 r.2.A9,[])
   rw[<-s]
   simp only[Qb3,Qe3,Tree.m]
   cases e.D9 !=0<;>rfl
theorem Zdk{m:Q00}(h:okV m)(clock:Int):Q1z m clock=Ze5 m clock:=by
 rw[Zlj,Z9k,Qsr h]
 cases hs:Q0r m
 . have hr:Q2h m=true:=by rw[Qsr h,hs];rfl
   obtain⟨hm,hh,hct⟩:=Qzz hr
   obtain⟨g1,g2,g3,g4,g5⟩:=(Qlw m).1 hm
   rcases(Qor m.Mem h.mem).2 with c|⟨P,hP,hmem⟩
   . exact absurd c g1
   have okm:okS P m:=⟨h.cpu,hmem,h.disk,h.nic,h.bal.1,h.bal.2⟩
   obtain⟨b1,b2,b3,_⟩:=(Tree.pp (Qta okm g2)).2
   change Q65 (Q0s m).B1 at b1
   change okS P (Q0s m) at b2
   change(Q0s m).Mem=m.Mem at b3
   have be:=Qx4 h g2.st
   have b1':Q65 (Q0t m):=by have:=b1;rw[be]at this;exact this
   have b2':Q2r (Q0t m):=by have:=b2.cpu;rw[be]at this;exact this
   have ex:=Zfg hmem b2' b1'.st
   have er:=(Tree.pp (Zk4 b2' hmem)).2
   change 0<=(Q57 (Q0t m) m.Mem).2.2.D9/\(Q57 (Q0t m) m.Mem).2.2.D9<16 at er
   obtain⟨d1,d2,d3⟩:=(Tree.pp (do_w b2' hmem)).2
   change U (Qci (Q0t m) m.Mem).2.1.Value at d2
   change Q15 P (Qci (Q0t m) m.Mem).2.2 at d3
   rw[ex]at er
   rw[xZ,be]
   show finP {B1:=(Q57 (Q0t m) m.Mem).1,Mem:=(Q57 (Q0t m) m.Mem).2.1,A4:=m.A4,B0:=m.B0,B2:=m.B2,C6:=m.C6,A2:=m.A2,A1:=m.A1,A7:=false,A9:=m.A9} (Q57 (Q0t m) m.Mem).2.2 clock m.A1=_
   rw[ex]
   exact vK (n:=withX m (Qci (Q0t m) m.Mem).1 (Qci (Q0t m) m.Mem).2.2) d3 h.bal er d2 clock
 . rfl
theorem Z77{m:Q00}(h:okV m)(e:Q0a):Q54 m e=Qkt m e:=by
 have hcl:Q03 m.Mem=m.Mem:=rfl
 have mm:=Za6 h
 have t1:Qlr m.B0=Q7r m.B0:=rfl
 have t2: ∀b,Qns m.A4 b=Qo7 m.A4 b:=λ_=>rfl
 simp only[Q54,Q4e,Qkt,Qkd,Q0n,Q5k,Tree.m,letv,Zeq,hcl,t1,t2]
 rw[show Q1a {B1:=m.B1,Mem:=m.Mem,A4:=m.A4,B0:=m.B0,B2:=m.B2,C6:=m.C6,A2:=m.A2,A1:=m.A1,A7:=m.A7,A9:=m.A9}=Q55 m from mm]
 cases hM:Q55 m
 . rfl
 have hM':Q1a m=true:=mm.trans hM
 rcases(Qor m.Mem h.mem).2 with c|⟨P,hP,hmem⟩
 . exact absurd c ((Qlw m).1 hM').1
 have cs:=Zc hmem h.disk e
 have rs:=Zeh hmem h.nic e.C9
 clear mm hM hM' hcl h
 obtain⟨c,mem,con,ti,d,n,b,ct,w,hl⟩:=m
 cases hl
 . by_cases k2:e.B6=2
   . rw[k2];cases e.N==0<;>cases decide (e.C9=[])<;>rfl
   by_cases k3:e.B6=3
   . rw[k3];cases decide (e.N<=255)<;>cases decide (e.C9=[])<;>rfl
   by_cases k4:e.B6=4
   . rw[k4,cs];rfl
   by_cases k5:e.B6=5
   . rw[k5,rs];cases e.N==0<;>rfl
   by_cases k6:e.B6=6
   . rw[k6];cases decide (e.C9=[])<;>rfl
   . rw[show(e.B6==2)=false by simpa using k2,show(e.B6==3)=false by simpa using k3,show(e.B6==4)=false by simpa using k4,show(e.B6==5)=false by simpa using k5,show(e.B6==6)=false by simpa using k6]
     rfl
 . rfl
theorem zan{l acts:List Int}{x0:Bool}(hx0:x0=Qu2 l acts)(hb:(!x0)=false):l.length<=40/\acts.length<=30:=by
 have hb:x0=true:=by simpa using hb
 rw[hb]at hx0
 simp only[Qu2,Qvf,Tree.m]at hx0
 cases h1:decide ((l.length:Int)<=40)<;>rw[h1]at hx0
 . cases hx0
 . have:=oY hx0.symm
   have:=oY h1
   omega
section
variable {m:Q00} (h:okV m) (hl:m.Mem.length<=1024)
include h
theorem may_P(hm:Q1a m=true): ∃P,okS P m/\okM P m:=by
 rcases(Qor m.Mem h.mem).2 with c|⟨P,hP,hmem⟩
 . exact absurd c ((Qlw m).1 hm).1
 . exact⟨P,⟨h.cpu,hmem,h.disk,h.nic,h.bal.1,h.bal.2⟩,⟨h.cpu,hmem,h.disk,h.nic,h.bal,h.cnt⟩⟩
include hl
theorem Zcq{clock:Int}(hk:U clock):Q2m m clock/\(Q1z m clock).2.length<=1/\(Q1z m clock).1.Mem.length<=1024:=by
 cases hr:Q2h m
 . have e:Q1z m clock=(m,[]):=by rw[Zlj,hr];rfl
   rw[e]
   refine⟨?_,aT _,hl⟩
   have hcl:Q03 m.Mem=m.Mem:=rfl
   show(Q30 m clock).p
   unfold Tree.p Q30
   refine w_an (by show m.Mem.length<=35184372088832;omega) (w_lv λl hl=> ?_)
   rw[hcl]at hl;subst hl
   refine w_an (Tree.pp (Zj (m:=⟨_,_,_,_,_,_,m.A2,_,_,_⟩) h.bal.2)).1 (w_lv λx1 hx1=>w_br (λ_=>trivial) (λhb=> ?_))
   have:x1=false:=hx1.trans hr
   rw[this]at hb;cases hb
 . obtain⟨P,s,_⟩:=may_P h (Qzz hr).1
   have g:=Tree.pp (xg s h.cnt hk)
   have ml:=g.2.2.ok.mem.len
   have mp:=g.2.2.ok.mem.p2
   exact⟨g.1,g.2.1,by show(Q30 m clock).m.1.Mem.length<=1024;omega⟩
omit h hl in
theorem qL{P:Nat}(h:okM P m){e:Q0a}(he:U e.N):(Q5k m e).w (λx=>okM P x.2):=by
 have k:=h
 obtain⟨h1,h2,h3,h4,h5,h7⟩:=h
 unfold Q5k
 repeat'(first
   |exact k
   |exact⟨h1,h2,h3,h4,⟨he,h5.2⟩,h7⟩
   |exact w_lv λ_ _=>⟨h1,h2,h3,h4,h5,h7⟩
   |exact Q0h (zaQ _ _) λ_ _=>⟨h1,h2,h3,h4,h5,h7⟩
   |exact Q0h (vU h2 h3 _) λx hx=>⟨h1,hx.2,hx.1,h4,h5,h7⟩
   |exact Q0h (xW h2 h4 _) λx hx=>⟨h1,hx.2,h3,hx.1,h5,h7⟩
   |refine w_br (λ_=> ?_) (λ_=> ?_))
theorem Qw4{e:Q0a}(he:U e.N):Q7o m e:=by
 cases hm:Q1a m
 . have hcl:Q03 m.Mem=m.Mem:=rfl
   show(Q4e m e).p
   unfold Tree.p Q4e
   refine w_an (by show m.Mem.length<=35184372088832;omega) (w_lv λl hl=> ?_)
   rw[hcl]at hl;subst hl
   refine w_an (Tree.pp (Z73 (m:=⟨_,_,_,_,_,_,m.A2,_,_,_⟩) h.bal.2)).1 (w_lv λx1 hx1=>w_br (λ_=>trivial) (λhb=> ?_))
   have:x1=false:=hx1.trans hm
   rw[this]at hb;cases hb
 . obtain⟨P,s,o⟩:=may_P h hm
   exact(Tree.pp (Zkm o he)).1
end
theorem xan(a:Q00)(ha:a.Mem.length<=1000000000000):(Qi5 a a).w (λb=>b=true):=by
 unfold Qi5
 repeat'(first
   |refine w_br (λ_=> ?_) (λh=>absurd h (by simp [eqs,eq1];done))
   |exact w_an ha (w_lv λx hx=>by rw[hx];exact Z7r _ ha)
   |refine w_an ha (w_lv λx hx=>w_br (λ_=> ?_) (λh=>by rw[hx,Z7r _ ha]at h;cases h))
   |exact rfl)
 all_goals(show(_==_)=true;simp)
theorem Zf2(a:List Q04)(ha:a.length<=1000000000000):(Q4m a a).w (λb=>b=true):=by
 unfold Q4m
 refine w_br (λh=>by simp at h) (λ_=> ?_)
 refine w_lp (inv:=λv:Int=>0<=v/\v<=a.length) (μ:=Q64 a a) ⟨by omega,by omega⟩ (cK _) λv ⟨h1,h2⟩=> ?_
 refine w_br (λhb=> ?_) (λ_=>rfl)
 have hb:=oY hb
 have e:i64.wrap (v+1)=v+1:=by rw[wrap_i64];omega
 refine w_cn (by simp [bT];omega) (w_cn (by simp [bT];omega) (w_br (λh=>by simp [eqs,eq1]at h) (λ_=>w_nx ?_)))
 show(_/\_)/\(_:Nat)<_
 exact⟨⟨by rw[e];omega,by rw[e];omega⟩,by show(a.length-i64.wrap (v+1)).toNat<(a.length-v).toNat;rw[e];omega⟩
def Tree.V{β:Type}(t:Tree β)(W:β->Prop):Prop:=W t.m
section
variable {α β:Type} {W:β->Prop} {c:Bool} {t e:Tree β}
theorem v_lf{x:β}(h:W x):Tree.V (.lf x) W:=h
theorem v_nx{f:Prop}{x:β}{hf:f}(h:W x):Tree.V (.nx f x hf) W:=h
theorem v_br(h:c=true->Tree.V t W)(g:c=false->Tree.V e W):Tree.V (.br c t e) W:=by
 cases c
 . exact g rfl
 . exact h rfl
theorem v_cn(g:Tree.V t W):Tree.V (.cn c t) W:=g
theorem v_an{p:Prop}(g:Tree.V t W):Tree.V (.an p t) W:=g
theorem v_lv{x:α}{k:α->Tree β}(h: ∀y,y=x->Tree.V (k y) W):Tree.V (.lv x k) W:=h x rfl
theorem v_lp{d:Inhabited β}{n:Nat}{f:Prop}{x:α}{k:α->Tree (α⊕β)}{hf:f}{inv:α->Prop}{μ:α->Nat}(h:inv x)(hn:μ x<n)(g: ∀y,inv y->Tree.V (k y) (Sum.elim (λz=>inv z/\μ z<μ y) W)):Tree.V (.lp d n f x k hf) W:=by
 refine qz (P:=inv) (R:=W) (μ:=μ) (λa ha=> ?_) n x h hn
 have:=g a ha
 unfold Tree.V at this
 revert this
 cases(k a).m with
 |inl z=>exact λh=>h
 |inr b=>exact λh=>h
end
def withM(r:Q01)(m:Q00):Q01:={A0:=m,A3:=r.A3,B4:=r.B4,A6:=r.A6}
def Q1s(r:Q01)(e:Q0a):Q01:=
 bif(Q0n r.A0 e).1 then{A0:=(Q0n r.A0 e).2,A3:=r.A3,B4:=r.B4++[{At:=(Q0n r.A0 e).2.A1,C1:=e}],A6:=r.A6} else withM r (Q0n r.A0 e).2
def Q25(r:Q01):Q01:=bif Q7h r.A0.B0 r.A3 then Q1s r {B6:=2,N:=0,C9:=[]} else r
def Zch(r:Q01):Q01:=bif Q0g r.A0 then{A0:=r.A0,A3:=r.A3,B4:=r.B4++[{At:=r.A0.A1,C1:={B6:=1,N:=r.A3,C9:=[]}}],A6:=r.A6} else r
def Qj0(r:Q01):Q01:={A0:=(Q0j r.A0 r.A3).2,A3:=wrap .u32 (r.A3+1),B4:=(Zch r).B4,A6:=r.A6}
def recF:Nat->Q01->List Q04->Q01×List Q04
 |0,r,o=>(r,o)
 |n+1,r,o=>bif Q0r (Q25 r).A0 then(Q25 r,o) else recF n (Qj0 (Q25 r)) (o++(Q0j (Q25 r).A0 (Q25 r).A3).1)
def noQ(r:Q01):Q01:={A0:=r.A0,A3:=r.A3,B4:=r.B4,A6:=[]}
def advF(r:Q01)(steps clock:Int):Q01×List Q04:=
 bif !Q55 r.A0 then(r,[]) else recF (Q0o steps).toNat (noQ (r.A6.foldl Q1s {A0:=r.A0,A3:=if clock>r.A3 then clock else r.A3,B4:=r.B4,A6:=r.A6})) []
theorem Qos(r:Q01)(e:Q0a):(Q1s r e).A6=r.A6:=by
 unfold Q1s;cases(Q0n r.A0 e).1<;>rfl
theorem xL(r:Q01):Z3o r=r:=by
 simp only[Z3o,Qrb,Tree.m,letv,Zeq]
structure good(P:Nat)(m:Q00):Prop where
 ok:okM P m
 may:Q1a m=true
section
variable {P:Nat} {m:Q00} (h:good P m)
include h
theorem good.v:okV m:=⟨h.ok.cpu,h.ok.mem.u,h.ok.disk,h.ok.nic,h.ok.target,h.ok.cnt⟩
theorem good.s:okS P m:=⟨h.ok.cpu,h.ok.mem,h.ok.disk,h.ok.nic,h.ok.target.1,h.ok.target.2⟩
theorem good.rmay:Q55 m=true:=(Za6 h.v).symm.trans h.may
theorem Qdp{e:Q0a}(he:U e.N):good P (Q0n m e).2/\(Q0n m e).2.A1=m.A1:=by
 have o:okM P (Q0n m e).2:=Tree.post _ (qL h.ok he)
 have a:=(Tree.pp (Zkm h.ok he)).2
 change(Q1a m=true->Q1a (Q54 m e).1=true)/\(Q54 m e).1.A1=m.A1/\_ at a
 have e1:Qkt m e=((Q0n m e).2,(Q0n m e).1):=by
   simp only[Qkt,Qkd,Tree.m,letv,Zeq,h.rmay];rfl
 rw[Z77 h.v e,e1]at a
 exact⟨⟨o,a.1 h.may⟩,a.2.1⟩
theorem Zg0:Q0r m=false↔m.A9=false/\Qdv m=false/\m.A1<1152921504606846976:=by
 simp only[Q0r,Qfp,Tree.m,letv,h.rmay]
 cases m.A9<;>cases Qdv m<;>simp
theorem Q6m(hs:Q0r m=false){clock:Int}(hc:U clock):good P (Q0j m clock).2/\(Q0j m clock).2.A1=m.A1+1/\(Q0j m clock).1.length<=1:=by
 have o:=Tree.post _ (Z89 h.ok hc)
 change(Q0j m clock).1.length<=1/\okM P (Q0j m clock).2/\(Q0j m clock).2.A1=wrap .u64 (m.A1+1) at o
 have s:=(Tree.pp (xg h.s h.ok.cnt hc)).2
 change _/\Good P m (Q1z m clock).1 at s
 have e:Q1z m clock=((Q0j m clock).2,(Q0j m clock).1):=by rw[Zdk h.v,Z9k,hs];rfl
 rw[e]at s
 have hct:=((Zg0 h).1 hs).2.2
 have h0:=h.ok.cnt
 refine⟨⟨o.2.1,s.2.may h.may⟩,?_,o.1⟩
 rw[o.2.2,wrap_u64];omega
end
structure Q5z(P:Nat)(k:Int)(r:Q01):Prop where
 m:good P r.A0
 clock:U r.A3
 cnt:r.A0.A1<=k
theorem Qiq{P:Nat}{k:Int}{r:Q01}(h:Q5z P k r){e:Q0a}(he:U e.N):Q5z P k (Q1s r e)/\(Q1s r e).A0.A1=r.A0.A1:=by
 obtain⟨a,b⟩:=Qdp h.m he
 have hc:=h.cnt
 unfold Q1s
 cases(Q0n r.A0 e).1
 . exact⟨⟨a,h.clock,by show(Q0n r.A0 e).2.A1<=k;omega⟩,b⟩
 . exact⟨⟨a,h.clock,by show(Q0n r.A0 e).2.A1<=k;omega⟩,b⟩
theorem Qhl{P:Nat}{k:Int}{r:Q01}(h:Q5z P k r):Q5z P k (Q25 r)/\(Q25 r).A0.A1=r.A0.A1:=by
 unfold Q25
 cases Q7h r.A0.B0 r.A3
 . exact⟨h,rfl⟩
 . exact Qiq h U_0
theorem Qhn{P:Nat}{k:Int}{r:Q01}(h:Q5z P k r)(hs:Q0r r.A0=false):Q5z P (k+1) (Qj0 r):=by
 obtain⟨a,b,_⟩:=Q6m h.m hs h.clock
 have hc:=h.cnt
 exact⟨a,Q0v _,by show(Q0j r.A0 r.A3).2.A1<=k+1;omega⟩
theorem Zgq{P:Nat}(n:Nat): ∀{k:Int} {r:Q01} {o:List Q04},Q5z P k r->Q5z P (k+n) (recF n r o).1:=by
 induction n with
 |zero=>intro k r o h;exact⟨h.m,h.clock,by have:=h.cnt;show r.A0.A1<=k+(0:Nat);omega⟩
 | succ n ih=>
   intro k r o h
   obtain⟨f,fc⟩:=Qhl h
   unfold recF
   cases hs:Q0r (Q25 r).A0
   . have t:=ih (o:=o++(Q0j (Q25 r).A0 (Q25 r).A3).1) (Qhn f hs)
     exact⟨t.m,t.clock,by have:=t.cnt;show(recF n _ _).1.A0.A1<=_;omega⟩
   . exact⟨f.m,f.clock,by have:=f.cnt;show(Q25 r).A0.A1<=_;omega⟩
theorem Z7z{P:Nat}{k:Int}(l:List Q0a): ∀{r:Q01},Q5z P k r->(∀q∈l,U q.N)->Q5z P k (l.foldl Q1s r)/\(l.foldl Q1s r).A6=r.A6:=by
 induction l with
 |nil=>intro r h _;exact⟨h,rfl⟩
 | cons e l ih=>
   intro r h hu
   obtain⟨a,b⟩:=ih (Qiq h (hu e (by simp))).1 (λq hq=>hu q (by simp [hq]))
   exact⟨a,b.trans (Qos r e)⟩
theorem Z84(n:Nat): ∀(r:Q01) (o:List Q04),(recF n r o).1.A6=r.A6:=by
 induction n with
 |zero=>intro r o;rfl
 | succ n ih=>
   intro r o
   have f:(Q25 r).A6=r.A6:=by
     unfold Q25;cases Q7h r.A0.B0 r.A3
     . rfl
     . exact Qos _ _
   unfold recF
   cases Q0r (Q25 r).A0
   . exact(ih _ _).trans f
   . exact f
def okQ(l:List Q0a):Prop:=l.length<=16/\ ∀q∈l,U q.N
theorem yj{P:Nat}{k:Int}{r:Q01}(h:Q5z P k r)(hq:okQ r.A6)(steps:Int){clock:Int}(hc:U clock):Q5z P (k+4000) (advF r steps clock).1/\okQ (advF r steps clock).1.A6:=by
 obtain⟨l0,l1⟩:=Qol steps
 unfold advF
 rw[h.m.rmay]
 have hcl:U (if clock>r.A3 then clock else r.A3):=by split<;>first|exact hc|exact h.clock
 obtain⟨a,b⟩:=Z7z r.A6 (r:={A0:=r.A0,A3:=if clock>r.A3 then clock else r.A3,B4:=r.B4,A6:=r.A6}) ⟨h.m,hcl,h.cnt⟩ hq.2
 have c:=Zgq (Q0o steps).toNat (o:=[]) (r:=noQ (r.A6.foldl Q1s {A0:=r.A0,A3:=if clock>r.A3 then clock else r.A3,B4:=r.B4,A6:=r.A6})) ⟨a.m,a.clock,a.cnt⟩
 refine⟨⟨c.m,c.clock,?_⟩,?_⟩
 . have:=c.cnt
   show(recF _ _ _).1.A0.A1<=_
   omega
 . show okQ (recF _ _ _).1.A6
   rw[Z84];exact⟨aT _,λq hq=>by cases hq⟩
theorem qao(n:Int):U (Qpu n).N:=Tree.post _ (yx n)
theorem Qbw(r:Q01)(e:Q0a):Q28 r e=bif !Q1x e then(r,false) else bif e.B6==1 then(r,false) else bif decide ((r.A6.length:Int)>=16) then(r,false) else({A0:=r.A0,A3:=r.A3,B4:=r.B4,A6:=r.A6++[e]},true):=by
 simp only[Q28,Qqz,Tree.m,letv,xL]
theorem Zju{P:Nat}{k:Int}{r:Q01}(h:Q5z P k r)(hq:okQ r.A6){e:Q0a}(he:U e.N):Q5z P k (Q28 r e).1/\okQ (Q28 r e).1.A6:=by
  rw[Qbw]
  cases Q1x e
  . exact⟨h,hq⟩
  . cases e.B6==1
    . cases hl:decide ((r.A6.length:Int)>=16)
      . have hl:=oN hl
        refine⟨⟨h.m,h.clock,h.cnt⟩,?_,λq hm=> ?_⟩
        . show(r.A6++[e]).length<=16
          rw[lA,cU];omega
        . have hm:q∈r.A6++[e]:=hm
          rcases List.mem_append.1 hm with hm|hm
          . exact hq.2 q hm
          . rw[List.mem_singleton.1 hm];exact he
      . exact⟨h,hq⟩
    . exact⟨h,hq⟩
theorem Zki{i:List Int}(hu: ∀w∈i,U w)(hl:i.length<=256):good 8 (Q20 8 4 i).1/\(Q20 8 4 i).1.A1=0:=by
 obtain⟨a,b⟩:=(Tree.pp (new_w i hu hl)).2
 change okM 8 (Q20 8 4 i).1 at a
 refine⟨⟨a,?_⟩,b⟩
 have e:(Q20 8 4 i).2=true:=by
   have w:i64.wrap (8*32)=256:=by decide
   simp only[Q20,Q8s,Tree.m,w,letv,dN (show¬((i.length:Int)>256) by omega)]
   rfl
 obtain⟨a1,a2,a3,a4,a5,a6⟩:=zaR 8 4 i e
 exact(xaR _ 8 4 a1 a2 a3 a4 a5 _ a6).1
theorem vj{m:Q00}(h:good 8 m)(hc:m.A1<=87):Tree.V (Q9o m [] 87) (λx=>x.2.2.2=0->good 8 x.1/\x.1.A1<=87):=by
 have z: ∀{k:Int} {p:Prop},k≠0->k=0->p:=λa b=>absurd b a
 unfold Q9o
 refine v_lv λx0 _=>v_br (λ_=>v_lf (z (by decide))) λ_=>v_br (λ_=>v_lf (z (by decide))) λ_=>v_br (λ_=>v_lf (z (by decide))) λ_=>v_an (v_lv λx1 _=>v_br (λ_=>v_lf (z (by decide))) λ_=>v_an (v_lv λx2 hx=> ?_))
 rw[Zeq]at hx
 refine v_lp (inv:=λv:Q00×List Q04=>good 8 v.1/\v.1.A1<=87) (μ:=Qgk m [] 87) ⟨by rw[hx];exact h,by rw[hx];exact hc⟩ (cK _) λv0 ⟨a1,a3⟩=> ?_
 have a2:=a1.ok.cnt
 refine v_br (λhb=>v_br (λhm=> ?_) (λ_=>v_lf λ_=>⟨a1,a3⟩)) (λ_=>v_lf λ_=>⟨a1,a3⟩)
 have hb:=oY hb
 have hm:=oY hm
 refine v_lp (inv:=λ_=>True) (μ:=Qgi m [] 87 v0) trivial (cK _) λv1 _=> ?_
 refine v_br (λ_=>v_lf λ_=>⟨a1,a3⟩) λhh=>v_an (v_lv λx3 h3=>v_br (λ_=>v_lf λ_=>⟨a1,a3⟩) λhi=>v_an (v_lv λx4 _=>v_br (λ_=>v_lf (z (by decide))) λ_=>v_an (v_lv λx5 h5=>v_cn (v_nx ?_))))
 obtain⟨b1,b2,_⟩:=Q6m a1 ((Zg0 a1).2 ⟨hh,h3.symm.trans hi,hm⟩) (clock:=0) U_0
 rw[<-h5]at b1 b2
 show(good 8 x5.2/\x5.2.A1<=87)/\(87-x5.2.A1).toNat<(87-v0.1.A1).toNat
 exact⟨⟨b1,by omega⟩,by omega⟩
theorem Zd8(kind:Int)(l:List Int)(hl:l.length*8<=reachBytes)(h40:l.length<=40):good 8 (Qjt kind l)/\(Qjt kind l).A1<=87:=by
  show Tree.V (Q71 kind l) (λm=>good 8 m/\m.A1<=87)
  have code:=(Tree.pp (qd l hl)).2
  change((Qnw l).length:Int)=l.length/\ ∀w∈Qnw l,U w at code
  obtain⟨b1,b2⟩:=code
  unfold Q71
  refine v_an (v_lv λx0 hx0=>v_br (λ_=>v_an (v_lv λx1 e1=> ?_)) (λhk=> ?_))
  . have eb:x1.1=boot:=by rw[e1];rfl
    obtain⟨q1,q2⟩:boot.length<=160/\ ∀w∈boot,U w:=qe
    refine v_lp (inv:=λv:List Int=>v.length<=160/\v=boot++cL (v.length-boot.length) 0) (μ:=Qe4 kind l) ⟨by rw[eb];exact q1,by rw[eb];simp⟩ (cK _) λv0 ⟨a1,a2⟩=> ?_
    have a3:boot.length<=v0.length:=by rw[a2,lA];omega
    refine v_br (λhb=> ?_) (λhb=> ?_)
    . have hb:=oY hb
      refine v_cn (v_nx ?_)
      show(_/\_)/\(_:Nat)<_
      refine⟨⟨by rw[lA,cU];omega,?_⟩,by show 160-(v0++[0]).length<160-v0.length;rw[lA,cU];omega⟩
      show v0++[0]=boot++cL ((v0++[0]).length-boot.length) 0
      rw[lA,cU,show v0.length+1-boot.length=(v0.length-boot.length)+1 by omega,List.replicate_succ',<-fC,<-a2]
    . have hb:=oN hb
      have hv:v0=Qkk:=by
        unfold Qkk
        rw[show(160:Nat)=v0.length by omega]
        exact a2
      subst hv
      have hp:=xag
      have hu0: ∀w∈Qkk,U w:=λw hw=>(List.mem_append.1 hw).elim (q2 w) (U_all _ w)
      refine v_an (v_lv λx2 e2=>v_cn ?_)
      rw[<-e2]at b1 b2
      have hu: ∀w∈Qkk++x2,U w:=λw hw=>(List.mem_append.1 hw).elim (hu0 w) (b2 w)
      have hlen:(Qkk++x2).length<=256:=by rw[lA];omega
      refine v_br (λhb=> ?_) (λhb=> ?_)
      . have hb:=oY hb;omega
      . obtain⟨c1,c2⟩:=Zki hu hlen
        refine v_an (v_lv λx3 h3=> ?_)
        rw[<-h3]at c1 c2
        have rn:=vj c1 (by omega)
        refine v_br (λ_=>v_an (v_lv λx4 hx=>v_lf ?_)) (λ_=>v_lf ⟨c1,by omega⟩)
        have e:x3=Q20 8 4 (Qkk++(x2++cL (96-x2.length) 0)):=by
          rw[h3]
          have hl2:(x2++cL (96-x2.length) (0:Int)).length=96:=by rw[lA,cP];omega
          refine zag _ _ hlen (by rw[lA,hl2];omega) ?_
          rw[lA,lA,hl2,hp,fC,fC,fC,show 256-(160+96)=0 by omega,show 256-(160+x2.length)=96-x2.length by omega]
          simp
        have h0:x4.2.2.2=0:=by
          rw[hx,e]
          exact qaE _ (by rw[lA,cP];omega)
        exact(by rw[hx];exact rn:x4.2.2.2=0->good 8 x4.1/\x4.1.A1<=87) h0
  . have hk:=oN hk
    refine v_an (v_lv λx2 e2=>v_cn ?_)
    rw[<-e2]at b1 b2
    refine v_br (λhb=> ?_) (λhb=> ?_)
    . have hb:=oY hb;omega
    . obtain⟨c1,c2⟩:=Zki b2 (by omega)
      refine v_an (v_lv λx3 h3=> ?_)
      rw[<-h3]at c1 c2
      exact v_br (λh=>absurd (eq_of_beq h) (by omega)) (λ_=>v_lf ⟨c1,by omega⟩)
theorem Zmw(w:Int):wrap .i64 (Q26 w).1.Imm=(Q26 w).1.Imm:=by
 show Tree.V (Q6x w) (λr=>wrap .i64 r.1.Imm=r.1.Imm)
 have e: ∀x,wrap .i64 (wrap .i32 x)=wrap .i32 x:=λx=>by rw[wrap_i64,wrap_i32];omega
 unfold Q6x
 refine v_lv λx0 _=> ?_
 have l: ∀i:Q0m,wrap .i64 i.Imm=i.Imm->Tree.V (Tree.lv (Q7x i) λx=> .br (!x) (.lf ((⟨0,0,0,0,0⟩:Q0m),false)) (.lf (i,true))) (λr=>wrap .i64 r.1.Imm=r.1.Imm):=λi hi=>v_lv λx hx=>v_br (λ_=>v_lf rfl) (λhb=>v_lf hi)
 exact v_br (λ_=>v_lf rfl) (λ_=>v_br (λ_=>l _ rfl) (λ_=>v_br (λ_=>l _ (e _)) (λ_=>v_br (λ_=>l _ (e _)) (λ_=>l _ (e _)))))
def ioP(e:Q18):Bool:=bif e.B6==1 then e.D1==2 else false
def readsC(c:Q05)(m:List Int):Bool:=
 bif iand .u32 c.B5.a0 1==0 then false else bif(Q1g m c.Pc 4).2 then bif(Q26 (Q1g m c.Pc 4).1).2 then bif(Q26 (Q1g m c.Pc 4).1).1.Op==60 then(Q26 (Q1g m c.Pc 4).1).1.Imm==2 else false else false else false
theorem Ze1(m:Q00):Qet m=readsC (Q0t m) m.Mem:=rfl
theorem xaI(c:Q05)(i:Q0m):ioP (Qiz c i).2=(bif i.Op==60 then wrap .i64 i.Imm==2 else false):=by
 show Tree.V (Q8a c i) (λr=>ioP r.2=_)
 have no: ∀{k:Int},i.Op=k->k≠60-> ∀e:Q18,e.B6≠1->ioP e=(bif i.Op==60 then wrap .i64 i.Imm==2 else false):=λh g e he=>by
   unfold ioP
   rw[h,show(_==(60:Int))=false from beq_false_of_ne g,show(e.B6==1)=false from beq_false_of_ne he];rfl
 have eq: ∀{k:Int},(i.Op==k)=true->i.Op=k:=λh=>eq_of_beq h
 unfold Q8a
 refine v_br (λh=>v_lv λ_ _=>v_lf (no (eq h) (by decide) _ (show(0:Int)≠1 by decide))) λ_=>v_br (λh=>v_lv λ_ _=>v_lf (no (eq h) (by decide) _ (show(0:Int)≠1 by decide))) λ_=>v_br (λh=>v_cn (v_an (v_lv λ_ _=>v_lf (no (eq h) (by decide) _ (show(0:Int)≠1 by decide))))) λ_=>v_br (λh=>v_cn (v_an (v_lv λ_ _=>v_lf (no (eq h) (by decide) _ (show(0:Int)≠1 by decide))))) λ_=>v_br (λh=>v_lf ?_) λh60=> ?_
 . show(bif(1:Int)==1 then wrap .i64 i.Imm==2 else false)=_
   rw[h];rfl
 . have n60:i.Op≠60:=λe=>by rw[e]at h60;cases h60
   refine v_br (λh=>v_cn (v_lf (no (eq h) (by decide) _ (by show(2:Int)≠1;decide)))) λ_=>v_br (λh=>v_lf (no (eq h) (by decide) _ (show(3:Int)≠1 by decide))) λ_=>v_br (λh=>v_lf (no (eq h) (by decide) _ (show(5:Int)≠1 by decide))) λ_=>v_br (λh=>v_lf (no (eq h) (by decide) _ (show(4:Int)≠1 by decide))) λ_=>v_lf (no rfl n60 _ (show(0:Int)≠1 by decide))
theorem qk(c:Q05)(m:List Int)(i:Q0m):ioP (Qjl c m i).2.1=(bif i.Op==60 then wrap .i64 i.Imm==2 else false):=by
 unfold Qjl
 cases h:decide (i.Op>=56)
 . have h:=oN h
   rw[show(i.Op==60)=false from beq_false_of_ne (by omega)]
   cases decide (i.Op>=40)<;>cases decide (i.Op>=32)<;>cases i.Op==24<;>cases decide (i.Op<=13)<;>rfl
 . exact xaI c i
theorem Zls{P:Nat}{m:List Int}(h:Q15 P m){c:Q05}(hc:Q2r c)(hst:c.B5.a0<=31):ioP (Qci c m).2.1=readsC c m:=by
  rw[do_eq]
  unfold readsC
  cases hk:iand .u32 c.B5.a0 1==0
  . have hp:Ql3 c=false:=by
      rw[Z8d hc.a0.1 hst,show Qa6 c=true from by show(iand .u32 c.B5.a0 1 !=0)=true;rw[bne,hk];rfl]
      rfl
    have wi:=Qhp h hc.pc (size:=4) (.inr rfl)
    have kn:Qem 1=true:=rfl
    have p0:=hc.pc.1
    have tm:dA c.Pc (wrap .u32 4)=c.Pc%4:=by
      rw[show wrap .u32 4=4 from rfl,eB p0]
    have rc:Q17 c m c.Pc 4 1=bif c.Pc%4 !=0 then(0,3,m) else bif !Q2b m c.Pc 4 then(0,Q29 1,m) else(c.Pc,0,m):=by
      simp only[Q17,Q8,Tree.m,letv,kn,hp,tm]
      rfl
    rw[rc]
    cases h4:(c.Pc%4 !=0)
    . cases hw:Q2b m c.Pc 4
      . have l2:(Q1g m c.Pc 4).2=false:=by
          simp only[Q1g,Q40,Tree.m,letv,hw];rfl
        rw[l2]
        show ioP (doR c (0,Q29 1,m) _ _).2.1=false
        unfold doR
        rw[show((0,Q29 1,m):Int×Int×List Int).2.1=Q29 1 from rfl,show(Q29 1 !=0)=true by decide]
        rfl
      . have l2:(Q1g m c.Pc 4).2=true:=by
          simp only[Q1g,Q40,Tree.m,letv,hw];rfl
        rw[l2]
        show ioP (doR c (c.Pc,0,m) (Q1g m c.Pc 4).1 (Q26 (Q1g m c.Pc 4).1)).2.1=_
        have im:=Zmw (Q1g m c.Pc 4).1
        generalize Q1g m c.Pc 4=x at*
        generalize Q26 x.1=d at*
        unfold doR
        cases d.2
        . rfl
        . rw[hk]
          have:=qk c m d.1
          rw[im]at this
          cases Q3j d.1.Op<;>exact this
    . have hw:Q2b m c.Pc 4=false:=by
        rw[wi]
        refine dN λe=> ?_
        rw[e.1]at h4;cases h4
      have l2:(Q1g m c.Pc 4).2=false:=by
        simp only[Q1g,Q40,Tree.m,letv,hw];rfl
      rw[l2];rfl
  . have us : ∀x w d,ioP (doR c x w d).2.1=false:=λx w d=>by
      unfold doR
      cases x.2.1 !=0
      . cases d.2
        . rfl
        . cases hp:Q3j d.1.Op
          . have:=qk c x.2.2 d.1
            rw[show(d.1.Op==60)=false from beq_false_of_ne λe=>by rw[e]at hp;cases hp]at this
            exact this
          . rw[hk];rfl
      . rfl
    exact us _ _ _
theorem Qvt{m:Q00}(h:okV m):Q2 m=Q0g m:=by
 have rd:Q0g m=bif Q0r m then false else Qet m:=rfl
 have pd:Q2 m=bif !Q2h m then false else ioP (Q57 (Q0s m).B1 (Q0s m).Mem).2.2:=rfl
 rw[rd,pd,Qsr h]
 cases hs:Q0r m
 . have hr:Q2h m=true:=by rw[Qsr h,hs];rfl
   obtain⟨hm,hh,hct⟩:=Qzz hr
   obtain⟨g1,g2,g3,g4,g5⟩:=(Qlw m).1 hm
   rcases(Qor m.Mem h.mem).2 with c|⟨P,hP,hmem⟩
   . exact absurd c g1
   have okm:okS P m:=⟨h.cpu,hmem,h.disk,h.nic,h.bal.1,h.bal.2⟩
   obtain⟨b1,b2,b3,_⟩:=(Tree.pp (Qta okm g2)).2
   change Q65 (Q0s m).B1 at b1
   change okS P (Q0s m) at b2
   have be:=Qx4 h g2.st
   have b1':Q65 (Q0t m):=by have:=b1;rw[be]at this;exact this
   have b2':Q2r (Q0t m):=by have:=b2.cpu;rw[be]at this;exact this
   have ex:=Zfg hmem b2' b1'.st
   rw[be,Ze1,<-Zls hmem b2' b1'.st]
   show ioP (Q57 (Q0t m) m.Mem).2.2=_
   rw[ex];rfl
 . rfl
theorem qaJ(d:Q0f)(m:List Int)(e:Q0a):(Q9w d m e).2.1=false->Q9w d m e=(d,false,m):=by
 show Tree.V (Q6o d m e) (λr=>r.2.1=false->r=(d,false,m))
 have no: ∀{p:Prop},true=false->p:=λh=>by cases h
 unfold Q6o
 repeat'(first
   |exact v_lf λ_=>rfl
   |exact v_lf no
   |exact v_an (v_lv λ_ _=>v_lf no)
   |refine v_lv λ_ _=> ?_
   |refine v_an ?_
   |refine v_br (λ_=> ?_) (λ_=> ?_))
theorem zaJ(n:Q0q)(m:List Int)(s:List UInt8):(Q97 n m s).2.1=false->Q97 n m s=(n,false,m):=by
 show Tree.V (Q6k n m s) (λr=>r.2.1=false->r=(n,false,m))
 have no: ∀{p:Prop},true=false->p:=λh=>by cases h
 unfold Q6k
 repeat'(first
   |exact v_lf λ_=>rfl
   |exact v_an (v_lv λ_ _=>v_lf no)
   |refine v_lv λ_ _=> ?_
   |refine v_br (λ_=> ?_) (λ_=> ?_))
theorem zao(t:Q0i):(Q7r t).2=false->(Q7r t).1=t:=by
 show Tree.V (Q9e t) (λr=>r.2=false->r.1=t)
 have no: ∀{p:Prop},true=false->p:=λh=>by cases h
 unfold Q9e
 repeat'(first
   |exact v_lf λ_=>rfl
   |exact v_lf no
   |refine v_br (λ_=> ?_) (λ_=> ?_))
theorem xao(c:Q0d)(b:Int):(Qo7 c b).2=false->(Qo7 c b).1=c:=by
 show Tree.V (Qcl c b) (λr=>r.2=false->r.1=c)
 have no: ∀{p:Prop},true=false->p:=λh=>by cases h
 unfold Qcl
 exact v_br (λ_=>v_lf λ_=>rfl) (λ_=>v_cn (v_lf no))
theorem zZ(m:Q00)(e:Q0a):(Q0n m e).1=false->(Q0n m e).2=m:=by
 show Tree.V (Q5k m e) (λr=>r.1=false->r.2=m)
 have no: ∀{p:Prop},true=false->p:=λh=>by cases h
 unfold Q5k
 repeat'(first
   |exact v_lf λ_=>rfl
   |exact v_lf no
   |exact v_lv λx hx=>v_lf λh=>by rw[hx]at h⊢;rw[zao _ h]
   |exact v_an (v_lv λx hx=>v_lf λh=>by rw[hx]at h⊢;rw[qaJ _ _ _ h])
   |exact v_an (v_lv λx hx=>v_lf λh=>by rw[hx]at h⊢;rw[zaJ _ _ _ h])
   |exact v_an (v_lv λx hx=>v_lf λh=>by rw[hx]at h⊢;rw[xao _ _ h])
   |refine v_br (λ_=> ?_) (λ_=> ?_))
theorem xk{m:Q00}(h:U m.A2.C3):Q3q m:=by
 show(Q3d m).p
 unfold Tree.p Q3d
 refine w_br (λ_=>w_an ?_ (w_lv λ_ _=>trivial)) (λ_=>trivial)
 show(Q38 m).p
 unfold Tree.p Q38
 exact Q0h (Zkz h) λ_ _=>trivial
theorem Zky{P:Nat}{m:Q00}(h:okS P m):(Q2e m).w (λ_=>True):=by
 unfold Q2e
 exact Q0h (Zj h.given) λ_ _=>w_br (λ_=>trivial) (λ_=>Q0h (yU h) λx1 h1=>Q0h (yw h1.cpu h1.mem) λx2 _=>w_br (λ_=>trivial) (λ_=>trivial))
theorem Z71{e:Q0a}(h:U e.N):Qbk e=Q1x e:=by
 obtain⟨h0,h1⟩:=h
 have d: ∀b:Bool,(bif e.N==1 then(bif decide (e.C9=[]) then true else b) else(bif e.N==0 then decide (e.C9=[]) else false))=(bif decide (e.N<=1) then(bif decide (e.C9=[]) then true else(bif e.N==1 then b else false)) else false):=λb=>by
   rcases(by omega:e.N=0\/e.N=1\/2<=e.N) with k|k|k
   . rw[k];cases decide (e.C9=[])<;>rfl
   . rw[k];cases decide (e.C9=[])<;>rfl
   . rw[show(e.N==1)=false from beq_false_of_ne (by omega),show(e.N==0)=false from beq_false_of_ne (by omega),dN (show¬e.N<=1 by omega)];rfl
 simp only[Qbk,Qgn,Q1x,Qut,Tree.m,d]
theorem Qsu(r:Q01):Qa7 r=r:=rfl
theorem Qpi{r:Q01}(hm:r.A0.Mem.length<=1024)(hl:r.B4.length<=1000000)(hq:r.A6.length<=1000000):Q41 r:=by
 show(Q5s r).p
 unfold Tree.p Q5s
 exact w_an (by show r.A0.Mem.length<=35184372088832;omega) (w_lv λ_ _=>w_an (by show r.B4.length<=3518437208883;omega) (w_lv λ_ _=>w_an (by show r.A6.length<=3518437208883;omega) (w_lv λ_ _=>trivial)))
section
variable {P:Nat} {m:Q00} (h:good P m)
include h
theorem good.len:m.Mem.length<=1024:=by have:=h.ok.mem.len;have:=h.ok.mem.p2;omega
theorem good.app(e:Q0a):Q54 m e=((Q0n m e).2,(Q0n m e).1):=by
 rw[Z77 h.v]
 simp only[Qkt,Qkd,Tree.m,letv,Zeq,h.rmay];rfl
theorem good.step(hs:Q0r m=false)(clock:Int):Q1z m clock=((Q0j m clock).2,(Q0j m clock).1):=by
 rw[Zdk h.v,Z9k,hs];rfl
theorem good.idle:Q37 m=Qdv m:=Zed h.v
end
theorem xaJ(e:Q0a){r:Q01}(hl:r.B4.length<=1000000):(Q6p e r).w (λx=>x={A0:=r.A0,A3:=r.A3,B4:=r.B4++[{At:=r.A0.A1,C1:=e}],A6:=r.A6}):=by
 unfold Q6p
 exact w_cn (dY (by omega)) rfl
theorem qap(e:Q0a){r:Q01}(hl:r.B4.length<=1000000):(Q60 e r).w (λx=>x={A0:=r.A0,A3:=r.A3,B4:=r.B4++[{At:=r.A0.A1,C1:=e}],A6:=r.A6}):=by
 unfold Q60
 exact w_cn (dY (by omega)) rfl
theorem Zk7{P:Nat}{r:Q01}(h:good P r.A0){e:Q0a}(he:U e.N)(hl:r.B4.length<=1000000):(Q6n e r).w (λx=>x=Q1s r e):=by
 unfold Q6n
 refine w_an (Qw4 h.v h.len he) (w_lv λx0 e0=> ?_)
 rw[h.app]at e0
 refine w_br (λhb=>Q0h (qap e (r:=⟨x0.1,r.A3,r.B4,r.A6⟩) hl) λx1 e1=> ?_) (λhb=> ?_)
 . have hb:(Q0n r.A0 e).1=true:=by rw[e0]at hb;exact hb
   show x1=_
   unfold Q1s
   rw[e1,hb,e0];rfl
 . have hb:(Q0n r.A0 e).1=false:=by rw[e0]at hb;exact hb
   show r=_
   unfold Q1s
   rw[hb,zZ _ _ hb];rfl
theorem Qls(r:Q01)(e:Q0a):(Q1s r e).B4.length<=r.B4.length+1:=by
 unfold Q1s
 cases(Q0n r.A0 e).1
 . exact fD _
 . show(r.B4++[_]).length<=_
   rw[lA,cU];omega
theorem Zcv(r:Q01):(Q25 r).B4.length<=r.B4.length+1:=by
 unfold Q25
 cases Q7h r.A0.B0 r.A3
 . exact fD _
 . exact Qls _ _
theorem zk(r:Q01):(Zch r).B4.length<=r.B4.length+1:=by
 unfold Zch
 cases Q0g r.A0
 . exact fD _
 . show(r.B4++[_]).length<=_
   rw[lA,cU];omega
theorem Z6u{P:Nat}{m:Q00}(h:good P m):Q0r m=bif m.A9 then true else bif Q37 m then true else m.A1==1152921504606846976:=by
 have hc:=((Qlw m).1 h.may).2.2.1
 have e:decide (m.A1>=1152921504606846976)=(m.A1==1152921504606846976):=by
   by_cases g:m.A1=1152921504606846976
   . rw[g];rfl
   . rw[show(m.A1==1152921504606846976)=false from beq_false_of_ne g,dN (by omega)]
 rw[h.idle,<-e]
 simp only[Q0r,Qfp,Tree.m,letv,h.rmay];rfl
theorem Qtl{r:Q01}(hr:Q0g r.A0=true):Qj0 r={A0:=(Q0j r.A0 r.A3).2,A3:=wrap .u32 (r.A3+1),B4:=r.B4++[{At:=r.A0.A1,C1:={B6:=1,N:=r.A3,C9:=[]}}],A6:=r.A6}:=by
 unfold Qj0 Zch;rw[hr];rfl
theorem Zak{r:Q01}(hr:Q0g r.A0=false):Qj0 r={A0:=(Q0j r.A0 r.A3).2,A3:=wrap .u32 (r.A3+1),B4:=r.B4,A6:=r.A6}:=by
 unfold Qj0 Zch;rw[hr];rfl
theorem Z3n(r:Q01):(Qj0 r).B4.length<=r.B4.length+1:=zk r
theorem Zo1{n:Nat}{r:Q01}{o:List Q04}(hs:Q0r (Q25 r).A0=true):recF (n+1) r o=(Q25 r,o):=by
 conv=>lhs;unfold recF
 rw[hs];rfl
theorem zap{n:Nat}{r:Q01}{o:List Q04}(hs:Q0r (Q25 r).A0=false):recF (n+1) r o=recF n (Qj0 (Q25 r)) (o++(Q0j (Q25 r).A0 (Q25 r).A3).1):=by
 conv=>lhs;unfold recF
 rw[hs];rfl
theorem zL{r:Q01}(h:Q55 r.A0=true)(steps clock:Int):advF r steps clock=recF (Q0o steps).toNat (noQ (r.A6.foldl Q1s {A0:=r.A0,A3:=if clock>r.A3 then clock else r.A3,B4:=r.B4,A6:=r.A6})) []:=by
 unfold advF;rw[h];rfl
theorem qaK{P:Nat}{k:Int}{r:Q01}(h:Q5z P k r)(steps:Int){clock:Int}(hc:U clock)(hl:r.B4.length<=900000)(hq:r.A6.length<=1000)(hu: ∀q∈r.A6,U q.N):
    (Q6g r steps clock).w (λx=>x=advF r steps clock):=by
  obtain⟨lim0,lim1⟩:=Qol steps
  have lim:(if 4000<(if 0>steps then 0 else steps) then 4000 else(if 0>steps then 0 else steps))=Q0o steps:=rfl
  have hA:=zL h.m.rmay steps clock
  unfold Q6g
  refine w_an (Qpi h.m.len (by omega) (by omega)) (w_lv λx0 e0=> ?_)
  rw[Qsu]at e0
  subst e0
  refine w_an (Tree.pp (Z73 h.m.ok.target.2)).1 (w_lv λx1 e1=>w_br (λhb=>by rw[e1,h.m.may]at hb;cases hb) λhb=> ?_)
  have hcl:U (if clock>x0.A3 then clock else x0.A3):=by split<;>first|exact hc|exact h.clock
  generalize hr0:({A0:=x0.A0,A3:=if clock>x0.A3 then clock else x0.A3,B4:=x0.B4,A6:=x0.A6}:Q01)=r0 at*
  have hQ:r0.A6=x0.A6:=by rw[<-hr0]
  have hL:r0.B4=x0.B4:=by rw[<-hr0]
  have g0:Q5z P k r0:=by rw[<-hr0];exact⟨h.m,hcl,h.cnt⟩
  refine w_lp (inv:=λz:Int×Q01=>0<=z.1/\z.1<=x0.A6.length/\z.2.A6=x0.A6/\Q5z P k z.2/\(z.2.B4.length:Int)<=x0.B4.length+z.1/\(x0.A6.drop z.1.toNat).foldl Q1s z.2=x0.A6.foldl Q1s r0) (μ:=Qgv x0 steps clock) ⟨cQ 0,by show(0:Int)<=_;omega,hQ,g0,by rw[hL];omega,rfl⟩ (cK _) λz ⟨z0,z1,z2,z3,z4,z5⟩=> ?_
  refine w_br (λhb=> ?_) (λhb=> ?_)
  . have hb:=oY hb
    have hlt:z.1.toNat<x0.A6.length:=by omega
    have ed:x0.A6.getD z.1.toNat (RK.dflt RK.apiEvent)=x0.A6[z.1.toNat]:=by rw[cZ,cG hlt];rfl
    have hm:x0.A6.getD z.1.toNat (RK.dflt RK.apiEvent)∈x0.A6:=by rw[ed];exact fE hlt
    refine w_cn (by simp [bT];omega) (Q0h (Zk7 z3.m (hu _ hm) (by omega)) λx2 e2=>w_nx ?_)
    have ew:i64.wrap (z.1+1)=z.1+1:=by rw[wrap_i64];omega
    have q2:x2.A6=x0.A6:=by rw[e2,Qos,z2]
    have l2:=Qls z.2 (x0.A6.getD z.1.toNat (RK.dflt RK.apiEvent))
    rw[<-e2]at l2
    have g2:=(Qiq z3 (hu _ hm)).1
    rw[<-e2]at g2
    show(0<=i64.wrap (z.1+1)/\i64.wrap (z.1+1)<=x0.A6.length/\x2.A6=x0.A6/\Q5z P k x2/\(x2.B4.length:Int)<=x0.B4.length+i64.wrap (z.1+1)/\(x0.A6.drop (i64.wrap (z.1+1)).toNat).foldl Q1s x2=_)/\(x2.A6.length-i64.wrap (z.1+1)).toNat<(z.2.A6.length-z.1).toNat
    rw[ew,q2,z2]
    refine⟨⟨by omega,by omega,rfl,g2,by omega,?_⟩,by omega⟩
    rw[<-z5,aB hlt,aD,show(z.1+1).toNat=z.1.toNat+1 by omega,e2,ed]
  . have hb:=oN hb
    obtain⟨zi,zr⟩:=z
    have hb: ¬zi<x0.A6.length:=hb
    have ze:zr=x0.A6.foldl Q1s r0:=by
      rw[<-z5,aA (by show x0.A6.length<=zi.toNat;omega)];rfl
    rw[<-ze]at hA
    have z3:Q5z P k zr:=z3
    have z4:(zr.B4.length:Int)<=x0.B4.length+zi:=z4
    have z1:zi<=x0.A6.length:=z1
    refine w_lp (inv:=λy:Int×Q01×List Q04=>0<=y.1/\y.1<=Q0o steps/\Q5z P (k+y.1) y.2.1/\(y.2.1.B4.length:Int)<=zr.B4.length+2*y.1/\(y.2.2.length:Int)<=y.1/\recF (Q0o steps-y.1).toNat y.2.1 y.2.2=advF x0 steps clock) (μ:=Q7f x0 steps clock (zi,zr)) ⟨cQ 0,by show(0:Int)<=_;omega,⟨z3.m,z3.clock,by have:=z3.cnt;show zr.A0.A1<=k+0;omega⟩,by show(zr.B4.length:Int)<=_+2*0;omega,cQ 0,by rw[hA];show recF (Q0o steps-0).toNat _ _=_;rw[fF];rfl⟩ (cK _) λy ⟨y0,y1,y2,y3,y4,y5⟩=> ?_
    obtain⟨yi,yr,yo⟩:=y
    have y0:0<=yi:=y0
    have y1:yi<=Q0o steps:=y1
    have y2:Q5z P (k+yi) yr:=y2
    have y3:(yr.B4.length:Int)<=zr.B4.length+2*yi:=y3
    have y4:(yo.length:Int)<=yi:=y4
    change recF (Q0o steps-yi).toNat yr yo=_ at y5
    refine w_br (λhb=> ?_) (λhb=> ?_)
    . have hb:yi<Q0o steps:=oY hb
      have ew:i64.wrap (yi+1)=yi+1:=by rw[wrap_i64];omega
      have en:(Q0o steps-yi).toNat=(Q0o steps-(yi+1)).toNat+1:=by omega
      rw[en]at y5
      obtain⟨gf,gc⟩:=Qhl y2
      have lf:=Zcv yr
      have mu: ∀q,Q7f x0 steps clock (zi,zr) (wrap .i64 (yi+1),q)<Q7f x0 steps clock (zi,zr) (yi,yr,yo):=λq=>by
        show(4000-wrap .i64 (yi+1)).toNat<(4000-yi).toNat
        rw[ew];omega
      have nxt: ∀(x:Q01) (o:List Q04),Q0r (Q25 yr).A0=false->x=Qj0 (Q25 yr)->o=yo++(Q0j (Q25 yr).A0 (Q25 yr).A3).1->(0<=wrap .i64 (yi+1)/\wrap .i64 (yi+1)<=Q0o steps/\Q5z P (k+wrap .i64 (yi+1)) x/\(x.B4.length:Int)<=zr.B4.length+2*wrap .i64 (yi+1)/\(o.length:Int)<=wrap .i64 (yi+1)/\recF (Q0o steps-wrap .i64 (yi+1)).toNat x o=advF x0 steps clock):=λx o hs hx ho=>by
        have t:=Qhn gf hs
        have lt:=Z3n (Q25 yr)
        obtain⟨_,_,a3⟩:=Q6m gf.m hs gf.clock
        rw[ew,hx,ho]
        refine⟨by omega,by omega,⟨t.m,t.clock,by have:=t.cnt;omega⟩,by omega,by rw[lA];omega,?_⟩
        rw[<-y5,zap hs]
      have stk: ∀(x:Q01),Q0r (Q25 yr).A0=true->x=Q25 yr->(x,yo)=advF x0 steps clock:=λx hs hx=>by
        rw[<-y5,Zo1 hs,hx]
      have sg:=Z6u gf.m
      have cn: ∀(o:List Q04),Q0r (Q25 yr).A0=false->o=(Q0j (Q25 yr).A0 (Q25 yr).A3).1->decide (40*(yo.length+o.length)<=140737488355328)=true:=λo hs ho=>dY (by
        obtain⟨_,_,a3⟩:=Q6m gf.m hs gf.clock
        rw[ho];omega)
      have sp:=(Zcq gf.m.v gf.m.len (clock:=(Q25 yr).A3) gf.clock).1
      have ms:=λhs=>gf.m.step hs (Q25 yr).A3
      have rs:=Qvt gf.m.v
      have rp:Q1r (Q25 yr).A0:=(Tree.pp (Zky gf.m.s)).1
      have ip:Q3q (Q25 yr).A0:=xk gf.m.ok.target.2
      have lw:=λe=>xaJ e (r:=Q25 yr) (by omega)
      have tr:=Qtl (r:=Q25 yr)
      have tn:=Zak (r:=Q25 yr)
      have fin: ∀f:Q01,f=Q25 yr->Q5z P (k+yi) yr->f=f:=λ_ _ _=>rfl
      refine w_lv λx3 e3=>w_br (λhd=>Q0h (Zk7 y2.m U_0 (by omega)) λx4 e4=> ?_) (λhd=> ?_)
      . have e5:x4=Q25 yr:=by
          have e3:x3=Q7h yr.A0.B0 yr.A3:=e3
          rw[e4];unfold Q25;rw[<-e3,hd];rfl
        rw[<-e5]at nxt stk sg cn sp ms rs rp ip lw tr tn
        refine w_br (λhh=>stk _ (by rw[sg,hh];rfl) rfl) λhh=>w_an ip (w_lv λx5 i5=>w_br (λhi=>stk _ (by rw[sg,hh,<-i5,hi];rfl) rfl) λhi=>w_br (λhct=>stk _ (by rw[sg,hh,<-i5,hi,hct];rfl) rfl) λhct=> ?_)
        have hs:Q0r x4.A0=false:=by rw[sg,hh,<-i5,hi,hct];rfl
        refine w_an rp (w_lv λx6 e6=>w_br (λhr=>Q0h (lw _) λx7 e7=> ?_) (λhr=>w_an sp (w_lv λx9 e9=>w_cn (cn _ hs (by rw[e9,ms hs])) (w_nx ⟨nxt _ _ hs (by rw[e9,ms hs,tn (by rw[<-rs,<-e6,hr])]) (by rw[e9,ms hs]),mu _⟩))))
        subst e7
        refine w_an sp (w_lv λx8 e8=>w_cn (cn _ hs (by rw[e8];exact congrArg fG (ms hs))) (w_nx ⟨nxt _ _ hs ?_ ?_,mu _⟩))
        . rw[tr (by rw[<-rs,<-e6,hr]),e8]
          exact congrArg (λq:Q00×List Q04=>({A0:=q.1,A3:=wrap .u32 (x4.A3+1),B4:=x4.B4++[{At:=x4.A0.A1,C1:={B6:=1,N:=x4.A3,C9:=[]}}],A6:=x4.A6}:Q01)) (ms hs)
        . rw[e8];exact congrArg (λq:Q00×List Q04=>yo++q.2) (ms hs)
      . have e5:yr=Q25 yr:=by
          have e3:x3=Q7h yr.A0.B0 yr.A3:=e3
          unfold Q25;rw[<-e3,hd];rfl
        rw[<-e5]at nxt stk sg cn sp ms rs rp ip lw tr tn
        refine w_br (λhh=>stk _ (by rw[sg,hh];rfl) rfl) λhh=>w_an ip (w_lv λx5 i5=>w_br (λhi=>stk _ (by rw[sg,hh,<-i5,hi];rfl) rfl) λhi=>w_br (λhct=>stk _ (by rw[sg,hh,<-i5,hi,hct];rfl) rfl) λhct=> ?_)
        have hs:Q0r yr.A0=false:=by rw[sg,hh,<-i5,hi,hct];rfl
        refine w_an rp (w_lv λx6 e6=>w_br (λhr=>Q0h (lw _) λx7 e7=> ?_) (λhr=>w_an sp (w_lv λx9 e9=>w_cn (cn _ hs (by rw[e9,ms hs])) (w_nx ⟨nxt _ _ hs (by rw[e9,ms hs,tn (by rw[<-rs,<-e6,hr])]) (by rw[e9,ms hs]),mu _⟩))))
        subst e7
        refine w_an sp (w_lv λx8 e8=>w_cn (cn _ hs (by rw[e8];exact congrArg fG (ms hs))) (w_nx ⟨nxt _ _ hs ?_ ?_,mu _⟩))
        . rw[tr (by rw[<-rs,<-e6,hr]),e8]
          exact congrArg (λq:Q00×List Q04=>({A0:=q.1,A3:=wrap .u32 (yr.A3+1),B4:=yr.B4++[{At:=yr.A0.A1,C1:={B6:=1,N:=yr.A3,C9:=[]}}],A6:=yr.A6}:Q01)) (ms hs)
        . rw[e8];exact congrArg (λq:Q00×List Q04=>yo++q.2) (ms hs)
    . have hb: ¬yi<Q0o steps:=oN hb
      show(yr,yo)=_
      rw[<-y5,show(Q0o steps-yi).toNat=0 by omega];rfl
def Qqt:Q0a:={B6:=2,N:=0,C9:=[]}
theorem Zi2(m:Q00):Q0n m Qqt=bif m.A9 then(false,m) else((Q7r m.B0).2,{B1:=m.B1,Mem:=m.Mem,A4:=m.A4,B0:=(Q7r m.B0).1,B2:=m.B2,C6:=m.C6,A2:=m.A2,A1:=m.A1,A7:=m.A7,A9:=m.A9}):=rfl
theorem yk(t:Q0i):(Q7r t).2=true->(Q7r t).1.D2=false:=by
 show Tree.V (Q9e t) (λr=>r.2=true->r.1.D2=false)
 unfold Q9e
 exact v_br (λ_=>v_lf λh=>by cases h) (λ_=>v_lf λ_=>rfl)
theorem vk{t:Q0i}{c:Int}(h:t.D2=false):Q7h t c=false:=by
 simp only[Q7h,Z6i,Tree.m,h];rfl
theorem Z0n{r:Q01}{e:Q0a}(h:(Q0n r.A0 e).1=false):Q1s r e=r:=by
 unfold Q1s;rw[h,zZ _ _ h];rfl
theorem Qjc(r:Q01):Q25 r=bif Q7h r.A0.B0 r.A3 then Q1s r Qqt else r:=rfl
theorem ql{r:Q01}(h:Q7h r.A0.B0 r.A3=false):Q25 r=r:=by rw[Qjc,h];rfl
theorem Zee(r:Q01)(o:List Q04):recF 0 r o=(r,o):=rfl
theorem Qmr{n:Nat}{r:Q01}{o:List Q04}(hs:Q0r (Q25 r).A0=true):recF (n+1) r o=(Q25 r,o):=by
 conv=>lhs;unfold recF
 rw[hs];rfl
theorem Qm1{n:Nat}{r:Q01}{o:List Q04}(hs:Q0r (Q25 r).A0=false):recF (n+1) r o=recF n (Qj0 (Q25 r)) (o++(Q0j (Q25 r).A0 (Q25 r).A3).1):=by
 conv=>lhs;unfold recF
 rw[hs];rfl
theorem yL(n:Nat): ∀(r:Q01) (o:List Q04),recF n r o=((recF n r []).1,o++(recF n r []).2):=by
 induction n with
 |zero=>intro r o;rw[Zee,Zee,cJ]
 | succ n ih=>
   intro r o
   cases hs:Q0r (Q25 r).A0
   . rw[Qm1 hs,Qm1 hs,ih,ih (Qj0 (Q25 r)) ([]++_),fH,fC]
   . rw[Qmr hs,Qmr hs,cJ]
theorem Qvp{r:Q01}(h:Q55 r.A0=true)(steps clock:Int):advF r steps clock=recF (Q0o steps).toNat (noQ (r.A6.foldl Q1s {A0:=r.A0,A3:=if clock>r.A3 then clock else r.A3,B4:=r.B4,A6:=r.A6})) []:=by
 unfold advF;rw[h];rfl
theorem Qwa{s:Int}(h0:0<=s)(h1:s<=4000):Q0o s=s:=by
 have:Q0o s=(if 4000<(if 0>s then 0 else s) then 4000 else(if 0>s then 0 else s)):=rfl
 rw[this,if_neg (show¬0>s by omega),if_neg (show¬4000<s by omega)]
def preL(L:List Q0c)(r:Q01):Q01:={A0:=r.A0,A3:=r.A3,B4:=L++r.B4,A6:=r.A6}
theorem Z6n(L:List Q0c)(r:Q01)(e:Q0a):Q1s (preL L r) e=preL L (Q1s r e):=by
 unfold Q1s
 show(bif(Q0n r.A0 e).1 then _ else _)=_
 cases(Q0n r.A0 e).1
 . rfl
 . show(⟨_,_,(L++r.B4)++_,_⟩:Q01)=⟨_,_,L++(r.B4++_),_⟩
   rw[fC];rfl
theorem xl(L:List Q0c)(r:Q01):Q25 (preL L r)=preL L (Q25 r):=by
 rw[Qjc,Qjc]
 show(bif Q7h r.A0.B0 r.A3 then _ else _)=_
 cases Q7h r.A0.B0 r.A3
 . rfl
 . exact Z6n _ _ _
theorem zl(L:List Q0c)(r:Q01):(Zch (preL L r)).B4=L++(Zch r).B4:=by
 unfold Zch
 show Q01.B4 (bif Q0g r.A0 then _ else _)=_
 cases Q0g r.A0
 . rfl
 . show(L++r.B4)++_=L++(r.B4++_)
   rw[fC];rfl
theorem yl(L:List Q0c)(r:Q01):Qj0 (preL L r)=preL L (Qj0 r):=by
 unfold Qj0
 rw[zl];rfl
theorem vL(L:List Q0c)(n:Nat): ∀(r:Q01) (o:List Q04),recF n (preL L r) o=(preL L (recF n r o).1,(recF n r o).2):=by
 induction n with
 |zero=>intro r o;rfl
 | succ n ih=>
   intro r o
   have f:=xl L r
   cases hs:Q0r (Q25 r).A0
   . rw[Qm1 hs,Qm1 (by rw[f];exact hs),f,yl,ih];rfl
   . rw[Qmr hs,Qmr (by rw[f];exact hs),f]
theorem vl(L:List Q0c)(l:List Q0a): ∀r,l.foldl Q1s (preL L r)=preL L (l.foldl Q1s r):=by
 induction l with
 |nil=>intro r;rfl
 |cons e l ih=>intro r;rw[aD,aD,Z6n,ih]
theorem qM(L:List Q0c)(r:Q01)(steps clock:Int):advF (preL L r) steps clock=(preL L (advF r steps clock).1,(advF r steps clock).2):=by
 unfold advF
 show(bif !Q55 r.A0 then _ else recF _ (noQ (r.A6.foldl Q1s (preL L {A0:=r.A0,A3:=if clock>r.A3 then clock else r.A3,B4:=r.B4,A6:=r.A6}))) [])=_
 cases Q55 r.A0
 . rfl
 . rw[vl]
   exact vL L _ (noQ _) _
theorem Zmh(L:List Q0c)(r:Q01)(e:Q0a):Q28 (preL L r) e=(preL L (Q28 r e).1,(Q28 r e).2):=by
 rw[Qbw,Qbw]
 show(bif !Q1x e then _ else bif e.B6==1 then _ else bif decide ((r.A6.length:Int)>=16) then _ else _)=_
 cases Q1x e<;>cases e.B6==1<;>cases decide ((r.A6.length:Int)>=16)<;>rfl
structure Qva(P:Nat)(k:Int)(r:Q01):Prop where
 g:Q5z P k r
 q:okQ r.A6
 l:(r.B4.length:Int)<=3*k
theorem xM(n:Nat): ∀(r:Q01) (o:List Q04),(recF n r o).1.B4.length<=r.B4.length+2*n:=by
 induction n with
 |zero=>intro r o;exact aO _
 | succ n ih=>
   intro r o
   have f:=Zcv r
   cases hs:Q0r (Q25 r).A0
   . rw[Qm1 hs]
     have:=ih (Qj0 (Q25 r)) (o++(Q0j (Q25 r).A0 (Q25 r).A3).1)
     have:=Z3n (Q25 r)
     omega
   . rw[Qmr hs]
     show(Q25 r).B4.length<=_
     omega
theorem qm(l:List Q0a): ∀r:Q01,(l.foldl Q1s r).B4.length<=r.B4.length+l.length:=by
 induction l with
 |nil=>intro r;exact aO _
 | cons e l ih=>
   intro r
   have:=ih (Q1s r e)
   have:=Qls r e
   rw[aD,dE];omega
theorem yM(r:Q01)(steps clock:Int):(advF r steps clock).1.B4.length<=r.B4.length+r.A6.length+8000:=by
 obtain⟨l0,l1⟩:=Qol steps
 cases hm:Q55 r.A0
 . unfold advF;rw[hm]
   show r.B4.length<=_
   omega
 . rw[Qvp hm]
   have a:=xM (Q0o steps).toNat (noQ (r.A6.foldl Q1s {A0:=r.A0,A3:=if clock>r.A3 then clock else r.A3,B4:=r.B4,A6:=r.A6})) []
   have b:=qm r.A6 {A0:=r.A0,A3:=if clock>r.A3 then clock else r.A3,B4:=r.B4,A6:=r.A6}
   have b:(noQ (r.A6.foldl Q1s {A0:=r.A0,A3:=if clock>r.A3 then clock else r.A3,B4:=r.B4,A6:=r.A6})).B4.length<=r.B4.length+r.A6.length:=b
   omega
theorem xm{P:Nat}(n:Nat): ∀{k:Int} {r:Q01} (o:List Q04),Q5z P k r->(recF n r o).2.length<=o.length+n:=by
 induction n with
 |zero=>intro k r o _;exact aO _
 | succ n ih=>
   intro k r o h
   obtain⟨f,_⟩:=Qhl h
   cases hs:Q0r (Q25 r).A0
   . rw[Qm1 hs]
     have:=ih (o++(Q0j (Q25 r).A0 (Q25 r).A3).1) (Qhn f hs)
     obtain⟨_,_,a3⟩:=Q6m f.m hs f.clock
     rw[lA]at this
     omega
   . rw[Qmr hs]
     show o.length<=_
     omega
theorem Zji{P:Nat}{k:Int}{r:Q01}(h:Q5z P k r)(hu: ∀q∈r.A6,U q.N){clock:Int}(hc:U clock):Q5z P k (noQ (r.A6.foldl Q1s {A0:=r.A0,A3:=if clock>r.A3 then clock else r.A3,B4:=r.B4,A6:=r.A6})):=by
 have hcl:U (if clock>r.A3 then clock else r.A3):=by split<;>first|exact hc|exact h.clock
 obtain⟨a,b⟩:=Z7z r.A6 (r:={A0:=r.A0,A3:=if clock>r.A3 then clock else r.A3,B4:=r.B4,A6:=r.A6}) ⟨h.m,hcl,h.cnt⟩ hu
 exact⟨a.m,a.clock,a.cnt⟩
theorem Qpf{P:Nat}{k:Int}{r:Q01}(h:Q5z P k r)(hq:okQ r.A6){clock:Int}(hc:U clock):Q5z P k (noQ (r.A6.foldl Q1s {A0:=r.A0,A3:=if clock>r.A3 then clock else r.A3,B4:=r.B4,A6:=r.A6})):=Zji h hq.2 hc
theorem zm{P:Nat}{k:Int}{r:Q01}(h:Q5z P k r)(hq:okQ r.A6)(steps:Int){clock:Int}(hc:U clock):(advF r steps clock).2.length<=4000:=by
 obtain⟨l0,l1⟩:=Qol steps
 rw[Qvp h.m.rmay]
 have:=xm (Q0o steps).toNat [] (Qpf h hq hc)
 have e:([]:List Q04).length=0:=rfl
 omega
theorem advP{P:Nat}{k:Int}{r:Q01}(h:Qva P k r)(steps:Int){clock:Int}(hc:U clock):Qva P (k+4000) (advF r steps clock).1:=by
 obtain⟨a,b⟩:=yj h.g h.q steps hc
 have c:=yM r steps clock
 have d:=h.q.1
 have e:=h.l
 exact⟨a,b,by omega⟩
theorem arriveP{P:Nat}{k:Int}{r:Q01}(h:Qva P k r){e:Q0a}(he:U e.N):Qva P k (Q28 r e).1:=by
 obtain⟨a,b⟩:=Zju h.g h.q he
 refine⟨a,b,?_⟩
 have:=h.l
 rw[Qbw]
 cases Q1x e<;>cases e.B6==1<;>cases decide ((r.A6.length:Int)>=16)<;>exact this
theorem Qva.more{P:Nat}{k j:Int}{r:Q01}(h:Qva P k r)(hj:k<=j):Qva P j r:=
 ⟨⟨h.g.m,h.g.clock,by have:=h.g.cnt;omega⟩,h.q,by have:=h.l;omega⟩
theorem newP{P:Nat}{m:Q00}(h:good P m)(hc:m.A1<=87):Qva P 87 {A0:=m,A3:=0,B4:=[],A6:=[]}:=
 ⟨⟨h,U_0,hc⟩,⟨aT _,λq hq=>by cases hq⟩,by show((0:Nat):Int)<=_;omega⟩
theorem vM{l acts:List Int}{x0:Bool}(hx0:x0=Qu2 l acts)(hb:(!x0)=false):l.length<=40/\acts.length<=30:=zan hx0 hb
theorem yZ{m:Q00}(h:m.Mem.length<=1024):(Q9g m).w (λx=>x={A0:=m,A3:=0,B4:=[],A6:=[]}):=by
 unfold Q9g
 refine w_an (Qpi (r:=⟨m,0,[],[]⟩) h (aT _) (aT _)) (w_lv λx hx=> ?_)
 show x=_
 rw[hx,Qsu]
theorem ym{r:Q01}(hm:r.A0.Mem.length<=1024)(hl:r.B4.length<=1000000)(hq:r.A6.length<=1000000){e:Q0a}(he:U e.N):(Q9a r e).w (λx=>x=Q28 r e):=by
 have hv:=Z71 he
 unfold Q9a
 refine w_an (Qpi hm hl hq) (w_lv λx0 h0=>w_lv λx1 h1=> ?_)
 rw[Qsu]at h0
 subst h0
 rw[h1,hv]
 refine w_br (λhb=> ?_) λhb=>w_br (λhk=> ?_) λhk=>w_br (λhl=> ?_) λhl=>w_cn (dY (by omega)) ?_
 . show(x0,false)=_;rw[Qbw,hb];rfl
 . show(x0,false)=_;rw[Qbw,hb,hk];rfl
 . show(x0,false)=_;rw[Qbw,hb,hk,hl];rfl
 . show(_,true)=_;rw[Qbw,hb,hk,hl];rfl
theorem zaK{r:Q01}(hm:r.A0.Mem.length<=1024)(hl:r.B4.length<=1000000)(hq:r.A6.length<=1000000):(Qfg r).w (λx=>x=({A0:=r.A0,A3:=r.A3,B4:=[],A6:=r.A6},r.B4,r.A0.A1)):=by
 unfold Qfg
 refine w_an (Qpi hm hl hq) (w_lv λx0 h0=> ?_)
 rw[Qsu]at h0
 subst h0
 rfl
theorem xaK{P:Nat}{k:Int}{r:Q01}(h:Qva P k r)(hk:k<=250000)(steps:Int){clock:Int}(hc:U clock):(Q6g r steps clock).w (λx=>x=advF r steps clock/\Qva P (k+4000) x.1/\x.2.length<=4000):=
 Tree.mono _ (λx hx=>by rw[hx];exact⟨rfl,advP h steps hc,zm h.g h.q steps hc⟩) (qaK h.g steps hc (by have:=h.l;omega) (by have:=h.q.1;omega) h.q.2)
theorem and255i(a:Int):0<=iand .i64 a 255/\iand .i64 a 255<=255:=by
 unfold iand
 rw[wrap_i64]
 have:(dS i64.bits a&&&dS i64.bits 255).toNat<=255:=by
   show(dS 64 a&&&dS 64 255).toNat<=255
   rw[dV]
   exact bH eA (by decide)
 omega
theorem Zix(a:Int):0<=wrap .u32 (iand .i64 a 255)/\wrap .u32 (iand .i64 a 255)<=255:=by
 have:=and255i a
 rw[wrap_u32];omega
theorem Zk8(n k:Int)(h0:0<=k)(h1:k<=1000):(Qtd n k).length=k.toNat:=by
 show Tree.V (Qed n k) (λs=>s.length=k.toNat)
 unfold Qed
 refine v_lp (inv:=λv:Int×List Int=>0<=v.1/\v.1<=k/\v.2.length=v.1.toNat) (μ:=Qe8 n k) ⟨cQ 0,h0,rfl⟩ (cK _) λv ⟨a,b,c⟩=> ?_
 refine v_br (λhb=> ?_) (λhb=> ?_)
 . have hb:=oY hb
   have e:i64.wrap (v.1+1)=v.1+1:=by rw[wrap_i64];omega
   refine v_lv λx _=>v_cn (v_nx ?_)
   show(0<=i64.wrap (v.1+1)/\i64.wrap (v.1+1)<=k/\(v.2++[_]).length=(i64.wrap (v.1+1)).toNat)/\(k-i64.wrap (v.1+1)).toNat<(k-v.1).toNat
   rw[e,lA,cU]
   exact⟨⟨by omega,by omega,by omega⟩,by omega⟩
 . have hb:=oN hb
   refine v_lf ?_
   show(bytesOf v.2).length=_
   unfold bytesOf
   rw[List.length_map,c];omega
theorem xap(n k:Int):0<=Qpk n k:=by
 show Tree.V (Qpg n k) (λx=>0<=x)
 unfold Qpg
 refine v_lv λx hx=>v_lf ?_
 have r:0<=x.1/\x.1<18446744073709551616:=by
   rw[hx]
   show 0<=wrap .u64 _/\wrap .u64 _<_
   rw[wrap_u64];omega
 show 0<=wrap .i64 (x.1.fdiv 2)
 rw[dK _ (by decide),wrap_i64];omega
def evOK(e:Q0a):Prop:=Q1x e=true/\e.B6≠1
theorem Z7:evOK Qqt:=⟨rfl,by decide⟩
theorem Zcw{n:Int}(h:n<=255):Q1x {B6:=3,N:=n,C9:=[]}=true:=by
 show(bif decide (n<=255) then decide (([]:List UInt8)=[]) else false)=true
 rw[dY h];rfl
theorem Zmk{s:List UInt8}(h:s.length=128):Q1x {B6:=4,N:=1,C9:=s}=true:=by
 show(bif decide (s=[]) then true else(s.length:Int)==128)=true
 rw[h];cases decide (s=[])<;>rfl
theorem vm{s:List UInt8}(h1:1<=s.length)(h2:s.length<=128):Q1x {B6:=5,N:=0,C9:=s}=true:=by
 show(bif decide ((s.length:Int)>=1) then decide ((s.length:Int)<=128) else false)=true
 rw[dY (show(s.length:Int)>=1 by omega),dY (show(s.length:Int)<=128 by omega)];rfl
theorem qN(n:Int):evOK (Qpu n):=by
 show Tree.V (Q9b n) evOK
 unfold Q9b
 refine v_lv λx hx=> ?_
 have x0:0<=x:=by rw[hx];exact xap n 2
 have i2: ∀k:Int,k≠1-> ¬k=1:=λ_ h=>h
 refine v_br (λ_=>v_lf ⟨rfl,by decide⟩) λ_=>v_br (λ_=>v_lf ⟨Zcw (Zix _).2,by show(3:Int)≠1;decide⟩) λ_=>v_br (λ_=>v_lf ⟨Zcw (Zix _).2,by show(3:Int)≠1;decide⟩) λ_=>v_br (λ_=>v_lf ⟨rfl,by decide⟩) λ_=>v_br (λ_=>v_an (v_lv λy hy=>v_lf ⟨Zmk ?_,by show(4:Int)≠1;decide⟩)) λ_=>v_br (λ_=>v_an (v_lv λy hy=>v_lf ⟨?_,by show(5:Int)≠1;decide⟩)) λ_=>v_br (λ_=>v_lf ⟨rfl,by decide⟩) λ_=>v_lf ⟨rfl,by show(6:Int)≠1;decide⟩
 . rw[hy,Zk8 _ _ (by decide) (by decide)];rfl
 . have s0:0<=ishr .i64 x 8:=by
     unfold ishr
     exact Int.fdiv_nonneg x0 (dL (dJ (by decide)))
   have t1:=Int.tmod_lt_of_pos (ishr .i64 x 8) (b:=40) (by decide)
   have t0:=Int.tmod_nonneg 40 s0
   have e:i64.wrap (1+dA (ishr .i64 x 8) 40)=1+dA (ishr .i64 x 8) 40:=by rw[wrap_i64];omega
   rw[e]at hy
   have:=Zk8 x (1+dA (ishr .i64 x 8) 40) (by omega) (by omega)
   rw[<-hy]at this
   exact vm (by omega) (by omega)
structure Qmf(c0:Int)(r:Q01):Prop where
 pw:r.B4.Pairwise λa b=>a.At<=b.At/\(a.C1.B6=1->a.At<b.At/\(b.C1.B6=1->a.C1.N<=b.C1.N))
 all: ∀e∈r.B4,c0<=e.At/\e.At<=r.A0.A1/\Q1x e.C1=true/\(e.C1.B6=1->e.At<r.A0.A1/\e.C1.N<r.A3/\0<=e.C1.N)
 q: ∀e∈r.A6,evOK e
 c:c0<=r.A0.A1
theorem Qmf.with{c0:Int}{r x:Q01}(h:Qmf c0 r)(hl:x.B4=r.B4)(hm:x.A0.A1=r.A0.A1)(hc:r.A3<=x.A3)(hq: ∀e∈x.A6,evOK e):Qmf c0 x:=
 ⟨by rw[hl];exact h.pw,by
   rw[hl,hm]
   exact λe he=>⟨(h.all e he).1,(h.all e he).2.1,(h.all e he).2.2.1,λk=>⟨((h.all e he).2.2.2 k).1,by have:=((h.all e he).2.2.2 k).2.1;omega,((h.all e he).2.2.2 k).2.2⟩⟩,hq,by rw[hm];exact h.c⟩
theorem Zcs{P:Nat}{k c0:Int}{r:Q01}(h:Qmf c0 r)(g:Q5z P k r){e:Q0a}(he:evOK e)(hu:U e.N):Qmf c0 (Q1s r e):=by
  obtain⟨a,b⟩:=Qdp g.m hu
  unfold Q1s
  cases(Q0n r.A0 e).1
  . exact h.with rfl b (cQ _) h.q
  . show Qmf c0 {A0:=(Q0n r.A0 e).2,A3:=r.A3,B4:=r.B4++[{At:=(Q0n r.A0 e).2.A1,C1:=e}],A6:=r.A6}
    rw[b]
    refine⟨List.pairwise_append.2 ⟨h.pw,fI _ _,λx hx y hy=> ?_⟩,λx hx=> ?_,h.q,by show c0<=(Q0n r.A0 e).2.A1;rw[b];exact h.c⟩
    . rw[List.mem_singleton.1 hy]
      obtain⟨p1,p2,p3,p4⟩:=h.all x hx
      exact⟨p2,λkx=>⟨(p4 kx).1,λke=>absurd ke he.2⟩⟩
    . show c0<=x.At/\x.At<=(Q0n r.A0 e).2.A1/\_/\(_->x.At<(Q0n r.A0 e).2.A1/\_)
      rw[b]
      rcases List.mem_append.1 hx with hx|hx
      . exact h.all x hx
      . rw[List.mem_singleton.1 hx]
        exact⟨h.c,cQ _,he.1,λke=>absurd ke he.2⟩
theorem xN{P:Nat}{k c0:Int}{r:Q01}(h:Qmf c0 r)(g:Q5z P k r):Qmf c0 (Q25 r):=by
 rw[Qjc]
 cases Q7h r.A0.B0 r.A3
 . exact h
 . exact Zcs h g Z7 U_0
theorem zN{P:Nat}{k c0:Int}{r:Q01}(h:Qmf c0 r)(g:Q5z P k r)(hs:Q0r r.A0=false)(hc:r.A3<4294967295):Qmf c0 (Qj0 r)/\(Qj0 r).A3=r.A3+1:=by
  obtain⟨_,b,_⟩:=Q6m g.m hs g.clock
  have c0':=g.clock.1
  have ec:wrap .u32 (r.A3+1)=r.A3+1:=by rw[wrap_u32];omega
  have old: ∀x∈r.B4,c0<=x.At/\x.At<=r.A0.A1+1/\Q1x x.C1=true/\(x.C1.B6=1->x.At<r.A0.A1+1/\x.C1.N<r.A3+1/\0<=x.C1.N):=λx hx=>by
    obtain⟨p1,p2,p3,p4⟩:=h.all x hx
    exact⟨p1,by omega,p3,λkx=>⟨by have:=(p4 kx).1;omega,by have:=(p4 kx).2.1;omega,(p4 kx).2.2⟩⟩
  have hcc:=h.c
  cases hr:Q0g r.A0
  . rw[Zak hr,ec]
    refine⟨⟨h.pw,?_,h.q,by show c0<=(Q0j r.A0 r.A3).2.A1;omega⟩,rfl⟩
    show∀x∈r.B4,c0<=x.At/\x.At<=(Q0j r.A0 r.A3).2.A1/\_/\(_->x.At<(Q0j r.A0 r.A3).2.A1/\_)
    rw[b];exact old
  . rw [Qtl hr,ec]
    refine⟨⟨List.pairwise_append.2 ⟨h.pw,fI _ _,λx hx y hy=> ?_⟩,?_,h.q,by show c0<=(Q0j r.A0 r.A3).2.A1;omega⟩,rfl⟩
    . rw[List.mem_singleton.1 hy]
      obtain⟨p1,p2,p3,p4⟩:=h.all x hx
      exact⟨p2,λkx=>⟨(p4 kx).1,λ_=>dL (p4 kx).2.1⟩⟩
    . show∀x∈r.B4++[_],c0<=x.At/\x.At<=(Q0j r.A0 r.A3).2.A1/\_/\(_->x.At<(Q0j r.A0 r.A3).2.A1/\_)
      rw[b]
      intro x hx
      rcases List.mem_append.1 hx with hx|hx
      . exact old x hx
      . rw[List.mem_singleton.1 hx]
        exact⟨h.c,by show r.A0.A1<=_;omega,rfl,λ_=>⟨by show r.A0.A1<_;omega,by show r.A3<r.A3+1;omega,c0'⟩⟩
theorem Ziv(r:Q01):(Q25 r).A3=r.A3:=by
 rw[Qjc]
 cases Q7h r.A0.B0 r.A3
 . rfl
 . show(Q1s r Qqt).A3=r.A3
   unfold Q1s;cases(Q0n r.A0 Qqt).1<;>rfl
theorem Zdi(r:Q01)(e:Q0a):(Q1s r e).A3=r.A3:=by
 unfold Q1s;cases(Q0n r.A0 e).1<;>rfl
theorem qaq{P:Nat}{c0:Int}(n:Nat): ∀{k B:Int} {r:Q01} {o:List Q04},Qmf c0 r->Q5z P k r->r.A3<=B->B+n<4294967295->Qmf c0 (recF n r o).1/\(recF n r o).1.A3<=B+n:=by
 induction n with
 |zero=>intro k B r o h g hb _;exact⟨h,by show r.A3<=B+(0:Nat);omega⟩
 | succ n ih=>
   intro k B r o h g hb hn
   have f:=xN h g
   obtain⟨gf,_⟩:=Qhl g
   have fc:=Ziv r
   cases hs:Q0r (Q25 r).A0
   . rw[Qm1 hs]
     obtain⟨t1,t2⟩:=zN f gf hs (by omega)
     have:=ih (o:=o++(Q0j (Q25 r).A0 (Q25 r).A3).1) t1 (Qhn gf hs) (B:=B+1) (by omega) (by omega)
     exact⟨this.1,by have:=this.2;omega⟩
   . rw[Qmr hs]
     exact⟨f,by show(Q25 r).A3<=_;omega⟩
theorem yN{P:Nat}{k c0:Int}(l:List Q0a): ∀{r:Q01},Qmf c0 r->Q5z P k r->(∀e∈l,evOK e/\U e.N)->Qmf c0 (l.foldl Q1s r)/\(l.foldl Q1s r).A3=r.A3/\Q5z P k (l.foldl Q1s r):=by
 induction l with
 |nil=>intro r h g _;exact⟨h,rfl,g⟩
 | cons e l ih=>
   intro r h g hu
   obtain⟨a,b⟩:=hu e (by simp)
   obtain⟨p,q,s⟩:=ih (Zcs h g a b) (Qiq g b).1 (λq hq=>hu q (by simp [hq]))
   exact⟨p,q.trans (Zdi r e),s⟩
theorem zaq{P:Nat}{k c0 B:Int}{r:Q01}(h:Qmf c0 r)(g:Q5z P k r)(hq:okQ r.A6){steps clock:Int}(hb:r.A3<=B)(hc0:0<=clock)(hc:clock<=B)(hs:0<=steps/\steps<12)(hB:B<1000000000):Qmf c0 (advF r steps clock).1/\(advF r steps clock).1.A3<=B+12:=by
 rw[Qvp g.m.rmay,Qwa hs.1 (by omega)]
 have m0:r.A3<=(if clock>r.A3 then clock else r.A3)/\(if clock>r.A3 then clock else r.A3)<=B:=by split<;>omega
 generalize(if clock>r.A3 then clock else r.A3)=cl at*
 have u:U cl:=by have:=g.clock;unfold U at*;omega
 obtain⟨a,b,c⟩:=yN r.A6 (r:={A0:=r.A0,A3:=cl,B4:=r.B4,A6:=r.A6}) (h.with rfl rfl m0.1 h.q) ⟨g.m,u,g.cnt⟩ (λe he=>⟨h.q e he,hq.2 e he⟩)
 have b:(r.A6.foldl Q1s {A0:=r.A0,A3:=cl,B4:=r.B4,A6:=r.A6}).A3=cl:=b
 generalize r.A6.foldl Q1s {A0:=r.A0,A3:=cl,B4:=r.B4,A6:=r.A6}=y at*
 have:=qaq steps.toNat (o:=[]) (r:=noQ y) (B:=B) (a.with rfl rfl (cQ _) (λe he=>by cases he)) (k:=k) ⟨c.m,c.clock,c.cnt⟩ (by show y.A3<=B;omega) (by omega)
 exact⟨this.1,by have:=this.2;omega⟩
theorem xaq{c0:Int}{r:Q01}(h:Qmf c0 r){e:Q0a}(he:evOK e):Qmf c0 (Q28 r e).1/\(Q28 r e).1.A3=r.A3:=by
  rw[Qbw]
  cases Q1x e
  . exact⟨h,rfl⟩
  . cases e.B6==1
    . cases decide ((r.A6.length:Int)>=16)
      . refine⟨h.with rfl rfl (cQ _) λq hq=> ?_,rfl⟩
        have hq:q∈r.A6++[e]:=hq
        rcases List.mem_append.1 hq with hq|hq
        . exact h.q q hq
        . rw[List.mem_singleton.1 hq];exact he
      . exact⟨h,rfl⟩
    . exact⟨h,rfl⟩
structure logP(c0 k B:Int)(r:Q01):Prop where
 p:Qva 8 k r
 l:Qmf c0 r
 b:r.A3<=B
theorem vN{m:Q00}(h:good 8 m)(hc:m.A1<=87):logP m.A1 87 255 {A0:=m,A3:=0,B4:=[],A6:=[]}:=
 ⟨newP h hc,⟨List.Pairwise.nil,(λe he=>by cases he),(λe he=>by cases he),cQ _⟩,by show(0:Int)<=255;decide⟩
inductive Q8x:Q00->List Q0c->List Q04->Q00->Prop
 |nil {m:Q00}:Q8x m [] [] m
 |ev {m n:Q00} {e:Q0a} {L:List Q0c} {o:List Q04}:(Q0n m e).1=true->e.B6≠1->U e.N->Q8x (Q0n m e).2 L o n->Q8x m ({At:=m.A1,C1:=e}::L) o n
 |rd {m n:Q00} {c:Int} {L:List Q0c} {o:List Q04}:Q0r m=false->Q0g m=true->U c->Q8x (Q0j m c).2 L o n->Q8x m ({At:=m.A1,C1:={B6:=1,N:=c,C9:=[]}}::L) ((Q0j m c).1++o) n
 |st {m n:Q00} {c:Int} {L:List Q0c} {o:List Q04}:Q0r m=false->Q0g m=false->U c->Q8x (Q0j m c).2 L o n->Q8x m L ((Q0j m c).1++o) n
theorem Q8x.trans{a b c:Q00}{L M:List Q0c}{o p:List Q04}(h:Q8x a L o b)(g:Q8x b M p c):Q8x a (L++M) (o++p) c:=by
 induction h with
 |nil=>exact g
 |ev h1 h2 h3 _ ih=>exact .ev h1 h2 h3 (ih g)
 |rd h1 h2 h3 _ ih=>rw[fC];exact .rd h1 h2 h3 (ih g)
 |st h1 h2 h3 _ ih=>rw[fC];exact .st h1 h2 h3 (ih g)
theorem Q8x.good{P:Nat}{a b:Q00}{L:List Q0c}{o:List Q04}(h:Q8x a L o b):good P a->good P b/\a.A1<=b.A1/\ ∀e∈L,a.A1<=e.At:=by
 induction h with
 |nil=>exact λg=>⟨g,cQ _,λe he=>by cases he⟩
 | ev h1 h2 h3 _ ih=>
   intro g
   obtain⟨g1,c1⟩:=Qdp g h3
   obtain⟨p,q,r⟩:=ih g1
   rw[c1]at q r
   exact⟨p,q,λe he=>(List.mem_cons.1 he).elim (λh=>by rw[h];exact cQ _) (λh=>r e h)⟩
 | rd h1 h2 h3 _ ih=>
   intro g
   obtain⟨g1,c1,_⟩:=Q6m g h1 h3
   obtain⟨p,q,r⟩:=ih g1
   rw[c1]at q r
   exact⟨p,by omega,λe he=>(List.mem_cons.1 he).elim (λh=>by rw[h];exact cQ _) (λh=>by have:=r e h;omega)⟩
 | st h1 h2 h3 _ ih=>
   intro g
   obtain⟨g1,c1,_⟩:=Q6m g h1 h3
   obtain⟨p,q,r⟩:=ih g1
   rw[c1]at q r
   exact⟨p,by omega,λe he=>by have:=r e he;omega⟩
def Qbv(r x:Q01)(o:List Q04):Prop:= ∃L,x.B4=r.B4++L/\Q8x r.A0 L o x.A0
theorem Qbv.rfl{r:Q01}:Qbv r r []:=⟨[],(cJ _).symm, .nil⟩
theorem Qbv.trans{a b c:Q01}{o p:List Q04}(h:Qbv a b o)(g:Qbv b c p):Qbv a c (o++p):=by
 obtain⟨L,l1,l2⟩:=h
 obtain⟨M,m1,m2⟩:=g
 exact⟨L++M,by rw[m1,l1,fC],l2.trans m2⟩
theorem Qbv.trans0{a b c:Q01}{p:List Q04}(h:Qbv a b [])(g:Qbv b c p):Qbv a c p:=h.trans g
theorem Zlu{P:Nat}{k:Int}{r:Q01}(g:Q5z P k r){e:Q0a}(he:evOK e)(hu:U e.N):Qbv r (Q1s r e) []:=by
 obtain⟨_,b⟩:=Qdp g.m hu
 cases ha:(Q0n r.A0 e).1
 . rw[Z0n ha];exact Qbv.rfl
 . unfold Q1s
   rw[ha]
   refine⟨[{At:=r.A0.A1,C1:=e}],?_, .ev ha he.2 hu .nil⟩
   show r.B4++[{At:=(Q0n r.A0 e).2.A1,C1:=e}]=_
   rw[b]
theorem qar{P:Nat}{k:Int}{r:Q01}(g:Q5z P k r):Qbv r (Q25 r) []:=by
 rw[Qjc]
 cases Q7h r.A0.B0 r.A3
 . exact Qbv.rfl
 . exact Zlu g Z7 U_0
theorem zar{P:Nat}{k:Int}{r:Q01}(g:Q5z P k r)(hs:Q0r r.A0=false):Qbv r (Qj0 r) (Q0j r.A0 r.A3).1:=by
 cases hr:Q0g r.A0
 . rw[Zak hr]
   refine⟨[],(cJ _).symm,?_⟩
   have:=Q8x.st (L:=[]) (o:=[]) hs hr g.clock .nil
   rw[cJ]at this;exact this
 . rw[Qtl hr]
   refine⟨[{At:=r.A0.A1,C1:={B6:=1,N:=r.A3,C9:=[]}}],_root_.rfl,?_⟩
   have:=Q8x.rd (L:=[]) (o:=[]) hs hr g.clock .nil
   rw[cJ]at this;exact this
theorem qaL{P:Nat}(n:Nat): ∀{k:Int} {r:Q01},Q5z P k r->Qbv r (recF n r []).1 (recF n r []).2:=by
 induction n with
 |zero=>intro k r _;exact Qbv.rfl
 | succ n ih=>
   intro k r g
   obtain⟨gf,_⟩:=Qhl g
   have f:=qar g
   cases hs:Q0r (Q25 r).A0
   . rw[Qm1 hs,yL,fH]
     exact f.trans0 ((zar gf hs).trans (ih (Qhn gf hs)))
   . rw[Qmr hs];exact f
theorem xar{P:Nat}{k:Int}(l:List Q0a): ∀{r:Q01},Q5z P k r->(∀e∈l,evOK e/\U e.N)->Qbv r (l.foldl Q1s r) []:=by
 induction l with
 |nil=>intro r _ _;exact Qbv.rfl
 | cons e l ih=>
   intro r g hu
   obtain⟨a,b⟩:=hu e (by simp)
   exact(Zlu g a b).trans0 (ih (Qiq g b).1 (λq hq=>hu q (by simp [hq])))
theorem zaL{P:Nat}{k:Int}{r:Q01}(g:Q5z P k r)(hq:okQ r.A6)(he: ∀e∈r.A6,evOK e)(steps:Int){clock:Int}(hc:U clock):Qbv r (advF r steps clock).1 (advF r steps clock).2:=by
 rw[Qvp g.m.rmay]
 have s:=Qpf g hq hc
 have u:U (if clock>r.A3 then clock else r.A3):=by split<;>first|exact hc|exact g.clock
 have f:=xar r.A6 (r:={A0:=r.A0,A3:=if clock>r.A3 then clock else r.A3,B4:=r.B4,A6:=r.A6}) (k:=k) ⟨g.m,u,g.cnt⟩ (λe h=>⟨he e h,hq.2 e h⟩)
 generalize r.A6.foldl Q1s {A0:=r.A0,A3:=if clock>r.A3 then clock else r.A3,B4:=r.B4,A6:=r.A6}=y at*
 have f:Qbv r (noQ y) []:=f
 exact f.trans0 (qaL _ s)
def arm(r:Q01):Nat:=if r.A0.B0.D2 then 1 else 0
theorem vZ(r:Q01):arm r<=1:=by unfold arm;split<;>omega
theorem Zjr(m:Q00)(e:Q0a):(Q0n m e).2.B0=m.B0\/(Q0n m e).2.B0=(Q7r m.B0).1:=by
 show Tree.V (Q5k m e) (λx=>x.2.B0=m.B0\/x.2.B0=(Q7r m.B0).1)
 unfold Q5k
 repeat'(first
   |exact v_lf (.inl rfl)
   |exact v_lv λx hx=>v_lf (.inr (by rw[hx]))
   |exact v_lv λx hx=>v_lf (.inl rfl)
   |exact v_an (v_lv λx hx=>v_lf (.inl rfl))
   |refine v_br (λ_=> ?_) (λ_=> ?_))
theorem qO(t:Q0i):(Q7r t).1.D2=true->t.D2=true:=by
 show Tree.V (Q9e t) (λr=>r.1.D2=true->t.D2=true)
 unfold Q9e
 exact v_br (λ_=>v_lf λh=>h) (λ_=>v_lf λh=>by cases h)
theorem qn(r:Q01)(e:Q0a):(Q1s r e).B4.length+arm (Q1s r e)<=r.B4.length+arm r+1:=by
  have l:=Qls r e
  cases ha:(Q0n r.A0 e).1
  . rw[Z0n ha];omega
  . have h:arm (Q1s r e)<=arm r:=by
      unfold arm Q1s
      rw[ha]
      show(if(Q0n r.A0 e).2.B0.D2=true then 1 else 0)<=_
      rcases Zjr r.A0 e with t|t
      . rw[t];exact aO _
      . rw[t]
        split
        . rename_i q;rw[if_pos (qO _ q)];exact aO _
        . exact aT _
    omega
theorem xO(r:Q01):(Q25 r).B4.length+arm (Q25 r)<=r.B4.length+arm r:=by
  cases hd:Q7h r.A0.B0 r.A3
  . rw[ql hd];exact aO _
  . have e:Q25 r=Q1s r Qqt:=by rw[Qjc,hd];rfl
    rw[e]
    cases ha:(Q0n r.A0 Qqt).1
    . rw[Z0n ha];exact aO _
    . have a1:arm r=1:=by
        unfold arm
        refine if_pos ?_
        cases h:r.A0.B0.D2
        . rw[vk h]at hd;cases hd
        . rfl
      have l:=Qls r Qqt
      have a0:arm (Q1s r Qqt)=0:=by
        unfold arm Q1s
        rw[ha]
        refine if_neg ?_
        show¬(Q0n r.A0 Qqt).2.B0.D2=true
        rw[Zi2]at ha⊢
        cases hh:r.A0.A9
        . rw[hh]at ha
          have:=yk _ ha
          show¬(Q7r r.A0.B0).1.D2=true
          rw[this];decide
        . rw[hh]at ha;cases ha
      omega
theorem Zhm{P:Nat}{m:Q00}(g:good P m)(hr:Q0g m=true)(clock:Int):(Q0j m clock).2.B0=m.B0:=by
 have rd:Q0g m=bif Q0r m then false else Qet m:=rfl
 rw[rd]at hr
 cases hs:Q0r m
 . rw[hs]at hr
   have hr:Qet m=true:=hr
   obtain⟨g1,g2,g3,g4,g5⟩:=(Qlw m).1 g.may
   obtain⟨b1,b2,b3,_⟩:=(Tree.pp (Qta g.s g2)).2
   change Q65 (Q0s m).B1 at b1
   change okS P (Q0s m) at b2
   have be:=Qx4 g.v g2.st
   have b1':Q65 (Q0t m):=by have:=b1;rw[be]at this;exact this
   have b2':Q2r (Q0t m):=by have:=b2.cpu;rw[be]at this;exact this
   rw[Ze1,<-Zls g.ok.mem b2' b1'.st]at hr
   rw[xZ]
   generalize Qci (Q0t m) m.Mem=D at*
   unfold ioP at hr
   unfold finR
   cases hk:D.2.1.B6==1
   . rw[hk]at hr;cases hr
   . rw[hk]at hr
     have hp:D.2.1.D1=2:=eq_of_beq hr
     rw[hp];rfl
 . rw[hs]at hr;cases hr
theorem zO{P:Nat}{k:Int}{r:Q01}(g:Q5z P k r):(Qj0 r).B4.length+arm (Qj0 r)<=r.B4.length+arm r+1:=by
 cases hr:Q0g r.A0
 . have:=vZ (Qj0 r)
   have e:(Qj0 r).B4=r.B4:=by rw[Zak hr]
   rw[e];omega
 . have l:=Z3n r
   have e:arm (Qj0 r)=arm r:=by
     unfold arm
     rw[Qtl hr]
     show(if(Q0j r.A0 r.A3).2.B0.D2=true then 1 else 0)=_
     rw[Zhm g.m hr]
   omega
theorem qas{P:Nat}(n:Nat): ∀{k:Int} {r:Q01} {o:List Q04},Q5z P k r->(recF n r o).1.B4.length+arm (recF n r o).1<=r.B4.length+arm r+n:=by
 induction n with
 |zero=>intro k r o _;exact aO _
 | succ n ih=>
   intro k r o g
   obtain⟨gf,_⟩:=Qhl g
   have f:=xO r
   cases hs:Q0r (Q25 r).A0
   . rw[Qm1 hs]
     have a:=ih (o:=o++(Q0j (Q25 r).A0 (Q25 r).A3).1) (Qhn gf hs)
     have b:=zO gf
     omega
   . rw[Qmr hs]
     show(Q25 r).B4.length+arm (Q25 r)<=_
     omega
theorem yO(l:List Q0a): ∀r:Q01,(l.foldl Q1s r).B4.length+arm (l.foldl Q1s r)<=r.B4.length+arm r+l.length:=by
 induction l with
 |nil=>intro r;exact aO _
 | cons e l ih=>
   intro r
   have a:=ih (Q1s r e)
   have b:=qn r e
   rw[aD,dE];omega
def cntR(r:Q01):Nat:=r.B4.length+arm r+r.A6.length
theorem zas{P:Nat}{k:Int}{r:Q01}(g:Q5z P k r)(hq:okQ r.A6){steps clock:Int}(hc:U clock)(hs:0<=steps/\steps<12):cntR (advF r steps clock).1<=cntR r+11:=by
 have s:=Qpf g hq hc
 have f:=yO r.A6 {A0:=r.A0,A3:=if clock>r.A3 then clock else r.A3,B4:=r.B4,A6:=r.A6}
 rw[Qvp g.m.rmay,Qwa hs.1 (by omega)]
 generalize r.A6.foldl Q1s {A0:=r.A0,A3:=if clock>r.A3 then clock else r.A3,B4:=r.B4,A6:=r.A6}=y at*
 have q:(recF steps.toNat (noQ y) []).1.A6=[]:=Z84 _ _ _
 have c:=qas steps.toNat (o:=[]) s
 have e:arm (noQ y)=arm y:=rfl
 have e1:(noQ y).B4=y.B4:=rfl
 have e2:arm {A0:=r.A0,A3:=if clock>r.A3 then clock else r.A3,B4:=r.B4,A6:=r.A6}=arm r:=rfl
 rw[e,e1]at c
 rw[e2]at f
 have f:y.B4.length+arm y<=r.B4.length+arm r+r.A6.length:=f
 unfold cntR
 rw[q]
 show _+_+0<=_
 omega
theorem xn{P:Nat}{k:Int}{r:Q01}(g:Q5z P k r)(hq:okQ r.A6){steps clock:Int}(hc:U clock)(hs:0<=steps/\steps<12):(advF r steps clock).1.A0.A1<=r.A0.A1+11:=by
 have s:=Qpf (k:=r.A0.A1) ⟨g.m,g.clock,cQ _⟩ hq hc
 rw[Qvp g.m.rmay,Qwa hs.1 (by omega)]
 have:=(Zgq steps.toNat (o:=[]) s).cnt
 omega
def dueF:List Q0c->Q00->Q00×List Q0c
 |[],m=>(m,[])
 |e::l,m=>bif decide (e.At<=m.A1) then(bif e.C1.B6 !=1 then dueF l (Q0n m e.C1).2 else(m,e::l)) else(m,e::l)
def setF(p:Q02):Q02:={A0:=(dueF p.B4 p.A0).1,B4:=(dueF p.B4 p.A0).2,C5:=p.C5,A3:=p.A3}
def Qr4(p:Q02):Int:=match p.B4 with|[]=>0|e::_=>e.C1.N
def Qnk(p:Q02):Bool:=match p.B4 with
 |[]=>!Q0g p.A0
 |e::_=>bif Q0g p.A0 then(bif e.C1.B6==1 then e.At==p.A0.A1 else false) else !(bif e.C1.B6==1 then decide (e.At<=p.A0.A1) else false)
def Qd7(p:Q02):Int×List Q0c×Int:=bif Q0g p.A0 then(Qr4 p,p.B4.drop 1,wrap .u32 (Qr4 p+1)) else(0,p.B4,p.A3)
def goF(p:Q02):Q02:={A0:=(Q0j p.A0 (Qd7 p).1).2,B4:=(Qd7 p).2.1,C5:=p.C5,A3:=(Qd7 p).2.2}
def outF(p:Q02):List Q04:=(Q0j p.A0 (Qd7 p).1).1
def folF:Nat->Q02->List Q04->Q02×List Q04
 |0,p,o=>(p,o)
 |n+1,p,o=>bif decide (p.A0.A1>=p.C5) then(p,o) else bif Q0r (setF p).A0 then(setF p,o) else bif Qnk (setF p) then folF n (goF (setF p)) (o++outF (setF p)) else(setF p,o)
def folP(p:Q02)(steps:Int):Q02×List Q04:=bif Q55 p.A0 then folF (Q0o steps).toNat p [] else(p,[])
structure Qln(P:Nat)(k:Int)(p:Q02):Prop where
 m:good P p.A0
 cnt:p.A0.A1<=k
 clock:U p.A3
 log:p.B4.length<=900000
 u: ∀e∈p.B4,U e.C1.N
theorem Qv7{e:Q0c}{l:List Q0c}{m:Q00}(h1:e.At<=m.A1)(h2:(e.C1.B6 !=1)=true):dueF (e::l) m=dueF l (Q0n m e.C1).2:=by
 conv=>lhs;unfold dueF
 rw[dY h1,h2];rfl
theorem Qlq{e:Q0c}{l:List Q0c}{m:Q00}(h1: ¬e.At<=m.A1):dueF (e::l) m=(m,e::l):=by
 conv=>lhs;unfold dueF
 rw[dN h1];rfl
theorem Qhk{e:Q0c}{l:List Q0c}{m:Q00}(h2:(e.C1.B6 !=1)=false):dueF (e::l) m=(m,e::l):=by
 conv=>lhs;unfold dueF
 rw[h2];cases decide (e.At<=m.A1)<;>rfl
theorem Zdt: ∀(l:List Q0c) (m:Q00),dueF (dueF l m).2 (dueF l m).1=dueF l m
 |[],m=>rfl
 | e ::l,m=>by
   by_cases h1:e.At<=m.A1
   . cases h2:e.C1.B6 !=1
     . rw[Qhk h2,Qhk h2]
     . rw[Qv7 h1 h2];exact Zdt l _
   . rw[Qlq h1,Qlq h1]
theorem Zgv{P:Nat}: ∀{l:List Q0c} {m:Q00},good P m->(∀e∈l,U e.C1.N)->good P (dueF l m).1/\(dueF l m).1.A1=m.A1/\(dueF l m).2<:+l
  |[],m,h,_=>⟨h,rfl,bW _⟩
  | e ::l,m,h,hu=>by
    by_cases h1:e.At<=m.A1
    . cases h2:e.C1.B6 !=1
      . rw[Qhk h2];exact⟨h,rfl,bW _⟩
      . rw[Qv7 h1 h2]
        obtain⟨a,b⟩:=Qdp h (hu e (by simp))
        obtain⟨c,d,s⟩:=Zgv (l:=l) a (λq hq=>hu q (by simp [hq]))
        exact⟨c,d.trans b,s.trans (cA e l)⟩
    . rw[Qlq h1];exact⟨h,rfl,bW _⟩
theorem Qss{P:Nat}{k:Int}{p:Q02}(h:Qln P k p):Qln P k (setF p)/\(setF p).A0.A1=p.A0.A1/\(setF p).B4<:+p.B4:=by
 obtain⟨a,b,s⟩:=Zgv h.m h.u
 have hc:=h.cnt
 have hl:=h.log
 have sl:=s.length_le
 exact⟨⟨a,by show(dueF p.B4 p.A0).1.A1<=k;omega,h.clock,by show(dueF p.B4 p.A0).2.length<=_;omega,λe he=>h.u e (s.subset he)⟩,b,s⟩
theorem vO{P:Nat}{k:Int}{p:Q02}(h:Qln P k p):U (Qr4 p):=by
 unfold Qr4
 split
 . exact U_0
 . rename_i e l he;exact h.u e (by rw[he];simp)
theorem Zjq{P:Nat}{k:Int}{p:Q02}(h:Qln P k p):U (Qd7 p).1/\U (Qd7 p).2.2/\(Qd7 p).2.1<:+p.B4:=by
 unfold Qd7
 cases Q0g p.A0
 . exact⟨U_0,h.clock,bW _⟩
 . exact⟨vO h,Q0v _,List.drop_suffix _ _⟩
theorem Z0d{P:Nat}{k:Int}{p:Q02}(h:Qln P k p)(hs:Q0r p.A0=false):Qln P (k+1) (goF p)/\(goF p).A0.A1=p.A0.A1+1/\(outF p).length<=1:=by
 obtain⟨t1,t2,t3⟩:=Zjq h
 obtain⟨a,b,c⟩:=Q6m h.m hs t1
 have hc:=h.cnt
 have hl:=h.log
 have sl:=t3.length_le
 exact⟨⟨a,by show(Q0j p.A0 (Qd7 p).1).2.A1<=k+1;omega,t2,by show(Qd7 p).2.1.length<=_;omega,λe he=>h.u e (t3.subset he)⟩,b,c⟩
theorem Qtx{n:Nat}{p:Q02}{o:List Q04}(h:p.C5<=p.A0.A1):folF n p o=(p,o):=by
 cases n with
 |zero=>rfl
 | succ n=>
   conv=>lhs;unfold folF
   rw[dY (show p.A0.A1>=p.C5 from h)];rfl
theorem Qvc{n:Nat}{p:Q02}{o:List Q04}(h: ¬p.C5<=p.A0.A1)(hs:Q0r (setF p).A0=true):folF (n+1) p o=(setF p,o):=by
 conv=>lhs;unfold folF
 rw[dN (show¬p.A0.A1>=p.C5 from h),hs];rfl
theorem Z11{n:Nat}{p:Q02}{o:List Q04}(h: ¬p.C5<=p.A0.A1)(hs:Q0r (setF p).A0=false)(hp:Qnk (setF p)=false):folF (n+1) p o=(setF p,o):=by
 conv=>lhs;unfold folF
 rw[dN (show¬p.A0.A1>=p.C5 from h),hs,hp];rfl
theorem Zbq{n:Nat}{p:Q02}{o:List Q04}(h: ¬p.C5<=p.A0.A1)(hs:Q0r (setF p).A0=false)(hp:Qnk (setF p)=true):folF (n+1) p o=folF n (goF (setF p)) (o++outF (setF p)):=by
 conv=>lhs;unfold folF
 rw[dN (show¬p.A0.A1>=p.C5 from h),hs,hp];rfl
theorem Zjl{p:Q02}(h:Q55 p.A0=true)(steps:Int):folP p steps=folF (Q0o steps).toNat p []:=by
 unfold folP;rw[h];rfl
theorem Z2k{P:Nat}: ∀(n:Nat) {k:Int} {p:Q02} (o:List Q04),Qln P k p->Qln P (k+n) (folF n p o).1/\(folF n p o).2.length<=o.length+n
  |0,k,p,o,h=>⟨⟨h.m,by have:=h.cnt;show p.A0.A1<=k+(0:Nat);omega,h.clock,h.log,h.u⟩,aO _⟩
  | n + 1,k,p,o,h=>by
    obtain⟨g,gc,_⟩:=Qss h
    have up: ∀{q:Q02},Qln P k q->Qln P (k+(n+1:Nat)) q:=λh=>⟨h.m,by have:=h.cnt;omega,h.clock,h.log,h.u⟩
    by_cases hk:p.C5<=p.A0.A1
    . rw[Qtx hk];exact⟨up h,by show o.length<=_;omega⟩
    . cases hs:Q0r (setF p).A0
      . cases hp:Qnk (setF p)
        . rw[Z11 hk hs hp];exact⟨up g,by show o.length<=_;omega⟩
        . rw[Zbq hk hs hp]
          obtain⟨a,_,c⟩:=Z0d g hs
          obtain⟨x,y⟩:=Z2k n (o++outF (setF p)) a
          rw[lA]at y
          exact⟨⟨x.m,by have:=x.cnt;omega,x.clock,x.log,x.u⟩,by omega⟩
      . rw[Qvc hk hs];exact⟨up g,by show o.length<=_;omega⟩
theorem xas{P:Nat}{p:Q02}(h:good P p.A0){e:Q0a}(he:U e.N):(Q4d e p).w (λx=>x=(true,{A0:=(Q0n p.A0 e).2,B4:=p.B4,C5:=p.C5,A3:=p.A3})):=by
 unfold Q4d
 refine w_an (Qw4 h.v h.len he) (w_lv λx0 e0=> ?_)
 rw[h.app]at e0
 show(_,_)=_
 rw[e0]
theorem xaL{P:Nat}{p:Q02}(h:good P p.A0)(hu: ∀e∈p.B4,U e.C1.N):(Q77 p p.A0.A1).w (λx=>x.1=setF p):=by
  unfold Q77
  refine w_lp (inv:=λv:Q02=>good P v.A0/\v.A0.A1=p.A0.A1/\(∀e∈v.B4,U e.C1.N)/\setF v=setF p) (μ:=Qk3 p p.A0.A1) ⟨h,rfl,hu,rfl⟩ (cK _) λv ⟨a1,a2,a3,a4⟩=> ?_
  obtain⟨m,l,kn,ck⟩:=v
  cases l with
  | nil=>
    refine w_br (λhb=>absurd (oY hb) (by show¬((0:Nat):Int)>0;decide)) (λ_=> ?_)
    show _=_
    rw[<-a4];rfl
  | cons e l=>
    have cn:(bS 4 4&&bT 0 4&&decide ((0:Int)<=0/\(0:Int)<(((e::l).length:Nat):Int)))=true:=by
      rw[dY (show(0:Int)<=0/\(0:Int)<(((e::l).length:Nat):Int) by rw[dE];omega)];rfl
    have tk:cW ((((e::l).length:Nat):Int).toNat-dB 1) (cX (dB 1) (e::l))=l:=by simp
    have cs:(bS 4 4&&bT 0 4&&decide ((0:Int)<=1/\(1:Int)<=(((e::l).length:Nat):Int)/\(((e::l).length:Nat):Int)<=(((e::l).length:Nat):Int)))=true:=by
      rw[dY (show(0:Int)<=1/\(1:Int)<=(((e::l).length:Nat):Int)/\(((e::l).length:Nat):Int)<=(((e::l).length:Nat):Int) by rw[dE];omega)];rfl
    have hc:m.A1=p.A0.A1:=a2
    have stay:dueF (e::l) m=(m,e::l)->(⟨m,e::l,kn,ck⟩:Q02)=setF p:=λhd=>by
      rw[<-a4]
      show _=(⟨(dueF (e::l) m).1,(dueF (e::l) m).2,kn,ck⟩:Q02)
      rw[hd]
    refine w_br (λ_=>w_cn cn (w_br (λh1=>w_cn cn (w_br (λh2=>w_cn cn (w_cn cs ?_)) (λh2=> ?_))) (λh1=> ?_))) (λhb=>absurd (oN hb) (by show¬ ¬(((e::l).length:Nat):Int)>0;rw[dE];omega))
    . have h1:e.At<=p.A0.A1:=oY h1
      have h2:(e.C1.B6 !=1)=true:=h2
      have he:=a3 e (by simp)
      obtain⟨k1,k2⟩:=Qdp a1 he
      refine Q0h (xas (p:=⟨m,cW ((((e::l).length:Nat):Int).toNat-dB 1) (cX (dB 1) (e::l)),kn,ck⟩) a1 he) λx0 e0=> ?_
      have e0:x0=(true,⟨(Q0n m e.C1).2,l,kn,ck⟩):=by
        rw[e0]
        show(true,(⟨(Q0n m e.C1).2,cW ((((e::l).length:Nat):Int).toNat-dB 1) (cX (dB 1) (e::l)),kn,ck⟩:Q02))=_
        rw[tk]
      rw[e0]
      refine w_br (λh=>by cases h) (λ_=>w_nx ⟨⟨k1,k2.trans a2,λq hq=>a3 q (by simp [hq]),?_⟩,?_⟩)
      . rw[<-a4]
        show(⟨(dueF l (Q0n m e.C1).2).1,(dueF l (Q0n m e.C1).2).2,kn,ck⟩:Q02)=⟨(dueF (e::l) m).1,(dueF (e::l) m).2,kn,ck⟩
        rw[Qv7 (by omega) h2]
      . show l.length<(e::l).length
        rw[dE];omega
    . exact stay (Qhk h2)
    . exact stay (Qlq (by have:=oN h1;rw[hc];exact this))
theorem qaM{P:Nat}{p:Q02}(h:good P p.A0):(Q76 p).w (λx=>x.2.1=Q0g p.A0/\x.2.2=Qnk p/\(Qnk p=true->x.1=(Qd7 p).1)):=by
  have rp:Q1r p.A0:=(Tree.pp (Zky h.s)).1
  have rs:=Qvt h.v
  unfold Q76
  obtain⟨m,l,kn,ck⟩:=p
  have rs:Q2 m=Q0g m:=rs
  cases l with
  | nil =>
    refine w_br (λhb=>absurd (oY hb) (by show¬((0:Nat):Int)>0;decide)) (λ_=>w_an rp (w_lv λx e=> ?_))
    have e:x=Q0g m:=e.trans rs
    refine w_br (λhb=> ?_) (λhb=> ?_)
    . have hb:Q0g m=false:=by rw[e]at hb;simpa using hb
      refine⟨hb.symm,?_,λ_=> ?_⟩
      . show true=!Q0g m;rw[hb];rfl
      . show(0:Int)=_;unfold Qd7;rw[show Q0g (Q02.A0 ⟨m,[],kn,ck⟩)=false from hb];rfl
    . have hb:Q0g m=true:=by rw[e]at hb;simpa using hb
      refine⟨hb.symm,?_,λq=> ?_⟩
      . show false=!Q0g m;rw[hb];rfl
      . have q:(!Q0g m)=true:=q
        rw[hb]at q;cases q
  | cons e l=>
    have cn:(bS 4 4&&bT 0 4&&decide ((0:Int)<=0/\(0:Int)<(((e::l).length:Nat):Int)))=true:=by
      rw[dY (show(0:Int)<=0/\(0:Int)<(((e::l).length:Nat):Int) by rw[dE];omega)];rfl
    have pd:Qnk ⟨m,e::l,kn,ck⟩=bif Q0g m then(bif e.C1.B6==1 then e.At==m.A1 else false) else !(bif e.C1.B6==1 then decide (e.At<=m.A1) else false):=rfl
    have t0:Q0g m=false->(Qd7 ⟨m,e::l,kn,ck⟩).1=0:=λhb=>by unfold Qd7;rw[show Q0g (Q02.A0 ⟨m,e::l,kn,ck⟩)=false from hb];rfl
    have t1:Q0g m=true->(Qd7 ⟨m,e::l,kn,ck⟩).1=e.C1.N:=λhb=>by unfold Qd7;rw[show Q0g (Q02.A0 ⟨m,e::l,kn,ck⟩)=true from hb];rfl
    rw[pd]
    refine w_br (λ_=>w_cn cn (w_br (λhk=>w_an rp (w_lv λx ex=> ?_)) (λhk=>w_an rp (w_lv λx ex=> ?_)))) (λhb=>absurd (oN hb) (by show¬ ¬(((e::l).length:Nat):Int)>0;rw[dE];omega))
    . have ex:x=Q0g m:=ex.trans rs
      have hk:(e.C1.B6==1)=true:=hk
      rw[hk]
      refine w_br (λhb=> ?_) (λhb=>w_br (λh1=> ?_) (λh1=> ?_))
      . have hb:Q0g m=false:=by rw[ex]at hb;simpa using hb
        rw[hb]
        exact⟨rfl,rfl,λ_=>(t0 hb).symm⟩
      . have hb:Q0g m=true:=by rw[ex]at hb;simpa using hb
        rw[hb]
        exact⟨rfl,rfl,λ_=>(t1 hb).symm⟩
      . have hb:Q0g m=true:=by rw[ex]at hb;simpa using hb
        have h1: ¬e.At<=m.A1:=oN h1
        have e0:(e.At==m.A1)=false:=beq_false_of_ne (by omega)
        rw[hb,e0]
        exact⟨rfl,rfl,λq=>by cases q⟩
    . have ex:x=Q0g m:=ex.trans rs
      have hk:(e.C1.B6==1)=false:=hk
      rw[hk]
      refine w_br (λhb=> ?_) (λhb=> ?_)
      . have hb:Q0g m=false:=by rw[ex]at hb;simpa using hb
        rw[hb]
        exact⟨rfl,rfl,λ_=>(t0 hb).symm⟩
      . have hb:Q0g m=true:=by rw[ex]at hb;simpa using hb
        rw[hb]
        exact⟨rfl,rfl,λq=>by cases q⟩
theorem Z3q{p:Q02}(hm:p.A0.Mem.length<=1024)(hl:p.B4.length<=1000000):(Q62 p).w (λx=>x=p):=by
 unfold Q62
 exact w_an (by show p.A0.Mem.length<=35184372088832;omega) (w_lv λx0 e0=>w_an (by show p.B4.length<=3518437208883;omega) (w_lv λx1 e1=>by rw[e0,e1];rfl))
theorem zn{P:Nat}{k:Int}{p:Q02}(h:Qln P k p)(steps:Int):(Q4w p steps).w (λx=>x=folP p steps):=by
  obtain⟨lim0,lim1⟩:=Qol steps
  have lim:(if 4000<(if 0>steps then 0 else steps) then 4000 else(if 0>steps then 0 else steps))=Q0o steps:=rfl
  unfold Q4w
  refine Q0h (Z3q h.m.len (by have:=h.log;omega)) λx0 e0=> ?_
  subst e0
  refine w_an (Tree.pp (Z73 h.m.ok.target.2)).1 (w_lv λx1 e1=>w_br (λhb=>by rw[e1,h.m.may]at hb;cases hb) λhb=> ?_)
  rw[Zjl h.m.rmay]
  refine w_lp (inv:=λy:Int×Q02×List Q04=>0<=y.1/\y.1<=Q0o steps/\Qln P (k+y.1) y.2.1/\(y.2.2.length:Int)<=y.1/\folF (Q0o steps-y.1).toNat y.2.1 y.2.2=folF (Q0o steps).toNat x0 []) (μ:=Q7g x0 steps) ⟨cQ 0,lim0,⟨h.m,by have:=h.cnt;show x0.A0.A1<=k+0;omega,h.clock,h.log,h.u⟩,cQ 0,by show folF (Q0o steps-0).toNat x0 []=_;rw[fF]⟩ (cK _) λy ⟨y0,y1,y2,y4,y5⟩=> ?_
  obtain⟨yi,yp,yo⟩:=y
  have y0:0<=yi:=y0
  have y1:yi<=Q0o steps:=y1
  have y2:Qln P (k+yi) yp:=y2
  have y4:(yo.length:Int)<=yi:=y4
  have y5:folF (Q0o steps-yi).toNat yp yo=folF (Q0o steps).toNat x0 []:=y5
  rw[<-y5]
  refine w_br (λhb=> ?_) (λhb=> ?_)
  . have hb : yi<Q0o steps:=oY hb
    have ew:i64.wrap (yi+1)=yi+1:=by rw[wrap_i64];omega
    have en:(Q0o steps-yi).toNat=(Q0o steps-(yi+1)).toNat+1:=by omega
    obtain⟨g,gc,_⟩:=Qss y2
    rw[en]at y5⊢
    refine w_br (λhk=> ?_) (λhk=>w_lv λ_ _=>Q0h (xaL y2.m y2.u) λx3 e3=> ?_)
    . have hk:=oY hk
      show(yp,yo)=_
      rw[Qtx hk]
    . have hk : ¬yp.C5<=yp.A0.A1:=oN hk
      obtain⟨x3,c3⟩:=x3
      have e3:x3=setF yp:=e3
      subst e3
      have sg:=Z6u g.m
      have stk:Q0r (setF yp).A0=true->(setF yp,yo)=folF ((Q0o steps-(yi+1)).toNat+1) yp yo:=λhs=>(Qvc hk hs).symm
      refine w_br (λhh=>stk (by rw[sg];have hh:(setF yp).A0.A9=true:=hh;rw[hh];rfl)) λhh=>w_an (xk g.m.ok.target.2) (w_lv λx4 e4=>w_br (λhi=>stk ?_) λhi=>w_br (λhm=>stk ?_) λhm=>Q0h (qaM g.m) λx5 ⟨c1,c2,c3⟩=> ?_)
      . have hh:(setF yp).A0.A9=false:=hh
        have e4:x4=Q37 (setF yp).A0:=e4
        rw[sg,hh,<-e4,hi];rfl
      . have hh:(setF yp).A0.A9=false:=hh
        have e4:x4=Q37 (setF yp).A0:=e4
        rw[sg,hh,<-e4,hi];exact hm
      have hs:Q0r (setF yp).A0=false:=by
        have hh:(setF yp).A0.A9=false:=hh
        have e4:x4=Q37 (setF yp).A0:=e4
        rw[sg,hh,<-e4,hi];exact hm
      refine w_br (λhp=> ?_) (λhp=> ?_)
      . have hp:Qnk (setF yp)=false:=by rw[c2]at hp;simpa using hp
        show(setF yp,yo)=_
        exact(Z11 hk hs hp).symm
      . have hp:Qnk (setF yp)=true:=by rw[c2]at hp;simpa using hp
        have c3:=c3 hp
        obtain⟨t1,t2,t3⟩:=Zjq g
        obtain⟨k1,k2,k3⟩:=Z0d g hs
        have sp:Q2m (setF yp).A0 x5.1:=by rw[c3];exact(Zcq g.m.v g.m.len (clock:=(Qd7 (setF yp)).1) t1).1
        have ms:Q1z (setF yp).A0 x5.1=((goF (setF yp)).A0,outF (setF yp)):=by rw[c3];exact g.m.step hs (Qd7 (setF yp)).1
        have mu: ∀q,Q7g x0 steps (wrap .i64 (yi+1),q)<Q7g x0 steps (yi,yp,yo):=λq=>by
          show(4000-wrap .i64 (yi+1)).toNat<(4000-yi).toNat
          rw[ew];omega
        have nx: ∀(x:Q02) (o:List Q04),x=goF (setF yp)->o=yo++outF (setF yp)->(0<=wrap .i64 (yi+1)/\wrap .i64 (yi+1)<=Q0o steps/\Qln P (k+wrap .i64 (yi+1)) x/\(o.length:Int)<=wrap .i64 (yi+1)/\folF (Q0o steps-wrap .i64 (yi+1)).toNat x o=folF ((Q0o steps-(yi+1)).toNat+1) yp yo):=λx o hx ho=>by
          rw[ew,hx,ho]
          refine⟨by omega,by omega,⟨k1.m,by have:=k1.cnt;omega,k1.clock,k1.log,k1.u⟩,by rw[lA];omega,?_⟩
          rw[Zbq hk hs hp]
        have cl: ∀o:List Q04,o=outF (setF yp)->decide (40*(yo.length+o.length)<=140737488355328)=true:=λo ho=>dY (by rw[ho];omega)
        refine w_br (λhr=> ?_) (λhr=> ?_)
        . have hr:Q0g (setF yp).A0=true:=by rw[c1]at hr;exact hr
          have tf:Qd7 (setF yp)=(Qr4 (setF yp),(setF yp).B4.drop 1,wrap .u32 (Qr4 (setF yp)+1)):=by unfold Qd7;rw[hr];rfl
          have ne:1<=(setF yp).B4.length:=by
            cases hl:(setF yp).B4 with
            | nil=>
              have:Qnk (setF yp)=!Q0g (setF yp).A0:=by unfold Qnk;rw[hl]
              rw[this,hr]at hp;cases hp
            |cons e l=>rw[dE];omega
          have tk:cW ((((setF yp).B4.length:Nat):Int).toNat-dB 1) (cX (dB 1) (setF yp).B4)=(setF yp).B4.drop 1:=eW (by rw[bF];exact dH (by simp))
          have cs:(bS 4 4&&bT 0 4&&decide ((0:Int)<=1/\(1:Int)<=(((setF yp).B4.length:Nat):Int)/\(((setF yp).B4.length:Nat):Int)<=(((setF yp).B4.length:Nat):Int)))=true:=by
            rw[dY (show(0:Int)<=1/\(1:Int)<=(((setF yp).B4.length:Nat):Int)/\(((setF yp).B4.length:Nat):Int)<=(((setF yp).B4.length:Nat):Int) by omega)];rfl
          refine w_cn cs (w_an sp (w_lv λx6 e6=> ?_))
          have e6:=e6.trans ms
          refine w_cn (cl _ (congrArg fG e6)) (w_nx ⟨nx {A0:=x6.1,B4:=cW ((((setF yp).B4.length:Nat):Int).toNat-dB 1) (cX (dB 1) (setF yp).B4),C5:=(setF yp).C5,A3:=u32.wrap (x5.1+1)} (yo++x6.2) ?_ (congrArg (yo++ ·) (congrArg fG e6)),mu ({A0:=x6.1,B4:=cW ((((setF yp).B4.length:Nat):Int).toNat-dB 1) (cX (dB 1) (setF yp).B4),C5:=(setF yp).C5,A3:=u32.wrap (x5.1+1)},yo++x6.2)⟩)
          have gk:goF (setF yp)={A0:=(goF (setF yp)).A0,B4:=(setF yp).B4.drop 1,C5:=(setF yp).C5,A3:=wrap .u32 (Qr4 (setF yp)+1)}:=by
            show(⟨(goF (setF yp)).A0,(Qd7 (setF yp)).2.1,(setF yp).C5,(Qd7 (setF yp)).2.2⟩:Q02)=_
            rw[tf]
          have c4:x5.1=Qr4 (setF yp):=by rw[c3,tf]
          rw[gk,e6,c4]
          show(⟨_,cW ((((setF yp).B4.length:Nat):Int).toNat-dB 1) (cX (dB 1) (setF yp).B4),_,_⟩:Q02)=_
          rw[tk]
        . have hr:Q0g (setF yp).A0=false:=by rw[c1]at hr;exact hr
          have tf:Qd7 (setF yp)=(0,(setF yp).B4,(setF yp).A3):=by unfold Qd7;rw[hr];rfl
          refine w_an sp (w_lv λx6 e6=> ?_)
          have e6:=e6.trans ms
          refine w_cn (cl _ (congrArg fG e6)) (w_nx ⟨nx {A0:=x6.1,B4:=(setF yp).B4,C5:=(setF yp).C5,A3:=(setF yp).A3} (yo++x6.2) ?_ (congrArg (yo++ ·) (congrArg fG e6)),mu ({A0:=x6.1,B4:=(setF yp).B4,C5:=(setF yp).C5,A3:=(setF yp).A3},yo++x6.2)⟩)
          have gk:goF (setF yp)={A0:=(goF (setF yp)).A0,B4:=(setF yp).B4,C5:=(setF yp).C5,A3:=(setF yp).A3}:=by
            show(⟨(goF (setF yp)).A0,(Qd7 (setF yp)).2.1,(setF yp).C5,(Qd7 (setF yp)).2.2⟩:Q02)=_
            rw[tf]
          rw[gk,e6]
  . have hb: ¬yi<Q0o steps:=oN hb
    show(yp,yo)=_
    rw[show(Q0o steps-yi).toNat=0 by omega]
    rfl
theorem qP{a b:List Q0c}(ha:a.length<=1000000)(hb:b.length<=1000000):(Q13 [a,b]).w (λx=>x=a++b):=by
  have w1:wrap .i64 (0+((a.length:Nat):Int))=a.length:=by rw[wrap_i64];omega
  have w2:wrap .i64 (((a.length:Nat):Int)+((b.length:Nat):Int))=a.length+b.length:=by rw[wrap_i64];omega
  unfold Q13
  refine w_lp (inv:=λv:Int×Int=>v=(0,0)\/v=((a.length:Int),1)\/v=((a.length:Int)+b.length,2)) (μ:=Q4g [a,b]) (.inl rfl) (cK _) λv hv=> ?_
  rcases hv with rfl|rfl|rfl
  . refine w_br (λ_=>w_cn rfl (w_fl (dN ?_) (w_nx ⟨.inr (.inl ?_),?_⟩))) (λh=>absurd (oN h) (by show¬ ¬(0:Int)<2;decide))
    . show¬wrap .i64 (0+((a.length:Nat):Int))<0
      rw[w1];omega
    . show(wrap .i64 (0+((a.length:Nat):Int)),wrap .i64 (0+1))=_
      rw[w1];rfl
    . show(2-wrap .i64 (0+1)).toNat<(2-(0:Int)).toNat
      decide
  . refine w_br (λ_=>w_cn rfl (w_fl (dN ?_) (w_nx ⟨.inr (.inr ?_),?_⟩))) (λh=>absurd (oN h) (by show¬ ¬(1:Int)<2;decide))
    . show¬wrap .i64 (((a.length:Nat):Int)+((b.length:Nat):Int))<0
      rw[w2];omega
    . show(wrap .i64 (((a.length:Nat):Int)+((b.length:Nat):Int)),wrap .i64 (1+1))=_
      rw[w2];rfl
    . show(2-wrap .i64 (1+1)).toNat<(2-(1:Int)).toNat
      decide
  . refine w_br (λh=>absurd (oY h) (by show¬(2:Int)<2;decide)) (λ_=>w_an ⟨by show 0<=(a.length:Int)+b.length;omega,by show(a.length:Int)+b.length<=1000000000000;omega⟩ (w_lv λx0 e0=> ?_))
    have e0:x0=[]:=e0
    refine w_lp (inv:=λv:Int×List Q0c=>v=(0,[])\/v=(1,a)\/v=(2,a++b)) (μ:=Q4c [a,b]) (.inl (by rw[e0])) (cK _) λv hv=> ?_
    rcases hv with rfl|rfl|rfl
    . refine w_br (λ_=>w_cn rfl (w_cn (dY ?_) (w_nx ⟨.inr (.inl rfl),?_⟩))) (λh=>absurd (oN h) (by show¬ ¬(0:Int)<2;decide))
      . show 40*(0+a.length)<=_;omega
      . show(2-wrap .i64 (0+1)).toNat<(2-(0:Int)).toNat
        decide
    . refine w_br (λ_=>w_cn rfl (w_cn (dY ?_) (w_nx ⟨.inr (.inr rfl),?_⟩))) (λh=>absurd (oN h) (by show¬ ¬(1:Int)<2;decide))
      . show 40*(a.length+b.length)<=_;omega
      . show(2-wrap .i64 (1+1)).toNat<(2-(1:Int)).toNat
        decide
    . exact w_br (λh=>absurd (oY h) (by show¬(2:Int)<2;decide)) (λ_=>rfl)
def Qmp(p:Q02)(known:Int)(e:Q0c):Bool:=bif decide (e.At<p.C5) then false else bif decide (e.At>known) then false else bif e.At==known then(bif e.C1.B6==1 then false else Q1x e.C1) else Q1x e.C1
def Qx(p:Q02)(l:List Q0c)(known:Int):Q02×Bool:=
 bif decide (known<p.C5) then(p,false) else bif decide ((l.length:Int)>400) then(p,false) else bif decide ((p.B4.length:Int)+l.length>4096) then(p,false) else bif l.all (Qmp p known) then(bif Qd0 (p.B4++l) then({A0:=p.A0,B4:=p.B4++l,C5:=known,A3:=p.A3},true) else(p,false)) else(p,false)
theorem zaM{p:Q02}(hm:p.A0.Mem.length<=1024)(hl:p.B4.length<=1000000){l:List Q0c}(hu: ∀e∈l,U e.C1.N)(known:Int):(Q8c p l known).w (λx=>x=Qx p l known):=by
 unfold Q8c
 refine Q0h (Z3q hm hl) λx0 e0=> ?_
 subst e0
 refine w_br (λh1=> ?_) (λh1=>w_br (λh2=> ?_) (λh2=>w_br (λh3=> ?_) (λh3=> ?_)))
 . show(x0,false)=_;unfold Qx;rw[h1];rfl
 . show(x0,false)=_;unfold Qx;rw[h1,h2];rfl
 . have l4:=oN h2
   have ws:i64.wrap (((x0.B4.length:Nat):Int)+((l.length:Nat):Int))=x0.B4.length+l.length:=by rw[wrap_i64];omega
   rw[ws]at h3
   show(x0,false)=_;unfold Qx;rw[h1,h2,h3];rfl
 have l4:=oN h2
 have ws:i64.wrap (((x0.B4.length:Nat):Int)+((l.length:Nat):Int))=x0.B4.length+l.length:=by rw[wrap_i64];omega
 rw[ws]at h3
 have no:l.all (Qmp x0 known)=false->(x0,false)=Qx x0 l known:=λh=>by unfold Qx;rw[h1,h2,h3,h];rfl
 refine w_lp (inv:=λv:Int=>0<=v/\v<=l.length/\(l.drop v.toNat).all (Qmp x0 known)=l.all (Qmp x0 known)) (μ:=Qaa x0 l known) ⟨cQ 0,by omega,rfl⟩ (cK _) λv ⟨v0,v1,v2⟩=> ?_
 refine w_br (λhb=> ?_) (λhb=> ?_)
 . have hb:v<l.length:=oY hb
   have hlt:v.toNat<l.length:=by omega
   have ed:l.getD v.toNat (RK.dflt RK.apiEntry)=l[v.toNat]:=by rw[cZ,cG hlt];rfl
   have hm:l.getD v.toNat (RK.dflt RK.apiEntry)∈l:=by rw[ed];exact fE hlt
   have ue:=hu _ hm
   have va:=Z71 ue
   rw[aB hlt,List.all_cons,<-ed]at v2
   have ew:i64.wrap (v+1)=v+1:=by rw[wrap_i64];omega
   generalize l.getD v.toNat (RK.dflt RK.apiEntry)=e at*
   have bad:Qmp x0 known e=false->(x0,false)=Qx x0 l known:=λh=>no (by rw[<-v2,h];rfl)
   have nx:Qmp x0 known e=true->(0<=wrap .i64 (v+1)/\wrap .i64 (v+1)<=l.length/\(l.drop (wrap .i64 (v+1)).toNat).all (Qmp x0 known)=l.all (Qmp x0 known))/\Qaa x0 l known (wrap .i64 (v+1))<Qaa x0 l known v:=λh=>by
     show _/\(l.length-wrap .i64 (v+1)).toNat<(l.length-v).toNat
     rw[ew]
     refine⟨⟨by omega,by omega,?_⟩,by omega⟩
     rw[<-v2,h,show(v+1).toNat=v.toNat+1 by omega];rfl
   refine w_cn (by simp [bT];omega) (w_br (λg1=>bad (by unfold Qmp;rw[g1];rfl)) λg1=>w_br (λg2=>bad (by unfold Qmp;rw[g1,g2];rfl)) λg2=>w_br (λg3=>w_br (λg4=>bad (by unfold Qmp;rw[g1,g2,g3,g4];rfl)) λg4=>w_lv λx1 e1=> ?_) λg3=>w_lv λx1 e1=> ?_)
   . have ok:Qmp x0 known e=Q1x e.C1:=by unfold Qmp;rw[g1,g2,g3,g4];rfl
     have e1:=e1.trans va
     exact w_br (λh=>bad (by rw[ok,<-e1];simpa using h)) (λh=>w_nx (nx (by rw[ok,<-e1];simpa using h)))
   . have ok:Qmp x0 known e=Q1x e.C1:=by unfold Qmp;rw[g1,g2,g3];rfl
     have e1:=e1.trans va
     exact w_br (λh=>bad (by rw[ok,<-e1];simpa using h)) (λh=>w_nx (nx (by rw[ok,<-e1];simpa using h)))
 . have hb: ¬v<l.length:=oN hb
   rw[aA (by omega)]at v2
   have v2:l.all (Qmp x0 known)=true:=v2.symm
   refine Q0h (qP hl (by omega)) λx3 e3=> ?_
   have hlen:x3.length<=1000000000000:=by rw[e3,lA];omega
   refine w_an hlen (w_lv λx4 e4=> ?_)
   rw[e3]at e4
   refine w_br (λh=> ?_) (λh=> ?_)
   . have h:Qd0 (x0.B4++l)=false:=by rw[<-e4];simpa using h
     show(x0,false)=_
     unfold Qx;rw[h1,h2,h3,v2,h];rfl
   . have h:Qd0 (x0.B4++l)=true:=by rw[<-e4];simpa using h
     show(({A0:=x0.A0,B4:=x3,C5:=known,A3:=x0.A3}:Q02),true)=_
     unfold Qx;rw[h1,h2,h3,v2,h,e3];rfl
theorem xP{p:Q02}{l:List Q0c}{known:Int}(h1:p.C5<=known)(h2:l.length<=400)(h3:p.B4.length+l.length<=4096)(h4: ∀e∈l,Qmp p known e=true)(h5:Qd0 (p.B4++l)=true):Qx p l known=({A0:=p.A0,B4:=p.B4++l,C5:=known,A3:=p.A3},true):=by
 unfold Qx
 rw[dN (by omega),dN (by omega),dN (by omega),List.all_eq_true.2 h4,h5];rfl
theorem Z9{l:List Q0c}{i:Nat}(h:i<l.length):l.getD i (RK.dflt RK.apiEntry)=l[i]:=by
 rw[cZ,cG h];rfl
theorem Zm0{s:List Q0c}(hl:s.length<=1000000)(hp:s.Pairwise λa b=>a.At<=b.At/\(a.C1.B6=1->a.At<b.At/\(b.C1.B6=1->a.C1.N<=b.C1.N))):(Q8r s).w (λb=>b=true):=by
 unfold Q8r
 refine w_lp (inv:=λz:Int=>1<=z/\(z<=s.length\/z=1)) (μ:=Q4n s) ⟨cQ 1, .inr rfl⟩ (cK _) λi ⟨a,b⟩=> ?_
 refine w_br (λhb=> ?_) (λ_=>rfl)
 have hb:=oY hb
 have ew:i64.wrap (i+1)=i+1:=by rw[wrap_i64];omega
 have em:i64.wrap (i-1)=i-1:=by rw[wrap_i64];omega
 have hlt:i.toNat<s.length:=by omega
 have hlt':(i-1).toNat<s.length:=by omega
 have q:=List.pairwise_iff_getElem.1 hp (i-1).toNat i.toNat hlt' hlt (by omega)
 rw[<-Z9 hlt,<-Z9 hlt']at q
 have nx:(1<=i64.wrap (i+1)/\(i64.wrap (i+1)<=s.length\/i64.wrap (i+1)=1))/\Q4n s (i64.wrap (i+1))<Q4n s i:=by
   show _/\(s.length-i64.wrap (i+1)).toNat<(s.length-i).toNat
   rw[ew];omega
 refine w_cn (by rw[em];simp [bT];omega) (w_cn (by simp [bT];omega) (w_br (λh=> ?_) λ_=>w_br (λh1=>w_br (λh2=> ?_) λ_=>w_nx nx) λ_=>w_nx nx))
 . have h:=oY h
   rw[em]at h
   have:=q.1;omega
 . rw[em]at h1 h2
   have h1:=eq_of_beq h1
   have:=(q.2 (eq_of_beq h2)).1;omega
theorem yn{a b:Q00}{L:List Q0c}{o:List Q04}(h:Q8x a L o b): ∀e∈L,U e.C1.N:=by
 induction h with
 |nil=>intro e he;cases he
 |ev h1 h2 h3 _ ih=>intro e he;rcases List.mem_cons.1 he with he|he;exact he▸h3;exact ih e he
 |rd h1 h2 h3 _ ih=>intro e he;rcases List.mem_cons.1 he with he|he;exact he▸h3;exact ih e he
 |st h1 h2 h3 _ ih=>exact ih
theorem Zms{P:Nat}{a b:Q00}{L:List Q0c}{o:List Q04}(h:Q8x a L o b):good P a->(o.length:Int)<=b.A1-a.A1:=by
 induction h with
 |nil=>intro _;show((0:Nat):Int)<=_;omega
 |ev h1 h2 h3 _ ih=>intro g;obtain⟨p,q⟩:=Qdp g h3;have:=ih p;omega
 |rd h1 h2 h3 _ ih=>intro g;obtain⟨p,q,r⟩:=Q6m g h1 h3;have:=ih p;rw[lA];omega
 |st h1 h2 h3 _ ih=>intro g;obtain⟨p,q,r⟩:=Q6m g h1 h3;have:=ih p;rw[lA];omega
def newQ(m:Q00):Q02:={A0:=m,B4:=[],C5:=m.A1,A3:=0}
theorem qat{m:Q00}(h:m.Mem.length<=1024):(Q94 m).w (λx=>x=newQ m):=by
 unfold Q94
 exact Q0h (Z3q (p:=newQ m) h (aT _)) λx e=>e
structure Rec22(K:Int)(m:Q00)(x:Q01×List Q04):Prop where
 mg:good 8 m
 m0:m.A1<=87
 lp:logP m.A1 K K x.1
 cnt:cntR x.1<=331
 len:x.1.B4.length<=400
 tr:Q8x m x.1.B4 x.2 x.1.A0
 steps:x.1.A0.A1<=m.A1+330
 outs:x.2.length<=1000000
def fedQ(m:Q00)(r:Q01):Q02:={A0:=m,B4:=r.B4,C5:=r.A0.A1,A3:=0}
theorem Rec22.good{K:Int}{m:Q00}{x:Q01×List Q04}(h:Rec22 K m x):Qln 8 87 (fedQ m x.1):=
 ⟨h.mg,h.m0,U_0,by have:=h.len;show x.1.B4.length<=_;omega,yn h.tr⟩
set_option synthInstance.maxHeartbeats 2000000
set_option synthInstance.maxSize 100000
noncomputable section
instance Qz1 (s:List Int):Ck (Q08 s):=let d:Decidable (Q08 s):=(by delta Q08;infer_instance);⟨@decide _ d,@oY _ d⟩
instance Zol (m:List Int) (addr:Int) (size:Int):Ck (Qa3 m addr size):=ckT (t:=Q3e m addr size) (by delta Q3e;infer_instance)
instance z6 (n:Int):Ck (Qh9 n):=ckT (t:=Qc9 n) (by delta Qc9;infer_instance)
instance zP (w:Int) (low:Int) (n:Int):Ck (Q5j w low n):=ckT (t:=Q9s w low n) (by delta Q9s;infer_instance)
instance yP (w:Int):Ck (Qki w):=ckT (t:=Q7y w) (by delta Q7y;infer_instance)
instance qD (m:List Int) (addr:Int) (size:Int):Ck (Q3f m addr size):=ckT (t:=Q6y m addr size) (by delta Q6y;infer_instance)
instance xD (c:Q05) (m:List Int) (va:Int) (size:Int) (access:Int):Ck (Q95 c m va size access):=ckT (t:=Q6v c m va size access) (by delta Q6v;infer_instance)
instance y6 (c:Q05) (m:List Int):Ck (Qms c m):=ckT (t:=Qcj c m) (by delta Qcj;infer_instance)
instance zat (c:Q05) (m:List Int):Ck (Qk7 c m):=ckT (t:=Q7w c m) (by delta Q7w;infer_instance)
instance Zkc (x:Int):Ck (Qcc x):=ckT (t:=Q1y x) (by delta Q1y;infer_instance)
instance zD (b:Q09) (pages:Int):Ck (Qdi b pages):=ckT (t:=Q46 b pages) (by delta Q46;infer_instance)
instance Zfe (m:Q00):Ck (Q2x m):=ckT (t:=Q1w m) (by delta Q1w;infer_instance)
instance yD (m:Q00):Ck (Q3g m):=ckT (t:=Q58 m) (by delta Q58;infer_instance)
instance vn (m:Q00):Ck (Q3q m):=ckT (t:=Q3d m) (by delta Q3d;infer_instance)
instance qo (m:Q00):Ck (Qbx m):=ckT (t:=Q45 m) (by delta Q45;infer_instance)
instance Zor (m:Q00):Ck (Qap m):=ckT (t:=Q31 m) (by delta Q31;infer_instance)
instance xo (m:Q00) (clock:Int):Ck (Q2m m clock):=ckT (t:=Q30 m clock) (by delta Q30;infer_instance)
instance xat (pages:Int):Ck (Qfx pages):=ckT (t:=Qee pages) (by delta Qee;infer_instance)
instance qau (pages:Int) (blocks:Int) (image:List Int):Ck (Q9n pages blocks image):=ckT (t:=Q8s pages blocks image) (by delta Q8s;infer_instance)
instance Zeo (m:Q00):Ck (Q1r m):=ckT (t:=Q2e m) (by delta Q2e;infer_instance)
instance Qro (s:List Q0c):Ck (Q0z s):=let d:Decidable (Q0z s):=(by delta Q0z;infer_instance);⟨@decide _ d,@oY _ d⟩
instance Qrw (s:List Q0a):Ck (Q11 s):=let d:Decidable (Q11 s):=(by delta Q11;infer_instance);⟨@decide _ d,@oY _ d⟩
instance Zon (r:Q01):Ck (Q41 r):=ckT (t:=Q5s r) (by delta Q5s;infer_instance)
instance vP (m:Q00):Ck (Qf4 m):=ckT (t:=Q9g m) (by delta Q9g;infer_instance)
instance Zoq (p:Q02):Ck (Q7j p):=ckT (t:=Q62 p) (by delta Q62;infer_instance)
instance qQ (m:Q00):Ck (Qf3 m):=ckT (t:=Q94 m) (by delta Q94;infer_instance)
instance zo (p:Q02):Ck (Qgo p):=ckT (t:=Q76 p) (by delta Q76;infer_instance)
instance Zop (p:Q02):Ck (Q7l p):=ckT (t:=Q5y p) (by delta Q5y;infer_instance)
instance vo (script:List Q0c):Ck (Q4t script):=let d:Decidable (Q4t script):=(by delta Q4t;infer_instance);⟨@decide _ d,@oY _ d⟩
instance Qsc (s:List Q0c) (n:Int):Ck (Q1h s n):=let d:Decidable (Q1h s n):=(by delta Q1h;infer_instance);⟨@decide _ d,@oY _ d⟩
instance Qqu (slices:(List (List Q0c))):Ck (Q2t slices):=ckT (t:=Q13 slices) (by delta Q13;infer_instance)
instance vD (p:Q02) (l:List Q0c) (known:Int):Ck (Qdm p l known):=ckT (t:=Q8c p l known) (by delta Q8c;infer_instance)
instance qp (p:Q02) (fr1:Int):Ck (Qgl p fr1):=ckT (t:=Q77 p fr1) (by delta Q77;infer_instance)
instance Zmq (p:Q02) (steps:Int):Ck (Q6l p steps):=ckT (t:=Q4w p steps) (by delta Q4w;infer_instance)
theorem Z0j:Q5t:=ck (ckT (t:=Qdc) (by delta Qdc;infer_instance)) (by kernel_rfl)
theorem Qxp:Qcr=true:=by kernel_rfl
theorem aw22{W:Bool->Prop}(h:W true):(Tree.an Q5t (.lv Qcr λx=> .lf x)).w W:=w_an Z0j (w_lv λx e=>by show W x;rw[e,Qxp];exact h)
end
theorem Znc{P:Nat}{a b:Q00}{L:List Q0c}{o:List Q04}(h:Q8x a L o b)(g:good P a)(hc:a.A1<b.A1):
   (∃e M,L={At:=a.A1,C1:=e}::M/\e.B6≠1/\U e.N/\(Q0n a e).1=true/\Q8x (Q0n a e).2 M o b)\/
   (∃c M p,L={At:=a.A1,C1:={B6:=1,N:=c,C9:=[]}}::M/\Q0r a=false/\Q0g a=true/\U c/\o=(Q0j a c).1++p/\Q8x (Q0j a c).2 M p b)\/
   (∃p,Q0r a=false/\Q0g a=false/\(∀e∈L,a.A1<e.At)/\o=(Q0j a 0).1++p/\Q8x (Q0j a 0).2 L p b):=by
 cases h with
 |nil=>omega
 |ev h1 h2 h3 h4=>exact .inl ⟨_,_,rfl,h2,h3,h1,h4⟩
 |rd h1 h2 h3 h4=>exact .inr (.inl ⟨_,_,_,rfl,h1,h2,h3,rfl,h4⟩)
 | @st _ _ c _ _ h1 h2 h3 h4=>
   refine .inr (.inr ?_)
   have e:Q0j a c=Q0j a 0:=by
     have s1:=g.step h1 c
     have s0:=g.step h1 0
     have:=Znf (m:=a) (by rw[Qvt g.v];exact h2) c 0
     rw[s1,s0]at this
     injection this with p q
     exact eU q p
   obtain⟨g1,c1,_⟩:=Q6m g h1 h3
   have r:=(h4.good g1).2.2
   rw[c1]at r
   rw[e]at h4
   exact⟨_,h1,h2,λe he=>by have:=r e he;omega,by rw[e],h4⟩
theorem Qw5{P:Nat}{a b:Q00}{L:List Q0c}{o:List Q04}(h:Q8x a L o b)(g:good P a)(hc:b.A1<=a.A1):o=[]/\((L=[]/\a=b)\/ ∃e M,L={At:=a.A1,C1:=e}::M/\U e.N/\(Q0n a e).1=true/\Q8x (Q0n a e).2 M [] b):=by
 have main: ∀{a b:Q00} {L:List Q0c} {o:List Q04},Q8x a L o b->good P a->b.A1<=a.A1->o=[]:=by
   intro a b L o h
   induction h with
   |nil=>exact λ_ _=>rfl
   | ev h1 h2 h3 _ ih=>
     intro g hc
     obtain⟨g1,c1⟩:=Qdp g h3
     exact ih g1 (by omega)
   | rd h1 h2 h3 h4 ih=>
     intro g hc
     obtain⟨g1,c1,_⟩:=Q6m g h1 h3
     have:=(h4.good g1).2.1;omega
   | st h1 h2 h3 h4 ih=>
     intro g hc
     obtain⟨g1,c1,_⟩:=Q6m g h1 h3
     have:=(h4.good g1).2.1;omega
 have z:=main h g hc
 refine⟨z,?_⟩
 cases h with
 |nil=>exact .inl ⟨rfl,rfl⟩
 |ev h1 h2 h3 h4=>rw[z]at h4;exact .inr ⟨_,_,rfl,h3,h1,h4⟩
 | rd h1 h2 h3 h4=>
   obtain⟨g1,c1,_⟩:=Q6m g h1 h3
   have:=(h4.good g1).2.1;omega
 | st h1 h2 h3 h4=>
   obtain⟨g1,c1,_⟩:=Q6m g h1 h3
   have:=(h4.good g1).2.1;omega
theorem Z1w: ∀(l:List Q0c) (m:Q00),(dueF l m).2<:+l
 |[],m=>bW _
 | e ::l,m=>by
   by_cases h1:e.At<=m.A1
   . cases h2:e.C1.B6 !=1
     . rw[Qhk h2];exact bW _
     . rw[Qv7 h1 h2];exact(Z1w l _).trans (cA e l)
   . rw[Qlq h1];exact bW _
theorem xp{l:List Q0c}{m:Q00}{e:Q0c}{M:List Q0c}(h:(dueF l m).2=e::M)(h1:e.At<=(dueF l m).1.A1)(h2:e.C1.B6≠1):False:=by
 have i:=Zdt l m
 rw[h,Qv7 h1 (bne_iff_ne.2 h2)]at i
 have s:=(Z1w M (Q0n (dueF l m).1 e.C1).2).length_le
 rw[i,h,dE]at s
 omega
theorem Zmo{P:Nat}{a b:Q00}{L:List Q0c}{o:List Q04}(h:Q8x a L o b):good P a->Q8x (dueF L a).1 (dueF L a).2 o b:=by
 induction h with
 |nil=>intro _;exact .nil
 | ev h1 h2 h3 h4 ih=>
   intro g
   rw[Qv7 (cQ _) (bne_iff_ne.2 h2)]
   exact ih (Qdp g h3).1
 |rd h1 h2 h3 h4 _=>intro g;rw[Qhk rfl];exact .rd h1 h2 h3 h4
 | @st m n c L o h1 h2 h3 h4 ih=>
   intro g
   obtain⟨g1,c1,_⟩:=Q6m g h1 h3
   have e:dueF L m=(m,L):=by
     cases L with
     |nil=>rfl
     |cons e L=>exact Qlq (by have:=(h4.good g1).2.2 e (by simp);omega)
   rw[e];exact .st h1 h2 h3 h4
theorem xQ{p:Q02}{c:Int}{M:List Q0c}(hl:p.B4={At:=p.A0.A1,C1:={B6:=1,N:=c,C9:=[]}}::M)(hr:Q0g p.A0=true):Qnk p=true/\Qd7 p=(c,M,wrap .u32 (c+1)):=by
 refine⟨?_,?_⟩
 . unfold Qnk;rw[hl]
   show(bif Q0g p.A0 then(bif(1:Int)==1 then p.A0.A1==p.A0.A1 else false) else _)=true
   rw[hr]
   show(p.A0.A1==p.A0.A1)=true
   exact beq_self_eq_true _
 . have f:Qr4 p=c:=by unfold Qr4;rw[hl]
   unfold Qd7;rw[hr,f,hl];rfl
theorem zQ{p:Q02}(hl: ∀e∈p.B4,p.A0.A1<e.At)(hr:Q0g p.A0=false):Qnk p=true/\Qd7 p=(0,p.B4,p.A3):=by
 refine⟨?_,by unfold Qd7;rw[hr];rfl⟩
 unfold Qnk
 cases h:p.B4 with
 |nil=>show(!Q0g p.A0)=true;rw[hr];rfl
 | cons e M=>
   have:=hl e (by rw[h];simp)
   show(bif Q0g p.A0 then _ else !(bif e.C1.B6==1 then decide (e.At<=p.A0.A1) else false))=true
   rw[hr,dN (by omega)]
   cases e.C1.B6==1<;>rfl
structure Went(b:Q00)(O:List Q04)(p:Q02)(n:Nat)(o:List Q04)(q:Q02×List Q04):Prop where
 ex: ∃O1 O2,O=O1++O2/\q.2=o++O1/\Q8x q.1.A0 q.1.B4 O2 b
 kn:q.1.C5=p.C5
 cnt:q.1.A0.A1=b.A1\/q.1.A0.A1=p.A0.A1+n
theorem Z0v{P:Nat}: ∀(n:Nat) {k:Int} {p:Q02} {b:Q00} {O:List Q04} (o:List Q04),Qln P k p->p.C5=b.A1->Q8x p.A0 p.B4 O b->Went b O p n o (folF n p o)
  |0,k,p,b,O,o,h,hk,t=>⟨⟨[],O,rfl,(cJ o).symm,t⟩,rfl, .inr (by show p.A0.A1=p.A0.A1+(0:Nat);omega)⟩
  | n + 1,k,p,b,O,o,h,hk,t=>by
    have le:=(t.good h.m).2.1
    by_cases hc:p.C5<=p.A0.A1
    . rw[Qtx hc]
      exact⟨⟨[],O,rfl,(cJ o).symm,t⟩,rfl, .inl (by show p.A0.A1=b.A1;omega)⟩
    . obtain⟨g,gc,_⟩:=Qss h
      have t2:Q8x (setF p).A0 (setF p).B4 O b:=Zmo t h.m
      have go: ∀{O':List Q04},Q0r (setF p).A0=false->Qnk (setF p)=true->O=outF (setF p)++O'->Q8x (goF (setF p)).A0 (goF (setF p)).B4 O' b->Went b O p (n+1) o (folF (n+1) p o):=fun{O'} hs hp ho ht=>by
        obtain⟨k1,k2,k3⟩:=Z0d g hs
        obtain⟨⟨O1,O2,e1,e2,e3⟩,kn,ct⟩:=Z0v n (o++outF (setF p)) k1 (show(goF (setF p)).C5=b.A1 from hk) ht
        rw[Zbq hc hs hp]
        exact⟨⟨outF (setF p)++O1,O2,by rw[ho,e1,fC],by rw[e2,fC],e3⟩,kn,by rcases ct with c|c;exact .inl c;exact .inr (by omega)⟩
      rcases Znc t2 g.m (by omega) with⟨e,M,e1,e2,_⟩|⟨c,M,O',e1,e2,e3,e4,e5,e6⟩|⟨O',e2,e3,e4,e5,e6⟩
      . exact(xp (l:=p.B4) (m:=p.A0) e1 (cQ _) e2).elim
      . obtain⟨pr,tk⟩:=xQ e1 e3
        refine go e2 pr (by unfold outF;rw[tk];exact e5) ?_
        unfold goF;rw[tk];exact e6
      . obtain⟨pr,tk⟩:=zQ e4 e3
        refine go e2 pr (by unfold outF;rw[tk];exact e5) ?_
        unfold goF;rw[tk];exact e6
theorem Went.done{P:Nat}{k:Int}{b:Q00}{O:List Q04}{p:Q02}{n:Nat}{o:List Q04}{q:Q02×List Q04}(h:Went b O p n o q)(g:Qln P k q.1)(hn:b.A1<=p.A0.A1+n):q.1.A0.A1=b.A1/\q.2=o++O/\Q8x q.1.A0 q.1.B4 [] b:=by
 obtain⟨⟨O1,O2,e1,e2,e3⟩,_,ct⟩:=h
 have le:=(e3.good g.m).2.1
 have c:q.1.A0.A1=b.A1:=by rcases ct with c|c<;>omega
 obtain⟨z,_⟩:=Qw5 e3 g.m (by omega)
 subst z
 rw[cJ]at e1
 subst e1
 exact⟨c,e2,e3⟩
def Z8t(l:List Q0c)(m:Q00):Q00:=l.foldl (λm e=>(Q0n m e.C1).2) m
theorem Zl0{P:Nat}: ∀{L:List Q0c} {a b:Q00},Q8x a L [] b->good P a->b.A1<=a.A1->Z8t L a=b
 | [],a,b,h,g,hc=>by
   obtain⟨_,⟨_,e⟩|⟨e,M,he,_⟩⟩:=Qw5 h g hc
   . exact e
   . cases he
 | x ::L,a,b,h,g,hc=>by
   obtain⟨_,⟨e,_⟩|⟨e,M,he,hu,_,t⟩⟩:=Qw5 h g hc
   . cases e
   . cases he
     obtain⟨k1,k2⟩:=Qdp g hu
     show Z8t L (Q0n a e).2=b
     exact Zl0 t k1 (by omega)
theorem Zlq{P:Nat}: ∀(n:Nat) {k:Int} {p:Q02} (o:List Q04),Qln P k p->(folF n p o).1.B4<:+p.B4
  |0,k,p,o,h=>bW _
  | n + 1,k,p,o,h=>by
    by_cases hk:p.C5<=p.A0.A1
    . rw[Qtx hk];exact bW _
    . obtain⟨g,_,sf⟩:=Qss h
      cases hs:Q0r (setF p).A0
      . cases hp:Qnk (setF p)
        . rw[Z11 hk hs hp];exact sf
        . rw[Zbq hk hs hp]
          obtain⟨k1,_⟩:=Z0d g hs
          obtain⟨_,_,ts⟩:=Zjq g
          exact(Zlq n _ k1).trans (List.IsSuffix.trans ts sf)
      . rw[Qvc hk hs];exact sf
theorem zp{p:Q02}{known:Int}{e:Q0c}(h1:p.C5<=e.At)(h2:e.At<=known)(h3:Q1x e.C1=true)(h4:e.C1.B6=1->e.At<known):Qmp p known e=true:=by
 unfold Qmp
 rw[dN (show¬e.At<p.C5 by omega),dN (show¬e.At>known by omega),h3]
 cases q1:e.At==known
 . rfl
 . cases q2:e.C1.B6==1
   . rfl
   . have:=h4 (eq_of_beq q2)
     have:=eq_of_beq q1
     omega
theorem vp(L:List Q0c)(r:Q01):preL (L++r.B4) {A0:=r.A0,A3:=r.A3,B4:=[],A6:=r.A6}=preL L r:=by
 unfold preL
 show(⟨_,_,(L++r.B4)++[],_⟩:Q01)=_
 rw[cJ]
structure Fol(m:Q00)(i:Int)(r:Q01)(LG:List Q0c)(p:Q02)(a b:List Q04):Prop where
 lp:logP m.A1 (87+4000*i) (255+12*i) (preL LG r)
 nil:r.B4=[]
 cnt:(cntR (preL LG r):Int)<=1+11*i
 st:r.A0.A1<=m.A1+11*i
 tr:Q8x m LG a r.A0
 pg:Qln 8 p.A0.A1 p
 kn:p.C5=r.A0.A1
 mc:m.A1<=p.A0.A1
 sf:p.B4<:+LG
 ex: ∃O,a=b++O/\Q8x p.A0 p.B4 O r.A0
theorem Zjh(L:List Q0c){r:Q01}{e:Q0a}:(Q28 r e).1.A0=r.A0/\(Q28 r e).1.B4=r.B4/\(Q28 r e).1.A3=r.A3/\cntR (preL L (Q28 r e).1)<=cntR (preL L r)+1:=by
 rw[Qbw]
 have z:cntR (preL L {A0:=r.A0,A3:=r.A3,B4:=r.B4,A6:=r.A6++[e]})=cntR (preL L r)+1:=by
   show(L++r.B4).length+arm (preL L r)+(r.A6++[_]).length=(L++r.B4).length+arm (preL L r)+r.A6.length+1
   rw[lA,lA,cU];omega
 cases Q1x e
 . exact⟨rfl,rfl,rfl,fJ _ _⟩
 . cases e.B6==1
   . cases decide ((r.A6.length:Int)>=16)
     . exact⟨rfl,rfl,rfl,dH z⟩
     . exact⟨rfl,rfl,rfl,fJ _ _⟩
   . exact⟨rfl,rfl,rfl,fJ _ _⟩
theorem Fol.arrive{m:Q00}{i:Int}{r:Q01}{LG:List Q0c}{p:Q02}{a b:List Q04}(h:Fol m i r LG p a b){e:Q0a}(ok:evOK e)(ue:U e.N):Fol m (i+1) (Q28 r e).1 LG p a b:=by
 obtain⟨s1,s2,s3,s4⟩:=Zjh LG (r:=r) (e:=e)
 have g:=arriveP h.lp.p ue
 have l:=xaq h.lp.l ok
 rw[Zmh]at g l
 have hb:=h.lp.b
 have hb:r.A3<=255+12*i:=hb
 have hc:=h.cnt
 have hs:=h.st
 refine⟨⟨g.more (by omega),l.1,by show(Q28 r e).1.A3<=_;rw[s3];omega⟩,s2.trans h.nil,by omega,by rw[s1];omega,by rw[s1];exact h.tr,h.pg,by rw[s1];exact h.kn,h.mc,h.sf,?_⟩
 obtain⟨O,o1,o2⟩:=h.ex
 exact⟨O,o1,by rw[s1];exact o2⟩
theorem Fol.feed{m:Q00}{i:Int}{r:Q01}{LG:List Q0c}{p:Q02}{a b:List Q04}(h:Fol m i r LG p a b)(hi:0<=i/\i<30){steps clock:Int}(hs:0<=steps/\steps<12)(hc:0<=clock/\clock<=255){y:Q01×List Q04}(hy:y=advF r steps clock):
   Qx p y.1.B4 y.1.A0.A1=({A0:=p.A0,B4:=p.B4++y.1.B4,C5:=y.1.A0.A1,A3:=p.A3},true)/\Fol m (i+1) {A0:=y.1.A0,A3:=y.1.A3,B4:=[],A6:=y.1.A6} (LG++y.1.B4) {A0:=p.A0,B4:=p.B4++y.1.B4,C5:=y.1.A0.A1,A3:=p.A3} (a++y.2) b:=by
 have uc:U clock:=by unfold U;omega
 have hcn:=h.cnt
 have hst:=h.st
 have g:=advP h.lp.p steps uc
 have l:=zaq h.lp.l h.lp.p.g h.lp.p.q (steps:=steps) (clock:=clock) h.lp.b hc.1 (by omega) hs (by omega)
 have c:=zas h.lp.p.g h.lp.p.q (steps:=steps) uc hs
 have s:=xn h.lp.p.g h.lp.p.q (steps:=steps) uc hs
 obtain⟨L,l1,l2⟩:=zaL h.lp.p.g h.lp.p.q h.lp.l.q steps uc
 rw[qM,<-hy]at g l c s l1 l2
 have g:Qva 8 (87+4000*i+4000) (preL LG y.1):=g
 have s:y.1.A0.A1<=r.A0.A1+11:=s
 have c:cntR (preL LG y.1)<=cntR (preL LG r)+11:=c
 have l1:LG++y.1.B4=(LG++r.B4)++L:=l1
 rw[h.nil,cJ]at l1
 have l1:y.1.B4=L:=List.append_cancel_left l1
 have l2:Q8x r.A0 L y.2 y.1.A0:=l2
 rw[<-l1]at l2
 have gr:good 8 r.A0:=h.lp.p.g.m
 obtain⟨_,up,at_⟩:=l2.good gr
 have cl:(LG++y.1.B4).length<=cntR (preL LG y.1):=by
   show _<=(LG++y.1.B4).length+arm (preL LG y.1)+y.1.A6.length
   omega
 rw[lA]at cl
 have sl:=h.sf.length_le
 have all:=l.1.all
 have all: ∀e∈LG++y.1.B4,m.A1<=e.At/\e.At<=y.1.A0.A1/\Q1x e.C1=true/\(e.C1.B6=1->e.At<y.1.A0.A1/\e.C1.N<y.1.A3/\0<=e.C1.N):=all
 have sf:(p.B4++y.1.B4)<:+(LG++y.1.B4):=by
   obtain⟨t,ht⟩:=h.sf
   exact⟨t,by rw[<-ht,fC]⟩
 have pw:(p.B4++y.1.B4).Pairwise λa b=>a.At<=b.At/\(a.C1.B6=1->a.At<b.At/\(b.C1.B6=1->a.C1.N<=b.C1.N)):=List.Pairwise.sublist sf.sublist l.1.pw
 obtain⟨O,o1,o2⟩:=h.ex
 have o3:=o2.trans l2
 refine⟨xP (by rw[h.kn];exact up) (by omega) (by omega) (λe he=> ?_) (Tree.post _ (Zm0 (by rw[lA];omega) pw)),?_⟩
 . obtain⟨q1,q2,q3,q4⟩:=all e (fK _ he)
   exact zp (by rw[h.kn];exact at_ e he) q2 q3 λk=>(q4 k).1
 . have pc:=vp LG y.1
   refine⟨by rw[pc];exact⟨g.more (by omega),l.1,by have:=l.2;show y.1.A3<=_;have:y.1.A3<=255+12*i+12:=this;omega⟩,rfl,by rw[pc];omega,by show y.1.A0.A1<=_;omega,h.tr.trans l2,⟨h.pg.m,cQ _,h.pg.clock,by show(p.B4++y.1.B4).length<=_;rw[lA];omega,yn o3⟩,rfl,h.mc,sf,O++y.2,by rw[o1,fC],o3⟩
theorem Fol.fol{m:Q00}{i:Int}{r:Q01}{LG:List Q0c}{p:Q02}{a b:List Q04}(h:Fol m i r LG p a b){n:Nat}{q:Q02×List Q04}(hq:q=folF n p []):Fol m i r LG q.1 a (b++q.2):=by
 obtain⟨O,o1,o2⟩:=h.ex
 have W:=Z0v n [] h.pg h.kn o2
 obtain⟨K,_⟩:=Z2k n [] h.pg
 have S:=Zlq n [] h.pg
 rw[<-hq]at W K S
 obtain⟨⟨O1,O2,e1,e2,e3⟩,kn,ct⟩:=W
 have le:=(o2.good h.pg.m).2.1
 have mc:=h.mc
 refine⟨h.lp,h.nil,h.cnt,h.st,h.tr,⟨K.m,cQ _,K.clock,K.log,K.u⟩,kn.trans h.kn,by rcases ct with c|c<;>omega,S.trans h.sf,O2,?_,e3⟩
 rw[o1,e1,e2,fH,fC]
theorem Fol.len{m:Q00}{i:Int}{r:Q01}{LG:List Q0c}{p:Q02}{a b:List Q04}(h:Fol m i r LG p a b)(g:good 8 m)(hi:i<=30):a.length<=330/\b.length<=a.length/\a.take b.length=b:=by
 have:=Zms h.tr g
 have:=h.st
 obtain⟨O,o1,o2⟩:=h.ex
 exact⟨by omega,by rw[o1,lA];omega,by rw[o1,List.take_left]⟩
theorem Fol.start{m:Q00}(g:good 8 m)(b:m.A1<=87):Fol m 0 {A0:=m,A3:=0,B4:=[],A6:=[]} [] (newQ m) [] []:=by
 have lp:=vN g b
 refine⟨lp,rfl,?_,by show m.A1<=m.A1+11*0;omega, .nil,⟨g,cQ _,U_0,aT _,λe he=>by cases he⟩,rfl,cQ _,bW _,[],rfl, .nil⟩
 have:=vZ {A0:=m,A3:=0,B4:=[],A6:=[]}
 show((0+arm {A0:=m,A3:=0,B4:=[],A6:=[]}+0:Nat):Int)<=_
 omega
theorem zau{P:Nat}{k:Int}{p:Q02}(h:Qln P k p)(hk:p.A0.A1=p.C5):(Q5y p).w (λx=>x=({A0:=Z8t p.B4 p.A0,A3:=p.A3,B4:=[],A6:=[]},true)):=by
 have hl:=h.log
 unfold Q5y
 refine w_an (Tree.pp (Z73 h.m.ok.target.2)).1 (w_lv λx0 e0=>w_br (λhb=>by rw[e0,h.m.may]at hb;cases hb) λ_=>w_br (λhb=>by rw[hk,bne_self_eq_false]at hb;cases hb) λ_=> ?_)
 refine w_lp (inv:=λv:Int×Q00=>0<=v.1/\v.1<=p.B4.length/\good P v.2/\Z8t (p.B4.drop v.1.toNat) v.2=Z8t p.B4 p.A0) (μ:=Qj5 p) ⟨cQ 0,by show(0:Int)<=_;omega,h.m,rfl⟩ (cK _) λv ⟨v0,v1,v2,v3⟩=> ?_
 obtain⟨i,m⟩:=v
 have v0:0<=i:=v0
 have v1:i<=p.B4.length:=v1
 have v2:good P m:=v2
 have v3:Z8t (p.B4.drop i.toNat) m=Z8t p.B4 p.A0:=v3
 refine w_br (λhb=> ?_) (λhb=> ?_)
 . have hb:i<p.B4.length:=oY hb
   have hlt:i.toNat<p.B4.length:=by omega
   have ed:=Z9 hlt
   have hm:p.B4.getD i.toNat (RK.dflt RK.apiEntry)∈p.B4:=by rw[ed];exact fE hlt
   have ue:=h.u _ hm
   rw[aB hlt,<-ed]at v3
   have ew:i64.wrap (i+1)=i+1:=by rw[wrap_i64];omega
   obtain⟨k1,k2⟩:=Qdp v2 ue
   refine w_cn (by simp [bT];omega) (w_an (Qw4 v2.v v2.len ue) (w_lv λx1 e1=>w_nx ?_))
   have e1:x1=((Q0n m (p.B4.getD i.toNat (RK.dflt RK.apiEntry)).C1).2,(Q0n m (p.B4.getD i.toNat (RK.dflt RK.apiEntry)).C1).1):=e1.trans (v2.app _)
   have e2:x1.1=(Q0n m (p.B4.getD i.toNat (RK.dflt RK.apiEntry)).C1).2:=congrArg Prod.fst e1
   show(0<=i64.wrap (i+1)/\i64.wrap (i+1)<=p.B4.length/\good P x1.1/\Z8t (p.B4.drop (i64.wrap (i+1)).toNat) x1.1=_)/\(p.B4.length-i64.wrap (i+1)).toNat<(p.B4.length-i).toNat
   rw[ew,e2,show(i+1).toNat=i.toNat+1 by omega]
   exact⟨⟨by omega,by omega,k1,v3⟩,by omega⟩
 . have hb: ¬i<p.B4.length:=oN hb
   rw[aA (by omega)]at v3
   have v3:m=Z8t p.B4 p.A0:=v3
   refine Q0h (yZ v2.len) λx2 e2=> ?_
   show(({A0:=x2.A0,A3:=p.A3,B4:=x2.B4,A6:=x2.A6}:Q01),true)=_
   rw[e2,v3]
theorem xaM{l:List Int}(hl:l.length*8<=reachBytes)(i:Int):Qry l i:=by
 show(Qnt l i).p
 unfold Tree.p Qnt
 have hb:l.length<=1000000000000000:=by unfold reachBytes at hl;omega
 refine w_br (λ_=>trivial) λh=> ?_
 have h: ¬(l.length:Int)=0:=by simpa using h
 have rr:=Qs0 (n:=i) (k:=(l.length:Int)) (by omega) (by omega)
 exact w_an (Qdx h) (w_lv λx hx=>w_cn (dY (by rw[hx];exact rr)) trivial)
theorem Zjp(kind:Int)(l acts pace:List Int)(hl:l.length*8<=reachBytes)(hp:pace.length*8<=reachBytes):Qe7 kind l acts pace/\Qcq kind l acts pace=true:=by
  have aw:(Tree.an Q5t (.lv Qcr λx=> .lf x)).w (λr=>r=true):=aw22 rfl
  have aws: ∀{W:((Int×Q01×Q02×List Q04×List Q04)⊕Bool)->Prop},W (Sum.inr true)->(Tree.an Q5t (.lv Qcr λx=> .lf (Sum.inr x))).w W:=λh=>w_an Z0j (w_lv λx e=>by show _;rw[e,Qxp];exact h)
  refine Tree.pp (W:=λr=>r=true) ?_
  unfold Q70
  refine w_lv λx0 h0=>w_br (λ_=>aw) λhb=> ?_
  obtain⟨f1,f2⟩:=vM h0 hb
  obtain⟨a,b⟩:=Zd8 kind l hl f1
  refine w_an (Tree.pp (xe kind l hl)).1 (w_lv λm hm=> ?_)
  rw[<-hm]at a b
  refine Q0h (yZ a.len) λx3 e3=>Q0h (qat a.len) λx4 e4=> ?_
  subst e3
  subst e4
  have m0:=a.ok.cnt
  refine w_lp (inv:=λv:Int×Q01×Q02×List Q04×List Q04=>0<=v.1/\v.1<=acts.length/\ ∃LG,Fol m v.1 v.2.1 LG v.2.2.1 v.2.2.2.1 v.2.2.2.2) (μ:=Q49 kind l acts pace) ⟨cQ 0,by show(0:Int)<=acts.length;omega,[],Fol.start a b⟩ (cK _) λv ⟨a1,a2,LG,F⟩=> ?_
  obtain⟨i,r,p,A,B⟩:=v
  have a1:0<=i:=a1
  have a2:i<=acts.length:=a2
  have F:Fol m i r LG p A B:=F
  have gr:=F.lp.p.g
  have gr:good 8 r.A0:=gr.m
  have hn:=F.nil
  have hq:r.A6.length<=16:=F.lp.p.q.1
  obtain⟨n1,n2,n3⟩:=F.len a (by omega)
  have hsf:=F.sf.length_le
  have hcl:LG.length<=cntR (preL LG r):=by
    show _<=(LG++r.B4).length+arm (preL LG r)+r.A6.length
    rw[lA];omega
  have hcn:=F.cnt
  refine w_br (λhb=> ?_) (λhb=> ?_)
  . have hb:i<acts.length:=oY hb
    have ew:i64.wrap (i+1)=i+1:=by rw[wrap_i64];omega
    have cn:(bS 1 1&&bT 0 1&&decide (0<=i/\i<((acts.length:Nat):Int)))=true:=by simp [bT];omega
    have nx: ∀(x:Q01) (q:Q02) (A' B':List Q04),(∃LG',Fol m (i+1) x LG' q A' B')->(0<=wrap .i64 (i+1)/\wrap .i64 (i+1)<=acts.length/\ ∃LG',Fol m (wrap .i64 (i+1)) x LG' q A' B')/\Q49 kind l acts pace (wrap .i64 (i+1),x,q,A',B')<Q49 kind l acts pace (i,r,p,A,B):=λx q A' B' h=>by
      show _/\(acts.length-wrap .i64 (i+1)).toNat<(acts.length-i).toNat
      rw[ew]
      exact⟨⟨by omega,by omega,h⟩,by omega⟩
    refine w_cn cn (w_lv λx5 e5=>w_br (λ_=>w_cn cn (w_an (Tree.pp (yx _)).1 (w_lv λe ee=> ?_))) λ_=> ?_)
    . have ue:U e.N:=by rw[ee];exact qao _
      have oe:evOK e:=by rw[ee];exact qN _
      refine Q0h (ym (r:=r) gr.len (by rw[hn];exact aT _) (by omega) ue) λx7 e7=>w_nx ?_
      have F2:=F.arrive oe ue
      rw[<-e7]at F2
      exact nx _ _ _ _ ⟨LG,F2⟩
    . refine w_an (Qdx (by decide)) (w_lv λx8 e8=> ?_)
      have rr:=Qs0 (n:=ishr .i64 x5 4) (k:=12) (by decide) (by decide)
      rw[<-e8]at rr
      have wc:=Zix (ishr .i64 x5 12)
      have gp:Qva 8 (87+4000*i) r:=⟨⟨gr,F.lp.p.g.clock,F.lp.p.g.cnt⟩,F.lp.p.q,by rw[hn];show((0:Nat):Int)<=_;omega⟩
      refine Q0h (xaK gp (by omega) x8 (Q0v _)) λx9 ⟨e9,p9,o9⟩=> ?_
      obtain⟨k1,k2⟩:=F.feed ⟨a1,by omega⟩ (steps:=x8) (clock:=wrap .u32 (iand .i64 (ishr .i64 x5 12) 255)) rr wc e9
      have q9:=p9.q.1
      have l9:=p9.l
      refine Q0h (zaK p9.g.m.len (by omega) (by omega)) λx10 e10=> ?_
      subst e10
      obtain⟨o1,o2⟩:=k2.ex
      refine Q0h (zaM (p:=p) F.pg.m.len (by omega) (λe he=>k2.pg.u e (fK _ he)) _) λx11 e11=> ?_
      have e11:x11=Qx p x9.1.B4 x9.1.A0.A1:=e11
      rw[k1]at e11
      subst e11
      refine w_br (λh=>by cases h) λ_=>w_cn (dY (by show 40*(A.length+x9.2.length)<=_;omega)) (w_an (xaM hp i) (w_lv λx12 _=>w_an (Qdx (by decide)) (w_lv λx13 _=> ?_)))
      refine Q0h (zn k2.pg x13) λx14 e14=> ?_
      rw[Zjl k2.pg.m.rmay]at e14
      have k3:=k2.fol e14
      obtain⟨t1,t2,t3⟩:=k3.len a (by omega)
      have t4:(B++x14.2).length<=(A++x9.2).length:=t2
      rw[lA]at t4
      have so:Q6d (B++x14.2) (B++x14.2)=true:=Tree.post _ (Zf2 (B++x14.2) (by omega))
      have tk:cW (dB (((B++x14.2).length:Nat):Int)-dB 0) (cX (dB 0) (A++x9.2))=B++x14.2:=t3
      refine w_cn (dY (by show 40*(B.length+x14.2.length)<=_;omega)) (w_br (λh=>absurd (oY h) (by show¬(((B++x14.2).length:Nat):Int)>(((A++x9.2).length:Nat):Int);omega)) λ_=>w_cn (by
        rw[dY (show(0:Int)<=0/\(0:Int)<=(((B++x14.2).length:Nat):Int)/\(((B++x14.2).length:Nat):Int)<=(((A++x9.2).length:Nat):Int) by omega)];rfl) (w_an (show(B++x14.2).length<=1000000000000 by omega) (w_lv λx15 e15=>w_br (λh=> ?_) λ_=>w_nx (nx _ _ _ _ ⟨_,k3⟩))))
      have e15:x15=Q6d (B++x14.2) (cW (dB (((B++x14.2).length:Nat):Int)-dB 0) (cX (dB 0) (A++x9.2))):=e15
      rw[tk,so]at e15
      rw[e15]at h;cases h
  . refine Q0h (zn F.pg 500) λx16 e16=> ?_
    rw[Zjl F.pg.m.rmay,show(Q0o 500).toNat=500 from rfl]at e16
    obtain⟨O,o1,o2⟩:=F.ex
    have W:=Z0v 500 [] F.pg F.kn o2
    obtain⟨GW,_⟩:=Z2k 500 [] F.pg
    rw[<-e16]at W GW
    have hst:=F.st
    have hmc:=F.mc
    obtain⟨wc,wo,wt⟩:=W.done GW (by omega)
    have kn:x16.1.C5=r.A0.A1:=W.kn.trans F.kn
    have le:=Zl0 wt GW.m (by omega)
    have ab:B++x16.2=A:=by rw[wo,o1,fH]
    have la:(B++x16.2).length<=330:=by rw[ab];exact n1
    rw[lA]at la
    have so:Q6d A A=true:=Tree.post _ (Zf2 A (by omega))
    refine w_cn (dY (by show 40*(B.length+x16.2.length)<=_;omega)) (w_lv λx17 e17=>w_br (λh=> ?_) λ_=> ?_)
    . have lg:Ql7 x16.1=0:=by
        show Tree.V (Qjq x16.1) (λx=>x=0)
        unfold Qjq
        refine v_br (λ_=>v_lf rfl) λ_=>v_lf ?_
        rw[kn,wc,Int.sub_self];rfl
      rw[lg]at e17
      rw[e17]at h;cases h
    rw[ab]
    refine w_an (show A.length<=1000000000000 by omega) (w_lv λx18 e18=>w_br (λh=>by rw[e18]at h;rw[so]at h;cases h) λ_=>w_br (λh=>by rw[wc,bne_self_eq_false]at h;cases h) λ_=> ?_)
    refine Q0h (zau GW (by omega)) λx19 e19=> ?_
    rw[le]at e19
    subst e19
    refine w_br (λ_=>Q0h (xan r.A0 (by have:=gr.len;omega)) λx20 e20=>w_br (λ_=>w_br (λ_=>aws rfl) λh=>by cases h) λh=>by rw[e20]at h;cases h) λh=>by cases h

import Derived.Test.YtmalmklaonainaaGreatReplayStopsLaws2
import Derived.Test.YtmalmklaonainaaGreatReplayStopsNewsB
import Derived.Test.YtmalmklaonainaaGreatReplayStopsZt
open Nat renaming lt_succ_self->cK, beq->bS, blt->bT, zero_le->aT, le_refl->aO, le_trans->bH, min_le_left->cX, le_of_eq->dI, pow_le_pow_right->dQ, and_le_left->dZ, pow_lt_pow_right->eA, and_le_right->eC, two_pow_pos->eF, two_pow_add_eq_or_of_lt->eJ, eq_of_testBit_eq->eK, testBit_mod_two_pow->eL, testBit->eM, zero_testBit->fC, testBit_and->fD, le_succ->fG
open List renaming getD_eq_getElem?_getD->cL, getElem?_eq_getElem->cG, getElem_mem->cM, replicate->cN, append->cO, mem_cons->cP, not_mem_nil->cQ, length_replicate->cR, length_take->bD, length_drop->bF, mem_of_mem_take->cU, mem_of_mem_drop->cV, length_singleton->cW, take->cY, drop->cZ, ext_getElem->bM, range->dA, set->dD, length_set->dE, length_cons->dF, length_nil->dG, length->dH, getD->aK, getElem?_take->aU, take_of_length_le->eY, drop_eq_getElem_cons->aB, foldl_cons->aD, drop_eq_nil_of_le->aA, append_assoc->fF, append_nil->cJ, nil_append->fH, pairwise_singleton->fI, suffix_refl->bW, mem_cons_self->fM
open Int renaming le_refl->cS, tmod->dB, toNat->dC, emod_eq_of_lt->dJ, pow_pos->dK, fdiv_eq_ediv_of_nonneg->dL, le_of_lt->dM, pow_add->dO, mul_le_mul_of_nonneg_right->dP, lt_of_lt_of_le->dR, lt_or_le->dT, toNat_natCast->eB, tmod_eq_emod_of_nonneg->eD, toNat_of_nonneg->eG, fdiv->eI, tdiv->eS, tdiv_eq_ediv_of_nonneg->eT, ediv_ediv_of_nonneg->eZ, mul_ediv_add_emod->fA, pow_succ->fB, sub_zero->fE, le_trans->fJ, le_of_eq->fK
open Bool renaming or_eq_true->aI, eq_iff_iff->eH, noConfusion->eX
open UInt8 renaming toNat_lt->dS, toNat->eU, ofNat->eV
open BitVec renaming ofInt->dU, toNat_ofInt->dV, toNat_or->dW, toNat_and->dX, getLsbD->eN, eq_of_toNat_eq->eO, ofInt_natCast->eQ, toNat_ofNat->eR
open Prod renaming ext->eW, snd->fL
set_option maxRecDepth 100000
set_option linter.all false
namespace Go.Proofs.YtmalmklaonainaaGreat
open Go Go.GD
open Go.IntKind(wrap i64 u32 u64 u8 wrap_i64 wrap_u32 wrap_u64 wrap_u8 wrap_i32)
theorem qG(i:Q0m):U (Q1q i).1:=by
 refine Tree.post (Qhd i) (W:=λr=>U r.1) ?_
 unfold Qhd
 exact w_lv λ_ _=>w_br (λ_=>U_0) (λ_=>U_or _ _)
theorem qd(l:List Int)(hl:l.length*8<=reachBytes):(Qid l).w (λr=>(r.length:Int)=l.length/\ ∀w∈r,U w):=by
 have hl':l.length*8<=140737488351232:=hl
 have app: ∀{r:List Int} {x:Int},(∀w∈r,U w)->U x-> ∀w∈r++[x],U w:=λhr hx w hw=>by
   rw[List.mem_append]at hw
   rcases hw with hw|hw
   . exact hr w hw
   . rw[List.mem_singleton.1 hw];exact hx
 unfold Qid
 refine w_lp (inv:=λz=>Qry l z/\ ∀w∈z.2,U w) (μ:=Qdl l) ⟨⟨by omega,by simp,by simp⟩,by simp⟩ (cK _) (λv0 hv=> ?_)
 obtain⟨⟨h1,h2,h3⟩,h4⟩:=hv
 refine w_br (λh=> ?_) (λh=> ?_)
 . have h:=oY h
   have next: ∀x:Int,U x->(Qry l (wrap i64 (v0.1+1),v0.2++[x])/\ ∀w∈v0.2++[x],U w)/\Qdl l (wrap i64 (v0.1+1),v0.2++[x])<Qdl l v0:=λx hx=>by
     have hw:i64.wrap (v0.1+1)=v0.1+1:=by rw[wrap_i64];omega
     rw[hw]
     refine⟨⟨⟨?_,?_,?_⟩,app h4 hx⟩,?_⟩
     . show 0<=v0.1+1;omega
     . show v0.1+1<=l.length;omega
     . show((v0.2++[x]).length:Int)=v0.1+1;simp;omega
     . show(l.length-(v0.1+1)).toNat<(l.length-v0.1).toNat;omega
   have hb:(bS 1 1&&bT 0 1&&decide (0<=v0.1/\v0.1<(l.length:Int)))=true:=by simp [bT];omega
   have hc:decide (4*(v0.2.length+1)<=140737488355328)=true:=dY (by omega)
   exact w_cn hb (w_br (λ_=>w_cn hb (w_cn hc (next _ (Q0u _)))) (λ_=>w_cn hb (w_an (yV _) (w_lv λx0 _=>w_lv λx1 hx=>w_cn hc (next _ (by rw[hx];exact qG _))))))
 . have h:=oN h
   exact⟨by show(v0.2.length:Int)=l.length;omega,h4⟩
theorem Qoh(steps:Int):0<=Q0n steps/\Q0n steps<=4000:=by
 refine Tree.post (Qdp steps) (W:=λr=>0<=r/\r<=4000) ?_
 unfold Qdp
 refine w_lf ?_
 constructor<;>(repeat' split)<;>omega
theorem Zf{P:Nat}{r:Q01}(h:okR P r)(steps:Int){clock:Int}(hc:U clock)(hl:r.B4.length<=900000)(hq:r.A6.length<=1000)(hu: ∀q∈r.A6,U q.N):
    (Q63 r steps clock).w (λx=>okR P x.1/\x.1.B4.length<=r.B4.length+r.A6.length+8000/\(x.1.A6=r.A6\/x.1.A6=[])/\x.2.length<=4000):=by
  unfold Q63
  refine Q0f (own_w h (by omega) (by omega)) λx0 hx=> ?_
  obtain⟨k1,k2,k3⟩:=hx
  refine w_lv λx1 _=>w_br (λ_=>⟨k1,by rw[k2];omega, .inl k3,aT _⟩) (λ_=> ?_)
  have hcl:U (if clock>x0.A3 then clock else x0.A3):=by split<;>first|exact hc|exact k1.clock
  refine w_lp (inv:=λz=>0<=z.1/\z.1<=r.A6.length/\okR P z.2/\(z.2.B4.length:Int)<=r.B4.length+z.1/\z.2.A6=r.A6) (μ:=Qcu r steps clock) ⟨by omega,by omega,⟨k1.m,hcl⟩,by rw[k2];omega,k3⟩ (cK _) (λz hz=> ?_)
  obtain⟨z1,z2,z3,z4,z5⟩:=hz
  refine w_br (λhb=> ?_) (λhb=> ?_)
  . have hb:=oY hb
    rw[z5]at hb
    have hm:(z.2.A6.getD z.1.toNat (RK.dflt RK.apiEvent))∈r.A6:=by
      rw[z5]
      have hlt:z.1.toNat<r.A6.length:=by omega
      rw[cL,cG hlt]
      exact cM hlt
    refine w_cn (by rw[z5];simp [bT];omega) (Q0f (zx z3 (hu _ hm) (by omega)) λx hx=>w_nx ?_)
    obtain⟨a1,a2,a3⟩:=hx
    show(0<=i64.wrap (z.1+1)/\i64.wrap (z.1+1)<=r.A6.length/\okR P x/\(x.B4.length:Int)<=r.B4.length+i64.wrap (z.1+1)/\x.A6=r.A6)/\(x.A6.length-i64.wrap (z.1+1)).toNat<(z.2.A6.length-z.1).toNat
    have ew:i64.wrap (z.1+1)=z.1+1:=by rw[wrap_i64];omega
    rw[ew,a3,z5]
    exact⟨⟨by omega,by omega,a1,by omega,rfl⟩,by omega⟩
  . refine w_lp (inv:=λy=>0<=y.1/\y.1<=4000/\okR P y.2.1/\(y.2.1.B4.length:Int)<=r.B4.length+r.A6.length+2*y.1/\y.2.1.A6=[]/\(y.2.2.length:Int)<=y.1) (μ:=Q5r r steps clock z) ⟨by omega,by omega,⟨z3.m,z3.clock⟩,by simp;omega,rfl,by simp⟩ (cK _) (λy hy=> ?_)
    obtain⟨y1,y2,y3,y4,y5,y6⟩:=hy
    have ew:i64.wrap (y.1+1)=y.1+1:=by rw[wrap_i64];omega
    refine w_lv λx3 hx3=>w_br (λhb=> ?_) (λ_=>⟨y3,by show y.2.1.B4.length<=_;omega, .inr y5,by show y.2.2.length<=_;omega⟩)
    have hb:=oY hb
    have lim:=(Qoh steps).2
    rw[<-hx3]at lim
    refine w_lv λx4 _=>w_br (λ_=>Q0f (zx (e:=⟨_,_,_⟩) y3 U_0 (by omega)) λx5 h5=> ?_) (λ_=> ?_)
    . obtain⟨q1,q2,q3⟩:=h5
      have q3:=q3.trans y5
      refine Q0f (Zjs _) λs1 _=>w_br (λ_=>⟨q1,by show x5.B4.length<=_;omega, .inr q3,by show y.2.2.length<=_;omega⟩) (λ_=>Q0f (Qz2 q1.m.cpu q1.m.mem) λs2 _=>w_br (λ_=>w_cn (dY (by omega)) (Q0f (Qtx (r:=⟨x5.A0,x5.A3,x5.B4++[_],x5.A6⟩) ⟨q1.m,q1.clock⟩ q1.clock) λo ho=> ?_)) (λ_=>Q0f (Qtx q1 q1.clock) λo ho=> ?_))
      . obtain⟨a1,⟨⟨a2,a3⟩,a4,a5⟩⟩:=ho
        have e4:o.2.B4.length=x5.B4.length+1:=by rw[a4];simp
        have a5:o.2.A6=[]:=a5.trans q3
        refine w_cn (dY (by omega)) (w_nx ?_)
        show(0<=i64.wrap (y.1+1)/\i64.wrap (y.1+1)<=4000/\okR P _/\(o.2.B4.length:Int)<=r.B4.length+r.A6.length+2*i64.wrap (y.1+1)/\o.2.A6=[]/\((y.2.2++o.1).length:Int)<=i64.wrap (y.1+1))/\(4000-i64.wrap (y.1+1)).toNat<(4000-y.1).toNat
        rw[ew,a5,lA]
        exact⟨⟨by omega,by omega,⟨a2,Q0u _⟩,by omega,rfl,by omega⟩,by omega⟩
      . obtain⟨a1,⟨⟨a2,a3⟩,a4,a5⟩⟩:=ho
        have e4:o.2.B4.length=x5.B4.length:=by rw[a4]
        have a5:o.2.A6=[]:=a5.trans q3
        refine w_cn (dY (by omega)) (w_nx ?_)
        show(0<=i64.wrap (y.1+1)/\i64.wrap (y.1+1)<=4000/\okR P _/\(o.2.B4.length:Int)<=r.B4.length+r.A6.length+2*i64.wrap (y.1+1)/\o.2.A6=[]/\((y.2.2++o.1).length:Int)<=i64.wrap (y.1+1))/\(4000-i64.wrap (y.1+1)).toNat<(4000-y.1).toNat
        rw[ew,a5,lA]
        exact⟨⟨by omega,by omega,⟨a2,Q0u _⟩,by omega,rfl,by omega⟩,by omega⟩
    . refine Q0f (Zjs _) λs1 _=>w_br (λ_=>⟨y3,by show y.2.1.B4.length<=_;omega, .inr y5,by show y.2.2.length<=_;omega⟩) (λ_=>Q0f (Qz2 y3.m.cpu y3.m.mem) λs2 _=>w_br (λ_=>w_cn (dY (by omega)) (Q0f (Qtx (r:=⟨y.2.1.A0,y.2.1.A3,y.2.1.B4++[_],y.2.1.A6⟩) ⟨y3.m,y3.clock⟩ y3.clock) λo ho=> ?_)) (λ_=>Q0f (Qtx y3 y3.clock) λo ho=> ?_))
      . obtain⟨a1,⟨⟨a2,a3⟩,a4,a5⟩⟩:=ho
        have e4:o.2.B4.length=y.2.1.B4.length+1:=by rw[a4];simp
        have a5:o.2.A6=[]:=a5.trans y5
        refine w_cn (dY (by omega)) (w_nx ?_)
        show(0<=i64.wrap (y.1+1)/\i64.wrap (y.1+1)<=4000/\okR P _/\(o.2.B4.length:Int)<=r.B4.length+r.A6.length+2*i64.wrap (y.1+1)/\o.2.A6=[]/\((y.2.2++o.1).length:Int)<=i64.wrap (y.1+1))/\(4000-i64.wrap (y.1+1)).toNat<(4000-y.1).toNat
        rw[ew,a5,lA]
        exact⟨⟨by omega,by omega,⟨a2,Q0u _⟩,by omega,rfl,by omega⟩,by omega⟩
      . obtain⟨a1,⟨⟨a2,a3⟩,a4,a5⟩⟩:=ho
        have e4:o.2.B4.length=y.2.1.B4.length:=by rw[a4]
        have a5:o.2.A6=[]:=a5.trans y5
        refine w_cn (dY (by omega)) (w_nx ?_)
        show(0<=i64.wrap (y.1+1)/\i64.wrap (y.1+1)<=4000/\okR P _/\(o.2.B4.length:Int)<=r.B4.length+r.A6.length+2*i64.wrap (y.1+1)/\o.2.A6=[]/\((y.2.2++o.1).length:Int)<=i64.wrap (y.1+1))/\(4000-i64.wrap (y.1+1)).toNat<(4000-y.1).toNat
        rw[ew,a5,lA]
        exact⟨⟨by omega,by omega,⟨a2,Q0u _⟩,by omega,rfl,by omega⟩,by omega⟩
section
variable {P:Nat} {m:Q00} (h:okM P m)
include h
theorem min_w(port:Int){clock:Int}(hc:U clock):(Qlo m port clock).w (λx=>U x.1/\okM P x.2/\x.2.A1=m.A1):=by
 have k:=(⟨h,rfl⟩:okM P m/\m.A1=m.A1)
 obtain⟨h1,h2,h3,h4,h5,h7⟩:=h
 unfold Qlo
 exact w_br (λ_=>w_lv λx hx=>⟨hx▸Z45 _ _,⟨⟨h1,h2,h3,h4,h5,h7⟩,rfl⟩⟩) (λ_=>w_br (λ_=>⟨hc,k⟩) (λ_=>w_br (λ_=>w_lv λx hx=>⟨hx▸Zga _,k⟩) (λ_=>w_br (λ_=>w_lv λx hx=>⟨hx▸Zm8 h3 _,k⟩) (λ_=>w_br (λ_=>w_lv λx hx=>⟨hx▸xx h4 _,k⟩) (λ_=>w_lv λx hx=>⟨hx▸Z4y h5.1 _,k⟩)))))
theorem xaC(port:Int){v:Int}(hv:U v):(Qfe m port v).w (λx=>x.1.length<=1/\okM P x.2/\x.2.A1=m.A1):=by
 have k:=(⟨h,rfl⟩:okM P m/\m.A1=m.A1)
 obtain⟨h1,h2,h3,h4,h5,h7⟩:=h
 unfold Qfe
 exact w_br (λ_=>⟨aO _,k⟩) (λ_=>w_br (λ_=>⟨aT _,k⟩) (λ_=>w_br (λ_=>w_lv λ_ _=>⟨aT _,⟨⟨h1,h2,h3,h4,h5,h7⟩,rfl⟩⟩) (λ_=>w_br (λ_=>Q0f (Zg5 h2 h3 _ hv _) λx hx=>⟨hx.2,⟨⟨h1,h2,hx.1,h4,h5,h7⟩,rfl⟩⟩) (λ_=>w_br (λ_=>Q0f (Zlt h2 h4 _ hv _) λx hx=>⟨hx.2,⟨⟨h1,h2,h3,hx.1,h5,h7⟩,rfl⟩⟩) (λ_=>Q0f (v8 h2 h5 _ hv) λx hx=>⟨aT _,⟨⟨h1,hx.2,h3,h4,hx.1,h7⟩,rfl⟩⟩)))))
theorem Qxn{clock:Int}(hc:U clock):(Q9 m clock).w (λx=>x.1.length<=1/\okM P x.2/\x.2.A1=wrap .u64 (m.A1+1)):=by
 obtain⟨h1,h2,h3,h4,h5,h7⟩:=h
 unfold Q9
 refine Q0f (Qmh h1) λx0 c0=>Q0f (do_w c0 h2) λx1 hx=> ?_
 obtain⟨c1,v1,m1⟩:=hx
 refine w_br (λ_=>Zdo (min_w (m:=⟨_,_,_,_,_,_,_,_,_,_⟩) ⟨c1,m1,h3,h4,h5,h7⟩ _ hc) λx2 hx=> ?_) (λ_=>w_br (λ_=>Q0f (xaC (m:=⟨_,_,_,_,_,_,_,_,_,_⟩) ⟨c1,m1,h3,h4,h5,h7⟩ _ v1) λx4 hx=> ?_) (λ_=> ?_))
 . obtain⟨u,⟨k1,k2,k3,k4,k5,k7⟩,k6⟩:=hx
   exact Q0f (Z5x k1 _ u) λx3 h3=>⟨aT _,⟨h3,k2,k3,k4,k5,w0 _⟩,congrArg (λn=>wrap .u64 (n+1)) k6⟩
 . obtain⟨u,⟨k1,k2,k3,k4,k5,k7⟩,k6⟩:=hx
   exact⟨u,⟨k1,k2,k3,k4,k5,w0 _⟩,congrArg (λn=>wrap .u64 (n+1)) k6⟩
 . repeat'(first
     |exact⟨aT _,⟨c1,m1,h3,h4,h5,w0 _⟩,rfl⟩
     |refine w_br (λ_=> ?_) (λ_=> ?_))
theorem xd:(Qdb m).w (λx=>okM P x/\x.A1=m.A1):=by
 obtain⟨h1,h2,h3,h4,h5,h7⟩:=h
 unfold Qdb
 exact Q0f (y7 h2) λx hx=>⟨⟨h1,by rw[hx];exact h2,h3,h4,h5,h7⟩,rfl⟩
end
theorem U_all(n:Nat): ∀w∈cN n (0:Int),U w:=λw hw=>by rw[(List.mem_replicate.1 hw).2];exact U_0
theorem qae:okM 0 ⟨⟨⟨0,0,0,0,0,0,0,0,0,0,0,0,0,0,0,0⟩,0,⟨0,0,0,0,0,0,0,0⟩⟩,[],⟨[]⟩,⟨false,0,false⟩,⟨0,0,0,0,0,0,0,[]⟩,⟨0,0,false,0,false,0⟩,⟨0,0⟩,0,false,false⟩:=
 ⟨⟨U_all 16,U_0,U_all 8⟩,⟨rfl,by omega,by omega,λw hw=>by cases hw⟩,⟨U_0,U_0,U_0,U_0⟩,⟨U_0,U_0,U_0,U_0⟩,⟨U_0,U_0⟩,by decide⟩
theorem Zmv{P:Nat}{m:Q00}(h:okM P m)(hc:0<=m.A1):(Q9w m [] 87).w (λx=> ∃Q,okM Q x.1):=by
 have z: ∃Q,okM Q _:=⟨0,qae⟩
 unfold Q9w
 refine w_lv λx0 _=>w_br (λ_=>z) λ_=>w_br (λ_=>z) λ_=>w_br (λ_=>z) λ_=>w_an (show Q6b [] by show([]:List Q0c).length<=1000000000000;decide) (w_lv λx1 _=>w_br (λ_=>z) λ_=>Q0f (xd h) λx2 hx=> ?_)
 refine w_lp (inv:=λv:Q00×List Q03=>okM P v.1/\0<=v.1.A1/\v.2.length+(87-v.1.A1).toNat<=87) (μ:=Qgp m [] 87) ⟨hx.1,by rw[hx.2];exact hc,by rw[hx.2];show 0+_<=87;omega⟩ (cK _) λv0 ⟨a1,a2,a3⟩=> ?_
 refine w_br (λhb=>w_br (λ_=> ?_) (λ_=>⟨P,a1⟩)) (λ_=>⟨P,a1⟩)
 have hb:=oY hb
 refine w_lp (inv:=λ_=>True) (μ:=Qh1 m [] 87 v0) trivial (cK _) λv1 _=> ?_
 refine w_br (λ_=>⟨P,a1⟩) λ_=>Q0f (qx _) λx3 _=>w_br (λ_=>⟨P,a1⟩) λ_=>Q0f (Zd1 a1.cpu a1.mem) λx4 _=>w_br (λ_=>z) λ_=>Q0f (Qxn a1 U_0) λx5 h5=> ?_
 obtain⟨b1,b2,b3⟩:=h5
 refine w_cn (dY (by omega)) (w_nx ?_)
 have e:x5.2.A1=v0.1.A1+1:=by rw[b3,wrap_u64];omega
 show(_/\_/\_)/\(_:Nat)<_
 refine⟨⟨b2,by show 0<=x5.2.A1;omega,by show(v0.2++x5.1).length+(87-x5.2.A1).toNat<=87;rw[lA];omega⟩,by show(87-x5.2.A1).toNat<(87-v0.1.A1).toNat;omega⟩
set_option synthInstance.maxHeartbeats 2000000
set_option synthInstance.maxSize 100000
noncomputable section
instance xG (src:List UInt8):Ck (Qks src):=ckT (t:=Qfz src) (by delta Qfz;infer_instance)
instance vB (s:List UInt8):Ck (Qig s):=ckT (t:=Qdy s) (by delta Qdy;infer_instance)
instance qC (n:Int):Ck (Q3g n):=let d:Decidable (Q3g n):=(by delta Q3g;infer_instance);⟨@decide _ d,@oY _ d⟩
instance zd (n:Int):Ck (Qgt n):=ckT (t:=Q72 n) (by delta Q72;infer_instance)
instance zae (r:Int):Ck (Qoe r):=ckT (t:=Qey r) (by delta Qey;infer_instance)
instance vW (s:List UInt8):Ck (Qho s):=ckT (t:=Qio s) (by delta Qio;infer_instance)
instance Zpz (op:Int):Ck (Qf7 op):=ckT (t:=Q9y op) (by delta Q9y;infer_instance)
instance Znr (s:List UInt8):Ck (Q3b s):=ckT (t:=Q8m s) (by delta Q8m;infer_instance)
instance yd (what:List UInt8):Ck (Q6e what):=ckT (t:=Qbs what) (by delta Qbs;infer_instance)
instance xC (s:List UInt8):Ck (Qiv s):=ckT (t:=Qe5 s) (by delta Qe5;infer_instance)
instance vd (l:List Q0k) (p:List UInt8):Ck (Q6d l p):=ckT (t:=Qbv l p) (by delta Qbv;infer_instance)
instance zC (s:List UInt8):Ck (Qjp s):=ckT (t:=Qds s) (by delta Qds;infer_instance)
instance qe (l:List Q28) (label:List UInt8):Ck (Q3o l label):=let d:Decidable (Q3o l label):=(by delta Q3o;infer_instance);⟨@decide _ d,@oY _ d⟩
instance qX (src:List UInt8):Ck (Qmz src):=ckT (t:=Qi5 src) (by delta Qi5;infer_instance)
instance xX (st:Q0b) (v:Int):Ck (Qax st v):=ckT (t:=Qiq st v) (by delta Qiq;infer_instance)
instance Zpy (src:List UInt8):Ck (Qar src):=ckT (t:=Q9s src) (by delta Q9s;infer_instance)
theorem xae:Qar ((108:UInt8)::(tblZe0++Z96++(Z9d++Z85)++(Z8w++Z88++(Z94++Z92))++(Z98++Z9a++(Qxr++Qxe)++(Qxw++Qvt++(Qwo++Qwu))))):=ck inferInstance (by kernel_rfl)
def inU(x:Int):Bool:=decide (0<=x)&&decide (x<4294967296)
theorem qaf(l:List Int)(h:(Nat.ble l.length 160&&List.all l inU)=true):l.length<=160/\ ∀w∈l,U w:=by
 rw[aE]at h
 refine⟨lE h.1,λw hw=> ?_⟩
 have:=List.all_eq_true.1 h.2 w hw
 simp only[inU,aE,decide_eq_true_eq]at this
 exact this
theorem xe:(Q1h (cO (cO (cO (cO Zbm Z96) (cO Z9d Z85)) (cO (cO Z8w Z88) (cO Z94 Z92))) (cO (cO (cO Z98 Z9a) (cO Qxr Qxe)) (cO (cO Qxw Qvt) (cO Qwo Qwu))))).1.length<=160/\ ∀w∈(Q1h (cO (cO (cO (cO Zbm Z96) (cO Z9d Z85)) (cO (cO Z8w Z88) (cO Z94 Z92))) (cO (cO (cO Z98 Z9a) (cO Qxr Qxe)) (cO (cO Qxw Qvt) (cO Qwo Qwu))))).1,U w:=qaf _ (by kernel_rfl)
end
theorem new_w(i:List Int)(hu: ∀w∈i,U w)(hl:i.length<=256):(Q8s 8 4 i).w (λx=>okM 8 x.1/\x.1.A1=0):=by
 unfold Q8s
 refine w_br (λh=>absurd h (by decide)) λ_=>w_br (λh=>absurd h (by decide)) λ_=>w_br (λh=>absurd h (by decide)) λ_=>w_br (λh=>absurd h (by decide)) λ_=>w_br (λh=> ?_) λ_=>w_lv λx0 e0=>w_an (Zdh _) (w_lv λx1 e1=> ?_)
 . have h:=oY h
   rw[show i64.wrap (8*32)=256 by decide]at h
   omega
 have hx:x1=cN 256 0:=by rw[e1];kernel_rfl
 have c0:Q2j x0:=by rw[e0];exact⟨by
   intro w hw
   simp only[Qq3,Qkk,Tree.m,A16.l,cP,cQ,or_false,or_self]at hw
   rw[hw];exact U_0,U_0,by
   intro w hw
   simp only[Qq3,Qkk,Tree.m,A8.l,cP,cQ,or_false,or_self]at hw
   rcases hw with rfl|rfl
   . exact⟨by omega,by omega⟩
   . exact U_0⟩
 have hz: ∀w∈x1,U w:=by rw[hx];exact U_all 256
 have hn:x1.length=256:=by rw[hx,cR]
 refine⟨⟨c0,⟨?_,by omega,by omega,λw hw=> ?_⟩,⟨U_0,U_0,U_0,U_0⟩,⟨U_0,U_0,U_0,U_0⟩,⟨U_0,U_0⟩,cS _⟩,rfl⟩
 . simp only[lA,bD,bF,hn];omega
 . rcases List.mem_append.1 hw with h1|h1
   . exact hu w (cU h1)
   . exact hz w (cV h1)
theorem ye(kind:Int)(l:List Int)(hl:l.length*8<=reachBytes):(Q71 kind l).w (λx=> ∃Q,okM Q x):=by
  have hl':l.length*8<=140737488351232:=hl
  unfold Q71
  refine w_an (Qe0 (by decide)) (w_lv λx0 _=>w_br (λ_=>w_an xae (w_lv λx1 e1=> ?_)) (λ_=> ?_))
  . obtain⟨q1,q2⟩:x1.1.length<=160/\ ∀w∈x1.1,U w:=by rw[e1];exact xe
    refine w_lp (inv:=λv:List Int=>v.length<=160/\ ∀w∈v,U w) (μ:=Qdu kind l) ⟨q1,q2⟩ (cK _) λv0 ⟨a1,a2⟩=> ?_
    refine w_br (λhb=> ?_) (λ_=> ?_)
    . have hb:=oY hb
      refine w_cn (dY (by omega)) (w_nx ?_)
      show(_/\_)/\(_:Nat)<_
      refine⟨⟨by rw[lA,cW];omega,λw hw=> ?_⟩,by show 160-(v0++[0]).length<160-v0.length;rw[lA,cW];omega⟩
      rcases List.mem_append.1 hw with h1|h1
      . exact a2 w h1
      . rw[List.mem_singleton.1 h1];exact U_0
    . refine Q0f (qd l hl) λx2 ⟨b1,b2⟩=>w_cn (dY (by omega)) ?_
      have hu: ∀w∈v0++x2,U w:=λw hw=>(List.mem_append.1 hw).elim (a2 w) (b2 w)
      refine w_br (λhb=> ?_) (λhb=> ?_)
      . have hb:=oY hb
        refine w_cn (by simp [bT];rw[lA]at hb;omega) (Q0f (new_w _ (λw hw=>hu w (cV (cU hw))) (by rw[bD];exact bH (cX _ _) (by decide))) λx3 ⟨c1,c2⟩=>w_br (λ_=>Q0f (Zmv c1 (by omega)) λx4 hx=>hx) (λ_=>⟨8,c1⟩))
      . have hb:=oN hb
        exact Q0f (new_w _ hu (by omega)) λx3 ⟨c1,c2⟩=>w_br (λ_=>Q0f (Zmv c1 (by omega)) λx4 hx=>hx) (λ_=>⟨8,c1⟩)
  . refine Q0f (qd l hl) λx2 ⟨b1,b2⟩=>w_cn (dY (by omega)) ?_
    refine w_br (λhb=> ?_) (λhb=> ?_)
    . have hb:=oY hb
      refine w_cn (by simp [bT];omega) (Q0f (new_w _ (λw hw=>b2 w (cV (cU hw))) (by rw[bD];exact bH (cX _ _) (by decide))) λx3 ⟨c1,c2⟩=>w_br (λ_=>Q0f (Zmv c1 (by omega)) λx4 hx=>hx) (λ_=>⟨8,c1⟩))
    . have hb:=oN hb
      exact Q0f (new_w _ b2 (by omega)) λx3 ⟨c1,c2⟩=>w_br (λ_=>Q0f (Zmv c1 (by omega)) λx4 hx=>hx) (λ_=>⟨8,c1⟩)
theorem qaD{P:Nat}{r:Q01}(h:okR P r)(n:Int)(hl:r.B4.length<=900000)(hq:r.A6.length<=16)(hu: ∀q∈r.A6,U q.N):
   (Q89 r n).w (λx=>okR P x.1/\x.1.B4.length<=r.B4.length+8016/\(x.1.A6.length<=16/\ ∀q∈x.1.A6,U q.N)/\x.2.length<=4000):=by
 unfold Q89
 refine w_lv λx0 _=>w_br (λ_=>Q0f (Zke n) λe he=>Q0f (zV h e (by omega) hq hu he) λx hx=> ?_) (λ_=>w_an (Qe0 (by decide)) (w_lv λx3 _=>Q0f (Zf h _ (Q0u _) hl (by omega) hu) λx hx=> ?_))
 . obtain⟨a1,a2,a3,a4⟩:=hx
   exact⟨a1,by rw[a2];omega,⟨a3,a4⟩,aT _⟩
 . obtain⟨a1,a2,a3,a4⟩:=hx
   refine⟨a1,by show x.1.B4.length<=_;omega,?_,a4⟩
   rcases a3 with a3|a3
   . rw[a3];exact⟨hq,hu⟩
   . rw[a3];exact⟨aT _,λq hq=>by cases hq⟩
theorem zaD{P:Nat}{m:Q00}(h:okM P m)(l:List Int)(hl:l.length<=30):(Qce m l).w (λx=>okR P x.1):=by
 unfold Qce
 have nr:(Q3x m).w (λx=>okR P x/\x.B4=[]/\x.A6=[]):=by
   unfold Q3x
   exact Q0f (xd h) λx hx=>⟨⟨hx.1,U_0⟩,rfl,rfl⟩
 refine Q0f nr λx0 ⟨n1,n2,n3⟩=> ?_
 refine w_lp (inv:=λv:Int×Q01×List Q03=>0<=v.1/\v.1<=l.length/\okR P v.2.1/\(v.2.1.B4.length:Int)<=8016*v.1/\(v.2.1.A6.length<=16/\ ∀q∈v.2.1.A6,U q.N)/\(v.2.2.length:Int)<=4000*v.1) (μ:=Qjn m l) ⟨cS _,by show(0:Int)<=l.length;omega,n1,by rw[n2];exact cS _,by rw[n3];exact⟨aT _,λq hq=>by cases hq⟩,cS _⟩ (cK _) λv0 ⟨a1,a2,a3,a4,⟨a5,a6⟩,a7⟩=> ?_
 refine w_br (λhb=> ?_) (λ_=>a3)
 have hb:=oY hb
 refine w_cn (by simp [bT];omega) (Q0f (qaD a3 _ (by omega) a5 a6) λx1 ⟨b1,b2,b3,b4⟩=>w_cn (dY (by omega)) (w_nx ?_))
 have e:i64.wrap (v0.1+1)=v0.1+1:=by rw[wrap_i64];omega
 show(_/\_/\_/\_/\_/\_)/\(_:Nat)<_
 refine⟨⟨by rw[e];omega,by rw[e];omega,b1,by rw[e];show(x1.1.B4.length:Int)<=_;omega,b3,by rw[e,lA];omega⟩,by show(l.length-i64.wrap (v0.1+1)).toNat<(l.length-v0.1).toNat;rw[e];omega⟩
noncomputable section
def boot:List Int:=(Q1h (cO (cO (cO (cO Zbm Z96) (cO Z9d Z85)) (cO (cO Z8w Z88) (cO Z94 Z92))) (cO (cO (cO Z98 Z9a) (cO Qxr Qxe)) (cO (cO Qxw Qvt) (cO Qwo Qwu))))).1
def Qkz:List Int:=boot++cN (160-boot.length) 0
theorem run87(t0 t1 t2 t3 t4 t5 t6 t7 t8 t9 t10 t11 t12 t13 t14 t15 t16 t17 t18 t19 t20 t21 t22 t23 t24 t25 t26 t27 t28 t29 t30 t31 t32 t33 t34 t35 t36 t37 t38 t39 t40 t41 t42 t43 t44 t45 t46 t47 t48 t49 t50 t51 t52 t53 t54 t55 t56 t57 t58 t59 t60 t61 t62 t63 t64 t65 t66 t67 t68 t69 t70 t71 t72 t73 t74 t75 t76 t77 t78 t79 t80 t81 t82 t83 t84 t85 t86 t87 t88 t89 t90 t91 t92 t93 t94 t95:Int):(Qev (Q1x 8 4 (Qkz++[t0,t1,t2,t3,t4,t5,t6,t7,t8,t9,t10,t11,t12,t13,t14,t15,t16,t17,t18,t19,t20,t21,t22,t23,t24,t25,t26,t27,t28,t29,t30,t31,t32,t33,t34,t35,t36,t37,t38,t39,t40,t41,t42,t43,t44,t45,t46,t47,t48,t49,t50,t51,t52,t53,t54,t55,t56,t57,t58,t59,t60,t61,t62,t63,t64,t65,t66,t67,t68,t69,t70,t71,t72,t73,t74,t75,t76,t77,t78,t79,t80,t81,t82,t83,t84,t85,t86,t87,t88,t89,t90,t91,t92,t93,t94,t95])).1 [] 87).2.2.2=0:=by kernel_rfl
end
attribute [local irreducible] Q1h
theorem zaf(i j:List Int)(hi:i.length<=256)(hj:j.length<=256)(e:i++cN (256-i.length) 0=j++cN (256-j.length) 0):Q1x 8 4 i=Q1x 8 4 j:=by
 have w:i64.wrap (8*32)=256:=by decide
 have m:Qt4 8=cN 256 0:=by kernel_rfl
 have d: ∀k:List Int,k.length<=256->decide ((k.length:Int)>256)=false:=λk h=>dN (by omega)
 have mem: ∀k:List Int,k.length<=256->cY (min k.length (cN 256 (0:Int)).length) k++cZ (min k.length (cN 256 (0:Int)).length) (cN 256 0)=k++cN (256-k.length) 0:=λk h=>by
   rw[cR,Nat.min_eq_left h,List.take_length,List.drop_replicate]
 have r:Qt4 8=cN 256 0:=by kernel_rfl
 simp only[Q1x,Q8s,Tree.m,w,letv,r,d i hi,d j hj]
 simp only[mem i hi,mem j hj,e]
theorem list96(t:List Int)(ht:t.length=96):t=[t.getD 0 0,t.getD 1 0,t.getD 2 0,t.getD 3 0,t.getD 4 0,t.getD 5 0,t.getD 6 0,t.getD 7 0,t.getD 8 0,t.getD 9 0,t.getD 10 0,t.getD 11 0,t.getD 12 0,t.getD 13 0,t.getD 14 0,t.getD 15 0,t.getD 16 0,t.getD 17 0,t.getD 18 0,t.getD 19 0,t.getD 20 0,t.getD 21 0,t.getD 22 0,t.getD 23 0,t.getD 24 0,t.getD 25 0,t.getD 26 0,t.getD 27 0,t.getD 28 0,t.getD 29 0,t.getD 30 0,t.getD 31 0,t.getD 32 0,t.getD 33 0,t.getD 34 0,t.getD 35 0,t.getD 36 0,t.getD 37 0,t.getD 38 0,t.getD 39 0,t.getD 40 0,t.getD 41 0,t.getD 42 0,t.getD 43 0,t.getD 44 0,t.getD 45 0,t.getD 46 0,t.getD 47 0,t.getD 48 0,t.getD 49 0,t.getD 50 0,t.getD 51 0,t.getD 52 0,t.getD 53 0,t.getD 54 0,t.getD 55 0,t.getD 56 0,t.getD 57 0,t.getD 58 0,t.getD 59 0,t.getD 60 0,t.getD 61 0,t.getD 62 0,t.getD 63 0,t.getD 64 0,t.getD 65 0,t.getD 66 0,t.getD 67 0,t.getD 68 0,t.getD 69 0,t.getD 70 0,t.getD 71 0,t.getD 72 0,t.getD 73 0,t.getD 74 0,t.getD 75 0,t.getD 76 0,t.getD 77 0,t.getD 78 0,t.getD 79 0,t.getD 80 0,t.getD 81 0,t.getD 82 0,t.getD 83 0,t.getD 84 0,t.getD 85 0,t.getD 86 0,t.getD 87 0,t.getD 88 0,t.getD 89 0,t.getD 90 0,t.getD 91 0,t.getD 92 0,t.getD 93 0,t.getD 94 0,t.getD 95 0]:=by
 apply bM
 . rw[ht];rfl
 . intro i h1 h2
   have e: ∀j (hj:j<96),[t.getD 0 0,t.getD 1 0,t.getD 2 0,t.getD 3 0,t.getD 4 0,t.getD 5 0,t.getD 6 0,t.getD 7 0,t.getD 8 0,t.getD 9 0,t.getD 10 0,t.getD 11 0,t.getD 12 0,t.getD 13 0,t.getD 14 0,t.getD 15 0,t.getD 16 0,t.getD 17 0,t.getD 18 0,t.getD 19 0,t.getD 20 0,t.getD 21 0,t.getD 22 0,t.getD 23 0,t.getD 24 0,t.getD 25 0,t.getD 26 0,t.getD 27 0,t.getD 28 0,t.getD 29 0,t.getD 30 0,t.getD 31 0,t.getD 32 0,t.getD 33 0,t.getD 34 0,t.getD 35 0,t.getD 36 0,t.getD 37 0,t.getD 38 0,t.getD 39 0,t.getD 40 0,t.getD 41 0,t.getD 42 0,t.getD 43 0,t.getD 44 0,t.getD 45 0,t.getD 46 0,t.getD 47 0,t.getD 48 0,t.getD 49 0,t.getD 50 0,t.getD 51 0,t.getD 52 0,t.getD 53 0,t.getD 54 0,t.getD 55 0,t.getD 56 0,t.getD 57 0,t.getD 58 0,t.getD 59 0,t.getD 60 0,t.getD 61 0,t.getD 62 0,t.getD 63 0,t.getD 64 0,t.getD 65 0,t.getD 66 0,t.getD 67 0,t.getD 68 0,t.getD 69 0,t.getD 70 0,t.getD 71 0,t.getD 72 0,t.getD 73 0,t.getD 74 0,t.getD 75 0,t.getD 76 0,t.getD 77 0,t.getD 78 0,t.getD 79 0,t.getD 80 0,t.getD 81 0,t.getD 82 0,t.getD 83 0,t.getD 84 0,t.getD 85 0,t.getD 86 0,t.getD 87 0,t.getD 88 0,t.getD 89 0,t.getD 90 0,t.getD 91 0,t.getD 92 0,t.getD 93 0,t.getD 94 0,t.getD 95 0][j]'hj=t.getD j 0:=by
     intro j hj
     have:[t.getD 0 0,t.getD 1 0,t.getD 2 0,t.getD 3 0,t.getD 4 0,t.getD 5 0,t.getD 6 0,t.getD 7 0,t.getD 8 0,t.getD 9 0,t.getD 10 0,t.getD 11 0,t.getD 12 0,t.getD 13 0,t.getD 14 0,t.getD 15 0,t.getD 16 0,t.getD 17 0,t.getD 18 0,t.getD 19 0,t.getD 20 0,t.getD 21 0,t.getD 22 0,t.getD 23 0,t.getD 24 0,t.getD 25 0,t.getD 26 0,t.getD 27 0,t.getD 28 0,t.getD 29 0,t.getD 30 0,t.getD 31 0,t.getD 32 0,t.getD 33 0,t.getD 34 0,t.getD 35 0,t.getD 36 0,t.getD 37 0,t.getD 38 0,t.getD 39 0,t.getD 40 0,t.getD 41 0,t.getD 42 0,t.getD 43 0,t.getD 44 0,t.getD 45 0,t.getD 46 0,t.getD 47 0,t.getD 48 0,t.getD 49 0,t.getD 50 0,t.getD 51 0,t.getD 52 0,t.getD 53 0,t.getD 54 0,t.getD 55 0,t.getD 56 0,t.getD 57 0,t.getD 58 0,t.getD 59 0,t.getD 60 0,t.getD 61 0,t.getD 62 0,t.getD 63 0,t.getD 64 0,t.getD 65 0,t.getD 66 0,t.getD 67 0,t.getD 68 0,t.getD 69 0,t.getD 70 0,t.getD 71 0,t.getD 72 0,t.getD 73 0,t.getD 74 0,t.getD 75 0,t.getD 76 0,t.getD 77 0,t.getD 78 0,t.getD 79 0,t.getD 80 0,t.getD 81 0,t.getD 82 0,t.getD 83 0,t.getD 84 0,t.getD 85 0,t.getD 86 0,t.getD 87 0,t.getD 88 0,t.getD 89 0,t.getD 90 0,t.getD 91 0,t.getD 92 0,t.getD 93 0,t.getD 94 0,t.getD 95 0]=(dA 96).map (λk=>t.getD k 0):=rfl
     simp only[this,List.getElem_map,List.getElem_range]
   rw[e i (by omega),cL,cG h1]
   rfl
theorem xaD(t:List Int)(ht:t.length=96):(Qev (Q1x 8 4 (Qkz++t)).1 [] 87).2.2.2=0:=by
 rw[list96 t ht]
 exact run87 _ _ _ _ _ _ _ _ _ _ _ _ _ _ _ _ _ _ _ _ _ _ _ _ _ _ _ _ _ _ _ _ _ _ _ _ _ _ _ _ _ _ _ _ _ _ _ _ _ _ _ _ _ _ _ _ _ _ _ _ _ _ _ _ _ _ _ _ _ _ _ _ _ _ _ _ _ _ _ _ _ _ _ _ _ _ _ _ _ _ _ _ _ _ _ _
theorem xaf:Qkz.length=160:=by
 have h:boot.length<=160:=xe.1
 unfold Qkz
 rw[lA,cR];omega
def out(f:Int)(m m':List Int):Prop:= ∀j:Nat,¬(f*32<=j/\(j:Int)<f*32+32)->m'.getD j 0=m.getD j 0
theorem Qq0(f:Int)(m:List Int):out f m m:=λ_ _=>rfl
theorem getDset(l:List Int)(i j:Nat)(v:Int)(h:i≠j):(l.set i v).getD j 0=l.getD j 0:=by
 simp only[cL,List.getElem?_set_ne h]
theorem Q3u{P:Nat}{m:List Int}(h:Q15 P m):Q0z m=P:=by
 obtain⟨h1,h2,h3,_⟩:=h
 simp only[Q0z,Q94,Tree.m]
 have e:(m.length:Int)=32*P:=by omega
 rw[e]
 have e1:(dB (32*(P:Int)) 32 !=0)=false:=by simp [Int.mul_tmod_right]
 have e2:decide ((32*(P:Int))>1024)=false:=dN (by omega)
 rw[e1,e2]
 simp only[cond_false]
 rw[Int.mul_tdiv_cancel_left _ (by decide),wrap_i64];omega
theorem zX{P:Nat}{m:List Int}(h:Q15 P m)(f:Int):Q5h m f=true->0<=f/\f<P:=by
 have hp:=Q3u h
 simp only[Q5h,Q8n,Tree.m,letv,hp]
 cases h1:decide (f>=0)
 . intro h;cases h
 . intro h;exact⟨oY h1,oY h⟩
theorem Z4k{P:Nat}{m:List Int}(h:Q15 P m)(f:Int)(s:List UInt8):(Q3l m f s).w (λr=>Q15 P r.1/\out f m r.1/\(r.2=false->r.1=m)):=by
 have hcl:Q04 m=m:=rfl
 have h2:=h.p2
 unfold Q3l
 refine w_an (Q9n h) (w_lv λx0 hx0=>w_lv λx1 hx1=> ?_)
 rw[hcl]at hx0;subst hx0
 refine w_br (λ_=>⟨h,Qq0 _ _,λ_=>rfl⟩) λhb=>w_br (λ_=>⟨h,Qq0 _ _,λ_=>rfl⟩) λhs=> ?_
 have hb:x1=true:=by simpa using hb
 obtain⟨f0,f1⟩:=zX h f (hx1.symm.trans hb)
 have hs:(s.length:Int)=128:=by simpa using hs
 refine w_lp (inv:=λz:Int×List Int=>0<=z.1/\z.1<=32/\Q15 P z.2/\out f x0 z.2) (μ:=Qbd x0 f s) ⟨show(0:Int)<=0 by decide,show(0:Int)<=32 by decide,h,Qq0 _ _⟩ (cK _) λz ⟨z1,z2,z3,z4⟩=> ?_
 refine w_br (λhb=> ?_) (λ_=>⟨z3,z4,λh=>by cases h⟩)
 have hb:=oY hb
 have e1:i64.wrap (4*z.1)=4*z.1:=by rw[wrap_i64];omega
 have e2:i64.wrap (i64.wrap (4*z.1)+4)=4*z.1+4:=by rw[wrap_i64,wrap_i64];omega
 have e3:i64.wrap (i64.wrap (f*32)+z.1)=f*32+z.1:=by rw[wrap_i64,wrap_i64];omega
 have hl:=z3.len
 have hlen:(cY (dC (i64.wrap (i64.wrap (4*z.1)+4))-dC (i64.wrap (4*z.1))) (cZ (dC (i64.wrap (4*z.1))) s)).length=4:=by
   rw[e2,e1,bD,bF];omega
 refine w_cn (dY (by rw[e2,e1];omega)) ?_
 refine w_cn (dY (by rw[hlen];decide)) (w_cn (dY (by rw[hlen];decide)) (w_cn (dY (by rw[hlen];decide)) (w_cn (dY (by rw[hlen];decide)) (w_cn (by rw[e3];simp [bT];omega) (w_nx ?_)))))
 show(_/\_/\Q15 P (dD _ _ _)/\out f x0 (dD _ _ _))/\(_:Nat)<_
 have ew:i64.wrap (z.1+1)=z.1+1:=by rw[wrap_i64];omega
 rw[e3]
 refine⟨⟨by rw[ew];omega,by rw[ew];omega,⟨by rw[dE];exact hl,z3.p1,z3.p2,Z78 z3.u (U_or _ _) _⟩,λj hj=> ?_⟩,by show(32-i64.wrap (z.1+1)).toNat<(32-z.1).toNat;rw[ew];omega⟩
 rw[getDset _ _ _ _ (by omega)]
 exact z4 j hj
theorem qaE(w:List Int)(h:w.length<=32):(Q57 w).w (λr=>r.length=4*w.length):=by
 have e0:i64.wrap (4*(w.length:Int))=4*w.length:=by rw[wrap_i64];omega
 unfold Q57
 refine w_cn (by rw[e0];simp [bT,D.plain];omega) ?_
 refine w_lp (inv:=λz:Int×List Int=>0<=z.1/\z.1<=w.length/\(z.2.length:Int)=4*z.1) (μ:=Q7s w) ⟨by decide,by show(0:Int)<=w.length;omega,rfl⟩ (cK _) λz ⟨z1,z2,z3⟩=> ?_
 refine w_br (λhb=> ?_) (λhb=> ?_)
 . have hb:=oY hb
   have ew:i64.wrap (z.1+1)=z.1+1:=by rw[wrap_i64];omega
   refine w_cn (by simp [bT];omega) (w_cn (dY (by omega)) (w_nx ?_))
   show(_/\_/\_)/\(_:Nat)<_
   refine⟨⟨by rw[ew];omega,by rw[ew];omega,by rw[ew,lA];simp only[dF,dG];omega⟩,by show(w.length-i64.wrap (z.1+1)).toNat<(w.length-z.1).toNat;rw[ew];omega⟩
 . have hb:=oN hb
   show(bytesOf z.2).length=_
   rw[Qiz];omega
theorem Zjx{P:Nat}{m:List Int}(h:Q15 P m)(f:Int):(Q6u m f).w (λr=>0<=f->f<P->r.1.length=128):=by
 have hl:=h.len
 have h2:=h.p2
 unfold Q6u
 refine w_lv λx0 hx0=>w_br (λhb=>λf0 f1=> ?_) (λhb=> ?_)
 . have hp:=Q3u h
   have hb:x0=false:=by simpa using hb
   rw[hb]at hx0
   simp only[Q5h,Q8n,Tree.m,letv,hp]at hx0
   rw[dY f0]at hx0
   exact absurd f1 (oN hx0.symm)
 . have hb:x0=true:=by simpa using hb
   obtain⟨f0,f1⟩:=zX h f (hx0.symm.trans hb)
   have e1:i64.wrap (f*32)=f*32:=by rw[wrap_i64];omega
   have e2:i64.wrap (i64.wrap (f*32)+32)=f*32+32:=by rw[wrap_i64,wrap_i64];omega
   have hlen:(cY (dC (i64.wrap (i64.wrap (f*32)+32))-dC (i64.wrap (f*32))) (cZ (dC (i64.wrap (f*32))) m)).length=32:=by
     rw[e2,e1,bD,bF];omega
   refine w_cn (by rw[e2,e1];simp [bT];omega) ?_
   refine w_an (by show dH _<=1000000000000;rw[hlen];decide) (w_lv λx1 h1=> ?_)
   have h1:x1.length=4*(cY (dC (i64.wrap (i64.wrap (f*32)+32))-dC (i64.wrap (f*32))) (cZ (dC (i64.wrap (f*32))) m)).length:=by rw[h1];exact(Tree.pp (qaE _ (dI hlen))).2
   intro _ _
   show x1.length=128
   rw[h1,hlen]
theorem Zmr{f:Int}(hf:U f){P:Nat}(hP:P<=32)(h:decide (u64.wrap f<u64.wrap (P:Int))=true):0<=f/\f<P:=by
 have h:=oY h
 obtain⟨h1,h2⟩:=hf
 rw[wrap_u64,wrap_u64,dJ h1 (by omega),dJ (by omega) (by omega)]at h
 exact⟨h1,h⟩
theorem Zp1{P:Nat}{m:List Int}(h:Q15 P m){d:Q0g}(hd:Q99 d)(e:Q0a):(Q7p d m e).w (λr=>Q99 r.1/\Q15 P r.2.1/\out d.B3 m r.2.1/\(r.2.2=false->r.2.1=m)/\(∀p,Q1l d p=true->Q1l r.1 p=true)):=by
 have hcl:Q04 m=m:=rfl
 have keep: ∀b:Bool,Q99 d/\Q15 P m/\out d.B3 m m/\(b=false->m=m)/\(∀p,Q1l d p=true->Q1l d p=true):=λb=>⟨hd,h,Qq0 _ _,λ_=>rfl,λ_ h=>h⟩
 have blk: ∀{p:Int},Q1l d p=true->decide (d.Blocks>64)=false:=fun{p} hm=>by
   cases hb:decide (d.Blocks>64)
   . rfl
   . have:Q1l d p=false:=by simp only[Q1l,Q6h,Tree.m];rw[hb];rfl
     rw[this]at hm;cases hm
 have m2: ∀p,Q1l d p=true->Q1l {Blocks:=d.Blocks,C2:=d.C2,Frame:=d.Frame,C1:=2,D8:=0,B7:=0,B3:=0,C4:=[]} p=true:=λp hm=>by
   simp only[Q1l,Q6h,Tree.m];rw[blk hm];rfl
 have m3: ∀p,Q1l d p=true->Q1l {Blocks:=d.Blocks,C2:=d.C2,Frame:=d.Frame,C1:=3,D8:=0,B7:=0,B3:=0,C4:=[]} p=true:=λp hm=>by
   simp only[Q1l,Q6h,Tree.m];rw[blk hm];rfl
 unfold Q7p
 refine w_br (λ_=>w_an (Q9n h) (w_lv λx hx=>by rw[hcl]at hx;subst hx;exact keep _)) λ_=>w_br (λ_=>w_an (Q9n h) (w_lv λx hx=>by rw[hcl]at hx;subst hx;exact keep _)) λ_=>w_br (λ_=>w_an (Q9n h) (w_lv λx hx=>by rw[hcl]at hx;subst hx;exact keep _)) λ_=>w_an (Q9n h) (w_lv λx3 hx3=> ?_)
 rw[hcl]at hx3;subst hx3
 have fin: ∀{m':List Int},Q15 P m'->out d.B3 x3 m'->(Tree.br (e.N==1) (.lf (({Blocks:=d.Blocks,C2:=d.C2,Frame:=d.Frame,C1:=2,D8:=0,B7:=0,B3:=0,C4:=[]}:Q0g),m',true)) (.lf (({Blocks:=d.Blocks,C2:=d.C2,Frame:=d.Frame,C1:=3,D8:=0,B7:=0,B3:=0,C4:=[]}:Q0g),m',true))).w (λr=>Q99 r.1/\Q15 P r.2.1/\out d.B3 x3 r.2.1/\(r.2.2=false->r.2.1=x3)/\(∀p,Q1l d p=true->Q1l r.1 p=true)):=λhm ho=>
   w_br (λ_=>⟨⟨hd.block,hd.frame,U_0,U_0⟩,hm,ho,(λh=>by cases h),m2⟩) (λ_=>⟨⟨hd.block,hd.frame,U_0,U_0⟩,hm,ho,(λh=>by cases h),m3⟩)
 have nod:(Tree.br (!decide (e.D0=[])) (.lf (d,x3,false)) (Tree.br (e.N==1) (.lf (({Blocks:=d.Blocks,C2:=d.C2,Frame:=d.Frame,C1:=2,D8:=0,B7:=0,B3:=0,C4:=[]}:Q0g),x3,true)) (.lf (({Blocks:=d.Blocks,C2:=d.C2,Frame:=d.Frame,C1:=3,D8:=0,B7:=0,B3:=0,C4:=[]}:Q0g),x3,true)))).w (λr=>Q99 r.1/\Q15 P r.2.1/\out d.B3 x3 r.2.1/\(r.2.2=false->r.2.1=x3)/\(∀p,Q1l d p=true->Q1l r.1 p=true)):=
   w_br (λ_=>keep _) (λ_=>fin h (Qq0 _ _))
 refine w_br (λ_=>w_br (λ_=>w_lv λx4 hx4=>w_br (λ_=>keep _) λhb=> ?_) (λ_=>nod)) (λ_=>nod)
 have hp:=Q3u h
 have hb:x4=true:=by simpa using hb
 rw[hb]at hx4
 simp only[Q9u,Qdv,Tree.m,letv,hp]at hx4
 obtain⟨f0,f1⟩:=Zmr hd.opFrame h.p2 hx4.symm
 have ef:i64.wrap d.B3=d.B3:=by have:=h.p2;rw[wrap_i64];omega
 refine Q0f (Z4k h _ _) λx5 ⟨h5,o5,k5⟩=> ?_
 rw[ef]at o5
 exact w_br (λhf=>⟨hd,h5,o5,λ_=>k5 (by simpa using hf),λ_ h=>h⟩) (λ_=>fin h5 o5)
theorem qf{P:Nat}{m:List Int}(h:Q15 P m){n:Q0r}(hn:Qjx n)(frame:List UInt8):(Qau n m frame).w (λr=>Qjx r.1/\Q15 P r.2.1/\out n.B9 m r.2.1/\(r.2.2=false->r.2.1=m)/\(∀p,Q69 n p=true->Q69 r.1 p=true)):=by
 have hcl:Q04 m=m:=rfl
 have keep:Qjx n/\Q15 P m/\out n.B9 m m/\(false=false->m=m)/\(∀p,Q69 n p=true->Q69 n p=true):=⟨hn,h,Qq0 _ _,λ_=>rfl,λ_ h=>h⟩
 unfold Qau
 refine w_br (λ_=>w_an (Q9n h) (w_lv λx hx=>by rw[hcl]at hx;subst hx;exact keep)) λhpo=>w_br (λ_=>w_an (Q9n h) (w_lv λx hx=>by rw[hcl]at hx;subst hx;exact keep)) λl1=>w_br (λ_=>w_an (Q9n h) (w_lv λx hx=>by rw[hcl]at hx;subst hx;exact keep)) λl2=>w_lv λx3 hx3=>w_br (λ_=>w_an (Q9n h) (w_lv λx hx=>by rw[hcl]at hx;subst hx;exact keep)) λhb=> ?_
 have l1:=oN l1
 have l2:=oN l2
 have hp:=Q3u h
 have hb:x3=true:=by simpa using hb
 rw[hb]at hx3
 simp only[Qac,Qg3,Tree.m,letv,hp]at hx3
 obtain⟨f0,f1⟩:=Zmr hn.buffer h.p2 hx3.symm
 have ef:i64.wrap n.B9=n.B9:=by have:=h.p2;rw[wrap_i64];omega
 refine Q0f (Zjx h _) λx5 h5=> ?_
 rw[ef]at h5
 have h5:=h5 f0 f1
 have hmax:(maxLen:Nat)=9223372036854775807:=rfl
 refine w_cn (dY (by omega)) (w_cn (dY (by simp only[bD,bF,hmax];omega)) (Q0f (Z4k h _ _) λx6 ⟨h6,o6,_⟩=> ?_))
 rw[ef]at o6
 have hg:u32.wrap (frame.length:Int)=frame.length:=by rw[wrap_u32];omega
 refine⟨⟨hn.frame,hn.len,U_0,Q0u _⟩,h6,o6,(λh=>by cases h),λp _=> ?_⟩
 simp only[Q69,Ql8,Tree.m]
 rw[hg,dY (show(frame.length:Int)>=1 by omega),dY (show(frame.length:Int)<=128 by omega)]
 rfl
theorem qag(c:Q0d)(b:Int):(Qc4 c b).w (λr=>Q2c c=true->Q2c r.1=true):=by
 have hmax:(maxLen:Nat)=9223372036854775807:=rfl
 unfold Qc4
 refine w_br (λ_=>λh=>h) (λhb=> ?_)
 have hb:=oN hb
 refine w_cn (dY (by rw[hmax];omega)) ?_
 intro _
 show decide (((c.D3++[_]).length:Int)<=16)=true
 rw[lA,cW]
 exact dY (by omega)
theorem zG(t:Q0i)(h:Q4g t=true):Q4g (Qlw t).1=true:=by
 simp only[Qlw,Qoi,Tree.m]
 cases ha:t.D2
 . exact h
 . rfl
theorem xf(m:Q00):Q10 m=(Q2c m.A4&&(Q4g m.B0&&(Q1l m.B1 (Q0z m.Mem)&&(Q69 m.C5 (Q0z m.Mem)&&Q2o m.A2 (Q0z m.Mem))))):=by
 simp only[Q10,Q1u,Tree.m,letv]
 cases Q2c m.A4<;>cases Q4g m.B0<;>cases Q1l m.B1 (Q0z m.Mem)<;>cases Q69 m.C5 (Q0z m.Mem)<;>rfl
theorem zaE{b c:Q07}(h:c.C3=b.C3)(p:Int):Q2o c p=Q2o b p:=by
 simp only[Q2o,Q4a,Tree.m,h]
theorem cnd{a x y:Bool}(h:x=true->y=true):(bif a then false else x)=true->(bif a then false else y)=true:=by cases a<;>simp_all
def chain(b1 b2 b3 b4 b5 b6 b7 w h dev:Bool):Bool:=bif b1 then false else bif b2 then false else bif b3 then false else bif b4 then false else bif b5 then false else bif b6 then false else bif b7 then false else bif w then(bif h then false else dev) else dev
theorem Zov{b1 b2 b3 b4 b5 b6 b7 w h d d':Bool}(hd:d=true->d'=true):chain b1 b2 b3 b4 b5 b6 b7 w h d=true->chain b1 b2 b3 b4 b5 b6 b7 w h d'=true:=by
 refine cnd (cnd (cnd (cnd (cnd (cnd (cnd ?_))))))
 cases w
 . exact hd
 . cases h
   . exact hd
   . exact λh=>h
def mayC(p:Int)(c:Q05)(ct:Int)(w h dev:Bool):Bool:=chain (p==0) (c.X.a0 !=0) (decide (c.B5.a0>31)) (decide (c.B5.a7>31)) (decide (c.B5.a6>255)) (dB c.B5.a1 4 !=0) (decide (ct>1152921504606846976)) w h dev
theorem zf{p:Int}{c:Q05}{ct:Int}{w h d d':Bool}(hd:d=true->d'=true)(g:mayC p c ct w h d=true):mayC p c ct w h d'=true:=Zov hd g
theorem yX(m:Q00):Q1f m=mayC (Q0z m.Mem) m.B2 m.A1 m.A7 m.A9 (Q10 m):=rfl
theorem Quq{m n:Q00}(hp:Q0z n.Mem=Q0z m.Mem)(hcpu:n.B2=m.B2)(hct:n.A1=m.A1)(hw:n.A7=m.A7)(hh:n.A9=m.A9)
   (hc:Q2c m.A4=true->Q2c n.A4=true) (ht:Q4g m.B0=true->Q4g n.B0=true) (hd: ∀p,Q1l m.B1 p=true->Q1l n.B1 p=true) (hn: ∀p,Q69 m.C5 p=true->Q69 n.C5 p=true) (hb:n.A2.C3=m.A2.C3) (h:Q1f m=true):Q1f n=true:=by
 have dev:Q10 m=true->Q10 n=true:=λh=>by
   rw[xf]at h⊢
   simp only[aE]at h⊢
   rw[hp,zaE hb]
   exact⟨hc h.1,ht h.2.1,hd _ h.2.2.1,hn _ h.2.2.2.1,h.2.2.2.2⟩
 rw[yX]at h⊢
 rw[hp,hcpu,hct,hw,hh]
 exact zf dev h
section
variable {P:Nat} {m:List Int} (h:Q15 P m)
include h
theorem dpage{f:Int}(hf:U f){b:Bool}(hx:b=Q9u m f)(hb:b=true):0<=f/\f<P:=by
 have hp:=Q3u h
 rw[hb]at hx
 simp only[Q9u,Qdv,Tree.m,letv,hp]at hx
 exact Zmr hf h.p2 hx.symm
theorem npage{f:Int}(hf:U f){b:Bool}(hx:b=Qac m f)(hb:b=true):0<=f/\f<P:=by
 have hp:=Q3u h
 rw[hb]at hx
 simp only[Qac,Qg3,Tree.m,letv,hp]at hx
 exact Zmr hf h.p2 hx.symm
def keepD(P:Nat)(d d':Q0g):Prop:=Q99 d'/\(Q1l d P=true->Q1l d' P=true)
theorem yf{d:Q0g}(hd:Q99 d){cmd:Int}(hc:cmd=1\/cmd=2)(at0:Int):(Qd8 d m cmd at0).w (λr=>keepD P d r.1/\r.2.length<=1):=by
 have h2:=h.p2
 have st3:(d.C1 !=0)=false->keepD P d {Blocks:=d.Blocks,C2:=d.C2,Frame:=d.Frame,C1:=3,D8:=d.D8,B7:=d.B7,B3:=d.B3,C4:=d.C4}:=λhs=>by
   have hs:d.C1=0:=by simpa using hs
   refine⟨⟨hd.block,hd.frame,hd.opBlock,hd.opFrame⟩,λhm=> ?_⟩
   simp only[Q1l,Q6h,Tree.m,hs]at hm⊢
   exact hm
 have blk:Q1l d P=true->decide (d.Blocks>64)=false:=λhm=>by
   cases hb:decide (d.Blocks>64)
   . rfl
   . have:Q1l d P=false:=by simp only[Q1l,Q6h,Tree.m];rw[hb];rfl
     rw[this]at hm;cases hm
 unfold Qd8
 refine w_br (λ_=>⟨⟨hd,λh=>h⟩,aT _⟩) λhs=>w_br (λ_=>⟨st3 hs,aT _⟩) λhb=>w_lv λx0 hx=>w_br (λ_=>⟨st3 hs,aT _⟩) λhp=> ?_
 have hb:=oN hb
 obtain⟨f0,f1⟩:=dpage h hd.frame hx (by simpa using hp)
 have ef:i64.wrap d.Frame=d.Frame:=by rw[wrap_i64];omega
 have e1:decide (d.C2<d.Blocks)=true:=dY (by omega)
 have e2:decide (i64.wrap d.Frame<(P:Int))=true:=by rw[ef];exact dY f1
 refine w_br (λhcm=>Q0f (Zjx h _) λx1 h1=> ?_) (λhcm=> ?_)
 . rw[ef]at h1
   have h1:=h1 f0 f1
   have hcm:=eq_of_beq hcm
   subst hcm
   refine w_lv λx2 _=>⟨⟨⟨hd.block,hd.frame,hd.block,hd.frame⟩,λhm=> ?_⟩,aO _⟩
   simp only[Q1l,Q6h,Qa6,Q7v,Tree.m,letv,blk hm,e1,e2,h1]
   rfl
 . have hc:cmd=1:=by
     rcases hc with h|h
     . exact h
     . rw[h]at hcm;exact absurd hcm (by decide)
   subst hc
   refine w_lv λx2 _=>⟨⟨⟨hd.block,hd.frame,hd.block,hd.frame⟩,λhm=> ?_⟩,aO _⟩
   simp only[Q1l,Q6h,Qa6,Q7v,Tree.m,letv,blk hm,e1,e2]
   rfl
theorem zag{d:Q0g}(hd:Q99 d)(port:Int){v:Int}(hv:U v)(at0:Int):(Qhu d m port v at0).w (λr=>keepD P d r.1/\r.2.length<=1):=by
 have keep:keepD P d d:=⟨hd,λh=>h⟩
 have e1: ∀{k:Int},(v==k)=true->i64.wrap v=k:=λhk=>by
   have:=eq_of_beq hk
   obtain⟨a,b⟩:=hv
   rw[wrap_i64];omega
 unfold Qhu
 refine w_br (λ_=>⟨⟨⟨hv,hd.frame,hd.opBlock,hd.opFrame⟩,λh=>h⟩,aT _⟩) λ_=>w_br (λ_=>⟨⟨⟨hd.block,hv,hd.opBlock,hd.opFrame⟩,λh=>h⟩,aT _⟩) λ_=>w_br (λ_=>w_br (λhk=>Q0f (yf h hd (.inl (e1 hk)) _) λx hx=>hx) λ_=>w_br (λhk=>Q0f (yf h hd (.inr (e1 hk)) _) λx hx=>hx) λ_=>w_br (λ_=>w_lv λx hx=>w_br (λhb=> ?_) (λ_=>⟨keep,aT _⟩)) (λ_=>⟨keep,aT _⟩)) (λ_=>⟨keep,aT _⟩)
 refine⟨⟨⟨hd.block,hd.frame,hd.opBlock,hd.opFrame⟩,λhm=> ?_⟩,aT _⟩
 rw[hb]at hx
 simp only[Q9e,Ql1,Tree.m]at hx
 cases h2:d.C1==2
 . rw[h2]at hx
   have h3:d.C1=3:=eq_of_beq hx.symm
   simp only[Q1l,Q6h,Tree.m,h3]at hm⊢
   exact hm
 . have h3:d.C1=2:=eq_of_beq h2
   simp only[Q1l,Q6h,Tree.m,h3]at hm⊢
   exact hm
def keepN(P:Nat)(n n':Q0r):Prop:=Qjx n'/\(Q69 n P=true->Q69 n' P=true)
theorem xaE{n:Q0r}(hn:Qjx n)(at0:Int):(Qhy n m at0).w (λr=>r.length<=1):=by
 have h2:=h.p2
 unfold Qhy
 refine w_br (λ_=>aT _) λl1=>w_br (λ_=>aT _) λl2=>w_lv λx0 hx=>w_br (λ_=>aT _) λhp=>Q0f (Zjx h _) λx1 h1=> ?_
 have l1:=oN l1
 have l2:=oN l2
 obtain⟨f0,f1⟩:=npage h hn.frame hx (by simpa using hp)
 have ef:i64.wrap n.Frame=n.Frame:=by rw[wrap_i64];omega
 rw[ef]at h1
 have h1:=h1 f0 f1
 exact w_cn (dY (by omega)) (aO _)
theorem qaF{n:Q0r}(hn:Qjx n)(port:Int){v:Int}(hv:U v)(at0:Int):(Qls n m port v at0).w (λr=>keepN P n r.1/\r.2.length<=1):=by
 have h2:=h.p2
 have keep:keepN P n n:=⟨hn,λh=>h⟩
 unfold Qls
 refine w_br (λ_=>⟨⟨⟨hv,hn.len,hn.buffer,hn.got⟩,λh=>h⟩,aT _⟩) λ_=>w_br (λ_=>⟨⟨⟨hn.frame,hv,hn.buffer,hn.got⟩,λh=>h⟩,aT _⟩) λ_=>w_br (λ_=>w_br (λ_=>Q0f (xaE h hn _) λx hx=>⟨keep,hx⟩) λ_=>w_br (λ_=>w_lv λx hx=>w_br (λhb=>w_br (λnp=>w_br (λnr=> ?_) (λ_=>⟨keep,aT _⟩)) (λ_=>⟨keep,aT _⟩)) (λ_=>⟨keep,aT _⟩)) λ_=>w_br (λ_=> ?_) (λ_=>⟨keep,aT _⟩)) (λ_=>⟨keep,aT _⟩)
 . obtain⟨f0,f1⟩:=npage h hn.frame hx hb
   have np:n.C7=false:=by simpa using np
   have nr:n.B8=false:=by simpa using nr
   have e2:decide (i64.wrap n.Frame>=(P:Int))=false:=dN (by rw[wrap_i64];omega)
   refine⟨⟨⟨hn.frame,hn.len,hn.frame,hn.got⟩,λhm=> ?_⟩,aT _⟩
   simp only[Q69,Ql8,Tree.m,np,nr,e2]at hm⊢
   cases hb:(n.B9 !=0)
   . rw[hb]at hm;exact hm
   . rw[hb]at hm;cases hm
 . refine⟨⟨⟨hn.frame,hn.len,hn.buffer,U_0⟩,λhm=> ?_⟩,aT _⟩
   simp only[Q69,Ql8,Tree.m]at hm⊢
   revert hm
   cases n.C7<;>cases n.B8<;>cases decide (i64.wrap n.B9>=(P:Int))<;>cases(n.B9 !=0)<;>simp
end
theorem xag(t:Q0i)(v:Int):Q4g (Qlv t v)=true:=by
 simp only[Qlv,Qmq,Q4g,Qn2,Tree.m]
 cases h:(v !=0)
 . have:v=0:=by simpa using h
   subst this;rfl
 . rfl
theorem Qrd{a:Int}(k:Nat)(hk:k<=32):ishr .u32 a k=a/2^k:=by
 unfold ishr
 have e:min (k:Int).toNat u32.bits=k:=by show min (k:Int).toNat 32=k;omega
 have hp:(0:Int)<2^k:=dK (by decide)
 rw[e,dL _ (dM hp)]
def Zpe(x:Int)(n:Nat):Prop:=x<2^n/\(n=0\/(2:Int)^(n-1)<=x)
theorem Zc1{x q:Int}{n k:Nat}(hq:q=x/2^k)(h0:0<q)(h:Zpe q n):Zpe x (n+k):=by
 have hp:(0:Int)<2^k:=dK (by decide)
 obtain⟨h1,h2⟩:=h
 have hn:n≠0:=λe=>by subst e;simp at h1;omega
 refine⟨?_, .inr ?_⟩
 . rw[dO]
   have:x<(x/2^k+1)*2^k:=Int.lt_ediv_add_one_mul_self x hp
   have h3:(x/2^k+1)*2^k<=2^n*2^k:=dP (by omega) (dM hp)
   omega
 . have h2:=h2.resolve_left hn
   have e:n+k-1=(n-1)+k:=by omega
   rw[e,dO]
   have h3:(2:Int)^(n-1)*2^k<=q*2^k:=dP h2 (dM hp)
   have h4:q*2^k<=x:=by rw[hq];exact Int.ediv_mul_le x (Int.ne_of_gt hp)
   omega
theorem yG{x:Int}{n p:Nat}(h:Zpe x n)(hx:x<2^p):n<=p:=by
  obtain⟨h1,h2⟩:=h
  rcases h2 with h2|h2
  . omega
  . rcases Nat.lt_or_ge p n with hlt|hge
    . have:(2:Int)^p<=2^(n-1):=by
        have:=dQ (show 0<2 by omega) (show p<=n-1 by omega)
        exact_mod_cast this
      omega
    . exact hge
theorem Zi4{x:Int}{n p:Nat}(h:Zpe x n)(hn:n<=p):x<2^p:=by
 have:(2:Int)^n<=2^p:=by
   have:=dQ (show 0<2 by omega) hn
   exact_mod_cast this
 exact dR h.1 this
def lenChk(i:Nat):Bool:=match(Q1p (i:Int)) with
 | .ofNat n=>decide ((i:Int)<2^n)&&(bS n 0||decide ((2:Int)^(n-1)<=i))&&decide (n<=8)
 |_=>false
theorem Qv3{q:Int}(h0:0<=q)(h1:q<256): ∃n:Nat,Q1p q=n/\Zpe q n/\n<=8:=by
 have all:List.all (dA 256) lenChk=true:=by kernel_rfl
 have:=List.all_eq_true.1 all q.toNat (List.mem_range.2 (by omega))
 have hq:((q.toNat:Nat):Int)=q:=by omega
 unfold lenChk at this
 rw[hq]at this
 split at this
 . rename_i n hn
   simp only[aE,aI,decide_eq_true_eq]at this
   refine⟨n,hn,⟨this.1.1,?_⟩,this.2⟩
   rcases this.1.2 with h|h
   . exact .inl (bE h)
   . exact .inr h
 . cases this
theorem zaF{x:Int}(h:U x)(hx:16777216<=x):Q1p x=24+Q1p (x/16777216):=by
 obtain⟨h0,h1⟩:=h
 have s16:ishr .u32 x 16=x/65536:=Qrd 16 (by omega)
 have s24:ishr .u32 (x/65536) 8=x/16777216:=by rw[show((8:Int))=((8:Nat):Int) from rfl,Qrd 8 (by omega)];omega
 have d1:decide (x>=65536)=true:=dY (by omega)
 have d2:decide (x/65536>=256)=true:=dY (by omega)
 have d3:decide (x/16777216>=65536)=false:=dN (by omega)
 have d4:decide (x/16777216>=256)=false:=dN (by omega)
 have u:u8.wrap (x/16777216)=x/16777216:=by rw[wrap_u8];omega
 simp only[Q1p,Q1v,Tree.m,s16,s24,d1,d2,d3,d4,u,cond_true,cond_false]
 generalize(aK _ (dC (x/16777216)) (0:UInt8))=b
 have hb:=dS b
 rw[wrap_i64,wrap_i64,wrap_i64,wrap_i64]
 omega
theorem xaF{x:Int}(h0:65536<=x)(h1:x<16777216):Q1p x=16+Q1p (x/65536):=by
 have s16:ishr .u32 x 16=x/65536:=Qrd 16 (by omega)
 have d1:decide (x>=65536)=true:=dY (by omega)
 have d2:decide (x/65536>=256)=false:=dN (by omega)
 have d3:decide (x/65536>=65536)=false:=dN (by omega)
 have u:u8.wrap (x/65536)=x/65536:=by rw[wrap_u8];omega
 simp only[Q1p,Q1v,Tree.m,s16,d1,d2,d3,u,cond_true,cond_false]
 generalize(aK _ (dC (x/65536)) (0:UInt8))=b
 have hb:=dS b
 rw[wrap_i64,wrap_i64,wrap_i64]
 omega
theorem len_8{x:Int}(h0:256<=x)(h1:x<65536):Q1p x=8+Q1p (x/256):=by
 have s8:ishr .u32 x 8=x/256:=Qrd 8 (by omega)
 have d1:decide (x>=65536)=false:=dN (by omega)
 have d2:decide (x>=256)=true:=dY (by omega)
 have d3:decide (x/256>=65536)=false:=dN (by omega)
 have d4:decide (x/256>=256)=false:=dN (by omega)
 have u:u8.wrap (x/256)=x/256:=by rw[wrap_u8];omega
 simp only[Q1p,Q1v,Tree.m,s8,d1,d2,d3,d4,u,cond_true,cond_false]
 generalize(aK _ (dC (x/256)) (0:UInt8))=b
 have hb:=dS b
 rw[wrap_i64,wrap_i64,wrap_i64,wrap_i64]
 omega
theorem Zob{x:Int}(h:U x): ∃n:Nat,Q1p x=n/\Zpe x n:=by
  obtain⟨h0,h1⟩:=h
  rcases dT x 256 with a|a
  . obtain⟨n,e,l,_⟩:=Qv3 h0 a
    exact⟨n,e,l⟩
  . rcases dT x 65536 with b|b
    . obtain⟨n,e,l,_⟩:=Qv3 (q:=x/256) (by omega) (by omega)
      exact⟨n+8,by rw[len_8 a b,e];omega,Zc1 (k:=8) rfl (by omega) l⟩
    . rcases dT x 16777216 with c|c
      . obtain⟨n,e,l,_⟩:=Qv3 (q:=x/65536) (by omega) (by omega)
        exact⟨n+16,by rw[xaF b c,e];omega,Zc1 (k:=16) rfl (by omega) l⟩
      . obtain⟨n,e,l,_⟩:=Qv3 (q:=x/16777216) (by omega) (by omega)
        exact⟨n+24,by rw[zaF ⟨h0,h1⟩ c,e];omega,Zc1 (k:=24) rfl (by omega) l⟩
theorem Z3m{b:Q07}(h:U b.C3){P:Nat}:Q2o b P=true↔b.C3<2^P:=by
 obtain⟨n,e,l⟩:=Zob h
 have hp:(if(0:Int)>(P:Int) then(0:Int) else P)=P:=by rw[if_neg (by omega)]
 simp only[Q2o,Q4a,Tree.m,letv,e,hp,decide_eq_true_eq]
 constructor
 . intro h;exact Zi4 l (by omega)
 . intro h;have:=yG l h;omega
theorem Zb2{a:Int}(h:U a){P:Nat}(h1:a<2^P):(dU 32 a).toNat<2^P:=by
 obtain⟨a0,a1⟩:=h
 rw[dV,dJ a0 (by omega)]
 have:((2^P:Nat):Int)=(2:Int)^P:=by exact_mod_cast rfl
 omega
theorem or_lt{a b:Int}(ha:U a)(hb:U b){P:Nat}(hP:P<=32)(h1:a<2^P)(h2:b<2^P):ior .u32 a b<2^P:=by
 have e:(dU 32 a|||dU 32 b).toNat<2^P:=by
   rw[dW]
   exact Nat.or_lt_two_pow (Zb2 ha h1) (Zb2 hb h2)
 have hc:((2^P:Nat):Int)=(2:Int)^P:=by exact_mod_cast rfl
 have l:=(dU 32 a|||dU 32 b).isLt
 show wrap .u32 ((dU 32 a|||dU 32 b).toNat:Int)<2^P
 rw[wrap_u32]
 omega
theorem qah{a b:Int}(ha:U a){P:Nat}(h1:a<2^P):Qhj .u32 a b<2^P:=by
 have e:(dU 32 a&&&~~~dU 32 b).toNat<2^P:=by
   rw[dX]
   exact Nat.lt_of_le_of_lt dZ (Zb2 ha h1)
 have hc:((2^P:Nat):Int)=(2:Int)^P:=by exact_mod_cast rfl
 have l:=(dU 32 a&&&~~~dU 32 b).isLt
 show wrap .u32 ((dU 32 a&&&~~~dU 32 b).toNat:Int)<2^P
 rw[wrap_u32]
 omega
theorem vf{v:Int}(h0:0<=v)(h1:v<32):ishl .u32 1 v=2^v.toNat:=by
 have e:min v.toNat u32.bits=v.toNat:=by show min v.toNat 32=v.toNat;omega
 obtain⟨n,rfl⟩: ∃n:Nat,v=n:=⟨v.toNat,by omega⟩
 have hn:n<32:=by omega
 have hlt:(2:Nat)^n<4294967296:=by
   have:=eA (show 1<2 by omega) hn
   simpa using this
 have hc:((2^n:Nat):Int)=(2:Int)^n:=by exact_mod_cast rfl
 unfold ishl
 rw[e,wrap_u32,Int.one_mul,eB,<-hc]
 clear hc e
 generalize(2:Nat)^n=z at*
 omega
def keepB(P:Nat)(b b':Q07):Prop:=okB b'/\(Q2o b P=true->Q2o b' P=true)
theorem Zou{P:Nat}{m:List Int}(h:Q15 P m){b:Q07}(hb:okB b)(port:Int){v:Int}(hv:U v):(Q49 b m port v).w (λr=>keepB P b r.1/\Q15 P r.2):=by
 have hcl:Q04 m=m:=rfl
 have h2:=h.p2
 have hp:=Q3u h
 have keep:(Tree.an (Q09 m) (.lv (Q04 m) λx=> .lf (b,x))).w (λr=>keepB P b r.1/\Q15 P r.2):=w_an (Q9n h) (w_lv λx hx=>by rw[hcl]at hx;subst hx;exact⟨⟨hb,λh=>h⟩,h⟩)
 unfold Q49
 refine w_br (λ_=>keep) λhlt=>w_cn (dY hv.1) (w_br (λ_=>w_lv λx1 hx=>w_br (λhpg=>w_br (λ_=>w_an ⟨by decide,by decide,by decide⟩ (w_lv λx2 _=>Q0f (Z4k h _ _) λx3 ⟨h3,_⟩=> ?_)) (λ_=>keep)) (λ_=>keep)) (λ_=>w_br (λ_=>w_an (Q9n h) (w_lv λx hx=> ?_)) (λ_=>keep)))
 . have hlt:=oN hlt
   have hpg:=oY hpg
   rw[hx,hp]at hpg
   obtain⟨v0,v1⟩:=hv
   have ev:i64.wrap v=v:=by rw[wrap_i64];omega
   rw[ev]at hpg
   refine⟨⟨⟨hb.1,Q0u _⟩,λhm=> ?_⟩,h3⟩
   rw[Z3m hb.2]at hm
   rw[Z3m (Q0u _)]
   have hs:ishl .u32 1 v<2^P:=by
     rw[vf v0 (by omega)]
     have:=eA (show 1<2 by omega) (show v.toNat<P by omega)
     exact_mod_cast this
   exact or_lt hb.2 (Q0u _) h2 hm hs
 . rw[hcl]at hx;subst hx
   refine⟨⟨⟨hb.1,Q0u _⟩,λhm=> ?_⟩,h⟩
   rw[Z3m hb.2]at hm
   rw[Z3m (Q0u _)]
   exact qah hb.2 hm
structure kept(P:Nat)(m n:Q00):Prop where
 ok:okS P n
 dev:Q10 m=true->Q10 n=true
 cpu:n.B2=m.B2
 cnt:n.A1=m.A1
 wait:n.A7=m.A7
 halt:n.A9=m.A9
theorem Zf5{P:Nat}{m:Q00}(h:okS P m):kept P m m:=⟨h,λh=>h,rfl,rfl,rfl,rfl⟩
theorem Qqr{P:Nat}{m n:Q00}(hm:Q15 P m.Mem)(hn:Q15 P n.Mem)(hc:Q2c m.A4=true->Q2c n.A4=true)(ht:Q4g m.B0=true->Q4g n.B0=true)
   (hd:Q1l m.B1 P=true->Q1l n.B1 P=true) (hk:Q69 m.C5 P=true->Q69 n.C5 P=true) (hb:Q2o m.A2 P=true->Q2o n.A2 P=true) (h:Q10 m=true):Q10 n=true:=by
 rw[xf]at h⊢
 rw[Q3u hm]at h
 rw[Q3u hn]
 simp only[aE]at h⊢
 exact⟨hc h.1,ht h.2.1,hd h.2.2.1,hk h.2.2.2.1,hb h.2.2.2.2⟩
theorem Zin{P:Nat}{m:Q00}(h:okS P m)(port:Int){v:Int}(hv:U v)(at0:Int):(Q42 m port v at0).w (λr=>kept P m r.1/\r.2.length<=1):=by
 have k:=Zf5 h
 obtain⟨h1,h2,h3,h4,h5,h6⟩:=h
 have id: ∀{p:Prop},p->p:=λh=>h
 have D: ∀(x:Q0g×List Q03),(keepD P m.B1 x.1/\x.2.length<=1)->kept P m {B2:=m.B2,Mem:=m.Mem,A4:=m.A4,B0:=m.B0,B1:=x.1,C5:=m.C5,A2:=m.A2,A1:=m.A1,A7:=m.A7,A9:=m.A9}/\x.2.length<=1:=λx hx=>
   ⟨⟨⟨h1,h2,hx.1.1,h4,h5,h6⟩,Qqr h2 h2 id id hx.1.2 id id,rfl,rfl,rfl,rfl⟩,hx.2⟩
 have N: ∀(x:Q0r×List Q03),(keepN P m.C5 x.1/\x.2.length<=1)->kept P m {B2:=m.B2,Mem:=m.Mem,A4:=m.A4,B0:=m.B0,B1:=m.B1,C5:=x.1,A2:=m.A2,A1:=m.A1,A7:=m.A7,A9:=m.A9}/\x.2.length<=1:=λx hx=>
   ⟨⟨⟨h1,h2,h3,hx.1.1,h5,h6⟩,Qqr h2 h2 id id id hx.1.2 id,rfl,rfl,rfl,rfl⟩,hx.2⟩
 have B: ∀(x:Q07×List Int),(keepB P m.A2 x.1/\Q15 P x.2)->kept P m {B2:=m.B2,Mem:=x.2,A4:=m.A4,B0:=m.B0,B1:=m.B1,C5:=m.C5,A2:=x.1,A1:=m.A1,A7:=m.A7,A9:=m.A9}/\([]:List Q03).length<=1:=λx hx=>
   ⟨⟨⟨h1,hx.2,h3,h4,hx.1.1.1,hx.1.1.2⟩,Qqr h2 hx.2 id id id id hx.1.2,rfl,rfl,rfl,rfl⟩,aT _⟩
 unfold Q42
 repeat'(first
   |exact⟨k,aO _⟩
   |exact⟨k,aT _⟩
   |exact w_lv λx hx=>⟨⟨⟨h1,h2,h3,h4,h5,h6⟩,Qqr h2 h2 id (λ_=>by rw[hx];exact xag _ _) id id id,rfl,rfl,rfl,rfl⟩,aT _⟩
   |exact Q0f (zag h2 h3 _ hv _) λx hx=>D x hx
   |exact Q0f (qaF h2 h4 _ hv _) λx hx=>N x hx
   |exact Q0f (Zou h2 ⟨h5,h6⟩ _ hv) λx hx=>B x hx
   |refine w_br (λ_=> ?_) (λ_=> ?_))
theorem Z95(c:Q0d)(port:Int):(Qa5 c port).w (λr=>U r.2/\(Q2c c=true->Q2c r.1=true)):=by
 have u1:U 4294967295:=⟨by omega,by omega⟩
 unfold Qa5
 refine w_br (λ_=>w_br (λ_=>⟨u1,λh=>h⟩) (λhb=>w_cn ?_ (w_cn ?_ ⟨Q0u _,λhm=> ?_⟩))) (λ_=>w_br (λ_=>⟨Q0u _,λh=>h⟩) (λ_=>⟨U_0,λh=>h⟩))
 . have hb:=oN hb
   have:0<c.D3.length:=List.length_pos_iff.2 hb
   simp [bT];omega
 . have hb:=oN hb
   have:0<c.D3.length:=List.length_pos_iff.2 hb
   exact dY (by omega)
 . have hm:decide ((c.D3.length:Int)<=16)=true:=hm
   have hm:=oY hm
   show decide (((cY _ (cZ _ c.D3)).length:Int)<=16)=true
   refine dY ?_
   rw[bD,bF];omega
theorem Znv{P:Nat}{m:Q00}(h:okS P m)(port:Int){clock:Int}(hc:U clock):(Q4z m port clock).w (λr=>kept P m r.1/\U r.2):=by
 have k:=Zf5 h
 obtain⟨h1,h2,h3,h4,h5,h6⟩:=h
 have id: ∀{p:Prop},p->p:=λh=>h
 have ti: ∀t,U (Z11 t):=λt=>by
   refine Tree.post (Qpz t) (W:=U) ?_
   unfold Qpz
   exact w_br (λ_=>⟨by omega,by omega⟩) (λ_=>U_0)
 have di: ∀p,U (Qx1 m.B1 p):=λp=>by
   refine Tree.post (Que m.B1 p) (W:=U) ?_
   unfold Que
   exact w_br (λ_=>h3.block) (λ_=>w_br (λ_=>h3.frame) (λ_=>w_br (λ_=>Q0u _) (λ_=>U_0)))
 have ni: ∀p,U (Z41 m.C5 p):=λp=>by
   refine Tree.post (Qv8 m.C5 p) (W:=U) ?_
   unfold Qv8
   exact w_br (λ_=>h4.frame) (λ_=>w_br (λ_=>h4.got) (λ_=>w_br (λ_=>w_br (λ_=>w_br (λ_=>Q0u _) (λ_=>Q0u _)) (λ_=>w_br (λ_=>Q0u _) (λ_=>U_0))) (λ_=>U_0)))
 have bi: ∀p,(Qd4 m.A2 p).w U:=λp=>by
   unfold Qd4
   exact w_br (λ_=>h5) (λ_=>w_br (λ_=>Q0f (Zmb h6) λ_ _=>Q0u _) (λ_=>U_0))
 have C: ∀(x:Q0d×Int),(U x.2/\(Q2c m.A4=true->Q2c x.1=true))->kept P m {B2:=m.B2,Mem:=m.Mem,A4:=x.1,B0:=m.B0,B1:=m.B1,C5:=m.C5,A2:=m.A2,A1:=m.A1,A7:=m.A7,A9:=m.A9}/\U x.2:=λx hx=>
   ⟨⟨⟨h1,h2,h3,h4,h5,h6⟩,Qqr h2 h2 hx.2 id id id id,rfl,rfl,rfl,rfl⟩,hx.1⟩
 unfold Q4z
 repeat'(first
   |exact⟨k,hc⟩
   |exact⟨k,U_0⟩
   |exact Q0f (Z95 _ _) λx hx=>C x hx
   |exact Zdo (Z95 _ _) λx hx=>C x hx
   |exact w_lv λx hx=>⟨k,by rw[hx];exact ti _⟩
   |exact w_lv λx hx=>⟨k,by rw[hx];exact di _⟩
   |exact w_lv λx hx=>⟨k,by rw[hx];exact ni _⟩
   |exact Q0f (bi _) λx hx=>⟨k,hx⟩
   |refine w_br (λ_=> ?_) (λ_=> ?_))
structure Q66(c:Q05):Prop where
 x0:c.X.a0=0
 st:c.B5.a0<=31
 en:c.B5.a7<=31
 rt:c.B5.a6<=255
 ve:dB c.B5.a1 4=0
theorem Q66.pc{c:Q05}(h:Q66 c)(p:Int):Q66 {X:=c.X,Pc:=p,B5:=c.B5}:=⟨h.x0,h.st,h.en,h.rt,h.ve⟩
theorem and31(a:Int):iand .u32 a 31<=31:=by
 have e:(dU 32 a&&&dU 32 31).toNat<=31:=by
   rw[dX]
   exact bH eC (by decide)
 show wrap .u32 ((dU 32 a&&&dU 32 31).toNat:Int)<=31
 rw[wrap_u32];omega
theorem and255'(a:Int):iand .u32 a 255<=255:=by have:=and255 a;omega
theorem andn3(a:Int):dB (Qhj .u32 a 3) 4=0:=by
 have e:(dU 32 a&&&~~~dU 32 3).toNat%4=0:=by
   rw[dX,show(~~~dU 32 3).toNat=4294967292 by decide]
   have:=Nat.and_mod_two_pow (a:=(dU 32 a).toNat) (b:=4294967292) (n:=2)
   simpa using this
 have l:=(dU 32 a&&&~~~dU 32 3).isLt
 show dB (wrap .u32 ((dU 32 a&&&~~~dU 32 3).toNat:Int)) 4=0
 rw[wrap_u32,eD (by omega)]
 omega
theorem fin32{f:Int->Int}(h:(dA 32).all (λn=>decide (f n<=31))=true){s:Int}(h0:0<=s)(h1:s<=31):f s<=31:=by
 have:=List.all_eq_true.1 h s.toNat (List.mem_range.2 (by omega))
 have e:((s.toNat:Nat):Int)=s:=by omega
 rw[e]at this
 exact oY this
theorem Qmg{c:Q05}(h:Q2j c)(m:Q66 c)(k b:Int):Q66 (Q4y c k b):=
 ⟨m.x0,fin32 (f:=λs=>Qhj .u32 (ior .u32 (Q9a (Q9a s 1 8) 2 16) 1) 2) (by kernel_rfl) h.a0.1 m.st,m.en,m.rt,m.ve⟩
theorem Zp4{c:Q05}(h:Q2j c)(m:Q66 c):Q66 (Qeu c):=
 ⟨m.x0,fin32 (f:=λs=>Q9a (Q9a s 8 1) 16 2) (by kernel_rfl) h.a0.1 m.st,m.en,m.rt,m.ve⟩
theorem Qx5{c:Q05}(m:Q66 c){r:Int}(hr:0<=r/\r<16)(v:Int):(Qea c r v).w Q66:=by
 unfold Qea
 refine w_br (λhn=>w_cn (rc hr) ?_) (λ_=>m)
 have hn:r≠0:=by simpa using hn
 obtain⟨n,e⟩: ∃n:Nat,r.toNat=n+1:=⟨r.toNat-1,by omega⟩
 refine⟨?_,m.st,m.en,m.rt,m.ve⟩
 show(A16.of 0 (dD (A16.l c.X) r.toNat v)).a0=0
 rw[e]
 exact m.x0
theorem qg{c:Q05}(m:Q66 c)(k v:Int):(Qcc c k v).w Q66:=by
 unfold Qcc
 refine w_br (λhk=>w_cn (by rw[eq_of_beq hk];decide) ?_) λ_=>w_br (λhk=>w_cn (by rw[eq_of_beq hk];decide) ?_) λ_=>w_br (λhk=>w_cn (by rw[eq_of_beq hk];decide) ?_) λ_=>w_br (λhk=>w_cn (by rw[eq_of_beq hk];decide) ?_) λ_=>w_br (λhk=>w_cn (by rw[eq_of_beq hk];decide) ?_) λ_=>w_br (λhk=>w_cn (by rw[eq_of_beq hk];decide) ?_) λ_=>w_br (λhk=>w_cn (by rw[eq_of_beq hk];decide) ?_) λ_=>w_br (λhk=>w_cn (by rw[eq_of_beq hk];decide) ?_) (λ_=>m)
 all_goals(have hk:=eq_of_beq hk;subst hk)
 . exact⟨m.x0,and31 _,m.en,m.rt,m.ve⟩
 . exact⟨m.x0,m.st,and31 _,m.rt,m.ve⟩
 . exact⟨m.x0,m.st,m.en,and255' _,m.ve⟩
 . exact⟨m.x0,m.st,m.en,m.rt,andn3 _⟩
 . exact⟨m.x0,m.st,m.en,m.rt,m.ve⟩
 . exact⟨m.x0,m.st,m.en,m.rt,m.ve⟩
 . exact⟨m.x0,m.st,m.en,m.rt,m.ve⟩
 . exact⟨m.x0,m.st,m.en,m.rt,m.ve⟩
section
variable {c:Q05} (h:Q2j c) (m:Q66 c) {i:Q0m} (hi:Qgl i)
include h m hi
theorem Zie:(Q5a c i).w (λr=>Q66 r.1):=by
 unfold Q5a
 refine w_cn (rc hi.a) (w_cn (rc hi.b) ?_)
 repeat'(first
   |refine w_br (λ_=> ?_) (λ_=> ?_)
   |exact Q0f (Qx5 m hi.a _) λx hx=>hx.pc _
   |exact w_lv λx _=>w_br (λ_=>m.pc _) (λ_=>m.pc _)
   |exact w_lv λx hx=>by rw[hx];exact Qmg h m _ _
   |exact w_lv λx hx=>by rw[hx];exact Zp4 h m
   |exact w_cn (by have:=hi.csr (by simp_all);simp [bT];omega) (Q0f (Qx5 m hi.a _) λx hx=>hx.pc _)
   |exact Q0f (qg m _ _) λx hx=>hx.pc _
   |refine w_cn (rc hi.c) ?_
   |exact Q0f (Z8a _ (h.r _) (Q0u _)) λy hy=>Q0f (Qx5 m hi.a _) λx hx=>hx.pc _
   |exact Q0f (Z8a _ (h.r _) (h.r _)) λy hy=>Q0f (Qx5 m hi.a _) λx hx=>hx.pc _
   |refine w_lf ?_)
 all_goals exact m.pc _
theorem vG{P:Nat}{mem:List Int}(hm:Q15 P mem):(Qer c mem i).w (λr=>Q66 r.1):=by
 have w:=Z9z i.Op
 unfold Qer
 refine w_cn (rc hi.b) (w_lv λx0 h0=> ?_)
 rw[<-h0]at w
 refine Q0f (Qlc hm (Q0u _) w 2) λx1 h1=>w_br (λ_=>w_lv λy hy=>by rw[hy];exact Qmg h m _ _) (λ_=>w_lv λx3 h3=> ?_)
 rw[h0,<-h3]at w
 exact Q0f (Qs6 h1.2 h1.1 w) λx4 h4=>w_br (λ_=>Q0f (Qvy h4.1 8) λy hy=>Q0f (Qx5 m hi.a _) λx hx=>hx.pc _) (λ_=>Q0f (Qx5 m hi.a _) λx hx=>hx.pc _)
theorem xg{P:Nat}{mem:List Int}(hm:Q15 P mem):(Qcr c mem i).w (λr=>Q66 r.1):=by
 have w:=Z9z i.Op
 unfold Qcr
 refine w_cn (rc hi.b) (w_lv λx0 h0=> ?_)
 rw[<-h0]at w
 refine Q0f (Qlc hm (Q0u _) w 3) λx1 h1=>w_br (λ_=>w_lv λy hy=>by rw[hy];exact Qmg h m _ _) (λ_=>w_lv λx3 h3=>w_cn (rc hi.a) ?_)
 rw[h0,<-h3]at w
 exact Q0f (Z0w h1.2 h1.1 w (h.r _)) λx hx=>m.pc _
end
theorem qH{c:Q05}(h:Q2j c)(m:Q66 c){P:Nat}{mem:List Int}(hm:Q15 P mem):(Q7q c mem).w (λr=>Q66 r.1):=by
 unfold Q7q
 refine Q0f (Zbw hm h) λx0 h0=>w_br (λ_=>w_lv λy hy=>by rw[hy];exact Qmg h m _ _) (λ_=>Q0f (Z3u _) λx2 h2=>w_br (λ_=>w_lv λy hy=>by rw[hy];exact Qmg h m _ _) (λhb=> ?_))
 have hi:=h2 (by simpa using hb)
 refine w_lv λx4 _=> ?_
 repeat'(first
   |refine w_br (λ_=> ?_) (λ_=> ?_)
   |exact Q0f (vG h m hi h0.2) λx hx=>hx
   |exact Q0f (xg h m hi h0.2) λx hx=>hx
   |exact Q0f (Zie h m hi) λx hx=>hx
   |exact w_lv λy hy=>by rw[hy];exact Qmg h m _ _
   |refine w_lv λ_ _=> ?_)
theorem Zkk{c:Q05}(h:Q2j c){i:Q0m}(hi:Qgl i):(Q5a c i).w (λr=>0<=r.2.D9/\r.2.D9<16):=by
 have z:(0:Int)<=0/\(0:Int)<16:=⟨by decide,by decide⟩
 unfold Q5a
 refine w_cn (rc hi.a) (w_cn (rc hi.b) ?_)
 repeat'(first
   |refine w_br (λ_=> ?_) (λ_=> ?_)
   |exact Q0f (Qrb h hi.a (Q0u _)) λx hx=>z
   |exact w_lv λx _=>w_br (λ_=>z) (λ_=>z)
   |exact w_lv λx hx=>z
   |exact w_cn (by have:=hi.csr (by simp_all);simp [bT];omega) (Q0f (Qrb h hi.a (h.a _)) λx hx=>z)
   |exact Q0f (Zn0 h _ (h.r _)) λx hx=>z
   |refine w_cn (rc hi.c) ?_
   |exact Q0f (Z8a _ (h.r _) (Q0u _)) λy hy=>Q0f (Qrb h hi.a hy) λx hx=>z
   |exact Q0f (Z8a _ (h.r _) (h.r _)) λy hy=>Q0f (Qrb h hi.a hy) λx hx=>z
   |refine w_lf ?_)
 all_goals first|exact z|exact hi.a
theorem Zn4{c:Q05}(h:Q2j c){P:Nat}{mem:List Int}(hm:Q15 P mem):(Q7q c mem).w (λr=>0<=r.2.2.D9/\r.2.2.D9<16):=by
 have z:(0:Int)<=0/\(0:Int)<16:=⟨by decide,by decide⟩
 unfold Q7q
 refine Q0f (Zbw hm h) λx0 h0=>w_br (λ_=>w_lv λy hy=>z) (λ_=>Q0f (Z3u _) λx2 h2=>w_br (λ_=>w_lv λy hy=>z) (λhb=> ?_))
 have hi:=h2 (by simpa using hb)
 refine w_lv λx4 _=> ?_
 repeat'(first
   |refine w_br (λ_=> ?_) (λ_=> ?_)
   |exact Q0f (Z40 h hi h0.2) λx hx=>z
   |exact Q0f (Qy5 h hi h0.2) λx hx=>z
   |exact Q0f (Zkk h hi) λx hx=>hx
   |exact w_lv λy hy=>z
   |refine w_lv λ_ _=> ?_)
theorem cnd2{a x:Bool}:(bif a then false else x)=true↔a=false/\x=true:=by cases a<;>simp
theorem Qmv(m:Q00):Q1f m=true↔Q0z m.Mem≠0/\Q66 m.B2/\m.A1<=1152921504606846976/\ ¬(m.A7=true/\m.A9=true)/\Q10 m=true:=by
  rw[yX]
  unfold mayC chain
  rw[cnd2,cnd2,cnd2,cnd2,cnd2,cnd2,cnd2]
  simp only[decide_eq_false_iff_not,Int.not_lt,beq_eq_false_iff_ne,bne_eq_false_iff_eq,gt_iff_lt]
  constructor
  . rintro⟨a1,a2,a3,a4,a5,a6,a7,a8⟩
    refine⟨a1,⟨a2,a3,a4,a5,a6⟩,a7,?_,?_⟩
    . rintro⟨w,h⟩;rw[w,h]at a8;cases a8
    . revert a8;cases m.A7
      . exact λh=>h
      . cases m.A9
        . exact λh=>h
        . intro h;cases h
  . rintro⟨a1,⟨a2,a3,a4,a5,a6⟩,a7,a8,a9⟩
    refine⟨a1,a2,a3,a4,a5,a6,a7,?_⟩
    rw[a9]
    cases hw:m.A7
    . rfl
    . cases hh:m.A9
      . rfl
      . exact absurd ⟨hw,hh⟩ a8
theorem Z12{m:Q00}(h:Q2s m=true):Q1f m=true/\m.A9=false/\m.A1<1152921504606846976:=by
  simp only[Q2s,Q47,Tree.m,letv]at h
  cases h1:Q1f m
  . rw[h1]at h;cases h
  . cases h2:m.A9
    . rw[h1,h2]at h
      cases h3:Q4c m
      . rw[h3]at h
        have h:decide (m.A1<1152921504606846976)=true:=h
        exact⟨rfl,rfl,oY h⟩
      . rw[h3]at h;cases h
    . rw[h1,h2]at h;cases h
theorem Qu{P:Nat}{m:Q00}(h:okS P m)(g:Q66 m.B2):(Q2z m).w (λr=>Q66 r.B2/\okS P r/\r.Mem=m.Mem/\r.A7=false/\r.A9=m.A9/\r.A1=m.A1/\r.A4=m.A4/\r.B0=m.B0/\r.B1=m.B1/\r.C5=m.C5/\r.A2=m.A2):=by
 obtain⟨h1,h2,h3,h4,h5,h6⟩:=h
 unfold Q2z
 refine w_br (λ_=>⟨g,⟨h1,h2,h3,h4,h5,h6⟩,rfl,rfl,rfl,rfl,rfl,rfl,rfl,rfl,rfl⟩) (λ_=>Q0f (Qxh (m:=⟨_,_,_,_,_,_,m.A2,_,_,_⟩) h6) λx0 _=>w_lp (inv:=λz=>0<=z/\z<=5) (μ:=Qcq m) ⟨by omega,by omega⟩ (cK _) (λz hz=> ?_))
 obtain⟨z1,z2⟩:=hz
 refine w_br (λhb=>w_cn (dY z1) (w_br (λ_=>w_lv λx1 hx=>⟨by rw[hx];exact Qmg h1 g _ _,⟨by rw[hx];exact Qpp h1 _ U_0,h2,h3,h4,h5,h6⟩,rfl,rfl,rfl,rfl,rfl,rfl,rfl,rfl,rfl⟩) (λ_=>w_nx ?_))) (λ_=>⟨g,⟨h1,h2,h3,h4,h5,h6⟩,rfl,rfl,rfl,rfl,rfl,rfl,rfl,rfl,rfl⟩)
 have hb:=oY hb
 show(0<=i64.wrap (z+1)/\i64.wrap (z+1)<=5)/\(5-i64.wrap (z+1)).toNat<(5-z).toNat
 have ew:i64.wrap (z+1)=z+1:=by rw[wrap_i64];omega
 rw[ew];omega
structure Good(P:Nat)(m r:Q00):Prop where
 ok:okS P r
 cnt:0<=r.A1
 may:Q1f m=true->Q1f r=true
 or:r=m\/r.A1=m.A1+1
theorem zg{P:Nat}{m:Q00}(h:okS P m)(hc0:0<=m.A1){clock:Int}(hk:U clock):(Q38 m clock).w (λr=>r.2.length<=1/\Good P m r.1):=by
 have hcl:Q04 m.Mem=m.Mem:=rfl
 unfold Q38
 refine w_an (Q9n h.mem) (w_lv λl hl=> ?_)
 rw[hcl]at hl;subst hl
 refine w_an (Tree.pp (Zis (m:=⟨_,_,_,_,_,_,m.A2,_,_,_⟩) h.given)).1 (w_lv λx1 hx1=>w_br (λ_=>⟨aT _,h,hc0,λh=>h, .inl rfl⟩) (λhb=> ?_))
 have hr:Q2s m=true:=by rw[<-show x1=Q2s m from hx1];simpa using hb
 obtain⟨hm,hh,hct⟩:=Z12 hr
 obtain⟨g1,g2,g3,g4,g5⟩:=(Qmv m).1 hm
 have hP:(P:Int)≠0:=by rw[<-Q3u h.mem];exact g1
 have fin: ∀(n:Q00),okS P n->Q66 n.B2->Q10 n=true->n.A1=m.A1-> ¬(n.A7=true/\n.A9=true)->Good P m {B2:=n.B2,Mem:=n.Mem,A4:=n.A4,B0:=n.B0,B1:=n.B1,C5:=n.C5,A2:=n.A2,A1:=wrap .u64 (n.A1+1),A7:=n.A7,A9:=n.A9}:=λn a b c d e=>by
   have ec:wrap .u64 (n.A1+1)=m.A1+1:=by rw[d,wrap_u64];omega
   refine⟨⟨a.cpu,a.mem,a.disk,a.nic,a.target,a.given⟩,?_,λ_=>(Qmv _).2 ⟨?_,b,?_,e,c⟩, .inr ec⟩
   . show 0<=wrap .u64 (n.A1+1);omega
   . show Q0z n.Mem≠0;rw[Q3u a.mem];exact hP
   . show wrap .u64 (n.A1+1)<=_;omega
 refine Q0f (Qu (m:=⟨_,_,m.A4,m.B0,m.B1,m.C5,m.A2,m.A1,m.A7,m.A9⟩) ⟨h.cpu,h.mem,h.disk,h.nic,h.target,h.given⟩ g2) λx2 hx2=> ?_
 obtain⟨b1,b2,b3,b4,b5,b6,b7,b8,b9,b10,b11⟩:=hx2
 have ex:=Tree.pp (zw b2.cpu b2.mem)
 have em:=Tree.pp (qH b2.cpu b1 b2.mem)
 have er:=Tree.pp (Zn4 b2.cpu b2.mem)
 refine w_an ex.1 (w_lv λx3 h3=> ?_)
 obtain⟨e1,e2,e3⟩:Q2j x3.1/\Q15 P x3.2.1/\U x3.2.2.Value:=by rw[h3];exact ex.2
 have f1:Q66 x3.1:=by rw[h3];exact em.2
 have r1:0<=x3.2.2.D9/\x3.2.2.D9<16:=by rw[h3];exact er.2
 have ok3:okS P ⟨x3.1,x3.2.1,x2.A4,x2.B0,x2.B1,x2.C5,x2.A2,x2.A1,x2.A7,x2.A9⟩:=⟨e1,e2,b2.disk,b2.nic,b2.target,b2.given⟩
 have dev: ∀(w h:Bool),Q10 ⟨x3.1,x3.2.1,x2.A4,x2.B0,x2.B1,x2.C5,x2.A2,x2.A1,w,h⟩=true:=λw hh=>by
   have id: ∀{p:Prop},p->p:=λh=>h
   refine Qqr (m:=m) (P:=P) h.mem e2 ?_ ?_ ?_ ?_ ?_ g5
   . show _->Q2c x2.A4=true;rw[b7];exact id
   . show _->Q4g x2.B0=true;rw[b8];exact id
   . show _->Q1l x2.B1 P=true;rw[b9];exact id
   . show _->Q69 x2.C5 P=true;rw[b10];exact id
   . show _->Q2o x2.A2 P=true;rw[b11];exact id
 have hw:x2.A7=false:=b4
 have hh2:x2.A9=false:=b5.trans hh
 have hct2:x2.A1=m.A1:=b6
 refine w_br (λ_=> ?_) λ_=>w_br (λ_=> ?_) λ_=>w_br (λ_=> ?_) λ_=>w_br (λ_=> ?_) λ_=> ?_
 . refine Q0f (Znv ok3 _ hk) λx4 h4=> ?_
   obtain⟨k,u⟩:=h4
   have kc:x4.1.B2=x3.1:=k.cpu
   have kt:x4.1.A1=m.A1:=k.cnt.trans hct2
   have kw: ¬(x4.1.A7=true/\x4.1.A9=true):=λe=>by have:x4.1.A7=x2.A7:=k.wait;rw[this,hw]at e;cases e.1
   have km:Q66 x4.1.B2:=by rw[kc];exact f1
   refine w_br (λhn=>w_cn (rc r1) ⟨aT _,?_⟩) (λ_=>⟨aT _,fin x4.1 k.ok km (k.dev (dev _ _)) kt kw⟩)
   have hn:x3.2.2.D9≠0:=by simpa using hn
   obtain⟨q,e⟩: ∃q:Nat,x3.2.2.D9.toNat=q+1:=⟨x3.2.2.D9.toNat-1,by omega⟩
   refine fin ⟨⟨A16.of 0 (dD (A16.l x4.1.B2.X) x3.2.2.D9.toNat x4.2),x4.1.B2.Pc,x4.1.B2.B5⟩,x4.1.Mem,x4.1.A4,x4.1.B0,x4.1.B1,x4.1.C5,x4.1.A2,x4.1.A1,x4.1.A7,x4.1.A9⟩ ⟨⟨Zkb k.ok.cpu.x u _,k.ok.cpu.pc,k.ok.cpu.csr⟩,k.ok.mem,k.ok.disk,k.ok.nic,k.ok.target,k.ok.given⟩ ⟨?_,km.st,km.en,km.rt,km.ve⟩ (k.dev (dev _ _)) kt kw
   show(A16.of 0 (dD (A16.l x4.1.B2.X) x3.2.2.D9.toNat x4.2)).a0=0
   rw[e]
   exact km.x0
 . refine Q0f (Zin ok3 _ e3 _) λx5 h5=> ?_
   obtain⟨k,u⟩:=h5
   have kc:x5.1.B2=x3.1:=k.cpu
   exact⟨u,fin x5.1 k.ok (by rw[kc];exact f1) (k.dev (dev _ _)) (k.cnt.trans hct2) (λe=>by have:x5.1.A7=x2.A7:=k.wait;rw[this,hw]at e;cases e.1)⟩
 . exact⟨aT _,fin ⟨x3.1,x3.2.1,x2.A4,x2.B0,x2.B1,x2.C5,x2.A2,x2.A1,true,x2.A9⟩ ⟨e1,e2,b2.disk,b2.nic,b2.target,b2.given⟩ f1 (dev _ _) hct2 (λe=>by have e2:x2.A9=true:=e.2;rw[hh2]at e2;cases e2)⟩
 . exact⟨aT _,fin ⟨x3.1,x3.2.1,x2.A4,x2.B0,x2.B1,x2.C5,x2.A2,x2.A1,x2.A7,true⟩ ⟨e1,e2,b2.disk,b2.nic,b2.target,b2.given⟩ f1 (dev _ _) hct2 (λe=>by have e2:x2.A7=true:=e.1;rw[hw]at e2;cases e2)⟩
 . exact⟨aT _,fin ⟨x3.1,x3.2.1,x2.A4,x2.B0,x2.B1,x2.C5,x2.A2,x2.A1,x2.A7,x2.A9⟩ ok3 f1 (dev _ _) hct2 (λe=>by have e2:x2.A7=true:=e.1;rw[hw]at e2;cases e2)⟩
theorem Zmh{P:Nat}{m:Q00}(h:okM P m){e:Q0a}(he:U e.N):(Q4e m e).w (λr=>(Q1f m=true->Q1f r.1=true)/\r.1.A1=m.A1/\U r.1.A2.C3):=by
 obtain⟨h1,h2,h3,h4,h5,h7⟩:=h
 have hcl:Q04 m.Mem=m.Mem:=rfl
 have pg: ∀{m':List Int},Q15 P m'->Q0z m'=Q0z m.Mem:=λh=>by rw[Q3u h,Q3u h2]
 have keep:(Q1f m=true->Q1f m=true)/\m.A1=m.A1/\U m.A2.C3:=⟨λh=>h,rfl,h5.2⟩
 unfold Q4e
 refine w_an (Q9n h2) (w_lv λl hl=> ?_)
 rw[hcl]at hl;subst hl
 refine Q0f (Zmj (m:=⟨_,_,_,_,_,_,m.A2,_,_,_⟩) h5.2) λx1 _=>w_br (λ_=>keep) λ_=>w_br (λ_=>keep) λ_=> ?_
 refine w_br (λ_=>w_br (λ_=>w_br (λ_=>w_lv λx hx=> ?_) (λ_=>keep)) (λ_=>keep)) λ_=>w_br (λ_=>w_br (λ_=>w_br (λ_=>Q0f (qag _ _) λx hx=> ?_) (λ_=>keep)) (λ_=>keep)) λ_=>w_br (λhk=>Q0f (Zp1 h2 h3 e) λx hx=> ?_) λ_=>w_br (λhk=>w_br (λ_=>Q0f (qf h2 h4 _) λx hx=> ?_) (λ_=>keep)) λ_=>w_br (λ_=>w_br (λ_=> ?_) (λ_=>keep)) (λ_=>keep)
 . exact⟨Quq rfl rfl rfl rfl rfl (λh=>h) (λh=>by rw[hx];exact zG _ h) (λ_ h=>h) (λ_ h=>h) rfl,rfl,h5.2⟩
 . exact⟨Quq rfl rfl rfl rfl rfl hx (λh=>h) (λ_ h=>h) (λ_ h=>h) rfl,rfl,h5.2⟩
 . obtain⟨a1,a2,a3,a4,a5⟩:=hx
   exact⟨Quq (pg a2) rfl rfl rfl rfl (λh=>h) (λh=>h) a5 (λ_ h=>h) rfl,rfl,h5.2⟩
 . obtain⟨a1,a2,a3,a4,a5⟩:=hx
   exact⟨Quq (pg a2) rfl rfl rfl rfl (λh=>h) (λh=>h) (λ_ h=>h) a5 rfl,rfl,h5.2⟩
 . exact⟨Quq rfl rfl rfl rfl rfl (λh=>h) (λh=>h) (λ_ h=>h) (λ_ h=>h) rfl,rfl,h5.2⟩
structure okW(m:Q00):Prop where
 cpu:Q2j m.B2
 u: ∀w∈m.Mem,U w
 len:m.Mem.length<=1024
 disk:Q99 m.B1
 nic:Qjx m.C5
 bal:okB m.A2
 cnt:0<=m.A1
theorem Qw3{a:Int}(h:U a):(dU 32 a).toNat=a.toNat:=by
 obtain⟨h1,h2⟩:=h
 rw[dV];omega
theorem Zii{a b:Int}(ha:U a)(hb:U b):iand .u32 a b=((a.toNat&&&b.toNat:Nat):Int):=by
 have l:=(dU 32 a&&&dU 32 b).isLt
 have e:(dU 32 a&&&dU 32 b).toNat=a.toNat&&&b.toNat:=by rw[dX,Qw3 ha,Qw3 hb]
 show wrap .u32 ((dU 32 a&&&dU 32 b).toNat:Int)=_
 rw[wrap_u32,<-e];omega
theorem qaG{a b:Int}(ha:U a)(hb:U b):ior .u32 a b=((a.toNat|||b.toNat:Nat):Int):=by
 have l:=(dU 32 a|||dU 32 b).isLt
 have e:(dU 32 a|||dU 32 b).toNat=a.toNat|||b.toNat:=by rw[dW,Qw3 ha,Qw3 hb]
 show wrap .u32 ((dU 32 a|||dU 32 b).toNat:Int)=_
 rw[wrap_u32,<-e];omega
theorem Zcm{a:Int}(ha:U a)(k:Nat)(hk:k<=32){q:Int}(hq:q=((2^k-1:Nat):Int)):iand .u32 a q=a%2^k:=by
 have hp:2^k<=2^32:=dQ (by decide) hk
 have h1:(2:Nat)^32=4294967296:=by decide
 have hpos:=eF k
 subst hq
 rw[Zii ha ⟨by omega,by omega⟩,eB,Nat.and_two_pow_sub_one_eq_mod]
 have:=ha.1
 rw[Int.natCast_emod,eG this]
 simp
theorem m15{a:Int}(ha:U a):iand .u32 a 15=a%16:=Zcm ha 4 (by decide) rfl
theorem m255{a:Int}(ha:U a):iand .u32 a 255=a%256:=Zcm ha 8 (by decide) rfl
theorem m65535{a:Int}(ha:U a):iand .u32 a 65535=a%65536:=Zcm ha 16 (by decide) rfl
theorem Quo(p:Int->Bool)(N:Nat)(h:(dA N).all (λn=>p n)=true){s:Int}(h0:0<=s)(h1:s<N):p s=true:=by
 have:=List.all_eq_true.1 h s.toNat (List.mem_range.2 (by omega))
 rwa [eG h0]at this
theorem w64{x:Int}(h0: -9223372036854775808<=x)(h1:x<9223372036854775808):wrap .i64 x=x:=by rw[wrap_i64];omega
theorem shr0(a:Int):ishr .u32 a 0=a:=by have:=Qrd (a:=a) 0 (by decide);simpa using this
theorem fld(w:Int):Q34 w 24 8=iand .u32 (ishr .u32 w 24) 255/\Q34 w 20 4=iand .u32 (ishr .u32 w 20) 15/\Q34 w 16 4=iand .u32 (ishr .u32 w 16) 15/\Q34 w 0 16=iand .u32 (ishr .u32 w 0) 65535/\Q34 w 8 8=iand .u32 (ishr .u32 w 8) 255:=
 ⟨by kernel_rfl,by kernel_rfl,by kernel_rfl,by kernel_rfl,by kernel_rfl⟩
def useOf(f:Int):Q97×Bool:=
 bif f==1 then(⟨false,false,false,0,0⟩,true) else bif f==2 then(⟨true,true,true,0,0⟩,true) else bif f==3 then(⟨true,true,false,-32768,32767⟩,true)
 else bif f==4 then(⟨true,true,false,0,65535⟩,true) else bif f==5 then(⟨true,true,false,0,31⟩,true) else bif f==6 then(⟨true,false,false,0,65535⟩,true)
 else bif f==7 then(⟨true,false,false,-32768,32767⟩,true) else bif f==8 then(⟨true,false,false,0,7⟩,true) else bif f==9 then(⟨true,false,false,0,11⟩,true) else(⟨false,false,false,0,0⟩,false)
def sameU(x y:Q97×Bool):Bool:=x.1.a==y.1.a&&x.1.b==y.1.b&&x.1.c==y.1.c&&x.1.low==y.1.low&&x.1.D6==y.1.D6&&x.2==y.2
theorem xH{x y:Q97×Bool}(h:sameU x y=true):x=y:=by
 obtain⟨⟨a,b,c,d,e⟩,f⟩:=x
 obtain⟨⟨a',b',c',d',e'⟩,f'⟩:=y
 simp only[sameU,aE,beq_iff_eq]at h
 obtain⟨⟨⟨⟨⟨rfl,rfl⟩,rfl⟩,rfl⟩,rfl⟩,rfl⟩:=h
 rfl
theorem vX{op:Int}(h0:0<=op)(h1:op<256):Z3 op=useOf (Q2d op):=by
 exact xH (Quo (λop=>sameU (Z3 op) (useOf (Q2d op))) 256 (by kernel_rfl) h0 h1)
theorem yg{op:Int}(h0:0<=op)(h1:op<256):Q2d op=0\/Q2d op=1\/Q2d op=2\/Q2d op=3\/Q2d op=4\/Q2d op=5\/Q2d op=6\/Q2d op=7\/Q2d op=8\/Q2d op=9:=by
 have:=oY (Quo (λop=>decide (0<=Q2d op/\Q2d op<=9)) 256 (by kernel_rfl) h0 h1)
 omega
theorem zah{op:Int}(h0:0<=op)(h1:op<256):Q8y op=Q3h op:=by
 exact eq_of_beq (Quo (λop=>Q8y op==Q3h op) 256 (by kernel_rfl) h0 h1)
theorem zH{a x y:Bool}:(cond a x y=true)↔((a=true/\x=true)\/(a=false/\y=true)):=by cases a<;>simp
theorem Zbe{i:Q0m}(h0:0<=i.Op)(h1:i.Op<256)(hi:wrap .i64 i.Imm=i.Imm):Qfy i=Q7h i:=by
 rw[eH]
 simp only[Qfy,Qjg,Tree.m,letv,Q7h,Qfr,vX h0 h1,hi]
 rcases yg h0 h1 with h|h|h|h|h|h|h|h|h|h<;>rw[h]<;>
 simp [useOf,Qa3,Qfk,Q8a,Qe,Qmc,Qn8,Tree.m,letv,zH]<;>omega
theorem sx16{x:Int}(h0:0<=x)(h1:x<65536):wrap .i32 (Q2g x 16)=wrap .i32 (wrap .i16 x):=by
 have e:Q2g x 16=wrap .u32 (ishr .i32 (wrap .i32 (ishl .u32 x 16)) 16):=by kernel_rfl
 have e2: ∀y,ishr .i32 y 16=y/65536:=λy=>by
   show eI y 65536=_
   rw[dL _ (by decide)]
 have e3:ishl .u32 x 16=wrap .u32 (x*65536):=rfl
 have e4:wrap .i16 x=(x+32768)%65536-32768:=by
   simp [wrap,IntKind.bits,IntKind.signed]
   split<;>omega
 rw[e,e2,e3,e4]
 simp only[wrap_i32,wrap_u32]
 omega
theorem sx8{x:Int}(h0:0<=x)(h1:x<256):Q2g x 8=Q3i x 8:=by
 exact eq_of_beq (Quo (λx=>Q2g x 8==Q3i x 8) 256 (by kernel_rfl) h0 h1)
theorem vg{w:Int}(hw:U w):Qhz w=Q21 w:=by
 obtain⟨f1,f2,f3,f4,_⟩:=fld w
 obtain⟨w0,w1⟩:=hw
 have s24:ishr .u32 w 24=w/16777216:=by have:=Qrd (a:=w) 24 (by decide);simpa using this
 have s20:U (ishr .u32 w 20):=Qxx ⟨w0,w1⟩ _
 have s16:U (ishr .u32 w 16):=Qxx ⟨w0,w1⟩ _
 rw[m255 (Qxx ⟨w0,w1⟩ _),s24]at f1
 rw[m15 s20]at f2
 rw[m15 s16]at f3
 rw[shr0]at f4
 have g1:w/16777216%256=w/16777216:=by omega
 rw[g1]at f1
 have o0:0<=w/16777216:=by omega
 have o1:w/16777216<256:=by omega
 have eo:wrap .i64 (w/16777216)=w/16777216:=w64 (by omega) (by omega)
 have i32: ∀x,wrap .i64 (wrap .i32 x)=wrap .i32 x:=λx=>by rw[wrap_i64,wrap_i32];omega
 have l0:=m65535 ⟨w0,w1⟩
 have lx:=sx16 (x:=iand .u32 w 65535) (by omega) (by omega)
 simp only[Qhz,Q7w,Q21,Q6o,Tree.m,letv,f1,f2,f3,f4,s24,eo,vX o0 o1,m15 s20,m15 s16,lx]
 generalize w/16777216=op at*
 generalize wrap .i64 (ishr .u32 w 20%16)=a
 generalize wrap .i64 (ishr .u32 w 16%16)=b
 generalize iand .u32 w 65535=l
 rw[Zbe (i:=⟨op,a,b,wrap .i64 l,0⟩) o0 o1 rfl,Zbe (i:=⟨op,a,b,0,wrap .i32 (wrap .i16 l)⟩) o0 o1 (i32 _),Zbe (i:=⟨op,a,b,0,wrap .i32 l⟩) o0 o1 (i32 _)]
 rcases yg o0 o1 with h|h|h|h|h|h|h|h|h|h<;>rw[h]<;>rfl
theorem xah(x v:BitVec 32)(s:Nat)(hs:s<=24):((x&&&~~~(255#32<<<s))|||((v&&&255#32)<<<s)).toNat=2^(s+8)*(x.toNat/2^(s+8))+(2^s*(v.toNat%256)+x.toNat%2^s):=by
  have hx:=x.isLt
  have h1:x.toNat%2^s<2^s:=Nat.mod_lt _ (eF s)
  have h2:2^s*(v.toNat%256)+x.toNat%2^s<2^(s+8):=by
    have:v.toNat%256<256:=Nat.mod_lt _ (by decide)
    have h3:2^s*(v.toNat%256)<=2^s*255:=Nat.mul_le_mul_left _ (by omega)
    have:2^(s+8)=2^s*256:=by rw[Nat.pow_add]
    omega
  rw[eJ h2,eJ h1]
  apply eK
  intro i
  rw[BitVec.testBit_toNat]
  simp only[BitVec.getLsbD_or,BitVec.getLsbD_and,BitVec.getLsbD_not,BitVec.getLsbD_shiftLeft,Nat.testBit_or,Nat.testBit_two_pow_mul,eL,Nat.testBit_div_two_pow,BitVec.getLsbD_ofNat]
  have e255: ∀j,eM 255 j=decide (j<8):=λj=>by
    rw[show 255=2^8-1 from rfl,Nat.testBit_two_pow_sub_one]
  have e256: ∀n j,eM (n%256) j=(decide (j<8)&&eM n j):=λn j=>by
    rw[show 256=2^8 from rfl,eL]
  rw[e255,e256]
  by_cases hi:i<32
  . by_cases a1:i<s
    . have a2: ¬(s<=i):=by omega
      have a3: ¬(s+8<=i):=by omega
      simp [hi,a1,a2,a3,eN]
    . by_cases a4:s+8<=i
      . have a2: ¬(i-s<8):=by omega
        have a5:i-(s+8)+(s+8)=i:=by omega
        have a6:s<=i:=by omega
        simp [hi,a1,a2,a4,a5,a6,eN]
      . have a2:(i-s<8):=by omega
        have a6:s<=i:=by omega
        have a7:i-s<32:=by omega
        simp [hi,a1,a2,a4,a6,a7,eN]
  . have a0:x.toNat.testBit i=false:=Nat.testBit_lt_two_pow (Nat.lt_of_lt_of_le hx (dQ (by decide) (by omega)))
    have a1: ¬(i<s):=by omega
    have a2: ¬(i-s<8):=by omega
    have a4:s+8<=i:=by omega
    have a5:i-(s+8)+(s+8)=i:=by omega
    simp [hi,a0,a1,a2,a4,a5]
theorem Z8u(b:BitVec 32):dU 32 (wrap .u32 (b.toNat:Int))=b:=by
 have:=b.isLt
 rw[wrap_u32]
 apply eO
 rw[dV];omega
theorem Znu(x:Int):dU 32 (wrap .u32 x)=dU 32 x:=by
 apply eO
 rw[dV,dV,wrap_u32]
 have:((2^32:Nat):Int)=4294967296:=by decide
 rw[this,Int.emod_emod_of_dvd _ (Int.dvd_refl _)]
theorem Zf7{x:Int}(hx:U x)(s:Nat)(hs:s<=32):dU 32 (ishl .u32 x s)=dU 32 x<<<s:=by
 obtain⟨n,rfl⟩: ∃n:Nat,x=n:=⟨x.toNat,by have:=hx.1;omega⟩
 have e:min (dC (s:Int)) u32.bits=s:=by show min (dC (s:Int)) 32=s;omega
 unfold ishl
 rw[e,Znu]
 have e2:((n:Int)*2^s)=((n*2^s:Nat):Int):=by simp
 have:=hx.2
 rw[e2,eQ,eQ]
 apply eO
 rw[BitVec.toNat_shiftLeft,eR,eR,Nat.shiftLeft_eq,Nat.mod_mul_mod]
def putW(W v:Int)(s:Nat):Int:=ior .u32 (Qhj .u32 W (ishl .u32 255 s)) (ishl .u32 (iand .u32 v 255) s)
theorem qai{W v:Int}(hW:U W)(hv:U v)(s:Nat)(hs:s<=24):putW W v s=2^(s+8)*(W/2^(s+8))+(2^s*(v%256)+W%2^s):=by
 have e:=xah (dU 32 W) (dU 32 v) s hs
 have l:=((dU 32 W&&&~~~(255#32<<<s))|||((dU 32 v&&&255#32)<<<s)).isLt
 have h1:dU 32 (Qhj .u32 W (ishl .u32 255 s))=dU 32 W&&&~~~(255#32<<<s):=by
   show dU 32 (wrap .u32 (dU 32 W&&&~~~dU 32 (ishl .u32 255 s)).toNat)=_
   rw[Z8u,Zf7 ⟨by decide,by decide⟩ s (by omega)]
   rfl
 have h2:dU 32 (ishl .u32 (iand .u32 v 255) s)=(dU 32 v&&&255#32)<<<s:=by
   rw[Zf7 (Zk7 _ _) s (by omega)]
   congr 1
   show dU 32 (wrap .u32 (dU 32 v&&&dU 32 255).toNat)=_
   rw[Z8u];rfl
 show wrap .u32 ((dU 32 (Qhj .u32 W (ishl .u32 255 s))|||dU 32 (ishl .u32 (iand .u32 v 255) s)).toNat:Int)=_
 rw[h1,h2]
 have lw:wrap .u32 ((((dU 32 W&&&~~~(255#32<<<s))|||((dU 32 v&&&255#32)<<<s)).toNat:Nat):Int)=(((dU 32 W&&&~~~(255#32<<<s))|||((dU 32 v&&&255#32)<<<s)).toNat:Nat):=by rw[wrap_u32];omega
 rw[lw,e,Qw3 hW,Qw3 hv]
 obtain⟨n,rfl⟩: ∃n:Nat,W=n:=⟨W.toNat,by have:=hW.1;omega⟩
 obtain⟨k,rfl⟩: ∃n:Nat,v=n:=⟨v.toNat,by have:=hv.1;omega⟩
 simp
def dig(w:Int)(k:Nat):Int:=if k=0 then w%256 else if k=1 then w/256%256 else if k=2 then w/65536%256 else w/16777216%256
def byt(m:List Int)(a:Nat):Int:=dig (m.getD (a/4) 0) (a%4)
theorem qh(w:Int)(k:Nat):0<=dig w k/\dig w k<256:=by
 unfold dig
 split
 . omega
 . split
   . omega
   . split<;>omega
theorem zai{w v:Int}(hw:U w)(hv:U v)(h: ∀k,k<4->dig w k=dig v k):w=v:=by
 have h0:=h 0 (by omega)
 have h1:=h 1 (by omega)
 have h2:=h 2 (by omega)
 have h3:=h 3 (by omega)
 simp [dig]at h0 h1 h2 h3
 obtain⟨a,b⟩:=hw
 obtain⟨c,d⟩:=hv
 omega
theorem Zi8{m n:List Int}(hl:m.length=n.length)(hm: ∀w∈m,U w)(hn: ∀w∈n,U w)(h: ∀a,byt m a=byt n a):m=n:=by
 refine bM hl λi h1 h2=> ?_
 have e1:m[i]=m.getD i 0:=by simp [aK,h1]
 have e2:n[i]=n.getD i 0:=by simp [aK,h2]
 rw[e1,e2]
 refine zai (Qln hm i) (Qln hn i) λk hk=> ?_
 have:=h (4*i+k)
 simp only[byt]at this
 rwa [show(4*i+k)/4=i by omega,show(4*i+k)%4=k by omega]at this
theorem Qv0{l:List Int}{i:Nat}(h:i<l.length)(v:Int):(l.set i v).getD i 0=v:=by
 simp [aK,h]
theorem Zk5{m:List Int}{i:Nat}(hi:i<m.length)(v:Int)(a:Nat):byt (m.set i v) a=if a/4=i then dig v (a%4) else byt m a:=by
 unfold byt
 split
 . rename_i h;rw[h,Qv0 hi]
 . rename_i h;rw[getDset _ _ _ _ (λe=>h e.symm)]
theorem xai{W v:Int}(hW:U W)(hv:U v){j:Nat}(hj:j<4){k:Nat}(hk:k<4):dig (putW W v (8*j)) k=if k=j then v%256 else dig W k:=by
 have h:=qai hW hv (8*j) (by omega)
 rw[h]
 obtain⟨w0,w1⟩:=hW
 have h0:0<=v%256:=by omega
 have h1:v%256<256:=by omega
 generalize v%256=b at*
 clear h
 have hj:j=0\/j=1\/j=2\/j=3:=by omega
 have hk:k=0\/k=1\/k=2\/k=3:=by omega
 rcases hj with rfl|rfl|rfl|rfl<;>rcases hk with rfl|rfl|rfl|rfl<;>simp [dig]<;>omega
theorem qaj{m:List Int}{a v:Int}(ha:U a):Qak m a 1 v=m.set (a/4).toNat (putW (m.getD (a/4).toNat 0) v (8*(a%4).toNat)):=by
 obtain⟨a0,a1⟩:=ha
 have e1:wrap .u32 (eS a 4)=a/4:=by rw[wrap_u32,eT a0];omega
 have e2:wrap .u32 (8*dB a 4)=((8*(a%4).toNat:Nat):Int):=by rw[wrap_u32,eD a0];omega
 have e3:((1:Int)==4)=false:=rfl
 simp only[Qak,Qf0,Tree.m,e1,e2,e3,cond_false]
 rfl
theorem xh{P:Nat}{m:List Int}(h:Q15 P m){a v:Int}(ha:U a)(hl:a<128*P)(hv:U v):Q15 P (Qak m a 1 v)/\ ∀b:Nat,byt (Qak m a 1 v) b=if(b:Int)=a then v%256 else byt m b:=by
 have hlen:=h.len
 have a0:=ha.1
 rw[qaj ha]
 have hi:(a/4).toNat<m.length:=by omega
 refine⟨⟨by rw[dE];exact hlen,h.p1,h.p2,Z78 h.u (U_or _ _) _⟩,λb=> ?_⟩
 rw[Zk5 hi]
 by_cases hb:b/4=(a/4).toNat
 . rw[if_pos hb,xai (Qln h.u _) hv (by omega) (by omega)]
   by_cases hc:b%4=(a%4).toNat
   . rw[if_pos hc,if_pos (by omega)]
   . rw[if_neg hc,if_neg (by omega),byt,hb]
 . rw[if_neg hb,if_neg (by omega)]
theorem qY{P:Nat}{m:List Int}(h:Q15 P m){frame:Int}(f0:0<=frame)(f1:frame<P)(s:List UInt8):(Qa1 m frame s).w (λr=>Q15 P r/\ ∀b:Nat,byt r b=if frame*128<=b/\(b:Int)<frame*128+min s.length 128 then((s.getD (b-frame*128).toNat 0).toNat:Int) else byt m b):=by
 unfold Qa1
 have h3:=h.p2
 refine w_lp (inv:=λz=>0<=z.1/\z.1<=min s.length 128/\Q15 P z.2/\ ∀b:Nat,byt z.2 b=if frame*128<=b/\(b:Int)<frame*128+z.1 then((s.getD (b-frame*128).toNat 0).toNat:Int) else byt m b) (μ:=Qi6 m frame s) ⟨show(0:Int)<=0 by decide,by show(0:Int)<=_;omega,h,λb=>by rw[if_neg];show¬(_/\_<_+(0:Int));omega⟩ (cK _) (λv0 hv0=> ?_)
 obtain⟨i,mm⟩:=v0
 obtain⟨i0,i1,hm,hy⟩:=hv0
 have i0:0<=i:=i0
 have i1:i<=min s.length 128:=i1
 have hm:Q15 P mm:=hm
 have fin: ∀r:List Int,r=mm->i=min s.length 128->Q15 P r/\ ∀b:Nat,byt r b=if frame*128<=b/\(b:Int)<frame*128+min s.length 128 then((s.getD (b-frame*128).toNat 0).toNat:Int) else byt m b:=λr hr hi=>by
   subst hr;refine⟨hm,λb=> ?_⟩
   rw[hy b];simp only[hi]
 refine w_br (λh1=>w_br (λh2=>w_cn ?_ ?_) (λh2=>fin mm rfl ?_)) (λh1=>fin mm rfl ?_)
 . have:=oY h1
   simp [bT];omega
 . have h1:i<s.length:=oY h1
   have h2:i<128:=oY h2
   have e:wrap u32 (wrap i64 (wrap i64 (frame*128)+i))=frame*128+i:=by
     rw[wrap_u32,wrap_i64,wrap_i64];omega
   show(Tree.an (Qg5 mm (wrap u32 (wrap i64 (wrap i64 (frame*128)+i))) 1 _) (Tree.lv _ _)).w _
   rw[e]
   have hu:U (frame*128+i):=⟨by omega,by omega⟩
   have hvU: ∀n:Nat,U (wrap .u32 (n:Int)):=λn=>Q0u _
   obtain⟨g1,_⟩:=Tree.pp (put_w hm (size:=1) (addr:=frame*128+i) hu (by rw[hm.len];omega) (hvU (eU (s.getD i.toNat 0))))
   obtain⟨g2,g3⟩:=xh hm hu (by omega) (hvU (eU (s.getD i.toNat 0)))
   refine w_an g1 (w_lv λx0 hx0=> ?_)
   rw[hx0]
   have ew:i64.wrap (i+1)=i+1:=by rw[wrap_i64];omega
   refine w_nx ?_
   show(0<=i64.wrap (i+1)/\i64.wrap (i+1)<=min s.length 128/\Q15 P _/\ ∀b:Nat,byt _ b=if frame*128<=b/\(b:Int)<frame*128+i64.wrap (i+1) then _ else _)/\(128-i64.wrap (i+1)).toNat<(128-i).toNat
   rw[ew]
   refine⟨⟨by omega,by omega,g2,λb=> ?_⟩,by omega⟩
   rw[show Qak mm (frame*128+i) 1 _=_ from rfl,g3 b]
   by_cases hb:(b:Int)=frame*128+i
   . rw[if_pos hb,if_pos (by omega),wrap_u32]
     have:=(s.getD i.toNat 0).toNat_lt
     rw[show(b-frame*128).toNat=i.toNat by omega];omega
   . rw[if_neg hb,hy b]
     show(if frame*128<=(b:Int)/\(b:Int)<frame*128+i then _ else _)=_
     by_cases hc:frame*128<=(b:Int)/\(b:Int)<frame*128+i
     . rw[if_pos hc,if_pos (by omega)]
     . rw[if_neg hc,if_neg (by omega)]
 . have h1:i<s.length:=oY h1
   have h2: ¬i<128:=oN h2
   omega
 . have h1: ¬i<s.length:=oN h1
   omega
theorem zh{x y:Int}(hx:U x)(hy:U y)(k:Nat)(hk:x<2^k)(h:x+y*2^k<4294967296):ior .u32 x (y*2^k)=x+y*2^k:=by
 obtain⟨n,rfl⟩: ∃n:Nat,x=n:=⟨x.toNat,by have:=hx.1;omega⟩
 obtain⟨z,rfl⟩: ∃n:Nat,y=n:=⟨y.toNat,by have:=hy.1;omega⟩
 have e:((z:Int)*2^k)=((z*2^k:Nat):Int):=by simp
 rw[e]at h⊢
 have hn:n<2^k:=by exact_mod_cast hk
 rw[qaG hx ⟨by omega,by omega⟩,eB,eB,Nat.or_comm,Nat.mul_comm,<-eJ hn]
 omega
theorem four{a b c d:Int}(ha:0<=a/\a<256)(hb:0<=b/\b<256)(hc:0<=c/\c<256)(hd:0<=d/\d<256):ior .u32 (ior .u32 (ior .u32 (wrap .u32 a) (ishl .u32 (wrap .u32 b) 8)) (ishl .u32 (wrap .u32 c) 16)) (ishl .u32 (wrap .u32 d) 24)=a+b*2^8+c*2^16+d*2^24:=by
 have w: ∀{x:Int},0<=x/\x<256->wrap .u32 x=x:=λhx=>by rw[wrap_u32];omega
 have s8: ∀{x:Int},0<=x/\x<256->ishl .u32 x 8=x*2^8:=fun{x} hx=>by show wrap .u32 (x*2^8)=_;rw[wrap_u32];omega
 have s16: ∀{x:Int},0<=x/\x<256->ishl .u32 x 16=x*2^16:=fun{x} hx=>by show wrap .u32 (x*2^16)=_;rw[wrap_u32];omega
 have s24: ∀{x:Int},0<=x/\x<256->ishl .u32 x 24=x*2^24:=fun{x} hx=>by show wrap .u32 (x*2^24)=_;rw[wrap_u32];omega
 rw[w ha,w hb,w hc,w hd,s8 hb,s16 hc,s24 hd]
 rw[zh ⟨by omega,by omega⟩ ⟨by omega,by omega⟩ 8 (by omega) (by omega),zh ⟨by omega,by omega⟩ ⟨by omega,by omega⟩ 16 (by omega) (by omega),zh ⟨by omega,by omega⟩ ⟨by omega,by omega⟩ 24 (by omega) (by omega)]
theorem yH{a b c d:Int}(ha:0<=a/\a<256)(hb:0<=b/\b<256)(hc:0<=c/\c<256)(hd:0<=d/\d<256)(k:Nat)(hk:k<4):dig (a+b*2^8+c*2^16+d*2^24) k=if k=0 then a else if k=1 then b else if k=2 then c else d:=by
 have hk:k=0\/k=1\/k=2\/k=3:=by omega
 rcases hk with rfl|rfl|rfl|rfl<;>simp [dig]<;>omega
theorem Zam{P:Nat}{m:List Int}(h:Q15 P m)(f:Int):Q5h m f=decide (0<=f/\f<P):=by
 have hp:=Q3u h
 simp only[Q5h,Q8n,Tree.m,letv,hp]
 by_cases h1:0<=f
 . rw[dY h1];simp [h1]
 . rw[dN h1];simp [h1]
theorem vH(s:List UInt8)(a b k:Nat)(h:k<b):(cY b (cZ a s)).getD k 0=s.getD (a+k) 0:=by
 simp [cL,aU,h]
theorem u8I(x:UInt8):0<=(x.toNat:Int)/\(x.toNat:Int)<256:=by have:=x.toNat_lt;omega
theorem Z3a{P:Nat}{m:List Int}(h:Q15 P m){f:Int}(f0:0<=f)(f1:f<P){s:List UInt8}(hs:s.length=128):(Q3l m f s).w (λr=>r.2=true/\Q15 P r.1/\ ∀b:Nat,byt r.1 b=if f*128<=b/\(b:Int)<f*128+128 then((s.getD (b-f*128).toNat 0).toNat:Int) else byt m b):=by
  have hcl:Q04 m=m:=rfl
  have h2:=h.p2
  unfold Q3l
  refine w_an (Q9n h) (w_lv λx0 hx0=>w_lv λx1 hx1=> ?_)
  rw[hcl]at hx0;subst hx0
  rw[Zam h,dY ⟨f0,f1⟩]at hx1
  subst hx1
  refine w_br (λhb=>by cases hb) λ_=>w_br (λhb=>by simp [hs]at hb) λ_=> ?_
  refine w_lp (inv:=λz:Int×List Int=>0<=z.1/\z.1<=32/\Q15 P z.2/\ ∀b:Nat,byt z.2 b=if f*128<=b/\(b:Int)<f*128+4*z.1 then((s.getD (b-f*128).toNat 0).toNat:Int) else byt x0 b) (μ:=Qbd x0 f s) ⟨show(0:Int)<=0 by decide,show(0:Int)<=32 by decide,h,λb=>by rw[if_neg];show¬(_/\_<_+4*(0:Int));omega⟩ (cK _) λz ⟨z1,z2,z3,z4⟩=> ?_
  refine w_br (λhb=> ?_) (λhb=>⟨rfl,z3,λb=> ?_⟩)
  . have hb:=oY hb
    have e1:i64.wrap (4*z.1)=4*z.1:=by rw[wrap_i64];omega
    have e2:i64.wrap (i64.wrap (4*z.1)+4)=4*z.1+4:=by rw[wrap_i64,wrap_i64];omega
    have e3:i64.wrap (i64.wrap (f*32)+z.1)=f*32+z.1:=by rw[wrap_i64,wrap_i64];omega
    have hl:=z3.len
    have cut:dC (i64.wrap (i64.wrap (4*z.1)+4))-dC (i64.wrap (4*z.1))=4:=by rw[e2,e1];omega
    have hlen:(cY (dC (i64.wrap (i64.wrap (4*z.1)+4))-dC (i64.wrap (4*z.1))) (cZ (dC (i64.wrap (4*z.1))) s)).length=4:=by
      rw[cut,e1,bD,bF];omega
    refine w_cn (dY (by rw[e2,e1];omega)) ?_
    refine w_cn (dY (by rw[hlen];decide)) (w_cn (dY (by rw[hlen];decide)) (w_cn (dY (by rw[hlen];decide)) (w_cn (dY (by rw[hlen];decide)) (w_cn (by rw[e3];simp [bT];omega) (w_nx ?_)))))
    have ew:i64.wrap (z.1+1)=z.1+1:=by rw[wrap_i64];omega
    rw[cut]
    refine⟨⟨by show 0<=i64.wrap (z.1+1);rw[ew];omega,by show i64.wrap (z.1+1)<=32;rw[ew];omega,?_,?_⟩,by show(32-i64.wrap (z.1+1)).toNat<(32-z.1).toNat;rw[ew];omega⟩
    . show Q15 P (dD _ _ _)
      exact⟨by rw[dE];exact hl,z3.p1,z3.p2,Z78 z3.u (U_or _ _) _⟩
    . intro b
      show byt (dD z.2 (dC (i64.wrap (i64.wrap (f*32)+z.1))) _) b=if f*128<=(b:Int)/\(b:Int)<f*128+4*i64.wrap (z.1+1) then _ else _
      rw[e3,ew,four (u8I _) (u8I _) (u8I _) (u8I _),Zk5 (by omega)]
      have g: ∀k:Nat,k<4->(cY 4 (cZ (dC (i64.wrap (4*z.1))) s)).getD k 0=s.getD ((4*z.1).toNat+k) 0:=λk hk=>by rw[e1];exact vH _ _ _ _ hk
      by_cases hc:b/4=(f*32+z.1).toNat
      . have hin:f*128<=(b:Int)/\(b:Int)<f*128+4*(z.1+1):=by omega
        rw[if_pos hc,yH (u8I _) (u8I _) (u8I _) (u8I _) _ (by omega),if_pos hin]
        have hb4:b%4=0\/b%4=1\/b%4=2\/b%4=3:=by omega
        have gi:(b-f*128).toNat=(4*z.1).toNat+b%4:=by omega
        rw[gi]
        rcases hb4 with h4|h4|h4|h4<;>rw[h4]
        . rw[if_pos rfl,<-g 0 (by omega)];rfl
        . rw[if_neg (by decide),if_pos rfl,<-g 1 (by omega)];rfl
        . rw[if_neg (by decide),if_neg (by decide),if_pos rfl,<-g 2 (by omega)];rfl
        . rw[if_neg (by decide),if_neg (by decide),if_neg (by decide),<-g 3 (by omega)];rfl
      . rw[if_neg hc,z4 b]
        by_cases hd:f*128<=(b:Int)/\(b:Int)<f*128+4*z.1
        . rw[if_pos hd,if_pos (by omega)]
        . rw[if_neg hd,if_neg (by omega)]
  . have hb:=oN hb
    show byt z.2 b=_
    rw[z4 b,show z.1=32 by omega]
    rfl
theorem Zan{α:Type}(l l2:List α)(k:Nat)(z:α):(l++l2).getD k z=if k<l.length then l.getD k z else l2.getD (k-l.length) z:=by
 simp only[cL,List.getElem?_append]
 split<;>rfl
theorem u8w{x:Int}:wrap .u8 x=x%256:=wrap_u8 x
theorem shr_c(W:Int):ishr .u32 W 8=W/256/\ishr .u32 W 16=W/65536/\ishr .u32 W 24=W/16777216:=by
 refine⟨?_,?_,?_⟩
 . show eI W 256=_;rw[dL _ (by decide)]
 . show eI W 65536=_;rw[dL _ (by decide)]
 . show eI W 16777216=_;rw[dL _ (by decide)]
theorem b4d(W:Int){k:Nat}(hk:k<4):[wrap .u8 W,wrap .u8 (ishr .u32 W 8),wrap .u8 (ishr .u32 W 16),wrap .u8 (ishr .u32 W 24)].getD k 0=dig W k:=by
 obtain⟨a,b,c⟩:=shr_c W
 have hk:k=0\/k=1\/k=2\/k=3:=by omega
 rcases hk with rfl|rfl|rfl|rfl<;>simp [dig,a,b,c,u8w]
theorem Qog(l:List Int)(k:Nat)(h:0<=l.getD k 0/\l.getD k 0<256)(hk:k<l.length):(((bytesOf l).getD k 0).toNat:Int)=l.getD k 0:=by
 have e:(bytesOf l).getD k 0=eV (l.getD k 0).toNat:=by
   simp [bytesOf,cL,hk]
 rw[e,UInt8.toNat_ofNat']
 omega
theorem Zir(l:List UInt8)(k:Nat)(hk:k<l.length):(Qbl l).getD k 0=((l.getD k 0).toNat:Int):=by
 simp [Qbl,cL,hk]
theorem zaG(w:List Int)(h:w.length<=32):(Q57 w).w (λr=>r.length=4*w.length/\ ∀k:Nat,k<4*w.length->((r.getD k 0).toNat:Int)=dig (w.getD (k/4) 0) (k%4)):=by
 have e0:i64.wrap (4*(w.length:Int))=4*w.length:=by rw[wrap_i64];omega
 unfold Q57
 refine w_cn (by rw[e0];simp [bT,D.plain];omega) ?_
 refine w_lp (inv:=λz:Int×List Int=>0<=z.1/\z.1<=w.length/\(z.2.length:Int)=4*z.1/\ ∀k:Nat,(k:Int)<4*z.1->z.2.getD k 0=dig (w.getD (k/4) 0) (k%4)) (μ:=Q7s w) ⟨by decide,by show(0:Int)<=w.length;omega,rfl,λk hk=>by have hk:(k:Int)<4*0:=hk;omega⟩ (cK _) λz ⟨z1,z2,z3,z4⟩=> ?_
 refine w_br (λhb=> ?_) (λhb=> ?_)
 . have hb:=oY hb
   have ew:i64.wrap (z.1+1)=z.1+1:=by rw[wrap_i64];omega
   refine w_cn (by simp [bT];omega) (w_cn (dY (by omega)) (w_nx ?_))
   show(_/\_/\_/\ ∀k:Nat,(k:Int)<4*i64.wrap (z.1+1)->(z.2++_).getD k 0=_)/\(_:Nat)<_
   refine⟨⟨by rw[ew];omega,by rw[ew];omega,by rw[ew,lA];simp only[dF,dG];omega,λk hk=> ?_⟩,by show(w.length-i64.wrap (z.1+1)).toNat<(w.length-z.1).toNat;rw[ew];omega⟩
   rw[ew]at hk
   rw[Zan]
   split
   . exact z4 k (by omega)
   . rename_i hn
     rw[b4d _ (by omega),show z.1.toNat=k/4 by omega,show k-z.2.length=k%4 by omega]
 . have hb:=oN hb
   show(bytesOf z.2).length=_/\ ∀k:Nat,_->(((bytesOf z.2).getD k 0).toNat:Int)=_
   refine⟨by rw[Qiz];omega,λk hk=> ?_⟩
   have e:=z4 k (by omega)
   have:=qh (w.getD (k/4) 0) (k%4)
   rw[Qog _ _ (by rw[e];exact this) (by omega),e]
def isPg(m:List Int)(f:Int)(r:List UInt8):Prop:=r.length=128/\ ∀k:Nat,k<128->((r.getD k 0).toNat:Int)=byt m ((f*128).toNat+k)
theorem xaG{m:List Int}{f:Int}{r s:List UInt8}(a:isPg m f r)(b:isPg m f s):r=s:=by
 obtain⟨a1,a2⟩:=a
 obtain⟨b1,b2⟩:=b
 refine bM (by omega) λi h1 h2=> ?_
 have e:=(a2 i (by omega)).trans (b2 i (by omega)).symm
 have e1:r[i]=r.getD i 0:=by simp [aK,h1]
 have e2:s[i]=s.getD i 0:=by simp [aK,h2]
 rw[e1,e2]
 exact UInt8.toNat_inj.1 (by omega)
theorem yh{P:Nat}{m:List Int}(h:Q15 P m){f:Int}(f0:0<=f)(f1:f<P):(Q6u m f).w (λr=>isPg m f r.1/\r.2=true):=by
 have hl:=h.len
 have h2:=h.p2
 unfold Q6u
 refine w_lv λx0 hx0=> ?_
 rw[Zam h,dY ⟨f0,f1⟩]at hx0
 subst hx0
 refine w_br (λhb=>by cases hb) (λhb=> ?_)
 have e1:i64.wrap (f*32)=f*32:=by rw[wrap_i64];omega
 have e2:i64.wrap (i64.wrap (f*32)+32)=f*32+32:=by rw[wrap_i64,wrap_i64];omega
 have cut:dC (i64.wrap (i64.wrap (f*32)+32))-dC (i64.wrap (f*32))=32:=by rw[e2,e1];omega
 have hlen:(cY 32 (cZ (dC (i64.wrap (f*32))) m)).length=32:=by
   rw[e1,bD,bF];omega
 refine w_cn (by rw[e2,e1];simp [bT];omega) ?_
 rw[cut]
 refine w_an (by show dH _<=1000000000000;rw[hlen];decide) (w_lv λx1 h1=> ?_)
 have t:=(Tree.pp (zaG _ (dI hlen))).2
 rw[hlen,show(Q57 (cY 32 (cZ (dC (i64.wrap (f*32))) m))).m=x1 from h1.symm]at t
 refine⟨⟨t.1,λk hk=> ?_⟩,rfl⟩
 show((x1.getD k 0).toNat:Int)=_
 rw[t.2 k hk,byt,e1]
 have g:(cY 32 (cZ (dC (f*32)) m)).getD (k/4) 0=m.getD ((f*32).toNat+k/4) 0:=by
   simp [cL,aU,show k/4<32 by omega]
 rw[g,show((f*128).toNat+k)/4=(f*32).toNat+k/4 by omega,show((f*128).toNat+k)%4=k%4 by omega]
theorem qaH(x:Int):Za4 x 4=bytesOf [wrap .u8 (ishr .u32 x 0),wrap .u8 (ishr .u32 x 8),wrap .u8 (ishr .u32 x 16),wrap .u8 (ishr .u32 x 24)]:=by kernel_rfl
theorem zaj{P:Nat}{m:List Int}(hm:Q15 P m){frame:Int}(f0:0<=frame)(f1:frame<P):(Qa0 m frame).w (λr=>isPg m frame r.1/\r.2=true):=by
 have hp:=Qfl hm
 have hl:=hm.len
 have h2:=hm.p2
 unfold Qa0
 refine w_br (λh=>by have:=oY h;omega) (λh=>w_lv λx0 hx=>w_br (λh1=>by have:=oY h1;rw[hx,hp]at this;omega) (λh1=> ?_))
 refine w_lp (inv:=λz:Int×List Int=>0<=z.1/\z.1<=32/\(z.2.length:Int)=4*z.1/\ ∀k:Nat,(k:Int)<4*z.1->z.2.getD k 0=byt m ((frame*128).toNat+k)) (μ:=Qj1 m frame) ⟨by decide,by decide,rfl,λk hk=>by have hk:(k:Int)<4*0:=hk;omega⟩ (cK _) (λz hz=> ?_)
 obtain⟨z1,z2,z3,z4⟩:=hz
 refine w_br (λhb=> ?_) (λhb=> ?_)
 . have hb:=oY hb
   have e:wrap i64 (wrap i64 (frame*32)+z.1)=frame*32+z.1:=by rw[wrap_i64,wrap_i64];omega
   refine w_cn (by rw[e];simp [bT];omega) (w_an (show(4:Int)<=1000000000000 by decide) (w_lv λx1 h4=> ?_))
   rw[qaH,shr0,e]at h4
   have l4:x1.length=4:=by rw[h4];rfl
   refine w_cn (dY (by rw[Qqb,l4];omega)) (w_nx ?_)
   show(0<=i64.wrap (z.1+1)/\i64.wrap (z.1+1)<=32/\((z.2++Qbl x1).length:Int)=4*i64.wrap (z.1+1)/\ ∀k:Nat,(k:Int)<4*i64.wrap (z.1+1)->(z.2++Qbl x1).getD k 0=_)/\(32-i64.wrap (z.1+1)).toNat<(32-z.1).toNat
   have ew:i64.wrap (z.1+1)=z.1+1:=by rw[wrap_i64];omega
   rw[ew]
   refine⟨⟨by omega,by omega,by rw[lA,Qqb,l4];omega,λk hk=> ?_⟩,by omega⟩
   rw[Zan]
   split
   . exact z4 k (by omega)
   . rename_i hn
     have hk4:k-z.2.length<4:=by omega
     rw[Zir _ _ (by omega),h4]
     have d:=b4d (m.getD (frame*32+z.1).toNat 0) hk4
     rw[Qog _ _ (by rw[d];exact qh _ _) (by simpa using hk4),d,byt]
     rw[show((frame*128).toNat+k)/4=(frame*32+z.1).toNat by omega,show((frame*128).toNat+k)%4=k-z.2.length by omega]
 . have hb:=oN hb
   refine⟨⟨?_,λk hk=> ?_⟩,rfl⟩
   . show(bytesOf z.2).length=128
     rw[Qiz];omega
   . show(((bytesOf z.2).getD k 0).toNat:Int)=_
     have e:=z4 k (by omega)
     rw[Qog _ _ (by rw[e];exact qh _ _) (by omega),e]
theorem Zdi{P:Nat}{m:List Int}(h:Q15 P m)(f:Int):Q5q m f=Qj9 m f:=by
 by_cases hf:0<=f/\f<P
 . have a:=(Tree.pp (yh h hf.1 hf.2)).2
   have b:=(Tree.pp (zaj h hf.1 hf.2)).2
   exact eW (xaG a.1 b.1) (a.2.trans b.2.symm)
 . have hp:=Qfl h
   have e1:Q5q m f=([],false):=by
     simp only[Q5q,Q6u,Tree.m,letv,Zam h,dN hf];rfl
   have e2:Qj9 m f=([],false):=by
     simp only[Qj9,Qa0,Tree.m,letv,hp]
     by_cases h0:f<0
     . rw[dY h0];rfl
     . rw[dN h0,dY (show f>=P by omega)];rfl
   rw[e1,e2]
section
variable {P:Nat} {m:List Int} (h:Q15 P m)
include h
theorem Zgp{f:Int}(f0:0<=f)(f1:f<P){s:List UInt8}(hs:s.length=128):Q2w m f s=(Qm0 m f s,true):=by
 have a:=(Tree.pp (Z3a h f0 f1 hs)).2
 have b:=(Tree.pp (qY h f0 f1 s)).2
 refine eW (Zi8 (a.2.1.len.trans b.1.len.symm) a.2.1.u b.1.u λk=> ?_) a.1
 have e:((min s.length 128:Nat):Int)=128:=by rw[hs];rfl
 have b2:=b.2 k
 have a2:=a.2.2 k
 rw[e]at b2
 exact a2.trans b2.symm
theorem Zem{f:Int}(f0:0<=f)(f1:f<P){s r:List UInt8}(hs:s.length<=128)(hr:isPg m f r):Q2w m f (s++r.drop s.length)=(Qm0 m f s,true):=by
  have hl:(s++r.drop s.length).length=128:=by have:=hr.1;simp;omega
  have a:=(Tree.pp (Z3a h f0 f1 hl)).2
  have b:=(Tree.pp (qY h f0 f1 s)).2
  refine eW (Zi8 (a.2.1.len.trans b.1.len.symm) a.2.1.u b.1.u λk=> ?_) a.1
  have b2:=b.2 k
  have a2:=a.2.2 k
  refine a2.trans (Eq.trans ?_ b2.symm)
  by_cases hc:f*128<=(k:Int)/\(k:Int)<f*128+128
  . rw [if_pos hc,Zan]
    by_cases hd:(k-f*128).toNat<s.length
    . rw[if_pos hd,if_pos (by omega)]
    . rw[if_neg hd,if_neg (by omega)]
      have e:(r.drop s.length).getD ((k-f*128).toNat-s.length) 0=r.getD (k-f*128).toNat 0:=by
        simp [cL,show s.length+((k-f*128).toNat-s.length)=(k-f*128).toNat by omega]
      rw[e,hr.2 _ (by omega),show(f*128).toNat+(k-f*128).toNat=k by omega]
  . rw[if_neg hc,if_neg (by omega)]
theorem Qi1{a:Int}(ha:U a){size:Int}(hs:size=1\/size=4):Q26 m a size=decide (a%size=0/\a<128*P):=by
 have hq:=Qfl h
 have h2:=h.p2
 have a0:=ha.1
 have e:wrap u32 size=size:=by rcases hs with rfl|rfl<;>decide
 have e0:decide (wrap u32 size≠0)=true:=by rcases hs with rfl|rfl<;>decide
 have t:dB a (wrap u32 size)=a%size:=by rw[e,eD a0]
 have l: ∀x,x=Q3w m->a%size=0->decide (a<wrap u32 (wrap i64 (128*x)))=decide (a%size=0/\a<128*P):=λx hx hz=>by
   rw[hx,hq,wrap_u32,wrap_i64]
   exact decide_eq_decide.2 ⟨λh=>⟨hz,by omega⟩,λh=>by omega⟩
 refine Tree.post (Q8c m a size) (W:=λb=>b=decide (a%size=0/\a<128*P)) ?_
 unfold Q8c
 refine w_br (λh1=>w_br (λh4=> ?_) (λ_=> ?_)) (λ_=> ?_)
 . have h1: ¬size=1:=by simpa using h1
   have h4: ¬size=4:=by simpa using h4
   omega
 all_goals
   refine w_cn e0 (w_br (λhb=>w_lv λx hx=>l x hx ?_) (λhb=> ?_))
   . rw[t]at hb;exact eq_of_beq hb
   . rw[t]at hb
     exact(dN (λh=>by rw[h.1]at hb;cases hb)).symm
theorem Z26{a:Int}(ha:U a){size:Int}(hs:size=1\/size=4):Qh9 m a size=Q26 m a size:=by
 rw[Qi1 h ha hs]
 have hq:=Z1y h
 have h2:=h.p2
 have a0:=ha.1
 have a1:=ha.2
 have e:wrap u32 size=size:=by rcases hs with rfl|rfl<;>decide
 have e0:decide (wrap u32 size≠0)=true:=by rcases hs with rfl|rfl<;>decide
 have t:dB a (wrap u32 size)=a%size:=by rw[e,eD a0]
 have l: ∀x,x=Q0z m->a%size=0->decide (wrap u64 (wrap u64 a+wrap u64 size)<=wrap u64 (wrap u64 x*128))=decide (a%size=0/\a<128*P):=λx hx hz=>by
   rw[hx,hq]
   simp only[wrap_u64]
   refine decide_eq_decide.2 ⟨λh=>⟨hz,?_⟩,λh=> ?_⟩<;>rcases hs with rfl|rfl<;>omega
 refine Tree.post (Q3f m a size) (W:=λb=>b=decide (a%size=0/\a<128*P)) ?_
 unfold Q3f
 refine w_br (λh1=>w_br (λh4=> ?_) (λ_=> ?_)) (λ_=> ?_)
 . have h1: ¬size=1:=by simpa using h1
   have h4: ¬size=4:=by simpa using h4
   omega
 all_goals
   refine w_cn e0 (w_br (λhb=> ?_) (λhb=>w_lv λx hx=>l x hx ?_))
   . rw[t]at hb
     exact(dN (λh=>by rw[h.1]at hb;cases hb)).symm
   . rw[t]at hb;simpa using hb
end
theorem fldj(w:Int):Q34 w 0 8=iand .u32 (ishr .u32 w 0) 255/\Q34 w 8 8=iand .u32 (ishr .u32 w 8) 255/\Q34 w 16 8=iand .u32 (ishr .u32 w 16) 255/\Q34 w 24 8=iand .u32 (ishr .u32 w 24) 255:=
 ⟨by kernel_rfl,by kernel_rfl,by kernel_rfl,by kernel_rfl⟩
theorem setj(w v:Int):Q8b w 0 8 v=putW w v 0/\Q8b w 8 8 v=putW w v 8/\Q8b w 16 8 v=putW w v 16/\Q8b w 24 8 v=putW w v 24:=
 ⟨by kernel_rfl,by kernel_rfl,by kernel_rfl,by kernel_rfl⟩
theorem vh{a:Int}(ha:U a):wrap .i64 (wrap .i64 (dB a 4)*8)=8*(a%4)/\wrap .u32 (8*dB a 4)=8*(a%4):=by
 obtain⟨a0,a1⟩:=ha
 rw[eD a0]
 exact⟨by rw[wrap_i64,wrap_i64];omega,by rw[wrap_u32];omega⟩
section
variable {P:Nat} {m:List Int} (h:Q15 P m)
include h
theorem Qo4{a:Int}(ha:U a){size:Int}(hs:size=1\/size=4):Q5 m a size=Q1e m a size:=by
 have e:=Z26 h ha hs
 obtain⟨s1,s2⟩:=vh ha
 have f:Q34 (m.getD (dC (wrap .u32 (eS a 4))) 0) (8*(a%4)) 8=iand .u32 (ishr .u32 (m.getD (dC (wrap .u32 (eS a 4))) 0) (8*(a%4))) 255:=by
   obtain⟨f0,f1,f2,f3⟩:=fldj (m.getD (dC (wrap .u32 (eS a 4))) 0)
   have:a%4=0\/a%4=1\/a%4=2\/a%4=3:=by omega
   rcases this with h|h|h|h<;>rw[h]
   . exact f0
   . exact f1
   . exact f2
   . exact f3
 simp only[Q5,Q6j,Q1e,Q44,Tree.m,letv,e,s1,s2,f]
omit h in
theorem Zbc(a size:Int):(Q1e m a size).2=Q26 m a size:=by
 simp only[Q1e,Q44,Tree.m,letv]
 cases Q26 m a size
 . rfl
 . cases size==1<;>rfl
theorem Z90{a:Int}(ha:U a){size:Int}(hs:size=1\/size=4)(v:Int):Qa9 m a size v=bif Q26 m a size then(Qak m a size v,true) else(m,false):=by
 have hcl:Q04 m=m:=rfl
 have e:=Z26 h ha hs
 obtain⟨s1,s2⟩:=vh ha
 have f: ∀w,Q8b w (8*(a%4)) 8 v=ior .u32 (Qhj .u32 w (ishl .u32 255 (8*(a%4)))) (ishl .u32 (iand .u32 v 255) (8*(a%4))):=λw=>by
   obtain⟨f0,f1,f2,f3⟩:=setj w v
   have:a%4=0\/a%4=1\/a%4=2\/a%4=3:=by omega
   rcases this with h|h|h|h<;>rw[h]
   . exact f0
   . exact f1
   . exact f2
   . exact f3
 simp only[Qa9,Q8r,Qak,Qf0,Tree.m,letv,hcl,e,s1,s2,f]
 rcases hs with rfl|rfl<;>cases Q26 m a _<;>rfl
end
section
variable {P:Nat} {m:List Int} (h:Q15 P m)
include h
theorem qi{root va:Int}(hr:U root)(hv:U va){access:Int}(ha:access=1\/access=2\/access=3):Qj8 m root va access=Q6v m root va access:=by
 have hp:=Qfl h
 have h2:=h.p2
 have hlen:=h.len
 obtain⟨r1,r2⟩:=hr
 obtain⟨v1,v2⟩:=hv
 have hpg: ∀{f:Int},U f->Qaq m f=decide (f<P):=λhf=>qU h hf
 have eP:wrap .u32 (P:Int)=P:=by rw[wrap_u32];omega
 have kn:Qep access=true:=by rcases ha with rfl|rfl|rfl<;>rfl
 have ca:Qkq access=(Q25 access,true):=by rcases ha with rfl|rfl|rfl<;>rfl
 simp only[Qj8,Qab,Q6v,Q9f,Tree.m,letv,hp,eP,kn,ca,hpg ⟨r1,r2⟩]
 by_cases c1:va>=4096
 . rw[dY c1];rfl
 by_cases c2:root<P
 . have eE:wrap u32 (wrap u32 (root*128)+wrap u32 (4*wrap u32 (eS va 128)))=root*128+4*(va/128):=by
     rw[eT v1,wrap_u32,wrap_u32,wrap_u32,wrap_u32];omega
   have hE:U (root*128+4*(va/128)):=⟨by omega,by omega⟩
   have wi:Q26 m (root*128+4*(va/128)) 4=true:=by
     rw[Qi1 h hE (.inr rfl)];exact dY ⟨by omega,by omega⟩
   rw[dN c1,dY c2,dN (show¬root>=P by omega),eE,Qo4 h hE (.inr rfl),Zbc,wi]
   have ld:(Q1e m (root*128+4*(va/128)) 4).1=m.getD (dC (wrap .u32 (eS (root*128+4*(va/128)) 4))) 0:=by
     simp only[Q1e,Q44,Tree.m,letv,wi];rfl
   rw[ld]
   generalize m.getD (dC (wrap .u32 (eS (root*128+4*(va/128)) 4))) 0=w
   have fo:Qfq w=iand .u32 (ishr .u32 w 8) 255:=(fld w).2.2.2.2
   rw[fo,hpg (Zk7 _ _)]
   have hge:decide (iand .u32 (ishr .u32 w 8) 255>=(P:Int))=!decide (iand .u32 (ishr .u32 w 8) 255<(P:Int)):=by
     by_cases hq:iand .u32 (ishr .u32 w 8) 255<(P:Int)
     . rw[dY hq,dN (by omega)];rfl
     . rw[dN hq,dY (by omega)];rfl
   rw[hge]
   generalize decide (iand .u32 (ishr .u32 w 8) 255<(P:Int))=d
   rcases ha with rfl|rfl|rfl
   . show _=(bif iand .u32 w 1==0 then _ else bif iand .u32 w 4==0 then _ else bif !d then _ else _)
     have:Qbj w 1=(bif iand .u32 w 1==0 then false else !(iand .u32 w 4==0)):=rfl
     rw[this]
     cases iand .u32 w 1==0<;>cases iand .u32 w 4==0<;>cases d<;>rfl
   . show _=(bif iand .u32 w 1==0 then _ else bif !d then _ else _)
     have:Qbj w 2=(bif iand .u32 w 1==0 then false else true):=rfl
     rw[this]
     cases iand .u32 w 1==0<;>cases d<;>rfl
   . show _=(bif iand .u32 w 1==0 then _ else bif iand .u32 w 2==0 then _ else bif !d then _ else _)
     have:Qbj w 3=(bif iand .u32 w 1==0 then false else !(iand .u32 w 2==0)):=rfl
     rw[this]
     cases iand .u32 w 1==0<;>cases iand .u32 w 2==0<;>cases d<;>rfl
 . rw[dN c1,dN c2,dY (show root>=P by omega)];rfl
theorem Zny{a:Int}(ha:U a)(access:Int):Qd3 m a access=Qop m a access:=by
 have hcl:Q04 m=m:=rfl
 have hl:=h.len
 have a0:=ha.1
 simp only[Qd3,Q91,Qop,Qff,Tree.m,letv,Qo4 h ha (.inr rfl),Zbc,Z90 h ha (.inr rfl),hcl]
 cases hw:Q26 m a 4
 . rfl
 . rw[Qi1 h ha (.inr rfl)]at hw
   have hw:=oY hw
   have wi:Q26 m a 4=true:=by rw[Qi1 h ha (.inr rfl)];exact dY hw
   have ld:(Q1e m a 4).1=m.getD (dC (wrap .u32 (eS a 4))) 0:=by
     simp only[Q1e,Q44,Tree.m,letv,wi];rfl
   have pu: ∀v,Qak m a 4 v=m.set (dC (wrap .u32 (eS a 4))) v:=λv=>rfl
   rw[ld,pu,pu]
   have hi:dC (wrap .u32 (eS a 4))<m.length:=by
     rw[eT a0,wrap_u32];omega
   generalize dC (wrap .u32 (eS a 4))=i at*
   rw[Qv0 hi,List.set_set]
   rfl
end
theorem Qpo{c:Q05}(h0:0<=c.B5.a0)(h:c.B5.a0<=31)(k b:Int):Q4y c k b=Q2y c k b:=by
 have e:=eq_of_beq (Quo (λs=>Qhj .u32 (ior .u32 (Q9a (Q9a s 1 8) 2 16) 1) 2==ior .u32 (Qhj .u32 (ior .u32 (ior .u32 (Qhj .u32 s 24) (wrap .u32 (8*Qca (iand .u32 s 1 !=0)))) (wrap .u32 (16*Qca (iand .u32 s 2 !=0)))) 2) 1) 32 (by kernel_rfl) h0 (by omega))
 simp only[Q4y,Qlt,Q2y,Qiw,Tree.m,letv,e]
theorem Zjf{c:Q05}(h0:0<=c.B5.a0)(h:c.B5.a0<=31):Qeu c=Qib c:=by
 have e:=eq_of_beq (Quo (λs=>Q9a (Q9a s 8 1) 16 2==ior .u32 (ior .u32 (Qhj .u32 s 3) (wrap .u32 (1*Qca (iand .u32 s 8 !=0)))) (wrap .u32 (2*Qca (iand .u32 s 16 !=0)))) 32 (by kernel_rfl) h0 (by omega))
 simp only[Qeu,Qg6,Qib,Qej,Tree.m,letv,e]
theorem Z87{c:Q05}(h0:0<=c.B5.a0)(h:c.B5.a0<=31):Ql9 c=(!Qal c&&(iand .u32 c.B5.a0 4 !=0)):=
 eq_of_beq (Quo (λs=>(iand .u32 s 5==4)==(!(iand .u32 s 1 !=0)&&(iand .u32 s 4 !=0))) 32 (by kernel_rfl) h0 (by omega))
theorem Z1b(c:Q05){r:Int}(hr:0<=r/\r<16)(v:Int):Qb7 c r v=Q1z c r v:=by
 simp only[Qb7,Qea,Q1z,Qfc,Tree.m]
 by_cases h:r=0
 . subst h;rfl
 . rw[dY (show r>0 by omega),dY hr.2,show(r !=0)=true by simpa using h];rfl
theorem qI{a b:Int}(ha:U a)(hb:U b):Qcs a b=Qct a b:=by
  obtain⟨a0,a1⟩:=ha
  obtain⟨b0,b1⟩:=hb
  have i: ∀x,wrap .i64 (wrap .i32 x)=wrap .i32 x:=λx=>by rw[wrap_i64,wrap_i32];omega
  have r32: ∀x,-2147483648<=wrap .i32 x/\wrap .i32 x<2147483648:=λx=>by rw[wrap_i32];omega
  have q32: ∀x y:Int,-2147483648<=x/\x<2147483648-> -2147483648<=eS x y/\eS x y<=2147483648:=λx y hx=>by
    have h1:(eS x y).natAbs<=x.natAbs:=by rw[Int.natAbs_tdiv];exact Nat.div_le_self _ _
    omega
  simp only[Qcs,Qb1,Qct,Qb4,Tree.m,i]
  cases hb:b==0
  . have w: ∀z,wrap .u32 (wrap .i32 z)=wrap .u32 z:=λz=>by rw[wrap_i32,wrap_u32,wrap_u32];omega
    have w2:wrap .i64 (eS (wrap .i32 a) (wrap .i32 b))=eS (wrap .i32 a) (wrap .i32 b):=by
      have:=q32 _ (wrap .i32 b) (r32 a)
      rw[wrap_i64];omega
    rw[w,w2]
    cases h1:a==2147483648
    . rfl
    . cases h2:b==4294967295
      . rfl
      . have h1:=eq_of_beq h1
        have h2:=eq_of_beq h2
        subst h1;subst h2
        rfl
  . rfl
theorem xI{op a b:Int}(h0:1<=op)(h1:op<=23)(ha:U a)(hb:U b):Q4d op a b=Qdw op a b:=by
 have sub:wrap .u32 (a+wrap .u32 (0-b))=wrap .u32 (a-b):=by
   rw[wrap_u32,wrap_u32,wrap_u32];omega
 have hop:op=1\/op=2\/op=3\/op=4\/op=5\/op=6\/op=7\/op=8\/op=9\/op=10\/op=11\/op=12\/op=13\/op=14\/op=15\/op=16\/op=17\/op=18\/op=19\/op=20\/op=21\/op=22\/op=23:=by omega
 have d:=qI ha hb
 rcases hop with rfl|rfl|rfl|rfl|rfl|rfl|rfl|rfl|rfl|rfl|rfl|rfl|rfl|rfl|rfl|rfl|rfl|rfl|rfl|rfl|rfl|rfl|rfl
 . rfl
 . show(wrap .u32 (a+wrap .u32 (0-b)),true)=(wrap .u32 (a-b),true)
   rw[sub]
 . rfl
 . rfl
 . rfl
 . rfl
 . rfl
 . rfl
 . rfl
 . show((Qcs a b).1,true)=((Qct a b).1,true)
   rw[d]
 . show((Qcs a b).2,true)=((Qct a b).2,true)
   rw[d]
 all_goals rfl
theorem Qp4{P:Nat}{m:List Int}(h:Q15 P m){c:Q05}(hc:Q2j c)(hst:c.B5.a0<=31){va:Int}(hv:U va){size:Int}(hs:size=1\/size=4){access:Int}(ha:access=1\/access=2\/access=3):Q27 c m va size access=((Q17 c m va size access).1,(Q17 c m va size access).2.2,(Q17 c m va size access).2.1):=by
 have hcl:Q04 m=m:=rfl
 have kn:Qep access=true:=by rcases ha with rfl|rfl|rfl<;>rfl
 have ca:Qsi access=(Q25 access,true):=by rcases ha with rfl|rfl|rfl<;>rfl
 have pg:=Z87 hc.a0.1 hst
 have wk:=qi h hc.a6 hv ha
 have tc:Qd3 m (Q6v m c.B5.a6 va access).F3 access=Qop m (Q6v m c.B5.a6 va access).F3 access:=Zny h (Tree.pp (z8 h hc.a6 hv access)).2.2.1 access
 have sz:(bif size !=1 then bif size !=4 then false else true else true)=true:=by rcases hs with rfl|rfl<;>rfl
 simp only[Q27,Q6s,Q17,Q7x,Tree.m,letv,hcl,kn,ca,pg,wk,tc,Qo4 h hv hs,Zbc]
 rcases hs with rfl|rfl<;>
 . show(bif _ then _ else _)=_
   cases dB va _ !=0<;>cases Qal c<;>cases iand .u32 c.B5.a0 4 !=0<;>cases(Q6v m c.B5.a6 va access).F0 !=0<;>cases Q26 m va _<;>rfl
theorem Z2i{α:Type}{Q:α->Prop}{c:Bool}{x y:α}(hx:Q x)(hy:Q y):Q (cond c x y):=by cases c<;>assumption
theorem xaj(m:List Int)(root:Int){va:Int}(hv:U va)(access:Int):(Q6v m root va access).F0=0->(Q6v m root va access).Addr%4=va%4:=by
 have hc:Q25 access≠0:=by
   simp only[Q25,Q8v,Tree.m]
   cases access==1<;>cases access==3<;>simp
 have q :(λt:Q1a=>t.F0=0->t.Addr%4=va%4) (Q6v m root va access):=by
   simp only[Q6v,Q9f,Tree.m,letv]
   repeat'(first
     |exact λe=>absurd e hc
     | (intro _
        show wrap .u32 (wrap .u32 (_*128)+dB va 128)%4=va%4
        rw[eD hv.1,wrap_u32,wrap_u32];omega)
     |refine Z2i (Q:=λt:Q1a=>t.F0=0->t.Addr%4=va%4) ?_ ?_)
 exact q
theorem zI{c:Q05}{m:List Int}{va:Int}(hv:U va){size:Int}(hs:size=1\/size=4){access:Int}(ha:access=1\/access=2\/access=3):(Q17 c m va size access).2.1=0->(Q17 c m va size access).1%size=0:=by
  have kn:Qep access=true:=by rcases ha with rfl|rfl|rfl<;>rfl
  have hc:Q25 access≠0:=by
    simp only[Q25,Q8v,Tree.m]
    cases access==1<;>cases access==3<;>simp
  rcases hs with rfl|rfl
  . intro _;omega
  simp only[Q17,Q7x,Tree.m,letv,kn]
  show(bif dB va 4 !=0 then((0:Int),(3:Int),m) else _).2.1=0->(bif dB va 4 !=0 then((0:Int),(3:Int),m) else _).1%4=0
  rw[eD hv.1]
  cases hz:va%4 !=0
  . have hz:va%4=0:=by simpa using hz
    have w:=xaj m c.B5.a6 hv access
    cases hp:Ql9 c
    . cases hw:Q26 m va 4
      . exact λe=>absurd e hc
      . exact λ_=>hz
    . cases hq:(Q6v m c.B5.a6 va access).F0 !=0
      . have hq:(Q6v m c.B5.a6 va access).F0=0:=by simpa using hq
        exact λ_=>(w hq).trans hz
      . have hq: ¬(Q6v m c.B5.a6 va access).F0=0:=by simpa using hq
        exact λe=>absurd e hq
  . intro e;cases e
def eff0:Q16:={B6:=0,D1:=0,D9:=0,Value:=0}
def Q61(c:Q05)(m:List Int)(i:Q0m):Q05×List Int×Q16:=
 bif i.Op==32 then((Q6p c m i).1,(Q6p c m i).2,eff0) else bif i.Op==33 then((Q6p c m i).1,(Q6p c m i).2,eff0) else bif i.Op==34 then((Q6p c m i).1,(Q6p c m i).2,eff0)
 else bif i.Op==35 then((Q8p c m i).1,(Q8p c m i).2,eff0) else bif i.Op==36 then((Q8p c m i).1,(Q8p c m i).2,eff0) else((Qn1 c i).1,m,(Qn1 c i).2)
def regX(c:Q05)(r:Int):Int:=aK (A16.l c.X) r.toNat 0
def Qk0(c:Q05)(m:List Int)(i:Q0m):Q05×Q16×List Int:=
 bif decide (i.Op>=56) then((Qje c i).1,(Qje c i).2,m) else bif decide (i.Op>=40) then(Z3v c i,eff0,m) else bif decide (i.Op>=32) then((Q5b c m i).1,eff0,(Q5b c m i).2)
 else bif i.Op==24 then({X:=(Q1z c i.A (ishl .u32 (wrap .u32 i.Imm) 16)).X,Pc:=wrap .u32 ((Q1z c i.A (ishl .u32 (wrap .u32 i.Imm) 16)).Pc+4),B5:=(Q1z c i.A (ishl .u32 (wrap .u32 i.Imm) 16)).B5},eff0,m)
 else bif decide (i.Op<=13) then
   ({X:=(Q1z c i.A (Qdw i.Op (regX c i.B) (regX c i.C)).1).X,Pc:=wrap .u32 ((Q1z c i.A (Qdw i.Op (regX c i.B) (regX c i.C)).1).Pc+4),B5:=(Q1z c i.A (Qdw i.Op (regX c i.B) (regX c i.C)).1).B5},eff0,m)
 else({X:=(Q1z c i.A (Qdw i.Op (regX c i.B) (wrap .u32 i.Imm)).1).X,Pc:=wrap .u32 ((Q1z c i.A (Qdw i.Op (regX c i.B) (wrap .u32 i.Imm)).1).Pc+4),B5:=(Q1z c i.A (Qdw i.Op (regX c i.B) (wrap .u32 i.Imm)).1).B5},eff0,m)
def isOp(op:Int):Prop:=op=1\/op=2\/op=3\/op=4\/op=5\/op=6\/op=7\/op=8\/op=9\/op=10\/op=11\/op=12\/op=13\/op=16\/op=17\/op=18\/op=19\/op=20\/op=21\/op=22\/op=23\/op=24\/op=32\/op=33\/op=34\/op=35\/op=36\/op=40\/op=41\/op=42\/op=43\/op=44\/op=45\/op=48\/op=49\/op=56\/op=57\/op=58\/op=59\/op=60\/op=61\/op=62\/op=63\/op=64
theorem xY(c:Q05)(r v:Int):(Q1z c r v).Pc=c.Pc/\(Q1z c r v).B5=c.B5:=by
 simp only[Q1z,Qfc,Tree.m]
 cases decide (r>0)
 . exact⟨rfl,rfl⟩
 . cases decide (r<16)<;>exact⟨rfl,rfl⟩
def adv(c:Q05):Q05:={X:=c.X,Pc:=wrap .u32 (c.Pc+4),B5:=c.B5}
def va(c:Q05)(B Imm:Int):Int:=wrap .u32 (aK (A16.l c.X) B.toNat 0+wrap .u32 Imm)
def ldP(c:Q05)(A v size:Int)(f:Int->Int)(y:Int×List Int×Int):Q05×List Int:=bif y.2.2 !=0 then(Q4y c y.2.2 v,y.2.1) else(adv (Qb7 c A (f (Q5 y.2.1 y.1 size).1)),y.2.1)
def ldR(c:Q05)(A v size:Int)(f:Int->Int)(x:Int×Int×List Int):Q05×List Int:=bif x.2.1 !=0 then(Q2y c x.2.1 v,x.2.2) else(adv (Q1z c A (f (Q1e x.2.2 x.1 size).1)),x.2.2)
def stP(c:Q05)(A v size:Int)(y:Int×List Int×Int):Q05×List Int:=bif y.2.2 !=0 then(Q4y c y.2.2 v,y.2.1) else(adv c,(Qa9 y.2.1 y.1 size (aK (A16.l c.X) A.toNat 0)).1)
def stR(c:Q05)(A v size:Int)(x:Int×Int×List Int):Q05×List Int:=bif x.2.1 !=0 then(Q2y c x.2.1 v,x.2.2) else(adv c,Qak x.2.2 x.1 size (aK (A16.l c.X) A.toNat 0))
theorem ld_eq(c:Q05)(m:List Int)(A B C Imm:Int):
   (Q6p c m ⟨32,A,B,C,Imm⟩=ldP c A (va c B Imm) 4 (λv=>v) (Q27 c m (va c B Imm) 4 2)/\Q5b c m ⟨32,A,B,C,Imm⟩=ldR c A (va c B Imm) 4 (λv=>v) (Q17 c m (va c B Imm) 4 2))/\
   (Q6p c m ⟨33,A,B,C,Imm⟩=ldP c A (va c B Imm) 1 (λv=>Q2g v 8) (Q27 c m (va c B Imm) 1 2)/\Q5b c m ⟨33,A,B,C,Imm⟩=ldR c A (va c B Imm) 1 (λv=>Q3i v 8) (Q17 c m (va c B Imm) 1 2))/\
   (Q6p c m ⟨34,A,B,C,Imm⟩=ldP c A (va c B Imm) 1 (λv=>v) (Q27 c m (va c B Imm) 1 2)/\Q5b c m ⟨34,A,B,C,Imm⟩=ldR c A (va c B Imm) 1 (λv=>v) (Q17 c m (va c B Imm) 1 2))/\
   (Q8p c m ⟨35,A,B,C,Imm⟩=stP c A (va c B Imm) 4 (Q27 c m (va c B Imm) 4 3)/\Q5b c m ⟨35,A,B,C,Imm⟩=stR c A (va c B Imm) 4 (Q17 c m (va c B Imm) 4 3))/\
   (Q8p c m ⟨36,A,B,C,Imm⟩=stP c A (va c B Imm) 1 (Q27 c m (va c B Imm) 1 3)/\Q5b c m ⟨36,A,B,C,Imm⟩=stR c A (va c B Imm) 1 (Q17 c m (va c B Imm) 1 3)):=
 ⟨⟨by kernel_rfl,by kernel_rfl⟩,⟨by kernel_rfl,by kernel_rfl⟩,⟨by kernel_rfl,by kernel_rfl⟩,⟨by kernel_rfl,by kernel_rfl⟩,⟨by kernel_rfl,by kernel_rfl⟩⟩
theorem qak{P:Nat}{m:List Int}(h:Q15 P m)(a:Int):Q2g (Q1e m a 1).1 8=Q3i (Q1e m a 1).1 8:=by
 have: ∀x:Int×Bool,(∃w,U w/\x=(iand .u32 w 255,true))\/x=(0,false)->Q2g x.1 8=Q3i x.1 8:=λx hx=>by
   rcases hx with⟨w,hw,rfl⟩|rfl
   . have e:=m255 hw
     exact sx8 (by show 0<=iand .u32 w 255;omega) (by show iand .u32 w 255<256;omega)
   . rfl
 refine this _ ?_
 simp only[Q1e,Q44,Tree.m,letv]
 cases Q26 m a 1
 . exact .inr rfl
 . exact .inl ⟨_,Qxx (Qln h.u _) _,rfl⟩
section
variable {P:Nat} {m:List Int} (h:Q15 P m) {c:Q05} (hc:Q2j c) (hst:c.B5.a0<=31)
include h hc hst
omit hst in
theorem Zk9{v:Int}(hv:U v){size:Int}(hs:size=1\/size=4)(access:Int):Q15 P (Q17 c m v size access).2.2/\U (Q17 c m v size access).1/\((Q17 c m v size access).2.1=0->(Q17 c m v size access).1<128*P):=(Tree.pp (Zae h hc hv hs access)).2
theorem Zju{A v:Int}(hA:0<=A/\A<16)(hv:U v){size:Int}(hs:size=1\/size=4){f g:Int->Int}(hf: ∀{m':List Int},Q15 P m'-> ∀a,f (Q1e m' a size).1=g (Q1e m' a size).1):ldP c A v size f (Q27 c m v size 2)=ldR c A v size g (Q17 c m v size 2):=by
 rw[Qp4 h hc hst hv hs (.inr (.inl rfl))]
 obtain⟨k,u,_⟩:=Zk9 h hc hv hs 2
 generalize Q17 c m v size 2=x at*
 simp only[ldP,ldR,Qo4 k u hs,Qpo hc.a0.1 hst,Z1b c hA,hf k]
theorem xi{A v:Int}(hv:U v){size:Int}(hs:size=1\/size=4):stP c A v size (Q27 c m v size 3)=stR c A v size (Q17 c m v size 3):=by
 rw[Qp4 h hc hst hv hs (.inr (.inr rfl))]
 obtain⟨k,u,b⟩:=Zk9 h hc hv hs 3
 have al:=zI (c:=c) (m:=m) hv hs (access:=3) (.inr (.inr rfl))
 generalize Q17 c m v size 3=x at*
 simp only[stP,stR,Z90 k u hs,Qpo hc.a0.1 hst,Qi1 k u hs]
 cases hq:x.2.1 !=0
 . have hq:x.2.1=0:=by simpa using hq
   rw[dY ⟨al hq,b hq⟩];rfl
 . rfl
end
theorem yI(c:Q05)(k v:Int):(Qi c k v).Pc=c.Pc:=by
 simp only[Qi,Qd9,Tree.m]
 repeat'(first|rfl|refine Z2i (Q:=λx:Q05=>x.Pc=c.Pc) ?_ ?_)
def setP(c:Q05)(A v p:Int):Q05:={X:=(Qb7 c A v).X,Pc:=p,B5:=(Qb7 c A v).B5}
def setR(c:Q05)(A v p:Int):Q05:={X:=(Q1z c A v).X,Pc:=p,B5:=(Q1z c A v).B5}
def nxt(c:Q05):Int:=wrap .u32 (c.Pc+4)
theorem Zfk(c:Q05){A:Int}(hA:0<=A/\A<16)(v p:Int):setP c A v p=setR c A v p:=by
 unfold setP setR;rw[Z1b c hA]
theorem Zi9(c:Q05)(A v:Int):adv (Q1z c A v)=setR c A v (nxt c):=by
 unfold adv setR nxt;rw[(xY c A v).1]
theorem brc(t:Bool)(x y:Q05)(m:List Int):((bif t then(x,eff0) else(y,eff0)).1,m,(bif t then(x,eff0) else(y,eff0)).2)=((bif t then x else y),m,eff0):=by cases t<;>rfl
def isOpB(op:Int):Bool:=decide (op=1)||decide (op=2)||decide (op=3)||decide (op=4)||decide (op=5)||decide (op=6)||decide (op=7)||decide (op=8)||decide (op=9)||decide (op=10)||decide (op=11)||decide (op=12)||decide (op=13)||decide (op=16)||decide (op=17)||decide (op=18)||decide (op=19)||decide (op=20)||decide (op=21)||decide (op=22)||decide (op=23)||decide (op=24)||decide (op=32)||decide (op=33)||decide (op=34)||decide (op=35)||decide (op=36)||decide (op=40)||decide (op=41)||decide (op=42)||decide (op=43)||decide (op=44)||decide (op=45)||decide (op=48)||decide (op=49)||decide (op=56)||decide (op=57)||decide (op=58)||decide (op=59)||decide (op=60)||decide (op=61)||decide (op=62)||decide (op=63)||decide (op=64)
section
variable {P:Nat} {m:List Int} (h:Q15 P m) {c:Q05} (hc:Q2j c) (hst:c.B5.a0<=31) {A B C Imm:Int} (hA:0<=A/\A<16)
include h hc hst hA
theorem vi{op:Int}(hop:isOp op):Q61 c m ⟨op,A,B,C,Imm⟩=((Qk0 c m ⟨op,A,B,C,Imm⟩).1,(Qk0 c m ⟨op,A,B,C,Imm⟩).2.2,(Qk0 c m ⟨op,A,B,C,Imm⟩).2.1):=by
 have alu: ∀{k y:Int},1<=k->k<=23->U y->((setP c A (Q4d k (regX c B) y).1 (nxt c),m,eff0):Q05×List Int×Q16)=(adv (Q1z c A (Qdw k (regX c B) y).1),m,eff0):=λh1 h2 hy=>by
   rw[xI h1 h2 (show U (regX c B) from hc.r _) hy,Zi9,Zfk c hA]
 have uC:U (regX c C):=hc.r _
 have uI:U (wrap .u32 Imm):=Q0u _
 obtain⟨⟨l1,l2⟩,⟨l3,l4⟩,⟨l5,l6⟩,⟨l7,l8⟩,⟨l9,l10⟩⟩:=ld_eq c m A B C Imm
 have hva:U (va c B Imm):=Q0u _
 rcases hop with rfl|rfl|rfl|rfl|rfl|rfl|rfl|rfl|rfl|rfl|rfl|rfl|rfl|rfl|rfl|rfl|rfl|rfl|rfl|rfl|rfl|rfl|rfl|rfl|rfl|rfl|rfl|rfl|rfl|rfl|rfl|rfl|rfl|rfl|rfl|rfl|rfl|rfl|rfl|rfl|rfl|rfl|rfl|rfl
 . exact(show Q61 c m ⟨1,A,B,C,Imm⟩=(setP c A (Q4d 1 (regX c B) (regX c C)).1 (nxt c),m,eff0) by kernel_rfl).trans ((alu (by decide) (by decide) uC).trans (by kernel_rfl))
 . exact(show Q61 c m ⟨2,A,B,C,Imm⟩=(setP c A (Q4d 2 (regX c B) (regX c C)).1 (nxt c),m,eff0) by kernel_rfl).trans ((alu (by decide) (by decide) uC).trans (by kernel_rfl))
 . exact(show Q61 c m ⟨3,A,B,C,Imm⟩=(setP c A (Q4d 3 (regX c B) (regX c C)).1 (nxt c),m,eff0) by kernel_rfl).trans ((alu (by decide) (by decide) uC).trans (by kernel_rfl))
 . exact(show Q61 c m ⟨4,A,B,C,Imm⟩=(setP c A (Q4d 4 (regX c B) (regX c C)).1 (nxt c),m,eff0) by kernel_rfl).trans ((alu (by decide) (by decide) uC).trans (by kernel_rfl))
 . exact(show Q61 c m ⟨5,A,B,C,Imm⟩=(setP c A (Q4d 5 (regX c B) (regX c C)).1 (nxt c),m,eff0) by kernel_rfl).trans ((alu (by decide) (by decide) uC).trans (by kernel_rfl))
 . exact(show Q61 c m ⟨6,A,B,C,Imm⟩=(setP c A (Q4d 6 (regX c B) (regX c C)).1 (nxt c),m,eff0) by kernel_rfl).trans ((alu (by decide) (by decide) uC).trans (by kernel_rfl))
 . exact(show Q61 c m ⟨7,A,B,C,Imm⟩=(setP c A (Q4d 7 (regX c B) (regX c C)).1 (nxt c),m,eff0) by kernel_rfl).trans ((alu (by decide) (by decide) uC).trans (by kernel_rfl))
 . exact(show Q61 c m ⟨8,A,B,C,Imm⟩=(setP c A (Q4d 8 (regX c B) (regX c C)).1 (nxt c),m,eff0) by kernel_rfl).trans ((alu (by decide) (by decide) uC).trans (by kernel_rfl))
 . exact(show Q61 c m ⟨9,A,B,C,Imm⟩=(setP c A (Q4d 9 (regX c B) (regX c C)).1 (nxt c),m,eff0) by kernel_rfl).trans ((alu (by decide) (by decide) uC).trans (by kernel_rfl))
 . exact(show Q61 c m ⟨10,A,B,C,Imm⟩=(setP c A (Q4d 10 (regX c B) (regX c C)).1 (nxt c),m,eff0) by kernel_rfl).trans ((alu (by decide) (by decide) uC).trans (by kernel_rfl))
 . exact(show Q61 c m ⟨11,A,B,C,Imm⟩=(setP c A (Q4d 11 (regX c B) (regX c C)).1 (nxt c),m,eff0) by kernel_rfl).trans ((alu (by decide) (by decide) uC).trans (by kernel_rfl))
 . exact(show Q61 c m ⟨12,A,B,C,Imm⟩=(setP c A (Q4d 12 (regX c B) (regX c C)).1 (nxt c),m,eff0) by kernel_rfl).trans ((alu (by decide) (by decide) uC).trans (by kernel_rfl))
 . exact(show Q61 c m ⟨13,A,B,C,Imm⟩=(setP c A (Q4d 13 (regX c B) (regX c C)).1 (nxt c),m,eff0) by kernel_rfl).trans ((alu (by decide) (by decide) uC).trans (by kernel_rfl))
 . exact(show Q61 c m ⟨16,A,B,C,Imm⟩=(setP c A (Q4d 16 (regX c B) (wrap .u32 Imm)).1 (nxt c),m,eff0) by kernel_rfl).trans ((alu (by decide) (by decide) uI).trans (by kernel_rfl))
 . exact(show Q61 c m ⟨17,A,B,C,Imm⟩=(setP c A (Q4d 17 (regX c B) (wrap .u32 Imm)).1 (nxt c),m,eff0) by kernel_rfl).trans ((alu (by decide) (by decide) uI).trans (by kernel_rfl))
 . exact(show Q61 c m ⟨18,A,B,C,Imm⟩=(setP c A (Q4d 18 (regX c B) (wrap .u32 Imm)).1 (nxt c),m,eff0) by kernel_rfl).trans ((alu (by decide) (by decide) uI).trans (by kernel_rfl))
 . exact(show Q61 c m ⟨19,A,B,C,Imm⟩=(setP c A (Q4d 19 (regX c B) (wrap .u32 Imm)).1 (nxt c),m,eff0) by kernel_rfl).trans ((alu (by decide) (by decide) uI).trans (by kernel_rfl))
 . exact(show Q61 c m ⟨20,A,B,C,Imm⟩=(setP c A (Q4d 20 (regX c B) (wrap .u32 Imm)).1 (nxt c),m,eff0) by kernel_rfl).trans ((alu (by decide) (by decide) uI).trans (by kernel_rfl))
 . exact(show Q61 c m ⟨21,A,B,C,Imm⟩=(setP c A (Q4d 21 (regX c B) (wrap .u32 Imm)).1 (nxt c),m,eff0) by kernel_rfl).trans ((alu (by decide) (by decide) uI).trans (by kernel_rfl))
 . exact(show Q61 c m ⟨22,A,B,C,Imm⟩=(setP c A (Q4d 22 (regX c B) (wrap .u32 Imm)).1 (nxt c),m,eff0) by kernel_rfl).trans ((alu (by decide) (by decide) uI).trans (by kernel_rfl))
 . exact(show Q61 c m ⟨23,A,B,C,Imm⟩=(setP c A (Q4d 23 (regX c B) (wrap .u32 Imm)).1 (nxt c),m,eff0) by kernel_rfl).trans ((alu (by decide) (by decide) uI).trans (by kernel_rfl))
 . refine(show Q61 c m ⟨24,A,B,C,Imm⟩=(setP c A (ishl .u32 (wrap .u32 Imm) 16) (nxt c),m,eff0) by kernel_rfl).trans ?_
   rw[Zfk c hA,<-Zi9];kernel_rfl
 . have e:=Zju h hc hst hA hva (.inr rfl) (f:=λv=>v) (g:=λv=>v) (λ_ _=>rfl)
   rw[<-l1,<-l2]at e
   refine(show Q61 c m ⟨32,A,B,C,Imm⟩=((Q6p c m ⟨32,A,B,C,Imm⟩).1,(Q6p c m ⟨32,A,B,C,Imm⟩).2,eff0) by kernel_rfl).trans ?_
   rw[e];kernel_rfl
 . have e:=Zju h hc hst hA hva (.inl rfl) (f:=λv=>Q2g v 8) (g:=λv=>Q3i v 8) (λhm a=>qak hm a)
   rw[<-l3,<-l4]at e
   refine(show Q61 c m ⟨33,A,B,C,Imm⟩=((Q6p c m ⟨33,A,B,C,Imm⟩).1,(Q6p c m ⟨33,A,B,C,Imm⟩).2,eff0) by kernel_rfl).trans ?_
   rw[e];kernel_rfl
 . have e:=Zju h hc hst hA hva (.inl rfl) (f:=λv=>v) (g:=λv=>v) (λ_ _=>rfl)
   rw[<-l5,<-l6]at e
   refine(show Q61 c m ⟨34,A,B,C,Imm⟩=((Q6p c m ⟨34,A,B,C,Imm⟩).1,(Q6p c m ⟨34,A,B,C,Imm⟩).2,eff0) by kernel_rfl).trans ?_
   rw[e];kernel_rfl
 . have e:=xi h hc hst (A:=A) hva (.inr rfl)
   rw[<-l7,<-l8]at e
   refine(show Q61 c m ⟨35,A,B,C,Imm⟩=((Q8p c m ⟨35,A,B,C,Imm⟩).1,(Q8p c m ⟨35,A,B,C,Imm⟩).2,eff0) by kernel_rfl).trans ?_
   rw[e];kernel_rfl
 . have e:=xi h hc hst (A:=A) hva (.inl rfl)
   rw[<-l9,<-l10]at e
   refine(show Q61 c m ⟨36,A,B,C,Imm⟩=((Q8p c m ⟨36,A,B,C,Imm⟩).1,(Q8p c m ⟨36,A,B,C,Imm⟩).2,eff0) by kernel_rfl).trans ?_
   rw[e];kernel_rfl
 . exact(show Q61 c m ⟨40,A,B,C,Imm⟩=((bif(Q2a 40 (regX c A) (regX c B)) then((⟨c.X,wrap .u32 (c.Pc+wrap .u32 (4*wrap .u32 Imm)),c.B5⟩:Q05),eff0) else(⟨c.X,nxt c,c.B5⟩,eff0)).1,m,(bif(Q2a 40 (regX c A) (regX c B)) then((⟨c.X,wrap .u32 (c.Pc+wrap .u32 (4*wrap .u32 Imm)),c.B5⟩:Q05),eff0) else(⟨c.X,nxt c,c.B5⟩,eff0)).2) by kernel_rfl).trans ((brc (Q2a 40 (regX c A) (regX c B)) ⟨c.X,wrap .u32 (c.Pc+wrap .u32 (4*wrap .u32 Imm)),c.B5⟩ ⟨c.X,nxt c,c.B5⟩ m).trans (by kernel_rfl))
 . exact(show Q61 c m ⟨41,A,B,C,Imm⟩=((bif(Q2a 41 (regX c A) (regX c B)) then((⟨c.X,wrap .u32 (c.Pc+wrap .u32 (4*wrap .u32 Imm)),c.B5⟩:Q05),eff0) else(⟨c.X,nxt c,c.B5⟩,eff0)).1,m,(bif(Q2a 41 (regX c A) (regX c B)) then((⟨c.X,wrap .u32 (c.Pc+wrap .u32 (4*wrap .u32 Imm)),c.B5⟩:Q05),eff0) else(⟨c.X,nxt c,c.B5⟩,eff0)).2) by kernel_rfl).trans ((brc (Q2a 41 (regX c A) (regX c B)) ⟨c.X,wrap .u32 (c.Pc+wrap .u32 (4*wrap .u32 Imm)),c.B5⟩ ⟨c.X,nxt c,c.B5⟩ m).trans (by kernel_rfl))
 . exact(show Q61 c m ⟨42,A,B,C,Imm⟩=((bif(Q2a 42 (regX c A) (regX c B)) then((⟨c.X,wrap .u32 (c.Pc+wrap .u32 (4*wrap .u32 Imm)),c.B5⟩:Q05),eff0) else(⟨c.X,nxt c,c.B5⟩,eff0)).1,m,(bif(Q2a 42 (regX c A) (regX c B)) then((⟨c.X,wrap .u32 (c.Pc+wrap .u32 (4*wrap .u32 Imm)),c.B5⟩:Q05),eff0) else(⟨c.X,nxt c,c.B5⟩,eff0)).2) by kernel_rfl).trans ((brc (Q2a 42 (regX c A) (regX c B)) ⟨c.X,wrap .u32 (c.Pc+wrap .u32 (4*wrap .u32 Imm)),c.B5⟩ ⟨c.X,nxt c,c.B5⟩ m).trans (by kernel_rfl))
 . exact(show Q61 c m ⟨43,A,B,C,Imm⟩=((bif(Q2a 43 (regX c A) (regX c B)) then((⟨c.X,wrap .u32 (c.Pc+wrap .u32 (4*wrap .u32 Imm)),c.B5⟩:Q05),eff0) else(⟨c.X,nxt c,c.B5⟩,eff0)).1,m,(bif(Q2a 43 (regX c A) (regX c B)) then((⟨c.X,wrap .u32 (c.Pc+wrap .u32 (4*wrap .u32 Imm)),c.B5⟩:Q05),eff0) else(⟨c.X,nxt c,c.B5⟩,eff0)).2) by kernel_rfl).trans ((brc (Q2a 43 (regX c A) (regX c B)) ⟨c.X,wrap .u32 (c.Pc+wrap .u32 (4*wrap .u32 Imm)),c.B5⟩ ⟨c.X,nxt c,c.B5⟩ m).trans (by kernel_rfl))
 . exact(show Q61 c m ⟨44,A,B,C,Imm⟩=((bif(Q2a 44 (regX c A) (regX c B)) then((⟨c.X,wrap .u32 (c.Pc+wrap .u32 (4*wrap .u32 Imm)),c.B5⟩:Q05),eff0) else(⟨c.X,nxt c,c.B5⟩,eff0)).1,m,(bif(Q2a 44 (regX c A) (regX c B)) then((⟨c.X,wrap .u32 (c.Pc+wrap .u32 (4*wrap .u32 Imm)),c.B5⟩:Q05),eff0) else(⟨c.X,nxt c,c.B5⟩,eff0)).2) by kernel_rfl).trans ((brc (Q2a 44 (regX c A) (regX c B)) ⟨c.X,wrap .u32 (c.Pc+wrap .u32 (4*wrap .u32 Imm)),c.B5⟩ ⟨c.X,nxt c,c.B5⟩ m).trans (by kernel_rfl))
 . exact(show Q61 c m ⟨45,A,B,C,Imm⟩=((bif(Q2a 45 (regX c A) (regX c B)) then((⟨c.X,wrap .u32 (c.Pc+wrap .u32 (4*wrap .u32 Imm)),c.B5⟩:Q05),eff0) else(⟨c.X,nxt c,c.B5⟩,eff0)).1,m,(bif(Q2a 45 (regX c A) (regX c B)) then((⟨c.X,wrap .u32 (c.Pc+wrap .u32 (4*wrap .u32 Imm)),c.B5⟩:Q05),eff0) else(⟨c.X,nxt c,c.B5⟩,eff0)).2) by kernel_rfl).trans ((brc (Q2a 45 (regX c A) (regX c B)) ⟨c.X,wrap .u32 (c.Pc+wrap .u32 (4*wrap .u32 Imm)),c.B5⟩ ⟨c.X,nxt c,c.B5⟩ m).trans (by kernel_rfl))
 . refine(show Q61 c m ⟨48,A,B,C,Imm⟩=(setP c A (nxt c) (wrap .u32 ((Qb7 c A (nxt c)).Pc+wrap .u32 (4*wrap .u32 Imm))),m,eff0) by kernel_rfl).trans ?_
   rw[Zfk c hA,Z1b c hA,(xY c A (nxt c)).1];kernel_rfl
 . refine(show Q61 c m ⟨49,A,B,C,Imm⟩=(setP c A (nxt c) (va c B Imm),m,eff0) by kernel_rfl).trans ?_
   rw[Zfk c hA];kernel_rfl
 . refine(show Q61 c m ⟨56,A,B,C,Imm⟩=(Q4y c 7 0,m,eff0) by kernel_rfl).trans ?_
   rw[Qpo hc.a0.1 hst];kernel_rfl
 . refine(show Q61 c m ⟨57,A,B,C,Imm⟩=(Qeu c,m,eff0) by kernel_rfl).trans ?_
   rw[Zjf hc.a0.1 hst];kernel_rfl
 . refine(show Q61 c m ⟨58,A,B,C,Imm⟩=(setP c A (aK (A8.l c.B5) Imm.toNat 0) (nxt c),m,eff0) by kernel_rfl).trans ?_
   rw[Zfk c hA,<-Zi9];kernel_rfl
 . have e:=yI c (wrap .i64 Imm) (regX c A)
   refine(show Q61 c m ⟨59,A,B,C,Imm⟩=((⟨(Qi c (wrap .i64 Imm) (regX c A)).X,wrap .u32 (c.Pc+4),(Qi c (wrap .i64 Imm) (regX c A)).B5⟩:Q05),m,eff0) by kernel_rfl).trans ?_
   rw[<-e];kernel_rfl
 . exact(show Q61 c m ⟨60,A,B,C,Imm⟩=((Qk0 c m ⟨60,A,B,C,Imm⟩).1,(Qk0 c m ⟨60,A,B,C,Imm⟩).2.2,(Qk0 c m ⟨60,A,B,C,Imm⟩).2.1) by kernel_rfl)
 . exact(show Q61 c m ⟨61,A,B,C,Imm⟩=((Qk0 c m ⟨61,A,B,C,Imm⟩).1,(Qk0 c m ⟨61,A,B,C,Imm⟩).2.2,(Qk0 c m ⟨61,A,B,C,Imm⟩).2.1) by kernel_rfl)
 . exact(show Q61 c m ⟨62,A,B,C,Imm⟩=((Qk0 c m ⟨62,A,B,C,Imm⟩).1,(Qk0 c m ⟨62,A,B,C,Imm⟩).2.2,(Qk0 c m ⟨62,A,B,C,Imm⟩).2.1) by kernel_rfl)
 . exact(show Q61 c m ⟨63,A,B,C,Imm⟩=((Qk0 c m ⟨63,A,B,C,Imm⟩).1,(Qk0 c m ⟨63,A,B,C,Imm⟩).2.2,(Qk0 c m ⟨63,A,B,C,Imm⟩).2.1) by kernel_rfl)
 . exact(show Q61 c m ⟨64,A,B,C,Imm⟩=((Qk0 c m ⟨64,A,B,C,Imm⟩).1,(Qk0 c m ⟨64,A,B,C,Imm⟩).2.2,(Qk0 c m ⟨64,A,B,C,Imm⟩).2.1) by kernel_rfl)
end
theorem zak{op:Int}(h0:0<=op)(h1:op<256)(h:Q2d op≠0):isOp op:=by
 have e:=oY (Quo (λop=>decide (Q2d op=0\/isOpB op=true)) 256 (by kernel_rfl) h0 h1)
 rcases e with e|e
 . exact absurd e h
 . simpa only[isOpB,isOp,aI,decide_eq_true_eq,or_assoc] using e
theorem qj{op:Int}(o:isOp op):1<=op/\op<=64:=by
 unfold isOp at o
 rcases o with h|h|h|h|h|h|h|h|h|h|h|h|h|h|h|h|h|h|h|h|h|h|h|h|h|h|h|h|h|h|h|h|h|h|h|h|h|h|h|h|h|h|h|h<;>(rw[h];decide)
theorem xj{w:Int}(hw:U w):(Q21 w).2=true->isOp (Q21 w).1.Op:=by
  have s24:ishr .u32 w 24=w/16777216:=by have:=Qrd (a:=w) 24 (by decide);simpa using this
  obtain⟨w0,w1⟩:=hw
  have eo:wrap .i64 (w/16777216)=w/16777216:=w64 (by omega) (by omega)
  have q:(λr:Q0m×Bool=>r.2=true->isOp r.1.Op) (Q21 w):=by
    simp only[Q21,Q6o,Tree.m,letv,s24,eo]
    cases hf:Q2d (w/16777216)==0
    . have g:isOp (w/16777216):=zak (by omega) (by omega) (by simpa using hf)
      repeat'(first
        |exact λ_=>g
        |exact λe=>eX (show false=true from e)
        |refine Z2i (Q:=λr:Q0m×Bool=>r.2=true->isOp r.1.Op) ?_ ?_)
    . exact λe=>eX (show false=true from e)
  exact q
section
variable (c:Q05) (m:List Int)
def doR(x:Int×Int×List Int)(w:Int)(d:Q0m×Bool):Q05×Q16×List Int:=
 bif x.2.1 !=0 then(Q2y c x.2.1 c.Pc,eff0,x.2.2) else bif !d.2 then(Q2y c 1 w,eff0,x.2.2) else bif Q3h d.1.Op then(bif iand .u32 c.B5.a0 1==0 then(Q2y c 2 w,eff0,x.2.2) else Qk0 c x.2.2 d.1) else Qk0 c x.2.2 d.1
def doP(y:Int×List Int×Int)(d:Q0m×Bool):Q05×List Int×Q16:=
 bif y.2.2 !=0 then(Q4y c y.2.2 c.Pc,y.2.1,eff0) else bif !d.2 then(Q4y c 1 y.1,y.2.1,eff0) else bif Q8y d.1.Op then(bif !Qal c then(Q4y c 2 y.1,y.2.1,eff0) else Q61 c y.2.1 d.1) else Q61 c y.2.1 d.1
theorem do_eq:Q7n c m=doR c (Q17 c m c.Pc 4 1) (Q1e (Q17 c m c.Pc 4 1).2.2 (Q17 c m c.Pc 4 1).1 4).1 (Q21 (Q1e (Q17 c m c.Pc 4 1).2.2 (Q17 c m c.Pc 4 1).1 4).1):=by kernel_rfl
theorem xak:Q84 c m=doP c (Qph c m) (Qhz (Qph c m).1):=by kernel_rfl
theorem vI:Qph c m=bif(Q27 c m c.Pc 4 1).2.2 !=0 then(0,(Q27 c m c.Pc 4 1).2.1,(Q27 c m c.Pc 4 1).2.2) else((Q5 (Q27 c m c.Pc 4 1).2.1 (Q27 c m c.Pc 4 1).1 4).1,(Q27 c m c.Pc 4 1).2.1,0):=by kernel_rfl
end
theorem Zhe{P:Nat}{m:List Int}(h:Q15 P m){c:Q05}(hc:Q2j c)(hst:c.B5.a0<=31):Q84 c m=((Q7n c m).1,(Q7n c m).2.2,(Q7n c m).2.1):=by
  obtain⟨k,u,b⟩:=Zk9 h hc hc.pc (.inr rfl) 1
  have tr: ∀k b,Q4y c k b=Q2y c k b:=Qpo hc.a0.1 hst
  rw[xak,do_eq,vI,Qp4 h hc hst hc.pc (.inr rfl) (.inl rfl)]
  generalize Q17 c m c.Pc 4 1=x at*
  cases hx:x.2.1 !=0
  . rw [Qo4 k u (.inr rfl)]
    have hw:U (Q1e x.2.2 x.1 4).1:=(Tree.pp (Zh6 k u (.inr rfl))).2
    generalize(Q1e x.2.2 x.1 4).1=w at*
    show doP c (w,x.2.2,0) (Qhz w)=_
    rw[vg hw]
    have o:=xj hw
    have i:=Tree.post _ (Zma w)
    change(Q21 w).2=true->Qgl (Q21 w).1 at i
    generalize Q21 w=d at*
    obtain⟨⟨op,A,B,C,Imm⟩,ok⟩:=d
    cases ok
    . simp only[doP,doR,hx,tr];rfl
    . have o:isOp op:=o rfl
      have i:=i rfl
      have p:=vi (C:=C) (B:=B) (Imm:=Imm) k hc hst i.a o
      have pv:Q8y op=Q3h op:=zah (by have:=qj o;omega) (by have:=qj o;omega)
      have kn:(!Qal c)=(iand .u32 c.B5.a0 1==0):=by
        show(!(!(iand .u32 c.B5.a0 1==0)))=_
        exact Bool.not_not _
      simp only[doP,doR,hx,tr,pv,kn,p]
      cases Q3h op
      . rfl
      . cases iand .u32 c.B5.a0 1==0<;>rfl
  . simp only[doP,doR,hx,cond_true,tr]
theorem zj{a b:Int}:decide (a>=b)=!decide (a<b):=by
 by_cases h:a<b
 . rw[dY h,dN (by omega)];rfl
 . rw[dN h,dY (by omega)];rfl
def bits(g:Int)(l:List Nat)(s:Int):Int:=l.foldl (λ(a:Int) (i:Nat)=>wrap .i64 (a+wrap .i64 (iand .u32 (ishr .u32 g (i:Int)) 1))) s
theorem qJ(b:Q07):Qf8 b=bits b.C3 [0,1,2,3,4,5,6,7,8,9,10,11,12,13,14,15,16,17,18,19,20,21,22,23,24,25,26,27,28,29,30,31] 0:=by kernel_rfl
theorem zaH{g:Int}(hg:U g){i:Nat}(hi:i<=32):wrap .i64 (iand .u32 (ishr .u32 g (i:Int)) 1)=g/2^i%2:=by
 rw[and1 (Qxx hg _),Qrd i hi]
 have:0<=g/2^i%2/\g/2^i%2<2:=by omega
 exact w64 (by omega) (by omega)
theorem xJ{g:Int}(hg:U g)(l:List Nat): ∀s:Int,(∀i∈l,i<=32)->0<=s->s+l.length<=1000->bits g l s=s+(l.map λi=>g/2^i%2).sum:=by
 induction l with
 |nil=>intro s _ _ _;simp [bits]
 | cons i l ih=>
   intro s hl h0 h1
   have h1:s+(l.length+1)<=1000:=by simpa using h1
   have hb:0<=g/2^i%2/\g/2^i%2<2:=by omega
   have e:bits g (i::l) s=bits g l (s+g/2^i%2):=by
     show bits g l (wrap .i64 (s+wrap .i64 (iand .u32 (ishr .u32 g (i:Int)) 1)))=_
     rw[zaH hg (hl i (by simp)),w64 (by omega) (by omega)]
   rw[e,ih _ (λj hj=>hl j (by simp [hj])) (by omega) (by omega)]
   simp;omega
theorem Zn7(n:Q0r)(port:Int):Z41 n port=Qhv n port:=by
 simp only[Z41,Qv8,Qhv,Qgn,Tree.m]
 cases n.C7<;>cases n.B8<;>rfl
theorem Z6a(t:Q0i):Q4g t=Qdq t:=by
 simp only[Q4g,Qn2,Qdq,Qit,Tree.m]
 cases t.D2<;>cases t.D5<;>rfl
theorem Zde(n:Q0r)(p:Int):Q69 n p=Qj3 n p:=by
 simp only[Q69,Ql8,Qj3,Qn,Tree.m]
 cases n.C7<;>cases n.B8<;>rfl
theorem Zba(d:Q0g)(p:Int):Q1l d p=Qgb d p:=by
  simp only[Q1l,Q6h,Qa6,Q7v,Qgb,Ql2,Tree.m,letv,zj]
  cases decide (d.Blocks>64)
  . by_cases s:d.C1=0\/d.C1=1\/d.C1=2\/d.C1=3
    . rcases s with s|s|s|s<;>rw[s]
      . rfl
      . by_cases c1:d.D8=1
        . rw[c1];cases decide (d.B7<d.Blocks)<;>cases decide (wrap .i64 d.B3<p)<;>cases decide (d.C4=[])<;>rfl
        . by_cases c2:d.D8=2
          . rw[c2];cases decide (d.B7<d.Blocks)<;>cases decide (wrap .i64 d.B3<p)<;>cases(d.C4.length:Int)==128<;>rfl
          . rw[show(d.D8==1)=false by simpa using c1,show(d.D8==2)=false by simpa using c2]
            cases decide (d.B7<d.Blocks)<;>cases decide (wrap .i64 d.B3<p)<;>rfl
      . rfl
      . rfl
    . rw[show(d.C1==0)=false by simp;omega,show(d.C1==1)=false by simp;omega,show(d.C1==2)=false by simp;omega,show(d.C1==3)=false by simp;omega]
      by_cases n:d.C1<0
      . rw[dY n];rfl
      . rw[dN n,dY (show d.C1>3 by omega)];rfl
  . rfl
theorem zJ(c:Q0d):Qa2 c=Q62 c:=by
 show(!decide (c.D3=[]))=decide ((c.D3.length:Int)>0)
 cases c.D3 with
 |nil=>rfl
 |cons a l=>rw[dN (by simp),dY (by simp)];rfl
theorem qal(k:List UInt8):decide (k=[])=((k.length:Int)==0):=by
 cases k with
 |nil=>rfl
 | cons a l=>
   rw[dN (by simp)]
   exact(beq_eq_false_iff_ne.2 (by simp;omega)).symm
theorem Zok(c:Q0d)(port:Int):Qqp c port=Q5g c port:=by
 simp only[Qqp,Qa5,Q5g,Q3m,Tree.m,qal]
 cases port==0
 . rfl
 . cases(c.D3.length:Int)==0<;>rfl
theorem yJ(t:Q0i)(v:Int):Qlv t v=Qt6 v:=by
 simp only[Qlv,Qmq,Qt6,Qx,Tree.m]
 cases h:v==0
 . rw[show(v !=0)=true by simp only[bne,h];rfl];rfl
 . rw[show(v !=0)=false by simp only[bne,h];rfl,eq_of_beq h];rfl
section
variable {P:Nat} {m:List Int} (h:Q15 P m)
include h
theorem Z86(f:Int):Q9u m f=Q29 m f:=by
 have a:=Q3u h
 have b:=Qfl h
 simp only[Q9u,Qdv,Q29,Qjb,Tree.m,letv,a,b]
theorem Z8x(f:Int):Qac m f=Q29 m f:=by
 have a:=Q3u h
 have b:=Qfl h
 simp only[Qac,Qg3,Q29,Qjb,Tree.m,letv,a,b]
theorem Zdm(d:Q0g)(port v at0:Int):Z0v d m port v at0=Qg2 d m port v at0:=by
  have pg:=Z86 h
  have pa:=Zdi h
  have rq: ∀d a,Qk3 d a=Qke d a:=λ_ _=>rfl
  simp only[Z0v,Qhu,Qx0,Qd8,Qg2,Q8t,Tree.m,letv,pg,pa,rq]
  cases port==4
  . cases port==5
    . cases h6:port==6
      . rw[show(port !=6)=true by simp only[bne,h6];rfl];rfl
      . rw [show(port !=6)=false by simp only[bne,h6];rfl]
        by_cases v1:v=1
        . subst v1
          cases hs:d.C1==0
          . rw[show(d.C1 !=0)=true by simp only[bne,hs];rfl];rfl
          . rw[show(d.C1 !=0)=false by simp only[bne,hs];rfl];rfl
        . by_cases v2:v=2
          . subst v2
            cases hs:d.C1==0
            . rw[show(d.C1 !=0)=true by simp only[bne,hs];rfl];rfl
            . rw[show(d.C1 !=0)=false by simp only[bne,hs];rfl];rfl
          . rw[show(v==1)=false by simpa using v1,show(v==2)=false by simpa using v2]
            cases v==0
            . rfl
            . have:Q9e d=(bif d.C1==2 then true else d.C1==3):=rfl
              rw[this]
              cases d.C1==2<;>cases d.C1==3<;>rfl
    . rfl
  . rfl
theorem Zk6(n:Q0r)(port v at0:Int):Zal n m port v at0=Qij n m port v at0:=by
  have pg:=Z8x h
  have pa:=Zdi h
  simp only[Zal,Qls,Zcd,Qhy,Qij,Qap,Tree.m,letv,pg,pa]
  have g1:decide (n.E0>=1)=!decide (n.E0<1):=zj
  have g2:decide (n.E0<=128)=!decide (n.E0>128):=by
    by_cases h:n.E0>128
    . rw[dY h,dN (by omega)];rfl
    . rw[dN h,dY (by omega)];rfl
  rw[g1,g2]
  cases port==7
  . cases port==8
    . cases h9:port==9
      . rw[show(port !=9)=true by simp only[bne,h9];rfl];rfl
      . rw [show(port !=9)=false by simp only[bne,h9];rfl]
        by_cases v1:v=1
        . subst v1
          cases decide (n.E0<1)<;>cases decide (n.E0>128)<;>cases Q29 m n.Frame<;>rfl
        . by_cases v2:v=2
          . subst v2;rfl
          . rw[show(v==1)=false by simpa using v1,show(v==2)=false by simpa using v2]
            cases v==0<;>rfl
    . rfl
  . rfl
theorem Zcp{d:Q0g}(hd:Q99 d)(e:Q0a):Qhb d m e=((Q81 d m e).1,(Q81 d m e).2.2,(Q81 d m e).2.1):=by
  have hcl:Q04 m=m:=rfl
  have pg:=Z86 h d.B3
  have lp:decide ((e.D0.length:Int)>0)=!decide (e.D0=[]):=by
    cases e.D0 with
    |nil=>rfl
    |cons a l=>rw[dY (by simp),dN (by simp)];rfl
  have bad:(e.D0.length:Int)≠128->Q29 m d.B3=true->Q2w m (wrap .i64 d.B3) e.D0=(m,false):=λhl hp=>by
    rw[Qn7 h hd.opFrame]at hp
    have hp:=oY hp
    have h1:=hd.opFrame.1
    have h3:=h.p2
    have ew:i64.wrap d.B3=d.B3:=w64 (by omega) (by omega)
    simp only[Q2w,Q3l,Tree.m,letv,hcl,ew,Zam h,dY (⟨h1,hp⟩:0<=d.B3/\d.B3<P),show((e.D0.length:Int) !=128)=true by simpa using hl]
    rfl
  have good:(e.D0.length:Int)=128->Q29 m d.B3=true->Q2w m (wrap .i64 d.B3) e.D0=(Qm0 m (wrap .i64 d.B3) e.D0,true):=λhl hp=>by
    rw[Qn7 h hd.opFrame]at hp
    have hp:=oY hp
    have h1:=hd.opFrame.1
    have h3:=h.p2
    have ew:i64.wrap d.B3=d.B3:=w64 (by omega) (by omega)
    rw[ew];exact Zgp h h1 hp (by omega)
  simp only[Qhb,Q7p,Q81,Q6q,Tree.m,letv,hcl,pg,lp]
  cases d.C1 !=1
  . cases e.B6 !=4
    . cases decide (e.N>1)
      . cases e.N==1
        . cases decide (e.D0=[])<;>rfl
        . cases hc:d.D8==1
          . cases decide (e.D0=[])<;>rfl
          . by_cases hl:(e.D0.length:Int)=128
            . rw[show((e.D0.length:Int) !=128)=false by simpa using hl]
              cases hp:Q29 m d.B3
              . rfl
              . rw[good hl hp];rfl
            . rw[show((e.D0.length:Int) !=128)=true by simpa using hl]
              cases hp:Q29 m d.B3
              . rfl
              . rw[bad hl hp];rfl
      . rfl
    . rfl
  . rfl
theorem Zdy{n:Q0r}(hn:Qjx n)(frame:List UInt8):Qm9 n m frame=((Q83 n m frame).1,(Q83 n m frame).2.2,(Q83 n m frame).2.1):=by
  have hcl:Q04 m=m:=rfl
  have pg:=Z8x h n.B9
  simp only[Qm9,Qau,Q83,Q6y,Tree.m,letv,hcl,pg]
  cases !n.C7
  . cases decide ((frame.length:Int)<1)
    . cases hf:decide ((frame.length:Int)>128)
      . cases hp:Q29 m n.B9
        . rfl
        . rw[Qn7 h hn.buffer]at hp
          have hp:=oY hp
          have h1:=hn.buffer.1
          have h3:=h.p2
          have ew:i64.wrap n.B9=n.B9:=w64 (by omega) (by omega)
          have hf:=oN hf
          obtain⟨b1,b2⟩:=(Tree.pp (yh h h1 hp)).2
          change isPg m n.B9 (Q5q m n.B9).1 at b1
          have tk:cY (dC ((Q5q m n.B9).1.length:Int)-dC (frame.length:Int)) (cZ (dC (frame.length:Int)) (Q5q m n.B9).1)=(Q5q m n.B9).1.drop frame.length:=by
            rw[eB,eB]
            exact eY (by simp)
          rw[ew,tk,Zem h h1 hp (by omega) b1]
          rfl
      . rfl
    . rfl
  . rfl
end
def ptab:List UInt8:=(dA 256).map λn=>eV (n%2+n/2%2+n/4%2+n/8%2+n/16%2+n/32%2+n/64%2+n/128%2)
def pt(n:Int):Int:=((eU (ptab.getD n.toNat 0):Nat):Int)
theorem vJ(x:Int):Q6m x=wrap .i64 (wrap .u8 (wrap .u8 (wrap .u8 (pt (ishr .u32 x 24)+pt (iand .u32 (ishr .u32 x 16) 255))+pt (iand .u32 (ishr .u32 x 8) 255))+pt (iand .u32 x 255))):=by kernel_rfl
theorem pt8{a:Int}(h0:0<=a)(h1:a<256):pt a=a%2+a/2%2+a/4%2+a/8%2+a/16%2+a/32%2+a/64%2+a/128%2:=
 eq_of_beq (Quo (λa=>pt a==a%2+a/2%2+a/4%2+a/8%2+a/16%2+a/32%2+a/64%2+a/128%2) 256 (by kernel_rfl) h0 h1)
theorem yj{g:Int}(hg:U g):bits g [0,1,2,3,4,5,6,7,8,9,10,11,12,13,14,15,16,17,18,19,20,21,22,23,24,25,26,27,28,29,30,31] 0=pt (g%256)+pt (g/256%256)+pt (g/65536%256)+pt (g/16777216):=by
 rw[xJ hg _ 0 (by decide) (by decide) (by decide),pt8 (by omega) (by omega),pt8 (by omega) (by omega),pt8 (by omega) (by omega),pt8 (by have:=hg.1;omega) (by have:=hg.2;omega)]
 obtain⟨g0,g1⟩:=hg
 simp only[List.map_cons,List.map_nil,List.sum_cons,List.sum_nil]
 have e: ∀i j:Nat,∀k:Int,i<8->k=2^j->g/2^(i+j)%2=(g/k%256)/2^i%2:=λi j k hi hk=>by
   subst hk
   rw[Nat.add_comm,dO,<-eZ (dM (dK (by decide)))]
   generalize g/2^j=x
   have:i=0\/i=1\/i=2\/i=3\/i=4\/i=5\/i=6\/i=7:=by omega
   rcases this with rfl|rfl|rfl|rfl|rfl|rfl|rfl|rfl<;>simp<;>omega
 have e0: ∀i:Nat,i<8->g/2^i%2=(g%256)/2^i%2:=λi hi=>by have:=e i 0 1 hi rfl;simpa using this
 have e24:g/16777216%256=g/16777216:=by omega
 rw[e0 0 (by decide),e0 1 (by decide),e0 2 (by decide),e0 3 (by decide),e0 4 (by decide),e0 5 (by decide),e0 6 (by decide),e0 7 (by decide)]
 rw[e 0 8 256 (by decide) (by decide),e 1 8 256 (by decide) (by decide),e 2 8 256 (by decide) (by decide),e 3 8 256 (by decide) (by decide),e 4 8 256 (by decide) (by decide),e 5 8 256 (by decide) (by decide),e 6 8 256 (by decide) (by decide),e 7 8 256 (by decide) (by decide)]
 rw[e 0 16 65536 (by decide) (by decide),e 1 16 65536 (by decide) (by decide),e 2 16 65536 (by decide) (by decide),e 3 16 65536 (by decide) (by decide),e 4 16 65536 (by decide) (by decide),e 5 16 65536 (by decide) (by decide),e 6 16 65536 (by decide) (by decide),e 7 16 65536 (by decide) (by decide)]
 rw[e 0 24 16777216 (by decide) (by decide),e 1 24 16777216 (by decide) (by decide),e 2 24 16777216 (by decide) (by decide),e 3 24 16777216 (by decide) (by decide),e 4 24 16777216 (by decide) (by decide),e 5 24 16777216 (by decide) (by decide),e 6 24 16777216 (by decide) (by decide),e 7 24 16777216 (by decide) (by decide),e24]
 generalize g%256=a
 generalize g/256%256=b
 generalize g/65536%256=c
 generalize g/16777216=d
 simp only[show(2:Int)^0=1 from rfl,show(2:Int)^1=2 from rfl,show(2:Int)^2=4 from rfl,show(2:Int)^3=8 from rfl,show(2:Int)^4=16 from rfl,show(2:Int)^5=32 from rfl,show(2:Int)^6=64 from rfl,show(2:Int)^7=128 from rfl,Int.ediv_one]
 omega
theorem pt_le{a:Int}(h0:0<=a)(h1:a<256):0<=pt a/\pt a<=8:=by rw[pt8 h0 h1];omega
theorem Z82{b:Q07}(hg:U b.C3):Qef b=Qf8 b/\0<=Qf8 b/\Qf8 b<=32:=by
 obtain⟨s8,s16,s24⟩:=shr_c b.C3
 have u8:U (ishr .u32 b.C3 8):=Qxx hg _
 have u16:U (ishr .u32 b.C3 16):=Qxx hg _
 have e:Qef b=Q6m b.C3:=rfl
 rw[e,vJ,qJ,yj hg,m255 u8,m255 u16,m255 hg,s8,s16,s24]
 obtain⟨g0,g1⟩:=hg
 have p0:=pt_le (a:=b.C3%256) (by omega) (by omega)
 have p1:=pt_le (a:=b.C3/256%256) (by omega) (by omega)
 have p2:=pt_le (a:=b.C3/65536%256) (by omega) (by omega)
 have p3:=pt_le (a:=b.C3/16777216) (by omega) (by omega)
 have w8: ∀x,wrap .u8 x=x%256:=λx=>wrap_u8 x
 rw[w8,w8,w8,wrap_i64]
 omega
theorem Zea{b:Q07}(h:okB b):Q7u b=Q3y b:=by
 obtain⟨e,l0,l1⟩:=Z82 h.2
 obtain⟨t0,t1⟩:=h.1
 simp only[Q7u,Q5o,Q3y,Qa7,Tree.m,letv,e]
 rw[wrap_u32,wrap_u64,wrap_u64,dJ l0 (by omega),dJ l0 (by omega),dJ t0 (by omega)]
theorem Zo5{b:Q07}(h:okB b)(port:Int):Qpy b port=Q5c b port:=by
 simp only[Qpy,Qd4,Q5c,Q6a,Tree.m,letv,(Z82 h.2).1]
theorem zal(g:Int)(z:Nat):g%2^(z+1)=g%2^z+2^z*(g/2^z%2):=by
 have hp:(0:Int)<2^z:=dK (by decide)
 have h1:=fA g (2^z)
 have h2:=fA (g/2^z) 2
 have h3:(g/2^z)/2=g/2^(z+1):=by rw[fB,eZ (dM hp)]
 have h4:=fA g (2^(z+1))
 rw[h3]at h2
 have h5:(2:Int)^(z+1)*(g/2^(z+1))=2^z*(2*(g/2^(z+1))):=by rw[fB,Int.mul_assoc]
 have h6:(2:Int)^z*(g/2^z)=2^z*(2*(g/2^(z+1)))+2^z*(g/2^z%2):=by rw[<-Int.mul_add,h2]
 omega
theorem xaH{b:Q07}(hg:U b.C3){P:Nat}(hP:P<=32):(Q5n b P).w (λr=>r=decide (b.C3<2^P)):=by
 unfold Q5n
 have fin: ∀v:Int,0<=v->v<=32->wrap .u64 v=(v.toNat:Int):=λv h0 h1=>by rw[wrap_u64];omega
 refine w_lp (inv:=λz:Int=>0<=z/\z<=32/\b.C3%2^z.toNat<2^P) (μ:=Q6i b P) ⟨by decide,by decide,by have:(0:Int)<2^P:=dK (by decide);simpa using this⟩ (cK _) λz ⟨z0,z1,z2⟩=> ?_
 refine w_br (λhb=> ?_) (λhb=> ?_)
 . have hb:=oY hb
   have ew:i64.wrap (z+1)=z+1:=w64 (by omega) (by omega)
   have bt:iand .u32 (ishr .u32 b.C3 (wrap .u64 z)) 1=b.C3/2^z.toNat%2:=by
     rw[fin z z0 z1,and1 (Qxx hg _),Qrd _ (by omega)]
   have bp:=zal b.C3 z.toNat
   have zt:(z+1).toNat=z.toNat+1:=by omega
   refine w_cn (dY (by rw[wrap_u64];omega)) ?_
   rw[bt]
   refine w_br (λe=>w_br (λhp=> ?_) (λhp=>w_nx ?_)) (λe=>w_nx ?_)
   . have e:=eq_of_beq e
     have hp:=oY hp
     show false=_
     refine(dN λhlt=> ?_).symm
     have hle:(2:Int)^P<=2^z.toNat:=by exact_mod_cast dQ (show 0<2 by decide) (show P<=z.toNat by omega)
     have:b.C3/2^z.toNat=0:=Int.ediv_eq_zero_of_lt hg.1 (by omega)
     rw[this]at e;cases e
   . have e:=eq_of_beq e
     have hp:=oN hp
     show(0<=i64.wrap (z+1)/\i64.wrap (z+1)<=32/\b.C3%2^(i64.wrap (z+1)).toNat<2^P)/\(32-i64.wrap (z+1)).toNat<(32-z).toNat
     rw[ew,zt]
     have hle:(2:Int)^(z.toNat+1)<=2^P:=by exact_mod_cast dQ (show 0<2 by decide) (show z.toNat+1<=P by omega)
     have:=Int.emod_lt_of_pos b.C3 (show(0:Int)<2^(z.toNat+1) from dK (by decide))
     exact⟨⟨by omega,by omega,by omega⟩,by omega⟩
   . have e: ¬b.C3/2^z.toNat%2=1:=by simpa using e
     have e:b.C3/2^z.toNat%2=0:=by omega
     rw[e]at bp
     show(0<=i64.wrap (z+1)/\i64.wrap (z+1)<=32/\b.C3%2^(i64.wrap (z+1)).toNat<2^P)/\(32-i64.wrap (z+1)).toNat<(32-z).toNat
     rw[ew,zt,bp]
     exact⟨⟨by omega,by omega,by omega⟩,by omega⟩
 . have hb:=oN hb
   have:z=32:=by omega
   subst this
   show true=_
   refine(dY ?_).symm
   have h2:b.C3%2^(32:Int).toNat=b.C3:=dJ hg.1 hg.2
   rwa [h2]at z2
theorem Zkf{b:Q07}(hg:U b.C3){P:Nat}(hP:P<=32):Q2o b P=Q9t b P:=by
 have r:=(Tree.pp (xaH hg hP)).2
 change Q9t b P=_ at r
 rw[r,eH,Z3m hg,decide_eq_true_eq]
theorem zeros:strings_Repeat [(0:UInt8)] 128=cN 128 0:=by kernel_rfl
theorem qaI{P:Nat}{m:List Int}(hm:Q15 P m){b:Q07}{port:Int}{v:Int}(hv:U v)(hp:v<P)(h10:port=10)(hb:(iand .u32 (ishr .u32 b.C3 v) 1==0)=true):(Q50 b m port v).w (λr=>r.1={C9:=b.C9,C3:=ior .u32 b.C3 (ishl .u32 1 v)}/\Q15 P r.2/\ ∀k:Nat,byt r.2 k=if v*128<=k/\(k:Int)<v*128+128 then 0 else byt m k):=by
 have hv0:decide (0<=v)=true:=dY hv.1
 have h2:=hm.p2
 have pg:Q29 m v=true:=by rw[Qn7 hm hv];exact dY hp
 obtain⟨v1,v2⟩:=hv
 subst h10
 unfold Q50
 refine w_br (λ_=>w_lv λx0 hx=>w_br (λ_=>w_cn hv0 (w_br (λ_=>w_cn hv0 ?_) (λh=>by rw[hb]at h;cases h))) (λh=>by rw[hx,pg]at h;cases h)) (λh=>by cases h)
 refine w_lp (inv:=λz=>0<=z.1/\z.1<=32/\Q15 P z.2/\ ∀k:Nat,byt z.2 k=if v*128<=k/\(k:Int)<v*128+4*z.1 then 0 else byt m k) (μ:=Qjo b m 10 v) ⟨show(0:Int)<=0 by decide,show(0:Int)<=32 by decide,hm,λk=>by rw[if_neg];show¬(_/\_<_+4*(0:Int));omega⟩ (cK _) (λz hz=> ?_)
 obtain⟨z1,z2,z3,z4⟩:=hz
 have hl:=z3.len
 refine w_br (λh=> ?_) (λh=>⟨rfl,z3,λk=> ?_⟩)
 . have h:=oY h
   have e:wrap i64 (wrap i64 (wrap i64 v*32)+z.1)=v*32+z.1:=by rw[wrap_i64,wrap_i64,wrap_i64];omega
   refine w_cn (by rw[e];simp [bT];omega) (w_nx ?_)
   have ew:i64.wrap (z.1+1)=z.1+1:=by rw[wrap_i64];omega
   show(0<=i64.wrap (z.1+1)/\i64.wrap (z.1+1)<=32/\Q15 P (dD _ _ _)/\ ∀k:Nat,byt (dD z.2 (dC (wrap i64 (wrap i64 (wrap i64 v*32)+z.1))) 0) k=if v*128<=(k:Int)/\(k:Int)<v*128+4*i64.wrap (z.1+1) then 0 else _)/\(32-i64.wrap (z.1+1)).toNat<(32-z.1).toNat
   rw[ew,e]
   refine⟨⟨by omega,by omega,⟨by simp [hl],z3.p1,z3.p2,Z78 z3.u U_0 _⟩,λk=> ?_⟩,by omega⟩
   rw[Zk5 (by omega)]
   by_cases hc:k/4=(v*32+z.1).toNat
   . rw[if_pos hc,if_pos (by omega)]
     have:k%4=0\/k%4=1\/k%4=2\/k%4=3:=by omega
     rcases this with h|h|h|h<;>rw[h]<;>rfl
   . rw[if_neg hc,z4 k]
     by_cases hd:v*128<=(k:Int)/\(k:Int)<v*128+4*z.1
     . rw[if_pos hd,if_pos (by omega)]
     . rw[if_neg hd,if_neg (by omega)]
 . have h:=oN h
   show byt z.2 k=_
   rw[z4 k,show z.1=32 by omega];rfl
theorem bitv{g v:Int}(hg:U g)(v0:0<=v)(v1:v<32):(iand .u32 g (ishl .u32 1 v)==0)=(iand .u32 (ishr .u32 g v) 1==0):=by
 obtain⟨z,rfl⟩: ∃z:Nat,v=z:=⟨v.toNat,by omega⟩
 obtain⟨n,rfl⟩: ∃n:Nat,g=n:=⟨g.toNat,by have:=hg.1;omega⟩
 have hz:z<32:=by omega
 have hlt:(2:Nat)^z<4294967296:=by have:=eA (show 1<2 by omega) hz;simpa using this
 rw[and1 (Qxx hg _),Qrd z (by omega),vf v0 v1,eB]
 have hc:((2:Int)^z)=((2^z:Nat):Int):=by simp
 generalize hq:2^z=q at*
 rw[hc,Zii hg ⟨by omega,by omega⟩,eB,eB,<-hq]
 have e1:(n&&&2^z)=0↔n/2^z%2=0:=by
   have t:n.testBit z=decide (n/2^z%2=1):=Nat.testBit_eq_decide_div_mod_eq
   constructor
   . intro h
     have h2:(n&&&2^z).testBit z=false:=by rw[h];exact fC z
     rw[fD,Nat.testBit_two_pow_self,Bool.and_true,t]at h2
     have:=oN h2
     omega
   . intro h
     have t0:n.testBit z=false:=by rw[t];exact dN (by omega)
     apply eK
     intro i
     rw[fD,Nat.testBit_two_pow,fC]
     by_cases hi:z=i
     . subst hi;rw[t0];rfl
     . rw[dN hi,Bool.and_false]
 rw[eH,beq_iff_eq,beq_iff_eq]
 constructor
 . intro h;have:=e1.1 (by omega);omega
 . intro h;have:=e1.2 (by omega);omega
theorem Zhz{P:Nat}{m:List Int}(h:Q15 P m){b:Q07}(hb:okB b)(port:Int){v:Int}(hv:U v):Q8d b m port v=Q6n b m port v:=by
  have hcl:Q04 m=m:=rfl
  have hp:=Q3u h
  have h2:=h.p2
  have ew:i64.wrap v=v:=w64 (by have:=hv.1;omega) (by have:=hv.2;omega)
  have pe:=Qn7 h hv
  by_cases h32:v<32
  . have bv :=bitv hb.2 hv.1 h32
    by_cases h10:port=10
    . by_cases hP:v<P
      . cases hz:iand .u32 (ishr .u32 b.C3 v) 1==0
        . simp only[Q8d,Q49,Q6n,Q50,Tree.m,letv,hcl,hp,ew,pe,bv,hz,h10,dY hP,dN (show¬v>=32 by omega)]
          rfl
        . obtain⟨g1,g2,g3⟩:=(Tree.pp (qaI h hv hP h10 hz)).2
          change(Q6n b m port v).1=_ at g1
          change Q15 P (Q6n b m port v).2 at g2
          change∀k:Nat,byt (Q6n b m port v).2 k=_ at g3
          obtain⟨s1,s2,s3⟩:=(Tree.pp (Z3a h hv.1 hP (s:=cN 128 0) (by simp))).2
          have em:(Q2w m v (cN 128 0)).1=(Q6n b m port v).2:=by
            refine Zi8 (s2.len.trans g2.len.symm) s2.u g2.u λk=> ?_
            rw[g3 k]
            refine(s3 k).trans ?_
            by_cases hk:v*128<=(k:Int)/\(k:Int)<v*128+128
            . rw[if_pos hk,if_pos hk]
              have:(cN 128 (0:UInt8)).getD ((k:Int)-v*128).toNat 0=0:=by
                rw[cL,List.getElem?_replicate]
                split<;>rfl
              rw[this];rfl
            . rw[if_neg hk,if_neg hk]
          have el:Q8d b m port v=({C9:=b.C9,C3:=ior .u32 b.C3 (ishl .u32 1 v)},(Q2w m v (cN 128 0)).1):=by
            simp only[Q8d,Q49,Tree.m,letv,hcl,hp,ew,bv,hz,h10,dY hP,dN (show¬v>=32 by omega),zeros]
            rfl
          rw[el,em,<-g1]
      . simp only[Q8d,Q49,Q6n,Q50,Tree.m,letv,hcl,hp,ew,pe,h10,dN hP,dN (show¬v>=32 by omega)]
        rfl
    . simp only[Q8d,Q49,Q6n,Q50,Tree.m,letv,hcl,dY h32,dN (show¬v>=32 by omega),show(port==10)=false by simpa using h10]
      cases port==11<;>rfl
  . simp only[Q8d,Q49,Q6n,Q50,Tree.m,letv,hcl,pe,dN h32,dY (show v>=32 by omega),dN (show¬v<P by omega)]
    cases port==10<;>cases port==11<;>rfl
structure okV(m:Q00):Prop where
 cpu:Q2j m.B2
 mem: ∀w∈m.Mem,U w
 disk:Q99 m.B1
 nic:Qjx m.C5
 bal:okB m.A2
 cnt:0<=m.A1
theorem Qpb(m:List Int)(hm: ∀w∈m,U w):Q0z m=Q3w m/\(Q0z m=0\/ ∃P:Nat,1<=P/\Q15 P m):=by
 refine⟨rfl,?_⟩
 simp only[Q0z,Q94,Tree.m]
 cases h1:dB (m.length:Int) 32 !=0
 . cases h2:decide ((m.length:Int)>1024)
   . have h1:dB (m.length:Int) 32=0:=by simpa using h1
     have h2:=oN h2
     rw[eD (by omega)]at h1
     by_cases h0:m.length=0
     . left;rw[h0];rfl
     . right;exact⟨m.length/32,by omega,⟨by omega,by omega,by omega,hm⟩⟩
   . left;rfl
 . left;rfl
theorem rcnd{a x:Bool}:(bif !a then false else x)=true↔a=true/\x=true:=by cases a<;>simp
theorem qK(m:Q00):Q64 m=true↔ ¬(Q3w m.Mem<1)/\Q66 m.B2/\Qih m.A4=true/\Qdq m.B0=true/\Qgb m.B1 (Q3w m.Mem)=true/\Qj3 m.C5 (Q3w m.Mem)=true/\Q9t m.A2 (Q3w m.Mem)=true/\m.A1<=1152921504606846976/\ ¬(m.A7=true/\m.A9=true):=by
 simp only[Q64,Qwr,Tree.m,letv]
 rw[cnd2,cnd2,cnd2,cnd2,cnd2,cnd2,rcnd,rcnd,rcnd,rcnd,rcnd]
 simp only[decide_eq_false_iff_not,Int.not_lt,bne_eq_false_iff_eq,gt_iff_lt]
 have l:((bif decide (m.A1<=1152921504606846976) then(bif m.A7 then !m.A9 else true) else false)=true)↔m.A1<=1152921504606846976/\ ¬(m.A7=true/\m.A9=true):=by
   by_cases hc:m.A1<=1152921504606846976
   . rw[dY hc]
     cases m.A7<;>cases m.A9<;>simp [hc]
   . rw[dN hc];simp [hc]
 rw[l]
 constructor
 . rintro⟨a1,a2,a3,a4,a5,a6,a7⟩
   exact⟨by omega,⟨a2,a3,a4,a5,a6⟩,a7⟩
 . rintro⟨a1,⟨a2,a3,a4,a5,a6⟩,a7⟩
   exact⟨by omega,a2,a3,a4,a5,a6,a7⟩
theorem Zap{m:Q00}(h:okV m):Q1f m=Q64 m:=by
 rw[eH,Qmv,qK,xf]
 obtain⟨e,c⟩:=Qpb m.Mem h.mem
 simp only[aE,<-e]
 rcases c with c|⟨P,hP,hm⟩
 . constructor
   . rintro⟨a,_⟩;exact absurd c a
   . rintro⟨a,_⟩;omega
 . rw[Q3u hm,Z6a,Zba,Zde,Zkf h.bal.2 hm.p2]
   constructor
   . rintro⟨a1,a2,a3,a4,a5,a6,a7,a8,a9⟩;exact⟨by omega,a2,a5,a6,a7,a8,a9,a3,a4⟩
   . rintro⟨a1,a2,a5,a6,a7,a8,a9,a3,a4⟩;exact⟨by omega,a2,a3,a4,a5,a6,a7,a8,a9⟩
def Zc0(a b c d e:Bool):Int:=ior .u32 (ior .u32 (ior .u32 (ior .u32 (Qaa a 0) (Qaa b 1)) (Qaa c 2)) (Qaa d 3)) (Qaa e 4)
theorem mlines(m:Q00):Qeh m=Zc0 (Qha m.B0) (Qa2 m.A4) (Q9e m.B1) (Qmk m.C5) (Q7u m.A2):=by
 unfold Qeh Q7k
 simp only[Tree.m,letv]
 generalize Qha m.B0=a
 generalize Qa2 m.A4=b
 generalize Q9e m.B1=c
 generalize Qmk m.C5=d
 generalize Q7u m.A2=e
 cases a<;>cases b<;>cases c<;>cases d<;>cases e<;>kernel_rfl
theorem Znw(a b c d e:Bool):0<=Zc0 a b c d e/\Zc0 a b c d e<32:=by
 cases a<;>cases b<;>cases c<;>cases d<;>cases e<;>decide
theorem rlines(m:Q00):Qhw m=Zc0 (Qb3 m.B0) (Q62 m.A4) (Qc9 m.B1) (Qed m.C5) (Q3y m.A2):=rfl
section
variable {m:Q00} (h:okV m)
include h
theorem Zpf:Qeh m=Qhw m:=by
 rw[mlines,rlines,zJ,Zea h.bal];rfl
theorem Qz3:Q6 m=Q33 m:=by
 have e:=Zpf h
 simp only[Q6,Q32,Q33,Q93,Tree.m,letv,e]
theorem Zfn:Q4c m=Q7j m:=by
 have e:=Qz3 h
 simp only[Q4c,Q39,Q7j,Qf,Tree.m,letv,e]
theorem Qv1:Q2s m=!Q0t m:=by
 have e1:=Zap h
 have e2:=Zfn h
 have e3:decide (m.A1>=1152921504606846976)=!decide (m.A1<1152921504606846976):=zj
 simp only[Q2s,Q47,Q0t,Q8,Tree.m,letv,e1,e2,e3]
 cases Q64 m<;>cases m.A9<;>cases Q7j m<;>cases decide (m.A1<1152921504606846976)<;>rfl
theorem Z7m:0<=Q33 m/\Q33 m<32:=by
 have e:Q33 m=iand .u32 (Qhw m) m.B2.B5.a7:=rfl
 have l:=Znw (Qb3 m.B0) (Q62 m.A4) (Qc9 m.B1) (Qed m.C5) (Q3y m.A2)
 rw[<-rlines]at l
 rw[e,Zii ⟨l.1,by omega⟩ h.cpu.a7]
 have:=dZ (n:=(Qhw m).toNat) (m:=m.B2.B5.a7.toNat)
 omega
def low(l:Int):Int:=if l%2=1 then 0 else if l/2%2=1 then 1 else if l/4%2=1 then 2 else if l/8%2=1 then 3 else 4
end
theorem cases32{l:Int}(h0:0<=l)(h1:l<32):l=0\/l=1\/l=2\/l=3\/l=4\/l=5\/l=6\/l=7\/l=8\/l=9\/l=10\/l=11\/l=12\/l=13\/l=14\/l=15\/l=16\/l=17\/l=18\/l=19\/l=20\/l=21\/l=22\/l=23\/l=24\/l=25\/l=26\/l=27\/l=28\/l=29\/l=30\/l=31:=by omega
def intr(m:Q00)(l:Int):Q05:=bif iand .u32 m.B2.B5.a0 2==0 then m.B2 else bif l==0 then m.B2 else Q2y m.B2 (wrap .i64 (16+low l)) 0
theorem rintr{m:Q00}(h:okV m):Q0o m=intr m (Q33 m):=by
 obtain⟨l0,l1⟩:=Z7m h
 unfold Q0o Q4x
 simp only[Tree.m,letv]
 revert l0 l1
 generalize Q33 m=l
 intro l0 l1
 unfold intr
 cases iand .u32 m.B2.B5.a0 2==0
 . rcases cases32 l0 l1 with rfl|rfl|rfl|rfl|rfl|rfl|rfl|rfl|rfl|rfl|rfl|rfl|rfl|rfl|rfl|rfl|rfl|rfl|rfl|rfl|rfl|rfl|rfl|rfl|rfl|rfl|rfl|rfl|rfl|rfl|rfl|rfl<;>kernel_rfl
 . rfl
def beg(m:Q00)(c:Q05):Q00:={B2:=c,Mem:=m.Mem,A4:=m.A4,B0:=m.B0,B1:=m.B1,C5:=m.C5,A2:=m.A2,A1:=m.A1,A7:=false,A9:=m.A9}
theorem Qwc{m:Q00}(h:okV m)(hst:m.B2.B5.a0<=31):Q1 m=beg m (Q0o m):=by
 obtain⟨l0,l1⟩:=Z7m h
 have tr: ∀k b,Q4y m.B2 k b=Q2y m.B2 k b:=Qpo h.cpu.a0.1 hst
 have e:Q6 (beg m m.B2)=Q33 m:=Qz3 (m:=beg m m.B2) ⟨h.cpu,h.mem,h.disk,h.nic,h.bal,h.cnt⟩
 rw[rintr h]
 unfold Q1 Q2z
 simp only[Tree.m,letv]
 rw[show Q6 {B2:=m.B2,Mem:=m.Mem,A4:=m.A4,B0:=m.B0,B1:=m.B1,C5:=m.C5,A2:=m.A2,A1:=m.A1,A7:=false,A9:=m.A9}=Q33 m from e]
 revert l0 l1
 generalize Q33 m=l
 intro l0 l1
 unfold intr
 simp only[<-tr]
 cases iand .u32 m.B2.B5.a0 2==0
 . rcases cases32 l0 l1 with rfl|rfl|rfl|rfl|rfl|rfl|rfl|rfl|rfl|rfl|rfl|rfl|rfl|rfl|rfl|rfl|rfl|rfl|rfl|rfl|rfl|rfl|rfl|rfl|rfl|rfl|rfl|rfl|rfl|rfl|rfl|rfl<;>(show _=_;kernel_rfl)
 . rfl
theorem ports{p:Int}:p=0\/p=1\/p=2\/p=3\/p=4\/p=5\/p=6\/p=7\/p=8\/p=9\/p=10\/p=11\/p<0\/12<=p:=by omega
theorem xal{m:Q00}(hb:okB m.A2)(port clock:Int):Q1k m port clock=((Qee m port clock).2,(Qee m port clock).1):=by
 have e1:=Zok m.A4
 have e2: ∀p,Qx1 m.B1 p=Qic m.B1 p:=λ_=>rfl
 have e3:=Zn7 m.C5
 have e4:=Zo5 hb
 have e5:Z11 m.B0=Qgj m.B0:=rfl
 simp only[Q1k,Q4z,Qee,Qlo,Tree.m,letv,e1,e2,e3,e4,e5]
 rcases ports (p:=port) with rfl|rfl|rfl|rfl|rfl|rfl|rfl|rfl|rfl|rfl|rfl|rfl|h|h
 all_goals first|rfl|skip
 . have n: ∀k:Int,0<=k->(port==k)=false:=λk hk=>beq_eq_false_iff_ne.2 (by omega)
   have c:Q5g m.A4 port=(m.A4,0):=by
     simp only[Q5g,Q3m,Tree.m,n 0 (by decide),n 1 (by decide),cond_false]
   simp only[n 0 (by decide),n 1 (by decide),n 2 (by decide),n 3 (by decide),n 4 (by decide),n 5 (by decide),n 6 (by decide),n 7 (by decide),n 8 (by decide),n 9 (by decide),n 10 (by decide),n 11 (by decide),cond_false,dY (show port<=1 by omega),cond_true,c]
 . have n: ∀k:Int,k<12->(port==k)=false:=λk hk=>beq_eq_false_iff_ne.2 (by omega)
   have c:Q5c m.A2 port=0:=by
     simp only[Q5c,Q6a,Tree.m,n 10 (by decide),n 11 (by decide),cond_false]
   simp only[n 0 (by decide),n 1 (by decide),n 2 (by decide),n 3 (by decide),n 4 (by decide),n 5 (by decide),n 6 (by decide),n 7 (by decide),n 8 (by decide),n 9 (by decide),n 10 (by decide),n 11 (by decide),cond_false,dN (show¬port<=1 by omega),dN (show¬port<=6 by omega),dN (show¬port<=9 by omega),c]
theorem xK{P:Nat}{m:Q00}(hm:Q15 P m.Mem)(hb:okB m.A2)(port:Int){v:Int}(hv:U v):Q2l m port v m.A1=((Qb2 m port v).2,(Qb2 m port v).1):=by
 have e1:=Zdm hm m.B1
 have e2:=Zk6 hm m.C5
 have e3:=Zhz hm hb port hv
 have e4:=yJ m.B0 v
 simp only[Q2l,Q42,Qb2,Qfe,Tree.m,letv,e1,e2,e3,e4]
 rcases ports (p:=port) with rfl|rfl|rfl|rfl|rfl|rfl|rfl|rfl|rfl|rfl|rfl|rfl|h|h
 all_goals first|rfl|skip
 . have n: ∀k:Int,0<=k->(port==k)=false:=λk hk=>beq_eq_false_iff_ne.2 (by omega)
   simp only[n 0 (by decide),n 1 (by decide),n 2 (by decide),n 3 (by decide),n 4 (by decide),n 5 (by decide),n 6 (by decide),n 7 (by decide),n 8 (by decide),n 9 (by decide),n 10 (by decide),n 11 (by decide),cond_false,dY (show port<=2 by omega),cond_true]
 . have n: ∀k:Int,k<12->(port==k)=false:=λk hk=>beq_eq_false_iff_ne.2 (by omega)
   have c:Q6n m.A2 m.Mem port v=(m.A2,m.Mem):=by
     simp only[Q6n,Q50,Tree.m,n 10 (by decide),n 11 (by decide),cond_false]
   simp only[n 0 (by decide),n 1 (by decide),n 2 (by decide),n 3 (by decide),n 4 (by decide),n 5 (by decide),n 6 (by decide),n 7 (by decide),n 8 (by decide),n 9 (by decide),n 10 (by decide),n 11 (by decide),cond_false,dN (show¬port<=2 by omega),dN (show¬port<=6 by omega),dN (show¬port<=9 by omega),c]
def tick(n:Q00)(c:Q05)(w h:Bool):Q00:={B2:=c,Mem:=n.Mem,A4:=n.A4,B0:=n.B0,B1:=n.B1,C5:=n.C5,A2:=n.A2,A1:=wrap .u64 (n.A1+1),A7:=w,A9:=h}
def withX(m:Q00)(c:Q05)(mem:List Int):Q00:={B2:=c,Mem:=mem,A4:=m.A4,B0:=m.B0,B1:=m.B1,C5:=m.C5,A2:=m.A2,A1:=m.A1,A7:=false,A9:=m.A9}
def finP(n:Q00)(e:Q16)(clock at0:Int):Q00×List Q03:=
 bif e.B6==1 then
   (bif e.D9 !=0 then(tick (Q1k n e.D1 clock).1 {X:=A16.of 0 (dD (A16.l (Q1k n e.D1 clock).1.B2.X) e.D9.toNat (Q1k n e.D1 clock).2),Pc:=(Q1k n e.D1 clock).1.B2.Pc,B5:=(Q1k n e.D1 clock).1.B2.B5} (Q1k n e.D1 clock).1.A7 (Q1k n e.D1 clock).1.A9,[])
   else(tick (Q1k n e.D1 clock).1 (Q1k n e.D1 clock).1.B2 (Q1k n e.D1 clock).1.A7 (Q1k n e.D1 clock).1.A9,[]))
 else bif e.B6==2 then(tick (Q2l n e.D1 e.Value at0).1 (Q2l n e.D1 e.Value at0).1.B2 (Q2l n e.D1 e.Value at0).1.A7 (Q2l n e.D1 e.Value at0).1.A9,(Q2l n e.D1 e.Value at0).2)
 else bif e.B6==3 then(tick n n.B2 true n.A9,[]) else bif e.B6==4 then(tick n n.B2 n.A7 true,[]) else(tick n n.B2 n.A7 n.A9,[])
def finR(n:Q00)(e:Q16)(clock:Int):List Q03×Q00:=
 bif e.B6==1 then([],tick (Qee n e.D1 clock).2 (Q1z (Qee n e.D1 clock).2.B2 e.D9 (Qee n e.D1 clock).1) (Qee n e.D1 clock).2.A7 (Qee n e.D1 clock).2.A9)
 else bif e.B6==2 then((Qb2 n e.D1 e.Value).1,tick (Qb2 n e.D1 e.Value).2 (Qb2 n e.D1 e.Value).2.B2 (Qb2 n e.D1 e.Value).2.A7 (Qb2 n e.D1 e.Value).2.A9)
 else bif e.B6==3 then([],tick n n.B2 true n.A9) else bif e.B6==4 then([],tick n n.B2 n.A7 true) else([],tick n n.B2 n.A7 n.A9)
theorem zY(m:Q00)(clock:Int):Q0j m clock=finR (withX m (Q7n (Q0o m) m.Mem).1 (Q7n (Q0o m) m.Mem).2.2) (Q7n (Q0o m) m.Mem).2.1 clock:=by kernel_rfl
theorem Zlf(m:Q00)(clock:Int):Q3n m clock=bif !Q2s m then(m,[]) else finP {B2:=(Q84 (Q1 m).B2 (Q1 m).Mem).1,Mem:=(Q84 (Q1 m).B2 (Q1 m).Mem).2.1,A4:=(Q1 m).A4,B0:=(Q1 m).B0,B1:=(Q1 m).B1,C5:=(Q1 m).C5,A2:=(Q1 m).A2,A1:=(Q1 m).A1,A7:=(Q1 m).A7,A9:=(Q1 m).A9} (Q84 (Q1 m).B2 (Q1 m).Mem).2.2 clock m.A1:=by kernel_rfl
theorem qam(m:List Int):Qua m=m:=by
 simp [Qua,Qew,Tree.m]
theorem Z36(m:Q00):Qk2 m=m:=by
 simp only[Qk2,Qdb,Tree.m,letv,qam]
def Zg4(m:Q00)(clock:Int):Q00×List Q03:=bif Q0t m then(m,[]) else((Q0j m clock).2,(Q0j m clock).1)
def Qkm(m:Q00)(e:Q0a):Tree (Q00×Bool):=
 .an (Qd6 m) (.lv (Qk2 m) λ(x0:Q00)=> .lv (Q64 x0) λ(x1:Bool)=> .br (!x1) (.lf (x0,false)) (.an (Qky x0 e) (.lv (Q0q x0 e) λ(x2:Bool×Q00)=> .lf (x2.2,x2.1))))
def Qm m e:=(Qkm m e).m
theorem Zd2(m:Q00)(clock:Int):Zg4 m clock=bif Q0t m then(m,[]) else((Q0j m clock).2,(Q0j m clock).1):=rfl
theorem zK{P:Nat}{n:Q00}(hm:Q15 P n.Mem)(hb:okB n.A2){e:Q16}(hr:0<=e.D9/\e.D9<16)(hv:U e.Value)(clock:Int):finP n e clock n.A1=((finR n e clock).2,(finR n e clock).1):=by
 unfold finP finR
 rw[xal hb e.D1 clock,xK hm hb e.D1 hv]
 cases e.B6==1
 . cases e.B6==2
   . cases e.B6==3
     . cases e.B6==4<;>rfl
     . rfl
   . rfl
 . generalize Qee n e.D1 clock=r
   have s:=Z1b r.2.B2 hr r.1
   show(bif e.D9 !=0 then _ else _)=(tick r.2 (Q1z r.2.B2 e.D9 r.1) r.2.A7 r.2.A9,[])
   rw[<-s]
   simp only[Qb7,Qea,Tree.m]
   cases e.D9 !=0<;>rfl
theorem Zh4{m:Q00}(h:okV m)(clock:Int):Q3n m clock=Zg4 m clock:=by
 rw[Zlf,Zd2,Qv1 h]
 cases hs:Q0t m
 . have hr:Q2s m=true:=by rw[Qv1 h,hs];rfl
   obtain⟨hm,hh,hct⟩:=Z12 hr
   obtain⟨g1,g2,g3,g4,g5⟩:=(Qmv m).1 hm
   rcases(Qpb m.Mem h.mem).2 with c|⟨P,hP,hmem⟩
   . exact absurd c g1
   have okm:okS P m:=⟨h.cpu,hmem,h.disk,h.nic,h.bal.1,h.bal.2⟩
   obtain⟨b1,b2,b3,_⟩:=(Tree.pp (Qu okm g2)).2
   change Q66 (Q1 m).B2 at b1
   change okS P (Q1 m) at b2
   change(Q1 m).Mem=m.Mem at b3
   have be:=Qwc h g2.st
   have b1':Q66 (Q0o m):=by have:=b1;rw[be]at this;exact this
   have b2':Q2j (Q0o m):=by have:=b2.cpu;rw[be]at this;exact this
   have ex:=Zhe hmem b2' b1'.st
   have er:=(Tree.pp (Zn4 b2' hmem)).2
   change 0<=(Q84 (Q0o m) m.Mem).2.2.D9/\(Q84 (Q0o m) m.Mem).2.2.D9<16 at er
   obtain⟨d1,d2,d3⟩:=(Tree.pp (do_w b2' hmem)).2
   change U (Q7n (Q0o m) m.Mem).2.1.Value at d2
   change Q15 P (Q7n (Q0o m) m.Mem).2.2 at d3
   rw[ex]at er
   rw[zY,be]
   show finP {B2:=(Q84 (Q0o m) m.Mem).1,Mem:=(Q84 (Q0o m) m.Mem).2.1,A4:=m.A4,B0:=m.B0,B1:=m.B1,C5:=m.C5,A2:=m.A2,A1:=m.A1,A7:=false,A9:=m.A9} (Q84 (Q0o m) m.Mem).2.2 clock m.A1=_
   rw[ex]
   exact zK (n:=withX m (Q7n (Q0o m) m.Mem).1 (Q7n (Q0o m) m.Mem).2.2) d3 h.bal er d2 clock
 . rfl
theorem Z8c{m:Q00}(h:okV m)(e:Q0a):Q6l m e=Qm m e:=by
 have hcl:Q04 m.Mem=m.Mem:=rfl
 have mm:=Zap h
 have t1:Qlw m.B0=Q6x m.B0:=rfl
 have t2: ∀b,Qow m.A4 b=Qlr m.A4 b:=λ_=>rfl
 simp only[Q6l,Q4e,Qm,Qkm,Q0q,Q4n,Tree.m,letv,Z36,hcl,t1,t2]
 rw[show Q1f {B2:=m.B2,Mem:=m.Mem,A4:=m.A4,B0:=m.B0,B1:=m.B1,C5:=m.C5,A2:=m.A2,A1:=m.A1,A7:=m.A7,A9:=m.A9}=Q64 m from mm]
 cases hM:Q64 m
 . rfl
 have hM':Q1f m=true:=mm.trans hM
 rcases(Qpb m.Mem h.mem).2 with c|⟨P,hP,hmem⟩
 . exact absurd c ((Qmv m).1 hM').1
 have cs:=Zcp hmem h.disk e
 have rs:=Zdy hmem h.nic e.D0
 clear mm hM hM' hcl h
 obtain⟨c,mem,con,ti,d,n,b,ct,w,hl⟩:=m
 cases hl
 . by_cases k2:e.B6=2
   . rw[k2];cases e.N==0<;>cases decide (e.D0=[])<;>rfl
   by_cases k3:e.B6=3
   . rw[k3];cases decide (e.N<=255)<;>cases decide (e.D0=[])<;>rfl
   by_cases k4:e.B6=4
   . rw[k4,cs];rfl
   by_cases k5:e.B6=5
   . rw[k5,rs];cases e.N==0<;>rfl
   by_cases k6:e.B6=6
   . rw[k6];cases decide (e.D0=[])<;>rfl
   . rw[show(e.B6==2)=false by simpa using k2,show(e.B6==3)=false by simpa using k3,show(e.B6==4)=false by simpa using k4,show(e.B6==5)=false by simpa using k5,show(e.B6==6)=false by simpa using k6]
     rfl
 . rfl
theorem zam{l acts:List Int}{x0:Bool}(hx0:x0=Qvb l acts)(hb:(!x0)=false):l.length<=40/\acts.length<=30:=by
 have hb:x0=true:=by simpa using hb
 rw[hb]at hx0
 simp only[Qvb,Qw6,Tree.m]at hx0
 cases h1:decide ((l.length:Int)<=40)<;>rw[h1]at hx0
 . cases hx0
 . have:=oY hx0.symm
   have:=oY h1
   omega
section
variable {m:Q00} (h:okV m) (hl:m.Mem.length<=1024)
include h
theorem may_P(hm:Q1f m=true): ∃P,okS P m/\okM P m:=by
 rcases(Qpb m.Mem h.mem).2 with c|⟨P,hP,hmem⟩
 . exact absurd c ((Qmv m).1 hm).1
 . exact⟨P,⟨h.cpu,hmem,h.disk,h.nic,h.bal.1,h.bal.2⟩,⟨h.cpu,hmem,h.disk,h.nic,h.bal,h.cnt⟩⟩
include hl
theorem vj{clock:Int}(hk:U clock):Q6f m clock/\(Q3n m clock).2.length<=1/\(Q3n m clock).1.Mem.length<=1024:=by
 cases hr:Q2s m
 . have e:Q3n m clock=(m,[]):=by rw[Zlf,hr];rfl
   rw[e]
   refine⟨?_,aT _,hl⟩
   have hcl:Q04 m.Mem=m.Mem:=rfl
   show(Q38 m clock).p
   unfold Tree.p Q38
   refine w_an (by show m.Mem.length<=35184372088832;omega) (w_lv λl hl=> ?_)
   rw[hcl]at hl;subst hl
   refine w_an (Tree.pp (Zis (m:=⟨_,_,_,_,_,_,m.A2,_,_,_⟩) h.bal.2)).1 (w_lv λx1 hx1=>w_br (λ_=>trivial) (λhb=> ?_))
   have:x1=false:=hx1.trans hr
   rw[this]at hb;cases hb
 . obtain⟨P,s,_⟩:=may_P h (Z12 hr).1
   have g:=Tree.pp (zg s h.cnt hk)
   have ml:=g.2.2.ok.mem.len
   have mp:=g.2.2.ok.mem.p2
   exact⟨g.1,g.2.1,by show(Q38 m clock).m.1.Mem.length<=1024;omega⟩
omit h hl in
theorem Zmx{P:Nat}(h:okM P m){e:Q0a}(he:U e.N):(Q4n m e).w (λx=>okM P x.2):=by
 have k:=h
 obtain⟨h1,h2,h3,h4,h5,h7⟩:=h
 unfold Q4n
 repeat'(first
   |exact k
   |exact⟨h1,h2,h3,h4,⟨he,h5.2⟩,h7⟩
   |exact w_lv λ_ _=>⟨h1,h2,h3,h4,h5,h7⟩
   |exact Q0f (y9 _ _) λ_ _=>⟨h1,h2,h3,h4,h5,h7⟩
   |exact Q0f (Zl5 h2 h3 _) λx hx=>⟨h1,hx.2,hx.1,h4,h5,h7⟩
   |exact Q0f (Zlr h2 h4 _) λx hx=>⟨h1,hx.2,h3,hx.1,h5,h7⟩
   |refine w_br (λ_=> ?_) (λ_=> ?_))
theorem Zoy{e:Q0a}(he:U e.N):Qb m e:=by
 cases hm:Q1f m
 . have hcl:Q04 m.Mem=m.Mem:=rfl
   show(Q4e m e).p
   unfold Tree.p Q4e
   refine w_an (by show m.Mem.length<=35184372088832;omega) (w_lv λl hl=> ?_)
   rw[hcl]at hl;subst hl
   refine w_an (Tree.pp (Zmj (m:=⟨_,_,_,_,_,_,m.A2,_,_,_⟩) h.bal.2)).1 (w_lv λx1 hx1=>w_br (λ_=>trivial) (λhb=> ?_))
   have:x1=false:=hx1.trans hm
   rw[this]at hb;cases hb
 . obtain⟨P,s,o⟩:=may_P h hm
   exact(Tree.pp (Zmh o he)).1
end
theorem xam(a:Q00)(ha:a.Mem.length<=1000000000000):(Qjs a a).w (λb=>b=true):=by
 unfold Qjs
 repeat'(first
   |refine w_br (λ_=> ?_) (λh=>absurd h (by simp [eqs,eq1];done))
   |exact w_an ha (w_lv λx hx=>by rw[hx];exact Z7p _ ha)
   |refine w_an ha (w_lv λx hx=>w_br (λ_=> ?_) (λh=>by rw[hx,Z7p _ ha]at h;cases h))
   |exact rfl)
 all_goals(show(_==_)=true;simp)
def Tree.V{β:Type}(t:Tree β)(W:β->Prop):Prop:=W t.m
section
variable {α β:Type} {W:β->Prop} {c:Bool} {t e:Tree β}
theorem v_lf{x:β}(h:W x):Tree.V (.lf x) W:=h
theorem v_nx{f:Prop}{x:β}{hf:f}(h:W x):Tree.V (.nx f x hf) W:=h
theorem v_br(h:c=true->Tree.V t W)(g:c=false->Tree.V e W):Tree.V (.br c t e) W:=by
 cases c
 . exact g rfl
 . exact h rfl
theorem v_cn(g:Tree.V t W):Tree.V (.cn c t) W:=g
theorem v_an{p:Prop}(g:Tree.V t W):Tree.V (.an p t) W:=g
theorem v_lv{x:α}{k:α->Tree β}(h: ∀y,y=x->Tree.V (k y) W):Tree.V (.lv x k) W:=h x rfl
theorem v_lp{d:Inhabited β}{n:Nat}{f:Prop}{x:α}{k:α->Tree (α⊕β)}{hf:f}{inv:α->Prop}{μ:α->Nat}(h:inv x)(hn:μ x<n)(g: ∀y,inv y->Tree.V (k y) (Sum.elim (λz=>inv z/\μ z<μ y) W)):Tree.V (.lp d n f x k hf) W:=by
 refine yy (P:=inv) (R:=W) (μ:=μ) (λa ha=> ?_) n x h hn
 have:=g a ha
 unfold Tree.V at this
 revert this
 cases(k a).m with
 |inl z=>exact λh=>h
 |inr b=>exact λh=>h
end
def Z7e(r:Q01)(m:Q00):Q01:={A0:=m,A3:=r.A3,B4:=r.B4,A6:=r.A6}
theorem zaI(r:Q01)(port clock:Int):Qui r port clock=((Qee r.A0 port clock).1,Z7e r (Qee r.A0 port clock).2):=by
 simp only[Qui,Qi8,Qee,Qlo,Tree.m,letv]
 cases decide (port<=1)<;>cases port==2<;>cases port==3<;>cases decide (port<=6)<;>cases decide (port<=9)<;>rfl
theorem qan(r:Q01)(port v:Int):Qqj r port v=((Qb2 r.A0 port v).1,Z7e r (Qb2 r.A0 port v).2):=by
 simp only[Qqj,Qd2,Qb2,Qfe,Tree.m,letv]
 cases port==0<;>cases decide (port<=2)<;>cases port==3<;>cases decide (port<=6)<;>cases decide (port<=9)<;>rfl
theorem xaI{r:Q01}{c:Bool}{x y:Bool×Q01}{x' y':Bool×Q00}(hx:x=(x'.1,Z7e r x'.2))(hy:y=(y'.1,Z7e r y'.2)):cond c x y=((cond c x' y').1,Z7e r (cond c x' y').2):=by cases c<;>assumption
theorem qk(r:Q01)(e:Q0a):Qkg r e=((Q0q r.A0 e).1,Z7e r (Q0q r.A0 e).2):=by
 simp only[Qkg,Q8u,Q0q,Q4n,Tree.m,letv]
 repeat'(first|rfl|refine xaI ?_ ?_)
theorem Zcn(r:Q01)(clock:Int):Q73 r clock=((Q0j r.A0 clock).1,Z7e r (Q0j r.A0 clock).2):=by
 simp only[Q73,Q6g,Q0j,Q9,Tree.m,letv,zaI,qan,Z7e]
 cases(Q7n (Q0o r.A0) r.A0.Mem).2.1.B6==1<;>cases(Q7n (Q0o r.A0) r.A0.Mem).2.1.B6==2<;>cases(Q7n (Q0o r.A0) r.A0.Mem).2.1.B6==3<;>cases(Q7n (Q0o r.A0) r.A0.Mem).2.1.B6==4<;>rfl
def Q24(r:Q01)(e:Q0a):Q01:=
 bif(Q0q r.A0 e).1 then{A0:=(Q0q r.A0 e).2,A3:=r.A3,B4:=r.B4++[{At:=(Q0q r.A0 e).2.A1,C0:=e}],A6:=r.A6} else Z7e r (Q0q r.A0 e).2
theorem Zll(r:Q01)(e:Q0a):Qjd r e=Q24 r e:=by
 have a:Qhg r e=((Q0q r.A0 e).1,Z7e r (Q0q r.A0 e).2):=by
   simp only[Qhg,Q7g,Tree.m,letv,qk]
 simp only[Qjd,Qas,Tree.m,letv,a,Q24]
 cases(Q0q r.A0 e).1<;>rfl
def Q4l(r:Q01):Q01:=bif Q8h r.A0.B0 r.A3 then Q24 r {B6:=2,N:=0,D0:=[]} else r
def Zaz(r:Q01):Q01:=bif Q0h r.A0 then{A0:=r.A0,A3:=r.A3,B4:=r.B4++[{At:=r.A0.A1,C0:={B6:=1,N:=r.A3,D0:=[]}}],A6:=r.A6} else r
def Qjz(r:Q01):Q01:={A0:=(Q0j r.A0 r.A3).2,A3:=wrap .u32 (r.A3+1),B4:=(Zaz r).B4,A6:=r.A6}
def recF:Nat->Q01->List Q03->Q01×List Q03
 |0,r,o=>(r,o)
 |n+1,r,o=>bif Q0t (Q4l r).A0 then(Q4l r,o) else recF n (Qjz (Q4l r)) (o++(Q0j (Q4l r).A0 (Q4l r).A3).1)
def noQ(r:Q01):Q01:={A0:=r.A0,A3:=r.A3,B4:=r.B4,A6:=[]}
def advF(r:Q01)(steps clock:Int):Q01×List Q03:=
 bif !Q64 r.A0 then(r,[]) else recF (Q0n steps).toNat (noQ (r.A6.foldl Q24 {A0:=r.A0,A3:=if clock>r.A3 then clock else r.A3,B4:=r.B4,A6:=r.A6})) []
theorem Qo8(r:Q01)(e:Q0a):(Q24 r e).A6=r.A6:=by
 unfold Q24;cases(Q0q r.A0 e).1<;>rfl
theorem Zl6(r:Q01):Qo5 r=r:=by
 simp only[Qo5,Qf4,Tree.m,letv,Z36]
theorem Qts(r:Q01)(steps clock:Int)(hq:r.A6.length<=1000000):Qdx r steps clock=advF r steps clock:=by
  show Tree.V (Q63 r steps clock) (λx=>x=advF r steps clock)
  obtain⟨lim0,lim⟩:=Qoh steps
  unfold Q63
  refine v_an (v_lv λx0 e0=>v_lv λx1 e1=> ?_)
  rw[Zl6]at e0
  subst e0
  refine v_br (λhb=>v_lf ?_) λhb=> ?_
  . unfold advF;rw[<-e1,hb];rfl
  generalize hr0:({A0:=x0.A0,A3:=if clock>x0.A3 then clock else x0.A3,B4:=x0.B4,A6:=x0.A6}:Q01)=r0
  have hA:advF x0 steps clock=recF (Q0n steps).toNat (noQ (x0.A6.foldl Q24 r0)) []:=by
    unfold advF;rw[<-e1,hb,hr0];rfl
  have hQ:r0.A6=x0.A6:=by rw[<-hr0]
  refine v_lp (inv:=λz:Int×Q01=>0<=z.1/\z.1<=x0.A6.length/\z.2.A6=x0.A6/\(x0.A6.drop z.1.toNat).foldl Q24 z.2=x0.A6.foldl Q24 r0) (μ:=Qcu x0 steps clock) ⟨cS 0,by show(0:Int)<=_;omega,hQ,rfl⟩ (cK _) λz ⟨z0,z1,z2,z3⟩=> ?_
  refine v_br (λhb=> ?_) (λhb=> ?_)
  . have hb:=oY hb
    rw[z2]at hb
    refine v_cn (v_an (v_lv λx2 e2=>v_nx ?_))
    have ew:i64.wrap (z.1+1)=z.1+1:=by rw[wrap_i64];omega
    rw[Zll]at e2
    have q2:x2.A6=x0.A6:=by rw[e2,Qo8,z2]
    have hlt:z.1.toNat<x0.A6.length:=by omega
    have ed:z.2.A6.getD z.1.toNat (RK.dflt RK.apiEvent)=x0.A6[z.1.toNat]:=by rw[z2,cL,cG hlt];rfl
    show(0<=i64.wrap (z.1+1)/\i64.wrap (z.1+1)<=x0.A6.length/\x2.A6=x0.A6/\(x0.A6.drop (i64.wrap (z.1+1)).toNat).foldl Q24 x2=_)/\(x2.A6.length-i64.wrap (z.1+1)).toNat<(z.2.A6.length-z.1).toNat
    rw[ew,q2,z2]
    refine⟨⟨by omega,by omega,rfl,?_⟩,by omega⟩
    rw[<-z3,aB hlt,aD,show(z.1+1).toNat=z.1.toNat+1 by omega,e2,ed]
  . have hb:=oN hb
    rw[z2]at hb
    obtain⟨zi,zr⟩:=z
    have hb: ¬zi<x0.A6.length:=hb
    have ze:zr=x0.A6.foldl Q24 r0:=by
      rw[<-z3,aA (by show x0.A6.length<=zi.toNat;omega)];rfl
    rw[<-ze]at hA
    refine v_lp (inv:=λy:Int×Q01×List Q03=>0<=y.1/\y.1<=Q0n steps/\recF (Q0n steps-y.1).toNat y.2.1 y.2.2=advF x0 steps clock) (μ:=Q5r x0 steps clock (zi,zr)) ⟨cS 0,by show(0:Int)<=_;omega,by rw[hA];show recF (Q0n steps-0).toNat _ _=_;rw[fE];rfl⟩ (cK _) λy ⟨y0,y1,y2⟩=> ?_
    obtain⟨yi,yr,yo⟩:=y
    have mu: ∀q,yi<4000->Q5r x0 steps clock (zi,zr) (wrap .i64 (yi+1),q)<Q5r x0 steps clock (zi,zr) (yi,yr,yo):=λq h=>by
      show(4000-wrap .i64 (yi+1)).toNat<(4000-yi).toNat
      have y0:0<=yi:=y0
      rw[wrap_i64];omega
    have y0:0<=yi:=y0
    refine v_lv λx3 e3=>v_br (λhb=> ?_) (λhb=> ?_)
    . have hb:yi<x3:=oY hb
      rw[e3]at hb
      have mu:=λq=>mu q (by omega)
      have ew:i64.wrap (yi+1)=yi+1:=by rw[wrap_i64];omega
      have en:(Q0n steps-yi).toNat=(Q0n steps-(yi+1)).toNat+1:=by omega
      change recF (Q0n steps-yi).toNat yr yo=_ at y2
      rw[en]at y2
      refine v_lv λx4 e4=>v_br (λhd=>v_an (v_lv λx5 e5=> ?_)) (λhd=> ?_)
      . have e5:x5=Q4l yr:=by rw[e5,Zll];unfold Q4l;rw[<-e4,hd];rfl
        refine v_an (v_lv λx6 e6=>v_br (λhs=>v_lf ?_) λhs=>v_an (v_lv λx7 e7=>v_br (λhr=>v_cn (v_an (v_lv λx8 e8=>v_cn (v_nx ?_)))) λhr=>v_an (v_lv λx9 e9=>v_cn (v_nx ?_))))
        . show(_,yo)=_
          rw[<-y2];unfold recF
          rw[<-e5,<-e6,hs];rfl
        . rw[Zcn]at e8
          refine⟨⟨by show 0<=wrap .i64 (yi+1);rw[ew];omega,by show wrap .i64 (yi+1)<=_;rw[ew];omega,?_⟩,mu _⟩
          show recF (Q0n steps-wrap .i64 (yi+1)).toNat _ _=_
          rw[ew,<-y2,e8]
          conv=>rhs;unfold recF
          rw[<-e5,<-e6,hs]
          unfold Qjz Zaz
          rw[<-e7,hr];rfl
        . rw[Zcn]at e9
          refine⟨⟨by show 0<=wrap .i64 (yi+1);rw[ew];omega,by show wrap .i64 (yi+1)<=_;rw[ew];omega,?_⟩,mu _⟩
          show recF (Q0n steps-wrap .i64 (yi+1)).toNat _ _=_
          rw[ew,<-y2,e9]
          conv=>rhs;unfold recF
          rw[<-e5,<-e6,hs]
          unfold Qjz Zaz
          rw[<-e7,hr];rfl
      . have e5:yr=Q4l yr:=by
          have e4:x4=Q8h yr.A0.B0 yr.A3:=e4
          unfold Q4l;rw[<-e4,hd];rfl
        refine v_an (v_lv λx6 e6=>v_br (λhs=>v_lf ?_) λhs=>v_an (v_lv λx7 e7=>v_br (λhr=>v_cn (v_an (v_lv λx8 e8=>v_cn (v_nx ?_)))) λhr=>v_an (v_lv λx9 e9=>v_cn (v_nx ?_))))
        . show(_,yo)=_
          rw[<-y2];unfold recF
          rw[<-e5,<-e6,hs];rfl
        . rw[Zcn]at e8
          refine⟨⟨by show 0<=wrap .i64 (yi+1);rw[ew];omega,by show wrap .i64 (yi+1)<=_;rw[ew];omega,?_⟩,mu _⟩
          show recF (Q0n steps-wrap .i64 (yi+1)).toNat _ _=_
          rw[ew,<-y2,e8]
          conv=>rhs;unfold recF
          rw[<-e5,<-e6,hs]
          unfold Qjz Zaz
          rw[<-e7,hr];rfl
        . rw[Zcn]at e9
          refine⟨⟨by show 0<=wrap .i64 (yi+1);rw[ew];omega,by show wrap .i64 (yi+1)<=_;rw[ew];omega,?_⟩,mu _⟩
          show recF (Q0n steps-wrap .i64 (yi+1)).toNat _ _=_
          rw[ew,<-y2,e9]
          conv=>rhs;unfold recF
          rw[<-e5,<-e6,hs]
          unfold Qjz Zaz
          rw[<-e7,hr];rfl
    . have hb: ¬yi<x3:=oN hb
      rw[e3]at hb
      refine v_lf ?_
      show(yr,yo)=_
      change recF (Q0n steps-yi).toNat yr yo=_ at y2
      rw[<-y2,show(Q0n steps-yi).toNat=0 by omega];rfl
structure good(P:Nat)(m:Q00):Prop where
 ok:okM P m
 may:Q1f m=true
section
variable {P:Nat} {m:Q00} (h:good P m)
include h
theorem good.v:okV m:=⟨h.ok.cpu,h.ok.mem.u,h.ok.disk,h.ok.nic,h.ok.target,h.ok.cnt⟩
theorem good.s:okS P m:=⟨h.ok.cpu,h.ok.mem,h.ok.disk,h.ok.nic,h.ok.target.1,h.ok.target.2⟩
theorem good.rmay:Q64 m=true:=(Zap h.v).symm.trans h.may
theorem Qhl{e:Q0a}(he:U e.N):good P (Q0q m e).2/\(Q0q m e).2.A1=m.A1:=by
 have o:okM P (Q0q m e).2:=Tree.post _ (Zmx h.ok he)
 have a:=(Tree.pp (Zmh h.ok he)).2
 change(Q1f m=true->Q1f (Q6l m e).1=true)/\(Q6l m e).1.A1=m.A1/\_ at a
 have e1:Qm m e=((Q0q m e).2,(Q0q m e).1):=by
   simp only[Qm,Qkm,Tree.m,letv,Z36,h.rmay];rfl
 rw[Z8c h.v e,e1]at a
 exact⟨⟨o,a.1 h.may⟩,a.2.1⟩
theorem Quf:Q0t m=false↔m.A9=false/\Q7j m=false/\m.A1<1152921504606846976:=by
 simp only[Q0t,Q8,Tree.m,letv,h.rmay]
 cases m.A9<;>cases Q7j m<;>simp
theorem Qay(hs:Q0t m=false){clock:Int}(hc:U clock):good P (Q0j m clock).2/\(Q0j m clock).2.A1=m.A1+1/\(Q0j m clock).1.length<=1:=by
 have o:=Tree.post _ (Qxn h.ok hc)
 change(Q0j m clock).1.length<=1/\okM P (Q0j m clock).2/\(Q0j m clock).2.A1=wrap .u64 (m.A1+1) at o
 have s:=(Tree.pp (zg h.s h.ok.cnt hc)).2
 change _/\Good P m (Q3n m clock).1 at s
 have e:Q3n m clock=((Q0j m clock).2,(Q0j m clock).1):=by rw[Zh4 h.v,Zd2,hs];rfl
 rw[e]at s
 have hct:=((Quf h).1 hs).2.2
 have h0:=h.ok.cnt
 refine⟨⟨o.2.1,s.2.may h.may⟩,?_,o.1⟩
 rw[o.2.2,wrap_u64];omega
end
structure Q9d(P:Nat)(k:Int)(r:Q01):Prop where
 m:good P r.A0
 clock:U r.A3
 cnt:r.A0.A1<=k
theorem Qmm{P:Nat}{k:Int}{r:Q01}(h:Q9d P k r){e:Q0a}(he:U e.N):Q9d P k (Q24 r e)/\(Q24 r e).A0.A1=r.A0.A1:=by
 obtain⟨a,b⟩:=Qhl h.m he
 have hc:=h.cnt
 unfold Q24
 cases(Q0q r.A0 e).1
 . exact⟨⟨a,h.clock,by show(Q0q r.A0 e).2.A1<=k;omega⟩,b⟩
 . exact⟨⟨a,h.clock,by show(Q0q r.A0 e).2.A1<=k;omega⟩,b⟩
theorem Qqo{P:Nat}{k:Int}{r:Q01}(h:Q9d P k r):Q9d P k (Q4l r)/\(Q4l r).A0.A1=r.A0.A1:=by
 unfold Q4l
 cases Q8h r.A0.B0 r.A3
 . exact⟨h,rfl⟩
 . exact Qmm h U_0
theorem Qq2{P:Nat}{k:Int}{r:Q01}(h:Q9d P k r)(hs:Q0t r.A0=false):Q9d P (k+1) (Qjz r):=by
 obtain⟨a,b,_⟩:=Qay h.m hs h.clock
 have hc:=h.cnt
 exact⟨a,Q0u _,by show(Q0j r.A0 r.A3).2.A1<=k+1;omega⟩
theorem Zho{P:Nat}(n:Nat): ∀{k:Int} {r:Q01} {o:List Q03},Q9d P k r->Q9d P (k+n) (recF n r o).1:=by
 induction n with
 |zero=>intro k r o h;exact⟨h.m,h.clock,by have:=h.cnt;show r.A0.A1<=k+(0:Nat);omega⟩
 | succ n ih=>
   intro k r o h
   obtain⟨f,fc⟩:=Qqo h
   unfold recF
   cases hs:Q0t (Q4l r).A0
   . have t:=ih (o:=o++(Q0j (Q4l r).A0 (Q4l r).A3).1) (Qq2 f hs)
     exact⟨t.m,t.clock,by have:=t.cnt;show(recF n _ _).1.A0.A1<=_;omega⟩
   . exact⟨f.m,f.clock,by have:=f.cnt;show(Q4l r).A0.A1<=_;omega⟩
theorem Z9n{P:Nat}{k:Int}(l:List Q0a): ∀{r:Q01},Q9d P k r->(∀q∈l,U q.N)->Q9d P k (l.foldl Q24 r)/\(l.foldl Q24 r).A6=r.A6:=by
 induction l with
 |nil=>intro r h _;exact⟨h,rfl⟩
 | cons e l ih=>
   intro r h hu
   obtain⟨a,b⟩:=ih (Qmm h (hu e (by simp))).1 (λq hq=>hu q (by simp [hq]))
   exact⟨a,b.trans (Qo8 r e)⟩
theorem Z9e(n:Nat): ∀(r:Q01) (o:List Q03),(recF n r o).1.A6=r.A6:=by
 induction n with
 |zero=>intro r o;rfl
 | succ n ih=>
   intro r o
   have f:(Q4l r).A6=r.A6:=by
     unfold Q4l;cases Q8h r.A0.B0 r.A3
     . rfl
     . exact Qo8 _ _
   unfold recF
   cases Q0t (Q4l r).A0
   . exact(ih _ _).trans f
   . exact f
def okQ(l:List Q0a):Prop:=l.length<=16/\ ∀q∈l,U q.N
theorem xk{P:Nat}{k:Int}{r:Q01}(h:Q9d P k r)(hq:okQ r.A6)(steps:Int){clock:Int}(hc:U clock):Q9d P (k+4000) (advF r steps clock).1/\okQ (advF r steps clock).1.A6:=by
 obtain⟨l0,l1⟩:=Qoh steps
 unfold advF
 rw[h.m.rmay]
 have hcl:U (if clock>r.A3 then clock else r.A3):=by split<;>first|exact hc|exact h.clock
 obtain⟨a,b⟩:=Z9n r.A6 (r:={A0:=r.A0,A3:=if clock>r.A3 then clock else r.A3,B4:=r.B4,A6:=r.A6}) ⟨h.m,hcl,h.cnt⟩ hq.2
 have c:=Zho (Q0n steps).toNat (o:=[]) (r:=noQ (r.A6.foldl Q24 {A0:=r.A0,A3:=if clock>r.A3 then clock else r.A3,B4:=r.B4,A6:=r.A6})) ⟨a.m,a.clock,a.cnt⟩
 refine⟨⟨c.m,c.clock,?_⟩,?_⟩
 . have:=c.cnt
   show(recF _ _ _).1.A0.A1<=_
   omega
 . show okQ (recF _ _ _).1.A6
   rw[Z9e];exact⟨aT _,λq hq=>by cases hq⟩
theorem zk(n:Int):U (Q3z n).N:=Tree.post _ (Zke n)
theorem Qlz(r:Q01)(e:Q0a):Q2t r e=bif !Q1w e then(r,false) else bif e.B6==1 then(r,false) else bif decide ((r.A6.length:Int)>=16) then(r,false) else({A0:=r.A0,A3:=r.A3,B4:=r.B4,A6:=r.A6++[e]},true):=by
 simp only[Q2t,Q8w,Tree.m,letv,Zl6]
theorem Zjn{P:Nat}{k:Int}{r:Q01}(h:Q9d P k r)(hq:okQ r.A6){e:Q0a}(he:U e.N):Q9d P k (Q2t r e).1/\okQ (Q2t r e).1.A6:=by
  rw[Qlz]
  cases Q1w e
  . exact⟨h,hq⟩
  . cases e.B6==1
    . cases hl:decide ((r.A6.length:Int)>=16)
      . have hl:=oN hl
        refine⟨⟨h.m,h.clock,h.cnt⟩,?_,λq hm=> ?_⟩
        . show(r.A6++[e]).length<=16
          rw[lA,cW];omega
        . have hm:q∈r.A6++[e]:=hm
          rcases List.mem_append.1 hm with hm|hm
          . exact hq.2 q hm
          . rw[List.mem_singleton.1 hm];exact he
      . exact⟨h,hq⟩
    . exact⟨h,hq⟩
theorem Qtj{r:Q01}{n:Int}(h:(dB (Q3c n 3) 3==0)=true):Q3v r n=((Q2t r (Q3z n)).1,[]):=by
 show Tree.V (Q89 r n) (λx=>x=((Q2t r (Q3z n)).1,[]))
 unfold Q89
 refine v_lv λx0 e0=>v_br (λ_=>v_an (v_lv λx1 e1=>v_an (v_lv λx2 e2=>v_lf ?_))) (λhb=> ?_)
 . rw[e2,e1]
 . rw[e0,h]at hb;cases hb
theorem Qvg{r:Q01}{n:Int}(h:(dB (Q3c n 3) 3==0)=false):Q3v r n=Qdx r (Q3k (ishr .i64 (Q3c n 3) 4) 12) (wrap .u32 (iand .i64 (ishr .i64 (Q3c n 3) 12) 255)):=by
 show Tree.V (Q89 r n) (λx=>x=Qdx r (Q3k (ishr .i64 (Q3c n 3) 4) 12) (wrap .u32 (iand .i64 (ishr .i64 (Q3c n 3) 12) 255)))
 unfold Q89
 refine v_lv λx0 e0=>v_br (λhb=> ?_) (λ_=>v_an (v_lv λx1 e1=>v_an (v_lv λx2 e2=>v_lf ?_)))
 . rw[e0,h]at hb;cases hb
 . rw[e2,e1,e0]
def Qo0(s:Q01×List Q03)(n:Int):Q01×List Q03:=((Q3v s.1 n).1,s.2++(Q3v s.1 n).2)
theorem zan(m:Q00)(l:List Int)(hl:l.length<=1000000):Z55 m l=l.foldl Qo0 (Q41 m,[]):=by
 show Tree.V (Qce m l) (λx=>x=l.foldl Qo0 (Q41 m,[]))
 unfold Qce
 refine v_an (v_lv λx0 e0=> ?_)
 subst e0
 refine v_lp (inv:=λz:Int×Q01×List Q03=>0<=z.1/\z.1<=l.length/\(l.drop z.1.toNat).foldl Qo0 z.2=l.foldl Qo0 (Q41 m,[])) (μ:=Qjn m l) ⟨cS 0,by show(0:Int)<=_;omega,rfl⟩ (cK _) λz ⟨z0,z1,z2⟩=> ?_
 obtain⟨i,r,o⟩:=z
 have z0:0<=i:=z0
 have z1:i<=l.length:=z1
 refine v_br (λhb=>v_cn (v_an (v_lv λx1 e1=>v_cn (v_nx ?_)))) (λhb=>v_lf ?_)
 . have hb:i<l.length:=oY hb
   have ew:i64.wrap (i+1)=i+1:=by rw[wrap_i64];omega
   have hlt:i.toNat<l.length:=by omega
   show(0<=i64.wrap (i+1)/\i64.wrap (i+1)<=l.length/\(l.drop (i64.wrap (i+1)).toNat).foldl Qo0 (x1.1,o++x1.2)=_)/\(l.length-i64.wrap (i+1)).toNat<(l.length-i).toNat
   rw[ew]
   refine⟨⟨by omega,by omega,?_⟩,by omega⟩
   rw[<-z2]
   show _=(l.drop i.toNat).foldl Qo0 (r,o)
   rw[aB hlt,aD,show(i+1).toNat=i.toNat+1 by omega,e1]
   have ed:l.getD i.toNat 0=l[i.toNat]:=by rw[cL,cG hlt];rfl
   rw[show Qo0 (r,o) l[i.toNat]=((Q3v r l[i.toNat]).1,o++(Q3v r l[i.toNat]).2) from by unfold Qo0;rfl,<-ed]
 . have hb: ¬i<l.length:=oN hb
   show(r,o)=_
   rw[<-z2]
   show _=(l.drop i.toNat).foldl Qo0 (r,o)
   rw[aA (by omega)];rfl
theorem Zev(s:Q01×List Q03)(n:Int):Qo0 s n=((Q3v s.1 n).1,s.2++(Q3v s.1 n).2):=by unfold Qo0;rfl
theorem yk(m:Q00):Q41 m={A0:=m,A3:=0,B4:=[],A6:=[]}:=by
 simp only[Q41,Q3x,Tree.m,letv,Z36]
theorem Zl2{i:List Int}(hu: ∀w∈i,U w)(hl:i.length<=256):good 8 (Q1x 8 4 i).1/\(Q1x 8 4 i).1.A1=0:=by
 obtain⟨a,b⟩:=(Tree.pp (new_w i hu hl)).2
 change okM 8 (Q1x 8 4 i).1 at a
 refine⟨⟨a,?_⟩,b⟩
 have e:(Q1x 8 4 i).2=true:=by
   have w:i64.wrap (8*32)=256:=by decide
   simp only[Q1x,Q8s,Tree.m,w,letv,dN (show¬((i.length:Int)>256) by omega)]
   rfl
 obtain⟨a1,a2,a3,a4,a5,a6⟩:=xaQ 8 4 i e
 exact(qaR _ 8 4 a1 a2 a3 a4 a5 _ a6).1
theorem vk{m:Q00}(h:good 8 m)(hc:m.A1<=87):Tree.V (Q9w m [] 87) (λx=>x.2.2.2=0->good 8 x.1/\x.1.A1<=87):=by
 have z: ∀{k:Int} {p:Prop},k≠0->k=0->p:=λa b=>absurd b a
 unfold Q9w
 refine v_lv λx0 _=>v_br (λ_=>v_lf (z (by decide))) λ_=>v_br (λ_=>v_lf (z (by decide))) λ_=>v_br (λ_=>v_lf (z (by decide))) λ_=>v_an (v_lv λx1 _=>v_br (λ_=>v_lf (z (by decide))) λ_=>v_an (v_lv λx2 hx=> ?_))
 rw[Z36]at hx
 refine v_lp (inv:=λv:Q00×List Q03=>good 8 v.1/\v.1.A1<=87) (μ:=Qgp m [] 87) ⟨by rw[hx];exact h,by rw[hx];exact hc⟩ (cK _) λv0 ⟨a1,a3⟩=> ?_
 have a2:=a1.ok.cnt
 refine v_br (λhb=>v_br (λhm=> ?_) (λ_=>v_lf λ_=>⟨a1,a3⟩)) (λ_=>v_lf λ_=>⟨a1,a3⟩)
 have hb:=oY hb
 have hm:=oY hm
 refine v_lp (inv:=λ_=>True) (μ:=Qh1 m [] 87 v0) trivial (cK _) λv1 _=> ?_
 refine v_br (λ_=>v_lf λ_=>⟨a1,a3⟩) λhh=>v_an (v_lv λx3 h3=>v_br (λ_=>v_lf λ_=>⟨a1,a3⟩) λhi=>v_an (v_lv λx4 _=>v_br (λ_=>v_lf (z (by decide))) λ_=>v_an (v_lv λx5 h5=>v_cn (v_nx ?_))))
 obtain⟨b1,b2,_⟩:=Qay a1 ((Quf a1).2 ⟨hh,h3.symm.trans hi,hm⟩) (clock:=0) U_0
 rw[<-h5]at b1 b2
 show(good 8 x5.2/\x5.2.A1<=87)/\(87-x5.2.A1).toNat<(87-v0.1.A1).toNat
 exact⟨⟨b1,by omega⟩,by omega⟩
theorem Zd7(kind:Int)(l:List Int)(hl:l.length*8<=reachBytes)(h40:l.length<=40):good 8 (Qkh kind l)/\(Qkh kind l).A1<=87:=by
  show Tree.V (Q71 kind l) (λm=>good 8 m/\m.A1<=87)
  have code:=(Tree.pp (qd l hl)).2
  change((Qol l).length:Int)=l.length/\ ∀w∈Qol l,U w at code
  obtain⟨b1,b2⟩:=code
  unfold Q71
  refine v_an (v_lv λx0 hx0=>v_br (λ_=>v_an (v_lv λx1 e1=> ?_)) (λhk=> ?_))
  . have eb:x1.1=boot:=by rw[e1];rfl
    obtain⟨q1,q2⟩:boot.length<=160/\ ∀w∈boot,U w:=xe
    refine v_lp (inv:=λv:List Int=>v.length<=160/\v=boot++cN (v.length-boot.length) 0) (μ:=Qdu kind l) ⟨by rw[eb];exact q1,by rw[eb];simp⟩ (cK _) λv0 ⟨a1,a2⟩=> ?_
    have a3:boot.length<=v0.length:=by rw[a2,lA];omega
    refine v_br (λhb=> ?_) (λhb=> ?_)
    . have hb:=oY hb
      refine v_cn (v_nx ?_)
      show(_/\_)/\(_:Nat)<_
      refine⟨⟨by rw[lA,cW];omega,?_⟩,by show 160-(v0++[0]).length<160-v0.length;rw[lA,cW];omega⟩
      show v0++[0]=boot++cN ((v0++[0]).length-boot.length) 0
      rw[lA,cW,show v0.length+1-boot.length=(v0.length-boot.length)+1 by omega,List.replicate_succ',<-fF,<-a2]
    . have hb:=oN hb
      have hv:v0=Qkz:=by
        unfold Qkz
        rw[show(160:Nat)=v0.length by omega]
        exact a2
      subst hv
      have hp:=xaf
      have hu0: ∀w∈Qkz,U w:=λw hw=>(List.mem_append.1 hw).elim (q2 w) (U_all _ w)
      refine v_an (v_lv λx2 e2=>v_cn ?_)
      rw[<-e2]at b1 b2
      have hu: ∀w∈Qkz++x2,U w:=λw hw=>(List.mem_append.1 hw).elim (hu0 w) (b2 w)
      have hlen:(Qkz++x2).length<=256:=by rw[lA];omega
      refine v_br (λhb=> ?_) (λhb=> ?_)
      . have hb:=oY hb;omega
      . obtain⟨c1,c2⟩:=Zl2 hu hlen
        refine v_an (v_lv λx3 h3=> ?_)
        rw[<-h3]at c1 c2
        have rn:=vk c1 (by omega)
        refine v_br (λ_=>v_an (v_lv λx4 hx=>v_lf ?_)) (λ_=>v_lf ⟨c1,by omega⟩)
        have e:x3=Q1x 8 4 (Qkz++(x2++cN (96-x2.length) 0)):=by
          rw[h3]
          have hl2:(x2++cN (96-x2.length) (0:Int)).length=96:=by rw[lA,cR];omega
          refine zaf _ _ hlen (by rw[lA,hl2];omega) ?_
          rw[lA,lA,hl2,hp,fF,fF,fF,show 256-(160+96)=0 by omega,show 256-(160+x2.length)=96-x2.length by omega]
          simp
        have h0:x4.2.2.2=0:=by
          rw[hx,e]
          exact xaD _ (by rw[lA,cR];omega)
        exact(by rw[hx];exact rn:x4.2.2.2=0->good 8 x4.1/\x4.1.A1<=87) h0
  . have hk:=oN hk
    refine v_an (v_lv λx2 e2=>v_cn ?_)
    rw[<-e2]at b1 b2
    refine v_br (λhb=> ?_) (λhb=> ?_)
    . have hb:=oY hb;omega
    . obtain⟨c1,c2⟩:=Zl2 b2 (by omega)
      refine v_an (v_lv λx3 h3=> ?_)
      rw[<-h3]at c1 c2
      exact v_br (λh=>absurd (eq_of_beq h) (by omega)) (λ_=>v_lf ⟨c1,by omega⟩)
theorem Znt(w:Int):wrap .i64 (Q21 w).1.Imm=(Q21 w).1.Imm:=by
 show Tree.V (Q6o w) (λr=>wrap .i64 r.1.Imm=r.1.Imm)
 have e: ∀x,wrap .i64 (wrap .i32 x)=wrap .i32 x:=λx=>by rw[wrap_i64,wrap_i32];omega
 unfold Q6o
 refine v_lv λx0 _=> ?_
 have l: ∀i:Q0m,wrap .i64 i.Imm=i.Imm->Tree.V (Tree.lv (Q7h i) λx=> .br (!x) (.lf ((⟨0,0,0,0,0⟩:Q0m),false)) (.lf (i,true))) (λr=>wrap .i64 r.1.Imm=r.1.Imm):=λi hi=>v_lv λx hx=>v_br (λ_=>v_lf rfl) (λhb=>v_lf hi)
 exact v_br (λ_=>v_lf rfl) (λ_=>v_br (λ_=>l _ rfl) (λ_=>v_br (λ_=>l _ (e _)) (λ_=>v_br (λ_=>l _ (e _)) (λ_=>l _ (e _)))))
def ioP(e:Q16):Bool:=bif e.B6==1 then e.D1==2 else false
def readsC(c:Q05)(m:List Int):Bool:=
 bif iand .u32 c.B5.a0 1==0 then false else bif(Q1e m c.Pc 4).2 then bif(Q21 (Q1e m c.Pc 4).1).2 then bif(Q21 (Q1e m c.Pc 4).1).1.Op==60 then(Q21 (Q1e m c.Pc 4).1).1.Imm==2 else false else false else false
theorem Zha(m:Q00):Q1y m=readsC (Q0o m) m.Mem:=rfl
theorem qaJ(c:Q05)(i:Q0m):ioP (Qje c i).2=(bif i.Op==60 then wrap .i64 i.Imm==2 else false):=by
 show Tree.V (Q8g c i) (λr=>ioP r.2=_)
 have no: ∀{k:Int},i.Op=k->k≠60-> ∀e:Q16,e.B6≠1->ioP e=(bif i.Op==60 then wrap .i64 i.Imm==2 else false):=λh g e he=>by
   unfold ioP
   rw[h,show(_==(60:Int))=false from beq_false_of_ne g,show(e.B6==1)=false from beq_false_of_ne he];rfl
 have eq: ∀{k:Int},(i.Op==k)=true->i.Op=k:=λh=>eq_of_beq h
 unfold Q8g
 refine v_br (λh=>v_lv λ_ _=>v_lf (no (eq h) (by decide) _ (show(0:Int)≠1 by decide))) λ_=>v_br (λh=>v_lv λ_ _=>v_lf (no (eq h) (by decide) _ (show(0:Int)≠1 by decide))) λ_=>v_br (λh=>v_cn (v_an (v_lv λ_ _=>v_lf (no (eq h) (by decide) _ (show(0:Int)≠1 by decide))))) λ_=>v_br (λh=>v_cn (v_an (v_lv λ_ _=>v_lf (no (eq h) (by decide) _ (show(0:Int)≠1 by decide))))) λ_=>v_br (λh=>v_lf ?_) λh60=> ?_
 . show(bif(1:Int)==1 then wrap .i64 i.Imm==2 else false)=_
   rw[h];rfl
 . have n60:i.Op≠60:=λe=>by rw[e]at h60;cases h60
   refine v_br (λh=>v_cn (v_lf (no (eq h) (by decide) _ (by show(2:Int)≠1;decide)))) λ_=>v_br (λh=>v_lf (no (eq h) (by decide) _ (show(3:Int)≠1 by decide))) λ_=>v_br (λh=>v_lf (no (eq h) (by decide) _ (show(5:Int)≠1 by decide))) λ_=>v_br (λh=>v_lf (no (eq h) (by decide) _ (show(4:Int)≠1 by decide))) λ_=>v_lf (no rfl n60 _ (show(0:Int)≠1 by decide))
theorem ql(c:Q05)(m:List Int)(i:Q0m):ioP (Qk0 c m i).2.1=(bif i.Op==60 then wrap .i64 i.Imm==2 else false):=by
 unfold Qk0
 cases h:decide (i.Op>=56)
 . have h:=oN h
   rw[show(i.Op==60)=false from beq_false_of_ne (by omega)]
   cases decide (i.Op>=40)<;>cases decide (i.Op>=32)<;>cases i.Op==24<;>cases decide (i.Op<=13)<;>rfl
 . exact qaJ c i
theorem Zme{P:Nat}{m:List Int}(h:Q15 P m){c:Q05}(hc:Q2j c)(hst:c.B5.a0<=31):ioP (Q7n c m).2.1=readsC c m:=by
  rw[do_eq]
  unfold readsC
  cases hk:iand .u32 c.B5.a0 1==0
  . have hp:Ql9 c=false:=by
      rw[Z87 hc.a0.1 hst,show Qal c=true from by show(iand .u32 c.B5.a0 1 !=0)=true;rw[bne,hk];rfl]
      rfl
    have wi:=Qi1 h hc.pc (size:=4) (.inr rfl)
    have kn:Qep 1=true:=rfl
    have p0:=hc.pc.1
    have tm:dB c.Pc (wrap .u32 4)=c.Pc%4:=by
      rw[show wrap .u32 4=4 from rfl,eD p0]
    have rc:Q17 c m c.Pc 4 1=bif c.Pc%4 !=0 then(0,3,m) else bif !Q26 m c.Pc 4 then(0,Q25 1,m) else(c.Pc,0,m):=by
      simp only[Q17,Q7x,Tree.m,letv,kn,hp,tm]
      rfl
    rw[rc]
    cases h4:(c.Pc%4 !=0)
    . cases hw:Q26 m c.Pc 4
      . have l2:(Q1e m c.Pc 4).2=false:=by
          simp only[Q1e,Q44,Tree.m,letv,hw];rfl
        rw[l2]
        show ioP (doR c (0,Q25 1,m) _ _).2.1=false
        unfold doR
        rw[show((0,Q25 1,m):Int×Int×List Int).2.1=Q25 1 from rfl,show(Q25 1 !=0)=true by decide]
        rfl
      . have l2:(Q1e m c.Pc 4).2=true:=by
          simp only[Q1e,Q44,Tree.m,letv,hw];rfl
        rw[l2]
        show ioP (doR c (c.Pc,0,m) (Q1e m c.Pc 4).1 (Q21 (Q1e m c.Pc 4).1)).2.1=_
        have im:=Znt (Q1e m c.Pc 4).1
        generalize Q1e m c.Pc 4=x at*
        generalize Q21 x.1=d at*
        unfold doR
        cases d.2
        . rfl
        . rw[hk]
          have:=ql c m d.1
          rw[im]at this
          cases Q3h d.1.Op<;>exact this
    . have hw:Q26 m c.Pc 4=false:=by
        rw[wi]
        refine dN λe=> ?_
        rw[e.1]at h4;cases h4
      have l2:(Q1e m c.Pc 4).2=false:=by
        simp only[Q1e,Q44,Tree.m,letv,hw];rfl
      rw[l2];rfl
  . have us : ∀x w d,ioP (doR c x w d).2.1=false:=λx w d=>by
      unfold doR
      cases x.2.1 !=0
      . cases d.2
        . rfl
        . cases hp:Q3h d.1.Op
          . have:=ql c x.2.2 d.1
            rw[show(d.1.Op==60)=false from beq_false_of_ne λe=>by rw[e]at hp;cases hp]at this
            exact this
          . rw[hk];rfl
      . rfl
    exact us _ _ _
theorem Zp8{m:Q00}(h:okV m):Q3e m=Q0h m:=by
 have rd:Q0h m=bif Q0t m then false else Q1y m:=rfl
 have pd:Q3e m=bif !Q2s m then false else ioP (Q84 (Q1 m).B2 (Q1 m).Mem).2.2:=rfl
 rw[rd,pd,Qv1 h]
 cases hs:Q0t m
 . have hr:Q2s m=true:=by rw[Qv1 h,hs];rfl
   obtain⟨hm,hh,hct⟩:=Z12 hr
   obtain⟨g1,g2,g3,g4,g5⟩:=(Qmv m).1 hm
   rcases(Qpb m.Mem h.mem).2 with c|⟨P,hP,hmem⟩
   . exact absurd c g1
   have okm:okS P m:=⟨h.cpu,hmem,h.disk,h.nic,h.bal.1,h.bal.2⟩
   obtain⟨b1,b2,b3,_⟩:=(Tree.pp (Qu okm g2)).2
   change Q66 (Q1 m).B2 at b1
   change okS P (Q1 m) at b2
   have be:=Qwc h g2.st
   have b1':Q66 (Q0o m):=by have:=b1;rw[be]at this;exact this
   have b2':Q2j (Q0o m):=by have:=b2.cpu;rw[be]at this;exact this
   have ex:=Zhe hmem b2' b1'.st
   rw[be,Zha,<-Zme hmem b2' b1'.st]
   show ioP (Q84 (Q0o m) m.Mem).2.2=_
   rw[ex];rfl
 . rfl
theorem zaJ(d:Q0g)(m:List Int)(e:Q0a):(Q81 d m e).2.1=false->Q81 d m e=(d,false,m):=by
 show Tree.V (Q6q d m e) (λr=>r.2.1=false->r=(d,false,m))
 have no: ∀{p:Prop},true=false->p:=λh=>by cases h
 unfold Q6q
 repeat'(first
   |exact v_lf λ_=>rfl
   |exact v_lf no
   |exact v_an (v_lv λ_ _=>v_lf no)
   |refine v_lv λ_ _=> ?_
   |refine v_an ?_
   |refine v_br (λ_=> ?_) (λ_=> ?_))
theorem xaJ(n:Q0r)(m:List Int)(s:List UInt8):(Q83 n m s).2.1=false->Q83 n m s=(n,false,m):=by
 show Tree.V (Q6y n m s) (λr=>r.2.1=false->r=(n,false,m))
 have no: ∀{p:Prop},true=false->p:=λh=>by cases h
 unfold Q6y
 repeat'(first
   |exact v_lf λ_=>rfl
   |exact v_an (v_lv λ_ _=>v_lf no)
   |refine v_lv λ_ _=> ?_
   |refine v_br (λ_=> ?_) (λ_=> ?_))
theorem xan(t:Q0i):(Q6x t).2=false->(Q6x t).1=t:=by
 show Tree.V (Qa t) (λr=>r.2=false->r.1=t)
 have no: ∀{p:Prop},true=false->p:=λh=>by cases h
 unfold Qa
 repeat'(first
   |exact v_lf λ_=>rfl
   |exact v_lf no
   |refine v_br (λ_=> ?_) (λ_=> ?_))
theorem qao(c:Q0d)(b:Int):(Qlr c b).2=false->(Qlr c b).1=c:=by
 show Tree.V (Qcy c b) (λr=>r.2=false->r.1=c)
 have no: ∀{p:Prop},true=false->p:=λh=>by cases h
 unfold Qcy
 exact v_br (λ_=>v_lf λ_=>rfl) (λ_=>v_cn (v_lf no))
theorem qaK(m:Q00)(e:Q0a):(Q0q m e).1=false->(Q0q m e).2=m:=by
 show Tree.V (Q4n m e) (λr=>r.1=false->r.2=m)
 have no: ∀{p:Prop},true=false->p:=λh=>by cases h
 unfold Q4n
 repeat'(first
   |exact v_lf λ_=>rfl
   |exact v_lf no
   |exact v_lv λx hx=>v_lf λh=>by rw[hx]at h⊢;rw[xan _ h]
   |exact v_an (v_lv λx hx=>v_lf λh=>by rw[hx]at h⊢;rw[zaJ _ _ _ h])
   |exact v_an (v_lv λx hx=>v_lf λh=>by rw[hx]at h⊢;rw[xaJ _ _ _ h])
   |exact v_an (v_lv λx hx=>v_lf λh=>by rw[hx]at h⊢;rw[qao _ _ h])
   |refine v_br (λ_=> ?_) (λ_=> ?_))
theorem zao{m:Q00}(h:U m.A2.C3):Q8o m:=by
 show(Q39 m).p
 unfold Tree.p Q39
 refine w_br (λ_=>w_an ?_ (w_lv λ_ _=>trivial)) (λ_=>trivial)
 show(Q32 m).p
 unfold Tree.p Q32
 exact Q0f (Zl7 h) λ_ _=>trivial
theorem yK{P:Nat}{m:Q00}(h:okS P m):(Q2r m).w (λ_=>True):=by
 unfold Q2r
 exact Q0f (Zis h.given) λ_ _=>w_br (λ_=>trivial) (λ_=>Q0f (zU h) λx1 h1=>Q0f (zw h1.cpu h1.mem) λx2 _=>w_br (λ_=>trivial) (λ_=>trivial))
theorem Zo7{e:Q0a}(h:U e.N):Qfh e=Q1w e:=by
 obtain⟨h0,h1⟩:=h
 have d: ∀b:Bool,(bif e.N==1 then(bif decide (e.D0=[]) then true else b) else(bif e.N==0 then decide (e.D0=[]) else false))=(bif decide (e.N<=1) then(bif decide (e.D0=[]) then true else(bif e.N==1 then b else false)) else false):=λb=>by
   rcases(by omega:e.N=0\/e.N=1\/2<=e.N) with k|k|k
   . rw[k];cases decide (e.D0=[])<;>rfl
   . rw[k];cases decide (e.D0=[])<;>rfl
   . rw[show(e.N==1)=false from beq_false_of_ne (by omega),show(e.N==0)=false from beq_false_of_ne (by omega),dN (show¬e.N<=1 by omega)];rfl
 simp only[Qfh,Qgq,Q1w,Qmp,Tree.m,d]
section
variable {P:Nat} {m:Q00} (h:good P m)
include h
theorem good.len:m.Mem.length<=1024:=by have:=h.ok.mem.len;have:=h.ok.mem.p2;omega
theorem good.app(e:Q0a):Q6l m e=((Q0q m e).2,(Q0q m e).1):=by
 rw[Z8c h.v]
 simp only[Qm,Qkm,Tree.m,letv,Z36,h.rmay];rfl
theorem good.step(hs:Q0t m=false)(clock:Int):Q3n m clock=((Q0j m clock).2,(Q0j m clock).1):=by
 rw[Zh4 h.v,Zd2,hs];rfl
theorem good.idle:Q4c m=Q7j m:=Zfn h.v
end
theorem Qq4(r:Q01)(e:Q0a):(Q24 r e).B4.length<=r.B4.length+1:=by
 unfold Q24
 cases(Q0q r.A0 e).1
 . exact fG _
 . show(r.B4++[_]).length<=_
   rw[lA,cW];omega
theorem xl(r:Q01):(Q4l r).B4.length<=r.B4.length+1:=by
 unfold Q4l
 cases Q8h r.A0.B0 r.A3
 . exact fG _
 . exact Qq4 _ _
theorem zl(r:Q01):(Zaz r).B4.length<=r.B4.length+1:=by
 unfold Zaz
 cases Q0h r.A0
 . exact fG _
 . show(r.B4++[_]).length<=_
   rw[lA,cW];omega
theorem Zpo{P:Nat}{m:Q00}(h:good P m):Q0t m=bif m.A9 then true else bif Q4c m then true else m.A1==1152921504606846976:=by
 have hc:=((Qmv m).1 h.may).2.2.1
 have e:decide (m.A1>=1152921504606846976)=(m.A1==1152921504606846976):=by
   by_cases g:m.A1=1152921504606846976
   . rw[g];rfl
   . rw[show(m.A1==1152921504606846976)=false from beq_false_of_ne g,dN (by omega)]
 rw[h.idle,<-e]
 simp only[Q0t,Q8,Tree.m,letv,h.rmay];rfl
theorem Z1w{r:Q01}(hr:Q0h r.A0=true):Qjz r={A0:=(Q0j r.A0 r.A3).2,A3:=wrap .u32 (r.A3+1),B4:=r.B4++[{At:=r.A0.A1,C0:={B6:=1,N:=r.A3,D0:=[]}}],A6:=r.A6}:=by
 unfold Qjz Zaz;rw[hr];rfl
theorem Zj5{r:Q01}(hr:Q0h r.A0=false):Qjz r={A0:=(Q0j r.A0 r.A3).2,A3:=wrap .u32 (r.A3+1),B4:=r.B4,A6:=r.A6}:=by
 unfold Qjz Zaz;rw[hr];rfl
theorem Zet(r:Q01):(Qjz r).B4.length<=r.B4.length+1:=zl r
def Qrw:Q0a:={B6:=2,N:=0,D0:=[]}
theorem Zi3(m:Q00):Q0q m Qrw=bif m.A9 then(false,m) else((Q6x m.B0).2,{B2:=m.B2,Mem:=m.Mem,A4:=m.A4,B0:=(Q6x m.B0).1,B1:=m.B1,C5:=m.C5,A2:=m.A2,A1:=m.A1,A7:=m.A7,A9:=m.A9}):=rfl
theorem yl(t:Q0i):(Q6x t).2=true->(Q6x t).1.D2=false:=by
 show Tree.V (Qa t) (λr=>r.2=true->r.1.D2=false)
 unfold Qa
 exact v_br (λ_=>v_lf λh=>by cases h) (λ_=>v_lf λ_=>rfl)
theorem vl{t:Q0i}{c:Int}(h:t.D2=false):Q8h t c=false:=by
 simp only[Q8h,Qvx,Tree.m,h];rfl
theorem Z2k{r:Q01}{e:Q0a}(h:(Q0q r.A0 e).1=false):Q24 r e=r:=by
 unfold Q24;rw[h,qaK _ _ h];rfl
theorem Qo7(r:Q01):Q4l r=bif Q8h r.A0.B0 r.A3 then Q24 r Qrw else r:=rfl
theorem qm{r:Q01}(h:Q8h r.A0.B0 r.A3=false):Q4l r=r:=by rw[Qo7,h];rfl
theorem Zfx(r:Q01)(o:List Q03):recF 0 r o=(r,o):=rfl
theorem Qwk{n:Nat}{r:Q01}{o:List Q03}(hs:Q0t (Q4l r).A0=true):recF (n+1) r o=(Q4l r,o):=by
 conv=>lhs;unfold recF
 rw[hs];rfl
theorem Qwd{n:Nat}{r:Q01}{o:List Q03}(hs:Q0t (Q4l r).A0=false):recF (n+1) r o=recF n (Qjz (Q4l r)) (o++(Q0j (Q4l r).A0 (Q4l r).A3).1):=by
 conv=>lhs;unfold recF
 rw[hs];rfl
theorem vK(n:Nat): ∀(r:Q01) (o:List Q03),recF n r o=((recF n r []).1,o++(recF n r []).2):=by
 induction n with
 |zero=>intro r o;rw[Zfx,Zfx,cJ]
 | succ n ih=>
   intro r o
   cases hs:Q0t (Q4l r).A0
   . rw[Qwd hs,Qwd hs,ih,ih (Qjz (Q4l r)) ([]++_),fH,fF]
   . rw[Qwk hs,Qwk hs,cJ]
theorem Z4z{r:Q01}(h:Q64 r.A0=true)(steps clock:Int):advF r steps clock=recF (Q0n steps).toNat (noQ (r.A6.foldl Q24 {A0:=r.A0,A3:=if clock>r.A3 then clock else r.A3,B4:=r.B4,A6:=r.A6})) []:=by
 unfold advF;rw[h];rfl
theorem Qwm{s:Int}(h0:0<=s)(h1:s<=4000):Q0n s=s:=by
 have:Q0n s=(if 4000<(if 0>s then 0 else s) then 4000 else(if 0>s then 0 else s)):=rfl
 rw[this,if_neg (show¬0>s by omega),if_neg (show¬4000<s by omega)]
structure Qus(P:Nat)(k:Int)(r:Q01):Prop where
 g:Q9d P k r
 q:okQ r.A6
 l:(r.B4.length:Int)<=3*k
theorem qL(n:Nat): ∀(r:Q01) (o:List Q03),(recF n r o).1.B4.length<=r.B4.length+2*n:=by
 induction n with
 |zero=>intro r o;exact aO _
 | succ n ih=>
   intro r o
   have f:=xl r
   cases hs:Q0t (Q4l r).A0
   . rw[Qwd hs]
     have:=ih (Qjz (Q4l r)) (o++(Q0j (Q4l r).A0 (Q4l r).A3).1)
     have:=Zet (Q4l r)
     omega
   . rw[Qwk hs]
     show(Q4l r).B4.length<=_
     omega
theorem xm(l:List Q0a): ∀r:Q01,(l.foldl Q24 r).B4.length<=r.B4.length+l.length:=by
 induction l with
 |nil=>intro r;exact aO _
 | cons e l ih=>
   intro r
   have:=ih (Q24 r e)
   have:=Qq4 r e
   rw[aD,dF];omega
theorem xL(r:Q01)(steps clock:Int):(advF r steps clock).1.B4.length<=r.B4.length+r.A6.length+8000:=by
 obtain⟨l0,l1⟩:=Qoh steps
 cases hm:Q64 r.A0
 . unfold advF;rw[hm]
   show r.B4.length<=_
   omega
 . rw[Z4z hm]
   have a:=qL (Q0n steps).toNat (noQ (r.A6.foldl Q24 {A0:=r.A0,A3:=if clock>r.A3 then clock else r.A3,B4:=r.B4,A6:=r.A6})) []
   have b:=xm r.A6 {A0:=r.A0,A3:=if clock>r.A3 then clock else r.A3,B4:=r.B4,A6:=r.A6}
   have b:(noQ (r.A6.foldl Q24 {A0:=r.A0,A3:=if clock>r.A3 then clock else r.A3,B4:=r.B4,A6:=r.A6})).B4.length<=r.B4.length+r.A6.length:=b
   omega
theorem Zig{P:Nat}{k:Int}{r:Q01}(h:Q9d P k r)(hu: ∀q∈r.A6,U q.N){clock:Int}(hc:U clock):Q9d P k (noQ (r.A6.foldl Q24 {A0:=r.A0,A3:=if clock>r.A3 then clock else r.A3,B4:=r.B4,A6:=r.A6})):=by
 have hcl:U (if clock>r.A3 then clock else r.A3):=by split<;>first|exact hc|exact h.clock
 obtain⟨a,b⟩:=Z9n r.A6 (r:={A0:=r.A0,A3:=if clock>r.A3 then clock else r.A3,B4:=r.B4,A6:=r.A6}) ⟨h.m,hcl,h.cnt⟩ hu
 exact⟨a.m,a.clock,a.cnt⟩
theorem Qwh{P:Nat}{k:Int}{r:Q01}(h:Q9d P k r)(hq:okQ r.A6){clock:Int}(hc:U clock):Q9d P k (noQ (r.A6.foldl Q24 {A0:=r.A0,A3:=if clock>r.A3 then clock else r.A3,B4:=r.B4,A6:=r.A6})):=Zig h hq.2 hc
theorem advP{P:Nat}{k:Int}{r:Q01}(h:Qus P k r)(steps:Int){clock:Int}(hc:U clock):Qus P (k+4000) (advF r steps clock).1:=by
 obtain⟨a,b⟩:=xk h.g h.q steps hc
 have c:=xL r steps clock
 have d:=h.q.1
 have e:=h.l
 exact⟨a,b,by omega⟩
theorem arriveP{P:Nat}{k:Int}{r:Q01}(h:Qus P k r){e:Q0a}(he:U e.N):Qus P k (Q2t r e).1:=by
 obtain⟨a,b⟩:=Zjn h.g h.q he
 refine⟨a,b,?_⟩
 have:=h.l
 rw[Qlz]
 cases Q1w e<;>cases e.B6==1<;>cases decide ((r.A6.length:Int)>=16)<;>exact this
theorem Qus.more{P:Nat}{k j:Int}{r:Q01}(h:Qus P k r)(hj:k<=j):Qus P j r:=
 ⟨⟨h.g.m,h.g.clock,by have:=h.g.cnt;omega⟩,h.q,by have:=h.l;omega⟩
theorem zaK{P:Nat}{k:Int}{A:Q01×Bool}(h:Qus P k A.1):Qus P (k+4000) (A.1,([]:List Q03)).1:=h.more (by omega)
theorem mstepP{P:Nat}{k:Int}{r:Q01}(h:Qus P k r)(n:Int):Qus P (k+4000) (Q3v r n).1:=by
 cases hm:dB (Q3c n 3) 3==0
 . rw[Qvg hm,Qts _ _ _ (by have:=h.q.1;omega)]
   exact advP h _ (Q0u _)
 . rw[Qtj hm]
   exact zaK (arriveP h (zk n))
theorem xaK{α β:Type}(a:α)(b:β):(a,b).1=a:=rfl
theorem Qti(s:Q01×List Q03)(n:Int):(Qo0 s n).1=(Q3v s.1 n).1:=(congrArg Prod.fst (Zev s n)).trans (xaK _ _)
theorem newP{P:Nat}{m:Q00}(h:good P m)(hc:m.A1<=87):Qus P 87 {A0:=m,A3:=0,B4:=[],A6:=[]}:=
 ⟨⟨h,U_0,hc⟩,⟨aT _,λq hq=>by cases hq⟩,by show((0:Nat):Int)<=_;omega⟩
theorem zL{l acts:List Int}{x0:Bool}(hx0:x0=Qvb l acts)(hb:(!x0)=false):l.length<=40/\acts.length<=30:=zam hx0 hb
theorem and255i(a:Int):0<=iand .i64 a 255/\iand .i64 a 255<=255:=by
 unfold iand
 rw[wrap_i64]
 have:(dU i64.bits a&&&dU i64.bits 255).toNat<=255:=by
   show(dU 64 a&&&dU 64 255).toNat<=255
   rw[dX]
   exact bH eC (by decide)
 omega
theorem Ziq(a:Int):0<=wrap .u32 (iand .i64 a 255)/\wrap .u32 (iand .i64 a 255)<=255:=by
 have:=and255i a
 rw[wrap_u32];omega
theorem Zlb(n k:Int)(h0:0<=k)(h1:k<=1000):(Qtd n k).length=k.toNat:=by
 show Tree.V (Qf6 n k) (λs=>s.length=k.toNat)
 unfold Qf6
 refine v_lp (inv:=λv:Int×List Int=>0<=v.1/\v.1<=k/\v.2.length=v.1.toNat) (μ:=Qe6 n k) ⟨cS 0,h0,rfl⟩ (cK _) λv ⟨a,b,c⟩=> ?_
 refine v_br (λhb=> ?_) (λhb=> ?_)
 . have hb:=oY hb
   have e:i64.wrap (v.1+1)=v.1+1:=by rw[wrap_i64];omega
   refine v_lv λx _=>v_cn (v_nx ?_)
   show(0<=i64.wrap (v.1+1)/\i64.wrap (v.1+1)<=k/\(v.2++[_]).length=(i64.wrap (v.1+1)).toNat)/\(k-i64.wrap (v.1+1)).toNat<(k-v.1).toNat
   rw[e,lA,cW]
   exact⟨⟨by omega,by omega,by omega⟩,by omega⟩
 . have hb:=oN hb
   refine v_lf ?_
   show(bytesOf v.2).length=_
   unfold bytesOf
   rw[List.length_map,c];omega
theorem xao(n k:Int):0<=Q3c n k:=by
 show Tree.V (Qql n k) (λx=>0<=x)
 unfold Qql
 refine v_lv λx hx=>v_lf ?_
 have r:0<=x.1/\x.1<18446744073709551616:=by
   rw[hx]
   show 0<=wrap .u64 _/\wrap .u64 _<_
   rw[wrap_u64];omega
 show 0<=wrap .i64 (x.1.fdiv 2)
 rw[dL _ (by decide),wrap_i64];omega
def evOK(e:Q0a):Prop:=Q1w e=true/\e.B6≠1
theorem Z9m:evOK Qrw:=⟨rfl,by decide⟩
theorem Zdf{n:Int}(h:n<=255):Q1w {B6:=3,N:=n,D0:=[]}=true:=by
 show(bif decide (n<=255) then decide (([]:List UInt8)=[]) else false)=true
 rw[dY h];rfl
theorem Zo1{s:List UInt8}(h:s.length=128):Q1w {B6:=4,N:=1,D0:=s}=true:=by
 show(bif decide (s=[]) then true else(s.length:Int)==128)=true
 rw[h];cases decide (s=[])<;>rfl
theorem zm{s:List UInt8}(h1:1<=s.length)(h2:s.length<=128):Q1w {B6:=5,N:=0,D0:=s}=true:=by
 show(bif decide ((s.length:Int)>=1) then decide ((s.length:Int)<=128) else false)=true
 rw[dY (show(s.length:Int)>=1 by omega),dY (show(s.length:Int)<=128 by omega)];rfl
theorem yL(n:Int):evOK (Q3z n):=by
 show Tree.V (Q9g n) evOK
 unfold Q9g
 refine v_lv λx hx=> ?_
 have x0:0<=x:=by rw[hx];exact xao n 2
 have i2: ∀k:Int,k≠1-> ¬k=1:=λ_ h=>h
 refine v_br (λ_=>v_lf ⟨rfl,by decide⟩) λ_=>v_br (λ_=>v_lf ⟨Zdf (Ziq _).2,by show(3:Int)≠1;decide⟩) λ_=>v_br (λ_=>v_lf ⟨Zdf (Ziq _).2,by show(3:Int)≠1;decide⟩) λ_=>v_br (λ_=>v_lf ⟨rfl,by decide⟩) λ_=>v_br (λ_=>v_an (v_lv λy hy=>v_lf ⟨Zo1 ?_,by show(4:Int)≠1;decide⟩)) λ_=>v_br (λ_=>v_an (v_lv λy hy=>v_lf ⟨?_,by show(5:Int)≠1;decide⟩)) λ_=>v_br (λ_=>v_lf ⟨rfl,by decide⟩) λ_=>v_lf ⟨rfl,by show(6:Int)≠1;decide⟩
 . rw[hy,Zlb _ _ (by decide) (by decide)];rfl
 . have s0:0<=ishr .i64 x 8:=by
     unfold ishr
     exact Int.fdiv_nonneg x0 (dM (dK (by decide)))
   have t1:=Int.tmod_lt_of_pos (ishr .i64 x 8) (b:=40) (by decide)
   have t0:=Int.tmod_nonneg 40 s0
   have e:i64.wrap (1+dB (ishr .i64 x 8) 40)=1+dB (ishr .i64 x 8) 40:=by rw[wrap_i64];omega
   rw[e]at hy
   have:=Zlb x (1+dB (ishr .i64 x 8) 40) (by omega) (by omega)
   rw[<-hy]at this
   exact zm (by omega) (by omega)
structure Ql4(c0:Int)(r:Q01):Prop where
 pw:r.B4.Pairwise λa b=>a.At<=b.At/\(a.C0.B6=1->a.At<b.At/\(b.C0.B6=1->a.C0.N<=b.C0.N))
 all: ∀e∈r.B4,c0<=e.At/\e.At<=r.A0.A1/\Q1w e.C0=true/\(e.C0.B6=1->e.At<r.A0.A1/\e.C0.N<r.A3/\0<=e.C0.N)
 q: ∀e∈r.A6,evOK e
 c:c0<=r.A0.A1
theorem Ql4.with{c0:Int}{r x:Q01}(h:Ql4 c0 r)(hl:x.B4=r.B4)(hm:x.A0.A1=r.A0.A1)(hc:r.A3<=x.A3)(hq: ∀e∈x.A6,evOK e):Ql4 c0 x:=
 ⟨by rw[hl];exact h.pw,by
   rw[hl,hm]
   exact λe he=>⟨(h.all e he).1,(h.all e he).2.1,(h.all e he).2.2.1,λk=>⟨((h.all e he).2.2.2 k).1,by have:=((h.all e he).2.2.2 k).2.1;omega,((h.all e he).2.2.2 k).2.2⟩⟩,hq,by rw[hm];exact h.c⟩
theorem Zh1{P:Nat}{k c0:Int}{r:Q01}(h:Ql4 c0 r)(g:Q9d P k r){e:Q0a}(he:evOK e)(hu:U e.N):Ql4 c0 (Q24 r e):=by
  obtain⟨a,b⟩:=Qhl g.m hu
  unfold Q24
  cases(Q0q r.A0 e).1
  . exact h.with rfl b (cS _) h.q
  . show Ql4 c0 {A0:=(Q0q r.A0 e).2,A3:=r.A3,B4:=r.B4++[{At:=(Q0q r.A0 e).2.A1,C0:=e}],A6:=r.A6}
    rw[b]
    refine⟨List.pairwise_append.2 ⟨h.pw,fI _ _,λx hx y hy=> ?_⟩,λx hx=> ?_,h.q,by show c0<=(Q0q r.A0 e).2.A1;rw[b];exact h.c⟩
    . rw[List.mem_singleton.1 hy]
      obtain⟨p1,p2,p3,p4⟩:=h.all x hx
      exact⟨p2,λkx=>⟨(p4 kx).1,λke=>absurd ke he.2⟩⟩
    . show c0<=x.At/\x.At<=(Q0q r.A0 e).2.A1/\_/\(_->x.At<(Q0q r.A0 e).2.A1/\_)
      rw[b]
      rcases List.mem_append.1 hx with hx|hx
      . exact h.all x hx
      . rw[List.mem_singleton.1 hx]
        exact⟨h.c,cS _,he.1,λke=>absurd ke he.2⟩
theorem vL{P:Nat}{k c0:Int}{r:Q01}(h:Ql4 c0 r)(g:Q9d P k r):Ql4 c0 (Q4l r):=by
 rw[Qo7]
 cases Q8h r.A0.B0 r.A3
 . exact h
 . exact Zh1 h g Z9m U_0
theorem qM{P:Nat}{k c0:Int}{r:Q01}(h:Ql4 c0 r)(g:Q9d P k r)(hs:Q0t r.A0=false)(hc:r.A3<4294967295):Ql4 c0 (Qjz r)/\(Qjz r).A3=r.A3+1:=by
  obtain⟨_,b,_⟩:=Qay g.m hs g.clock
  have c0':=g.clock.1
  have ec:wrap .u32 (r.A3+1)=r.A3+1:=by rw[wrap_u32];omega
  have old: ∀x∈r.B4,c0<=x.At/\x.At<=r.A0.A1+1/\Q1w x.C0=true/\(x.C0.B6=1->x.At<r.A0.A1+1/\x.C0.N<r.A3+1/\0<=x.C0.N):=λx hx=>by
    obtain⟨p1,p2,p3,p4⟩:=h.all x hx
    exact⟨p1,by omega,p3,λkx=>⟨by have:=(p4 kx).1;omega,by have:=(p4 kx).2.1;omega,(p4 kx).2.2⟩⟩
  have hcc:=h.c
  cases hr:Q0h r.A0
  . rw[Zj5 hr,ec]
    refine⟨⟨h.pw,?_,h.q,by show c0<=(Q0j r.A0 r.A3).2.A1;omega⟩,rfl⟩
    show∀x∈r.B4,c0<=x.At/\x.At<=(Q0j r.A0 r.A3).2.A1/\_/\(_->x.At<(Q0j r.A0 r.A3).2.A1/\_)
    rw[b];exact old
  . rw [Z1w hr,ec]
    refine⟨⟨List.pairwise_append.2 ⟨h.pw,fI _ _,λx hx y hy=> ?_⟩,?_,h.q,by show c0<=(Q0j r.A0 r.A3).2.A1;omega⟩,rfl⟩
    . rw[List.mem_singleton.1 hy]
      obtain⟨p1,p2,p3,p4⟩:=h.all x hx
      exact⟨p2,λkx=>⟨(p4 kx).1,λ_=>dM (p4 kx).2.1⟩⟩
    . show∀x∈r.B4++[_],c0<=x.At/\x.At<=(Q0j r.A0 r.A3).2.A1/\_/\(_->x.At<(Q0j r.A0 r.A3).2.A1/\_)
      rw[b]
      intro x hx
      rcases List.mem_append.1 hx with hx|hx
      . exact old x hx
      . rw[List.mem_singleton.1 hx]
        exact⟨h.c,by show r.A0.A1<=_;omega,rfl,λ_=>⟨by show r.A0.A1<_;omega,by show r.A3<r.A3+1;omega,c0'⟩⟩
theorem Zjq(r:Q01):(Q4l r).A3=r.A3:=by
 rw[Qo7]
 cases Q8h r.A0.B0 r.A3
 . rfl
 . show(Q24 r Qrw).A3=r.A3
   unfold Q24;cases(Q0q r.A0 Qrw).1<;>rfl
theorem Ze9(r:Q01)(e:Q0a):(Q24 r e).A3=r.A3:=by
 unfold Q24;cases(Q0q r.A0 e).1<;>rfl
theorem qap{P:Nat}{c0:Int}(n:Nat): ∀{k B:Int} {r:Q01} {o:List Q03},Ql4 c0 r->Q9d P k r->r.A3<=B->B+n<4294967295->Ql4 c0 (recF n r o).1/\(recF n r o).1.A3<=B+n:=by
 induction n with
 |zero=>intro k B r o h g hb _;exact⟨h,by show r.A3<=B+(0:Nat);omega⟩
 | succ n ih=>
   intro k B r o h g hb hn
   have f:=vL h g
   obtain⟨gf,_⟩:=Qqo g
   have fc:=Zjq r
   cases hs:Q0t (Q4l r).A0
   . rw[Qwd hs]
     obtain⟨t1,t2⟩:=qM f gf hs (by omega)
     have:=ih (o:=o++(Q0j (Q4l r).A0 (Q4l r).A3).1) t1 (Qq2 gf hs) (B:=B+1) (by omega) (by omega)
     exact⟨this.1,by have:=this.2;omega⟩
   . rw[Qwk hs]
     exact⟨f,by show(Q4l r).A3<=_;omega⟩
theorem xM{P:Nat}{k c0:Int}(l:List Q0a): ∀{r:Q01},Ql4 c0 r->Q9d P k r->(∀e∈l,evOK e/\U e.N)->Ql4 c0 (l.foldl Q24 r)/\(l.foldl Q24 r).A3=r.A3/\Q9d P k (l.foldl Q24 r):=by
 induction l with
 |nil=>intro r h g _;exact⟨h,rfl,g⟩
 | cons e l ih=>
   intro r h g hu
   obtain⟨a,b⟩:=hu e (by simp)
   obtain⟨p,q,s⟩:=ih (Zh1 h g a b) (Qmm g b).1 (λq hq=>hu q (by simp [hq]))
   exact⟨p,q.trans (Ze9 r e),s⟩
theorem zap{P:Nat}{k c0 B:Int}{r:Q01}(h:Ql4 c0 r)(g:Q9d P k r)(hq:okQ r.A6){steps clock:Int}(hb:r.A3<=B)(hc0:0<=clock)(hc:clock<=B)(hs:0<=steps/\steps<12)(hB:B<1000000000):Ql4 c0 (advF r steps clock).1/\(advF r steps clock).1.A3<=B+12:=by
 rw[Z4z g.m.rmay,Qwm hs.1 (by omega)]
 have m0:r.A3<=(if clock>r.A3 then clock else r.A3)/\(if clock>r.A3 then clock else r.A3)<=B:=by split<;>omega
 generalize(if clock>r.A3 then clock else r.A3)=cl at*
 have u:U cl:=by have:=g.clock;unfold U at*;omega
 obtain⟨a,b,c⟩:=xM r.A6 (r:={A0:=r.A0,A3:=cl,B4:=r.B4,A6:=r.A6}) (h.with rfl rfl m0.1 h.q) ⟨g.m,u,g.cnt⟩ (λe he=>⟨h.q e he,hq.2 e he⟩)
 have b:(r.A6.foldl Q24 {A0:=r.A0,A3:=cl,B4:=r.B4,A6:=r.A6}).A3=cl:=b
 generalize r.A6.foldl Q24 {A0:=r.A0,A3:=cl,B4:=r.B4,A6:=r.A6}=y at*
 have:=qap steps.toNat (o:=[]) (r:=noQ y) (B:=B) (a.with rfl rfl (cS _) (λe he=>by cases he)) (k:=k) ⟨c.m,c.clock,c.cnt⟩ (by show y.A3<=B;omega) (by omega)
 exact⟨this.1,by have:=this.2;omega⟩
theorem xap{c0:Int}{r:Q01}(h:Ql4 c0 r){e:Q0a}(he:evOK e):Ql4 c0 (Q2t r e).1/\(Q2t r e).1.A3=r.A3:=by
  rw[Qlz]
  cases Q1w e
  . exact⟨h,rfl⟩
  . cases e.B6==1
    . cases decide ((r.A6.length:Int)>=16)
      . refine⟨h.with rfl rfl (cS _) λq hq=> ?_,rfl⟩
        have hq:q∈r.A6++[e]:=hq
        rcases List.mem_append.1 hq with hq|hq
        . exact h.q q hq
        . rw[List.mem_singleton.1 hq];exact he
      . exact⟨h,rfl⟩
    . exact⟨h,rfl⟩
structure logP(c0 k B:Int)(r:Q01):Prop where
 p:Qus 8 k r
 l:Ql4 c0 r
 b:r.A3<=B
theorem yM{c0 k B:Int}{A:Q01×Bool}(p:Qus 8 k A.1)(a:Ql4 c0 A.1)(b:A.1.A3<=B):logP c0 k B (A.1,([]:List Q03)).1:=⟨p,a,b⟩
theorem Qpw{c0 k B:Int}{r:Q01}(h:logP c0 k B r)(h255:255<=B)(hB:B<1000000000)(n:Int):logP c0 (k+4000) (B+12) (Q3v r n).1:=by
 have p:=mstepP h.p n
 have hb:=h.b
 cases hm:dB (Q3c n 3) 3==0
 . have rr:=Qiu (n:=ishr .i64 (Q3c n 3) 4) (k:=12) (by decide) (by decide)
   have w:=Ziq (ishr .i64 (Q3c n 3) 12)
   rw[Qvg hm,Qts _ _ _ (by have:=h.p.q.1;omega)]at p⊢
   obtain⟨a,b⟩:=zap h.l h.p.g h.p.q (steps:=Q3k (ishr .i64 (Q3c n 3) 4) 12) (clock:=wrap .u32 (iand .i64 (ishr .i64 (Q3c n 3) 12) 255)) hb w.1 (by omega) rr hB
   exact⟨p,a,b⟩
 . have hb':r.A3<=B+12:=by omega
   obtain⟨a,b⟩:=xap h.l (yL n)
   rw[Qtj hm]
   exact yM (A:=Q2t r (Q3z n)) ((arriveP h.p (zk n)).more (Int.le_add_of_nonneg_right (by decide))) a (fJ (fK b) hb')
theorem ym{c0:Int}(l:List Int): ∀{k B:Int} {s:Q01×List Q03},logP c0 k B s.1->255<=B->B+12*l.length<1000000000->logP c0 (k+4000*l.length) (B+12*l.length) (l.foldl Qo0 s).1:=by
 induction l with
 |nil=>intro k B s h _ _;simpa using h
 | cons n l ih=>
   intro k B s h h1 h2
   have e:((n::l).length:Int)=l.length+1:=by rw[dF];omega
   rw[e]at h2⊢
   have a:=Qpw h h1 (by omega) n
   rw[<-Qti]at a
   have:=ih a (by omega) (by omega)
   rw[aD,show k+4000*((l.length:Int)+1)=k+4000+4000*l.length by omega,show B+12*((l.length:Int)+1)=B+12+12*l.length by omega]
   exact this
theorem vM{m:Q00}(h:good 8 m)(hc:m.A1<=87):logP m.A1 87 255 {A0:=m,A3:=0,B4:=[],A6:=[]}:=
 ⟨newP h hc,⟨List.Pairwise.nil,(λe he=>by cases he),(λe he=>by cases he),cS _⟩,by show(0:Int)<=255;decide⟩
inductive Qh:Q00->List Q0c->List Q03->Q00->Prop
 |nil {m:Q00}:Qh m [] [] m
 |ev {m n:Q00} {e:Q0a} {L:List Q0c} {o:List Q03}:(Q0q m e).1=true->e.B6≠1->U e.N->Qh (Q0q m e).2 L o n->Qh m ({At:=m.A1,C0:=e}::L) o n
 |rd {m n:Q00} {c:Int} {L:List Q0c} {o:List Q03}:Q0t m=false->Q0h m=true->U c->Qh (Q0j m c).2 L o n->Qh m ({At:=m.A1,C0:={B6:=1,N:=c,D0:=[]}}::L) ((Q0j m c).1++o) n
 |st {m n:Q00} {c:Int} {L:List Q0c} {o:List Q03}:Q0t m=false->Q0h m=false->U c->Qh (Q0j m c).2 L o n->Qh m L ((Q0j m c).1++o) n
theorem Qh.trans{a b c:Q00}{L M:List Q0c}{o p:List Q03}(h:Qh a L o b)(g:Qh b M p c):Qh a (L++M) (o++p) c:=by
 induction h with
 |nil=>exact g
 |ev h1 h2 h3 _ ih=>exact .ev h1 h2 h3 (ih g)
 |rd h1 h2 h3 _ ih=>rw[fF];exact .rd h1 h2 h3 (ih g)
 |st h1 h2 h3 _ ih=>rw[fF];exact .st h1 h2 h3 (ih g)
theorem Qh.good{P:Nat}{a b:Q00}{L:List Q0c}{o:List Q03}(h:Qh a L o b):good P a->good P b/\a.A1<=b.A1/\ ∀e∈L,a.A1<=e.At:=by
 induction h with
 |nil=>exact λg=>⟨g,cS _,λe he=>by cases he⟩
 | ev h1 h2 h3 _ ih=>
   intro g
   obtain⟨g1,c1⟩:=Qhl g h3
   obtain⟨p,q,r⟩:=ih g1
   rw[c1]at q r
   exact⟨p,q,λe he=>(List.mem_cons.1 he).elim (λh=>by rw[h];exact cS _) (λh=>r e h)⟩
 | rd h1 h2 h3 _ ih=>
   intro g
   obtain⟨g1,c1,_⟩:=Qay g h1 h3
   obtain⟨p,q,r⟩:=ih g1
   rw[c1]at q r
   exact⟨p,by omega,λe he=>(List.mem_cons.1 he).elim (λh=>by rw[h];exact cS _) (λh=>by have:=r e h;omega)⟩
 | st h1 h2 h3 _ ih=>
   intro g
   obtain⟨g1,c1,_⟩:=Qay g h1 h3
   obtain⟨p,q,r⟩:=ih g1
   rw[c1]at q r
   exact⟨p,by omega,λe he=>by have:=r e he;omega⟩
def Q7c(r x:Q01)(o:List Q03):Prop:= ∃L,x.B4=r.B4++L/\Qh r.A0 L o x.A0
theorem Q7c.rfl{r:Q01}:Q7c r r []:=⟨[],(cJ _).symm, .nil⟩
theorem Q7c.trans{a b c:Q01}{o p:List Q03}(h:Q7c a b o)(g:Q7c b c p):Q7c a c (o++p):=by
 obtain⟨L,l1,l2⟩:=h
 obtain⟨M,m1,m2⟩:=g
 exact⟨L++M,by rw[m1,l1,fF],l2.trans m2⟩
theorem Q7c.trans0{a b c:Q01}{p:List Q03}(h:Q7c a b [])(g:Q7c b c p):Q7c a c p:=h.trans g
theorem Zn3{P:Nat}{k:Int}{r:Q01}(g:Q9d P k r){e:Q0a}(he:evOK e)(hu:U e.N):Q7c r (Q24 r e) []:=by
 obtain⟨_,b⟩:=Qhl g.m hu
 cases ha:(Q0q r.A0 e).1
 . rw[Z2k ha];exact Q7c.rfl
 . unfold Q24
   rw[ha]
   refine⟨[{At:=r.A0.A1,C0:=e}],?_, .ev ha he.2 hu .nil⟩
   show r.B4++[{At:=(Q0q r.A0 e).2.A1,C0:=e}]=_
   rw[b]
theorem qaq{P:Nat}{k:Int}{r:Q01}(g:Q9d P k r):Q7c r (Q4l r) []:=by
 rw[Qo7]
 cases Q8h r.A0.B0 r.A3
 . exact Q7c.rfl
 . exact Zn3 g Z9m U_0
theorem zaq{P:Nat}{k:Int}{r:Q01}(g:Q9d P k r)(hs:Q0t r.A0=false):Q7c r (Qjz r) (Q0j r.A0 r.A3).1:=by
 cases hr:Q0h r.A0
 . rw[Zj5 hr]
   refine⟨[],(cJ _).symm,?_⟩
   have:=Qh.st (L:=[]) (o:=[]) hs hr g.clock .nil
   rw[cJ]at this;exact this
 . rw[Z1w hr]
   refine⟨[{At:=r.A0.A1,C0:={B6:=1,N:=r.A3,D0:=[]}}],_root_.rfl,?_⟩
   have:=Qh.rd (L:=[]) (o:=[]) hs hr g.clock .nil
   rw[cJ]at this;exact this
theorem qaL{P:Nat}(n:Nat): ∀{k:Int} {r:Q01},Q9d P k r->Q7c r (recF n r []).1 (recF n r []).2:=by
 induction n with
 |zero=>intro k r _;exact Q7c.rfl
 | succ n ih=>
   intro k r g
   obtain⟨gf,_⟩:=Qqo g
   have f:=qaq g
   cases hs:Q0t (Q4l r).A0
   . rw[Qwd hs,vK,fH]
     exact f.trans0 ((zaq gf hs).trans (ih (Qq2 gf hs)))
   . rw[Qwk hs];exact f
theorem xaq{P:Nat}{k:Int}(l:List Q0a): ∀{r:Q01},Q9d P k r->(∀e∈l,evOK e/\U e.N)->Q7c r (l.foldl Q24 r) []:=by
 induction l with
 |nil=>intro r _ _;exact Q7c.rfl
 | cons e l ih=>
   intro r g hu
   obtain⟨a,b⟩:=hu e (by simp)
   exact(Zn3 g a b).trans0 (ih (Qmm g b).1 (λq hq=>hu q (by simp [hq])))
theorem zaL{P:Nat}{k:Int}{r:Q01}(g:Q9d P k r)(hq:okQ r.A6)(he: ∀e∈r.A6,evOK e)(steps:Int){clock:Int}(hc:U clock):Q7c r (advF r steps clock).1 (advF r steps clock).2:=by
 rw[Z4z g.m.rmay]
 have s:=Qwh g hq hc
 have u:U (if clock>r.A3 then clock else r.A3):=by split<;>first|exact hc|exact g.clock
 have f:=xaq r.A6 (r:={A0:=r.A0,A3:=if clock>r.A3 then clock else r.A3,B4:=r.B4,A6:=r.A6}) (k:=k) ⟨g.m,u,g.cnt⟩ (λe h=>⟨he e h,hq.2 e h⟩)
 generalize r.A6.foldl Q24 {A0:=r.A0,A3:=if clock>r.A3 then clock else r.A3,B4:=r.B4,A6:=r.A6}=y at*
 have f:Q7c r (noQ y) []:=f
 exact f.trans0 (qaL _ s)
theorem xaL(r:Q01)(e:Q0a):Q7c r (Q2t r e).1 []:=by
 rw[Qlz]
 cases Q1w e<;>cases e.B6==1<;>cases decide ((r.A6.length:Int)>=16)<;>exact Q7c.rfl
theorem ev_on{r:Q01}{A:Q01×Bool}(h:Q7c r A.1 []):Q7c r (A.1,([]:List Q03)).1 (A.1,([]:List Q03)).2:=h
theorem qN{c0 k B:Int}{r:Q01}(h:logP c0 k B r)(n:Int):Q7c r (Q3v r n).1 (Q3v r n).2:=by
 cases hm:dB (Q3c n 3) 3==0
 . rw[Qvg hm,Qts _ _ _ (by have:=h.p.q.1;omega)]
   exact zaL h.p.g h.p.q h.l.q _ (Q0u _)
 . rw[Qtj hm]
   exact ev_on (A:=Q2t r (Q3z n)) (xaL _ _)
theorem qar{c0:Int}(l:List Int): ∀{k B:Int} {s:Q01×List Q03},logP c0 k B s.1->255<=B->B+12*l.length<1000000000-> ∃o,(l.foldl Qo0 s).2=s.2++o/\Q7c s.1 (l.foldl Qo0 s).1 o:=by
 induction l with
 |nil=>intro k B s _ _ _;exact⟨[],(cJ _).symm,Q7c.rfl⟩
 | cons n l ih=>
   intro k B s h h1 h2
   rw[dF]at h2
   have a:=Qpw h h1 (by omega) n
   have b:=qN h n
   rw[<-Qti]at a b
   obtain⟨o,o1,o2⟩:=ih a (by omega) (by omega)
   refine⟨(Q3v s.1 n).2++o,?_,b.trans o2⟩
   rw[aD,o1,Zev,fF]
def arm(r:Q01):Nat:=if r.A0.B0.D2 then 1 else 0
theorem yY(r:Q01):arm r<=1:=by unfold arm;split<;>omega
theorem Zj3(m:Q00)(e:Q0a):(Q0q m e).2.B0=m.B0\/(Q0q m e).2.B0=(Q6x m.B0).1:=by
 show Tree.V (Q4n m e) (λx=>x.2.B0=m.B0\/x.2.B0=(Q6x m.B0).1)
 unfold Q4n
 repeat'(first
   |exact v_lf (.inl rfl)
   |exact v_lv λx hx=>v_lf (.inr (by rw[hx]))
   |exact v_lv λx hx=>v_lf (.inl rfl)
   |exact v_an (v_lv λx hx=>v_lf (.inl rfl))
   |refine v_br (λ_=> ?_) (λ_=> ?_))
theorem xN(t:Q0i):(Q6x t).1.D2=true->t.D2=true:=by
 show Tree.V (Qa t) (λr=>r.1.D2=true->t.D2=true)
 unfold Qa
 exact v_br (λ_=>v_lf λh=>h) (λ_=>v_lf λh=>by cases h)
theorem vm(r:Q01)(e:Q0a):(Q24 r e).B4.length+arm (Q24 r e)<=r.B4.length+arm r+1:=by
  have l:=Qq4 r e
  cases ha:(Q0q r.A0 e).1
  . rw[Z2k ha];omega
  . have h:arm (Q24 r e)<=arm r:=by
      unfold arm Q24
      rw[ha]
      show(if(Q0q r.A0 e).2.B0.D2=true then 1 else 0)<=_
      rcases Zj3 r.A0 e with t|t
      . rw[t];exact aO _
      . rw[t]
        split
        . rename_i q;rw[if_pos (xN _ q)];exact aO _
        . exact aT _
    omega
theorem zN(r:Q01):(Q4l r).B4.length+arm (Q4l r)<=r.B4.length+arm r:=by
  cases hd:Q8h r.A0.B0 r.A3
  . rw[qm hd];exact aO _
  . have e:Q4l r=Q24 r Qrw:=by rw[Qo7,hd];rfl
    rw[e]
    cases ha:(Q0q r.A0 Qrw).1
    . rw[Z2k ha];exact aO _
    . have a1:arm r=1:=by
        unfold arm
        refine if_pos ?_
        cases h:r.A0.B0.D2
        . rw[vl h]at hd;cases hd
        . rfl
      have l:=Qq4 r Qrw
      have a0:arm (Q24 r Qrw)=0:=by
        unfold arm Q24
        rw[ha]
        refine if_neg ?_
        show¬(Q0q r.A0 Qrw).2.B0.D2=true
        rw[Zi3]at ha⊢
        cases hh:r.A0.A9
        . rw[hh]at ha
          have:=yl _ ha
          show¬(Q6x r.A0.B0).1.D2=true
          rw[this];decide
        . rw[hh]at ha;cases ha
      omega
theorem Zj8{P:Nat}{m:Q00}(g:good P m)(hr:Q0h m=true)(clock:Int):(Q0j m clock).2.B0=m.B0:=by
 have rd:Q0h m=bif Q0t m then false else Q1y m:=rfl
 rw[rd]at hr
 cases hs:Q0t m
 . rw[hs]at hr
   have hr:Q1y m=true:=hr
   obtain⟨g1,g2,g3,g4,g5⟩:=(Qmv m).1 g.may
   obtain⟨b1,b2,b3,_⟩:=(Tree.pp (Qu g.s g2)).2
   change Q66 (Q1 m).B2 at b1
   change okS P (Q1 m) at b2
   have be:=Qwc g.v g2.st
   have b1':Q66 (Q0o m):=by have:=b1;rw[be]at this;exact this
   have b2':Q2j (Q0o m):=by have:=b2.cpu;rw[be]at this;exact this
   rw[Zha,<-Zme g.ok.mem b2' b1'.st]at hr
   rw[zY]
   generalize Q7n (Q0o m) m.Mem=D at*
   unfold ioP at hr
   unfold finR
   cases hk:D.2.1.B6==1
   . rw[hk]at hr;cases hr
   . rw[hk]at hr
     have hp:D.2.1.D1=2:=eq_of_beq hr
     rw[hp];rfl
 . rw[hs]at hr;cases hr
theorem yN{P:Nat}{k:Int}{r:Q01}(g:Q9d P k r):(Qjz r).B4.length+arm (Qjz r)<=r.B4.length+arm r+1:=by
 cases hr:Q0h r.A0
 . have:=yY (Qjz r)
   have e:(Qjz r).B4=r.B4:=by rw[Zj5 hr]
   rw[e];omega
 . have l:=Zet r
   have e:arm (Qjz r)=arm r:=by
     unfold arm
     rw[Z1w hr]
     show(if(Q0j r.A0 r.A3).2.B0.D2=true then 1 else 0)=_
     rw[Zj8 g.m hr]
   omega
theorem zar{P:Nat}(n:Nat): ∀{k:Int} {r:Q01} {o:List Q03},Q9d P k r->(recF n r o).1.B4.length+arm (recF n r o).1<=r.B4.length+arm r+n:=by
 induction n with
 |zero=>intro k r o _;exact aO _
 | succ n ih=>
   intro k r o g
   obtain⟨gf,_⟩:=Qqo g
   have f:=zN r
   cases hs:Q0t (Q4l r).A0
   . rw[Qwd hs]
     have a:=ih (o:=o++(Q0j (Q4l r).A0 (Q4l r).A3).1) (Qq2 gf hs)
     have b:=yN gf
     omega
   . rw[Qwk hs]
     show(Q4l r).B4.length+arm (Q4l r)<=_
     omega
theorem vN(l:List Q0a): ∀r:Q01,(l.foldl Q24 r).B4.length+arm (l.foldl Q24 r)<=r.B4.length+arm r+l.length:=by
 induction l with
 |nil=>intro r;exact aO _
 | cons e l ih=>
   intro r
   have a:=ih (Q24 r e)
   have b:=vm r e
   rw[aD,dF];omega
def cntR(r:Q01):Nat:=r.B4.length+arm r+r.A6.length
theorem xar{P:Nat}{k:Int}{r:Q01}(g:Q9d P k r)(hq:okQ r.A6){steps clock:Int}(hc:U clock)(hs:0<=steps/\steps<12):cntR (advF r steps clock).1<=cntR r+11:=by
 have s:=Qwh g hq hc
 have f:=vN r.A6 {A0:=r.A0,A3:=if clock>r.A3 then clock else r.A3,B4:=r.B4,A6:=r.A6}
 rw[Z4z g.m.rmay,Qwm hs.1 (by omega)]
 generalize r.A6.foldl Q24 {A0:=r.A0,A3:=if clock>r.A3 then clock else r.A3,B4:=r.B4,A6:=r.A6}=y at*
 have q:(recF steps.toNat (noQ y) []).1.A6=[]:=Z9e _ _ _
 have c:=zar steps.toNat (o:=[]) s
 have e:arm (noQ y)=arm y:=rfl
 have e1:(noQ y).B4=y.B4:=rfl
 have e2:arm {A0:=r.A0,A3:=if clock>r.A3 then clock else r.A3,B4:=r.B4,A6:=r.A6}=arm r:=rfl
 rw[e,e1]at c
 rw[e2]at f
 have f:y.B4.length+arm y<=r.B4.length+arm r+r.A6.length:=f
 unfold cntR
 rw[q]
 show _+_+0<=_
 omega
theorem qn{P:Nat}{k:Int}{r:Q01}(g:Q9d P k r)(hq:okQ r.A6){steps clock:Int}(hc:U clock)(hs:0<=steps/\steps<12):(advF r steps clock).1.A0.A1<=r.A0.A1+11:=by
 have s:=Qwh (k:=r.A0.A1) ⟨g.m,g.clock,cS _⟩ hq hc
 rw[Z4z g.m.rmay,Qwm hs.1 (by omega)]
 have:=(Zho steps.toNat (o:=[]) s).cnt
 omega
theorem Zkp{c0 k B:Int}{r:Q01}(h:logP c0 k B r)(n:Int):(Q3v r n).1.A0.A1<=r.A0.A1+11:=by
 cases hm:dB (Q3c n 3) 3==0
 . rw[Qvg hm,Qts _ _ _ (by have:=h.p.q.1;omega)]
   exact qn h.p.g h.p.q (Q0u _) (Qiu (n:=ishr .i64 (Q3c n 3) 4) (k:=12) (by decide) (by decide))
 . rw[Qtj hm,Qlz]
   have z:r.A0.A1<=r.A0.A1+11:=by omega
   cases Q1w (Q3z n)<;>cases(Q3z n).B6==1<;>cases decide ((r.A6.length:Int)>=16)<;>exact z
theorem Zor{c0:Int}(l:List Int): ∀{k B:Int} {s:Q01×List Q03},logP c0 k B s.1->255<=B->B+12*l.length<1000000000->(l.foldl Qo0 s).1.A0.A1<=s.1.A0.A1+11*l.length:=by
 induction l with
 |nil=>intro k B s _ _ _;show s.1.A0.A1<=s.1.A0.A1+11*((0:Nat):Int);omega
 | cons n l ih=>
   intro k B s h h1 h2
   rw[dF]at h2
   have a:=Qpw h h1 (by omega) n
   have b:=Zkp h n
   rw[<-Qti]at a b
   have:=ih a (by omega) (by omega)
   rw[aD,dF];omega
theorem xn{c0 k B:Int}{r:Q01}(h:logP c0 k B r)(n:Int):cntR (Q3v r n).1<=cntR r+11:=by
 cases hm:dB (Q3c n 3) 3==0
 . rw[Qvg hm,Qts _ _ _ (by have:=h.p.q.1;omega)]
   exact xar h.p.g h.p.q (Q0u _) (Qiu (n:=ishr .i64 (Q3c n 3) 4) (k:=12) (by decide) (by decide))
 . rw[Qtj hm,Qlz]
   have:cntR {A0:=r.A0,A3:=r.A3,B4:=r.B4,A6:=r.A6++[Q3z n]}=cntR r+1:=by
     show r.B4.length+arm r+(r.A6++[_]).length=r.B4.length+arm r+r.A6.length+1
     rw[lA,cW];omega
   cases Q1w (Q3z n)<;>cases(Q3z n).B6==1<;>cases decide ((r.A6.length:Int)>=16)<;>first|exact Nat.le_add_right _ _|(show cntR {A0:=r.A0,A3:=r.A3,B4:=r.B4,A6:=r.A6++[Q3z n]}<=_;omega)
theorem qO{c0:Int}(l:List Int): ∀{k B:Int} {s:Q01×List Q03},logP c0 k B s.1->255<=B->B+12*l.length<1000000000->cntR (l.foldl Qo0 s).1<=cntR s.1+11*l.length:=by
 induction l with
 |nil=>intro k B s _ _ _;exact aO _
 | cons n l ih=>
   intro k B s h h1 h2
   rw[dF]at h2
   have a:=Qpw h h1 (by omega) n
   have b:=xn h n
   rw[<-Qti]at a b
   have:=ih a (by omega) (by omega)
   rw[aD,dF];omega
def dueF:List Q0c->Q00->Q00×List Q0c
 |[],m=>(m,[])
 |e::l,m=>bif decide (e.At<=m.A1) then(bif e.C0.B6 !=1 then dueF l (Q0q m e.C0).2 else(m,e::l)) else(m,e::l)
def setF(p:Q02):Q02:={A0:=(dueF p.B4 p.A0).1,B4:=(dueF p.B4 p.A0).2,C6:=p.C6,A3:=p.A3}
def Qrc(p:Q02):Int:=match p.B4 with|[]=>0|e::_=>e.C0.N
def Qny(p:Q02):Bool:=match p.B4 with
 |[]=>!Q0h p.A0
 |e::_=>bif Q0h p.A0 then(bif e.C0.B6==1 then e.At==p.A0.A1 else false) else !(bif e.C0.B6==1 then decide (e.At<=p.A0.A1) else false)
def Qcx(p:Q02):Int×List Q0c×Int:=bif Q0h p.A0 then(Qrc p,p.B4.drop 1,wrap .u32 (Qrc p+1)) else(0,p.B4,p.A3)
def goF(p:Q02):Q02:={A0:=(Q0j p.A0 (Qcx p).1).2,B4:=(Qcx p).2.1,C6:=p.C6,A3:=(Qcx p).2.2}
def outF(p:Q02):List Q03:=(Q0j p.A0 (Qcx p).1).1
def folF:Nat->Q02->List Q03->Q02×List Q03
 |0,p,o=>(p,o)
 |n+1,p,o=>bif decide (p.A0.A1>=p.C6) then(p,o) else bif Q0t (setF p).A0 then(setF p,o) else bif Qny (setF p) then folF n (goF (setF p)) (o++outF (setF p)) else(setF p,o)
def folP(p:Q02)(steps:Int):Q02×List Q03:=bif Q64 p.A0 then folF (Q0n steps).toNat p [] else(p,[])
structure Qnx(P:Nat)(k:Int)(p:Q02):Prop where
 m:good P p.A0
 cnt:p.A0.A1<=k
 clock:U p.A3
 log:p.B4.length<=900000
 u: ∀e∈p.B4,U e.C0.N
theorem Ziz{e:Q0c}{l:List Q0c}{m:Q00}(h1:e.At<=m.A1)(h2:(e.C0.B6 !=1)=true):dueF (e::l) m=dueF l (Q0q m e.C0).2:=by
 conv=>lhs;unfold dueF
 rw[dY h1,h2];rfl
theorem Z1z{e:Q0c}{l:List Q0c}{m:Q00}(h1: ¬e.At<=m.A1):dueF (e::l) m=(m,e::l):=by
 conv=>lhs;unfold dueF
 rw[dN h1];rfl
theorem Qxl{e:Q0c}{l:List Q0c}{m:Q00}(h2:(e.C0.B6 !=1)=false):dueF (e::l) m=(m,e::l):=by
 conv=>lhs;unfold dueF
 rw[h2];cases decide (e.At<=m.A1)<;>rfl
theorem Zf1{P:Nat}: ∀{l:List Q0c} {m:Q00},good P m->(∀e∈l,U e.C0.N)->good P (dueF l m).1/\(dueF l m).1.A1=m.A1/\(dueF l m).2<:+l
  |[],m,h,_=>⟨h,rfl,bW _⟩
  | e ::l,m,h,hu=>by
    by_cases h1:e.At<=m.A1
    . cases h2:e.C0.B6 !=1
      . rw[Qxl h2];exact⟨h,rfl,bW _⟩
      . rw[Ziz h1 h2]
        obtain⟨a,b⟩:=Qhl h (hu e (by simp))
        obtain⟨c,d,s⟩:=Zf1 (l:=l) a (λq hq=>hu q (by simp [hq]))
        exact⟨c,d.trans b,s.trans (List.suffix_cons e l)⟩
    . rw[Z1z h1];exact⟨h,rfl,bW _⟩
theorem Z1i{P:Nat}{k:Int}{p:Q02}(h:Qnx P k p):Qnx P k (setF p)/\(setF p).A0.A1=p.A0.A1/\(setF p).B4<:+p.B4:=by
 obtain⟨a,b,s⟩:=Zf1 h.m h.u
 have hc:=h.cnt
 have hl:=h.log
 have sl:=s.length_le
 exact⟨⟨a,by show(dueF p.B4 p.A0).1.A1<=k;omega,h.clock,by show(dueF p.B4 p.A0).2.length<=_;omega,λe he=>h.u e (s.subset he)⟩,b,s⟩
theorem xO{P:Nat}{k:Int}{p:Q02}(h:Qnx P k p):U (Qrc p):=by
 unfold Qrc
 split
 . exact U_0
 . rename_i e l he;exact h.u e (by rw[he];simp)
theorem zn{P:Nat}{k:Int}{p:Q02}(h:Qnx P k p):U (Qcx p).1/\U (Qcx p).2.2/\(Qcx p).2.1<:+p.B4:=by
 unfold Qcx
 cases Q0h p.A0
 . exact⟨U_0,h.clock,bW _⟩
 . exact⟨xO h,Q0u _,List.drop_suffix _ _⟩
theorem Za5{P:Nat}{k:Int}{p:Q02}(h:Qnx P k p)(hs:Q0t p.A0=false):Qnx P (k+1) (goF p)/\(goF p).A0.A1=p.A0.A1+1/\(outF p).length<=1:=by
 obtain⟨t1,t2,t3⟩:=zn h
 obtain⟨a,b,c⟩:=Qay h.m hs t1
 have hc:=h.cnt
 have hl:=h.log
 have sl:=t3.length_le
 exact⟨⟨a,by show(Q0j p.A0 (Qcx p).1).2.A1<=k+1;omega,t2,by show(Qcx p).2.1.length<=_;omega,λe he=>h.u e (t3.subset he)⟩,b,c⟩
theorem Qtt{n:Nat}{p:Q02}{o:List Q03}(h:p.C6<=p.A0.A1):folF n p o=(p,o):=by
 cases n with
 |zero=>rfl
 | succ n=>
   conv=>lhs;unfold folF
   rw[dY (show p.A0.A1>=p.C6 from h)];rfl
theorem Qqn{n:Nat}{p:Q02}{o:List Q03}(h: ¬p.C6<=p.A0.A1)(hs:Q0t (setF p).A0=true):folF (n+1) p o=(setF p,o):=by
 conv=>lhs;unfold folF
 rw[dN (show¬p.A0.A1>=p.C6 from h),hs];rfl
theorem Qv2{n:Nat}{p:Q02}{o:List Q03}(h: ¬p.C6<=p.A0.A1)(hs:Q0t (setF p).A0=false)(hp:Qny (setF p)=false):folF (n+1) p o=(setF p,o):=by
 conv=>lhs;unfold folF
 rw[dN (show¬p.A0.A1>=p.C6 from h),hs,hp];rfl
theorem Zbi{n:Nat}{p:Q02}{o:List Q03}(h: ¬p.C6<=p.A0.A1)(hs:Q0t (setF p).A0=false)(hp:Qny (setF p)=true):folF (n+1) p o=folF n (goF (setF p)) (o++outF (setF p)):=by
 conv=>lhs;unfold folF
 rw[dN (show¬p.A0.A1>=p.C6 from h),hs,hp];rfl
theorem yn{p:Q02}(h:Q64 p.A0=true)(steps:Int):folP p steps=folF (Q0n steps).toNat p []:=by
 unfold folP;rw[h];rfl
theorem Zhn{P:Nat}: ∀(n:Nat) {k:Int} {p:Q02} (o:List Q03),Qnx P k p->Qnx P (k+n) (folF n p o).1/\(folF n p o).2.length<=o.length+n
  |0,k,p,o,h=>⟨⟨h.m,by have:=h.cnt;show p.A0.A1<=k+(0:Nat);omega,h.clock,h.log,h.u⟩,aO _⟩
  | n + 1,k,p,o,h=>by
    obtain⟨g,gc,_⟩:=Z1i h
    have up: ∀{q:Q02},Qnx P k q->Qnx P (k+(n+1:Nat)) q:=λh=>⟨h.m,by have:=h.cnt;omega,h.clock,h.log,h.u⟩
    by_cases hk:p.C6<=p.A0.A1
    . rw[Qtt hk];exact⟨up h,by show o.length<=_;omega⟩
    . cases hs:Q0t (setF p).A0
      . cases hp:Qny (setF p)
        . rw[Qv2 hk hs hp];exact⟨up g,by show o.length<=_;omega⟩
        . rw[Zbi hk hs hp]
          obtain⟨a,_,c⟩:=Za5 g hs
          obtain⟨x,y⟩:=Zhn n (o++outF (setF p)) a
          rw[lA]at y
          exact⟨⟨x.m,by have:=x.cnt;omega,x.clock,x.log,x.u⟩,by omega⟩
      . rw[Qqn hk hs];exact⟨up g,by show o.length<=_;omega⟩
theorem qas{P:Nat}{p:Q02}(h:good P p.A0){e:Q0a}(he:U e.N):(Q4h e p).w (λx=>x=(true,{A0:=(Q0q p.A0 e).2,B4:=p.B4,C6:=p.C6,A3:=p.A3})):=by
 unfold Q4h
 refine w_an (Zoy h.v h.len he) (w_lv λx0 e0=> ?_)
 rw[h.app]at e0
 show(_,_)=_
 rw[e0]
theorem qaM{P:Nat}{p:Q02}(h:good P p.A0)(hu: ∀e∈p.B4,U e.C0.N):(Q7a p p.A0.A1).w (λx=>x.1=setF p):=by
  unfold Q7a
  refine w_lp (inv:=λv:Q02=>good P v.A0/\v.A0.A1=p.A0.A1/\(∀e∈v.B4,U e.C0.N)/\setF v=setF p) (μ:=Qkl p p.A0.A1) ⟨h,rfl,hu,rfl⟩ (cK _) λv ⟨a1,a2,a3,a4⟩=> ?_
  obtain⟨m,l,kn,ck⟩:=v
  cases l with
  | nil=>
    refine w_br (λhb=>absurd (oY hb) (by show¬((0:Nat):Int)>0;decide)) (λ_=> ?_)
    show _=_
    rw[<-a4];rfl
  | cons e l=>
    have cn:(bS 4 4&&bT 0 4&&decide ((0:Int)<=0/\(0:Int)<(((e::l).length:Nat):Int)))=true:=by
      rw[dY (show(0:Int)<=0/\(0:Int)<(((e::l).length:Nat):Int) by rw[dF];omega)];rfl
    have tk:cY ((((e::l).length:Nat):Int).toNat-dC 1) (cZ (dC 1) (e::l))=l:=by simp
    have cs:(bS 4 4&&bT 0 4&&decide ((0:Int)<=1/\(1:Int)<=(((e::l).length:Nat):Int)/\(((e::l).length:Nat):Int)<=(((e::l).length:Nat):Int)))=true:=by
      rw[dY (show(0:Int)<=1/\(1:Int)<=(((e::l).length:Nat):Int)/\(((e::l).length:Nat):Int)<=(((e::l).length:Nat):Int) by rw[dF];omega)];rfl
    have hc:m.A1=p.A0.A1:=a2
    have stay:dueF (e::l) m=(m,e::l)->(⟨m,e::l,kn,ck⟩:Q02)=setF p:=λhd=>by
      rw[<-a4]
      show _=(⟨(dueF (e::l) m).1,(dueF (e::l) m).2,kn,ck⟩:Q02)
      rw[hd]
    refine w_br (λ_=>w_cn cn (w_br (λh1=>w_cn cn (w_br (λh2=>w_cn cn (w_cn cs ?_)) (λh2=> ?_))) (λh1=> ?_))) (λhb=>absurd (oN hb) (by show¬ ¬(((e::l).length:Nat):Int)>0;rw[dF];omega))
    . have h1:e.At<=p.A0.A1:=oY h1
      have h2:(e.C0.B6 !=1)=true:=h2
      have he:=a3 e (by simp)
      obtain⟨k1,k2⟩:=Qhl a1 he
      refine Q0f (qas (p:=⟨m,cY ((((e::l).length:Nat):Int).toNat-dC 1) (cZ (dC 1) (e::l)),kn,ck⟩) a1 he) λx0 e0=> ?_
      have e0:x0=(true,⟨(Q0q m e.C0).2,l,kn,ck⟩):=by
        rw[e0]
        show(true,(⟨(Q0q m e.C0).2,cY ((((e::l).length:Nat):Int).toNat-dC 1) (cZ (dC 1) (e::l)),kn,ck⟩:Q02))=_
        rw[tk]
      rw[e0]
      refine w_br (λh=>by cases h) (λ_=>w_nx ⟨⟨k1,k2.trans a2,λq hq=>a3 q (by simp [hq]),?_⟩,?_⟩)
      . rw[<-a4]
        show(⟨(dueF l (Q0q m e.C0).2).1,(dueF l (Q0q m e.C0).2).2,kn,ck⟩:Q02)=⟨(dueF (e::l) m).1,(dueF (e::l) m).2,kn,ck⟩
        rw[Ziz (by omega) h2]
      . show l.length<(e::l).length
        rw[dF];omega
    . exact stay (Qxl h2)
    . exact stay (Z1z (by have:=oN h1;rw[hc];exact this))
theorem zaM{P:Nat}{p:Q02}(h:good P p.A0):(Q74 p).w (λx=>x.2.1=Q0h p.A0/\x.2.2=Qny p/\(Qny p=true->x.1=(Qcx p).1)):=by
  have rp:Q2u p.A0:=(Tree.pp (yK h.s)).1
  have rs:=Zp8 h.v
  unfold Q74
  obtain⟨m,l,kn,ck⟩:=p
  have rs:Q3e m=Q0h m:=rs
  cases l with
  | nil =>
    refine w_br (λhb=>absurd (oY hb) (by show¬((0:Nat):Int)>0;decide)) (λ_=>w_an rp (w_lv λx e=> ?_))
    have e:x=Q0h m:=e.trans rs
    refine w_br (λhb=> ?_) (λhb=> ?_)
    . have hb:Q0h m=false:=by rw[e]at hb;simpa using hb
      refine⟨hb.symm,?_,λ_=> ?_⟩
      . show true=!Q0h m;rw[hb];rfl
      . show(0:Int)=_;unfold Qcx;rw[show Q0h (Q02.A0 ⟨m,[],kn,ck⟩)=false from hb];rfl
    . have hb:Q0h m=true:=by rw[e]at hb;simpa using hb
      refine⟨hb.symm,?_,λq=> ?_⟩
      . show false=!Q0h m;rw[hb];rfl
      . have q:(!Q0h m)=true:=q
        rw[hb]at q;cases q
  | cons e l=>
    have cn:(bS 4 4&&bT 0 4&&decide ((0:Int)<=0/\(0:Int)<(((e::l).length:Nat):Int)))=true:=by
      rw[dY (show(0:Int)<=0/\(0:Int)<(((e::l).length:Nat):Int) by rw[dF];omega)];rfl
    have pd:Qny ⟨m,e::l,kn,ck⟩=bif Q0h m then(bif e.C0.B6==1 then e.At==m.A1 else false) else !(bif e.C0.B6==1 then decide (e.At<=m.A1) else false):=rfl
    have t0:Q0h m=false->(Qcx ⟨m,e::l,kn,ck⟩).1=0:=λhb=>by unfold Qcx;rw[show Q0h (Q02.A0 ⟨m,e::l,kn,ck⟩)=false from hb];rfl
    have t1:Q0h m=true->(Qcx ⟨m,e::l,kn,ck⟩).1=e.C0.N:=λhb=>by unfold Qcx;rw[show Q0h (Q02.A0 ⟨m,e::l,kn,ck⟩)=true from hb];rfl
    rw[pd]
    refine w_br (λ_=>w_cn cn (w_br (λhk=>w_an rp (w_lv λx ex=> ?_)) (λhk=>w_an rp (w_lv λx ex=> ?_)))) (λhb=>absurd (oN hb) (by show¬ ¬(((e::l).length:Nat):Int)>0;rw[dF];omega))
    . have ex:x=Q0h m:=ex.trans rs
      have hk:(e.C0.B6==1)=true:=hk
      rw[hk]
      refine w_br (λhb=> ?_) (λhb=>w_br (λh1=> ?_) (λh1=> ?_))
      . have hb:Q0h m=false:=by rw[ex]at hb;simpa using hb
        rw[hb]
        exact⟨rfl,rfl,λ_=>(t0 hb).symm⟩
      . have hb:Q0h m=true:=by rw[ex]at hb;simpa using hb
        rw[hb]
        exact⟨rfl,rfl,λ_=>(t1 hb).symm⟩
      . have hb:Q0h m=true:=by rw[ex]at hb;simpa using hb
        have h1: ¬e.At<=m.A1:=oN h1
        have e0:(e.At==m.A1)=false:=beq_false_of_ne (by omega)
        rw[hb,e0]
        exact⟨rfl,rfl,λq=>by cases q⟩
    . have ex:x=Q0h m:=ex.trans rs
      have hk:(e.C0.B6==1)=false:=hk
      rw[hk]
      refine w_br (λhb=> ?_) (λhb=> ?_)
      . have hb:Q0h m=false:=by rw[ex]at hb;simpa using hb
        rw[hb]
        exact⟨rfl,rfl,λ_=>(t0 hb).symm⟩
      . have hb:Q0h m=true:=by rw[ex]at hb;simpa using hb
        rw[hb]
        exact⟨rfl,rfl,λq=>by cases q⟩
theorem Z4i{p:Q02}(hm:p.A0.Mem.length<=1024)(hl:p.B4.length<=1000000):(Q60 p).w (λx=>x=p):=by
 unfold Q60
 exact w_an (by show p.A0.Mem.length<=35184372088832;omega) (w_lv λx0 e0=>w_an (by show p.B4.length<=3518437208883;omega) (w_lv λx1 e1=>by rw[e0,e1];rfl))
theorem zas{P:Nat}{k:Int}{p:Q02}(h:Qnx P k p)(steps:Int):(Q53 p steps).w (λx=>x=folP p steps):=by
  obtain⟨lim0,lim1⟩:=Qoh steps
  have lim:(if 4000<(if 0>steps then 0 else steps) then 4000 else(if 0>steps then 0 else steps))=Q0n steps:=rfl
  unfold Q53
  refine Q0f (Z4i h.m.len (by have:=h.log;omega)) λx0 e0=> ?_
  subst e0
  refine w_an (Tree.pp (Zmj h.m.ok.target.2)).1 (w_lv λx1 e1=>w_br (λhb=>by rw[e1,h.m.may]at hb;cases hb) λhb=> ?_)
  rw[yn h.m.rmay]
  refine w_lp (inv:=λy:Int×Q02×List Q03=>0<=y.1/\y.1<=Q0n steps/\Qnx P (k+y.1) y.2.1/\(y.2.2.length:Int)<=y.1/\folF (Q0n steps-y.1).toNat y.2.1 y.2.2=folF (Q0n steps).toNat x0 []) (μ:=Q7f x0 steps) ⟨cS 0,lim0,⟨h.m,by have:=h.cnt;show x0.A0.A1<=k+0;omega,h.clock,h.log,h.u⟩,cS 0,by show folF (Q0n steps-0).toNat x0 []=_;rw[fE]⟩ (cK _) λy ⟨y0,y1,y2,y4,y5⟩=> ?_
  obtain⟨yi,yp,yo⟩:=y
  have y0:0<=yi:=y0
  have y1:yi<=Q0n steps:=y1
  have y2:Qnx P (k+yi) yp:=y2
  have y4:(yo.length:Int)<=yi:=y4
  have y5:folF (Q0n steps-yi).toNat yp yo=folF (Q0n steps).toNat x0 []:=y5
  rw[<-y5]
  refine w_br (λhb=> ?_) (λhb=> ?_)
  . have hb : yi<Q0n steps:=oY hb
    have ew:i64.wrap (yi+1)=yi+1:=by rw[wrap_i64];omega
    have en:(Q0n steps-yi).toNat=(Q0n steps-(yi+1)).toNat+1:=by omega
    obtain⟨g,gc,_⟩:=Z1i y2
    rw[en]at y5⊢
    refine w_br (λhk=> ?_) (λhk=>w_lv λ_ _=>Q0f (qaM y2.m y2.u) λx3 e3=> ?_)
    . have hk:=oY hk
      show(yp,yo)=_
      rw[Qtt hk]
    . have hk : ¬yp.C6<=yp.A0.A1:=oN hk
      obtain⟨x3,c3⟩:=x3
      have e3:x3=setF yp:=e3
      subst e3
      have sg:=Zpo g.m
      have stk:Q0t (setF yp).A0=true->(setF yp,yo)=folF ((Q0n steps-(yi+1)).toNat+1) yp yo:=λhs=>(Qqn hk hs).symm
      refine w_br (λhh=>stk (by rw[sg];have hh:(setF yp).A0.A9=true:=hh;rw[hh];rfl)) λhh=>w_an (zao g.m.ok.target.2) (w_lv λx4 e4=>w_br (λhi=>stk ?_) λhi=>w_br (λhm=>stk ?_) λhm=>Q0f (zaM g.m) λx5 ⟨c1,c2,c3⟩=> ?_)
      . have hh:(setF yp).A0.A9=false:=hh
        have e4:x4=Q4c (setF yp).A0:=e4
        rw[sg,hh,<-e4,hi];rfl
      . have hh:(setF yp).A0.A9=false:=hh
        have e4:x4=Q4c (setF yp).A0:=e4
        rw[sg,hh,<-e4,hi];exact hm
      have hs:Q0t (setF yp).A0=false:=by
        have hh:(setF yp).A0.A9=false:=hh
        have e4:x4=Q4c (setF yp).A0:=e4
        rw[sg,hh,<-e4,hi];exact hm
      refine w_br (λhp=> ?_) (λhp=> ?_)
      . have hp:Qny (setF yp)=false:=by rw[c2]at hp;simpa using hp
        show(setF yp,yo)=_
        exact(Qv2 hk hs hp).symm
      . have hp:Qny (setF yp)=true:=by rw[c2]at hp;simpa using hp
        have c3:=c3 hp
        obtain⟨t1,t2,t3⟩:=zn g
        obtain⟨k1,k2,k3⟩:=Za5 g hs
        have sp:Q6f (setF yp).A0 x5.1:=by rw[c3];exact(vj g.m.v g.m.len (clock:=(Qcx (setF yp)).1) t1).1
        have ms:Q3n (setF yp).A0 x5.1=((goF (setF yp)).A0,outF (setF yp)):=by rw[c3];exact g.m.step hs (Qcx (setF yp)).1
        have mu: ∀q,Q7f x0 steps (wrap .i64 (yi+1),q)<Q7f x0 steps (yi,yp,yo):=λq=>by
          show(4000-wrap .i64 (yi+1)).toNat<(4000-yi).toNat
          rw[ew];omega
        have nx: ∀(x:Q02) (o:List Q03),x=goF (setF yp)->o=yo++outF (setF yp)->(0<=wrap .i64 (yi+1)/\wrap .i64 (yi+1)<=Q0n steps/\Qnx P (k+wrap .i64 (yi+1)) x/\(o.length:Int)<=wrap .i64 (yi+1)/\folF (Q0n steps-wrap .i64 (yi+1)).toNat x o=folF ((Q0n steps-(yi+1)).toNat+1) yp yo):=λx o hx ho=>by
          rw[ew,hx,ho]
          refine⟨by omega,by omega,⟨k1.m,by have:=k1.cnt;omega,k1.clock,k1.log,k1.u⟩,by rw[lA];omega,?_⟩
          rw[Zbi hk hs hp]
        have cl: ∀o:List Q03,o=outF (setF yp)->decide (40*(yo.length+o.length)<=140737488355328)=true:=λo ho=>dY (by rw[ho];omega)
        refine w_br (λhr=> ?_) (λhr=> ?_)
        . have hr:Q0h (setF yp).A0=true:=by rw[c1]at hr;exact hr
          have tf:Qcx (setF yp)=(Qrc (setF yp),(setF yp).B4.drop 1,wrap .u32 (Qrc (setF yp)+1)):=by unfold Qcx;rw[hr];rfl
          have ne:1<=(setF yp).B4.length:=by
            cases hl:(setF yp).B4 with
            | nil=>
              have:Qny (setF yp)=!Q0h (setF yp).A0:=by unfold Qny;rw[hl]
              rw[this,hr]at hp;cases hp
            |cons e l=>rw[dF];omega
          have tk:cY ((((setF yp).B4.length:Nat):Int).toNat-dC 1) (cZ (dC 1) (setF yp).B4)=(setF yp).B4.drop 1:=eY (by rw[bF];exact dI (by simp))
          have cs:(bS 4 4&&bT 0 4&&decide ((0:Int)<=1/\(1:Int)<=(((setF yp).B4.length:Nat):Int)/\(((setF yp).B4.length:Nat):Int)<=(((setF yp).B4.length:Nat):Int)))=true:=by
            rw[dY (show(0:Int)<=1/\(1:Int)<=(((setF yp).B4.length:Nat):Int)/\(((setF yp).B4.length:Nat):Int)<=(((setF yp).B4.length:Nat):Int) by omega)];rfl
          refine w_cn cs (w_an sp (w_lv λx6 e6=> ?_))
          have e6:=e6.trans ms
          refine w_cn (cl _ (congrArg fL e6)) (w_nx ⟨nx {A0:=x6.1,B4:=cY ((((setF yp).B4.length:Nat):Int).toNat-dC 1) (cZ (dC 1) (setF yp).B4),C6:=(setF yp).C6,A3:=u32.wrap (x5.1+1)} (yo++x6.2) ?_ (congrArg (yo++ ·) (congrArg fL e6)),mu ({A0:=x6.1,B4:=cY ((((setF yp).B4.length:Nat):Int).toNat-dC 1) (cZ (dC 1) (setF yp).B4),C6:=(setF yp).C6,A3:=u32.wrap (x5.1+1)},yo++x6.2)⟩)
          have gk:goF (setF yp)={A0:=(goF (setF yp)).A0,B4:=(setF yp).B4.drop 1,C6:=(setF yp).C6,A3:=wrap .u32 (Qrc (setF yp)+1)}:=by
            show(⟨(goF (setF yp)).A0,(Qcx (setF yp)).2.1,(setF yp).C6,(Qcx (setF yp)).2.2⟩:Q02)=_
            rw[tf]
          have c4:x5.1=Qrc (setF yp):=by rw[c3,tf]
          rw[gk,e6,c4]
          show(⟨_,cY ((((setF yp).B4.length:Nat):Int).toNat-dC 1) (cZ (dC 1) (setF yp).B4),_,_⟩:Q02)=_
          rw[tk]
        . have hr:Q0h (setF yp).A0=false:=by rw[c1]at hr;exact hr
          have tf:Qcx (setF yp)=(0,(setF yp).B4,(setF yp).A3):=by unfold Qcx;rw[hr];rfl
          refine w_an sp (w_lv λx6 e6=> ?_)
          have e6:=e6.trans ms
          refine w_cn (cl _ (congrArg fL e6)) (w_nx ⟨nx {A0:=x6.1,B4:=(setF yp).B4,C6:=(setF yp).C6,A3:=(setF yp).A3} (yo++x6.2) ?_ (congrArg (yo++ ·) (congrArg fL e6)),mu ({A0:=x6.1,B4:=(setF yp).B4,C6:=(setF yp).C6,A3:=(setF yp).A3},yo++x6.2)⟩)
          have gk:goF (setF yp)={A0:=(goF (setF yp)).A0,B4:=(setF yp).B4,C6:=(setF yp).C6,A3:=(setF yp).A3}:=by
            show(⟨(goF (setF yp)).A0,(Qcx (setF yp)).2.1,(setF yp).C6,(Qcx (setF yp)).2.2⟩:Q02)=_
            rw[tf]
          rw[gk,e6]
  . have hb: ¬yi<Q0n steps:=oN hb
    show(yp,yo)=_
    rw[show(Q0n steps-yi).toNat=0 by omega]
    rfl
theorem zO{a b:List Q0c}(ha:a.length<=1000000)(hb:b.length<=1000000):(Q14 [a,b]).w (λx=>x=a++b):=by
  have w1:wrap .i64 (0+((a.length:Nat):Int))=a.length:=by rw[wrap_i64];omega
  have w2:wrap .i64 (((a.length:Nat):Int)+((b.length:Nat):Int))=a.length+b.length:=by rw[wrap_i64];omega
  unfold Q14
  refine w_lp (inv:=λv:Int×Int=>v=(0,0)\/v=((a.length:Int),1)\/v=((a.length:Int)+b.length,2)) (μ:=Q4j [a,b]) (.inl rfl) (cK _) λv hv=> ?_
  rcases hv with rfl|rfl|rfl
  . refine w_br (λ_=>w_cn rfl (w_fl (dN ?_) (w_nx ⟨.inr (.inl ?_),?_⟩))) (λh=>absurd (oN h) (by show¬ ¬(0:Int)<2;decide))
    . show¬wrap .i64 (0+((a.length:Nat):Int))<0
      rw[w1];omega
    . show(wrap .i64 (0+((a.length:Nat):Int)),wrap .i64 (0+1))=_
      rw[w1];rfl
    . show(2-wrap .i64 (0+1)).toNat<(2-(0:Int)).toNat
      decide
  . refine w_br (λ_=>w_cn rfl (w_fl (dN ?_) (w_nx ⟨.inr (.inr ?_),?_⟩))) (λh=>absurd (oN h) (by show¬ ¬(1:Int)<2;decide))
    . show¬wrap .i64 (((a.length:Nat):Int)+((b.length:Nat):Int))<0
      rw[w2];omega
    . show(wrap .i64 (((a.length:Nat):Int)+((b.length:Nat):Int)),wrap .i64 (1+1))=_
      rw[w2];rfl
    . show(2-wrap .i64 (1+1)).toNat<(2-(1:Int)).toNat
      decide
  . refine w_br (λh=>absurd (oY h) (by show¬(2:Int)<2;decide)) (λ_=>w_an ⟨by show 0<=(a.length:Int)+b.length;omega,by show(a.length:Int)+b.length<=1000000000000;omega⟩ (w_lv λx0 e0=> ?_))
    have e0:x0=[]:=e0
    refine w_lp (inv:=λv:Int×List Q0c=>v=(0,[])\/v=(1,a)\/v=(2,a++b)) (μ:=Q4m [a,b]) (.inl (by rw[e0])) (cK _) λv hv=> ?_
    rcases hv with rfl|rfl|rfl
    . refine w_br (λ_=>w_cn rfl (w_cn (dY ?_) (w_nx ⟨.inr (.inl rfl),?_⟩))) (λh=>absurd (oN h) (by show¬ ¬(0:Int)<2;decide))
      . show 40*(0+a.length)<=_;omega
      . show(2-wrap .i64 (0+1)).toNat<(2-(0:Int)).toNat
        decide
    . refine w_br (λ_=>w_cn rfl (w_cn (dY ?_) (w_nx ⟨.inr (.inr rfl),?_⟩))) (λh=>absurd (oN h) (by show¬ ¬(1:Int)<2;decide))
      . show 40*(a.length+b.length)<=_;omega
      . show(2-wrap .i64 (1+1)).toNat<(2-(1:Int)).toNat
        decide
    . exact w_br (λh=>absurd (oY h) (by show¬(2:Int)<2;decide)) (λ_=>rfl)
def Qlf(p:Q02)(known:Int)(e:Q0c):Bool:=bif decide (e.At<p.C6) then false else bif decide (e.At>known) then false else bif e.At==known then(bif e.C0.B6==1 then false else Q1w e.C0) else Q1w e.C0
def Qzw(p:Q02)(l:List Q0c)(known:Int):Q02×Bool:=
 bif decide (known<p.C6) then(p,false) else bif decide ((l.length:Int)>400) then(p,false) else bif decide ((p.B4.length:Int)+l.length>4096) then(p,false) else bif l.all (Qlf p known) then(bif Q7y (p.B4++l) then({A0:=p.A0,B4:=p.B4++l,C6:=known,A3:=p.A3},true) else(p,false)) else(p,false)
theorem xaM{p:Q02}(hm:p.A0.Mem.length<=1024)(hl:p.B4.length<=1000000){l:List Q0c}(hu: ∀e∈l,U e.C0.N)(known:Int):(Q8f p l known).w (λx=>x=Qzw p l known):=by
 unfold Q8f
 refine Q0f (Z4i hm hl) λx0 e0=> ?_
 subst e0
 refine w_br (λh1=> ?_) (λh1=>w_br (λh2=> ?_) (λh2=>w_br (λh3=> ?_) (λh3=> ?_)))
 . show(x0,false)=_;unfold Qzw;rw[h1];rfl
 . show(x0,false)=_;unfold Qzw;rw[h1,h2];rfl
 . have l4:=oN h2
   have ws:i64.wrap (((x0.B4.length:Nat):Int)+((l.length:Nat):Int))=x0.B4.length+l.length:=by rw[wrap_i64];omega
   rw[ws]at h3
   show(x0,false)=_;unfold Qzw;rw[h1,h2,h3];rfl
 have l4:=oN h2
 have ws:i64.wrap (((x0.B4.length:Nat):Int)+((l.length:Nat):Int))=x0.B4.length+l.length:=by rw[wrap_i64];omega
 rw[ws]at h3
 have no:l.all (Qlf x0 known)=false->(x0,false)=Qzw x0 l known:=λh=>by unfold Qzw;rw[h1,h2,h3,h];rfl
 refine w_lp (inv:=λv:Int=>0<=v/\v<=l.length/\(l.drop v.toNat).all (Qlf x0 known)=l.all (Qlf x0 known)) (μ:=Qav x0 l known) ⟨cS 0,by omega,rfl⟩ (cK _) λv ⟨v0,v1,v2⟩=> ?_
 refine w_br (λhb=> ?_) (λhb=> ?_)
 . have hb:v<l.length:=oY hb
   have hlt:v.toNat<l.length:=by omega
   have ed:l.getD v.toNat (RK.dflt RK.apiEntry)=l[v.toNat]:=by rw[cL,cG hlt];rfl
   have hm:l.getD v.toNat (RK.dflt RK.apiEntry)∈l:=by rw[ed];exact cM hlt
   have ue:=hu _ hm
   have va:=Zo7 ue
   rw[aB hlt,List.all_cons,<-ed]at v2
   have ew:i64.wrap (v+1)=v+1:=by rw[wrap_i64];omega
   generalize l.getD v.toNat (RK.dflt RK.apiEntry)=e at*
   have bad:Qlf x0 known e=false->(x0,false)=Qzw x0 l known:=λh=>no (by rw[<-v2,h];rfl)
   have nx:Qlf x0 known e=true->(0<=wrap .i64 (v+1)/\wrap .i64 (v+1)<=l.length/\(l.drop (wrap .i64 (v+1)).toNat).all (Qlf x0 known)=l.all (Qlf x0 known))/\Qav x0 l known (wrap .i64 (v+1))<Qav x0 l known v:=λh=>by
     show _/\(l.length-wrap .i64 (v+1)).toNat<(l.length-v).toNat
     rw[ew]
     refine⟨⟨by omega,by omega,?_⟩,by omega⟩
     rw[<-v2,h,show(v+1).toNat=v.toNat+1 by omega];rfl
   refine w_cn (by simp [bT];omega) (w_br (λg1=>bad (by unfold Qlf;rw[g1];rfl)) λg1=>w_br (λg2=>bad (by unfold Qlf;rw[g1,g2];rfl)) λg2=>w_br (λg3=>w_br (λg4=>bad (by unfold Qlf;rw[g1,g2,g3,g4];rfl)) λg4=>w_lv λx1 e1=> ?_) λg3=>w_lv λx1 e1=> ?_)
   . have ok:Qlf x0 known e=Q1w e.C0:=by unfold Qlf;rw[g1,g2,g3,g4];rfl
     have e1:=e1.trans va
     exact w_br (λh=>bad (by rw[ok,<-e1];simpa using h)) (λh=>w_nx (nx (by rw[ok,<-e1];simpa using h)))
   . have ok:Qlf x0 known e=Q1w e.C0:=by unfold Qlf;rw[g1,g2,g3];rfl
     have e1:=e1.trans va
     exact w_br (λh=>bad (by rw[ok,<-e1];simpa using h)) (λh=>w_nx (nx (by rw[ok,<-e1];simpa using h)))
 . have hb: ¬v<l.length:=oN hb
   rw[aA (by omega)]at v2
   have v2:l.all (Qlf x0 known)=true:=v2.symm
   refine Q0f (zO hl (by omega)) λx3 e3=> ?_
   have hlen:x3.length<=1000000000000:=by rw[e3,lA];omega
   refine w_an hlen (w_lv λx4 e4=> ?_)
   rw[e3]at e4
   refine w_br (λh=> ?_) (λh=> ?_)
   . have h:Q7y (x0.B4++l)=false:=by rw[<-e4];simpa using h
     show(x0,false)=_
     unfold Qzw;rw[h1,h2,h3,v2,h];rfl
   . have h:Q7y (x0.B4++l)=true:=by rw[<-e4];simpa using h
     show(({A0:=x0.A0,B4:=x3,C6:=known,A3:=x0.A3}:Q02),true)=_
     unfold Qzw;rw[h1,h2,h3,v2,h,e3];rfl
theorem Quz{l:List Q0c}{i:Nat}(h:i<l.length):l.getD i (RK.dflt RK.apiEntry)=l[i]:=by
 rw[cL,cG h];rfl
theorem vn{a b:Q00}{L:List Q0c}{o:List Q03}(h:Qh a L o b): ∀e∈L,U e.C0.N:=by
 induction h with
 |nil=>intro e he;cases he
 |ev h1 h2 h3 _ ih=>intro e he;rcases List.mem_cons.1 he with he|he;exact he▸h3;exact ih e he
 |rd h1 h2 h3 _ ih=>intro e he;rcases List.mem_cons.1 he with he|he;exact he▸h3;exact ih e he
 |st h1 h2 h3 _ ih=>exact ih
theorem Zom{P:Nat}{a b:Q00}{L:List Q0c}{o:List Q03}(h:Qh a L o b):good P a->(o.length:Int)<=b.A1-a.A1:=by
 induction h with
 |nil=>intro _;show((0:Nat):Int)<=_;omega
 |ev h1 h2 h3 _ ih=>intro g;obtain⟨p,q⟩:=Qhl g h3;have:=ih p;omega
 |rd h1 h2 h3 _ ih=>intro g;obtain⟨p,q,r⟩:=Qay g h1 h3;have:=ih p;rw[lA];omega
 |st h1 h2 h3 _ ih=>intro g;obtain⟨p,q,r⟩:=Qay g h1 h3;have:=ih p;rw[lA];omega
def newQ(m:Q00):Q02:={A0:=m,B4:=[],C6:=m.A1,A3:=0}
theorem xas{m:Q00}(h:m.Mem.length<=1024):(Q9x m).w (λx=>x=newQ m):=by
 unfold Q9x
 exact Q0f (Z4i (p:=newQ m) h (aT _)) λx e=>e
structure Rec22(K:Int)(m:Q00)(x:Q01×List Q03):Prop where
 mg:good 8 m
 m0:m.A1<=87
 lp:logP m.A1 K K x.1
 cnt:cntR x.1<=331
 len:x.1.B4.length<=400
 tr:Qh m x.1.B4 x.2 x.1.A0
 steps:x.1.A0.A1<=m.A1+330
 outs:x.2.length<=1000000
theorem rec22{m:Q00}(g:good 8 m)(b:m.A1<=87)(acts:List Int)(f2:acts.length<=30){x:Q01×List Q03}(hx:x=acts.foldl Qo0 ({A0:=m,A3:=0,B4:=[],A6:=[]},[])):Rec22 121000 m x:=by
 have s0:=vM g b
 have lp:=ym acts (s:=({A0:=m,A3:=0,B4:=[],A6:=[]},[])) s0 (cS _) (by omega)
 have ct:=qO acts (s:=({A0:=m,A3:=0,B4:=[],A6:=[]},[])) s0 (cS _) (by omega)
 obtain⟨o,on1,L,on2,on3⟩:=qar acts (s:=({A0:=m,A3:=0,B4:=[],A6:=[]},[])) s0 (cS _) (by omega)
 have sp:=Zor acts (s:=({A0:=m,A3:=0,B4:=[],A6:=[]},[])) s0 (cS _) (by omega)
 rw[<-hx]at lp ct on1 on2 on3 sp
 have on1:x.2=o:=on1
 have on2:x.1.B4=L:=on2
 have on3:Qh m L o x.1.A0:=on3
 rw[<-on1,<-on2]at on3
 have sp:x.1.A0.A1<=m.A1+11*acts.length:=sp
 have hcnt:cntR x.1<=331:=by
   have c0:cntR ({A0:=m,A3:=0,B4:=[],A6:=[]}:Q01)<=1:=by
     have:=yY {A0:=m,A3:=0,B4:=[],A6:=[]}
     show 0+arm {A0:=m,A3:=0,B4:=[],A6:=[]}+0<=1
     omega
   have ct:cntR x.1<=cntR ({A0:=m,A3:=0,B4:=[],A6:=[]}:Q01)+11*acts.length:=ct
   omega
 have hlen:x.1.B4.length<=400:=by unfold cntR at hcnt;omega
 have tout:=Zom on3 g
 exact⟨g,b,⟨lp.p.more (by omega),lp.l,by have:=lp.b;omega⟩,hcnt,hlen,on3,by omega,by omega⟩
def fedQ(m:Q00)(r:Q01):Q02:={A0:=m,B4:=r.B4,C6:=r.A0.A1,A3:=0}
theorem Rec22.good{K:Int}{m:Q00}{x:Q01×List Q03}(h:Rec22 K m x):Qnx 8 87 (fedQ m x.1):=
 ⟨h.mg,h.m0,U_0,by have:=h.len;show x.1.B4.length<=_;omega,vn h.tr⟩
set_option synthInstance.maxHeartbeats 2000000
set_option synthInstance.maxSize 100000
noncomputable section
instance Z0g (s:List Int):Ck (Q09 s):=let d:Decidable (Q09 s):=(by delta Q09;infer_instance);⟨@decide _ d,@oY _ d⟩
instance Zpx (m:List Int) (addr:Int) (size:Int):Ck (Qaf m addr size):=ckT (t:=Q3f m addr size) (by delta Q3f;infer_instance)
instance vY (n:Int):Ck (Qhr n):=ckT (t:=Qcl n) (by delta Qcl;infer_instance)
instance yO (w:Int) (low:Int) (n:Int):Ck (Q5i w low n):=ckT (t:=Q9o w low n) (by delta Q9o;infer_instance)
instance vO (w:Int):Ck (Qku w):=ckT (t:=Q7w w) (by delta Q7w;infer_instance)
instance yC (m:List Int) (addr:Int) (size:Int):Ck (Q3a m addr size):=ckT (t:=Q6j m addr size) (by delta Q6j;infer_instance)
instance vC (c:Q05) (m:List Int) (va:Int) (size:Int) (access:Int):Ck (Q9r c m va size access):=ckT (t:=Q6s c m va size access) (by delta Q6s;infer_instance)
instance qZ (c:Q05) (m:List Int):Ck (Qmi c m):=ckT (t:=Qd0 c m) (by delta Qd0;infer_instance)
instance qat (c:Q05) (m:List Int):Ck (Qki c m):=ckT (t:=Q7q c m) (by delta Q7q;infer_instance)
instance Zlg (x:Int):Ck (Qcf x):=ckT (t:=Q1v x) (by delta Q1v;infer_instance)
instance qD (b:Q07) (pages:Int):Ck (Qe2 b pages):=ckT (t:=Q4a b pages) (by delta Q4a;infer_instance)
instance Ze6 (m:Q00):Ck (Q2v m):=ckT (t:=Q1u m) (by delta Q1u;infer_instance)
instance xD (m:Q00):Ck (Q4q m):=ckT (t:=Q59 m) (by delta Q59;infer_instance)
instance qo (m:Q00):Ck (Q8o m):=ckT (t:=Q39 m) (by delta Q39;infer_instance)
instance xo (m:Q00):Ck (Qc8 m):=ckT (t:=Q47 m) (by delta Q47;infer_instance)
instance Zq0 (m:Q00):Ck (Qam m):=ckT (t:=Q2z m) (by delta Q2z;infer_instance)
instance zo (m:Q00) (clock:Int):Ck (Q6f m clock):=ckT (t:=Q38 m clock) (by delta Q38;infer_instance)
instance zat (pages:Int):Ck (Qga pages):=ckT (t:=Qf3 pages) (by delta Qf3;infer_instance)
instance xat (pages:Int) (blocks:Int) (image:List Int):Ck (Qa4 pages blocks image):=ckT (t:=Q8s pages blocks image) (by delta Q8s;infer_instance)
instance Zgl (m:Q00):Ck (Q2u m):=ckT (t:=Q2r m) (by delta Q2r;infer_instance)
instance Qs4 (s:List Q0c):Ck (Q0y s):=let d:Decidable (Q0y s):=(by delta Q0y;infer_instance);⟨@decide _ d,@oY _ d⟩
instance Qs3 (s:List Q0a):Ck (Q12 s):=let d:Decidable (Q12 s):=(by delta Q12;infer_instance);⟨@decide _ d,@oY _ d⟩
instance Zq (r:Q01):Ck (Qen r):=ckT (t:=Q9q r) (by delta Q9q;infer_instance)
instance qP (m:Q00):Ck (Ql0 m):=ckT (t:=Qg8 m) (by delta Qg8;infer_instance)
instance Zpv (p:Q02):Ck (Q7l p):=ckT (t:=Q60 p) (by delta Q60;infer_instance)
instance xP (m:Q00):Ck (Qfi m):=ckT (t:=Q9x m) (by delta Q9x;infer_instance)
instance vo (p:Q02):Ck (Qh4 p):=ckT (t:=Q74 p) (by delta Q74;infer_instance)
instance Zpw (p:Q02):Ck (Qad p):=ckT (t:=Q9l p) (by delta Q9l;infer_instance)
instance qp (script:List Q0c):Ck (Q52 script):=let d:Decidable (Q52 script):=(by delta Q52;infer_instance);⟨@decide _ d,@oY _ d⟩
instance Qsw (s:List Q0c) (n:Int):Ck (Q1g s n):=let d:Decidable (Q1g s n):=(by delta Q1g;infer_instance);⟨@decide _ d,@oY _ d⟩
instance Qrr (slices:(List (List Q0c))):Ck (Q2m slices):=ckT (t:=Q14 slices) (by delta Q14;infer_instance)
instance zD (p:Q02) (l:List Q0c) (known:Int):Ck (Qe4 p l known):=ckT (t:=Q8f p l known) (by delta Q8f;infer_instance)
instance xp (p:Q02) (fr1:Int):Ck (Qgr p fr1):=ckT (t:=Q7a p fr1) (by delta Q7a;infer_instance)
instance Znm (p:Q02) (steps:Int):Ck (Q98 p steps):=ckT (t:=Q53 p steps) (by delta Q53;infer_instance)
theorem Zki:Q2f:=ck (ckT (t:=Qdz) (by delta Qdz;infer_instance)) (by kernel_rfl)
theorem Zdx:Q5u=true:=by kernel_rfl
theorem aw22{W:Bool->Prop}(h:W true):(Tree.an Q2f (.lv Q5u λx=> .lf x)).w W:=w_an Zki (w_lv λx e=>by show W x;rw[e,Zdx];exact h)
end
def atI(s:List Q0c)(i:Int):Q0c:=s.getD i.toNat (RK.dflt RK.apiEntry)
def Qw0(s:List Q0c)(i:Nat):Bool:=!decide ((s.getD i (RK.dflt RK.apiEntry)).At<(s.getD (i-1) (RK.dflt RK.apiEntry)).At)&&!(((s.getD i (RK.dflt RK.apiEntry)).At==(s.getD (i-1) (RK.dflt RK.apiEntry)).At)&&((s.getD (i-1) (RK.dflt RK.apiEntry)).C0.B6==1))
def ordB(s:List Q0c):Bool:=decide (∀i,i<s.length->1<=i->Qw0 s i=true)
theorem zP{s:List Q0c}(h:ordB s=true): ∀i:Nat,i<s.length->1<=i->Qw0 s i=true:=oY h
theorem Z5p{s:List Q0c}(hl:s.length<=1000000):(Q95 s).w (λb=>b=ordB s):=by
 unfold Q95
 refine w_lp (inv:=λz:Int=>1<=z/\(z<=s.length\/z=1)/\ ∀j:Nat,(j:Int)<z->1<=j->Qw0 s j=true) (μ:=Q4t s) ⟨cS 1, .inr rfl,λj h1 h2=>by omega⟩ (cK _) λi ⟨a,b,c⟩=> ?_
 have ew:i64.wrap (i+1)=i+1:=by rw[wrap_i64];omega
 have em:i64.wrap (i-1)=i-1:=by rw[wrap_i64];omega
 refine w_br (λhb=> ?_) (λhb=>w_lf ?_)
 rotate_left
 . have hb:=oN hb
   exact(dY λj h1 h2=>c j (by omega) h2).symm
 have hb:i<s.length:=oY hb
 have e1:(i-1).toNat=i.toNat-1:=by omega
 have no:Qw0 s i.toNat=false->false=ordB s:=λh=>(dN λk=>by rw[k i.toNat (by omega) (by omega)]at h;cases h).symm
 have nx:Qw0 s i.toNat=true->(1<=i64.wrap (i+1)/\(i64.wrap (i+1)<=s.length\/i64.wrap (i+1)=1)/\ ∀j:Nat,(j:Int)<i64.wrap (i+1)->1<=j->Qw0 s j=true)/\Q4t s (i64.wrap (i+1))<Q4t s i:=λh=>by
   show _/\(s.length-i64.wrap (i+1)).toNat<(s.length-i).toNat
   rw[ew]
   refine⟨⟨by omega,by omega,λj h1 h2=> ?_⟩,by omega⟩
   by_cases e:(j:Int)<i
   . exact c j e h2
   . rw[show j=i.toNat by omega];exact h
 have c1:(bS 4 4&&bT 0 4&&decide (0<=i64.wrap (i-1)/\i64.wrap (i-1)<(s.length:Int)))=true:=by rw[em];simp [bT];omega
 have c2:(bS 4 4&&bT 0 4&&decide (0<=i/\i<(s.length:Int)))=true:=by simp [bT];omega
 have eP:Qw0 s i.toNat=(!decide ((s.getD i.toNat (RK.dflt RK.apiEntry)).At<(s.getD (i64.wrap (i-1)).toNat (RK.dflt RK.apiEntry)).At)&&!(((s.getD i.toNat (RK.dflt RK.apiEntry)).At==(s.getD (i64.wrap (i-1)).toNat (RK.dflt RK.apiEntry)).At)&&((s.getD (i64.wrap (i-1)).toNat (RK.dflt RK.apiEntry)).C0.B6==1))):=by rw[em,e1];rfl
 refine w_cn c2 (w_cn c1 (w_br (λh=>w_lf (no (by rw[eP,h];rfl))) λh=>w_cn c2 (w_cn c1 (w_br (λh1=>w_cn c1 (w_br (λh2=>w_lf (no (by rw[eP,h,h1,h2];rfl))) λh2=>w_nx (nx (by rw[eP,h,h1,h2];rfl)))) λh1=>w_nx (nx (by rw[eP,h,h1];rfl))))))
theorem Z6w{s:List Q0c}(hl:s.length<=1000000):(Q92 s).w (λb=>b=ordB s):=by
 unfold Q92
 refine w_lp (inv:=λz:Int=>1<=z/\(z<=s.length\/z=1)/\ ∀j:Nat,(j:Int)<z->1<=j->Qw0 s j=true) (μ:=Q4u s) ⟨cS 1, .inr rfl,λj h1 h2=>by omega⟩ (cK _) λi ⟨a,b,c⟩=> ?_
 have ew:i64.wrap (i+1)=i+1:=by rw[wrap_i64];omega
 have em:i64.wrap (i-1)=i-1:=by rw[wrap_i64];omega
 refine w_br (λhb=> ?_) (λhb=>w_lf ?_)
 rotate_left
 . have hb:=oN hb
   exact(dY λj h1 h2=>c j (by omega) h2).symm
 have hb:i<s.length:=oY hb
 have e1:(i-1).toNat=i.toNat-1:=by omega
 have no:Qw0 s i.toNat=false->false=ordB s:=λh=>(dN λk=>by rw[k i.toNat (by omega) (by omega)]at h;cases h).symm
 have nx:Qw0 s i.toNat=true->(1<=i64.wrap (i+1)/\(i64.wrap (i+1)<=s.length\/i64.wrap (i+1)=1)/\ ∀j:Nat,(j:Int)<i64.wrap (i+1)->1<=j->Qw0 s j=true)/\Q4u s (i64.wrap (i+1))<Q4u s i:=λh=>by
   show _/\(s.length-i64.wrap (i+1)).toNat<(s.length-i).toNat
   rw[ew]
   refine⟨⟨by omega,by omega,λj h1 h2=> ?_⟩,by omega⟩
   by_cases e:(j:Int)<i
   . exact c j e h2
   . rw[show j=i.toNat by omega];exact h
 have c1:(bS 4 4&&bT 0 4&&decide (0<=i64.wrap (i-1)/\i64.wrap (i-1)<(s.length:Int)))=true:=by rw[em];simp [bT];omega
 have c2:(bS 4 4&&bT 0 4&&decide (0<=i/\i<(s.length:Int)))=true:=by simp [bT];omega
 have eP:Qw0 s i.toNat=(!decide ((s.getD i.toNat (RK.dflt RK.apiEntry)).At<(s.getD (i64.wrap (i-1)).toNat (RK.dflt RK.apiEntry)).At)&&!(((s.getD i.toNat (RK.dflt RK.apiEntry)).At==(s.getD (i64.wrap (i-1)).toNat (RK.dflt RK.apiEntry)).At)&&((s.getD (i64.wrap (i-1)).toNat (RK.dflt RK.apiEntry)).C0.B6==1))):=by rw[em,e1];rfl
 refine w_cn c1 (w_cn c2 (w_br (λh=>w_lf (no (by rw[eP,h];rfl))) λh=>w_br (λh1=>w_br (λh2=>w_lf (no (by rw[eP,h,h1,h2];rfl))) λh2=>w_nx (nx (by rw[eP,h,h1,h2];rfl))) λh1=>w_nx (nx (by rw[eP,h,h1];rfl))))
def Zkd(a b:Q0c):Prop:=a.At<=b.At/\(a.C0.B6=1->a.At<b.At)
theorem Z4{s:List Q0c}(h:ordB s=true): ∀(d i:Nat),i+d+1<s.length->Zkd (s.getD i (RK.dflt RK.apiEntry)) (s.getD (i+d+1) (RK.dflt RK.apiEntry))
 | 0,i,hi=>by
   have h1:=zP h (i+1) hi (by omega)
   unfold Qw0 at h1
   rw[aE,show i+1-1=i by omega]at h1
   have h2:decide ((s.getD (i+1) (RK.dflt RK.apiEntry)).At<(s.getD i (RK.dflt RK.apiEntry)).At)=false:=by simpa using h1.1
   have h2:=oN h2
   refine⟨by show(s.getD i _).At<=(s.getD (i+1) _).At;omega,λk=> ?_⟩
   show(s.getD i _).At<(s.getD (i+1) _).At
   have h3:=h1.2
   rw[k]at h3
   have h3:((s.getD (i+1) (RK.dflt RK.apiEntry)).At==(s.getD i (RK.dflt RK.apiEntry)).At)=false:=by simpa using h3
   have h4:(s.getD (i+1) (RK.dflt RK.apiEntry)).At≠(s.getD i (RK.dflt RK.apiEntry)).At:=by simpa using h3
   omega
 | d+1,i,hi=>by
   obtain⟨a1,a2⟩:=Z4 h 0 i (by omega)
   obtain⟨b1,b2⟩:=Z4 h d (i+1) (by omega)
   rw[show i+1+d+1=i+(d+1)+1 by omega]at b1 b2
   exact⟨fJ a1 b1,λk=>dR (a2 k) b1⟩
theorem qaN{s:List Q0c}(h:ordB s=true):s.Pairwise Zkd:=by
 refine List.pairwise_iff_getElem.2 λi j hi hj hij=> ?_
 have:=Z4 h (j-i-1) i (by omega)
 rw[show i+(j-i-1)+1=j by omega,Quz hi,Quz hj]at this
 exact this
theorem Zgm{s:List Q0c}(hl:s.length<=1000000):Q7y s=ordB s:=Tree.post _ (Z6w hl)
theorem Zbb{s:List Q0c}(hl:s.length<=1000000):Qk5 s=ordB s:=Tree.post _ (Z5p hl)
theorem Zp2{P:Nat}{a b:Q00}{L:List Q0c}{o:List Q03}(h:Qh a L o b)(g:good P a)(hc:b.A1<=a.A1):o=[]/\((L=[]/\a=b)\/ ∃e M,L={At:=a.A1,C0:=e}::M/\U e.N/\(Q0q a e).1=true/\Qh (Q0q a e).2 M [] b):=by
 have main: ∀{a b:Q00} {L:List Q0c} {o:List Q03},Qh a L o b->good P a->b.A1<=a.A1->o=[]:=by
   intro a b L o h
   induction h with
   |nil=>exact λ_ _=>rfl
   | ev h1 h2 h3 _ ih=>
     intro g hc
     obtain⟨g1,c1⟩:=Qhl g h3
     exact ih g1 (by omega)
   | rd h1 h2 h3 h4 ih=>
     intro g hc
     obtain⟨g1,c1,_⟩:=Qay g h1 h3
     have:=(h4.good g1).2.1;omega
   | st h1 h2 h3 h4 ih=>
     intro g hc
     obtain⟨g1,c1,_⟩:=Qay g h1 h3
     have:=(h4.good g1).2.1;omega
 have z:=main h g hc
 refine⟨z,?_⟩
 cases h with
 |nil=>exact .inl ⟨rfl,rfl⟩
 |ev h1 h2 h3 h4=>rw[z]at h4;exact .inr ⟨_,_,rfl,h3,h1,h4⟩
 | rd h1 h2 h3 h4=>
   obtain⟨g1,c1,_⟩:=Qay g h1 h3
   have:=(h4.good g1).2.1;omega
 | st h1 h2 h3 h4=>
   obtain⟨g1,c1,_⟩:=Qay g h1 h3
   have:=(h4.good g1).2.1;omega
structure Went(b:Q00)(O:List Q03)(p:Q02)(n:Nat)(o:List Q03)(q:Q02×List Q03):Prop where
 ex: ∃O1 O2,O=O1++O2/\q.2=o++O1/\Qh q.1.A0 q.1.B4 O2 b
 kn:q.1.C6=p.C6
 cnt:q.1.A0.A1=b.A1\/q.1.A0.A1=p.A0.A1+n
theorem Went.done{P:Nat}{k:Int}{b:Q00}{O:List Q03}{p:Q02}{n:Nat}{o:List Q03}{q:Q02×List Q03}(h:Went b O p n o q)(g:Qnx P k q.1)(hn:b.A1<=p.A0.A1+n):q.1.A0.A1=b.A1/\q.2=o++O/\Qh q.1.A0 q.1.B4 [] b:=by
 obtain⟨⟨O1,O2,e1,e2,e3⟩,_,ct⟩:=h
 have le:=(e3.good g.m).2.1
 have c:q.1.A0.A1=b.A1:=by rcases ct with c|c<;>omega
 obtain⟨z,_⟩:=Zp2 e3 g.m (by omega)
 subst z
 rw[cJ]at e1
 subst e1
 exact⟨c,e2,e3⟩
theorem w_ev3{β:Type}{c1 c2 c3 cc:Bool}{N T:Tree β}{W:β->Prop}(hcc:c1=true->cc=true)(hN:c1=true->c2=true->c3=true->N.w W)(hT:(c1&&(c2&&c3))=false->T.w W):(Tree.br c1 (.cn cc (.br c2 (.cn cc (.br c3 (.cn cc N) T)) T)) T).w W:=by
 refine w_br (λh1=>w_cn (hcc h1) (w_br (λh2=>w_cn (hcc h1) (w_br (λh3=>w_cn (hcc h1) (hN h1 h2 h3)) λh3=>hT (by rw[h1,h2,h3];rfl))) λh2=>hT (by rw[h1,h2];rfl))) λh1=>hT (by rw[h1];rfl)
theorem bn1: ∀a b:Bool,(!a==b)=true->(a==b)=false:=by decide
theorem bn2: ∀a b:Bool,(!a==b)=false->(a==b)=true:=by decide
def repl(s:List Q0c)(u i:Int)(x:Q00)(c:Int):Q02:={A0:=x,B4:=s.drop i.toNat,C6:=u,A3:=c}
structure RunS(P:Nat)(s:List Q0c)(u m0:Int)(Q:Q00)(i:Int)(x:Q00)(out:List Q03):Prop where
 i0:0<=i
 i1:i<=s.length
 g:good P x
 c:x.A1<=u
 o:(out.length:Int)<=x.A1-m0
 pw:(s.drop i.toNat).Pairwise Zkd
 at_: ∀e∈s.drop i.toNat,x.A1<=e.At
 ex: ∃(n:Nat) (c:Int) (o:List Q03),(u-x.A1).toNat<=n/\(folF n (repl s u i x c) o).1.A0=Q
structure ranS(u:Int)(Q:Q00)(r:Q00×List Q03×Int×Int):Prop where
 yes:r.2.2.2=0->r.1.A1=u->Q=r.1
 no:(r.2.2.2=0->r.1.A1≠u)->Q.A1<u
 len:r.1.Mem.length<=1024
theorem Qpa{s:List Q0c}{i:Int}(h0:0<=i)(h:i<s.length):s.drop i.toNat=atI s i::s.drop (i+1).toNat:=by
 have hlt:i.toNat<s.length:=by omega
 rw[aB hlt,show(i+1).toNat=i.toNat+1 by omega]
 unfold atI
 rw[Quz hlt]
theorem qau{s:List Q0c}{i:Int}{y:Q00}(h0:0<=i)(hat: ∀e∈s.drop i.toNat,y.A1<=e.At)(hx:(decide (i<(s.length:Int))&&(((atI s i).At==y.A1)&&((atI s i).C0.B6 !=1)))=false):dueF (s.drop i.toNat) y=(y,s.drop i.toNat):=by
 by_cases h:i<s.length
 . rw[Qpa h0 h]at hat⊢
   have a:=hat _ (fM ..)
   rw[dY h]at hx
   by_cases h1:(atI s i).At<=y.A1
   . have e:((atI s i).At==y.A1)=true:=by rw[show(atI s i).At=y.A1 by omega];exact beq_self_eq_true _
     rw[e]at hx
     exact Qxl hx
   . exact Z1z h1
 . rw[aA (by omega)];rfl
theorem Qxc{P:Nat}{y:Q00}(g:good P y)(h:y.A9=true\/Q7j y=true):Q0t y=true:=by
 cases hs:Q0t y
 . obtain⟨a,b,_⟩:=(Quf g).1 hs
   rcases h with h|h
   . rw[a]at h;cases h
   . rw[b]at h;cases h
 . rfl
theorem yP{y:Q00}(hs:Q0t y=false):Q0h y=Q1y y:=by
 have rd:Q0h y=bif Q0t y then false else Q1y y:=rfl
 rw[rd,hs];rfl
theorem vP{s:List Q0c}{u i0 i:Int}{x y:Q00}{c:Int}(h:dueF (s.drop i0.toNat) x=(y,s.drop i.toNat)):setF (repl s u i0 x c)=repl s u i y c:=by
 unfold setF
 show(⟨(dueF (s.drop i0.toNat) x).1,(dueF (s.drop i0.toNat) x).2,u,c⟩:Q02)=_
 rw[h];rfl
theorem Zl9{s:List Q0c}{u i:Int}{y:Q00}{c:Int}(h0:0<=i)(h1:i<s.length)(ha:(atI s i).At=y.A1)(hk:(atI s i).C0.B6=1):Qny (repl s u i y c)=Q0h y/\(Q0h y=true->Qcx (repl s u i y c)=((atI s i).C0.N,s.drop (i+1).toNat,wrap .u32 ((atI s i).C0.N+1))):=by
 have hd:(repl s u i y c).B4=atI s i::s.drop (i+1).toNat:=Qpa h0 h1
 have hm:(repl s u i y c).A0=y:=rfl
 refine⟨?_,λhr=> ?_⟩
 . unfold Qny
   rw[hd,hm]
   show(bif Q0h y then(bif(atI s i).C0.B6==1 then(atI s i).At==y.A1 else false) else !(bif(atI s i).C0.B6==1 then decide ((atI s i).At<=y.A1) else false))=_
   rw[hk,ha,beq_self_eq_true,dY (cS _)]
   cases Q0h y<;>simp
 . have f:Qrc (repl s u i y c)=(atI s i).C0.N:=by unfold Qrc;rw[hd]
   unfold Qcx
   rw[hm,hr,f,hd];rfl
theorem Z4w{s:List Q0c}{u i:Int}{y:Q00}{c:Int}(h0:0<=i)(ha:i<s.length->y.A1<(atI s i).At):Qny (repl s u i y c)=(!Q0h y)/\(Q0h y=false->Qcx (repl s u i y c)=(0,s.drop i.toNat,c)):=by
 have hm:(repl s u i y c).A0=y:=rfl
 refine⟨?_,λhr=>by unfold Qcx;rw[hm,hr];rfl⟩
 unfold Qny
 by_cases h1:i<s.length
 . have hd:(repl s u i y c).B4=atI s i::s.drop (i+1).toNat:=Qpa h0 h1
   have:=ha h1
   rw[hd,hm]
   show(bif Q0h y then(bif(atI s i).C0.B6==1 then(atI s i).At==y.A1 else false) else !(bif(atI s i).C0.B6==1 then decide ((atI s i).At<=y.A1) else false))=_
   rw[dN (by omega),show((atI s i).At==y.A1)=false from beq_false_of_ne (by omega)]
   cases Q0h y<;>cases(atI s i).C0.B6==1<;>rfl
 . have hd:(repl s u i y c).B4=[]:=aA (by omega)
   rw[hd,hm]
theorem zaN{P:Nat}{m:Q00}(g:good P m){s:List Q0c}(hs:s.length<=400)(hu: ∀e∈s,U e.C0.N){u:Int}(u0:m.A1<=u)(u1:u<=m.A1+1000)(u2:u<1152921504606846976)(ho:ordB s=true)(ha: ∀e∈s,m.A1<=e.At)(c0:Int){Q:Q00}(hQ:(folF 1000 (repl s u 0 m c0) []).1.A0=Q):(Ql7 m s u).w (ranS u Q):=by
  unfold Ql7
  have m0:=g.v.cnt
  refine w_lv λx0 e0=> ?_
  have ew:wrap .u64 (u-m.A1)=u-m.A1:=by rw[wrap_u64];omega
  refine w_br (λh=>absurd g.rmay (by rw[<-e0];simpa using h)) λhm=>w_br (λh=>absurd (oY h) (by omega)) λh1=>w_br (λh=>absurd (oY h) (by show¬wrap .u64 (u-m.A1)>4000;rw[ew];omega)) λh2=>w_br (λh=>absurd (oY h) (by omega)) λh3=>w_an (show s.length<=1000000000000 by omega) (w_lv λx1 e1=> ?_)
  have e1:x1=true:=e1.trans ((Zbb (by omega)).trans ho)
  rw[e1]
  refine w_br (λh=>by cases h) λ_=> ?_
  have start:RunS P s u m.A1 Q 0 m []:=⟨cS 0,by omega,g,u0,by show((0:Nat):Int)<=m.A1-m.A1;omega,qaN ho,ha,1000,c0,[],by omega,hQ⟩
  refine w_br (λhl=>w_cn (by have:=oY hl;simp [bT];omega) (w_br (λhx=> ?_) λ_=> ?_)) λhl=> ?_
  . have hl:=oY hl
    have hx:(atI s 0).At<m.A1:=oY hx
    have:=ha (atI s 0) (by have:=Qpa (s:=s) (i:=0) (cS 0) (by omega);rw[show(0:Int).toNat=0 from rfl,List.drop_zero]at this;rw[this];exact fM ..)
    omega
  all_goals(
    refine w_an (Tree.pp (xd g.ok)).1 (w_lv λx2 e2=> ?_)
    rw[e2,Z36]
    refine w_lp (inv:=λv:Int×Q00×List Q03=>RunS P s u m.A1 Q v.1 v.2.1 v.2.2) (μ:=Qr9 m s u) start (cK _) λv R=> ?_
    obtain⟨i0,x,out⟩:=v
    have R:RunS P s u m.A1 Q i0 x out:=R
    obtain⟨a1,a2,a3,a4,a5,a6,a7,n,c,o,a8,a9⟩:=R
    refine w_br (λhb=> ?_) (λhb=>w_lf ?_)
    rotate_left
    . have hb: ¬x.A1<u:=oN hb
      rw[Qtt (show(repl s u i0 x c).C6<=(repl s u i0 x c).A0.A1 from by show u<=x.A1;omega)]at a9
      exact⟨λ_ _=>a9.symm,λh=>absurd (show x.A1=u by omega) (h rfl),a3.len⟩
    have hb:x.A1<u:=oY hb
    obtain⟨k,hk⟩: ∃k:Nat,n=k+1:=⟨n-1,by omega⟩
    subst hk
    have nk: ¬(repl s u i0 x c).C6<=(repl s u i0 x c).A0.A1:=by show¬u<=x.A1;omega
    refine w_br (λh60=> ?_) (λh60=>absurd (oN h60) (by show¬ ¬x.A1<1152921504606846976;omega))
    refine w_lp (inv:=λw:Int×Q00=>0<=w.1/\w.1<=s.length/\good P w.2/\w.2.A1=x.A1/\(s.drop w.1.toNat).Pairwise Zkd/\(∀e∈s.drop w.1.toNat,x.A1<=e.At)/\dueF (s.drop w.1.toNat) w.2=dueF (s.drop i0.toNat) x) (μ:=Qrn m s u (i0,x,out)) ⟨a1,a2,a3,rfl,a6,a7,rfl⟩ (cK _) λw ⟨b1,b2,b3,b4,b5,b6,b7⟩=> ?_
    obtain⟨i,y⟩:=w
    have b1:0<=i:=b1
    have b2:i<=s.length:=b2
    have b3:good P y:=b3
    have b4:y.A1=x.A1:=b4
    have b5:(s.drop i.toNat).Pairwise Zkd:=b5
    have b6: ∀e∈s.drop i.toNat,x.A1<=e.At:=b6
    have b7:dueF (s.drop i.toNat) y=dueF (s.drop i0.toNat) x:=b7
    have ew:i64.wrap (i+1)=i+1:=by rw[wrap_i64];omega
    have cc:decide (i<(s.length:Int))=true->(bS 4 4&&bT 0 4&&decide (0<=i/\i<((s.length:Nat):Int)))=true:=λh=>by have:=oY h;simp [bT];omega
    have uN:decide (i<(s.length:Int))=true->U (s.getD i.toNat (RK.dflt RK.apiEntry)).C0.N:=λh=>by
      have:=oY h
      rw[Quz (show i.toNat<s.length by omega)]
      exact hu _ (cM _)
    refine w_ev3 (λh=>cc h) (λh1 h2 h3=> ?_) λhx=> ?_
    . have hi:=oY h1
      obtain⟨g1,c1⟩:=Qhl b3 (uN h1)
      refine w_an (Tree.pp (Zmx b3.ok (uN h1))).1 (w_lv λx3 e3=>w_nx ?_)
      have e3:x3.2=(Q0q y (s.getD i.toNat (RK.dflt RK.apiEntry)).C0).2:=by rw[e3]
      show(0<=i64.wrap (i+1)/\i64.wrap (i+1)<=s.length/\good P x3.2/\x3.2.A1=x.A1/\(s.drop (i64.wrap (i+1)).toNat).Pairwise Zkd/\(∀e∈s.drop (i64.wrap (i+1)).toNat,x.A1<=e.At)/\dueF (s.drop (i64.wrap (i+1)).toNat) x3.2=dueF (s.drop i0.toNat) x)/\(s.length-i64.wrap (i+1)).toNat<(s.length-i).toNat
      rw[ew,e3]
      have h2:((atI s i).At==y.A1)=true:=h2
      have h3:((atI s i).C0.B6 !=1)=true:=h3
      rw[Qpa b1 hi]at b5 b6 b7
      rw[Ziz (fK (eq_of_beq h2)) h3]at b7
      exact⟨⟨by omega,by omega,g1,c1.trans b4,(List.pairwise_cons.1 b5).2,λe he=>b6 e (List.mem_cons_of_mem _ he),b7⟩,by omega⟩
    have hx:(decide (i<(s.length:Int))&&(((atI s i).At==y.A1)&&((atI s i).C0.B6 !=1)))=false:=hx
    rw[qau b1 (by rw[b4];exact b6) hx]at b7
    have sq:=vP (u:=u) (c:=c) b7.symm
    have stop:(folF (k+1) (repl s u i0 x c) o).1=repl s u i y c-> ∀r:Q00×List Q03×Int×Int,(r.2.2.2=0->r.1.A1≠u)->r.1.Mem.length<=1024->ranS u Q r:=λhf r hr hl=>by
      rw[hf]at a9
      have a9:y=Q:=a9
      exact⟨λh1 h2=>absurd h2 (hr h1),λ_=>by rw[<-a9];omega,hl⟩
    have hk1:Q0t y=true->(folF (k+1) (repl s u i0 x c) o).1=repl s u i y c:=λh=>by
      rw[Qqn nk (by rw[sq];exact h),sq]
    have hk2:Q0t y=false->Qny (repl s u i y c)=false->(folF (k+1) (repl s u i0 x c) o).1=repl s u i y c:=λh hp=>by
      rw[Qv2 nk (by rw[sq];exact h) (by rw[sq];exact hp),sq]
    have ne:y.A1≠u:=by omega
    have lo:decide (40*(out.length+1)<=140737488355328)=true:=dY (by omega)
    refine w_br (λhh=>w_lf (stop (hk1 (Qxc b3 (.inl hh))) _ (λ_=>ne) b3.len)) λhh=>w_an (Tree.pp (qx y)).1 (w_lv λx4 e4=> ?_)
    have hh:y.A9=false:=hh
    have e4:x4=Q7j y:=e4
    rw[e4]
    refine w_br (λhi=>w_br (λ_=>w_lf (stop (hk1 (Qxc b3 (.inr hi))) _ (λh=>absurd h (by show¬(1303:Int)=0;decide)) (aT _))) λ_=>w_lf (stop (hk1 (Qxc b3 (.inr hi))) _ (λ_=>ne) b3.len)) λhi=> ?_
    have hi:Q7j y=false:=hi
    have sk:Q0t y=false:=(Quf b3).2 ⟨hh,hi,by omega⟩
    have rr:=yP sk
    have rpre: ∀(c:Int),U c->Q8q y c:=λc hc=>(Tree.pp (Qxn b3.ok hc)).1
    have advE: ∀(c:Int) (z:List Q03×Q00),z=Q0j y c->z.1=(Q0j y c).1/\z.2=(Q0j y c).2:=λc z hz=>by rw[hz];exact⟨rfl,rfl⟩
    have fin: ∀(w:Int) (j:Int) (d:Int),U w->0<=j->j<=s.length->(s.drop j.toNat).Pairwise Zkd->(∀e∈s.drop j.toNat,x.A1<e.At)->Qny (repl s u i y c)=true->Qcx (repl s u i y c)=(w,s.drop j.toNat,d)-> ∀z:List Q03×Q00,z=Q0j y w->decide (40*(out.length+z.1.length)<=140737488355328)=true/\(RunS P s u m.A1 Q j z.2 (out++z.1)/\(u-z.2.A1).toNat<(u-x.A1).toNat):=λw j d hw j0 j1 jp ja hp ht z hz=>by
      obtain⟨z1,z2⟩:=advE w z hz
      obtain⟨g1,c1,l1⟩:=Qay b3 sk hw
      rw[<-z2]at g1 c1
      rw[<-z1]at l1
      refine⟨dY (by omega),⟨j0,j1,g1,by omega,by rw[lA];omega,jp,λe he=>by have:=ja e he;omega,k,d,o++outF (repl s u i y c),by omega,?_⟩,by omega⟩
      rw[Zbi nk (by rw[sq];exact sk) (by rw[sq];exact hp),sq]at a9
      have ge:goF (repl s u i y c)=repl s u j z.2 d:=by
        unfold goF
        rw[ht,z2];rfl
      rw[ge]at a9
      exact a9
    have go0:(i<s.length->y.A1<(atI s i).At)->Q1y y=false-> ∀z:List Q03×Q00,z=Q0j y 0->decide (40*(out.length+z.1.length)<=140737488355328)=true/\(RunS P s u m.A1 Q i z.2 (out++z.1)/\(u-z.2.A1).toNat<(u-x.A1).toNat):=λhl hr z hz=>by
      obtain⟨p1,p2⟩:=Z4w (s:=s) (u:=u) (c:=c) b1 hl
      rw[rr,hr]at p1 p2
      refine fin 0 i c U_0 b1 b2 b5 (λe he=> ?_) p1 (p2 rfl) z hz
      by_cases hi:i<s.length
      . rw[Qpa b1 hi]at he b5
        have:=hl hi
        rcases List.mem_cons.1 he with q|q
        . rw[q];omega
        . have:=((List.pairwise_cons.1 b5).1 e q).1;omega
      . rw[aA (by omega)]at he;cases he
    refine w_br (λhl=> ?_) λhl=> ?_
    . have hi':=oY hl
      have hat:=b6 (atI s i) (by rw[Qpa b1 hi'];exact fM ..)
      refine w_cn (cc hl) (w_an (Tree.pp (Zd1 b3.ok.cpu b3.ok.mem)).1 (w_lv λx5 e5=> ?_))
      have e5:x5=Q1y y:=e5
      rw[e5]
      have kd:((atI s i).At==y.A1)=true->(atI s i).C0.B6=1:=λh=>by
        rw[show decide (i<(s.length:Int))=true from hl,h]at hx
        have hx:((atI s i).C0.B6 !=1)=false:=hx
        simpa using hx
      refine w_br (λhn=>w_lf (stop (hk2 sk ?_) _ (λh=>absurd h (by show¬(1302:Int)=0;decide)) (aT _))) λhn=> ?_
      . have hn:=bn1 ((atI s i).At==y.A1) (Q1y y) hn
        cases h:(atI s i).At==y.A1
        . rw[h]at hn
          have:(atI s i).At≠y.A1:=by simpa using h
          rw[(Z4w (s:=s) (u:=u) (c:=c) b1 (λ_=>by omega)).1,rr]
          revert hn;cases Q1y y<;>decide
        . rw[(Zl9 (u:=u) (c:=c) b1 hi' (eq_of_beq h) (kd h)).1,rr]
          rw[h]at hn
          revert hn;cases Q1y y<;>decide
      have hn:=bn2 ((atI s i).At==y.A1) (Q1y y) hn
      refine w_br (λhq=>w_cn (cc hl) (w_an (rpre _ (uN hl)) (w_lv λx6 e6=> ?_))) λhq=> ?_
      . have hq:((atI s i).At==y.A1)=true:=hq
        rw[hq]at hn
        have hr:Q1y y=true:=(eq_of_beq hn).symm
        obtain⟨p1,p2⟩:=Zl9 (u:=u) (c:=c) b1 hi' (eq_of_beq hq) (kd hq)
        rw[rr,hr]at p1 p2
        rw[Qpa b1 hi']at b5
        obtain⟨q1,q2⟩:=List.pairwise_cons.1 b5
        have F:=fin (atI s i).C0.N (i+1) _ (uN hl) (by omega) (by omega) q2 (λe he=>by have:=(q1 e he).2 (kd hq);have:=eq_of_beq hq;omega) p1 (p2 rfl) x6 e6
        refine w_cn F.1 (w_nx ?_)
        have F2:=F.2
        rw[<-ew]at F2
        exact F2
      . have hq:((atI s i).At==y.A1)=false:=hq
        rw[hq]at hn
        have hr:Q1y y=false:=(eq_of_beq hn).symm
        have:(atI s i).At≠y.A1:=by simpa using hq
        have G:=go0 (λ_=>by omega) hr
        exact w_an (rpre _ U_0) (w_lv λx7 e7=>w_cn (G x7 e7).1 (w_nx (G x7 e7).2))
    . have hl: ¬i<s.length:=oN hl
      refine w_an (Tree.pp (Zd1 b3.ok.cpu b3.ok.mem)).1 (w_lv λx8 e8=> ?_)
      have e8:x8=Q1y y:=e8
      rw[e8]
      refine w_br (λhn=>w_lf (stop (hk2 sk ?_) _ (λh=>absurd h (by show¬(1302:Int)=0;decide)) (aT _))) λhn=> ?_
      . have hn:=bn1 false (Q1y y) hn
        rw[(Z4w (s:=s) (u:=u) (c:=c) b1 (λh=>absurd h hl)).1,rr]
        revert hn;cases Q1y y<;>decide
      have hn:=bn2 false (Q1y y) hn
      have hr:Q1y y=false:=(eq_of_beq hn).symm
      have G:=go0 (λh=>absurd h hl) hr
      exact w_an (rpre _ U_0) (w_lv λx7 e7=>w_cn (G x7 e7).1 (w_nx (G x7 e7).2)))
theorem qQ{l:List Q0c}(hl:l.length<=400)(hu: ∀e∈l,U e.C0.N)(how at0:Int):(Qby l how at0).w (λr=>(∀e∈r,U e.C0.N)/\r.length<=401):=by
 unfold Qby
 refine w_br (λ_=>w_lf ⟨hu,by omega⟩) λh0=> ?_
 have h0: ¬(l.length:Int)=0:=by simpa using h0
 refine w_cn (dY (by omega)) (w_an (Qe0 h0) (w_lv λx0 e0=>w_an (Qe0 (by decide)) (w_lv λx1 _=> ?_)))
 have rr:=Qiu (n:=at0) (k:=(l.length:Int)) (by omega) (by omega)
 rw[<-e0]at rr
 have hlt:x0.toNat<l.length:=by omega
 have ug:U (l.getD x0.toNat (RK.dflt RK.apiEntry)).C0.N:=by rw[Quz hlt];exact hu _ (cM _)
 have ew:i64.wrap (x0+1)=x0+1:=by rw[wrap_i64];omega
 have c1:(bS 4 4&&bT 0 4&&decide (0<=x0/\x0<(l.length:Int)))=true:=by simp [bT];omega
 have us: ∀e:Q0c,U e.C0.N->(∀q∈l.set x0.toNat e,U q.C0.N)/\(l.set x0.toNat e).length<=401:=λe he=>⟨λq hq=>by
   rcases List.mem_or_eq_of_mem_set hq with h|h
   . exact hu q h
   . rw[h];exact he,by rw[dE];omega⟩
 have ut: ∀(a b c:Nat),a+b<=401->(∀q∈cY a l++cY b (cZ c l),U q.C0.N)/\(cY a l++cY b (cZ c l)).length<=401:=λa b c hab=>⟨λq hq=>by
   rcases List.mem_append.1 hq with h|h
   . exact hu q (cU h)
   . exact hu q (cV (cU h)),by rw[lA,bD,bD];omega⟩
 refine w_br (λ_=>w_cn c1 (w_cn c1 (w_lf (us _ ug)))) λ_=>w_br (λ_=>w_cn ?_ (w_cn ?_ (w_cn ?_ (w_lf (ut _ _ _ ?_))))) λ_=>w_br (λ_=>w_cn ?_ (w_cn ?_ (w_cn ?_ (w_lf (ut _ _ _ ?_))))) λ_=>w_br (λ_=>Q0f (Zke at0) λx2 h2=>w_cn c1 (w_lf (us _ h2))) λ_=>w_lf ⟨hu,by omega⟩
 . simp [bT];omega
 . rw[ew];simp [bT];omega
 . refine dY ?_
   rw[bD,bD,bF];omega
 . rw[ew];omega
 . rw[ew];simp [bT];omega
 . simp [bT];omega
 . refine dY ?_
   rw[bD,bD,bF];omega
 . rw[ew];omega
theorem Znh{p q:Q02}{l:List Q0c}{known:Int}(h:Qzw p l known=(q,true)):l.length<=400/\l.all (Qlf p known)=true/\Q7y (p.B4++l)=true/\q={A0:=p.A0,B4:=p.B4++l,C6:=known,A3:=p.A3}:=by
  unfold Qzw at h
  cases h1:decide (known<p.C6)<;>rw[h1]at h
  . cases h2:decide ((l.length:Int)>400)<;>rw[h2]at h
    . cases h3:decide ((p.B4.length:Int)+l.length>4096)<;>rw[h3]at h
      . cases h4:l.all (Qlf p known)<;>rw[h4]at h
        . cases h
        . cases h5:Q7y (p.B4++l)<;>rw[h5]at h
          . cases h
          . have:=oN h2
            refine⟨by omega,rfl,rfl,?_⟩
            have h:(({A0:=p.A0,B4:=p.B4++l,C6:=known,A3:=p.A3}:Q02),true)=(q,true):=h
            exact(congrArg Prod.fst h).symm
      . cases h
    . cases h
  . cases h
theorem xQ{p:Q02}{known:Int}{e:Q0c}(h:Qlf p known e=true):p.C6<=e.At:=by
 unfold Qlf at h
 cases q:decide (e.At<p.C6)<;>rw[q]at h
 . have:=oN q;omega
 . cases h
theorem Zfy{P:Nat}: ∀(n:Nat) {k:Int} {p:Q02} (o:List Q03),Qnx P k p->p.A0.A1<=p.C6->(folF n p o).1.A0.A1<=p.C6/\(folF n p o).1.C6=p.C6
  |0,k,p,o,h,hc=>⟨hc,rfl⟩
  | n + 1,k,p,o,h,hc=>by
    by_cases hk:p.C6<=p.A0.A1
    . rw[Qtt hk];exact⟨hc,rfl⟩
    . obtain⟨g,gc,sf⟩:=Z1i h
      have kn:(setF p).C6=p.C6:=rfl
      cases hs:Q0t (setF p).A0
      . cases hp:Qny (setF p)
        . rw[Qv2 hk hs hp];exact⟨by show(setF p).A0.A1<=_;omega,rfl⟩
        . rw[Zbi hk hs hp]
          obtain⟨k1,k2,_⟩:=Za5 g hs
          have:=Zfy n (o++outF (setF p)) k1 (show(goF (setF p)).A0.A1<=p.C6 by omega)
          exact this
      . rw[Qqn hk hs];exact⟨by show(setF p).A0.A1<=_;omega,rfl⟩
theorem zp(kind:Int)(l acts:List Int)(how at0 less:Int)(hl:l.length*8<=reachBytes):Qgg kind l acts how at0 less/\Qf2 kind l acts how at0 less=true:=by
 have aw:(Tree.an Q2f (.lv Q5u λx=> .lf x)).w (λr=>r=true):=aw22 rfl
 refine Tree.pp (W:=λr=>r=true) ?_
 unfold Q8i
 refine w_lv λx0 h0=>w_br (λ_=>aw) λhb=> ?_
 obtain⟨f1,f2⟩:=zL h0 hb
 obtain⟨a,b⟩:=Zd7 kind l hl f1
 refine w_an (Tree.pp (ye kind l hl)).1 (w_lv λm hm=> ?_)
 rw[<-hm]at a b
 refine w_an (Tree.pp (zaD a.ok acts f2)).1 (w_lv λx hx=> ?_)
 rw[zan _ _ (by omega),yk]at hx
 have R:=rec22 a b acts f2 hx
 have m0:=a.ok.cnt
 have le:=(R.tr.good a).2.1
 have st:=R.steps
 refine Q0f (qQ R.len (vn R.tr) how at0) λs ⟨su,sl⟩=> ?_
 refine Q0f (xas a.len) λq0 e0=> ?_
 subst e0
 refine Q0f (xaM (p:=newQ m) a.len (aT _) su x.1.A0.A1) λx6 e6=>w_br (λ_=>aw) λhok=> ?_
 have hok:x6.2=true:=by simpa using hok
 have e7:Qzw (newQ m) s x.1.A0.A1=(x6.1,true):=by rw[<-e6,<-hok]
 obtain⟨g1,g2,g3,g4⟩:=Znh e7
 have g5:x6.1=repl s x.1.A0.A1 0 m 0:=g4
 have so:ordB s=true:=by
   have:=Zgm (s:=s) (by omega)
   rw[<-this];exact g3
 have sa: ∀e∈s,m.A1<=e.At:=λe he=>xQ (p:=newQ m) (List.all_eq_true.1 g2 e he)
 have G:Qnx 8 87 (repl s x.1.A0.A1 0 m 0):=⟨a,b,U_0,by show s.length<=_;omega,su⟩
 rw[g5]
 refine Q0f (zas G 1000) λx8 e8=> ?_
 rw[yn G.m.rmay,show(Q0n 1000).toNat=1000 from rfl]at e8
 obtain⟨u1,u2⟩:=Zfy 1000 [] G le
 obtain⟨K,_⟩:=Zhn 1000 [] G
 have hQ:(folF 1000 (repl s x.1.A0.A1 0 m 0) []).1.A0=x8.1.A0:=by rw[e8]
 rw[<-e8]at u1 u2 K
 have u1:x8.1.A0.A1<=x.1.A0.A1:=u1
 have u2:x8.1.C6=x.1.A0.A1:=u2
 refine Q0f (zaN a g1 su le (by omega) (by omega) so sa 0 hQ) λx9 RS=> ?_
 have lag:x8.1.A0.A1<x.1.A0.A1->0<Qd5 x8.1:=λh=>by
   have c0:=K.m.ok.cnt
   show Tree.V (Qd7 x8.1) (λx=>0<x)
   unfold Qd7
   refine v_br (λh'=>absurd (oY h') (by rw[u2];omega)) λ_=>v_lf ?_
   rw[u2,wrap_u64];omega
 have rest:x8.1.A0.A1<x.1.A0.A1->(Tree.br x8.1.A0.A9 (.an Q2f (.lv Q5u λx=> .lf x)) (.lv (Qd5 x8.1) λ(x14:Int)=> .br (decide (x14>0)) (.an Q2f (.lv Q5u λx=> .lf x)) (.lf false))).w (λr=>r=true):=λh=>
   w_br (λ_=>aw) λ_=>w_lv λx14 e14=>w_br (λ_=>aw) λh'=>absurd (oN h') (by rw[e14];have:=lag h;show¬ ¬_>_;omega)
 refine w_br (λh=>absurd (oY h) (by show¬x8.1.A0.A1>x.1.A0.A1;omega)) λ_=>w_br (λh=>by rw[u2,bne_self_eq_false]at h;cases h) λ_=>w_br (λh1=>w_br (λh2=> ?_) λh2=>rest (RS.no λ_=>by simpa using h2)) λh1=>rest (RS.no λh=>absurd h (by simpa using h1))
 have q:=RS.yes (eq_of_beq h1) (eq_of_beq h2)
 have hl9:=RS.len
 have hc9:x8.1.A0.A1=x.1.A0.A1:=by rw[q];exact eq_of_beq h2
 rw[q]
 refine Q0f (xam x9.1 (by omega)) λx10 e10=>w_br (λ_=>w_lv λx11 e11=>w_br (λ_=>aw) λh=> ?_) λh=>by rw[e10]at h;cases h
 have lg:Qd5 x8.1=0:=by
   show Tree.V (Qd7 x8.1) (λx=>x=0)
   unfold Qd7
   refine v_br (λ_=>v_lf rfl) λ_=>v_lf ?_
   rw[u2,hc9,Int.sub_self];rfl
 rw[lg]at e11
 rw[e11]at h;cases h

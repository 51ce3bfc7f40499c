import Derived.Test.YtmalmklaonainaaGreatReplayLiveLaws2
import Derived.Test.YtmalmklaonainaaGreatReplayLiveNewsB
import Derived.Test.YtmalmklaonainaaGreatReplayLiveZt
open Nat renaming lt_succ_self->cK, beq->bS, blt->bT, zero_le->aT, le_refl->aO, le_trans->bH, min_le_left->cX, le_of_eq->dI, pow_le_pow_right->dQ, and_le_left->dX, pow_lt_pow_right->dZ, and_le_right->eB, two_pow_pos->eD, two_pow_add_eq_or_of_lt->eI, eq_of_testBit_eq->eJ, testBit_mod_two_pow->eK, testBit->eL, zero_testBit->fB, testBit_and->fC, le_succ->fF
open List renaming getD_eq_getElem?_getD->cL, getElem?_eq_getElem->cG, getElem_mem->cM, replicate->cN, append->cO, mem_cons->cP, not_mem_nil->cQ, length_replicate->cR, length_take->bD, length_drop->bF, mem_of_mem_take->cU, mem_of_mem_drop->cV, length_singleton->cW, take->cY, drop->cZ, ext_getElem->bM, range->dA, set->dD, length_set->dE, length_cons->dF, length_nil->dG, length->dH, getD->aK, getElem?_take->aU, take_of_length_le->eX, drop_eq_getElem_cons->aB, foldl_cons->aD, drop_eq_nil_of_le->aA, append_assoc->fE, append_nil->cJ, nil_append->fH, pairwise_singleton->fK, suffix_refl->bW, suffix_cons->cA
open Int renaming le_refl->cS, tmod->dB, toNat->dC, emod_eq_of_lt->dJ, pow_pos->dK, fdiv_eq_ediv_of_nonneg->dL, le_of_lt->dM, pow_add->dO, mul_le_mul_of_nonneg_right->dP, lt_or_le->dS, toNat_natCast->eA, tmod_eq_emod_of_nonneg->eC, toNat_of_nonneg->eF, fdiv->eH, tdiv->eR, tdiv_eq_ediv_of_nonneg->eS, ediv_ediv_of_nonneg->eY, mul_ediv_add_emod->eZ, pow_succ->fA, sub_zero->fD, tmod_lt_of_pos->fI, tmod_nonneg->fJ
open Bool renaming or_eq_true->aI, eq_iff_iff->eG, noConfusion->eW
open UInt8 renaming toNat_lt->dR, toNat->eT, ofNat->eU
open BitVec renaming ofInt->dT, toNat_ofInt->dU, toNat_or->dV, toNat_and->dW, getLsbD->eM, eq_of_toNat_eq->eN, ofInt_natCast->eO, toNat_ofNat->eQ
open Prod renaming ext->eV, snd->fG
set_option maxRecDepth 100000
set_option linter.all false
namespace Go.Proofs.YtmalmklaonainaaGreat
open Go Go.GD
open Go.IntKind(wrap i64 u32 u64 u8 wrap_i64 wrap_u32 wrap_u64 wrap_u8 wrap_i32)
theorem xG(i:Q0o):U (Q1p i).1:=by
 refine Tree.post (Qi9 i) (W:=λr=>U r.1) ?_
 unfold Qi9
 exact w_lv λ_ _=>w_br (λ_=>U_0) (λ_=>U_or _ _)
theorem qd(l:List Int)(hl:l.length*8<=reachBytes):(Qkl l).w (λr=>(r.length:Int)=l.length/\ ∀w∈r,U w):=by
 have hl':l.length*8<=140737488351232:=hl
 have app: ∀{r:List Int} {x:Int},(∀w∈r,U w)->U x-> ∀w∈r++[x],U w:=λhr hx w hw=>by
   rw[List.mem_append]at hw
   rcases hw with hw|hw
   . exact hr w hw
   . rw[List.mem_singleton.1 hw];exact hx
 unfold Qkl
 refine w_lp (inv:=λz=>Qsd l z/\ ∀w∈z.2,U w) (μ:=Qe7 l) ⟨⟨by omega,by simp,by simp⟩,by simp⟩ (cK _) (λv0 hv=> ?_)
 obtain⟨⟨h1,h2,h3⟩,h4⟩:=hv
 refine w_br (λh=> ?_) (λh=> ?_)
 . have h:=oY h
   have next: ∀x:Int,U x->(Qsd l (wrap i64 (v0.1+1),v0.2++[x])/\ ∀w∈v0.2++[x],U w)/\Qe7 l (wrap i64 (v0.1+1),v0.2++[x])<Qe7 l v0:=λx hx=>by
     have hw:i64.wrap (v0.1+1)=v0.1+1:=by rw[wrap_i64];omega
     rw[hw]
     refine⟨⟨⟨?_,?_,?_⟩,app h4 hx⟩,?_⟩
     . show 0<=v0.1+1;omega
     . show v0.1+1<=l.length;omega
     . show((v0.2++[x]).length:Int)=v0.1+1;simp;omega
     . show(l.length-(v0.1+1)).toNat<(l.length-v0.1).toNat;omega
   have hb:(bS 1 1&&bT 0 1&&decide (0<=v0.1/\v0.1<(l.length:Int)))=true:=by simp [bT];omega
   have hc:decide (4*(v0.2.length+1)<=140737488355328)=true:=dY (by omega)
   exact w_cn hb (w_br (λ_=>w_cn hb (w_cn hc (next _ (Q0v _)))) (λ_=>w_cn hb (w_an (vV _) (w_lv λx0 _=>w_lv λx1 hx=>w_cn hc (next _ (by rw[hx];exact xG _))))))
 . have h:=oN h
   exact⟨by show(v0.2.length:Int)=l.length;omega,h4⟩
theorem Qkb(steps:Int):0<=Q0i steps/\Q0i steps<=4000:=by
 refine Tree.post (Qea steps) (W:=λr=>0<=r/\r<=4000) ?_
 unfold Qea
 refine w_lf ?_
 constructor<;>(repeat' split)<;>omega
theorem Zfw{P:Nat}{r:Q01}(h:okR P r)(steps:Int){clock:Int}(hc:U clock)(hl:r.B3.length<=900000)(hq:r.A2.length<=1000)(hu: ∀q∈r.A2,U q.N):
    (Q5y r steps clock).w (λx=>okR P x.1/\x.1.B3.length<=r.B3.length+r.A2.length+8000/\(x.1.A2=r.A2\/x.1.A2=[])/\x.2.length<=4000):=by
  unfold Q5y
  refine Q0e (own_w h (by omega) (by omega)) λx0 hx=> ?_
  obtain⟨k1,k2,k3⟩:=hx
  refine w_lv λx1 _=>w_br (λ_=>⟨k1,by rw[k2];omega, .inl k3,aT _⟩) (λ_=> ?_)
  have hcl:U (if clock>x0.A3 then clock else x0.A3):=by split<;>first|exact hc|exact k1.clock
  refine w_lp (inv:=λz=>0<=z.1/\z.1<=r.A2.length/\okR P z.2/\(z.2.B3.length:Int)<=r.B3.length+z.1/\z.2.A2=r.A2) (μ:=Qcw r steps clock) ⟨by omega,by omega,⟨k1.m,hcl⟩,by rw[k2];omega,k3⟩ (cK _) (λz hz=> ?_)
  obtain⟨z1,z2,z3,z4,z5⟩:=hz
  refine w_br (λhb=> ?_) (λhb=> ?_)
  . have hb:=oY hb
    rw[z5]at hb
    have hm:(z.2.A2.getD z.1.toNat (RK.dflt RK.apiEvent))∈r.A2:=by
      rw[z5]
      have hlt:z.1.toNat<r.A2.length:=by omega
      rw[cL,cG hlt]
      exact cM hlt
    refine w_cn (by rw[z5];simp [bT];omega) (Q0e (qy z3 (hu _ hm) (by omega)) λx hx=>w_nx ?_)
    obtain⟨a1,a2,a3⟩:=hx
    show(0<=i64.wrap (z.1+1)/\i64.wrap (z.1+1)<=r.A2.length/\okR P x/\(x.B3.length:Int)<=r.B3.length+i64.wrap (z.1+1)/\x.A2=r.A2)/\(x.A2.length-i64.wrap (z.1+1)).toNat<(z.2.A2.length-z.1).toNat
    have ew:i64.wrap (z.1+1)=z.1+1:=by rw[wrap_i64];omega
    rw[ew,a3,z5]
    exact⟨⟨by omega,by omega,a1,by omega,rfl⟩,by omega⟩
  . refine w_lp (inv:=λy=>0<=y.1/\y.1<=4000/\okR P y.2.1/\(y.2.1.B3.length:Int)<=r.B3.length+r.A2.length+2*y.1/\y.2.1.A2=[]/\(y.2.2.length:Int)<=y.1) (μ:=Q64 r steps clock z) ⟨by omega,by omega,⟨z3.m,z3.clock⟩,by simp;omega,rfl,by simp⟩ (cK _) (λy hy=> ?_)
    obtain⟨y1,y2,y3,y4,y5,y6⟩:=hy
    have ew:i64.wrap (y.1+1)=y.1+1:=by rw[wrap_i64];omega
    refine w_lv λx3 hx3=>w_br (λhb=> ?_) (λ_=>⟨y3,by show y.2.1.B3.length<=_;omega, .inr y5,by show y.2.2.length<=_;omega⟩)
    have hb:=oY hb
    have lim:=(Qkb steps).2
    rw[<-hx3]at lim
    refine w_lv λx4 _=>w_br (λ_=>Q0e (qy (e:=⟨_,_,_⟩) y3 U_0 (by omega)) λx5 h5=> ?_) (λ_=> ?_)
    . obtain⟨q1,q2,q3⟩:=h5
      have q3:=q3.trans y5
      refine Q0e (Zjr _) λs1 _=>w_br (λ_=>⟨q1,by show x5.B3.length<=_;omega, .inr q3,by show y.2.2.length<=_;omega⟩) (λ_=>Q0e (Z06 q1.m.cpu q1.m.mem) λs2 _=>w_br (λ_=>w_cn (dY (by omega)) (Q0e (Qv7 (r:=⟨x5.A0,x5.A3,x5.B3++[_],x5.A2⟩) ⟨q1.m,q1.clock⟩ q1.clock) λo ho=> ?_)) (λ_=>Q0e (Qv7 q1 q1.clock) λo ho=> ?_))
      . obtain⟨a1,⟨⟨a2,a3⟩,a4,a5⟩⟩:=ho
        have e4:o.2.B3.length=x5.B3.length+1:=by rw[a4];simp
        have a5:o.2.A2=[]:=a5.trans q3
        refine w_cn (dY (by omega)) (w_nx ?_)
        show(0<=i64.wrap (y.1+1)/\i64.wrap (y.1+1)<=4000/\okR P _/\(o.2.B3.length:Int)<=r.B3.length+r.A2.length+2*i64.wrap (y.1+1)/\o.2.A2=[]/\((y.2.2++o.1).length:Int)<=i64.wrap (y.1+1))/\(4000-i64.wrap (y.1+1)).toNat<(4000-y.1).toNat
        rw[ew,a5,lA]
        exact⟨⟨by omega,by omega,⟨a2,Q0v _⟩,by omega,rfl,by omega⟩,by omega⟩
      . obtain⟨a1,⟨⟨a2,a3⟩,a4,a5⟩⟩:=ho
        have e4:o.2.B3.length=x5.B3.length:=by rw[a4]
        have a5:o.2.A2=[]:=a5.trans q3
        refine w_cn (dY (by omega)) (w_nx ?_)
        show(0<=i64.wrap (y.1+1)/\i64.wrap (y.1+1)<=4000/\okR P _/\(o.2.B3.length:Int)<=r.B3.length+r.A2.length+2*i64.wrap (y.1+1)/\o.2.A2=[]/\((y.2.2++o.1).length:Int)<=i64.wrap (y.1+1))/\(4000-i64.wrap (y.1+1)).toNat<(4000-y.1).toNat
        rw[ew,a5,lA]
        exact⟨⟨by omega,by omega,⟨a2,Q0v _⟩,by omega,rfl,by omega⟩,by omega⟩
    . refine Q0e (Zjr _) λs1 _=>w_br (λ_=>⟨y3,by show y.2.1.B3.length<=_;omega, .inr y5,by show y.2.2.length<=_;omega⟩) (λ_=>Q0e (Z06 y3.m.cpu y3.m.mem) λs2 _=>w_br (λ_=>w_cn (dY (by omega)) (Q0e (Qv7 (r:=⟨y.2.1.A0,y.2.1.A3,y.2.1.B3++[_],y.2.1.A2⟩) ⟨y3.m,y3.clock⟩ y3.clock) λo ho=> ?_)) (λ_=>Q0e (Qv7 y3 y3.clock) λo ho=> ?_))
      . obtain⟨a1,⟨⟨a2,a3⟩,a4,a5⟩⟩:=ho
        have e4:o.2.B3.length=y.2.1.B3.length+1:=by rw[a4];simp
        have a5:o.2.A2=[]:=a5.trans y5
        refine w_cn (dY (by omega)) (w_nx ?_)
        show(0<=i64.wrap (y.1+1)/\i64.wrap (y.1+1)<=4000/\okR P _/\(o.2.B3.length:Int)<=r.B3.length+r.A2.length+2*i64.wrap (y.1+1)/\o.2.A2=[]/\((y.2.2++o.1).length:Int)<=i64.wrap (y.1+1))/\(4000-i64.wrap (y.1+1)).toNat<(4000-y.1).toNat
        rw[ew,a5,lA]
        exact⟨⟨by omega,by omega,⟨a2,Q0v _⟩,by omega,rfl,by omega⟩,by omega⟩
      . obtain⟨a1,⟨⟨a2,a3⟩,a4,a5⟩⟩:=ho
        have e4:o.2.B3.length=y.2.1.B3.length:=by rw[a4]
        have a5:o.2.A2=[]:=a5.trans y5
        refine w_cn (dY (by omega)) (w_nx ?_)
        show(0<=i64.wrap (y.1+1)/\i64.wrap (y.1+1)<=4000/\okR P _/\(o.2.B3.length:Int)<=r.B3.length+r.A2.length+2*i64.wrap (y.1+1)/\o.2.A2=[]/\((y.2.2++o.1).length:Int)<=i64.wrap (y.1+1))/\(4000-i64.wrap (y.1+1)).toNat<(4000-y.1).toNat
        rw[ew,a5,lA]
        exact⟨⟨by omega,by omega,⟨a2,Q0v _⟩,by omega,rfl,by omega⟩,by omega⟩
section
variable {P:Nat} {m:Q00} (h:okM P m)
include h
theorem min_w(port:Int){clock:Int}(hc:U clock):(Qm2 m port clock).w (λx=>U x.1/\okM P x.2/\x.2.A1=m.A1):=by
 have k:=(⟨h,rfl⟩:okM P m/\m.A1=m.A1)
 obtain⟨h1,h2,h3,h4,h5,h7⟩:=h
 unfold Qm2
 exact w_br (λ_=>w_lv λx hx=>⟨hx▸Z3a _ _,⟨⟨h1,h2,h3,h4,h5,h7⟩,rfl⟩⟩) (λ_=>w_br (λ_=>⟨hc,k⟩) (λ_=>w_br (λ_=>w_lv λx hx=>⟨hx▸Zha _,k⟩) (λ_=>w_br (λ_=>w_lv λx hx=>⟨hx▸Zod h3 _,k⟩) (λ_=>w_br (λ_=>w_lv λx hx=>⟨hx▸yx h4 _,k⟩) (λ_=>w_lv λx hx=>⟨hx▸Z6p h5.1 _,k⟩)))))
theorem qaE(port:Int){v:Int}(hv:U v):(Qfi m port v).w (λx=>x.1.length<=1/\okM P x.2/\x.2.A1=m.A1):=by
 have k:=(⟨h,rfl⟩:okM P m/\m.A1=m.A1)
 obtain⟨h1,h2,h3,h4,h5,h7⟩:=h
 unfold Qfi
 exact w_br (λ_=>⟨aO _,k⟩) (λ_=>w_br (λ_=>⟨aT _,k⟩) (λ_=>w_br (λ_=>w_lv λ_ _=>⟨aT _,⟨⟨h1,h2,h3,h4,h5,h7⟩,rfl⟩⟩) (λ_=>w_br (λ_=>Q0e (Zg7 h2 h3 _ hv _) λx hx=>⟨hx.2,⟨⟨h1,h2,hx.1,h4,h5,h7⟩,rfl⟩⟩) (λ_=>w_br (λ_=>Q0e (Zn1 h2 h4 _ hv _) λx hx=>⟨hx.2,⟨⟨h1,h2,h3,hx.1,h5,h7⟩,rfl⟩⟩) (λ_=>Q0e (qab h2 h5 _ hv) λx hx=>⟨aT _,⟨⟨h1,hx.2,h3,h4,hx.1,h7⟩,rfl⟩⟩)))))
theorem Z9k{clock:Int}(hc:U clock):(Q98 m clock).w (λx=>x.1.length<=1/\okM P x.2/\x.2.A1=wrap .u64 (m.A1+1)):=by
 obtain⟨h1,h2,h3,h4,h5,h7⟩:=h
 unfold Q98
 refine Q0e (Qnl h1) λx0 c0=>Q0e (do_w c0 h2) λx1 hx=> ?_
 obtain⟨c1,v1,m1⟩:=hx
 refine w_br (λ_=>Zev (min_w (m:=⟨_,_,_,_,_,_,_,_,_,_⟩) ⟨c1,m1,h3,h4,h5,h7⟩ _ hc) λx2 hx=> ?_) (λ_=>w_br (λ_=>Q0e (qaE (m:=⟨_,_,_,_,_,_,_,_,_,_⟩) ⟨c1,m1,h3,h4,h5,h7⟩ _ v1) λx4 hx=> ?_) (λ_=> ?_))
 . obtain⟨u,⟨k1,k2,k3,k4,k5,k7⟩,k6⟩:=hx
   exact Q0e (Z8i k1 _ u) λx3 h3=>⟨aT _,⟨h3,k2,k3,k4,k5,w0 _⟩,congrArg (λn=>wrap .u64 (n+1)) k6⟩
 . obtain⟨u,⟨k1,k2,k3,k4,k5,k7⟩,k6⟩:=hx
   exact⟨u,⟨k1,k2,k3,k4,k5,w0 _⟩,congrArg (λn=>wrap .u64 (n+1)) k6⟩
 . repeat'(first
     |exact⟨aT _,⟨c1,m1,h3,h4,h5,w0 _⟩,rfl⟩
     |refine w_br (λ_=> ?_) (λ_=> ?_))
theorem qX:(Qdi m).w (λx=>okM P x/\x.A1=m.A1):=by
 obtain⟨h1,h2,h3,h4,h5,h7⟩:=h
 unfold Qdi
 exact Q0e (v8 h2) λx hx=>⟨⟨h1,by rw[hx];exact h2,h3,h4,h5,h7⟩,rfl⟩
end
theorem U_all(n:Nat): ∀w∈cN n (0:Int),U w:=λw hw=>by rw[(List.mem_replicate.1 hw).2];exact U_0
theorem xaf:okM 0 ⟨⟨⟨0,0,0,0,0,0,0,0,0,0,0,0,0,0,0,0⟩,0,⟨0,0,0,0,0,0,0,0⟩⟩,[],⟨[]⟩,⟨false,0,false⟩,⟨0,0,0,0,0,0,0,[]⟩,⟨0,0,false,0,false,0⟩,⟨0,0⟩,0,false,false⟩:=
 ⟨⟨U_all 16,U_0,U_all 8⟩,⟨rfl,by omega,by omega,λw hw=>by cases hw⟩,⟨U_0,U_0,U_0,U_0⟩,⟨U_0,U_0,U_0,U_0⟩,⟨U_0,U_0⟩,by decide⟩
theorem Zn4{P:Nat}{m:Q00}(h:okM P m)(hc:0<=m.A1):(Qaj m [] 87).w (λx=> ∃Q,okM Q x.1):=by
 have z: ∃Q,okM Q _:=⟨0,xaf⟩
 unfold Qaj
 refine w_lv λx0 _=>w_br (λ_=>z) λ_=>w_br (λ_=>z) λ_=>w_br (λ_=>z) λ_=>w_an (show Q8y [] by show([]:List Q0f).length<=1000000000000;decide) (w_lv λx1 _=>w_br (λ_=>z) λ_=>Q0e (qX h) λx2 hx=> ?_)
 refine w_lp (inv:=λv:Q00×List Q03=>okM P v.1/\0<=v.1.A1/\v.2.length+(87-v.1.A1).toNat<=87) (μ:=Qhq m [] 87) ⟨hx.1,by rw[hx.2];exact hc,by rw[hx.2];show 0+_<=87;omega⟩ (cK _) λv0 ⟨a1,a2,a3⟩=> ?_
 refine w_br (λhb=>w_br (λ_=> ?_) (λ_=>⟨P,a1⟩)) (λ_=>⟨P,a1⟩)
 have hb:=oY hb
 refine w_lp (inv:=λ_=>True) (μ:=Qhn m [] 87 v0) trivial (cK _) λv1 _=> ?_
 refine w_br (λ_=>⟨P,a1⟩) λ_=>Q0e (zaa _) λx3 _=>w_br (λ_=>⟨P,a1⟩) λ_=>Q0e (zx a1.cpu a1.mem) λx4 _=>w_br (λ_=>z) λ_=>Q0e (Z9k a1 U_0) λx5 h5=> ?_
 obtain⟨b1,b2,b3⟩:=h5
 refine w_cn (dY (by omega)) (w_nx ?_)
 have e:x5.2.A1=v0.1.A1+1:=by rw[b3,wrap_u64];omega
 show(_/\_/\_)/\(_:Nat)<_
 refine⟨⟨b2,by show 0<=x5.2.A1;omega,by show(v0.2++x5.1).length+(87-x5.2.A1).toNat<=87;rw[lA];omega⟩,by show(87-x5.2.A1).toNat<(87-v0.1.A1).toNat;omega⟩
set_option synthInstance.maxHeartbeats 2000000
set_option synthInstance.maxSize 100000
noncomputable section
instance zG (src:List UInt8):Ck (Qlw src):=ckT (t:=Qgq src) (by delta Qgq;infer_instance)
instance qC (s:List UInt8):Ck (Qjx s):=ckT (t:=Qdx s) (by delta Qdx;infer_instance)
instance xC (n:Int):Ck (Q3i n):=let d:Decidable (Q3i n):=(by delta Q3i;infer_instance);⟨@decide _ d,@oY _ d⟩
instance xd (n:Int):Ck (Qhh n):=ckT (t:=Q7f n) (by delta Q7f;infer_instance)
instance qag (r:Int):Ck (Qph r):=ckT (t:=Qfc r) (by delta Qfc;infer_instance)
instance xX (s:List UInt8):Ck (Qi5 s):=ckT (t:=Qjy s) (by delta Qjy;infer_instance)
instance Zrj (op:Int):Ck (Qfx op):=ckT (t:=Qad op) (by delta Qad;infer_instance)
instance Zpd (s:List UInt8):Ck (Q3j s):=ckT (t:=Q8z s) (by delta Q8z;infer_instance)
instance zd (what:List UInt8):Ck (Q6k what):=ckT (t:=Qbx what) (by delta Qbx;infer_instance)
instance zC (s:List UInt8):Ck (Qiz s):=ckT (t:=Qex s) (by delta Qex;infer_instance)
instance yd (l:List Q0m) (p:List UInt8):Ck (Q6n l p):=ckT (t:=Qc9 l p) (by delta Qc9;infer_instance)
instance yC (s:List UInt8):Ck (Qk6 s):=ckT (t:=Qej s) (by delta Qej;infer_instance)
instance vd (l:List Q2b) (label:List UInt8):Ck (Q3s l label):=let d:Decidable (Q3s l label):=(by delta Q3s;infer_instance);⟨@decide _ d,@oY _ d⟩
instance zX (src:List UInt8):Ck (Qnr src):=ckT (t:=Qk9 src) (by delta Qk9;infer_instance)
instance yX (st:Q0b) (v:Int):Ck (Qbf st v):=ckT (t:=Qka st v) (by delta Qka;infer_instance)
instance Zrl (src:List UInt8):Ck (Qao src):=ckT (t:=Q9r src) (by delta Q9r;infer_instance)
theorem zag:Qao ((108:UInt8)::(tblZe0++Z99++(Z9++Z97)++(Za7++Za3++(Zaj++Zaa))++(Z9r++Zas++(Qys++Qy0)++(Qxo++Qz6++(Qxw++Qxy))))):=ck inferInstance (by kernel_rfl)
def inU(x:Int):Bool:=decide (0<=x)&&decide (x<4294967296)
theorem xag(l:List Int)(h:(Nat.ble l.length 160&&List.all l inU)=true):l.length<=160/\ ∀w∈l,U w:=by
 rw[aE]at h
 refine⟨lE h.1,λw hw=> ?_⟩
 have:=List.all_eq_true.1 h.2 w hw
 simp only[inU,aE,decide_eq_true_eq]at this
 exact this
theorem qe:(Q1j (cO (cO (cO (cO Zcj Z99) (cO Z9 Z97)) (cO (cO Za7 Za3) (cO Zaj Zaa))) (cO (cO (cO Z9r Zas) (cO Qys Qy0)) (cO (cO Qxo Qz6) (cO Qxw Qxy))))).1.length<=160/\ ∀w∈(Q1j (cO (cO (cO (cO Zcj Z99) (cO Z9 Z97)) (cO (cO Za7 Za3) (cO Zaj Zaa))) (cO (cO (cO Z9r Zas) (cO Qys Qy0)) (cO (cO Qxo Qz6) (cO Qxw Qxy))))).1,U w:=xag _ (by kernel_rfl)
end
theorem new_w(i:List Int)(hu: ∀w∈i,U w)(hl:i.length<=256):(Q90 8 4 i).w (λx=>okM 8 x.1/\x.1.A1=0):=by
 unfold Q90
 refine w_br (λh=>absurd h (by decide)) λ_=>w_br (λh=>absurd h (by decide)) λ_=>w_br (λh=>absurd h (by decide)) λ_=>w_br (λh=>absurd h (by decide)) λ_=>w_br (λh=> ?_) λ_=>w_lv λx0 e0=>w_an (Zer _) (w_lv λx1 e1=> ?_)
 . have h:=oY h
   rw[show i64.wrap (8*32)=256 by decide]at h
   omega
 have hx:x1=cN 256 0:=by rw[e1];kernel_rfl
 have c0:Q2m x0:=by rw[e0];exact⟨by
   intro w hw
   simp only[Qrj,Ql,Tree.m,A16.l,cP,cQ,or_false,or_self]at hw
   rw[hw];exact U_0,U_0,by
   intro w hw
   simp only[Qrj,Ql,Tree.m,A8.l,cP,cQ,or_false,or_self]at hw
   rcases hw with rfl|rfl
   . exact⟨by omega,by omega⟩
   . exact U_0⟩
 have hz: ∀w∈x1,U w:=by rw[hx];exact U_all 256
 have hn:x1.length=256:=by rw[hx,cR]
 refine⟨⟨c0,⟨?_,by omega,by omega,λw hw=> ?_⟩,⟨U_0,U_0,U_0,U_0⟩,⟨U_0,U_0,U_0,U_0⟩,⟨U_0,U_0⟩,cS _⟩,rfl⟩
 . simp only[lA,bD,bF,hn];omega
 . rcases List.mem_append.1 hw with h1|h1
   . exact hu w (cU h1)
   . exact hz w (cV h1)
theorem xe(kind:Int)(l:List Int)(hl:l.length*8<=reachBytes):(Q7m kind l).w (λx=> ∃Q,okM Q x):=by
  have hl':l.length*8<=140737488351232:=hl
  unfold Q7m
  refine w_an (Qja (by decide)) (w_lv λx0 _=>w_br (λ_=>w_an zag (w_lv λx1 e1=> ?_)) (λ_=> ?_))
  . obtain⟨q1,q2⟩:x1.1.length<=160/\ ∀w∈x1.1,U w:=by rw[e1];exact qe
    refine w_lp (inv:=λv:List Int=>v.length<=160/\ ∀w∈v,U w) (μ:=Qeg kind l) ⟨q1,q2⟩ (cK _) λv0 ⟨a1,a2⟩=> ?_
    refine w_br (λhb=> ?_) (λ_=> ?_)
    . have hb:=oY hb
      refine w_cn (dY (by omega)) (w_nx ?_)
      show(_/\_)/\(_:Nat)<_
      refine⟨⟨by rw[lA,cW];omega,λw hw=> ?_⟩,by show 160-(v0++[0]).length<160-v0.length;rw[lA,cW];omega⟩
      rcases List.mem_append.1 hw with h1|h1
      . exact a2 w h1
      . rw[List.mem_singleton.1 h1];exact U_0
    . refine Q0e (qd l hl) λx2 ⟨b1,b2⟩=>w_cn (dY (by omega)) ?_
      have hu: ∀w∈v0++x2,U w:=λw hw=>(List.mem_append.1 hw).elim (a2 w) (b2 w)
      refine w_br (λhb=> ?_) (λhb=> ?_)
      . have hb:=oY hb
        refine w_cn (by simp [bT];rw[lA]at hb;omega) (Q0e (new_w _ (λw hw=>hu w (cV (cU hw))) (by rw[bD];exact bH (cX _ _) (by decide))) λx3 ⟨c1,c2⟩=>w_br (λ_=>Q0e (Zn4 c1 (by omega)) λx4 hx=>hx) (λ_=>⟨8,c1⟩))
      . have hb:=oN hb
        exact Q0e (new_w _ hu (by omega)) λx3 ⟨c1,c2⟩=>w_br (λ_=>Q0e (Zn4 c1 (by omega)) λx4 hx=>hx) (λ_=>⟨8,c1⟩)
  . refine Q0e (qd l hl) λx2 ⟨b1,b2⟩=>w_cn (dY (by omega)) ?_
    refine w_br (λhb=> ?_) (λhb=> ?_)
    . have hb:=oY hb
      refine w_cn (by simp [bT];omega) (Q0e (new_w _ (λw hw=>b2 w (cV (cU hw))) (by rw[bD];exact bH (cX _ _) (by decide))) λx3 ⟨c1,c2⟩=>w_br (λ_=>Q0e (Zn4 c1 (by omega)) λx4 hx=>hx) (λ_=>⟨8,c1⟩))
    . have hb:=oN hb
      exact Q0e (new_w _ b2 (by omega)) λx3 ⟨c1,c2⟩=>w_br (λ_=>Q0e (Zn4 c1 (by omega)) λx4 hx=>hx) (λ_=>⟨8,c1⟩)
theorem zaE{P:Nat}{r:Q01}(h:okR P r)(n:Int)(hl:r.B3.length<=900000)(hq:r.A2.length<=16)(hu: ∀q∈r.A2,U q.N):
   (Q8h r n).w (λx=>okR P x.1/\x.1.B3.length<=r.B3.length+8016/\(x.1.A2.length<=16/\ ∀q∈x.1.A2,U q.N)/\x.2.length<=4000):=by
 unfold Q8h
 refine w_lv λx0 _=>w_br (λ_=>Q0e (Zmb n) λe he=>Q0e (yV h e (by omega) hq hu he) λx hx=> ?_) (λ_=>w_an (Qja (by decide)) (w_lv λx3 _=>Q0e (Zfw h _ (Q0v _) hl (by omega) hu) λx hx=> ?_))
 . obtain⟨a1,a2,a3,a4⟩:=hx
   exact⟨a1,by rw[a2];omega,⟨a3,a4⟩,aT _⟩
 . obtain⟨a1,a2,a3,a4⟩:=hx
   refine⟨a1,by show x.1.B3.length<=_;omega,?_,a4⟩
   rcases a3 with a3|a3
   . rw[a3];exact⟨hq,hu⟩
   . rw[a3];exact⟨aT _,λq hq=>by cases hq⟩
theorem xaE{P:Nat}{m:Q00}(h:okM P m)(l:List Int)(hl:l.length<=30):(Qd8 m l).w (λx=>okR P x.1):=by
 unfold Qd8
 have nr:(Q44 m).w (λx=>okR P x/\x.B3=[]/\x.A2=[]):=by
   unfold Q44
   exact Q0e (qX h) λx hx=>⟨⟨hx.1,U_0⟩,rfl,rfl⟩
 refine Q0e nr λx0 ⟨n1,n2,n3⟩=> ?_
 refine w_lp (inv:=λv:Int×Q01×List Q03=>0<=v.1/\v.1<=l.length/\okR P v.2.1/\(v.2.1.B3.length:Int)<=8016*v.1/\(v.2.1.A2.length<=16/\ ∀q∈v.2.1.A2,U q.N)/\(v.2.2.length:Int)<=4000*v.1) (μ:=Qk7 m l) ⟨cS _,by show(0:Int)<=l.length;omega,n1,by rw[n2];exact cS _,by rw[n3];exact⟨aT _,λq hq=>by cases hq⟩,cS _⟩ (cK _) λv0 ⟨a1,a2,a3,a4,⟨a5,a6⟩,a7⟩=> ?_
 refine w_br (λhb=> ?_) (λ_=>a3)
 have hb:=oY hb
 refine w_cn (by simp [bT];omega) (Q0e (zaE a3 _ (by omega) a5 a6) λx1 ⟨b1,b2,b3,b4⟩=>w_cn (dY (by omega)) (w_nx ?_))
 have e:i64.wrap (v0.1+1)=v0.1+1:=by rw[wrap_i64];omega
 show(_/\_/\_/\_/\_/\_)/\(_:Nat)<_
 refine⟨⟨by rw[e];omega,by rw[e];omega,b1,by rw[e];show(x1.1.B3.length:Int)<=_;omega,b3,by rw[e,lA];omega⟩,by show(l.length-i64.wrap (v0.1+1)).toNat<(l.length-v0.1).toNat;rw[e];omega⟩
noncomputable section
def boot:List Int:=(Q1j (cO (cO (cO (cO Zcj Z99) (cO Z9 Z97)) (cO (cO Za7 Za3) (cO Zaj Zaa))) (cO (cO (cO Z9r Zas) (cO Qys Qy0)) (cO (cO Qxo Qz6) (cO Qxw Qxy))))).1
def Qlq:List Int:=boot++cN (160-boot.length) 0
theorem run87(t0 t1 t2 t3 t4 t5 t6 t7 t8 t9 t10 t11 t12 t13 t14 t15 t16 t17 t18 t19 t20 t21 t22 t23 t24 t25 t26 t27 t28 t29 t30 t31 t32 t33 t34 t35 t36 t37 t38 t39 t40 t41 t42 t43 t44 t45 t46 t47 t48 t49 t50 t51 t52 t53 t54 t55 t56 t57 t58 t59 t60 t61 t62 t63 t64 t65 t66 t67 t68 t69 t70 t71 t72 t73 t74 t75 t76 t77 t78 t79 t80 t81 t82 t83 t84 t85 t86 t87 t88 t89 t90 t91 t92 t93 t94 t95:Int):(Qfu (Q21 8 4 (Qlq++[t0,t1,t2,t3,t4,t5,t6,t7,t8,t9,t10,t11,t12,t13,t14,t15,t16,t17,t18,t19,t20,t21,t22,t23,t24,t25,t26,t27,t28,t29,t30,t31,t32,t33,t34,t35,t36,t37,t38,t39,t40,t41,t42,t43,t44,t45,t46,t47,t48,t49,t50,t51,t52,t53,t54,t55,t56,t57,t58,t59,t60,t61,t62,t63,t64,t65,t66,t67,t68,t69,t70,t71,t72,t73,t74,t75,t76,t77,t78,t79,t80,t81,t82,t83,t84,t85,t86,t87,t88,t89,t90,t91,t92,t93,t94,t95])).1 [] 87).2.2.2=0:=by kernel_rfl
end
attribute [local irreducible] Q1j
theorem qah(i j:List Int)(hi:i.length<=256)(hj:j.length<=256)(e:i++cN (256-i.length) 0=j++cN (256-j.length) 0):Q21 8 4 i=Q21 8 4 j:=by
 have w:i64.wrap (8*32)=256:=by decide
 have m:Qv5 8=cN 256 0:=by kernel_rfl
 have d: ∀k:List Int,k.length<=256->decide ((k.length:Int)>256)=false:=λk h=>dN (by omega)
 have mem: ∀k:List Int,k.length<=256->cY (min k.length (cN 256 (0:Int)).length) k++cZ (min k.length (cN 256 (0:Int)).length) (cN 256 0)=k++cN (256-k.length) 0:=λk h=>by
   rw[cR,Nat.min_eq_left h,List.take_length,List.drop_replicate]
 have r:Qv5 8=cN 256 0:=by kernel_rfl
 simp only[Q21,Q90,Tree.m,w,letv,r,d i hi,d j hj]
 simp only[mem i hi,mem j hj,e]
theorem list96(t:List Int)(ht:t.length=96):t=[t.getD 0 0,t.getD 1 0,t.getD 2 0,t.getD 3 0,t.getD 4 0,t.getD 5 0,t.getD 6 0,t.getD 7 0,t.getD 8 0,t.getD 9 0,t.getD 10 0,t.getD 11 0,t.getD 12 0,t.getD 13 0,t.getD 14 0,t.getD 15 0,t.getD 16 0,t.getD 17 0,t.getD 18 0,t.getD 19 0,t.getD 20 0,t.getD 21 0,t.getD 22 0,t.getD 23 0,t.getD 24 0,t.getD 25 0,t.getD 26 0,t.getD 27 0,t.getD 28 0,t.getD 29 0,t.getD 30 0,t.getD 31 0,t.getD 32 0,t.getD 33 0,t.getD 34 0,t.getD 35 0,t.getD 36 0,t.getD 37 0,t.getD 38 0,t.getD 39 0,t.getD 40 0,t.getD 41 0,t.getD 42 0,t.getD 43 0,t.getD 44 0,t.getD 45 0,t.getD 46 0,t.getD 47 0,t.getD 48 0,t.getD 49 0,t.getD 50 0,t.getD 51 0,t.getD 52 0,t.getD 53 0,t.getD 54 0,t.getD 55 0,t.getD 56 0,t.getD 57 0,t.getD 58 0,t.getD 59 0,t.getD 60 0,t.getD 61 0,t.getD 62 0,t.getD 63 0,t.getD 64 0,t.getD 65 0,t.getD 66 0,t.getD 67 0,t.getD 68 0,t.getD 69 0,t.getD 70 0,t.getD 71 0,t.getD 72 0,t.getD 73 0,t.getD 74 0,t.getD 75 0,t.getD 76 0,t.getD 77 0,t.getD 78 0,t.getD 79 0,t.getD 80 0,t.getD 81 0,t.getD 82 0,t.getD 83 0,t.getD 84 0,t.getD 85 0,t.getD 86 0,t.getD 87 0,t.getD 88 0,t.getD 89 0,t.getD 90 0,t.getD 91 0,t.getD 92 0,t.getD 93 0,t.getD 94 0,t.getD 95 0]:=by
 apply bM
 . rw[ht];rfl
 . intro i h1 h2
   have e: ∀j (hj:j<96),[t.getD 0 0,t.getD 1 0,t.getD 2 0,t.getD 3 0,t.getD 4 0,t.getD 5 0,t.getD 6 0,t.getD 7 0,t.getD 8 0,t.getD 9 0,t.getD 10 0,t.getD 11 0,t.getD 12 0,t.getD 13 0,t.getD 14 0,t.getD 15 0,t.getD 16 0,t.getD 17 0,t.getD 18 0,t.getD 19 0,t.getD 20 0,t.getD 21 0,t.getD 22 0,t.getD 23 0,t.getD 24 0,t.getD 25 0,t.getD 26 0,t.getD 27 0,t.getD 28 0,t.getD 29 0,t.getD 30 0,t.getD 31 0,t.getD 32 0,t.getD 33 0,t.getD 34 0,t.getD 35 0,t.getD 36 0,t.getD 37 0,t.getD 38 0,t.getD 39 0,t.getD 40 0,t.getD 41 0,t.getD 42 0,t.getD 43 0,t.getD 44 0,t.getD 45 0,t.getD 46 0,t.getD 47 0,t.getD 48 0,t.getD 49 0,t.getD 50 0,t.getD 51 0,t.getD 52 0,t.getD 53 0,t.getD 54 0,t.getD 55 0,t.getD 56 0,t.getD 57 0,t.getD 58 0,t.getD 59 0,t.getD 60 0,t.getD 61 0,t.getD 62 0,t.getD 63 0,t.getD 64 0,t.getD 65 0,t.getD 66 0,t.getD 67 0,t.getD 68 0,t.getD 69 0,t.getD 70 0,t.getD 71 0,t.getD 72 0,t.getD 73 0,t.getD 74 0,t.getD 75 0,t.getD 76 0,t.getD 77 0,t.getD 78 0,t.getD 79 0,t.getD 80 0,t.getD 81 0,t.getD 82 0,t.getD 83 0,t.getD 84 0,t.getD 85 0,t.getD 86 0,t.getD 87 0,t.getD 88 0,t.getD 89 0,t.getD 90 0,t.getD 91 0,t.getD 92 0,t.getD 93 0,t.getD 94 0,t.getD 95 0][j]'hj=t.getD j 0:=by
     intro j hj
     have:[t.getD 0 0,t.getD 1 0,t.getD 2 0,t.getD 3 0,t.getD 4 0,t.getD 5 0,t.getD 6 0,t.getD 7 0,t.getD 8 0,t.getD 9 0,t.getD 10 0,t.getD 11 0,t.getD 12 0,t.getD 13 0,t.getD 14 0,t.getD 15 0,t.getD 16 0,t.getD 17 0,t.getD 18 0,t.getD 19 0,t.getD 20 0,t.getD 21 0,t.getD 22 0,t.getD 23 0,t.getD 24 0,t.getD 25 0,t.getD 26 0,t.getD 27 0,t.getD 28 0,t.getD 29 0,t.getD 30 0,t.getD 31 0,t.getD 32 0,t.getD 33 0,t.getD 34 0,t.getD 35 0,t.getD 36 0,t.getD 37 0,t.getD 38 0,t.getD 39 0,t.getD 40 0,t.getD 41 0,t.getD 42 0,t.getD 43 0,t.getD 44 0,t.getD 45 0,t.getD 46 0,t.getD 47 0,t.getD 48 0,t.getD 49 0,t.getD 50 0,t.getD 51 0,t.getD 52 0,t.getD 53 0,t.getD 54 0,t.getD 55 0,t.getD 56 0,t.getD 57 0,t.getD 58 0,t.getD 59 0,t.getD 60 0,t.getD 61 0,t.getD 62 0,t.getD 63 0,t.getD 64 0,t.getD 65 0,t.getD 66 0,t.getD 67 0,t.getD 68 0,t.getD 69 0,t.getD 70 0,t.getD 71 0,t.getD 72 0,t.getD 73 0,t.getD 74 0,t.getD 75 0,t.getD 76 0,t.getD 77 0,t.getD 78 0,t.getD 79 0,t.getD 80 0,t.getD 81 0,t.getD 82 0,t.getD 83 0,t.getD 84 0,t.getD 85 0,t.getD 86 0,t.getD 87 0,t.getD 88 0,t.getD 89 0,t.getD 90 0,t.getD 91 0,t.getD 92 0,t.getD 93 0,t.getD 94 0,t.getD 95 0]=(dA 96).map (λk=>t.getD k 0):=rfl
     simp only[this,List.getElem_map,List.getElem_range]
   rw[e i (by omega),cL,cG h1]
   rfl
theorem qaF(t:List Int)(ht:t.length=96):(Qfu (Q21 8 4 (Qlq++t)).1 [] 87).2.2.2=0:=by
 rw[list96 t ht]
 exact run87 _ _ _ _ _ _ _ _ _ _ _ _ _ _ _ _ _ _ _ _ _ _ _ _ _ _ _ _ _ _ _ _ _ _ _ _ _ _ _ _ _ _ _ _ _ _ _ _ _ _ _ _ _ _ _ _ _ _ _ _ _ _ _ _ _ _ _ _ _ _ _ _ _ _ _ _ _ _ _ _ _ _ _ _ _ _ _ _ _ _ _ _ _ _ _ _
theorem zah:Qlq.length=160:=by
 have h:boot.length<=160:=qe.1
 unfold Qlq
 rw[lA,cR];omega
def out(f:Int)(m m':List Int):Prop:= ∀j:Nat,¬(f*32<=j/\(j:Int)<f*32+32)->m'.getD j 0=m.getD j 0
theorem Qr5(f:Int)(m:List Int):out f m m:=λ_ _=>rfl
theorem getDset(l:List Int)(i j:Nat)(v:Int)(h:i≠j):(l.set i v).getD j 0=l.getD j 0:=by
 simp only[cL,List.getElem?_set_ne h]
theorem Q3w{P:Nat}{m:List Int}(h:Q15 P m):Q0z m=P:=by
 obtain⟨h1,h2,h3,_⟩:=h
 simp only[Q0z,Q96,Tree.m]
 have e:(m.length:Int)=32*P:=by omega
 rw[e]
 have e1:(dB (32*(P:Int)) 32 !=0)=false:=by simp [Int.mul_tmod_right]
 have e2:decide ((32*(P:Int))>1024)=false:=dN (by omega)
 rw[e1,e2]
 simp only[cond_false]
 rw[Int.mul_tdiv_cancel_left _ (by decide),wrap_i64];omega
theorem vX{P:Nat}{m:List Int}(h:Q15 P m)(f:Int):Q5k m f=true->0<=f/\f<P:=by
 have hp:=Q3w h
 simp only[Q5k,Q8x,Tree.m,letv,hp]
 cases h1:decide (f>=0)
 . intro h;cases h
 . intro h;exact⟨oY h1,oY h⟩
theorem Z5k{P:Nat}{m:List Int}(h:Q15 P m)(f:Int)(s:List UInt8):(Q3t m f s).w (λr=>Q15 P r.1/\out f m r.1/\(r.2=false->r.1=m)):=by
 have hcl:Q04 m=m:=rfl
 have h2:=h.p2
 unfold Q3t
 refine w_an (Qa7 h) (w_lv λx0 hx0=>w_lv λx1 hx1=> ?_)
 rw[hcl]at hx0;subst hx0
 refine w_br (λ_=>⟨h,Qr5 _ _,λ_=>rfl⟩) λhb=>w_br (λ_=>⟨h,Qr5 _ _,λ_=>rfl⟩) λhs=> ?_
 have hb:x1=true:=by simpa using hb
 obtain⟨f0,f1⟩:=vX h f (hx1.symm.trans hb)
 have hs:(s.length:Int)=128:=by simpa using hs
 refine w_lp (inv:=λz:Int×List Int=>0<=z.1/\z.1<=32/\Q15 P z.2/\out f x0 z.2) (μ:=Qbs x0 f s) ⟨show(0:Int)<=0 by decide,show(0:Int)<=32 by decide,h,Qr5 _ _⟩ (cK _) λz ⟨z1,z2,z3,z4⟩=> ?_
 refine w_br (λhb=> ?_) (λ_=>⟨z3,z4,λh=>by cases h⟩)
 have hb:=oY hb
 have e1:i64.wrap (4*z.1)=4*z.1:=by rw[wrap_i64];omega
 have e2:i64.wrap (i64.wrap (4*z.1)+4)=4*z.1+4:=by rw[wrap_i64,wrap_i64];omega
 have e3:i64.wrap (i64.wrap (f*32)+z.1)=f*32+z.1:=by rw[wrap_i64,wrap_i64];omega
 have hl:=z3.len
 have hlen:(cY (dC (i64.wrap (i64.wrap (4*z.1)+4))-dC (i64.wrap (4*z.1))) (cZ (dC (i64.wrap (4*z.1))) s)).length=4:=by
   rw[e2,e1,bD,bF];omega
 refine w_cn (dY (by rw[e2,e1];omega)) ?_
 refine w_cn (dY (by rw[hlen];decide)) (w_cn (dY (by rw[hlen];decide)) (w_cn (dY (by rw[hlen];decide)) (w_cn (dY (by rw[hlen];decide)) (w_cn (by rw[e3];simp [bT];omega) (w_nx ?_)))))
 show(_/\_/\Q15 P (dD _ _ _)/\out f x0 (dD _ _ _))/\(_:Nat)<_
 have ew:i64.wrap (z.1+1)=z.1+1:=by rw[wrap_i64];omega
 rw[e3]
 refine⟨⟨by rw[ew];omega,by rw[ew];omega,⟨by rw[dE];exact hl,z3.p1,z3.p2,Z89 z3.u (U_or _ _) _⟩,λj hj=> ?_⟩,by show(32-i64.wrap (z.1+1)).toNat<(32-z.1).toNat;rw[ew];omega⟩
 rw[getDset _ _ _ _ (by omega)]
 exact z4 j hj
theorem zaF(w:List Int)(h:w.length<=32):(Q5d w).w (λr=>r.length=4*w.length):=by
 have e0:i64.wrap (4*(w.length:Int))=4*w.length:=by rw[wrap_i64];omega
 unfold Q5d
 refine w_cn (by rw[e0];simp [bT,D.plain];omega) ?_
 refine w_lp (inv:=λz:Int×List Int=>0<=z.1/\z.1<=w.length/\(z.2.length:Int)=4*z.1) (μ:=Q7w w) ⟨by decide,by show(0:Int)<=w.length;omega,rfl⟩ (cK _) λz ⟨z1,z2,z3⟩=> ?_
 refine w_br (λhb=> ?_) (λhb=> ?_)
 . have hb:=oY hb
   have ew:i64.wrap (z.1+1)=z.1+1:=by rw[wrap_i64];omega
   refine w_cn (by simp [bT];omega) (w_cn (dY (by omega)) (w_nx ?_))
   show(_/\_/\_)/\(_:Nat)<_
   refine⟨⟨by rw[ew];omega,by rw[ew];omega,by rw[ew,lA];simp only[dF,dG];omega⟩,by show(w.length-i64.wrap (z.1+1)).toNat<(w.length-z.1).toNat;rw[ew];omega⟩
 . have hb:=oN hb
   show(bytesOf z.2).length=_
   rw[Qjq];omega
theorem Zle{P:Nat}{m:List Int}(h:Q15 P m)(f:Int):(Q7b m f).w (λr=>0<=f->f<P->r.1.length=128):=by
 have hl:=h.len
 have h2:=h.p2
 unfold Q7b
 refine w_lv λx0 hx0=>w_br (λhb=>λf0 f1=> ?_) (λhb=> ?_)
 . have hp:=Q3w h
   have hb:x0=false:=by simpa using hb
   rw[hb]at hx0
   simp only[Q5k,Q8x,Tree.m,letv,hp]at hx0
   rw[dY f0]at hx0
   exact absurd f1 (oN hx0.symm)
 . have hb:x0=true:=by simpa using hb
   obtain⟨f0,f1⟩:=vX h f (hx0.symm.trans hb)
   have e1:i64.wrap (f*32)=f*32:=by rw[wrap_i64];omega
   have e2:i64.wrap (i64.wrap (f*32)+32)=f*32+32:=by rw[wrap_i64,wrap_i64];omega
   have hlen:(cY (dC (i64.wrap (i64.wrap (f*32)+32))-dC (i64.wrap (f*32))) (cZ (dC (i64.wrap (f*32))) m)).length=32:=by
     rw[e2,e1,bD,bF];omega
   refine w_cn (by rw[e2,e1];simp [bT];omega) ?_
   refine w_an (by show dH _<=1000000000000;rw[hlen];decide) (w_lv λx1 h1=> ?_)
   have h1:x1.length=4*(cY (dC (i64.wrap (i64.wrap (f*32)+32))-dC (i64.wrap (f*32))) (cZ (dC (i64.wrap (f*32))) m)).length:=by rw[h1];exact(Tree.pp (zaF _ (dI hlen))).2
   intro _ _
   show x1.length=128
   rw[h1,hlen]
theorem Znx{f:Int}(hf:U f){P:Nat}(hP:P<=32)(h:decide (u64.wrap f<u64.wrap (P:Int))=true):0<=f/\f<P:=by
 have h:=oY h
 obtain⟨h1,h2⟩:=hf
 rw[wrap_u64,wrap_u64,dJ h1 (by omega),dJ (by omega) (by omega)]at h
 exact⟨h1,h⟩
theorem Zou{P:Nat}{m:List Int}(h:Q15 P m){d:Q0g}(hd:Q9m d)(e:Q07):(Q86 d m e).w (λr=>Q9m r.1/\Q15 P r.2.1/\out d.B4 m r.2.1/\(r.2.2=false->r.2.1=m)/\(∀p,Q1m d p=true->Q1m r.1 p=true)):=by
 have hcl:Q04 m=m:=rfl
 have keep: ∀b:Bool,Q9m d/\Q15 P m/\out d.B4 m m/\(b=false->m=m)/\(∀p,Q1m d p=true->Q1m d p=true):=λb=>⟨hd,h,Qr5 _ _,λ_=>rfl,λ_ h=>h⟩
 have blk: ∀{p:Int},Q1m d p=true->decide (d.Blocks>64)=false:=fun{p} hm=>by
   cases hb:decide (d.Blocks>64)
   . rfl
   . have:Q1m d p=false:=by simp only[Q1m,Q6j,Tree.m];rw[hb];rfl
     rw[this]at hm;cases hm
 have m2: ∀p,Q1m d p=true->Q1m {Blocks:=d.Blocks,C2:=d.C2,Frame:=d.Frame,C1:=2,D8:=0,B7:=0,B4:=0,C4:=[]} p=true:=λp hm=>by
   simp only[Q1m,Q6j,Tree.m];rw[blk hm];rfl
 have m3: ∀p,Q1m d p=true->Q1m {Blocks:=d.Blocks,C2:=d.C2,Frame:=d.Frame,C1:=3,D8:=0,B7:=0,B4:=0,C4:=[]} p=true:=λp hm=>by
   simp only[Q1m,Q6j,Tree.m];rw[blk hm];rfl
 unfold Q86
 refine w_br (λ_=>w_an (Qa7 h) (w_lv λx hx=>by rw[hcl]at hx;subst hx;exact keep _)) λ_=>w_br (λ_=>w_an (Qa7 h) (w_lv λx hx=>by rw[hcl]at hx;subst hx;exact keep _)) λ_=>w_br (λ_=>w_an (Qa7 h) (w_lv λx hx=>by rw[hcl]at hx;subst hx;exact keep _)) λ_=>w_an (Qa7 h) (w_lv λx3 hx3=> ?_)
 rw[hcl]at hx3;subst hx3
 have fin: ∀{m':List Int},Q15 P m'->out d.B4 x3 m'->(Tree.br (e.N==1) (.lf (({Blocks:=d.Blocks,C2:=d.C2,Frame:=d.Frame,C1:=2,D8:=0,B7:=0,B4:=0,C4:=[]}:Q0g),m',true)) (.lf (({Blocks:=d.Blocks,C2:=d.C2,Frame:=d.Frame,C1:=3,D8:=0,B7:=0,B4:=0,C4:=[]}:Q0g),m',true))).w (λr=>Q9m r.1/\Q15 P r.2.1/\out d.B4 x3 r.2.1/\(r.2.2=false->r.2.1=x3)/\(∀p,Q1m d p=true->Q1m r.1 p=true)):=λhm ho=>
   w_br (λ_=>⟨⟨hd.block,hd.frame,U_0,U_0⟩,hm,ho,(λh=>by cases h),m2⟩) (λ_=>⟨⟨hd.block,hd.frame,U_0,U_0⟩,hm,ho,(λh=>by cases h),m3⟩)
 have nod:(Tree.br (!decide (e.C8=[])) (.lf (d,x3,false)) (Tree.br (e.N==1) (.lf (({Blocks:=d.Blocks,C2:=d.C2,Frame:=d.Frame,C1:=2,D8:=0,B7:=0,B4:=0,C4:=[]}:Q0g),x3,true)) (.lf (({Blocks:=d.Blocks,C2:=d.C2,Frame:=d.Frame,C1:=3,D8:=0,B7:=0,B4:=0,C4:=[]}:Q0g),x3,true)))).w (λr=>Q9m r.1/\Q15 P r.2.1/\out d.B4 x3 r.2.1/\(r.2.2=false->r.2.1=x3)/\(∀p,Q1m d p=true->Q1m r.1 p=true)):=
   w_br (λ_=>keep _) (λ_=>fin h (Qr5 _ _))
 refine w_br (λ_=>w_br (λ_=>w_lv λx4 hx4=>w_br (λ_=>keep _) λhb=> ?_) (λ_=>nod)) (λ_=>nod)
 have hp:=Q3w h
 have hb:x4=true:=by simpa using hb
 rw[hb]at hx4
 simp only[Q9y,Qeo,Tree.m,letv,hp]at hx4
 obtain⟨f0,f1⟩:=Znx hd.opFrame h.p2 hx4.symm
 have ef:i64.wrap d.B4=d.B4:=by have:=h.p2;rw[wrap_i64];omega
 refine Q0e (Z5k h _ _) λx5 ⟨h5,o5,k5⟩=> ?_
 rw[ef]at o5
 exact w_br (λhf=>⟨hd,h5,o5,λ_=>k5 (by simpa using hf),λ_ h=>h⟩) (λ_=>fin h5 o5)
theorem ye{P:Nat}{m:List Int}(h:Q15 P m){n:Q0r}(hn:Qkr n)(frame:List UInt8):(Qar n m frame).w (λr=>Qkr r.1/\Q15 P r.2.1/\out n.B9 m r.2.1/\(r.2.2=false->r.2.1=m)/\(∀p,Q6i n p=true->Q6i r.1 p=true)):=by
 have hcl:Q04 m=m:=rfl
 have keep:Qkr n/\Q15 P m/\out n.B9 m m/\(false=false->m=m)/\(∀p,Q6i n p=true->Q6i n p=true):=⟨hn,h,Qr5 _ _,λ_=>rfl,λ_ h=>h⟩
 unfold Qar
 refine w_br (λ_=>w_an (Qa7 h) (w_lv λx hx=>by rw[hcl]at hx;subst hx;exact keep)) λhpo=>w_br (λ_=>w_an (Qa7 h) (w_lv λx hx=>by rw[hcl]at hx;subst hx;exact keep)) λl1=>w_br (λ_=>w_an (Qa7 h) (w_lv λx hx=>by rw[hcl]at hx;subst hx;exact keep)) λl2=>w_lv λx3 hx3=>w_br (λ_=>w_an (Qa7 h) (w_lv λx hx=>by rw[hcl]at hx;subst hx;exact keep)) λhb=> ?_
 have l1:=oN l1
 have l2:=oN l2
 have hp:=Q3w h
 have hb:x3=true:=by simpa using hb
 rw[hb]at hx3
 simp only[Qat,Qh2,Tree.m,letv,hp]at hx3
 obtain⟨f0,f1⟩:=Znx hn.buffer h.p2 hx3.symm
 have ef:i64.wrap n.B9=n.B9:=by have:=h.p2;rw[wrap_i64];omega
 refine Q0e (Zle h _) λx5 h5=> ?_
 rw[ef]at h5
 have h5:=h5 f0 f1
 have hmax:(maxLen:Nat)=9223372036854775807:=rfl
 refine w_cn (dY (by omega)) (w_cn (dY (by simp only[bD,bF,hmax];omega)) (Q0e (Z5k h _ _) λx6 ⟨h6,o6,_⟩=> ?_))
 rw[ef]at o6
 have hg:u32.wrap (frame.length:Int)=frame.length:=by rw[wrap_u32];omega
 refine⟨⟨hn.frame,hn.len,U_0,Q0v _⟩,h6,o6,(λh=>by cases h),λp _=> ?_⟩
 simp only[Q6i,Qmf,Tree.m]
 rw[hg,dY (show(frame.length:Int)>=1 by omega),dY (show(frame.length:Int)<=128 by omega)]
 rfl
theorem xah(c:Q0c)(b:Int):(Qc1 c b).w (λr=>Q2k c=true->Q2k r.1=true):=by
 have hmax:(maxLen:Nat)=9223372036854775807:=rfl
 unfold Qc1
 refine w_br (λ_=>λh=>h) (λhb=> ?_)
 have hb:=oN hb
 refine w_cn (dY (by rw[hmax];omega)) ?_
 intro _
 show decide (((c.D3++[_]).length:Int)<=16)=true
 rw[lA,cW]
 exact dY (by omega)
theorem yG(t:Q0j)(h:Q4q t=true):Q4q (Qmj t).1=true:=by
 simp only[Qmj,Qqf,Tree.m]
 cases ha:t.D2
 . exact h
 . rfl
theorem qf(m:Q00):Q10 m=(Q2k m.A6&&(Q4q m.B0&&(Q1m m.B1 (Q0z m.Mem)&&(Q6i m.C5 (Q0z m.Mem)&&Q2u m.A4 (Q0z m.Mem))))):=by
 simp only[Q10,Q1w,Tree.m,letv]
 cases Q2k m.A6<;>cases Q4q m.B0<;>cases Q1m m.B1 (Q0z m.Mem)<;>cases Q6i m.C5 (Q0z m.Mem)<;>rfl
theorem xaF{b c:Q08}(h:c.C3=b.C3)(p:Int):Q2u c p=Q2u b p:=by
 simp only[Q2u,Q4d,Tree.m,h]
theorem cnd{a x y:Bool}(h:x=true->y=true):(bif a then false else x)=true->(bif a then false else y)=true:=by cases a<;>simp_all
def chain(b1 b2 b3 b4 b5 b6 b7 w h dev:Bool):Bool:=bif b1 then false else bif b2 then false else bif b3 then false else bif b4 then false else bif b5 then false else bif b6 then false else bif b7 then false else bif w then(bif h then false else dev) else dev
theorem Zpf{b1 b2 b3 b4 b5 b6 b7 w h d d':Bool}(hd:d=true->d'=true):chain b1 b2 b3 b4 b5 b6 b7 w h d=true->chain b1 b2 b3 b4 b5 b6 b7 w h d'=true:=by
 refine cnd (cnd (cnd (cnd (cnd (cnd (cnd ?_))))))
 cases w
 . exact hd
 . cases h
   . exact hd
   . exact λh=>h
def mayC(p:Int)(c:Q05)(ct:Int)(w h dev:Bool):Bool:=chain (p==0) (c.X.a0 !=0) (decide (c.B6.a0>31)) (decide (c.B6.a7>31)) (decide (c.B6.a6>255)) (dB c.B6.a1 4 !=0) (decide (ct>1152921504606846976)) w h dev
theorem xf{p:Int}{c:Q05}{ct:Int}{w h d d':Bool}(hd:d=true->d'=true)(g:mayC p c ct w h d=true):mayC p c ct w h d'=true:=Zpf hd g
theorem qY(m:Q00):Q19 m=mayC (Q0z m.Mem) m.B2 m.A1 m.A7 m.A9 (Q10 m):=rfl
theorem Qw5{m n:Q00}(hp:Q0z n.Mem=Q0z m.Mem)(hcpu:n.B2=m.B2)(hct:n.A1=m.A1)(hw:n.A7=m.A7)(hh:n.A9=m.A9)
   (hc:Q2k m.A6=true->Q2k n.A6=true) (ht:Q4q m.B0=true->Q4q n.B0=true) (hd: ∀p,Q1m m.B1 p=true->Q1m n.B1 p=true) (hn: ∀p,Q6i m.C5 p=true->Q6i n.C5 p=true) (hb:n.A4.C3=m.A4.C3) (h:Q19 m=true):Q19 n=true:=by
 have dev:Q10 m=true->Q10 n=true:=λh=>by
   rw[qf]at h⊢
   simp only[aE]at h⊢
   rw[hp,xaF hb]
   exact⟨hc h.1,ht h.2.1,hd _ h.2.2.1,hn _ h.2.2.2.1,h.2.2.2.2⟩
 rw[qY]at h⊢
 rw[hp,hcpu,hct,hw,hh]
 exact xf dev h
section
variable {P:Nat} {m:List Int} (h:Q15 P m)
include h
theorem dpage{f:Int}(hf:U f){b:Bool}(hx:b=Q9y m f)(hb:b=true):0<=f/\f<P:=by
 have hp:=Q3w h
 rw[hb]at hx
 simp only[Q9y,Qeo,Tree.m,letv,hp]at hx
 exact Znx hf h.p2 hx.symm
theorem npage{f:Int}(hf:U f){b:Bool}(hx:b=Qat m f)(hb:b=true):0<=f/\f<P:=by
 have hp:=Q3w h
 rw[hb]at hx
 simp only[Qat,Qh2,Tree.m,letv,hp]at hx
 exact Znx hf h.p2 hx.symm
def keepD(P:Nat)(d d':Q0g):Prop:=Q9m d'/\(Q1m d P=true->Q1m d' P=true)
theorem zf{d:Q0g}(hd:Q9m d){cmd:Int}(hc:cmd=1\/cmd=2)(at0:Int):(Qdf d m cmd at0).w (λr=>keepD P d r.1/\r.2.length<=1):=by
 have h2:=h.p2
 have st3:(d.C1 !=0)=false->keepD P d {Blocks:=d.Blocks,C2:=d.C2,Frame:=d.Frame,C1:=3,D8:=d.D8,B7:=d.B7,B4:=d.B4,C4:=d.C4}:=λhs=>by
   have hs:d.C1=0:=by simpa using hs
   refine⟨⟨hd.block,hd.frame,hd.opBlock,hd.opFrame⟩,λhm=> ?_⟩
   simp only[Q1m,Q6j,Tree.m,hs]at hm⊢
   exact hm
 have blk:Q1m d P=true->decide (d.Blocks>64)=false:=λhm=>by
   cases hb:decide (d.Blocks>64)
   . rfl
   . have:Q1m d P=false:=by simp only[Q1m,Q6j,Tree.m];rw[hb];rfl
     rw[this]at hm;cases hm
 unfold Qdf
 refine w_br (λ_=>⟨⟨hd,λh=>h⟩,aT _⟩) λhs=>w_br (λ_=>⟨st3 hs,aT _⟩) λhb=>w_lv λx0 hx=>w_br (λ_=>⟨st3 hs,aT _⟩) λhp=> ?_
 have hb:=oN hb
 obtain⟨f0,f1⟩:=dpage h hd.frame hx (by simpa using hp)
 have ef:i64.wrap d.Frame=d.Frame:=by rw[wrap_i64];omega
 have e1:decide (d.C2<d.Blocks)=true:=dY (by omega)
 have e2:decide (i64.wrap d.Frame<(P:Int))=true:=by rw[ef];exact dY f1
 refine w_br (λhcm=>Q0e (Zle h _) λx1 h1=> ?_) (λhcm=> ?_)
 . rw[ef]at h1
   have h1:=h1 f0 f1
   have hcm:=eq_of_beq hcm
   subst hcm
   refine w_lv λx2 _=>⟨⟨⟨hd.block,hd.frame,hd.block,hd.frame⟩,λhm=> ?_⟩,aO _⟩
   simp only[Q1m,Q6j,Qa5,Q88,Tree.m,letv,blk hm,e1,e2,h1]
   rfl
 . have hc:cmd=1:=by
     rcases hc with h|h
     . exact h
     . rw[h]at hcm;exact absurd hcm (by decide)
   subst hc
   refine w_lv λx2 _=>⟨⟨⟨hd.block,hd.frame,hd.block,hd.frame⟩,λhm=> ?_⟩,aO _⟩
   simp only[Q1m,Q6j,Qa5,Q88,Tree.m,letv,blk hm,e1,e2]
   rfl
theorem qai{d:Q0g}(hd:Q9m d)(port:Int){v:Int}(hv:U v)(at0:Int):(Qio d m port v at0).w (λr=>keepD P d r.1/\r.2.length<=1):=by
 have keep:keepD P d d:=⟨hd,λh=>h⟩
 have e1: ∀{k:Int},(v==k)=true->i64.wrap v=k:=λhk=>by
   have:=eq_of_beq hk
   obtain⟨a,b⟩:=hv
   rw[wrap_i64];omega
 unfold Qio
 refine w_br (λ_=>⟨⟨⟨hv,hd.frame,hd.opBlock,hd.opFrame⟩,λh=>h⟩,aT _⟩) λ_=>w_br (λ_=>⟨⟨⟨hd.block,hv,hd.opBlock,hd.opFrame⟩,λh=>h⟩,aT _⟩) λ_=>w_br (λ_=>w_br (λhk=>Q0e (zf h hd (.inl (e1 hk)) _) λx hx=>hx) λ_=>w_br (λhk=>Q0e (zf h hd (.inr (e1 hk)) _) λx hx=>hx) λ_=>w_br (λ_=>w_lv λx hx=>w_br (λhb=> ?_) (λ_=>⟨keep,aT _⟩)) (λ_=>⟨keep,aT _⟩)) (λ_=>⟨keep,aT _⟩)
 refine⟨⟨⟨hd.block,hd.frame,hd.opBlock,hd.opFrame⟩,λhm=> ?_⟩,aT _⟩
 rw[hb]at hx
 simp only[Qaa,Qll,Tree.m]at hx
 cases h2:d.C1==2
 . rw[h2]at hx
   have h3:d.C1=3:=eq_of_beq hx.symm
   simp only[Q1m,Q6j,Tree.m,h3]at hm⊢
   exact hm
 . have h3:d.C1=2:=eq_of_beq h2
   simp only[Q1m,Q6j,Tree.m,h3]at hm⊢
   exact hm
def keepN(P:Nat)(n n':Q0r):Prop:=Qkr n'/\(Q6i n P=true->Q6i n' P=true)
theorem qaG{n:Q0r}(hn:Qkr n)(at0:Int):(Qit n m at0).w (λr=>r.length<=1):=by
 have h2:=h.p2
 unfold Qit
 refine w_br (λ_=>aT _) λl1=>w_br (λ_=>aT _) λl2=>w_lv λx0 hx=>w_br (λ_=>aT _) λhp=>Q0e (Zle h _) λx1 h1=> ?_
 have l1:=oN l1
 have l2:=oN l2
 obtain⟨f0,f1⟩:=npage h hn.frame hx (by simpa using hp)
 have ef:i64.wrap n.Frame=n.Frame:=by rw[wrap_i64];omega
 rw[ef]at h1
 have h1:=h1 f0 f1
 exact w_cn (dY (by omega)) (aO _)
theorem zaG{n:Q0r}(hn:Qkr n)(port:Int){v:Int}(hv:U v)(at0:Int):(Qmt n m port v at0).w (λr=>keepN P n r.1/\r.2.length<=1):=by
 have h2:=h.p2
 have keep:keepN P n n:=⟨hn,λh=>h⟩
 unfold Qmt
 refine w_br (λ_=>⟨⟨⟨hv,hn.len,hn.buffer,hn.got⟩,λh=>h⟩,aT _⟩) λ_=>w_br (λ_=>⟨⟨⟨hn.frame,hv,hn.buffer,hn.got⟩,λh=>h⟩,aT _⟩) λ_=>w_br (λ_=>w_br (λ_=>Q0e (qaG h hn _) λx hx=>⟨keep,hx⟩) λ_=>w_br (λ_=>w_lv λx hx=>w_br (λhb=>w_br (λnp=>w_br (λnr=> ?_) (λ_=>⟨keep,aT _⟩)) (λ_=>⟨keep,aT _⟩)) (λ_=>⟨keep,aT _⟩)) λ_=>w_br (λ_=> ?_) (λ_=>⟨keep,aT _⟩)) (λ_=>⟨keep,aT _⟩)
 . obtain⟨f0,f1⟩:=npage h hn.frame hx hb
   have np:n.C6=false:=by simpa using np
   have nr:n.B8=false:=by simpa using nr
   have e2:decide (i64.wrap n.Frame>=(P:Int))=false:=dN (by rw[wrap_i64];omega)
   refine⟨⟨⟨hn.frame,hn.len,hn.frame,hn.got⟩,λhm=> ?_⟩,aT _⟩
   simp only[Q6i,Qmf,Tree.m,np,nr,e2]at hm⊢
   cases hb:(n.B9 !=0)
   . rw[hb]at hm;exact hm
   . rw[hb]at hm;cases hm
 . refine⟨⟨⟨hn.frame,hn.len,hn.buffer,U_0⟩,λhm=> ?_⟩,aT _⟩
   simp only[Q6i,Qmf,Tree.m]at hm⊢
   revert hm
   cases n.C6<;>cases n.B8<;>cases decide (i64.wrap n.B9>=(P:Int))<;>cases(n.B9 !=0)<;>simp
end
theorem zai(t:Q0j)(v:Int):Q4q (Qmg t v)=true:=by
 simp only[Qmg,Qnt,Q4q,Qo0,Tree.m]
 cases h:(v !=0)
 . have:v=0:=by simpa using h
   subst this;rfl
 . rfl
theorem Qsh{a:Int}(k:Nat)(hk:k<=32):ishr .u32 a k=a/2^k:=by
 unfold ishr
 have e:min (k:Int).toNat u32.bits=k:=by show min (k:Int).toNat 32=k;omega
 have hp:(0:Int)<2^k:=dK (by decide)
 rw[e,dL _ (dM hp)]
def Zqb(x:Int)(n:Nat):Prop:=x<2^n/\(n=0\/(2:Int)^(n-1)<=x)
theorem Zc2{x q:Int}{n k:Nat}(hq:q=x/2^k)(h0:0<q)(h:Zqb q n):Zqb x (n+k):=by
 have hp:(0:Int)<2^k:=dK (by decide)
 obtain⟨h1,h2⟩:=h
 have hn:n≠0:=λe=>by subst e;simp at h1;omega
 refine⟨?_, .inr ?_⟩
 . rw[dO]
   have:x<(x/2^k+1)*2^k:=Int.lt_ediv_add_one_mul_self x hp
   have h3:(x/2^k+1)*2^k<=2^n*2^k:=dP (by omega) (dM hp)
   omega
 . have h2:=h2.resolve_left hn
   have e:n+k-1=(n-1)+k:=by omega
   rw[e,dO]
   have h3:(2:Int)^(n-1)*2^k<=q*2^k:=dP h2 (dM hp)
   have h4:q*2^k<=x:=by rw[hq];exact Int.ediv_mul_le x (Int.ne_of_gt hp)
   omega
theorem vG{x:Int}{n p:Nat}(h:Zqb x n)(hx:x<2^p):n<=p:=by
  obtain⟨h1,h2⟩:=h
  rcases h2 with h2|h2
  . omega
  . rcases Nat.lt_or_ge p n with hlt|hge
    . have:(2:Int)^p<=2^(n-1):=by
        have:=dQ (show 0<2 by omega) (show p<=n-1 by omega)
        exact_mod_cast this
      omega
    . exact hge
theorem Zk{x:Int}{n p:Nat}(h:Zqb x n)(hn:n<=p):x<2^p:=by
 have:(2:Int)^n<=2^p:=by
   have:=dQ (show 0<2 by omega) hn
   exact_mod_cast this
 exact Int.lt_of_lt_of_le h.1 this
def lenChk(i:Nat):Bool:=match(Q1o (i:Int)) with
 | .ofNat n=>decide ((i:Int)<2^n)&&(bS n 0||decide ((2:Int)^(n-1)<=i))&&decide (n<=8)
 |_=>false
theorem Qw9{q:Int}(h0:0<=q)(h1:q<256): ∃n:Nat,Q1o q=n/\Zqb q n/\n<=8:=by
 have all:List.all (dA 256) lenChk=true:=by kernel_rfl
 have:=List.all_eq_true.1 all q.toNat (List.mem_range.2 (by omega))
 have hq:((q.toNat:Nat):Int)=q:=by omega
 unfold lenChk at this
 rw[hq]at this
 split at this
 . rename_i n hn
   simp only[aE,aI,decide_eq_true_eq]at this
   refine⟨n,hn,⟨this.1.1,?_⟩,this.2⟩
   rcases this.1.2 with h|h
   . exact .inl (bE h)
   . exact .inr h
 . cases this
theorem xaG{x:Int}(h:U x)(hx:16777216<=x):Q1o x=24+Q1o (x/16777216):=by
 obtain⟨h0,h1⟩:=h
 have s16:ishr .u32 x 16=x/65536:=Qsh 16 (by omega)
 have s24:ishr .u32 (x/65536) 8=x/16777216:=by rw[show((8:Int))=((8:Nat):Int) from rfl,Qsh 8 (by omega)];omega
 have d1:decide (x>=65536)=true:=dY (by omega)
 have d2:decide (x/65536>=256)=true:=dY (by omega)
 have d3:decide (x/16777216>=65536)=false:=dN (by omega)
 have d4:decide (x/16777216>=256)=false:=dN (by omega)
 have u:u8.wrap (x/16777216)=x/16777216:=by rw[wrap_u8];omega
 simp only[Q1o,Q1x,Tree.m,s16,s24,d1,d2,d3,d4,u,cond_true,cond_false]
 generalize(aK _ (dC (x/16777216)) (0:UInt8))=b
 have hb:=dR b
 rw[wrap_i64,wrap_i64,wrap_i64,wrap_i64]
 omega
theorem qaH{x:Int}(h0:65536<=x)(h1:x<16777216):Q1o x=16+Q1o (x/65536):=by
 have s16:ishr .u32 x 16=x/65536:=Qsh 16 (by omega)
 have d1:decide (x>=65536)=true:=dY (by omega)
 have d2:decide (x/65536>=256)=false:=dN (by omega)
 have d3:decide (x/65536>=65536)=false:=dN (by omega)
 have u:u8.wrap (x/65536)=x/65536:=by rw[wrap_u8];omega
 simp only[Q1o,Q1x,Tree.m,s16,d1,d2,d3,u,cond_true,cond_false]
 generalize(aK _ (dC (x/65536)) (0:UInt8))=b
 have hb:=dR b
 rw[wrap_i64,wrap_i64,wrap_i64]
 omega
theorem len_8{x:Int}(h0:256<=x)(h1:x<65536):Q1o x=8+Q1o (x/256):=by
 have s8:ishr .u32 x 8=x/256:=Qsh 8 (by omega)
 have d1:decide (x>=65536)=false:=dN (by omega)
 have d2:decide (x>=256)=true:=dY (by omega)
 have d3:decide (x/256>=65536)=false:=dN (by omega)
 have d4:decide (x/256>=256)=false:=dN (by omega)
 have u:u8.wrap (x/256)=x/256:=by rw[wrap_u8];omega
 simp only[Q1o,Q1x,Tree.m,s8,d1,d2,d3,d4,u,cond_true,cond_false]
 generalize(aK _ (dC (x/256)) (0:UInt8))=b
 have hb:=dR b
 rw[wrap_i64,wrap_i64,wrap_i64,wrap_i64]
 omega
theorem Zqc{x:Int}(h:U x): ∃n:Nat,Q1o x=n/\Zqb x n:=by
  obtain⟨h0,h1⟩:=h
  rcases dS x 256 with a|a
  . obtain⟨n,e,l,_⟩:=Qw9 h0 a
    exact⟨n,e,l⟩
  . rcases dS x 65536 with b|b
    . obtain⟨n,e,l,_⟩:=Qw9 (q:=x/256) (by omega) (by omega)
      exact⟨n+8,by rw[len_8 a b,e];omega,Zc2 (k:=8) rfl (by omega) l⟩
    . rcases dS x 16777216 with c|c
      . obtain⟨n,e,l,_⟩:=Qw9 (q:=x/65536) (by omega) (by omega)
        exact⟨n+16,by rw[qaH b c,e];omega,Zc2 (k:=16) rfl (by omega) l⟩
      . obtain⟨n,e,l,_⟩:=Qw9 (q:=x/16777216) (by omega) (by omega)
        exact⟨n+24,by rw[xaG ⟨h0,h1⟩ c,e];omega,Zc2 (k:=24) rfl (by omega) l⟩
theorem Z3w{b:Q08}(h:U b.C3){P:Nat}:Q2u b P=true↔b.C3<2^P:=by
 obtain⟨n,e,l⟩:=Zqc h
 have hp:(if(0:Int)>(P:Int) then(0:Int) else P)=P:=by rw[if_neg (by omega)]
 simp only[Q2u,Q4d,Tree.m,letv,e,hp,decide_eq_true_eq]
 constructor
 . intro h;exact Zk l (by omega)
 . intro h;have:=vG l h;omega
theorem Zba{a:Int}(h:U a){P:Nat}(h1:a<2^P):(dT 32 a).toNat<2^P:=by
 obtain⟨a0,a1⟩:=h
 rw[dU,dJ a0 (by omega)]
 have:((2^P:Nat):Int)=(2:Int)^P:=by exact_mod_cast rfl
 omega
theorem or_lt{a b:Int}(ha:U a)(hb:U b){P:Nat}(hP:P<=32)(h1:a<2^P)(h2:b<2^P):ior .u32 a b<2^P:=by
 have e:(dT 32 a|||dT 32 b).toNat<2^P:=by
   rw[dV]
   exact Nat.or_lt_two_pow (Zba ha h1) (Zba hb h2)
 have hc:((2^P:Nat):Int)=(2:Int)^P:=by exact_mod_cast rfl
 have l:=(dT 32 a|||dT 32 b).isLt
 show wrap .u32 ((dT 32 a|||dT 32 b).toNat:Int)<2^P
 rw[wrap_u32]
 omega
theorem xai{a b:Int}(ha:U a){P:Nat}(h1:a<2^P):Qie .u32 a b<2^P:=by
 have e:(dT 32 a&&&~~~dT 32 b).toNat<2^P:=by
   rw[dW]
   exact Nat.lt_of_le_of_lt dX (Zba ha h1)
 have hc:((2^P:Nat):Int)=(2:Int)^P:=by exact_mod_cast rfl
 have l:=(dT 32 a&&&~~~dT 32 b).isLt
 show wrap .u32 ((dT 32 a&&&~~~dT 32 b).toNat:Int)<2^P
 rw[wrap_u32]
 omega
theorem yf{v:Int}(h0:0<=v)(h1:v<32):ishl .u32 1 v=2^v.toNat:=by
 have e:min v.toNat u32.bits=v.toNat:=by show min v.toNat 32=v.toNat;omega
 obtain⟨n,rfl⟩: ∃n:Nat,v=n:=⟨v.toNat,by omega⟩
 have hn:n<32:=by omega
 have hlt:(2:Nat)^n<4294967296:=by
   have:=dZ (show 1<2 by omega) hn
   simpa using this
 have hc:((2^n:Nat):Int)=(2:Int)^n:=by exact_mod_cast rfl
 unfold ishl
 rw[e,wrap_u32,Int.one_mul,eA,<-hc]
 clear hc e
 generalize(2:Nat)^n=z at*
 omega
def keepB(P:Nat)(b b':Q08):Prop:=okB b'/\(Q2u b P=true->Q2u b' P=true)
theorem Zqj{P:Nat}{m:List Int}(h:Q15 P m){b:Q08}(hb:okB b)(port:Int){v:Int}(hv:U v):(Q4a b m port v).w (λr=>keepB P b r.1/\Q15 P r.2):=by
 have hcl:Q04 m=m:=rfl
 have h2:=h.p2
 have hp:=Q3w h
 have keep:(Tree.an (Q0a m) (.lv (Q04 m) λx=> .lf (b,x))).w (λr=>keepB P b r.1/\Q15 P r.2):=w_an (Qa7 h) (w_lv λx hx=>by rw[hcl]at hx;subst hx;exact⟨⟨hb,λh=>h⟩,h⟩)
 unfold Q4a
 refine w_br (λ_=>keep) λhlt=>w_cn (dY hv.1) (w_br (λ_=>w_lv λx1 hx=>w_br (λhpg=>w_br (λ_=>w_an ⟨by decide,by decide,by decide⟩ (w_lv λx2 _=>Q0e (Z5k h _ _) λx3 ⟨h3,_⟩=> ?_)) (λ_=>keep)) (λ_=>keep)) (λ_=>w_br (λ_=>w_an (Qa7 h) (w_lv λx hx=> ?_)) (λ_=>keep)))
 . have hlt:=oN hlt
   have hpg:=oY hpg
   rw[hx,hp]at hpg
   obtain⟨v0,v1⟩:=hv
   have ev:i64.wrap v=v:=by rw[wrap_i64];omega
   rw[ev]at hpg
   refine⟨⟨⟨hb.1,Q0v _⟩,λhm=> ?_⟩,h3⟩
   rw[Z3w hb.2]at hm
   rw[Z3w (Q0v _)]
   have hs:ishl .u32 1 v<2^P:=by
     rw[yf v0 (by omega)]
     have:=dZ (show 1<2 by omega) (show v.toNat<P by omega)
     exact_mod_cast this
   exact or_lt hb.2 (Q0v _) h2 hm hs
 . rw[hcl]at hx;subst hx
   refine⟨⟨⟨hb.1,Q0v _⟩,λhm=> ?_⟩,h⟩
   rw[Z3w hb.2]at hm
   rw[Z3w (Q0v _)]
   exact xai hb.2 hm
structure kept(P:Nat)(m n:Q00):Prop where
 ok:okS P n
 dev:Q10 m=true->Q10 n=true
 cpu:n.B2=m.B2
 cnt:n.A1=m.A1
 wait:n.A7=m.A7
 halt:n.A9=m.A9
theorem Zg2{P:Nat}{m:Q00}(h:okS P m):kept P m m:=⟨h,λh=>h,rfl,rfl,rfl,rfl⟩
theorem Qre{P:Nat}{m n:Q00}(hm:Q15 P m.Mem)(hn:Q15 P n.Mem)(hc:Q2k m.A6=true->Q2k n.A6=true)(ht:Q4q m.B0=true->Q4q n.B0=true)
   (hd:Q1m m.B1 P=true->Q1m n.B1 P=true) (hk:Q6i m.C5 P=true->Q6i n.C5 P=true) (hb:Q2u m.A4 P=true->Q2u n.A4 P=true) (h:Q10 m=true):Q10 n=true:=by
 rw[qf]at h⊢
 rw[Q3w hm]at h
 rw[Q3w hn]
 simp only[aE]at h⊢
 exact⟨hc h.1,ht h.2.1,hd h.2.2.1,hk h.2.2.2.1,hb h.2.2.2.2⟩
theorem Zm5{P:Nat}{m:Q00}(h:okS P m)(port:Int){v:Int}(hv:U v)(at0:Int):(Q3z m port v at0).w (λr=>kept P m r.1/\r.2.length<=1):=by
 have k:=Zg2 h
 obtain⟨h1,h2,h3,h4,h5,h6⟩:=h
 have id: ∀{p:Prop},p->p:=λh=>h
 have D: ∀(x:Q0g×List Q03),(keepD P m.B1 x.1/\x.2.length<=1)->kept P m {B2:=m.B2,Mem:=m.Mem,A6:=m.A6,B0:=m.B0,B1:=x.1,C5:=m.C5,A4:=m.A4,A1:=m.A1,A7:=m.A7,A9:=m.A9}/\x.2.length<=1:=λx hx=>
   ⟨⟨⟨h1,h2,hx.1.1,h4,h5,h6⟩,Qre h2 h2 id id hx.1.2 id id,rfl,rfl,rfl,rfl⟩,hx.2⟩
 have N: ∀(x:Q0r×List Q03),(keepN P m.C5 x.1/\x.2.length<=1)->kept P m {B2:=m.B2,Mem:=m.Mem,A6:=m.A6,B0:=m.B0,B1:=m.B1,C5:=x.1,A4:=m.A4,A1:=m.A1,A7:=m.A7,A9:=m.A9}/\x.2.length<=1:=λx hx=>
   ⟨⟨⟨h1,h2,h3,hx.1.1,h5,h6⟩,Qre h2 h2 id id id hx.1.2 id,rfl,rfl,rfl,rfl⟩,hx.2⟩
 have B: ∀(x:Q08×List Int),(keepB P m.A4 x.1/\Q15 P x.2)->kept P m {B2:=m.B2,Mem:=x.2,A6:=m.A6,B0:=m.B0,B1:=m.B1,C5:=m.C5,A4:=x.1,A1:=m.A1,A7:=m.A7,A9:=m.A9}/\([]:List Q03).length<=1:=λx hx=>
   ⟨⟨⟨h1,hx.2,h3,h4,hx.1.1.1,hx.1.1.2⟩,Qre h2 hx.2 id id id id hx.1.2,rfl,rfl,rfl,rfl⟩,aT _⟩
 unfold Q3z
 repeat'(first
   |exact⟨k,aO _⟩
   |exact⟨k,aT _⟩
   |exact w_lv λx hx=>⟨⟨⟨h1,h2,h3,h4,h5,h6⟩,Qre h2 h2 id (λ_=>by rw[hx];exact zai _ _) id id id,rfl,rfl,rfl,rfl⟩,aT _⟩
   |exact Q0e (qai h2 h3 _ hv _) λx hx=>D x hx
   |exact Q0e (zaG h2 h4 _ hv _) λx hx=>N x hx
   |exact Q0e (Zqj h2 ⟨h5,h6⟩ _ hv) λx hx=>B x hx
   |refine w_br (λ_=> ?_) (λ_=> ?_))
theorem Zag(c:Q0c)(port:Int):(Qan c port).w (λr=>U r.2/\(Q2k c=true->Q2k r.1=true)):=by
 have u1:U 4294967295:=⟨by omega,by omega⟩
 unfold Qan
 refine w_br (λ_=>w_br (λ_=>⟨u1,λh=>h⟩) (λhb=>w_cn ?_ (w_cn ?_ ⟨Q0v _,λhm=> ?_⟩))) (λ_=>w_br (λ_=>⟨Q0v _,λh=>h⟩) (λ_=>⟨U_0,λh=>h⟩))
 . have hb:=oN hb
   have:0<c.D3.length:=List.length_pos_iff.2 hb
   simp [bT];omega
 . have hb:=oN hb
   have:0<c.D3.length:=List.length_pos_iff.2 hb
   exact dY (by omega)
 . have hm:decide ((c.D3.length:Int)<=16)=true:=hm
   have hm:=oY hm
   show decide (((cY _ (cZ _ c.D3)).length:Int)<=16)=true
   refine dY ?_
   rw[bD,bF];omega
theorem Zpt{P:Nat}{m:Q00}(h:okS P m)(port:Int){clock:Int}(hc:U clock):(Q3k m port clock).w (λr=>kept P m r.1/\U r.2):=by
 have k:=Zg2 h
 obtain⟨h1,h2,h3,h4,h5,h6⟩:=h
 have id: ∀{p:Prop},p->p:=λh=>h
 have ti: ∀t,U (Z2h t):=λt=>by
   refine Tree.post (Qrf t) (W:=U) ?_
   unfold Qrf
   exact w_br (λ_=>⟨by omega,by omega⟩) (λ_=>U_0)
 have di: ∀p,U (Qyl m.B1 p):=λp=>by
   refine Tree.post (Qvh m.B1 p) (W:=U) ?_
   unfold Qvh
   exact w_br (λ_=>h3.block) (λ_=>w_br (λ_=>h3.frame) (λ_=>w_br (λ_=>Q0v _) (λ_=>U_0)))
 have ni: ∀p,U (Z5x m.C5 p):=λp=>by
   refine Tree.post (Qva m.C5 p) (W:=U) ?_
   unfold Qva
   exact w_br (λ_=>h4.frame) (λ_=>w_br (λ_=>h4.got) (λ_=>w_br (λ_=>w_br (λ_=>w_br (λ_=>Q0v _) (λ_=>Q0v _)) (λ_=>w_br (λ_=>Q0v _) (λ_=>U_0))) (λ_=>U_0)))
 have bi: ∀p,(Qdh m.A4 p).w U:=λp=>by
   unfold Qdh
   exact w_br (λ_=>h5) (λ_=>w_br (λ_=>Q0e (Zmw h6) λ_ _=>Q0v _) (λ_=>U_0))
 have C: ∀(x:Q0c×Int),(U x.2/\(Q2k m.A6=true->Q2k x.1=true))->kept P m {B2:=m.B2,Mem:=m.Mem,A6:=x.1,B0:=m.B0,B1:=m.B1,C5:=m.C5,A4:=m.A4,A1:=m.A1,A7:=m.A7,A9:=m.A9}/\U x.2:=λx hx=>
   ⟨⟨⟨h1,h2,h3,h4,h5,h6⟩,Qre h2 h2 hx.2 id id id id,rfl,rfl,rfl,rfl⟩,hx.1⟩
 unfold Q3k
 repeat'(first
   |exact⟨k,hc⟩
   |exact⟨k,U_0⟩
   |exact Q0e (Zag _ _) λx hx=>C x hx
   |exact Zev (Zag _ _) λx hx=>C x hx
   |exact w_lv λx hx=>⟨k,by rw[hx];exact ti _⟩
   |exact w_lv λx hx=>⟨k,by rw[hx];exact di _⟩
   |exact w_lv λx hx=>⟨k,by rw[hx];exact ni _⟩
   |exact Q0e (bi _) λx hx=>⟨k,hx⟩
   |refine w_br (λ_=> ?_) (λ_=> ?_))
structure Q6f(c:Q05):Prop where
 x0:c.X.a0=0
 st:c.B6.a0<=31
 en:c.B6.a7<=31
 rt:c.B6.a6<=255
 ve:dB c.B6.a1 4=0
theorem Q6f.pc{c:Q05}(h:Q6f c)(p:Int):Q6f {X:=c.X,Pc:=p,B6:=c.B6}:=⟨h.x0,h.st,h.en,h.rt,h.ve⟩
theorem and31(a:Int):iand .u32 a 31<=31:=by
 have e:(dT 32 a&&&dT 32 31).toNat<=31:=by
   rw[dW]
   exact bH eB (by decide)
 show wrap .u32 ((dT 32 a&&&dT 32 31).toNat:Int)<=31
 rw[wrap_u32];omega
theorem and255'(a:Int):iand .u32 a 255<=255:=by have:=and255 a;omega
theorem andn3(a:Int):dB (Qie .u32 a 3) 4=0:=by
 have e:(dT 32 a&&&~~~dT 32 3).toNat%4=0:=by
   rw[dW,show(~~~dT 32 3).toNat=4294967292 by decide]
   have:=Nat.and_mod_two_pow (a:=(dT 32 a).toNat) (b:=4294967292) (n:=2)
   simpa using this
 have l:=(dT 32 a&&&~~~dT 32 3).isLt
 show dB (wrap .u32 ((dT 32 a&&&~~~dT 32 3).toNat:Int)) 4=0
 rw[wrap_u32,eC (by omega)]
 omega
theorem fin32{f:Int->Int}(h:(dA 32).all (λn=>decide (f n<=31))=true){s:Int}(h0:0<=s)(h1:s<=31):f s<=31:=by
 have:=List.all_eq_true.1 h s.toNat (List.mem_range.2 (by omega))
 have e:((s.toNat:Nat):Int)=s:=by omega
 rw[e]at this
 exact oY this
theorem Qo7{c:Q05}(h:Q2m c)(m:Q6f c)(k b:Int):Q6f (Q5 c k b):=
 ⟨m.x0,fin32 (f:=λs=>Qie .u32 (ior .u32 (Q9l (Q9l s 1 8) 2 16) 1) 2) (by kernel_rfl) h.a0.1 m.st,m.en,m.rt,m.ve⟩
theorem Zp4{c:Q05}(h:Q2m c)(m:Q6f c):Q6f (Qfm c):=
 ⟨m.x0,fin32 (f:=λs=>Q9l (Q9l s 8 1) 16 2) (by kernel_rfl) h.a0.1 m.st,m.en,m.rt,m.ve⟩
theorem Qww{c:Q05}(m:Q6f c){r:Int}(hr:0<=r/\r<16)(v:Int):(Qe5 c r v).w Q6f:=by
 unfold Qe5
 refine w_br (λhn=>w_cn (rc hr) ?_) (λ_=>m)
 have hn:r≠0:=by simpa using hn
 obtain⟨n,e⟩: ∃n:Nat,r.toNat=n+1:=⟨r.toNat-1,by omega⟩
 refine⟨?_,m.st,m.en,m.rt,m.ve⟩
 show(A16.of 0 (dD (A16.l c.X) r.toNat v)).a0=0
 rw[e]
 exact m.x0
theorem vf{c:Q05}(m:Q6f c)(k v:Int):(Qd5 c k v).w Q6f:=by
 unfold Qd5
 refine w_br (λhk=>w_cn (by rw[eq_of_beq hk];decide) ?_) λ_=>w_br (λhk=>w_cn (by rw[eq_of_beq hk];decide) ?_) λ_=>w_br (λhk=>w_cn (by rw[eq_of_beq hk];decide) ?_) λ_=>w_br (λhk=>w_cn (by rw[eq_of_beq hk];decide) ?_) λ_=>w_br (λhk=>w_cn (by rw[eq_of_beq hk];decide) ?_) λ_=>w_br (λhk=>w_cn (by rw[eq_of_beq hk];decide) ?_) λ_=>w_br (λhk=>w_cn (by rw[eq_of_beq hk];decide) ?_) λ_=>w_br (λhk=>w_cn (by rw[eq_of_beq hk];decide) ?_) (λ_=>m)
 all_goals(have hk:=eq_of_beq hk;subst hk)
 . exact⟨m.x0,and31 _,m.en,m.rt,m.ve⟩
 . exact⟨m.x0,m.st,and31 _,m.rt,m.ve⟩
 . exact⟨m.x0,m.st,m.en,and255' _,m.ve⟩
 . exact⟨m.x0,m.st,m.en,m.rt,andn3 _⟩
 . exact⟨m.x0,m.st,m.en,m.rt,m.ve⟩
 . exact⟨m.x0,m.st,m.en,m.rt,m.ve⟩
 . exact⟨m.x0,m.st,m.en,m.rt,m.ve⟩
 . exact⟨m.x0,m.st,m.en,m.rt,m.ve⟩
section
variable {c:Q05} (h:Q2m c) (m:Q6f c) {i:Q0o} (hi:Qgs i)
include h m hi
theorem Zks:(Q5i c i).w (λr=>Q6f r.1):=by
 unfold Q5i
 refine w_cn (rc hi.a) (w_cn (rc hi.b) ?_)
 repeat'(first
   |refine w_br (λ_=> ?_) (λ_=> ?_)
   |exact Q0e (Qww m hi.a _) λx hx=>hx.pc _
   |exact w_lv λx _=>w_br (λ_=>m.pc _) (λ_=>m.pc _)
   |exact w_lv λx hx=>by rw[hx];exact Qo7 h m _ _
   |exact w_lv λx hx=>by rw[hx];exact Zp4 h m
   |exact w_cn (by have:=hi.csr (by simp_all);simp [bT];omega) (Q0e (Qww m hi.a _) λx hx=>hx.pc _)
   |exact Q0e (vf m _ _) λx hx=>hx.pc _
   |refine w_cn (rc hi.c) ?_
   |exact Q0e (Z90 _ (h.r _) (Q0v _)) λy hy=>Q0e (Qww m hi.a _) λx hx=>hx.pc _
   |exact Q0e (Z90 _ (h.r _) (h.r _)) λy hy=>Q0e (Qww m hi.a _) λx hx=>hx.pc _
   |refine w_lf ?_)
 all_goals exact m.pc _
theorem qH{P:Nat}{mem:List Int}(hm:Q15 P mem):(Qfo c mem i).w (λr=>Q6f r.1):=by
 have w:=Zcr i.Op
 unfold Qfo
 refine w_cn (rc hi.b) (w_lv λx0 h0=> ?_)
 rw[<-h0]at w
 refine Q0e (Qmn hm (Q0v _) w 2) λx1 h1=>w_br (λ_=>w_lv λy hy=>by rw[hy];exact Qo7 h m _ _) (λ_=>w_lv λx3 h3=> ?_)
 rw[h0,<-h3]at w
 exact Q0e (Qtb h1.2 h1.1 w) λx4 h4=>w_br (λ_=>Q0e (Qy4 h4.1 8) λy hy=>Q0e (Qww m hi.a _) λx hx=>hx.pc _) (λ_=>Q0e (Qww m hi.a _) λx hx=>hx.pc _)
theorem qg{P:Nat}{mem:List Int}(hm:Q15 P mem):(Qd0 c mem i).w (λr=>Q6f r.1):=by
 have w:=Zcr i.Op
 unfold Qd0
 refine w_cn (rc hi.b) (w_lv λx0 h0=> ?_)
 rw[<-h0]at w
 refine Q0e (Qmn hm (Q0v _) w 3) λx1 h1=>w_br (λ_=>w_lv λy hy=>by rw[hy];exact Qo7 h m _ _) (λ_=>w_lv λx3 h3=>w_cn (rc hi.a) ?_)
 rw[h0,<-h3]at w
 exact Q0e (Z2d h1.2 h1.1 w (h.r _)) λx hx=>m.pc _
end
theorem xH{c:Q05}(h:Q2m c)(m:Q6f c){P:Nat}{mem:List Int}(hm:Q15 P mem):(Q7u c mem).w (λr=>Q6f r.1):=by
 unfold Q7u
 refine Q0e (Zdp hm h) λx0 h0=>w_br (λ_=>w_lv λy hy=>by rw[hy];exact Qo7 h m _ _) (λ_=>Q0e (Z5a _) λx2 h2=>w_br (λ_=>w_lv λy hy=>by rw[hy];exact Qo7 h m _ _) (λhb=> ?_))
 have hi:=h2 (by simpa using hb)
 refine w_lv λx4 _=> ?_
 repeat'(first
   |refine w_br (λ_=> ?_) (λ_=> ?_)
   |exact Q0e (qH h m hi h0.2) λx hx=>hx
   |exact Q0e (qg h m hi h0.2) λx hx=>hx
   |exact Q0e (Zks h m hi) λx hx=>hx
   |exact w_lv λy hy=>by rw[hy];exact Qo7 h m _ _
   |refine w_lv λ_ _=> ?_)
theorem Zmh{c:Q05}(h:Q2m c){i:Q0o}(hi:Qgs i):(Q5i c i).w (λr=>0<=r.2.D9/\r.2.D9<16):=by
 have z:(0:Int)<=0/\(0:Int)<16:=⟨by decide,by decide⟩
 unfold Q5i
 refine w_cn (rc hi.a) (w_cn (rc hi.b) ?_)
 repeat'(first
   |refine w_br (λ_=> ?_) (λ_=> ?_)
   |exact Q0e (Qsg h hi.a (Q0v _)) λx hx=>z
   |exact w_lv λx _=>w_br (λ_=>z) (λ_=>z)
   |exact w_lv λx hx=>z
   |exact w_cn (by have:=hi.csr (by simp_all);simp [bT];omega) (Q0e (Qsg h hi.a (h.a _)) λx hx=>z)
   |exact Q0e (Znd h _ (h.r _)) λx hx=>z
   |refine w_cn (rc hi.c) ?_
   |exact Q0e (Z90 _ (h.r _) (Q0v _)) λy hy=>Q0e (Qsg h hi.a hy) λx hx=>z
   |exact Q0e (Z90 _ (h.r _) (h.r _)) λy hy=>Q0e (Qsg h hi.a hy) λx hx=>z
   |refine w_lf ?_)
 all_goals first|exact z|exact hi.a
theorem Zo1{c:Q05}(h:Q2m c){P:Nat}{mem:List Int}(hm:Q15 P mem):(Q7u c mem).w (λr=>0<=r.2.2.D9/\r.2.2.D9<16):=by
 have z:(0:Int)<=0/\(0:Int)<16:=⟨by decide,by decide⟩
 unfold Q7u
 refine Q0e (Zdp hm h) λx0 h0=>w_br (λ_=>w_lv λy hy=>z) (λ_=>Q0e (Z5a _) λx2 h2=>w_br (λ_=>w_lv λy hy=>z) (λhb=> ?_))
 have hi:=h2 (by simpa using hb)
 refine w_lv λx4 _=> ?_
 repeat'(first
   |refine w_br (λ_=> ?_) (λ_=> ?_)
   |exact Q0e (Z6i h hi h0.2) λx hx=>z
   |exact Q0e (Z0t h hi h0.2) λx hx=>z
   |exact Q0e (Zmh h hi) λx hx=>hx
   |exact w_lv λy hy=>z
   |refine w_lv λ_ _=> ?_)
theorem cnd2{a x:Bool}:(bif a then false else x)=true↔a=false/\x=true:=by cases a<;>simp
theorem Qn5(m:Q00):Q19 m=true↔Q0z m.Mem≠0/\Q6f m.B2/\m.A1<=1152921504606846976/\ ¬(m.A7=true/\m.A9=true)/\Q10 m=true:=by
  rw[qY]
  unfold mayC chain
  rw[cnd2,cnd2,cnd2,cnd2,cnd2,cnd2,cnd2]
  simp only[decide_eq_false_iff_not,Int.not_lt,beq_eq_false_iff_ne,bne_eq_false_iff_eq,gt_iff_lt]
  constructor
  . rintro⟨a1,a2,a3,a4,a5,a6,a7,a8⟩
    refine⟨a1,⟨a2,a3,a4,a5,a6⟩,a7,?_,?_⟩
    . rintro⟨w,h⟩;rw[w,h]at a8;cases a8
    . revert a8;cases m.A7
      . exact λh=>h
      . cases m.A9
        . exact λh=>h
        . intro h;cases h
  . rintro⟨a1,⟨a2,a3,a4,a5,a6⟩,a7,a8,a9⟩
    refine⟨a1,a2,a3,a4,a5,a6,a7,?_⟩
    rw[a9]
    cases hw:m.A7
    . rfl
    . cases hh:m.A9
      . rfl
      . exact absurd ⟨hw,hh⟩ a8
theorem Z2o{m:Q00}(h:Q2g m=true):Q19 m=true/\m.A9=false/\m.A1<1152921504606846976:=by
  simp only[Q2g,Q49,Tree.m,letv]at h
  cases h1:Q19 m
  . rw[h1]at h;cases h
  . cases h2:m.A9
    . rw[h1,h2]at h
      cases h3:Q38 m
      . rw[h3]at h
        have h:decide (m.A1<1152921504606846976)=true:=h
        exact⟨rfl,rfl,oY h⟩
      . rw[h3]at h;cases h
    . rw[h1,h2]at h;cases h
theorem Qud{P:Nat}{m:Q00}(h:okS P m)(g:Q6f m.B2):(Q2z m).w (λr=>Q6f r.B2/\okS P r/\r.Mem=m.Mem/\r.A7=false/\r.A9=m.A9/\r.A1=m.A1/\r.A6=m.A6/\r.B0=m.B0/\r.B1=m.B1/\r.C5=m.C5/\r.A4=m.A4):=by
 obtain⟨h1,h2,h3,h4,h5,h6⟩:=h
 unfold Q2z
 refine w_br (λ_=>⟨g,⟨h1,h2,h3,h4,h5,h6⟩,rfl,rfl,rfl,rfl,rfl,rfl,rfl,rfl,rfl⟩) (λ_=>Q0e (Qz9 (m:=⟨_,_,_,_,_,_,m.A4,_,_,_⟩) h6) λx0 _=>w_lp (inv:=λz=>0<=z/\z<=5) (μ:=Qdc m) ⟨by omega,by omega⟩ (cK _) (λz hz=> ?_))
 obtain⟨z1,z2⟩:=hz
 refine w_br (λhb=>w_cn (dY z1) (w_br (λ_=>w_lv λx1 hx=>⟨by rw[hx];exact Qo7 h1 g _ _,⟨by rw[hx];exact Qqn h1 _ U_0,h2,h3,h4,h5,h6⟩,rfl,rfl,rfl,rfl,rfl,rfl,rfl,rfl,rfl⟩) (λ_=>w_nx ?_))) (λ_=>⟨g,⟨h1,h2,h3,h4,h5,h6⟩,rfl,rfl,rfl,rfl,rfl,rfl,rfl,rfl,rfl⟩)
 have hb:=oY hb
 show(0<=i64.wrap (z+1)/\i64.wrap (z+1)<=5)/\(5-i64.wrap (z+1)).toNat<(5-z).toNat
 have ew:i64.wrap (z+1)=z+1:=by rw[wrap_i64];omega
 rw[ew];omega
structure Good(P:Nat)(m r:Q00):Prop where
 ok:okS P r
 cnt:0<=r.A1
 may:Q19 m=true->Q19 r=true
 or:r=m\/r.A1=m.A1+1
theorem Z6x(m:Q00){port:Int}(hp:(port==2)=false)(a b:Int):Q16 m port a=Q16 m port b:=by
 simp only[Q16,Q3k,Tree.m,hp,cond_false]
theorem Zpl{m:Q00}(h:Q1y m=false)(a b:Int):Q1z m a=Q1z m b:=by
 have hcl:Q04 m.Mem=m.Mem:=rfl
 have e:(⟨m.B2,m.Mem,m.A6,m.B0,m.B1,m.C5,m.A4,m.A1,m.A7,m.A9⟩:Q00)=m:=rfl
 simp only[Q1y,Q2d,Tree.m,letv]at h
 simp only[Q1z,Q2y,Tree.m,letv,hcl,e]
 cases hr:Q2g m
 . rfl
 . rw[hr]at h
   have h:(bif(Q5b (Q0u m).B2 (Q0u m).Mem).2.2.B5==1 then(Q5b (Q0u m).B2 (Q0u m).Mem).2.2.D1==2 else false)=false:=h
   cases hk:(Q5b (Q0u m).B2 (Q0u m).Mem).2.2.B5==1
   . rfl
   . rw[hk]at h
     have hp:((Q5b (Q0u m).B2 (Q0u m).Mem).2.2.D1==2)=false:=h
     rw[Z6x _ hp a b]
theorem xg{P:Nat}{m:Q00}(h:okS P m)(hc0:0<=m.A1){clock:Int}(hk:U clock):(Q2y m clock).w (λr=>r.2.length<=1/\Good P m r.1):=by
 have hcl:Q04 m.Mem=m.Mem:=rfl
 unfold Q2y
 refine w_an (Qa7 h.mem) (w_lv λl hl=> ?_)
 rw[hcl]at hl;subst hl
 refine w_an (Tree.pp (Zlr (m:=⟨_,_,_,_,_,_,m.A4,_,_,_⟩) h.given)).1 (w_lv λx1 hx1=>w_br (λ_=>⟨aT _,h,hc0,λh=>h, .inl rfl⟩) (λhb=> ?_))
 have hr:Q2g m=true:=by rw[<-show x1=Q2g m from hx1];simpa using hb
 obtain⟨hm,hh,hct⟩:=Z2o hr
 obtain⟨g1,g2,g3,g4,g5⟩:=(Qn5 m).1 hm
 have hP:(P:Int)≠0:=by rw[<-Q3w h.mem];exact g1
 have fin: ∀(n:Q00),okS P n->Q6f n.B2->Q10 n=true->n.A1=m.A1-> ¬(n.A7=true/\n.A9=true)->Good P m {B2:=n.B2,Mem:=n.Mem,A6:=n.A6,B0:=n.B0,B1:=n.B1,C5:=n.C5,A4:=n.A4,A1:=wrap .u64 (n.A1+1),A7:=n.A7,A9:=n.A9}:=λn a b c d e=>by
   have ec:wrap .u64 (n.A1+1)=m.A1+1:=by rw[d,wrap_u64];omega
   refine⟨⟨a.cpu,a.mem,a.disk,a.nic,a.target,a.given⟩,?_,λ_=>(Qn5 _).2 ⟨?_,b,?_,e,c⟩, .inr ec⟩
   . show 0<=wrap .u64 (n.A1+1);omega
   . show Q0z n.Mem≠0;rw[Q3w a.mem];exact hP
   . show wrap .u64 (n.A1+1)<=_;omega
 refine Q0e (Qud (m:=⟨_,_,m.A6,m.B0,m.B1,m.C5,m.A4,m.A1,m.A7,m.A9⟩) ⟨h.cpu,h.mem,h.disk,h.nic,h.target,h.given⟩ g2) λx2 hx2=> ?_
 obtain⟨b1,b2,b3,b4,b5,b6,b7,b8,b9,b10,b11⟩:=hx2
 have ex:=Tree.pp (vw b2.cpu b2.mem)
 have em:=Tree.pp (xH b2.cpu b1 b2.mem)
 have er:=Tree.pp (Zo1 b2.cpu b2.mem)
 refine w_an ex.1 (w_lv λx3 h3=> ?_)
 obtain⟨e1,e2,e3⟩:Q2m x3.1/\Q15 P x3.2.1/\U x3.2.2.Value:=by rw[h3];exact ex.2
 have f1:Q6f x3.1:=by rw[h3];exact em.2
 have r1:0<=x3.2.2.D9/\x3.2.2.D9<16:=by rw[h3];exact er.2
 have ok3:okS P ⟨x3.1,x3.2.1,x2.A6,x2.B0,x2.B1,x2.C5,x2.A4,x2.A1,x2.A7,x2.A9⟩:=⟨e1,e2,b2.disk,b2.nic,b2.target,b2.given⟩
 have dev: ∀(w h:Bool),Q10 ⟨x3.1,x3.2.1,x2.A6,x2.B0,x2.B1,x2.C5,x2.A4,x2.A1,w,h⟩=true:=λw hh=>by
   have id: ∀{p:Prop},p->p:=λh=>h
   refine Qre (m:=m) (P:=P) h.mem e2 ?_ ?_ ?_ ?_ ?_ g5
   . show _->Q2k x2.A6=true;rw[b7];exact id
   . show _->Q4q x2.B0=true;rw[b8];exact id
   . show _->Q1m x2.B1 P=true;rw[b9];exact id
   . show _->Q6i x2.C5 P=true;rw[b10];exact id
   . show _->Q2u x2.A4 P=true;rw[b11];exact id
 have hw:x2.A7=false:=b4
 have hh2:x2.A9=false:=b5.trans hh
 have hct2:x2.A1=m.A1:=b6
 refine w_br (λ_=> ?_) λ_=>w_br (λ_=> ?_) λ_=>w_br (λ_=> ?_) λ_=>w_br (λ_=> ?_) λ_=> ?_
 . refine Q0e (Zpt ok3 _ hk) λx4 h4=> ?_
   obtain⟨k,u⟩:=h4
   have kc:x4.1.B2=x3.1:=k.cpu
   have kt:x4.1.A1=m.A1:=k.cnt.trans hct2
   have kw: ¬(x4.1.A7=true/\x4.1.A9=true):=λe=>by have:x4.1.A7=x2.A7:=k.wait;rw[this,hw]at e;cases e.1
   have km:Q6f x4.1.B2:=by rw[kc];exact f1
   refine w_br (λhn=>w_cn (rc r1) ⟨aT _,?_⟩) (λ_=>⟨aT _,fin x4.1 k.ok km (k.dev (dev _ _)) kt kw⟩)
   have hn:x3.2.2.D9≠0:=by simpa using hn
   obtain⟨q,e⟩: ∃q:Nat,x3.2.2.D9.toNat=q+1:=⟨x3.2.2.D9.toNat-1,by omega⟩
   refine fin ⟨⟨A16.of 0 (dD (A16.l x4.1.B2.X) x3.2.2.D9.toNat x4.2),x4.1.B2.Pc,x4.1.B2.B6⟩,x4.1.Mem,x4.1.A6,x4.1.B0,x4.1.B1,x4.1.C5,x4.1.A4,x4.1.A1,x4.1.A7,x4.1.A9⟩ ⟨⟨Zk4 k.ok.cpu.x u _,k.ok.cpu.pc,k.ok.cpu.csr⟩,k.ok.mem,k.ok.disk,k.ok.nic,k.ok.target,k.ok.given⟩ ⟨?_,km.st,km.en,km.rt,km.ve⟩ (k.dev (dev _ _)) kt kw
   show(A16.of 0 (dD (A16.l x4.1.B2.X) x3.2.2.D9.toNat x4.2)).a0=0
   rw[e]
   exact km.x0
 . refine Q0e (Zm5 ok3 _ e3 _) λx5 h5=> ?_
   obtain⟨k,u⟩:=h5
   have kc:x5.1.B2=x3.1:=k.cpu
   exact⟨u,fin x5.1 k.ok (by rw[kc];exact f1) (k.dev (dev _ _)) (k.cnt.trans hct2) (λe=>by have:x5.1.A7=x2.A7:=k.wait;rw[this,hw]at e;cases e.1)⟩
 . exact⟨aT _,fin ⟨x3.1,x3.2.1,x2.A6,x2.B0,x2.B1,x2.C5,x2.A4,x2.A1,true,x2.A9⟩ ⟨e1,e2,b2.disk,b2.nic,b2.target,b2.given⟩ f1 (dev _ _) hct2 (λe=>by have e2:x2.A9=true:=e.2;rw[hh2]at e2;cases e2)⟩
 . exact⟨aT _,fin ⟨x3.1,x3.2.1,x2.A6,x2.B0,x2.B1,x2.C5,x2.A4,x2.A1,x2.A7,true⟩ ⟨e1,e2,b2.disk,b2.nic,b2.target,b2.given⟩ f1 (dev _ _) hct2 (λe=>by have e2:x2.A7=true:=e.1;rw[hw]at e2;cases e2)⟩
 . exact⟨aT _,fin ⟨x3.1,x3.2.1,x2.A6,x2.B0,x2.B1,x2.C5,x2.A4,x2.A1,x2.A7,x2.A9⟩ ok3 f1 (dev _ _) hct2 (λe=>by have e2:x2.A7=true:=e.1;rw[hw]at e2;cases e2)⟩
theorem Zne{P:Nat}{m:Q00}(h:okM P m){e:Q07}(he:U e.N):(Q4l m e).w (λr=>(Q19 m=true->Q19 r.1=true)/\r.1.A1=m.A1/\U r.1.A4.C3):=by
 obtain⟨h1,h2,h3,h4,h5,h7⟩:=h
 have hcl:Q04 m.Mem=m.Mem:=rfl
 have pg: ∀{m':List Int},Q15 P m'->Q0z m'=Q0z m.Mem:=λh=>by rw[Q3w h,Q3w h2]
 have keep:(Q19 m=true->Q19 m=true)/\m.A1=m.A1/\U m.A4.C3:=⟨λh=>h,rfl,h5.2⟩
 unfold Q4l
 refine w_an (Qa7 h2) (w_lv λl hl=> ?_)
 rw[hcl]at hl;subst hl
 refine Q0e (Zar (m:=⟨_,_,_,_,_,_,m.A4,_,_,_⟩) h5.2) λx1 _=>w_br (λ_=>keep) λ_=>w_br (λ_=>keep) λ_=> ?_
 refine w_br (λ_=>w_br (λ_=>w_br (λ_=>w_lv λx hx=> ?_) (λ_=>keep)) (λ_=>keep)) λ_=>w_br (λ_=>w_br (λ_=>w_br (λ_=>Q0e (xah _ _) λx hx=> ?_) (λ_=>keep)) (λ_=>keep)) λ_=>w_br (λhk=>Q0e (Zou h2 h3 e) λx hx=> ?_) λ_=>w_br (λhk=>w_br (λ_=>Q0e (ye h2 h4 _) λx hx=> ?_) (λ_=>keep)) λ_=>w_br (λ_=>w_br (λ_=> ?_) (λ_=>keep)) (λ_=>keep)
 . exact⟨Qw5 rfl rfl rfl rfl rfl (λh=>h) (λh=>by rw[hx];exact yG _ h) (λ_ h=>h) (λ_ h=>h) rfl,rfl,h5.2⟩
 . exact⟨Qw5 rfl rfl rfl rfl rfl hx (λh=>h) (λ_ h=>h) (λ_ h=>h) rfl,rfl,h5.2⟩
 . obtain⟨a1,a2,a3,a4,a5⟩:=hx
   exact⟨Qw5 (pg a2) rfl rfl rfl rfl (λh=>h) (λh=>h) a5 (λ_ h=>h) rfl,rfl,h5.2⟩
 . obtain⟨a1,a2,a3,a4,a5⟩:=hx
   exact⟨Qw5 (pg a2) rfl rfl rfl rfl (λh=>h) (λh=>h) (λ_ h=>h) a5 rfl,rfl,h5.2⟩
 . exact⟨Qw5 rfl rfl rfl rfl rfl (λh=>h) (λh=>h) (λ_ h=>h) (λ_ h=>h) rfl,rfl,h5.2⟩
structure okW(m:Q00):Prop where
 cpu:Q2m m.B2
 u: ∀w∈m.Mem,U w
 len:m.Mem.length<=1024
 disk:Q9m m.B1
 nic:Qkr m.C5
 bal:okB m.A4
 cnt:0<=m.A1
theorem Qyg{a:Int}(h:U a):(dT 32 a).toNat=a.toNat:=by
 obtain⟨h1,h2⟩:=h
 rw[dU];omega
theorem Zjq{a b:Int}(ha:U a)(hb:U b):iand .u32 a b=((a.toNat&&&b.toNat:Nat):Int):=by
 have l:=(dT 32 a&&&dT 32 b).isLt
 have e:(dT 32 a&&&dT 32 b).toNat=a.toNat&&&b.toNat:=by rw[dW,Qyg ha,Qyg hb]
 show wrap .u32 ((dT 32 a&&&dT 32 b).toNat:Int)=_
 rw[wrap_u32,<-e];omega
theorem zaH{a b:Int}(ha:U a)(hb:U b):ior .u32 a b=((a.toNat|||b.toNat:Nat):Int):=by
 have l:=(dT 32 a|||dT 32 b).isLt
 have e:(dT 32 a|||dT 32 b).toNat=a.toNat|||b.toNat:=by rw[dV,Qyg ha,Qyg hb]
 show wrap .u32 ((dT 32 a|||dT 32 b).toNat:Int)=_
 rw[wrap_u32,<-e];omega
theorem Zcz{a:Int}(ha:U a)(k:Nat)(hk:k<=32){q:Int}(hq:q=((2^k-1:Nat):Int)):iand .u32 a q=a%2^k:=by
 have hp:2^k<=2^32:=dQ (by decide) hk
 have h1:(2:Nat)^32=4294967296:=by decide
 have hpos:=eD k
 subst hq
 rw[Zjq ha ⟨by omega,by omega⟩,eA,Nat.and_two_pow_sub_one_eq_mod]
 have:=ha.1
 rw[Int.natCast_emod,eF this]
 simp
theorem m15{a:Int}(ha:U a):iand .u32 a 15=a%16:=Zcz ha 4 (by decide) rfl
theorem m255{a:Int}(ha:U a):iand .u32 a 255=a%256:=Zcz ha 8 (by decide) rfl
theorem m65535{a:Int}(ha:U a):iand .u32 a 65535=a%65536:=Zcz ha 16 (by decide) rfl
theorem Quh(p:Int->Bool)(N:Nat)(h:(dA N).all (λn=>p n)=true){s:Int}(h0:0<=s)(h1:s<N):p s=true:=by
 have:=List.all_eq_true.1 h s.toNat (List.mem_range.2 (by omega))
 rwa [eF h0]at this
theorem w64{x:Int}(h0: -9223372036854775808<=x)(h1:x<9223372036854775808):wrap .i64 x=x:=by rw[wrap_i64];omega
theorem shr0(a:Int):ishr .u32 a 0=a:=by have:=Qsh (a:=a) 0 (by decide);simpa using this
theorem fld(w:Int):Q36 w 24 8=iand .u32 (ishr .u32 w 24) 255/\Q36 w 20 4=iand .u32 (ishr .u32 w 20) 15/\Q36 w 16 4=iand .u32 (ishr .u32 w 16) 15/\Q36 w 0 16=iand .u32 (ishr .u32 w 0) 65535/\Q36 w 8 8=iand .u32 (ishr .u32 w 8) 255:=
 ⟨by kernel_rfl,by kernel_rfl,by kernel_rfl,by kernel_rfl,by kernel_rfl⟩
def useOf(f:Int):Q9g×Bool:=
 bif f==1 then(⟨false,false,false,0,0⟩,true) else bif f==2 then(⟨true,true,true,0,0⟩,true) else bif f==3 then(⟨true,true,false,-32768,32767⟩,true)
 else bif f==4 then(⟨true,true,false,0,65535⟩,true) else bif f==5 then(⟨true,true,false,0,31⟩,true) else bif f==6 then(⟨true,false,false,0,65535⟩,true)
 else bif f==7 then(⟨true,false,false,-32768,32767⟩,true) else bif f==8 then(⟨true,false,false,0,7⟩,true) else bif f==9 then(⟨true,false,false,0,11⟩,true) else(⟨false,false,false,0,0⟩,false)
def sameU(x y:Q9g×Bool):Bool:=x.1.a==y.1.a&&x.1.b==y.1.b&&x.1.c==y.1.c&&x.1.low==y.1.low&&x.1.D6==y.1.D6&&x.2==y.2
theorem zH{x y:Q9g×Bool}(h:sameU x y=true):x=y:=by
 obtain⟨⟨a,b,c,d,e⟩,f⟩:=x
 obtain⟨⟨a',b',c',d',e'⟩,f'⟩:=y
 simp only[sameU,aE,beq_iff_eq]at h
 obtain⟨⟨⟨⟨⟨rfl,rfl⟩,rfl⟩,rfl⟩,rfl⟩,rfl⟩:=h
 rfl
theorem xY{op:Int}(h0:0<=op)(h1:op<256):Z4o op=useOf (Q2i op):=by
 exact zH (Quh (λop=>sameU (Z4o op) (useOf (Q2i op))) 256 (by kernel_rfl) h0 h1)
theorem zg{op:Int}(h0:0<=op)(h1:op<256):Q2i op=0\/Q2i op=1\/Q2i op=2\/Q2i op=3\/Q2i op=4\/Q2i op=5\/Q2i op=6\/Q2i op=7\/Q2i op=8\/Q2i op=9:=by
 have:=oY (Quh (λop=>decide (0<=Q2i op/\Q2i op<=9)) 256 (by kernel_rfl) h0 h1)
 omega
theorem qaj{op:Int}(h0:0<=op)(h1:op<256):Q9d op=Q3m op:=by
 exact eq_of_beq (Quh (λop=>Q9d op==Q3m op) 256 (by kernel_rfl) h0 h1)
theorem yH{a x y:Bool}:(cond a x y=true)↔((a=true/\x=true)\/(a=false/\y=true)):=by cases a<;>simp
theorem Zed{i:Q0o}(h0:0<=i.Op)(h1:i.Op<256)(hi:wrap .i64 i.Imm=i.Imm):Qh7 i=Q85 i:=by
 rw[eG]
 simp only[Qh7,Qjs,Tree.m,letv,Q85,Qgy,xY h0 h1,hi]
 rcases zg h0 h1 with h|h|h|h|h|h|h|h|h|h<;>rw[h]<;>
 simp [useOf,Qa9,Qg,Q8f,Qe2,Qne,Qnz,Tree.m,letv,yH]<;>omega
theorem sx16{x:Int}(h0:0<=x)(h1:x<65536):wrap .i32 (Q2j x 16)=wrap .i32 (wrap .i16 x):=by
 have e:Q2j x 16=wrap .u32 (ishr .i32 (wrap .i32 (ishl .u32 x 16)) 16):=by kernel_rfl
 have e2: ∀y,ishr .i32 y 16=y/65536:=λy=>by
   show eH y 65536=_
   rw[dL _ (by decide)]
 have e3:ishl .u32 x 16=wrap .u32 (x*65536):=rfl
 have e4:wrap .i16 x=(x+32768)%65536-32768:=by
   simp [wrap,IntKind.bits,IntKind.signed]
   split<;>omega
 rw[e,e2,e3,e4]
 simp only[wrap_i32,wrap_u32]
 omega
theorem sx8{x:Int}(h0:0<=x)(h1:x<256):Q2j x 8=Q3f x 8:=by
 exact eq_of_beq (Quh (λx=>Q2j x 8==Q3f x 8) 256 (by kernel_rfl) h0 h1)
theorem yg{w:Int}(hw:U w):Qiu w=Q25 w:=by
 obtain⟨f1,f2,f3,f4,_⟩:=fld w
 obtain⟨w0,w1⟩:=hw
 have s24:ishr .u32 w 24=w/16777216:=by have:=Qsh (a:=w) 24 (by decide);simpa using this
 have s20:U (ishr .u32 w 20):=Qz0 ⟨w0,w1⟩ _
 have s16:U (ishr .u32 w 16):=Qz0 ⟨w0,w1⟩ _
 rw[m255 (Qz0 ⟨w0,w1⟩ _),s24]at f1
 rw[m15 s20]at f2
 rw[m15 s16]at f3
 rw[shr0]at f4
 have g1:w/16777216%256=w/16777216:=by omega
 rw[g1]at f1
 have o0:0<=w/16777216:=by omega
 have o1:w/16777216<256:=by omega
 have eo:wrap .i64 (w/16777216)=w/16777216:=w64 (by omega) (by omega)
 have i32: ∀x,wrap .i64 (wrap .i32 x)=wrap .i32 x:=λx=>by rw[wrap_i64,wrap_i32];omega
 have l0:=m65535 ⟨w0,w1⟩
 have lx:=sx16 (x:=iand .u32 w 65535) (by omega) (by omega)
 simp only[Qiu,Q8d,Q25,Q6y,Tree.m,letv,f1,f2,f3,f4,s24,eo,xY o0 o1,m15 s20,m15 s16,lx]
 generalize w/16777216=op at*
 generalize wrap .i64 (ishr .u32 w 20%16)=a
 generalize wrap .i64 (ishr .u32 w 16%16)=b
 generalize iand .u32 w 65535=l
 rw[Zed (i:=⟨op,a,b,wrap .i64 l,0⟩) o0 o1 rfl,Zed (i:=⟨op,a,b,0,wrap .i32 (wrap .i16 l)⟩) o0 o1 (i32 _),Zed (i:=⟨op,a,b,0,wrap .i32 l⟩) o0 o1 (i32 _)]
 rcases zg o0 o1 with h|h|h|h|h|h|h|h|h|h<;>rw[h]<;>rfl
theorem zaj(x v:BitVec 32)(s:Nat)(hs:s<=24):((x&&&~~~(255#32<<<s))|||((v&&&255#32)<<<s)).toNat=2^(s+8)*(x.toNat/2^(s+8))+(2^s*(v.toNat%256)+x.toNat%2^s):=by
  have hx:=x.isLt
  have h1:x.toNat%2^s<2^s:=Nat.mod_lt _ (eD s)
  have h2:2^s*(v.toNat%256)+x.toNat%2^s<2^(s+8):=by
    have:v.toNat%256<256:=Nat.mod_lt _ (by decide)
    have h3:2^s*(v.toNat%256)<=2^s*255:=Nat.mul_le_mul_left _ (by omega)
    have:2^(s+8)=2^s*256:=by rw[Nat.pow_add]
    omega
  rw[eI h2,eI h1]
  apply eJ
  intro i
  rw[BitVec.testBit_toNat]
  simp only[BitVec.getLsbD_or,BitVec.getLsbD_and,BitVec.getLsbD_not,BitVec.getLsbD_shiftLeft,Nat.testBit_or,Nat.testBit_two_pow_mul,eK,Nat.testBit_div_two_pow,BitVec.getLsbD_ofNat]
  have e255: ∀j,eL 255 j=decide (j<8):=λj=>by
    rw[show 255=2^8-1 from rfl,Nat.testBit_two_pow_sub_one]
  have e256: ∀n j,eL (n%256) j=(decide (j<8)&&eL n j):=λn j=>by
    rw[show 256=2^8 from rfl,eK]
  rw[e255,e256]
  by_cases hi:i<32
  . by_cases a1:i<s
    . have a2: ¬(s<=i):=by omega
      have a3: ¬(s+8<=i):=by omega
      simp [hi,a1,a2,a3,eM]
    . by_cases a4:s+8<=i
      . have a2: ¬(i-s<8):=by omega
        have a5:i-(s+8)+(s+8)=i:=by omega
        have a6:s<=i:=by omega
        simp [hi,a1,a2,a4,a5,a6,eM]
      . have a2:(i-s<8):=by omega
        have a6:s<=i:=by omega
        have a7:i-s<32:=by omega
        simp [hi,a1,a2,a4,a6,a7,eM]
  . have a0:x.toNat.testBit i=false:=Nat.testBit_lt_two_pow (Nat.lt_of_lt_of_le hx (dQ (by decide) (by omega)))
    have a1: ¬(i<s):=by omega
    have a2: ¬(i-s<8):=by omega
    have a4:s+8<=i:=by omega
    have a5:i-(s+8)+(s+8)=i:=by omega
    simp [hi,a0,a1,a2,a4,a5]
theorem Z9p(b:BitVec 32):dT 32 (wrap .u32 (b.toNat:Int))=b:=by
 have:=b.isLt
 rw[wrap_u32]
 apply eN
 rw[dU];omega
theorem Zpa(x:Int):dT 32 (wrap .u32 x)=dT 32 x:=by
 apply eN
 rw[dU,dU,wrap_u32]
 have:((2^32:Nat):Int)=4294967296:=by decide
 rw[this,Int.emod_emod_of_dvd _ (Int.dvd_refl _)]
theorem Zg3{x:Int}(hx:U x)(s:Nat)(hs:s<=32):dT 32 (ishl .u32 x s)=dT 32 x<<<s:=by
 obtain⟨n,rfl⟩: ∃n:Nat,x=n:=⟨x.toNat,by have:=hx.1;omega⟩
 have e:min (dC (s:Int)) u32.bits=s:=by show min (dC (s:Int)) 32=s;omega
 unfold ishl
 rw[e,Zpa]
 have e2:((n:Int)*2^s)=((n*2^s:Nat):Int):=by simp
 have:=hx.2
 rw[e2,eO,eO]
 apply eN
 rw[BitVec.toNat_shiftLeft,eQ,eQ,Nat.shiftLeft_eq,Nat.mod_mul_mod]
def putW(W v:Int)(s:Nat):Int:=ior .u32 (Qie .u32 W (ishl .u32 255 s)) (ishl .u32 (iand .u32 v 255) s)
theorem xaj{W v:Int}(hW:U W)(hv:U v)(s:Nat)(hs:s<=24):putW W v s=2^(s+8)*(W/2^(s+8))+(2^s*(v%256)+W%2^s):=by
 have e:=zaj (dT 32 W) (dT 32 v) s hs
 have l:=((dT 32 W&&&~~~(255#32<<<s))|||((dT 32 v&&&255#32)<<<s)).isLt
 have h1:dT 32 (Qie .u32 W (ishl .u32 255 s))=dT 32 W&&&~~~(255#32<<<s):=by
   show dT 32 (wrap .u32 (dT 32 W&&&~~~dT 32 (ishl .u32 255 s)).toNat)=_
   rw[Z9p,Zg3 ⟨by decide,by decide⟩ s (by omega)]
   rfl
 have h2:dT 32 (ishl .u32 (iand .u32 v 255) s)=(dT 32 v&&&255#32)<<<s:=by
   rw[Zg3 (Zm6 _ _) s (by omega)]
   congr 1
   show dT 32 (wrap .u32 (dT 32 v&&&dT 32 255).toNat)=_
   rw[Z9p];rfl
 show wrap .u32 ((dT 32 (Qie .u32 W (ishl .u32 255 s))|||dT 32 (ishl .u32 (iand .u32 v 255) s)).toNat:Int)=_
 rw[h1,h2]
 have lw:wrap .u32 ((((dT 32 W&&&~~~(255#32<<<s))|||((dT 32 v&&&255#32)<<<s)).toNat:Nat):Int)=(((dT 32 W&&&~~~(255#32<<<s))|||((dT 32 v&&&255#32)<<<s)).toNat:Nat):=by rw[wrap_u32];omega
 rw[lw,e,Qyg hW,Qyg hv]
 obtain⟨n,rfl⟩: ∃n:Nat,W=n:=⟨W.toNat,by have:=hW.1;omega⟩
 obtain⟨k,rfl⟩: ∃n:Nat,v=n:=⟨v.toNat,by have:=hv.1;omega⟩
 simp
def dig(w:Int)(k:Nat):Int:=if k=0 then w%256 else if k=1 then w/256%256 else if k=2 then w/65536%256 else w/16777216%256
def byt(m:List Int)(a:Nat):Int:=dig (m.getD (a/4) 0) (a%4)
theorem vg(w:Int)(k:Nat):0<=dig w k/\dig w k<256:=by
 unfold dig
 split
 . omega
 . split
   . omega
   . split<;>omega
theorem qak{w v:Int}(hw:U w)(hv:U v)(h: ∀k,k<4->dig w k=dig v k):w=v:=by
 have h0:=h 0 (by omega)
 have h1:=h 1 (by omega)
 have h2:=h 2 (by omega)
 have h3:=h 3 (by omega)
 simp [dig]at h0 h1 h2 h3
 obtain⟨a,b⟩:=hw
 obtain⟨c,d⟩:=hv
 omega
theorem Zjy{m n:List Int}(hl:m.length=n.length)(hm: ∀w∈m,U w)(hn: ∀w∈n,U w)(h: ∀a,byt m a=byt n a):m=n:=by
 refine bM hl λi h1 h2=> ?_
 have e1:m[i]=m.getD i 0:=by simp [aK,h1]
 have e2:n[i]=n.getD i 0:=by simp [aK,h2]
 rw[e1,e2]
 refine qak (Qmp hm i) (Qmp hn i) λk hk=> ?_
 have:=h (4*i+k)
 simp only[byt]at this
 rwa [show(4*i+k)/4=i by omega,show(4*i+k)%4=k by omega]at this
theorem Qvo{l:List Int}{i:Nat}(h:i<l.length)(v:Int):(l.set i v).getD i 0=v:=by
 simp [aK,h]
theorem Zkr{m:List Int}{i:Nat}(hi:i<m.length)(v:Int)(a:Nat):byt (m.set i v) a=if a/4=i then dig v (a%4) else byt m a:=by
 unfold byt
 split
 . rename_i h;rw[h,Qvo hi]
 . rename_i h;rw[getDset _ _ _ _ (λe=>h e.symm)]
theorem zak{W v:Int}(hW:U W)(hv:U v){j:Nat}(hj:j<4){k:Nat}(hk:k<4):dig (putW W v (8*j)) k=if k=j then v%256 else dig W k:=by
 have h:=xaj hW hv (8*j) (by omega)
 rw[h]
 obtain⟨w0,w1⟩:=hW
 have h0:0<=v%256:=by omega
 have h1:v%256<256:=by omega
 generalize v%256=b at*
 clear h
 have hj:j=0\/j=1\/j=2\/j=3:=by omega
 have hk:k=0\/k=1\/k=2\/k=3:=by omega
 rcases hj with rfl|rfl|rfl|rfl<;>rcases hk with rfl|rfl|rfl|rfl<;>simp [dig]<;>omega
theorem xak{m:List Int}{a v:Int}(ha:U a):Qap m a 1 v=m.set (a/4).toNat (putW (m.getD (a/4).toNat 0) v (8*(a%4).toNat)):=by
 obtain⟨a0,a1⟩:=ha
 have e1:wrap .u32 (eR a 4)=a/4:=by rw[wrap_u32,eS a0];omega
 have e2:wrap .u32 (8*dB a 4)=((8*(a%4).toNat:Nat):Int):=by rw[wrap_u32,eC a0];omega
 have e3:((1:Int)==4)=false:=rfl
 simp only[Qap,Qfe,Tree.m,e1,e2,e3,cond_false]
 rfl
theorem qh{P:Nat}{m:List Int}(h:Q15 P m){a v:Int}(ha:U a)(hl:a<128*P)(hv:U v):Q15 P (Qap m a 1 v)/\ ∀b:Nat,byt (Qap m a 1 v) b=if(b:Int)=a then v%256 else byt m b:=by
 have hlen:=h.len
 have a0:=ha.1
 rw[xak ha]
 have hi:(a/4).toNat<m.length:=by omega
 refine⟨⟨by rw[dE];exact hlen,h.p1,h.p2,Z89 h.u (U_or _ _) _⟩,λb=> ?_⟩
 rw[Zkr hi]
 by_cases hb:b/4=(a/4).toNat
 . rw[if_pos hb,zak (Qmp h.u _) hv (by omega) (by omega)]
   by_cases hc:b%4=(a%4).toNat
   . rw[if_pos hc,if_pos (by omega)]
   . rw[if_neg hc,if_neg (by omega),byt,hb]
 . rw[if_neg hb,if_neg (by omega)]
theorem zY{P:Nat}{m:List Int}(h:Q15 P m){frame:Int}(f0:0<=frame)(f1:frame<P)(s:List UInt8):(Qa2 m frame s).w (λr=>Q15 P r/\ ∀b:Nat,byt r b=if frame*128<=b/\(b:Int)<frame*128+min s.length 128 then((s.getD (b-frame*128).toNat 0).toNat:Int) else byt m b):=by
 unfold Qa2
 have h3:=h.p2
 refine w_lp (inv:=λz=>0<=z.1/\z.1<=min s.length 128/\Q15 P z.2/\ ∀b:Nat,byt z.2 b=if frame*128<=b/\(b:Int)<frame*128+z.1 then((s.getD (b-frame*128).toNat 0).toNat:Int) else byt m b) (μ:=Qji m frame s) ⟨show(0:Int)<=0 by decide,by show(0:Int)<=_;omega,h,λb=>by rw[if_neg];show¬(_/\_<_+(0:Int));omega⟩ (cK _) (λv0 hv0=> ?_)
 obtain⟨i,mm⟩:=v0
 obtain⟨i0,i1,hm,hy⟩:=hv0
 have i0:0<=i:=i0
 have i1:i<=min s.length 128:=i1
 have hm:Q15 P mm:=hm
 have fin: ∀r:List Int,r=mm->i=min s.length 128->Q15 P r/\ ∀b:Nat,byt r b=if frame*128<=b/\(b:Int)<frame*128+min s.length 128 then((s.getD (b-frame*128).toNat 0).toNat:Int) else byt m b:=λr hr hi=>by
   subst hr;refine⟨hm,λb=> ?_⟩
   rw[hy b];simp only[hi]
 refine w_br (λh1=>w_br (λh2=>w_cn ?_ ?_) (λh2=>fin mm rfl ?_)) (λh1=>fin mm rfl ?_)
 . have:=oY h1
   simp [bT];omega
 . have h1:i<s.length:=oY h1
   have h2:i<128:=oY h2
   have e:wrap u32 (wrap i64 (wrap i64 (frame*128)+i))=frame*128+i:=by
     rw[wrap_u32,wrap_i64,wrap_i64];omega
   show(Tree.an (Qgj mm (wrap u32 (wrap i64 (wrap i64 (frame*128)+i))) 1 _) (Tree.lv _ _)).w _
   rw[e]
   have hu:U (frame*128+i):=⟨by omega,by omega⟩
   have hvU: ∀n:Nat,U (wrap .u32 (n:Int)):=λn=>Q0v _
   obtain⟨g1,_⟩:=Tree.pp (put_w hm (size:=1) (addr:=frame*128+i) hu (by rw[hm.len];omega) (hvU (eT (s.getD i.toNat 0))))
   obtain⟨g2,g3⟩:=qh hm hu (by omega) (hvU (eT (s.getD i.toNat 0)))
   refine w_an g1 (w_lv λx0 hx0=> ?_)
   rw[hx0]
   have ew:i64.wrap (i+1)=i+1:=by rw[wrap_i64];omega
   refine w_nx ?_
   show(0<=i64.wrap (i+1)/\i64.wrap (i+1)<=min s.length 128/\Q15 P _/\ ∀b:Nat,byt _ b=if frame*128<=b/\(b:Int)<frame*128+i64.wrap (i+1) then _ else _)/\(128-i64.wrap (i+1)).toNat<(128-i).toNat
   rw[ew]
   refine⟨⟨by omega,by omega,g2,λb=> ?_⟩,by omega⟩
   rw[show Qap mm (frame*128+i) 1 _=_ from rfl,g3 b]
   by_cases hb:(b:Int)=frame*128+i
   . rw[if_pos hb,if_pos (by omega),wrap_u32]
     have:=(s.getD i.toNat 0).toNat_lt
     rw[show(b-frame*128).toNat=i.toNat by omega];omega
   . rw[if_neg hb,hy b]
     show(if frame*128<=(b:Int)/\(b:Int)<frame*128+i then _ else _)=_
     by_cases hc:frame*128<=(b:Int)/\(b:Int)<frame*128+i
     . rw[if_pos hc,if_pos (by omega)]
     . rw[if_neg hc,if_neg (by omega)]
 . have h1:i<s.length:=oY h1
   have h2: ¬i<128:=oN h2
   omega
 . have h1: ¬i<s.length:=oN h1
   omega
theorem xh{x y:Int}(hx:U x)(hy:U y)(k:Nat)(hk:x<2^k)(h:x+y*2^k<4294967296):ior .u32 x (y*2^k)=x+y*2^k:=by
 obtain⟨n,rfl⟩: ∃n:Nat,x=n:=⟨x.toNat,by have:=hx.1;omega⟩
 obtain⟨z,rfl⟩: ∃n:Nat,y=n:=⟨y.toNat,by have:=hy.1;omega⟩
 have e:((z:Int)*2^k)=((z*2^k:Nat):Int):=by simp
 rw[e]at h⊢
 have hn:n<2^k:=by exact_mod_cast hk
 rw[zaH hx ⟨by omega,by omega⟩,eA,eA,Nat.or_comm,Nat.mul_comm,<-eI hn]
 omega
theorem four{a b c d:Int}(ha:0<=a/\a<256)(hb:0<=b/\b<256)(hc:0<=c/\c<256)(hd:0<=d/\d<256):ior .u32 (ior .u32 (ior .u32 (wrap .u32 a) (ishl .u32 (wrap .u32 b) 8)) (ishl .u32 (wrap .u32 c) 16)) (ishl .u32 (wrap .u32 d) 24)=a+b*2^8+c*2^16+d*2^24:=by
 have w: ∀{x:Int},0<=x/\x<256->wrap .u32 x=x:=λhx=>by rw[wrap_u32];omega
 have s8: ∀{x:Int},0<=x/\x<256->ishl .u32 x 8=x*2^8:=fun{x} hx=>by show wrap .u32 (x*2^8)=_;rw[wrap_u32];omega
 have s16: ∀{x:Int},0<=x/\x<256->ishl .u32 x 16=x*2^16:=fun{x} hx=>by show wrap .u32 (x*2^16)=_;rw[wrap_u32];omega
 have s24: ∀{x:Int},0<=x/\x<256->ishl .u32 x 24=x*2^24:=fun{x} hx=>by show wrap .u32 (x*2^24)=_;rw[wrap_u32];omega
 rw[w ha,w hb,w hc,w hd,s8 hb,s16 hc,s24 hd]
 rw[xh ⟨by omega,by omega⟩ ⟨by omega,by omega⟩ 8 (by omega) (by omega),xh ⟨by omega,by omega⟩ ⟨by omega,by omega⟩ 16 (by omega) (by omega),xh ⟨by omega,by omega⟩ ⟨by omega,by omega⟩ 24 (by omega) (by omega)]
theorem vH{a b c d:Int}(ha:0<=a/\a<256)(hb:0<=b/\b<256)(hc:0<=c/\c<256)(hd:0<=d/\d<256)(k:Nat)(hk:k<4):dig (a+b*2^8+c*2^16+d*2^24) k=if k=0 then a else if k=1 then b else if k=2 then c else d:=by
 have hk:k=0\/k=1\/k=2\/k=3:=by omega
 rcases hk with rfl|rfl|rfl|rfl<;>simp [dig]<;>omega
theorem Zd{P:Nat}{m:List Int}(h:Q15 P m)(f:Int):Q5k m f=decide (0<=f/\f<P):=by
 have hp:=Q3w h
 simp only[Q5k,Q8x,Tree.m,letv,hp]
 by_cases h1:0<=f
 . rw[dY h1];simp [h1]
 . rw[dN h1];simp [h1]
theorem qI(s:List UInt8)(a b k:Nat)(h:k<b):(cY b (cZ a s)).getD k 0=s.getD (a+k) 0:=by
 simp [cL,aU,h]
theorem u8I(x:UInt8):0<=(x.toNat:Int)/\(x.toNat:Int)<256:=by have:=x.toNat_lt;omega
theorem Z6n{P:Nat}{m:List Int}(h:Q15 P m){f:Int}(f0:0<=f)(f1:f<P){s:List UInt8}(hs:s.length=128):(Q3t m f s).w (λr=>r.2=true/\Q15 P r.1/\ ∀b:Nat,byt r.1 b=if f*128<=b/\(b:Int)<f*128+128 then((s.getD (b-f*128).toNat 0).toNat:Int) else byt m b):=by
  have hcl:Q04 m=m:=rfl
  have h2:=h.p2
  unfold Q3t
  refine w_an (Qa7 h) (w_lv λx0 hx0=>w_lv λx1 hx1=> ?_)
  rw[hcl]at hx0;subst hx0
  rw[Zd h,dY ⟨f0,f1⟩]at hx1
  subst hx1
  refine w_br (λhb=>by cases hb) λ_=>w_br (λhb=>by simp [hs]at hb) λ_=> ?_
  refine w_lp (inv:=λz:Int×List Int=>0<=z.1/\z.1<=32/\Q15 P z.2/\ ∀b:Nat,byt z.2 b=if f*128<=b/\(b:Int)<f*128+4*z.1 then((s.getD (b-f*128).toNat 0).toNat:Int) else byt x0 b) (μ:=Qbs x0 f s) ⟨show(0:Int)<=0 by decide,show(0:Int)<=32 by decide,h,λb=>by rw[if_neg];show¬(_/\_<_+4*(0:Int));omega⟩ (cK _) λz ⟨z1,z2,z3,z4⟩=> ?_
  refine w_br (λhb=> ?_) (λhb=>⟨rfl,z3,λb=> ?_⟩)
  . have hb:=oY hb
    have e1:i64.wrap (4*z.1)=4*z.1:=by rw[wrap_i64];omega
    have e2:i64.wrap (i64.wrap (4*z.1)+4)=4*z.1+4:=by rw[wrap_i64,wrap_i64];omega
    have e3:i64.wrap (i64.wrap (f*32)+z.1)=f*32+z.1:=by rw[wrap_i64,wrap_i64];omega
    have hl:=z3.len
    have cut:dC (i64.wrap (i64.wrap (4*z.1)+4))-dC (i64.wrap (4*z.1))=4:=by rw[e2,e1];omega
    have hlen:(cY (dC (i64.wrap (i64.wrap (4*z.1)+4))-dC (i64.wrap (4*z.1))) (cZ (dC (i64.wrap (4*z.1))) s)).length=4:=by
      rw[cut,e1,bD,bF];omega
    refine w_cn (dY (by rw[e2,e1];omega)) ?_
    refine w_cn (dY (by rw[hlen];decide)) (w_cn (dY (by rw[hlen];decide)) (w_cn (dY (by rw[hlen];decide)) (w_cn (dY (by rw[hlen];decide)) (w_cn (by rw[e3];simp [bT];omega) (w_nx ?_)))))
    have ew:i64.wrap (z.1+1)=z.1+1:=by rw[wrap_i64];omega
    rw[cut]
    refine⟨⟨by show 0<=i64.wrap (z.1+1);rw[ew];omega,by show i64.wrap (z.1+1)<=32;rw[ew];omega,?_,?_⟩,by show(32-i64.wrap (z.1+1)).toNat<(32-z.1).toNat;rw[ew];omega⟩
    . show Q15 P (dD _ _ _)
      exact⟨by rw[dE];exact hl,z3.p1,z3.p2,Z89 z3.u (U_or _ _) _⟩
    . intro b
      show byt (dD z.2 (dC (i64.wrap (i64.wrap (f*32)+z.1))) _) b=if f*128<=(b:Int)/\(b:Int)<f*128+4*i64.wrap (z.1+1) then _ else _
      rw[e3,ew,four (u8I _) (u8I _) (u8I _) (u8I _),Zkr (by omega)]
      have g: ∀k:Nat,k<4->(cY 4 (cZ (dC (i64.wrap (4*z.1))) s)).getD k 0=s.getD ((4*z.1).toNat+k) 0:=λk hk=>by rw[e1];exact qI _ _ _ _ hk
      by_cases hc:b/4=(f*32+z.1).toNat
      . have hin:f*128<=(b:Int)/\(b:Int)<f*128+4*(z.1+1):=by omega
        rw[if_pos hc,vH (u8I _) (u8I _) (u8I _) (u8I _) _ (by omega),if_pos hin]
        have hb4:b%4=0\/b%4=1\/b%4=2\/b%4=3:=by omega
        have gi:(b-f*128).toNat=(4*z.1).toNat+b%4:=by omega
        rw[gi]
        rcases hb4 with h4|h4|h4|h4<;>rw[h4]
        . rw[if_pos rfl,<-g 0 (by omega)];rfl
        . rw[if_neg (by decide),if_pos rfl,<-g 1 (by omega)];rfl
        . rw[if_neg (by decide),if_neg (by decide),if_pos rfl,<-g 2 (by omega)];rfl
        . rw[if_neg (by decide),if_neg (by decide),if_neg (by decide),<-g 3 (by omega)];rfl
      . rw[if_neg hc,z4 b]
        by_cases hd:f*128<=(b:Int)/\(b:Int)<f*128+4*z.1
        . rw[if_pos hd,if_pos (by omega)]
        . rw[if_neg hd,if_neg (by omega)]
  . have hb:=oN hb
    show byt z.2 b=_
    rw[z4 b,show z.1=32 by omega]
    rfl
theorem Zdr{α:Type}(l l2:List α)(k:Nat)(z:α):(l++l2).getD k z=if k<l.length then l.getD k z else l2.getD (k-l.length) z:=by
 simp only[cL,List.getElem?_append]
 split<;>rfl
theorem u8w{x:Int}:wrap .u8 x=x%256:=wrap_u8 x
theorem shr_c(W:Int):ishr .u32 W 8=W/256/\ishr .u32 W 16=W/65536/\ishr .u32 W 24=W/16777216:=by
 refine⟨?_,?_,?_⟩
 . show eH W 256=_;rw[dL _ (by decide)]
 . show eH W 65536=_;rw[dL _ (by decide)]
 . show eH W 16777216=_;rw[dL _ (by decide)]
theorem b4d(W:Int){k:Nat}(hk:k<4):[wrap .u8 W,wrap .u8 (ishr .u32 W 8),wrap .u8 (ishr .u32 W 16),wrap .u8 (ishr .u32 W 24)].getD k 0=dig W k:=by
 obtain⟨a,b,c⟩:=shr_c W
 have hk:k=0\/k=1\/k=2\/k=3:=by omega
 rcases hk with rfl|rfl|rfl|rfl<;>simp [dig,a,b,c,u8w]
theorem Qp6(l:List Int)(k:Nat)(h:0<=l.getD k 0/\l.getD k 0<256)(hk:k<l.length):(((bytesOf l).getD k 0).toNat:Int)=l.getD k 0:=by
 have e:(bytesOf l).getD k 0=eU (l.getD k 0).toNat:=by
   simp [bytesOf,cL,hk]
 rw[e,UInt8.toNat_ofNat']
 omega
theorem Zlf(l:List UInt8)(k:Nat)(hk:k<l.length):(Qcf l).getD k 0=((l.getD k 0).toNat:Int):=by
 simp [Qcf,cL,hk]
theorem xaH(w:List Int)(h:w.length<=32):(Q5d w).w (λr=>r.length=4*w.length/\ ∀k:Nat,k<4*w.length->((r.getD k 0).toNat:Int)=dig (w.getD (k/4) 0) (k%4)):=by
 have e0:i64.wrap (4*(w.length:Int))=4*w.length:=by rw[wrap_i64];omega
 unfold Q5d
 refine w_cn (by rw[e0];simp [bT,D.plain];omega) ?_
 refine w_lp (inv:=λz:Int×List Int=>0<=z.1/\z.1<=w.length/\(z.2.length:Int)=4*z.1/\ ∀k:Nat,(k:Int)<4*z.1->z.2.getD k 0=dig (w.getD (k/4) 0) (k%4)) (μ:=Q7w w) ⟨by decide,by show(0:Int)<=w.length;omega,rfl,λk hk=>by have hk:(k:Int)<4*0:=hk;omega⟩ (cK _) λz ⟨z1,z2,z3,z4⟩=> ?_
 refine w_br (λhb=> ?_) (λhb=> ?_)
 . have hb:=oY hb
   have ew:i64.wrap (z.1+1)=z.1+1:=by rw[wrap_i64];omega
   refine w_cn (by simp [bT];omega) (w_cn (dY (by omega)) (w_nx ?_))
   show(_/\_/\_/\ ∀k:Nat,(k:Int)<4*i64.wrap (z.1+1)->(z.2++_).getD k 0=_)/\(_:Nat)<_
   refine⟨⟨by rw[ew];omega,by rw[ew];omega,by rw[ew,lA];simp only[dF,dG];omega,λk hk=> ?_⟩,by show(w.length-i64.wrap (z.1+1)).toNat<(w.length-z.1).toNat;rw[ew];omega⟩
   rw[ew]at hk
   rw[Zdr]
   split
   . exact z4 k (by omega)
   . rename_i hn
     rw[b4d _ (by omega),show z.1.toNat=k/4 by omega,show k-z.2.length=k%4 by omega]
 . have hb:=oN hb
   show(bytesOf z.2).length=_/\ ∀k:Nat,_->(((bytesOf z.2).getD k 0).toNat:Int)=_
   refine⟨by rw[Qjq];omega,λk hk=> ?_⟩
   have e:=z4 k (by omega)
   have:=vg (w.getD (k/4) 0) (k%4)
   rw[Qp6 _ _ (by rw[e];exact this) (by omega),e]
def isPg(m:List Int)(f:Int)(r:List UInt8):Prop:=r.length=128/\ ∀k:Nat,k<128->((r.getD k 0).toNat:Int)=byt m ((f*128).toNat+k)
theorem qaI{m:List Int}{f:Int}{r s:List UInt8}(a:isPg m f r)(b:isPg m f s):r=s:=by
 obtain⟨a1,a2⟩:=a
 obtain⟨b1,b2⟩:=b
 refine bM (by omega) λi h1 h2=> ?_
 have e:=(a2 i (by omega)).trans (b2 i (by omega)).symm
 have e1:r[i]=r.getD i 0:=by simp [aK,h1]
 have e2:s[i]=s.getD i 0:=by simp [aK,h2]
 rw[e1,e2]
 exact UInt8.toNat_inj.1 (by omega)
theorem zh{P:Nat}{m:List Int}(h:Q15 P m){f:Int}(f0:0<=f)(f1:f<P):(Q7b m f).w (λr=>isPg m f r.1/\r.2=true):=by
 have hl:=h.len
 have h2:=h.p2
 unfold Q7b
 refine w_lv λx0 hx0=> ?_
 rw[Zd h,dY ⟨f0,f1⟩]at hx0
 subst hx0
 refine w_br (λhb=>by cases hb) (λhb=> ?_)
 have e1:i64.wrap (f*32)=f*32:=by rw[wrap_i64];omega
 have e2:i64.wrap (i64.wrap (f*32)+32)=f*32+32:=by rw[wrap_i64,wrap_i64];omega
 have cut:dC (i64.wrap (i64.wrap (f*32)+32))-dC (i64.wrap (f*32))=32:=by rw[e2,e1];omega
 have hlen:(cY 32 (cZ (dC (i64.wrap (f*32))) m)).length=32:=by
   rw[e1,bD,bF];omega
 refine w_cn (by rw[e2,e1];simp [bT];omega) ?_
 rw[cut]
 refine w_an (by show dH _<=1000000000000;rw[hlen];decide) (w_lv λx1 h1=> ?_)
 have t:=(Tree.pp (xaH _ (dI hlen))).2
 rw[hlen,show(Q5d (cY 32 (cZ (dC (i64.wrap (f*32))) m))).m=x1 from h1.symm]at t
 refine⟨⟨t.1,λk hk=> ?_⟩,rfl⟩
 show((x1.getD k 0).toNat:Int)=_
 rw[t.2 k hk,byt,e1]
 have g:(cY 32 (cZ (dC (f*32)) m)).getD (k/4) 0=m.getD ((f*32).toNat+k/4) 0:=by
   simp [cL,aU,show k/4<32 by omega]
 rw[g,show((f*128).toNat+k)/4=(f*32).toNat+k/4 by omega,show((f*128).toNat+k)%4=k%4 by omega]
theorem zaI(x:Int):Zdu x 4=bytesOf [wrap .u8 (ishr .u32 x 0),wrap .u8 (ishr .u32 x 8),wrap .u8 (ishr .u32 x 16),wrap .u8 (ishr .u32 x 24)]:=by kernel_rfl
theorem qal{P:Nat}{m:List Int}(hm:Q15 P m){frame:Int}(f0:0<=frame)(f1:frame<P):(Qac m frame).w (λr=>isPg m frame r.1/\r.2=true):=by
 have hp:=Qg7 hm
 have hl:=hm.len
 have h2:=hm.p2
 unfold Qac
 refine w_br (λh=>by have:=oY h;omega) (λh=>w_lv λx0 hx=>w_br (λh1=>by have:=oY h1;rw[hx,hp]at this;omega) (λh1=> ?_))
 refine w_lp (inv:=λz:Int×List Int=>0<=z.1/\z.1<=32/\(z.2.length:Int)=4*z.1/\ ∀k:Nat,(k:Int)<4*z.1->z.2.getD k 0=byt m ((frame*128).toNat+k)) (μ:=Qjo m frame) ⟨by decide,by decide,rfl,λk hk=>by have hk:(k:Int)<4*0:=hk;omega⟩ (cK _) (λz hz=> ?_)
 obtain⟨z1,z2,z3,z4⟩:=hz
 refine w_br (λhb=> ?_) (λhb=> ?_)
 . have hb:=oY hb
   have e:wrap i64 (wrap i64 (frame*32)+z.1)=frame*32+z.1:=by rw[wrap_i64,wrap_i64];omega
   refine w_cn (by rw[e];simp [bT];omega) (w_an (show(4:Int)<=1000000000000 by decide) (w_lv λx1 h4=> ?_))
   rw[zaI,shr0,e]at h4
   have l4:x1.length=4:=by rw[h4];rfl
   refine w_cn (dY (by rw[Qrd,l4];omega)) (w_nx ?_)
   show(0<=i64.wrap (z.1+1)/\i64.wrap (z.1+1)<=32/\((z.2++Qcf x1).length:Int)=4*i64.wrap (z.1+1)/\ ∀k:Nat,(k:Int)<4*i64.wrap (z.1+1)->(z.2++Qcf x1).getD k 0=_)/\(32-i64.wrap (z.1+1)).toNat<(32-z.1).toNat
   have ew:i64.wrap (z.1+1)=z.1+1:=by rw[wrap_i64];omega
   rw[ew]
   refine⟨⟨by omega,by omega,by rw[lA,Qrd,l4];omega,λk hk=> ?_⟩,by omega⟩
   rw[Zdr]
   split
   . exact z4 k (by omega)
   . rename_i hn
     have hk4:k-z.2.length<4:=by omega
     rw[Zlf _ _ (by omega),h4]
     have d:=b4d (m.getD (frame*32+z.1).toNat 0) hk4
     rw[Qp6 _ _ (by rw[d];exact vg _ _) (by simpa using hk4),d,byt]
     rw[show((frame*128).toNat+k)/4=(frame*32+z.1).toNat by omega,show((frame*128).toNat+k)%4=k-z.2.length by omega]
 . have hb:=oN hb
   refine⟨⟨?_,λk hk=> ?_⟩,rfl⟩
   . show(bytesOf z.2).length=128
     rw[Qjq];omega
   . show(((bytesOf z.2).getD k 0).toNat:Int)=_
     have e:=z4 k (by omega)
     rw[Qp6 _ _ (by rw[e];exact vg _ _) (by omega),e]
theorem Zim{P:Nat}{m:List Int}(h:Q15 P m)(f:Int):Q69 m f=Qk3 m f:=by
 by_cases hf:0<=f/\f<P
 . have a:=(Tree.pp (zh h hf.1 hf.2)).2
   have b:=(Tree.pp (qal h hf.1 hf.2)).2
   exact eV (qaI a.1 b.1) (a.2.trans b.2.symm)
 . have hp:=Qg7 h
   have e1:Q69 m f=([],false):=by
     simp only[Q69,Q7b,Tree.m,letv,Zd h,dN hf];rfl
   have e2:Qk3 m f=([],false):=by
     simp only[Qk3,Qac,Tree.m,letv,hp]
     by_cases h0:f<0
     . rw[dY h0];rfl
     . rw[dN h0,dY (show f>=P by omega)];rfl
   rw[e1,e2]
section
variable {P:Nat} {m:List Int} (h:Q15 P m)
include h
theorem Zfz{f:Int}(f0:0<=f)(f1:f<P){s:List UInt8}(hs:s.length=128):Q30 m f s=(Qn2 m f s,true):=by
 have a:=(Tree.pp (Z6n h f0 f1 hs)).2
 have b:=(Tree.pp (zY h f0 f1 s)).2
 refine eV (Zjy (a.2.1.len.trans b.1.len.symm) a.2.1.u b.1.u λk=> ?_) a.1
 have e:((min s.length 128:Nat):Int)=128:=by rw[hs];rfl
 have b2:=b.2 k
 have a2:=a.2.2 k
 rw[e]at b2
 exact a2.trans b2.symm
theorem Zfh{f:Int}(f0:0<=f)(f1:f<P){s r:List UInt8}(hs:s.length<=128)(hr:isPg m f r):Q30 m f (s++r.drop s.length)=(Qn2 m f s,true):=by
  have hl:(s++r.drop s.length).length=128:=by have:=hr.1;simp;omega
  have a:=(Tree.pp (Z6n h f0 f1 hl)).2
  have b:=(Tree.pp (zY h f0 f1 s)).2
  refine eV (Zjy (a.2.1.len.trans b.1.len.symm) a.2.1.u b.1.u λk=> ?_) a.1
  have b2:=b.2 k
  have a2:=a.2.2 k
  refine a2.trans (Eq.trans ?_ b2.symm)
  by_cases hc:f*128<=(k:Int)/\(k:Int)<f*128+128
  . rw [if_pos hc,Zdr]
    by_cases hd:(k-f*128).toNat<s.length
    . rw[if_pos hd,if_pos (by omega)]
    . rw[if_neg hd,if_neg (by omega)]
      have e:(r.drop s.length).getD ((k-f*128).toNat-s.length) 0=r.getD (k-f*128).toNat 0:=by
        simp [cL,show s.length+((k-f*128).toNat-s.length)=(k-f*128).toNat by omega]
      rw[e,hr.2 _ (by omega),show(f*128).toNat+(k-f*128).toNat=k by omega]
  . rw[if_neg hc,if_neg (by omega)]
theorem Qik{a:Int}(ha:U a){size:Int}(hs:size=1\/size=4):Q28 m a size=decide (a%size=0/\a<128*P):=by
 have hq:=Qg7 h
 have h2:=h.p2
 have a0:=ha.1
 have e:wrap u32 size=size:=by rcases hs with rfl|rfl<;>decide
 have e0:decide (wrap u32 size≠0)=true:=by rcases hs with rfl|rfl<;>decide
 have t:dB a (wrap u32 size)=a%size:=by rw[e,eC a0]
 have l: ∀x,x=Q40 m->a%size=0->decide (a<wrap u32 (wrap i64 (128*x)))=decide (a%size=0/\a<128*P):=λx hx hz=>by
   rw[hx,hq,wrap_u32,wrap_i64]
   exact decide_eq_decide.2 ⟨λh=>⟨hz,by omega⟩,λh=>by omega⟩
 refine Tree.post (Q8r m a size) (W:=λb=>b=decide (a%size=0/\a<128*P)) ?_
 unfold Q8r
 refine w_br (λh1=>w_br (λh4=> ?_) (λ_=> ?_)) (λ_=> ?_)
 . have h1: ¬size=1:=by simpa using h1
   have h4: ¬size=4:=by simpa using h4
   omega
 all_goals
   refine w_cn e0 (w_br (λhb=>w_lv λx hx=>l x hx ?_) (λhb=> ?_))
   . rw[t]at hb;exact eq_of_beq hb
   . rw[t]at hb
     exact(dN (λh=>by rw[h.1]at hb;cases hb)).symm
theorem Z33{a:Int}(ha:U a){size:Int}(hs:size=1\/size=4):Qih m a size=Q28 m a size:=by
 rw[Qik h ha hs]
 have hq:=Z3d h
 have h2:=h.p2
 have a0:=ha.1
 have a1:=ha.2
 have e:wrap u32 size=size:=by rcases hs with rfl|rfl<;>decide
 have e0:decide (wrap u32 size≠0)=true:=by rcases hs with rfl|rfl<;>decide
 have t:dB a (wrap u32 size)=a%size:=by rw[e,eC a0]
 have l: ∀x,x=Q0z m->a%size=0->decide (wrap u64 (wrap u64 a+wrap u64 size)<=wrap u64 (wrap u64 x*128))=decide (a%size=0/\a<128*P):=λx hx hz=>by
   rw[hx,hq]
   simp only[wrap_u64]
   refine decide_eq_decide.2 ⟨λh=>⟨hz,?_⟩,λh=> ?_⟩<;>rcases hs with rfl|rfl<;>omega
 refine Tree.post (Q3g m a size) (W:=λb=>b=decide (a%size=0/\a<128*P)) ?_
 unfold Q3g
 refine w_br (λh1=>w_br (λh4=> ?_) (λ_=> ?_)) (λ_=> ?_)
 . have h1: ¬size=1:=by simpa using h1
   have h4: ¬size=4:=by simpa using h4
   omega
 all_goals
   refine w_cn e0 (w_br (λhb=> ?_) (λhb=>w_lv λx hx=>l x hx ?_))
   . rw[t]at hb
     exact(dN (λh=>by rw[h.1]at hb;cases hb)).symm
   . rw[t]at hb;simpa using hb
end
theorem fldj(w:Int):Q36 w 0 8=iand .u32 (ishr .u32 w 0) 255/\Q36 w 8 8=iand .u32 (ishr .u32 w 8) 255/\Q36 w 16 8=iand .u32 (ishr .u32 w 16) 255/\Q36 w 24 8=iand .u32 (ishr .u32 w 24) 255:=
 ⟨by kernel_rfl,by kernel_rfl,by kernel_rfl,by kernel_rfl⟩
theorem setj(w v:Int):Q8m w 0 8 v=putW w v 0/\Q8m w 8 8 v=putW w v 8/\Q8m w 16 8 v=putW w v 16/\Q8m w 24 8 v=putW w v 24:=
 ⟨by kernel_rfl,by kernel_rfl,by kernel_rfl,by kernel_rfl⟩
theorem yh{a:Int}(ha:U a):wrap .i64 (wrap .i64 (dB a 4)*8)=8*(a%4)/\wrap .u32 (8*dB a 4)=8*(a%4):=by
 obtain⟨a0,a1⟩:=ha
 rw[eC a0]
 exact⟨by rw[wrap_i64,wrap_i64];omega,by rw[wrap_u32];omega⟩
section
variable {P:Nat} {m:List Int} (h:Q15 P m)
include h
theorem Qpe{a:Int}(ha:U a){size:Int}(hs:size=1\/size=4):Q56 m a size=Q1g m a size:=by
 have e:=Z33 h ha hs
 obtain⟨s1,s2⟩:=yh ha
 have f:Q36 (m.getD (dC (wrap .u32 (eR a 4))) 0) (8*(a%4)) 8=iand .u32 (ishr .u32 (m.getD (dC (wrap .u32 (eR a 4))) 0) (8*(a%4))) 255:=by
   obtain⟨f0,f1,f2,f3⟩:=fldj (m.getD (dC (wrap .u32 (eR a 4))) 0)
   have:a%4=0\/a%4=1\/a%4=2\/a%4=3:=by omega
   rcases this with h|h|h|h<;>rw[h]
   . exact f0
   . exact f1
   . exact f2
   . exact f3
 simp only[Q56,Q79,Q1g,Q48,Tree.m,letv,e,s1,s2,f]
omit h in
theorem Zdw(a size:Int):(Q1g m a size).2=Q28 m a size:=by
 simp only[Q1g,Q48,Tree.m,letv]
 cases Q28 m a size
 . rfl
 . cases size==1<;>rfl
theorem Z8y{a:Int}(ha:U a){size:Int}(hs:size=1\/size=4)(v:Int):Qak m a size v=bif Q28 m a size then(Qap m a size v,true) else(m,false):=by
 have hcl:Q04 m=m:=rfl
 have e:=Z33 h ha hs
 obtain⟨s1,s2⟩:=yh ha
 have f: ∀w,Q8m w (8*(a%4)) 8 v=ior .u32 (Qie .u32 w (ishl .u32 255 (8*(a%4)))) (ishl .u32 (iand .u32 v 255) (8*(a%4))):=λw=>by
   obtain⟨f0,f1,f2,f3⟩:=setj w v
   have:a%4=0\/a%4=1\/a%4=2\/a%4=3:=by omega
   rcases this with h|h|h|h<;>rw[h]
   . exact f0
   . exact f1
   . exact f2
   . exact f3
 simp only[Qak,Q9c,Qap,Qfe,Tree.m,letv,hcl,e,s1,s2,f]
 rcases hs with rfl|rfl<;>cases Q28 m a _<;>rfl
end
section
variable {P:Nat} {m:List Int} (h:Q15 P m)
include h
theorem vh{root va:Int}(hr:U root)(hv:U va){access:Int}(ha:access=1\/access=2\/access=3):Qix m root va access=Q71 m root va access:=by
 have hp:=Qg7 h
 have h2:=h.p2
 have hlen:=h.len
 obtain⟨r1,r2⟩:=hr
 obtain⟨v1,v2⟩:=hv
 have hpg: ∀{f:Int},U f->Qb9 m f=decide (f<P):=λhf=>xU h hf
 have eP:wrap .u32 (P:Int)=P:=by rw[wrap_u32];omega
 have kn:Qfj access=true:=by rcases ha with rfl|rfl|rfl<;>rfl
 have ca:Qli access=(Q27 access,true):=by rcases ha with rfl|rfl|rfl<;>rfl
 simp only[Qix,Qba,Q71,Q9w,Tree.m,letv,hp,eP,kn,ca,hpg ⟨r1,r2⟩]
 by_cases c1:va>=4096
 . rw[dY c1];rfl
 by_cases c2:root<P
 . have eE:wrap u32 (wrap u32 (root*128)+wrap u32 (4*wrap u32 (eR va 128)))=root*128+4*(va/128):=by
     rw[eS v1,wrap_u32,wrap_u32,wrap_u32,wrap_u32];omega
   have hE:U (root*128+4*(va/128)):=⟨by omega,by omega⟩
   have wi:Q28 m (root*128+4*(va/128)) 4=true:=by
     rw[Qik h hE (.inr rfl)];exact dY ⟨by omega,by omega⟩
   rw[dN c1,dY c2,dN (show¬root>=P by omega),eE,Qpe h hE (.inr rfl),Zdw,wi]
   have ld:(Q1g m (root*128+4*(va/128)) 4).1=m.getD (dC (wrap .u32 (eR (root*128+4*(va/128)) 4))) 0:=by
     simp only[Q1g,Q48,Tree.m,letv,wi];rfl
   rw[ld]
   generalize m.getD (dC (wrap .u32 (eR (root*128+4*(va/128)) 4))) 0=w
   have fo:Qg9 w=iand .u32 (ishr .u32 w 8) 255:=(fld w).2.2.2.2
   rw[fo,hpg (Zm6 _ _)]
   have hge:decide (iand .u32 (ishr .u32 w 8) 255>=(P:Int))=!decide (iand .u32 (ishr .u32 w 8) 255<(P:Int)):=by
     by_cases hq:iand .u32 (ishr .u32 w 8) 255<(P:Int)
     . rw[dY hq,dN (by omega)];rfl
     . rw[dN hq,dY (by omega)];rfl
   rw[hge]
   generalize decide (iand .u32 (ishr .u32 w 8) 255<(P:Int))=d
   rcases ha with rfl|rfl|rfl
   . show _=(bif iand .u32 w 1==0 then _ else bif iand .u32 w 4==0 then _ else bif !d then _ else _)
     have:Qca w 1=(bif iand .u32 w 1==0 then false else !(iand .u32 w 4==0)):=rfl
     rw[this]
     cases iand .u32 w 1==0<;>cases iand .u32 w 4==0<;>cases d<;>rfl
   . show _=(bif iand .u32 w 1==0 then _ else bif !d then _ else _)
     have:Qca w 2=(bif iand .u32 w 1==0 then false else true):=rfl
     rw[this]
     cases iand .u32 w 1==0<;>cases d<;>rfl
   . show _=(bif iand .u32 w 1==0 then _ else bif iand .u32 w 2==0 then _ else bif !d then _ else _)
     have:Qca w 3=(bif iand .u32 w 1==0 then false else !(iand .u32 w 2==0)):=rfl
     rw[this]
     cases iand .u32 w 1==0<;>cases iand .u32 w 2==0<;>cases d<;>rfl
 . rw[dN c1,dN c2,dY (show root>=P by omega)];rfl
theorem Zq6{a:Int}(ha:U a)(access:Int):Qdn m a access=Qpz m a access:=by
 have hcl:Q04 m=m:=rfl
 have hl:=h.len
 have a0:=ha.1
 simp only[Qdn,Q97,Qpz,Qfk,Tree.m,letv,Qpe h ha (.inr rfl),Zdw,Z8y h ha (.inr rfl),hcl]
 cases hw:Q28 m a 4
 . rfl
 . rw[Qik h ha (.inr rfl)]at hw
   have hw:=oY hw
   have wi:Q28 m a 4=true:=by rw[Qik h ha (.inr rfl)];exact dY hw
   have ld:(Q1g m a 4).1=m.getD (dC (wrap .u32 (eR a 4))) 0:=by
     simp only[Q1g,Q48,Tree.m,letv,wi];rfl
   have pu: ∀v,Qap m a 4 v=m.set (dC (wrap .u32 (eR a 4))) v:=λv=>rfl
   rw[ld,pu,pu]
   have hi:dC (wrap .u32 (eR a 4))<m.length:=by
     rw[eS a0,wrap_u32];omega
   generalize dC (wrap .u32 (eR a 4))=i at*
   rw[Qvo hi,List.set_set]
   rfl
end
theorem Qqe{c:Q05}(h0:0<=c.B6.a0)(h:c.B6.a0<=31)(k b:Int):Q5 c k b=Q3 c k b:=by
 have e:=eq_of_beq (Quh (λs=>Qie .u32 (ior .u32 (Q9l (Q9l s 1 8) 2 16) 1) 2==ior .u32 (Qie .u32 (ior .u32 (ior .u32 (Qie .u32 s 24) (wrap .u32 (8*Qch (iand .u32 s 1 !=0)))) (wrap .u32 (16*Qch (iand .u32 s 2 !=0)))) 2) 1) 32 (by kernel_rfl) h0 (by omega))
 simp only[Q5,Qm9,Q3,Qkc,Tree.m,letv,e]
theorem Zjw{c:Q05}(h0:0<=c.B6.a0)(h:c.B6.a0<=31):Qfm c=Qj2 c:=by
 have e:=eq_of_beq (Quh (λs=>Q9l (Q9l s 8 1) 16 2==ior .u32 (ior .u32 (Qie .u32 s 3) (wrap .u32 (1*Qch (iand .u32 s 8 !=0)))) (wrap .u32 (2*Qch (iand .u32 s 16 !=0)))) 32 (by kernel_rfl) h0 (by omega))
 simp only[Qfm,Qhb,Qj2,Qef,Tree.m,letv,e]
theorem Z94{c:Q05}(h0:0<=c.B6.a0)(h:c.B6.a0<=31):Qm c=(!Qb4 c&&(iand .u32 c.B6.a0 4 !=0)):=
 eq_of_beq (Quh (λs=>(iand .u32 s 5==4)==(!(iand .u32 s 1 !=0)&&(iand .u32 s 4 !=0))) 32 (by kernel_rfl) h0 (by omega))
theorem Z2i(c:Q05){r:Int}(hr:0<=r/\r<16)(v:Int):Qbn c r v=Q20 c r v:=by
 simp only[Qbn,Qe5,Q20,Qfb,Tree.m]
 by_cases h:r=0
 . subst h;rfl
 . rw[dY (show r>0 by omega),dY hr.2,show(r !=0)=true by simpa using h];rfl
theorem xI{a b:Int}(ha:U a)(hb:U b):Qd6 a b=Qdd a b:=by
  obtain⟨a0,a1⟩:=ha
  obtain⟨b0,b1⟩:=hb
  have i: ∀x,wrap .i64 (wrap .i32 x)=wrap .i32 x:=λx=>by rw[wrap_i64,wrap_i32];omega
  have r32: ∀x,-2147483648<=wrap .i32 x/\wrap .i32 x<2147483648:=λx=>by rw[wrap_i32];omega
  have q32: ∀x y:Int,-2147483648<=x/\x<2147483648-> -2147483648<=eR x y/\eR x y<=2147483648:=λx y hx=>by
    have h1:(eR x y).natAbs<=x.natAbs:=by rw[Int.natAbs_tdiv];exact Nat.div_le_self _ _
    omega
  simp only[Qd6,Qb2,Qdd,Qax,Tree.m,i]
  cases hb:b==0
  . have w: ∀z,wrap .u32 (wrap .i32 z)=wrap .u32 z:=λz=>by rw[wrap_i32,wrap_u32,wrap_u32];omega
    have w2:wrap .i64 (eR (wrap .i32 a) (wrap .i32 b))=eR (wrap .i32 a) (wrap .i32 b):=by
      have:=q32 _ (wrap .i32 b) (r32 a)
      rw[wrap_i64];omega
    rw[w,w2]
    cases h1:a==2147483648
    . rfl
    . cases h2:b==4294967295
      . rfl
      . have h1:=eq_of_beq h1
        have h2:=eq_of_beq h2
        subst h1;subst h2
        rfl
  . rfl
theorem zI{op a b:Int}(h0:1<=op)(h1:op<=23)(ha:U a)(hb:U b):Q4o op a b=Qeb op a b:=by
 have sub:wrap .u32 (a+wrap .u32 (0-b))=wrap .u32 (a-b):=by
   rw[wrap_u32,wrap_u32,wrap_u32];omega
 have hop:op=1\/op=2\/op=3\/op=4\/op=5\/op=6\/op=7\/op=8\/op=9\/op=10\/op=11\/op=12\/op=13\/op=14\/op=15\/op=16\/op=17\/op=18\/op=19\/op=20\/op=21\/op=22\/op=23:=by omega
 have d:=xI ha hb
 rcases hop with rfl|rfl|rfl|rfl|rfl|rfl|rfl|rfl|rfl|rfl|rfl|rfl|rfl|rfl|rfl|rfl|rfl|rfl|rfl|rfl|rfl|rfl|rfl
 . rfl
 . show(wrap .u32 (a+wrap .u32 (0-b)),true)=(wrap .u32 (a-b),true)
   rw[sub]
 . rfl
 . rfl
 . rfl
 . rfl
 . rfl
 . rfl
 . rfl
 . show((Qd6 a b).1,true)=((Qdd a b).1,true)
   rw[d]
 . show((Qd6 a b).2,true)=((Qdd a b).2,true)
   rw[d]
 all_goals rfl
theorem Qp9{P:Nat}{m:List Int}(h:Q15 P m){c:Q05}(hc:Q2m c)(hst:c.B6.a0<=31){va:Int}(hv:U va){size:Int}(hs:size=1\/size=4){access:Int}(ha:access=1\/access=2\/access=3):Q29 c m va size access=((Q18 c m va size access).1,(Q18 c m va size access).2.2,(Q18 c m va size access).2.1):=by
 have hcl:Q04 m=m:=rfl
 have kn:Qfj access=true:=by rcases ha with rfl|rfl|rfl<;>rfl
 have ca:Qt4 access=(Q27 access,true):=by rcases ha with rfl|rfl|rfl<;>rfl
 have pg:=Z94 hc.a0.1 hst
 have wk:=vh h hc.a6 hv ha
 have tc:Qdn m (Q71 m c.B6.a6 va access).F2 access=Qpz m (Q71 m c.B6.a6 va access).F2 access:=Zq6 h (Tree.pp (qaa h hc.a6 hv access)).2.2.1 access
 have sz:(bif size !=1 then bif size !=4 then false else true else true)=true:=by rcases hs with rfl|rfl<;>rfl
 simp only[Q29,Q6t,Q18,Q8c,Tree.m,letv,hcl,kn,ca,pg,wk,tc,Qpe h hv hs,Zdw]
 rcases hs with rfl|rfl<;>
 . show(bif _ then _ else _)=_
   cases dB va _ !=0<;>cases Qb4 c<;>cases iand .u32 c.B6.a0 4 !=0<;>cases(Q71 m c.B6.a6 va access).F0 !=0<;>cases Q28 m va _<;>rfl
theorem Z5u{α:Type}{Q:α->Prop}{c:Bool}{x y:α}(hx:Q x)(hy:Q y):Q (cond c x y):=by cases c<;>assumption
theorem zal(m:List Int)(root:Int){va:Int}(hv:U va)(access:Int):(Q71 m root va access).F0=0->(Q71 m root va access).Addr%4=va%4:=by
 have hc:Q27 access≠0:=by
   simp only[Q27,Q93,Tree.m]
   cases access==1<;>cases access==3<;>simp
 have q :(λt:Q1f=>t.F0=0->t.Addr%4=va%4) (Q71 m root va access):=by
   simp only[Q71,Q9w,Tree.m,letv]
   repeat'(first
     |exact λe=>absurd e hc
     | (intro _
        show wrap .u32 (wrap .u32 (_*128)+dB va 128)%4=va%4
        rw[eC hv.1,wrap_u32,wrap_u32];omega)
     |refine Z5u (Q:=λt:Q1f=>t.F0=0->t.Addr%4=va%4) ?_ ?_)
 exact q
theorem yI{c:Q05}{m:List Int}{va:Int}(hv:U va){size:Int}(hs:size=1\/size=4){access:Int}(ha:access=1\/access=2\/access=3):(Q18 c m va size access).2.1=0->(Q18 c m va size access).1%size=0:=by
  have kn:Qfj access=true:=by rcases ha with rfl|rfl|rfl<;>rfl
  have hc:Q27 access≠0:=by
    simp only[Q27,Q93,Tree.m]
    cases access==1<;>cases access==3<;>simp
  rcases hs with rfl|rfl
  . intro _;omega
  simp only[Q18,Q8c,Tree.m,letv,kn]
  show(bif dB va 4 !=0 then((0:Int),(3:Int),m) else _).2.1=0->(bif dB va 4 !=0 then((0:Int),(3:Int),m) else _).1%4=0
  rw[eC hv.1]
  cases hz:va%4 !=0
  . have hz:va%4=0:=by simpa using hz
    have w:=zal m c.B6.a6 hv access
    cases hp:Qm c
    . cases hw:Q28 m va 4
      . exact λe=>absurd e hc
      . exact λ_=>hz
    . cases hq:(Q71 m c.B6.a6 va access).F0 !=0
      . have hq:(Q71 m c.B6.a6 va access).F0=0:=by simpa using hq
        exact λ_=>(w hq).trans hz
      . have hq: ¬(Q71 m c.B6.a6 va access).F0=0:=by simpa using hq
        exact λe=>absurd e hq
  . intro e;cases e
def eff0:Q17:={B5:=0,D1:=0,D9:=0,Value:=0}
def Q68(c:Q05)(m:List Int)(i:Q0o):Q05×List Int×Q17:=
 bif i.Op==32 then((Q7 c m i).1,(Q7 c m i).2,eff0) else bif i.Op==33 then((Q7 c m i).1,(Q7 c m i).2,eff0) else bif i.Op==34 then((Q7 c m i).1,(Q7 c m i).2,eff0)
 else bif i.Op==35 then((Q8v c m i).1,(Q8v c m i).2,eff0) else bif i.Op==36 then((Q8v c m i).1,(Q8v c m i).2,eff0) else((Qng c i).1,m,(Qng c i).2)
def regX(c:Q05)(r:Int):Int:=aK (A16.l c.X) r.toNat 0
def Qks(c:Q05)(m:List Int)(i:Q0o):Q05×Q17×List Int:=
 bif decide (i.Op>=56) then((Qjv c i).1,(Qjv c i).2,m) else bif decide (i.Op>=40) then(Z2q c i,eff0,m) else bif decide (i.Op>=32) then((Q5c c m i).1,eff0,(Q5c c m i).2)
 else bif i.Op==24 then({X:=(Q20 c i.A (ishl .u32 (wrap .u32 i.Imm) 16)).X,Pc:=wrap .u32 ((Q20 c i.A (ishl .u32 (wrap .u32 i.Imm) 16)).Pc+4),B6:=(Q20 c i.A (ishl .u32 (wrap .u32 i.Imm) 16)).B6},eff0,m)
 else bif decide (i.Op<=13) then
   ({X:=(Q20 c i.A (Qeb i.Op (regX c i.B) (regX c i.C)).1).X,Pc:=wrap .u32 ((Q20 c i.A (Qeb i.Op (regX c i.B) (regX c i.C)).1).Pc+4),B6:=(Q20 c i.A (Qeb i.Op (regX c i.B) (regX c i.C)).1).B6},eff0,m)
 else({X:=(Q20 c i.A (Qeb i.Op (regX c i.B) (wrap .u32 i.Imm)).1).X,Pc:=wrap .u32 ((Q20 c i.A (Qeb i.Op (regX c i.B) (wrap .u32 i.Imm)).1).Pc+4),B6:=(Q20 c i.A (Qeb i.Op (regX c i.B) (wrap .u32 i.Imm)).1).B6},eff0,m)
def isOp(op:Int):Prop:=op=1\/op=2\/op=3\/op=4\/op=5\/op=6\/op=7\/op=8\/op=9\/op=10\/op=11\/op=12\/op=13\/op=16\/op=17\/op=18\/op=19\/op=20\/op=21\/op=22\/op=23\/op=24\/op=32\/op=33\/op=34\/op=35\/op=36\/op=40\/op=41\/op=42\/op=43\/op=44\/op=45\/op=48\/op=49\/op=56\/op=57\/op=58\/op=59\/op=60\/op=61\/op=62\/op=63\/op=64
theorem yY(c:Q05)(r v:Int):(Q20 c r v).Pc=c.Pc/\(Q20 c r v).B6=c.B6:=by
 simp only[Q20,Qfb,Tree.m]
 cases decide (r>0)
 . exact⟨rfl,rfl⟩
 . cases decide (r<16)<;>exact⟨rfl,rfl⟩
def adv(c:Q05):Q05:={X:=c.X,Pc:=wrap .u32 (c.Pc+4),B6:=c.B6}
def va(c:Q05)(B Imm:Int):Int:=wrap .u32 (aK (A16.l c.X) B.toNat 0+wrap .u32 Imm)
def ldP(c:Q05)(A v size:Int)(f:Int->Int)(y:Int×List Int×Int):Q05×List Int:=bif y.2.2 !=0 then(Q5 c y.2.2 v,y.2.1) else(adv (Qbn c A (f (Q56 y.2.1 y.1 size).1)),y.2.1)
def ldR(c:Q05)(A v size:Int)(f:Int->Int)(x:Int×Int×List Int):Q05×List Int:=bif x.2.1 !=0 then(Q3 c x.2.1 v,x.2.2) else(adv (Q20 c A (f (Q1g x.2.2 x.1 size).1)),x.2.2)
def stP(c:Q05)(A v size:Int)(y:Int×List Int×Int):Q05×List Int:=bif y.2.2 !=0 then(Q5 c y.2.2 v,y.2.1) else(adv c,(Qak y.2.1 y.1 size (aK (A16.l c.X) A.toNat 0)).1)
def stR(c:Q05)(A v size:Int)(x:Int×Int×List Int):Q05×List Int:=bif x.2.1 !=0 then(Q3 c x.2.1 v,x.2.2) else(adv c,Qap x.2.2 x.1 size (aK (A16.l c.X) A.toNat 0))
theorem ld_eq(c:Q05)(m:List Int)(A B C Imm:Int):
   (Q7 c m ⟨32,A,B,C,Imm⟩=ldP c A (va c B Imm) 4 (λv=>v) (Q29 c m (va c B Imm) 4 2)/\Q5c c m ⟨32,A,B,C,Imm⟩=ldR c A (va c B Imm) 4 (λv=>v) (Q18 c m (va c B Imm) 4 2))/\
   (Q7 c m ⟨33,A,B,C,Imm⟩=ldP c A (va c B Imm) 1 (λv=>Q2j v 8) (Q29 c m (va c B Imm) 1 2)/\Q5c c m ⟨33,A,B,C,Imm⟩=ldR c A (va c B Imm) 1 (λv=>Q3f v 8) (Q18 c m (va c B Imm) 1 2))/\
   (Q7 c m ⟨34,A,B,C,Imm⟩=ldP c A (va c B Imm) 1 (λv=>v) (Q29 c m (va c B Imm) 1 2)/\Q5c c m ⟨34,A,B,C,Imm⟩=ldR c A (va c B Imm) 1 (λv=>v) (Q18 c m (va c B Imm) 1 2))/\
   (Q8v c m ⟨35,A,B,C,Imm⟩=stP c A (va c B Imm) 4 (Q29 c m (va c B Imm) 4 3)/\Q5c c m ⟨35,A,B,C,Imm⟩=stR c A (va c B Imm) 4 (Q18 c m (va c B Imm) 4 3))/\
   (Q8v c m ⟨36,A,B,C,Imm⟩=stP c A (va c B Imm) 1 (Q29 c m (va c B Imm) 1 3)/\Q5c c m ⟨36,A,B,C,Imm⟩=stR c A (va c B Imm) 1 (Q18 c m (va c B Imm) 1 3)):=
 ⟨⟨by kernel_rfl,by kernel_rfl⟩,⟨by kernel_rfl,by kernel_rfl⟩,⟨by kernel_rfl,by kernel_rfl⟩,⟨by kernel_rfl,by kernel_rfl⟩,⟨by kernel_rfl,by kernel_rfl⟩⟩
theorem xal{P:Nat}{m:List Int}(h:Q15 P m)(a:Int):Q2j (Q1g m a 1).1 8=Q3f (Q1g m a 1).1 8:=by
 have: ∀x:Int×Bool,(∃w,U w/\x=(iand .u32 w 255,true))\/x=(0,false)->Q2j x.1 8=Q3f x.1 8:=λx hx=>by
   rcases hx with⟨w,hw,rfl⟩|rfl
   . have e:=m255 hw
     exact sx8 (by show 0<=iand .u32 w 255;omega) (by show iand .u32 w 255<256;omega)
   . rfl
 refine this _ ?_
 simp only[Q1g,Q48,Tree.m,letv]
 cases Q28 m a 1
 . exact .inr rfl
 . exact .inl ⟨_,Qz0 (Qmp h.u _) _,rfl⟩
section
variable {P:Nat} {m:List Int} (h:Q15 P m) {c:Q05} (hc:Q2m c) (hst:c.B6.a0<=31)
include h hc hst
omit hst in
theorem Zl6{v:Int}(hv:U v){size:Int}(hs:size=1\/size=4)(access:Int):Q15 P (Q18 c m v size access).2.2/\U (Q18 c m v size access).1/\((Q18 c m v size access).2.1=0->(Q18 c m v size access).1<128*P):=(Tree.pp (Zee h hc hv hs access)).2
theorem Zjx{A v:Int}(hA:0<=A/\A<16)(hv:U v){size:Int}(hs:size=1\/size=4){f g:Int->Int}(hf: ∀{m':List Int},Q15 P m'-> ∀a,f (Q1g m' a size).1=g (Q1g m' a size).1):ldP c A v size f (Q29 c m v size 2)=ldR c A v size g (Q18 c m v size 2):=by
 rw[Qp9 h hc hst hv hs (.inr (.inl rfl))]
 obtain⟨k,u,_⟩:=Zl6 h hc hv hs 2
 generalize Q18 c m v size 2=x at*
 simp only[ldP,ldR,Qpe k u hs,Qqe hc.a0.1 hst,Z2i c hA,hf k]
theorem qi{A v:Int}(hv:U v){size:Int}(hs:size=1\/size=4):stP c A v size (Q29 c m v size 3)=stR c A v size (Q18 c m v size 3):=by
 rw[Qp9 h hc hst hv hs (.inr (.inr rfl))]
 obtain⟨k,u,b⟩:=Zl6 h hc hv hs 3
 have al:=yI (c:=c) (m:=m) hv hs (access:=3) (.inr (.inr rfl))
 generalize Q18 c m v size 3=x at*
 simp only[stP,stR,Z8y k u hs,Qqe hc.a0.1 hst,Qik k u hs]
 cases hq:x.2.1 !=0
 . have hq:x.2.1=0:=by simpa using hq
   rw[dY ⟨al hq,b hq⟩];rfl
 . rfl
end
theorem vI(c:Q05)(k v:Int):(Qir c k v).Pc=c.Pc:=by
 simp only[Qir,Qdl,Tree.m]
 repeat'(first|rfl|refine Z5u (Q:=λx:Q05=>x.Pc=c.Pc) ?_ ?_)
def setP(c:Q05)(A v p:Int):Q05:={X:=(Qbn c A v).X,Pc:=p,B6:=(Qbn c A v).B6}
def setR(c:Q05)(A v p:Int):Q05:={X:=(Q20 c A v).X,Pc:=p,B6:=(Q20 c A v).B6}
def nxt(c:Q05):Int:=wrap .u32 (c.Pc+4)
theorem Zjl(c:Q05){A:Int}(hA:0<=A/\A<16)(v p:Int):setP c A v p=setR c A v p:=by
 unfold setP setR;rw[Z2i c hA]
theorem Zk5(c:Q05)(A v:Int):adv (Q20 c A v)=setR c A v (nxt c):=by
 unfold adv setR nxt;rw[(yY c A v).1]
theorem brc(t:Bool)(x y:Q05)(m:List Int):((bif t then(x,eff0) else(y,eff0)).1,m,(bif t then(x,eff0) else(y,eff0)).2)=((bif t then x else y),m,eff0):=by cases t<;>rfl
def isOpB(op:Int):Bool:=decide (op=1)||decide (op=2)||decide (op=3)||decide (op=4)||decide (op=5)||decide (op=6)||decide (op=7)||decide (op=8)||decide (op=9)||decide (op=10)||decide (op=11)||decide (op=12)||decide (op=13)||decide (op=16)||decide (op=17)||decide (op=18)||decide (op=19)||decide (op=20)||decide (op=21)||decide (op=22)||decide (op=23)||decide (op=24)||decide (op=32)||decide (op=33)||decide (op=34)||decide (op=35)||decide (op=36)||decide (op=40)||decide (op=41)||decide (op=42)||decide (op=43)||decide (op=44)||decide (op=45)||decide (op=48)||decide (op=49)||decide (op=56)||decide (op=57)||decide (op=58)||decide (op=59)||decide (op=60)||decide (op=61)||decide (op=62)||decide (op=63)||decide (op=64)
section
variable {P:Nat} {m:List Int} (h:Q15 P m) {c:Q05} (hc:Q2m c) (hst:c.B6.a0<=31) {A B C Imm:Int} (hA:0<=A/\A<16)
include h hc hst hA
theorem xi{op:Int}(hop:isOp op):Q68 c m ⟨op,A,B,C,Imm⟩=((Qks c m ⟨op,A,B,C,Imm⟩).1,(Qks c m ⟨op,A,B,C,Imm⟩).2.2,(Qks c m ⟨op,A,B,C,Imm⟩).2.1):=by
 have alu: ∀{k y:Int},1<=k->k<=23->U y->((setP c A (Q4o k (regX c B) y).1 (nxt c),m,eff0):Q05×List Int×Q17)=(adv (Q20 c A (Qeb k (regX c B) y).1),m,eff0):=λh1 h2 hy=>by
   rw[zI h1 h2 (show U (regX c B) from hc.r _) hy,Zk5,Zjl c hA]
 have uC:U (regX c C):=hc.r _
 have uI:U (wrap .u32 Imm):=Q0v _
 obtain⟨⟨l1,l2⟩,⟨l3,l4⟩,⟨l5,l6⟩,⟨l7,l8⟩,⟨l9,l10⟩⟩:=ld_eq c m A B C Imm
 have hva:U (va c B Imm):=Q0v _
 rcases hop with rfl|rfl|rfl|rfl|rfl|rfl|rfl|rfl|rfl|rfl|rfl|rfl|rfl|rfl|rfl|rfl|rfl|rfl|rfl|rfl|rfl|rfl|rfl|rfl|rfl|rfl|rfl|rfl|rfl|rfl|rfl|rfl|rfl|rfl|rfl|rfl|rfl|rfl|rfl|rfl|rfl|rfl|rfl|rfl
 . exact(show Q68 c m ⟨1,A,B,C,Imm⟩=(setP c A (Q4o 1 (regX c B) (regX c C)).1 (nxt c),m,eff0) by kernel_rfl).trans ((alu (by decide) (by decide) uC).trans (by kernel_rfl))
 . exact(show Q68 c m ⟨2,A,B,C,Imm⟩=(setP c A (Q4o 2 (regX c B) (regX c C)).1 (nxt c),m,eff0) by kernel_rfl).trans ((alu (by decide) (by decide) uC).trans (by kernel_rfl))
 . exact(show Q68 c m ⟨3,A,B,C,Imm⟩=(setP c A (Q4o 3 (regX c B) (regX c C)).1 (nxt c),m,eff0) by kernel_rfl).trans ((alu (by decide) (by decide) uC).trans (by kernel_rfl))
 . exact(show Q68 c m ⟨4,A,B,C,Imm⟩=(setP c A (Q4o 4 (regX c B) (regX c C)).1 (nxt c),m,eff0) by kernel_rfl).trans ((alu (by decide) (by decide) uC).trans (by kernel_rfl))
 . exact(show Q68 c m ⟨5,A,B,C,Imm⟩=(setP c A (Q4o 5 (regX c B) (regX c C)).1 (nxt c),m,eff0) by kernel_rfl).trans ((alu (by decide) (by decide) uC).trans (by kernel_rfl))
 . exact(show Q68 c m ⟨6,A,B,C,Imm⟩=(setP c A (Q4o 6 (regX c B) (regX c C)).1 (nxt c),m,eff0) by kernel_rfl).trans ((alu (by decide) (by decide) uC).trans (by kernel_rfl))
 . exact(show Q68 c m ⟨7,A,B,C,Imm⟩=(setP c A (Q4o 7 (regX c B) (regX c C)).1 (nxt c),m,eff0) by kernel_rfl).trans ((alu (by decide) (by decide) uC).trans (by kernel_rfl))
 . exact(show Q68 c m ⟨8,A,B,C,Imm⟩=(setP c A (Q4o 8 (regX c B) (regX c C)).1 (nxt c),m,eff0) by kernel_rfl).trans ((alu (by decide) (by decide) uC).trans (by kernel_rfl))
 . exact(show Q68 c m ⟨9,A,B,C,Imm⟩=(setP c A (Q4o 9 (regX c B) (regX c C)).1 (nxt c),m,eff0) by kernel_rfl).trans ((alu (by decide) (by decide) uC).trans (by kernel_rfl))
 . exact(show Q68 c m ⟨10,A,B,C,Imm⟩=(setP c A (Q4o 10 (regX c B) (regX c C)).1 (nxt c),m,eff0) by kernel_rfl).trans ((alu (by decide) (by decide) uC).trans (by kernel_rfl))
 . exact(show Q68 c m ⟨11,A,B,C,Imm⟩=(setP c A (Q4o 11 (regX c B) (regX c C)).1 (nxt c),m,eff0) by kernel_rfl).trans ((alu (by decide) (by decide) uC).trans (by kernel_rfl))
 . exact(show Q68 c m ⟨12,A,B,C,Imm⟩=(setP c A (Q4o 12 (regX c B) (regX c C)).1 (nxt c),m,eff0) by kernel_rfl).trans ((alu (by decide) (by decide) uC).trans (by kernel_rfl))
 . exact(show Q68 c m ⟨13,A,B,C,Imm⟩=(setP c A (Q4o 13 (regX c B) (regX c C)).1 (nxt c),m,eff0) by kernel_rfl).trans ((alu (by decide) (by decide) uC).trans (by kernel_rfl))
 . exact(show Q68 c m ⟨16,A,B,C,Imm⟩=(setP c A (Q4o 16 (regX c B) (wrap .u32 Imm)).1 (nxt c),m,eff0) by kernel_rfl).trans ((alu (by decide) (by decide) uI).trans (by kernel_rfl))
 . exact(show Q68 c m ⟨17,A,B,C,Imm⟩=(setP c A (Q4o 17 (regX c B) (wrap .u32 Imm)).1 (nxt c),m,eff0) by kernel_rfl).trans ((alu (by decide) (by decide) uI).trans (by kernel_rfl))
 . exact(show Q68 c m ⟨18,A,B,C,Imm⟩=(setP c A (Q4o 18 (regX c B) (wrap .u32 Imm)).1 (nxt c),m,eff0) by kernel_rfl).trans ((alu (by decide) (by decide) uI).trans (by kernel_rfl))
 . exact(show Q68 c m ⟨19,A,B,C,Imm⟩=(setP c A (Q4o 19 (regX c B) (wrap .u32 Imm)).1 (nxt c),m,eff0) by kernel_rfl).trans ((alu (by decide) (by decide) uI).trans (by kernel_rfl))
 . exact(show Q68 c m ⟨20,A,B,C,Imm⟩=(setP c A (Q4o 20 (regX c B) (wrap .u32 Imm)).1 (nxt c),m,eff0) by kernel_rfl).trans ((alu (by decide) (by decide) uI).trans (by kernel_rfl))
 . exact(show Q68 c m ⟨21,A,B,C,Imm⟩=(setP c A (Q4o 21 (regX c B) (wrap .u32 Imm)).1 (nxt c),m,eff0) by kernel_rfl).trans ((alu (by decide) (by decide) uI).trans (by kernel_rfl))
 . exact(show Q68 c m ⟨22,A,B,C,Imm⟩=(setP c A (Q4o 22 (regX c B) (wrap .u32 Imm)).1 (nxt c),m,eff0) by kernel_rfl).trans ((alu (by decide) (by decide) uI).trans (by kernel_rfl))
 . exact(show Q68 c m ⟨23,A,B,C,Imm⟩=(setP c A (Q4o 23 (regX c B) (wrap .u32 Imm)).1 (nxt c),m,eff0) by kernel_rfl).trans ((alu (by decide) (by decide) uI).trans (by kernel_rfl))
 . refine(show Q68 c m ⟨24,A,B,C,Imm⟩=(setP c A (ishl .u32 (wrap .u32 Imm) 16) (nxt c),m,eff0) by kernel_rfl).trans ?_
   rw[Zjl c hA,<-Zk5];kernel_rfl
 . have e:=Zjx h hc hst hA hva (.inr rfl) (f:=λv=>v) (g:=λv=>v) (λ_ _=>rfl)
   rw[<-l1,<-l2]at e
   refine(show Q68 c m ⟨32,A,B,C,Imm⟩=((Q7 c m ⟨32,A,B,C,Imm⟩).1,(Q7 c m ⟨32,A,B,C,Imm⟩).2,eff0) by kernel_rfl).trans ?_
   rw[e];kernel_rfl
 . have e:=Zjx h hc hst hA hva (.inl rfl) (f:=λv=>Q2j v 8) (g:=λv=>Q3f v 8) (λhm a=>xal hm a)
   rw[<-l3,<-l4]at e
   refine(show Q68 c m ⟨33,A,B,C,Imm⟩=((Q7 c m ⟨33,A,B,C,Imm⟩).1,(Q7 c m ⟨33,A,B,C,Imm⟩).2,eff0) by kernel_rfl).trans ?_
   rw[e];kernel_rfl
 . have e:=Zjx h hc hst hA hva (.inl rfl) (f:=λv=>v) (g:=λv=>v) (λ_ _=>rfl)
   rw[<-l5,<-l6]at e
   refine(show Q68 c m ⟨34,A,B,C,Imm⟩=((Q7 c m ⟨34,A,B,C,Imm⟩).1,(Q7 c m ⟨34,A,B,C,Imm⟩).2,eff0) by kernel_rfl).trans ?_
   rw[e];kernel_rfl
 . have e:=qi h hc hst (A:=A) hva (.inr rfl)
   rw[<-l7,<-l8]at e
   refine(show Q68 c m ⟨35,A,B,C,Imm⟩=((Q8v c m ⟨35,A,B,C,Imm⟩).1,(Q8v c m ⟨35,A,B,C,Imm⟩).2,eff0) by kernel_rfl).trans ?_
   rw[e];kernel_rfl
 . have e:=qi h hc hst (A:=A) hva (.inl rfl)
   rw[<-l9,<-l10]at e
   refine(show Q68 c m ⟨36,A,B,C,Imm⟩=((Q8v c m ⟨36,A,B,C,Imm⟩).1,(Q8v c m ⟨36,A,B,C,Imm⟩).2,eff0) by kernel_rfl).trans ?_
   rw[e];kernel_rfl
 . exact(show Q68 c m ⟨40,A,B,C,Imm⟩=((bif(Q2f 40 (regX c A) (regX c B)) then((⟨c.X,wrap .u32 (c.Pc+wrap .u32 (4*wrap .u32 Imm)),c.B6⟩:Q05),eff0) else(⟨c.X,nxt c,c.B6⟩,eff0)).1,m,(bif(Q2f 40 (regX c A) (regX c B)) then((⟨c.X,wrap .u32 (c.Pc+wrap .u32 (4*wrap .u32 Imm)),c.B6⟩:Q05),eff0) else(⟨c.X,nxt c,c.B6⟩,eff0)).2) by kernel_rfl).trans ((brc (Q2f 40 (regX c A) (regX c B)) ⟨c.X,wrap .u32 (c.Pc+wrap .u32 (4*wrap .u32 Imm)),c.B6⟩ ⟨c.X,nxt c,c.B6⟩ m).trans (by kernel_rfl))
 . exact(show Q68 c m ⟨41,A,B,C,Imm⟩=((bif(Q2f 41 (regX c A) (regX c B)) then((⟨c.X,wrap .u32 (c.Pc+wrap .u32 (4*wrap .u32 Imm)),c.B6⟩:Q05),eff0) else(⟨c.X,nxt c,c.B6⟩,eff0)).1,m,(bif(Q2f 41 (regX c A) (regX c B)) then((⟨c.X,wrap .u32 (c.Pc+wrap .u32 (4*wrap .u32 Imm)),c.B6⟩:Q05),eff0) else(⟨c.X,nxt c,c.B6⟩,eff0)).2) by kernel_rfl).trans ((brc (Q2f 41 (regX c A) (regX c B)) ⟨c.X,wrap .u32 (c.Pc+wrap .u32 (4*wrap .u32 Imm)),c.B6⟩ ⟨c.X,nxt c,c.B6⟩ m).trans (by kernel_rfl))
 . exact(show Q68 c m ⟨42,A,B,C,Imm⟩=((bif(Q2f 42 (regX c A) (regX c B)) then((⟨c.X,wrap .u32 (c.Pc+wrap .u32 (4*wrap .u32 Imm)),c.B6⟩:Q05),eff0) else(⟨c.X,nxt c,c.B6⟩,eff0)).1,m,(bif(Q2f 42 (regX c A) (regX c B)) then((⟨c.X,wrap .u32 (c.Pc+wrap .u32 (4*wrap .u32 Imm)),c.B6⟩:Q05),eff0) else(⟨c.X,nxt c,c.B6⟩,eff0)).2) by kernel_rfl).trans ((brc (Q2f 42 (regX c A) (regX c B)) ⟨c.X,wrap .u32 (c.Pc+wrap .u32 (4*wrap .u32 Imm)),c.B6⟩ ⟨c.X,nxt c,c.B6⟩ m).trans (by kernel_rfl))
 . exact(show Q68 c m ⟨43,A,B,C,Imm⟩=((bif(Q2f 43 (regX c A) (regX c B)) then((⟨c.X,wrap .u32 (c.Pc+wrap .u32 (4*wrap .u32 Imm)),c.B6⟩:Q05),eff0) else(⟨c.X,nxt c,c.B6⟩,eff0)).1,m,(bif(Q2f 43 (regX c A) (regX c B)) then((⟨c.X,wrap .u32 (c.Pc+wrap .u32 (4*wrap .u32 Imm)),c.B6⟩:Q05),eff0) else(⟨c.X,nxt c,c.B6⟩,eff0)).2) by kernel_rfl).trans ((brc (Q2f 43 (regX c A) (regX c B)) ⟨c.X,wrap .u32 (c.Pc+wrap .u32 (4*wrap .u32 Imm)),c.B6⟩ ⟨c.X,nxt c,c.B6⟩ m).trans (by kernel_rfl))
 . exact(show Q68 c m ⟨44,A,B,C,Imm⟩=((bif(Q2f 44 (regX c A) (regX c B)) then((⟨c.X,wrap .u32 (c.Pc+wrap .u32 (4*wrap .u32 Imm)),c.B6⟩:Q05),eff0) else(⟨c.X,nxt c,c.B6⟩,eff0)).1,m,(bif(Q2f 44 (regX c A) (regX c B)) then((⟨c.X,wrap .u32 (c.Pc+wrap .u32 (4*wrap .u32 Imm)),c.B6⟩:Q05),eff0) else(⟨c.X,nxt c,c.B6⟩,eff0)).2) by kernel_rfl).trans ((brc (Q2f 44 (regX c A) (regX c B)) ⟨c.X,wrap .u32 (c.Pc+wrap .u32 (4*wrap .u32 Imm)),c.B6⟩ ⟨c.X,nxt c,c.B6⟩ m).trans (by kernel_rfl))
 . exact(show Q68 c m ⟨45,A,B,C,Imm⟩=((bif(Q2f 45 (regX c A) (regX c B)) then((⟨c.X,wrap .u32 (c.Pc+wrap .u32 (4*wrap .u32 Imm)),c.B6⟩:Q05),eff0) else(⟨c.X,nxt c,c.B6⟩,eff0)).1,m,(bif(Q2f 45 (regX c A) (regX c B)) then((⟨c.X,wrap .u32 (c.Pc+wrap .u32 (4*wrap .u32 Imm)),c.B6⟩:Q05),eff0) else(⟨c.X,nxt c,c.B6⟩,eff0)).2) by kernel_rfl).trans ((brc (Q2f 45 (regX c A) (regX c B)) ⟨c.X,wrap .u32 (c.Pc+wrap .u32 (4*wrap .u32 Imm)),c.B6⟩ ⟨c.X,nxt c,c.B6⟩ m).trans (by kernel_rfl))
 . refine(show Q68 c m ⟨48,A,B,C,Imm⟩=(setP c A (nxt c) (wrap .u32 ((Qbn c A (nxt c)).Pc+wrap .u32 (4*wrap .u32 Imm))),m,eff0) by kernel_rfl).trans ?_
   rw[Zjl c hA,Z2i c hA,(yY c A (nxt c)).1];kernel_rfl
 . refine(show Q68 c m ⟨49,A,B,C,Imm⟩=(setP c A (nxt c) (va c B Imm),m,eff0) by kernel_rfl).trans ?_
   rw[Zjl c hA];kernel_rfl
 . refine(show Q68 c m ⟨56,A,B,C,Imm⟩=(Q5 c 7 0,m,eff0) by kernel_rfl).trans ?_
   rw[Qqe hc.a0.1 hst];kernel_rfl
 . refine(show Q68 c m ⟨57,A,B,C,Imm⟩=(Qfm c,m,eff0) by kernel_rfl).trans ?_
   rw[Zjw hc.a0.1 hst];kernel_rfl
 . refine(show Q68 c m ⟨58,A,B,C,Imm⟩=(setP c A (aK (A8.l c.B6) Imm.toNat 0) (nxt c),m,eff0) by kernel_rfl).trans ?_
   rw[Zjl c hA,<-Zk5];kernel_rfl
 . have e:=vI c (wrap .i64 Imm) (regX c A)
   refine(show Q68 c m ⟨59,A,B,C,Imm⟩=((⟨(Qir c (wrap .i64 Imm) (regX c A)).X,wrap .u32 (c.Pc+4),(Qir c (wrap .i64 Imm) (regX c A)).B6⟩:Q05),m,eff0) by kernel_rfl).trans ?_
   rw[<-e];kernel_rfl
 . exact(show Q68 c m ⟨60,A,B,C,Imm⟩=((Qks c m ⟨60,A,B,C,Imm⟩).1,(Qks c m ⟨60,A,B,C,Imm⟩).2.2,(Qks c m ⟨60,A,B,C,Imm⟩).2.1) by kernel_rfl)
 . exact(show Q68 c m ⟨61,A,B,C,Imm⟩=((Qks c m ⟨61,A,B,C,Imm⟩).1,(Qks c m ⟨61,A,B,C,Imm⟩).2.2,(Qks c m ⟨61,A,B,C,Imm⟩).2.1) by kernel_rfl)
 . exact(show Q68 c m ⟨62,A,B,C,Imm⟩=((Qks c m ⟨62,A,B,C,Imm⟩).1,(Qks c m ⟨62,A,B,C,Imm⟩).2.2,(Qks c m ⟨62,A,B,C,Imm⟩).2.1) by kernel_rfl)
 . exact(show Q68 c m ⟨63,A,B,C,Imm⟩=((Qks c m ⟨63,A,B,C,Imm⟩).1,(Qks c m ⟨63,A,B,C,Imm⟩).2.2,(Qks c m ⟨63,A,B,C,Imm⟩).2.1) by kernel_rfl)
 . exact(show Q68 c m ⟨64,A,B,C,Imm⟩=((Qks c m ⟨64,A,B,C,Imm⟩).1,(Qks c m ⟨64,A,B,C,Imm⟩).2.2,(Qks c m ⟨64,A,B,C,Imm⟩).2.1) by kernel_rfl)
end
theorem qam{op:Int}(h0:0<=op)(h1:op<256)(h:Q2i op≠0):isOp op:=by
 have e:=oY (Quh (λop=>decide (Q2i op=0\/isOpB op=true)) 256 (by kernel_rfl) h0 h1)
 rcases e with e|e
 . exact absurd e h
 . simpa only[isOpB,isOp,aI,decide_eq_true_eq,or_assoc] using e
theorem vi{op:Int}(o:isOp op):1<=op/\op<=64:=by
 unfold isOp at o
 rcases o with h|h|h|h|h|h|h|h|h|h|h|h|h|h|h|h|h|h|h|h|h|h|h|h|h|h|h|h|h|h|h|h|h|h|h|h|h|h|h|h|h|h|h|h<;>(rw[h];decide)
theorem qj{w:Int}(hw:U w):(Q25 w).2=true->isOp (Q25 w).1.Op:=by
  have s24:ishr .u32 w 24=w/16777216:=by have:=Qsh (a:=w) 24 (by decide);simpa using this
  obtain⟨w0,w1⟩:=hw
  have eo:wrap .i64 (w/16777216)=w/16777216:=w64 (by omega) (by omega)
  have q:(λr:Q0o×Bool=>r.2=true->isOp r.1.Op) (Q25 w):=by
    simp only[Q25,Q6y,Tree.m,letv,s24,eo]
    cases hf:Q2i (w/16777216)==0
    . have g:isOp (w/16777216):=qam (by omega) (by omega) (by simpa using hf)
      repeat'(first
        |exact λ_=>g
        |exact λe=>eW (show false=true from e)
        |refine Z5u (Q:=λr:Q0o×Bool=>r.2=true->isOp r.1.Op) ?_ ?_)
    . exact λe=>eW (show false=true from e)
  exact q
section
variable (c:Q05) (m:List Int)
def doR(x:Int×Int×List Int)(w:Int)(d:Q0o×Bool):Q05×Q17×List Int:=
 bif x.2.1 !=0 then(Q3 c x.2.1 c.Pc,eff0,x.2.2) else bif !d.2 then(Q3 c 1 w,eff0,x.2.2) else bif Q3m d.1.Op then(bif iand .u32 c.B6.a0 1==0 then(Q3 c 2 w,eff0,x.2.2) else Qks c x.2.2 d.1) else Qks c x.2.2 d.1
def doP(y:Int×List Int×Int)(d:Q0o×Bool):Q05×List Int×Q17:=
 bif y.2.2 !=0 then(Q5 c y.2.2 c.Pc,y.2.1,eff0) else bif !d.2 then(Q5 c 1 y.1,y.2.1,eff0) else bif Q9d d.1.Op then(bif !Qb4 c then(Q5 c 2 y.1,y.2.1,eff0) else Q68 c y.2.1 d.1) else Q68 c y.2.1 d.1
theorem do_eq:Q7v c m=doR c (Q18 c m c.Pc 4 1) (Q1g (Q18 c m c.Pc 4 1).2.2 (Q18 c m c.Pc 4 1).1 4).1 (Q25 (Q1g (Q18 c m c.Pc 4 1).2.2 (Q18 c m c.Pc 4 1).1 4).1):=by kernel_rfl
theorem zam:Q5b c m=doP c (Qqr c m) (Qiu (Qqr c m).1):=by kernel_rfl
theorem qJ:Qqr c m=bif(Q29 c m c.Pc 4 1).2.2 !=0 then(0,(Q29 c m c.Pc 4 1).2.1,(Q29 c m c.Pc 4 1).2.2) else((Q56 (Q29 c m c.Pc 4 1).2.1 (Q29 c m c.Pc 4 1).1 4).1,(Q29 c m c.Pc 4 1).2.1,0):=by kernel_rfl
end
theorem Zhi{P:Nat}{m:List Int}(h:Q15 P m){c:Q05}(hc:Q2m c)(hst:c.B6.a0<=31):Q5b c m=((Q7v c m).1,(Q7v c m).2.2,(Q7v c m).2.1):=by
  obtain⟨k,u,b⟩:=Zl6 h hc hc.pc (.inr rfl) 1
  have tr: ∀k b,Q5 c k b=Q3 c k b:=Qqe hc.a0.1 hst
  rw[zam,do_eq,qJ,Qp9 h hc hst hc.pc (.inr rfl) (.inl rfl)]
  generalize Q18 c m c.Pc 4 1=x at*
  cases hx:x.2.1 !=0
  . rw [Qpe k u (.inr rfl)]
    have hw:U (Q1g x.2.2 x.1 4).1:=(Tree.pp (Zfn k u (.inr rfl))).2
    generalize(Q1g x.2.2 x.1 4).1=w at*
    show doP c (w,x.2.2,0) (Qiu w)=_
    rw[yg hw]
    have o:=qj hw
    have i:=Tree.post _ (Zn w)
    change(Q25 w).2=true->Qgs (Q25 w).1 at i
    generalize Q25 w=d at*
    obtain⟨⟨op,A,B,C,Imm⟩,ok⟩:=d
    cases ok
    . simp only[doP,doR,hx,tr];rfl
    . have o:isOp op:=o rfl
      have i:=i rfl
      have p:=xi (C:=C) (B:=B) (Imm:=Imm) k hc hst i.a o
      have pv:Q9d op=Q3m op:=qaj (by have:=vi o;omega) (by have:=vi o;omega)
      have kn:(!Qb4 c)=(iand .u32 c.B6.a0 1==0):=by
        show(!(!(iand .u32 c.B6.a0 1==0)))=_
        exact Bool.not_not _
      simp only[doP,doR,hx,tr,pv,kn,p]
      cases Q3m op
      . rfl
      . cases iand .u32 c.B6.a0 1==0<;>rfl
  . simp only[doP,doR,hx,cond_true,tr]
theorem xj{a b:Int}:decide (a>=b)=!decide (a<b):=by
 by_cases h:a<b
 . rw[dY h,dN (by omega)];rfl
 . rw[dN h,dY (by omega)];rfl
def bits(g:Int)(l:List Nat)(s:Int):Int:=l.foldl (λ(a:Int) (i:Nat)=>wrap .i64 (a+wrap .i64 (iand .u32 (ishr .u32 g (i:Int)) 1))) s
theorem xJ(b:Q08):Qfa b=bits b.C3 [0,1,2,3,4,5,6,7,8,9,10,11,12,13,14,15,16,17,18,19,20,21,22,23,24,25,26,27,28,29,30,31] 0:=by kernel_rfl
theorem xaI{g:Int}(hg:U g){i:Nat}(hi:i<=32):wrap .i64 (iand .u32 (ishr .u32 g (i:Int)) 1)=g/2^i%2:=by
 rw[and1 (Qz0 hg _),Qsh i hi]
 have:0<=g/2^i%2/\g/2^i%2<2:=by omega
 exact w64 (by omega) (by omega)
theorem zJ{g:Int}(hg:U g)(l:List Nat): ∀s:Int,(∀i∈l,i<=32)->0<=s->s+l.length<=1000->bits g l s=s+(l.map λi=>g/2^i%2).sum:=by
 induction l with
 |nil=>intro s _ _ _;simp [bits]
 | cons i l ih=>
   intro s hl h0 h1
   have h1:s+(l.length+1)<=1000:=by simpa using h1
   have hb:0<=g/2^i%2/\g/2^i%2<2:=by omega
   have e:bits g (i::l) s=bits g l (s+g/2^i%2):=by
     show bits g l (wrap .i64 (s+wrap .i64 (iand .u32 (ishr .u32 g (i:Int)) 1)))=_
     rw[xaI hg (hl i (by simp)),w64 (by omega) (by omega)]
   rw[e,ih _ (λj hj=>hl j (by simp [hj])) (by omega) (by omega)]
   simp;omega
theorem Zqu(n:Q0r)(port:Int):Z5x n port=Qiq n port:=by
 simp only[Z5x,Qva,Qiq,Qgb,Tree.m]
 cases n.C6<;>cases n.B8<;>rfl
theorem Z85(t:Q0j):Q4q t=Qe3 t:=by
 simp only[Q4q,Qo0,Qe3,Qkk,Tree.m]
 cases t.D2<;>cases t.D5<;>rfl
theorem Zfv(n:Q0r)(p:Int):Q6i n p=Qjg n p:=by
 simp only[Q6i,Qmf,Qjg,Qnq,Tree.m]
 cases n.C6<;>cases n.B8<;>rfl
theorem Zem(d:Q0g)(p:Int):Q1m d p=Qh0 d p:=by
  simp only[Q1m,Q6j,Qa5,Q88,Qh0,Qlj,Tree.m,letv,xj]
  cases decide (d.Blocks>64)
  . by_cases s:d.C1=0\/d.C1=1\/d.C1=2\/d.C1=3
    . rcases s with s|s|s|s<;>rw[s]
      . rfl
      . by_cases c1:d.D8=1
        . rw[c1];cases decide (d.B7<d.Blocks)<;>cases decide (wrap .i64 d.B4<p)<;>cases decide (d.C4=[])<;>rfl
        . by_cases c2:d.D8=2
          . rw[c2];cases decide (d.B7<d.Blocks)<;>cases decide (wrap .i64 d.B4<p)<;>cases(d.C4.length:Int)==128<;>rfl
          . rw[show(d.D8==1)=false by simpa using c1,show(d.D8==2)=false by simpa using c2]
            cases decide (d.B7<d.Blocks)<;>cases decide (wrap .i64 d.B4<p)<;>rfl
      . rfl
      . rfl
    . rw[show(d.C1==0)=false by simp;omega,show(d.C1==1)=false by simp;omega,show(d.C1==2)=false by simp;omega,show(d.C1==3)=false by simp;omega]
      by_cases n:d.C1<0
      . rw[dY n];rfl
      . rw[dN n,dY (show d.C1>3 by omega)];rfl
  . rfl
theorem yJ(c:Q0c):Qa6 c=Q6c c:=by
 show(!decide (c.D3=[]))=decide ((c.D3.length:Int)>0)
 cases c.D3 with
 |nil=>rfl
 |cons a l=>rw[dN (by simp),dY (by simp)];rfl
theorem xam(k:List UInt8):decide (k=[])=((k.length:Int)==0):=by
 cases k with
 |nil=>rfl
 | cons a l=>
   rw[dN (by simp)]
   exact(beq_eq_false_iff_ne.2 (by simp;omega)).symm
theorem Zov(c:Q0c)(port:Int):Qqu c port=Q5r c port:=by
 simp only[Qqu,Qan,Q5r,Q3q,Tree.m,xam]
 cases port==0
 . rfl
 . cases(c.D3.length:Int)==0<;>rfl
theorem vJ(t:Q0j)(v:Int):Qmg t v=Qum v:=by
 simp only[Qmg,Qnt,Qum,Qz7,Tree.m]
 cases h:v==0
 . rw[show(v !=0)=true by simp only[bne,h];rfl];rfl
 . rw[show(v !=0)=false by simp only[bne,h];rfl,eq_of_beq h];rfl
section
variable {P:Nat} {m:List Int} (h:Q15 P m)
include h
theorem Z93(f:Int):Q9y m f=Q2a m f:=by
 have a:=Q3w h
 have b:=Qg7 h
 simp only[Q9y,Qeo,Q2a,Qkm,Tree.m,letv,a,b]
theorem Z8u(f:Int):Qat m f=Q2a m f:=by
 have a:=Q3w h
 have b:=Qg7 h
 simp only[Qat,Qh2,Q2a,Qkm,Tree.m,letv,a,b]
theorem Zg4(d:Q0g)(port v at0:Int):Z2p d m port v at0=Qgu d m port v at0:=by
  have pg:=Z93 h
  have pa:=Zim h
  have rq: ∀d a,Qle d a=Qku d a:=λ_ _=>rfl
  simp only[Z2p,Qio,Qz,Qdf,Qgu,Q9a,Tree.m,letv,pg,pa,rq]
  cases port==4
  . cases port==5
    . cases h6:port==6
      . rw[show(port !=6)=true by simp only[bne,h6];rfl];rfl
      . rw [show(port !=6)=false by simp only[bne,h6];rfl]
        by_cases v1:v=1
        . subst v1
          cases hs:d.C1==0
          . rw[show(d.C1 !=0)=true by simp only[bne,hs];rfl];rfl
          . rw[show(d.C1 !=0)=false by simp only[bne,hs];rfl];rfl
        . by_cases v2:v=2
          . subst v2
            cases hs:d.C1==0
            . rw[show(d.C1 !=0)=true by simp only[bne,hs];rfl];rfl
            . rw[show(d.C1 !=0)=false by simp only[bne,hs];rfl];rfl
          . rw[show(v==1)=false by simpa using v1,show(v==2)=false by simpa using v2]
            cases v==0
            . rfl
            . have:Qaa d=(bif d.C1==2 then true else d.C1==3):=rfl
              rw[this]
              cases d.C1==2<;>cases d.C1==3<;>rfl
    . rfl
  . rfl
theorem Zm7(n:Q0r)(port v at0:Int):Zcm n m port v at0=Qjd n m port v at0:=by
  have pg:=Z8u h
  have pa:=Zim h
  simp only[Zcm,Qmt,Zci,Qit,Qjd,Qbd,Tree.m,letv,pg,pa]
  have g1:decide (n.E0>=1)=!decide (n.E0<1):=xj
  have g2:decide (n.E0<=128)=!decide (n.E0>128):=by
    by_cases h:n.E0>128
    . rw[dY h,dN (by omega)];rfl
    . rw[dN h,dY (by omega)];rfl
  rw[g1,g2]
  cases port==7
  . cases port==8
    . cases h9:port==9
      . rw[show(port !=9)=true by simp only[bne,h9];rfl];rfl
      . rw [show(port !=9)=false by simp only[bne,h9];rfl]
        by_cases v1:v=1
        . subst v1
          cases decide (n.E0<1)<;>cases decide (n.E0>128)<;>cases Q2a m n.Frame<;>rfl
        . by_cases v2:v=2
          . subst v2;rfl
          . rw[show(v==1)=false by simpa using v1,show(v==2)=false by simpa using v2]
            cases v==0<;>rfl
    . rfl
  . rfl
theorem Zbp{d:Q0g}(hd:Q9m d)(e:Q07):Qi3 d m e=((Q8l d m e).1,(Q8l d m e).2.2,(Q8l d m e).2.1):=by
  have hcl:Q04 m=m:=rfl
  have pg:=Z93 h d.B4
  have lp:decide ((e.C8.length:Int)>0)=!decide (e.C8=[]):=by
    cases e.C8 with
    |nil=>rfl
    |cons a l=>rw[dY (by simp),dN (by simp)];rfl
  have bad:(e.C8.length:Int)≠128->Q2a m d.B4=true->Q30 m (wrap .i64 d.B4) e.C8=(m,false):=λhl hp=>by
    rw[Qn8 h hd.opFrame]at hp
    have hp:=oY hp
    have h1:=hd.opFrame.1
    have h3:=h.p2
    have ew:i64.wrap d.B4=d.B4:=w64 (by omega) (by omega)
    simp only[Q30,Q3t,Tree.m,letv,hcl,ew,Zd h,dY (⟨h1,hp⟩:0<=d.B4/\d.B4<P),show((e.C8.length:Int) !=128)=true by simpa using hl]
    rfl
  have good:(e.C8.length:Int)=128->Q2a m d.B4=true->Q30 m (wrap .i64 d.B4) e.C8=(Qn2 m (wrap .i64 d.B4) e.C8,true):=λhl hp=>by
    rw[Qn8 h hd.opFrame]at hp
    have hp:=oY hp
    have h1:=hd.opFrame.1
    have h3:=h.p2
    have ew:i64.wrap d.B4=d.B4:=w64 (by omega) (by omega)
    rw[ew];exact Zfz h h1 hp (by omega)
  simp only[Qi3,Q86,Q8l,Q7d,Tree.m,letv,hcl,pg,lp]
  cases d.C1 !=1
  . cases e.B5 !=4
    . cases decide (e.N>1)
      . cases e.N==1
        . cases decide (e.C8=[])<;>rfl
        . cases hc:d.D8==1
          . cases decide (e.C8=[])<;>rfl
          . by_cases hl:(e.C8.length:Int)=128
            . rw[show((e.C8.length:Int) !=128)=false by simpa using hl]
              cases hp:Q2a m d.B4
              . rfl
              . rw[good hl hp];rfl
            . rw[show((e.C8.length:Int) !=128)=true by simpa using hl]
              cases hp:Q2a m d.B4
              . rfl
              . rw[bad hl hp];rfl
      . rfl
    . rfl
  . rfl
theorem Zgz{n:Q0r}(hn:Qkr n)(frame:List UInt8):Qo1 n m frame=((Q8k n m frame).1,(Q8k n m frame).2.2,(Q8k n m frame).2.1):=by
  have hcl:Q04 m=m:=rfl
  have pg:=Z8u h n.B9
  simp only[Qo1,Qar,Q8k,Q6w,Tree.m,letv,hcl,pg]
  cases !n.C6
  . cases decide ((frame.length:Int)<1)
    . cases hf:decide ((frame.length:Int)>128)
      . cases hp:Q2a m n.B9
        . rfl
        . rw[Qn8 h hn.buffer]at hp
          have hp:=oY hp
          have h1:=hn.buffer.1
          have h3:=h.p2
          have ew:i64.wrap n.B9=n.B9:=w64 (by omega) (by omega)
          have hf:=oN hf
          obtain⟨b1,b2⟩:=(Tree.pp (zh h h1 hp)).2
          change isPg m n.B9 (Q69 m n.B9).1 at b1
          have tk:cY (dC ((Q69 m n.B9).1.length:Int)-dC (frame.length:Int)) (cZ (dC (frame.length:Int)) (Q69 m n.B9).1)=(Q69 m n.B9).1.drop frame.length:=by
            rw[eA,eA]
            exact eX (by simp)
          rw[ew,tk,Zfh h h1 hp (by omega) b1]
          rfl
      . rfl
    . rfl
  . rfl
end
def ptab:List UInt8:=(dA 256).map λn=>eU (n%2+n/2%2+n/4%2+n/8%2+n/16%2+n/32%2+n/64%2+n/128%2)
def pt(n:Int):Int:=((eT (ptab.getD n.toNat 0):Nat):Int)
theorem qK(x:Int):Q6x x=wrap .i64 (wrap .u8 (wrap .u8 (wrap .u8 (pt (ishr .u32 x 24)+pt (iand .u32 (ishr .u32 x 16) 255))+pt (iand .u32 (ishr .u32 x 8) 255))+pt (iand .u32 x 255))):=by kernel_rfl
theorem pt8{a:Int}(h0:0<=a)(h1:a<256):pt a=a%2+a/2%2+a/4%2+a/8%2+a/16%2+a/32%2+a/64%2+a/128%2:=
 eq_of_beq (Quh (λa=>pt a==a%2+a/2%2+a/4%2+a/8%2+a/16%2+a/32%2+a/64%2+a/128%2) 256 (by kernel_rfl) h0 h1)
theorem zj{g:Int}(hg:U g):bits g [0,1,2,3,4,5,6,7,8,9,10,11,12,13,14,15,16,17,18,19,20,21,22,23,24,25,26,27,28,29,30,31] 0=pt (g%256)+pt (g/256%256)+pt (g/65536%256)+pt (g/16777216):=by
 rw[zJ hg _ 0 (by decide) (by decide) (by decide),pt8 (by omega) (by omega),pt8 (by omega) (by omega),pt8 (by omega) (by omega),pt8 (by have:=hg.1;omega) (by have:=hg.2;omega)]
 obtain⟨g0,g1⟩:=hg
 simp only[List.map_cons,List.map_nil,List.sum_cons,List.sum_nil]
 have e: ∀i j:Nat,∀k:Int,i<8->k=2^j->g/2^(i+j)%2=(g/k%256)/2^i%2:=λi j k hi hk=>by
   subst hk
   rw[Nat.add_comm,dO,<-eY (dM (dK (by decide)))]
   generalize g/2^j=x
   have:i=0\/i=1\/i=2\/i=3\/i=4\/i=5\/i=6\/i=7:=by omega
   rcases this with rfl|rfl|rfl|rfl|rfl|rfl|rfl|rfl<;>simp<;>omega
 have e0: ∀i:Nat,i<8->g/2^i%2=(g%256)/2^i%2:=λi hi=>by have:=e i 0 1 hi rfl;simpa using this
 have e24:g/16777216%256=g/16777216:=by omega
 rw[e0 0 (by decide),e0 1 (by decide),e0 2 (by decide),e0 3 (by decide),e0 4 (by decide),e0 5 (by decide),e0 6 (by decide),e0 7 (by decide)]
 rw[e 0 8 256 (by decide) (by decide),e 1 8 256 (by decide) (by decide),e 2 8 256 (by decide) (by decide),e 3 8 256 (by decide) (by decide),e 4 8 256 (by decide) (by decide),e 5 8 256 (by decide) (by decide),e 6 8 256 (by decide) (by decide),e 7 8 256 (by decide) (by decide)]
 rw[e 0 16 65536 (by decide) (by decide),e 1 16 65536 (by decide) (by decide),e 2 16 65536 (by decide) (by decide),e 3 16 65536 (by decide) (by decide),e 4 16 65536 (by decide) (by decide),e 5 16 65536 (by decide) (by decide),e 6 16 65536 (by decide) (by decide),e 7 16 65536 (by decide) (by decide)]
 rw[e 0 24 16777216 (by decide) (by decide),e 1 24 16777216 (by decide) (by decide),e 2 24 16777216 (by decide) (by decide),e 3 24 16777216 (by decide) (by decide),e 4 24 16777216 (by decide) (by decide),e 5 24 16777216 (by decide) (by decide),e 6 24 16777216 (by decide) (by decide),e 7 24 16777216 (by decide) (by decide),e24]
 generalize g%256=a
 generalize g/256%256=b
 generalize g/65536%256=c
 generalize g/16777216=d
 simp only[show(2:Int)^0=1 from rfl,show(2:Int)^1=2 from rfl,show(2:Int)^2=4 from rfl,show(2:Int)^3=8 from rfl,show(2:Int)^4=16 from rfl,show(2:Int)^5=32 from rfl,show(2:Int)^6=64 from rfl,show(2:Int)^7=128 from rfl,Int.ediv_one]
 omega
theorem pt_le{a:Int}(h0:0<=a)(h1:a<256):0<=pt a/\pt a<=8:=by rw[pt8 h0 h1];omega
theorem Z9d{b:Q08}(hg:U b.C3):Qeq b=Qfa b/\0<=Qfa b/\Qfa b<=32:=by
 obtain⟨s8,s16,s24⟩:=shr_c b.C3
 have u8:U (ishr .u32 b.C3 8):=Qz0 hg _
 have u16:U (ishr .u32 b.C3 16):=Qz0 hg _
 have e:Qeq b=Q6x b.C3:=rfl
 rw[e,qK,xJ,zj hg,m255 u8,m255 u16,m255 hg,s8,s16,s24]
 obtain⟨g0,g1⟩:=hg
 have p0:=pt_le (a:=b.C3%256) (by omega) (by omega)
 have p1:=pt_le (a:=b.C3/256%256) (by omega) (by omega)
 have p2:=pt_le (a:=b.C3/65536%256) (by omega) (by omega)
 have p3:=pt_le (a:=b.C3/16777216) (by omega) (by omega)
 have w8: ∀x,wrap .u8 x=x%256:=λx=>wrap_u8 x
 rw[w8,w8,w8,wrap_i64]
 omega
theorem Zhd{b:Q08}(h:okB b):Q7x b=Q43 b:=by
 obtain⟨e,l0,l1⟩:=Z9d h.2
 obtain⟨t0,t1⟩:=h.1
 simp only[Q7x,Q5w,Q43,Qai,Tree.m,letv,e]
 rw[wrap_u32,wrap_u64,wrap_u64,dJ l0 (by omega),dJ l0 (by omega),dJ t0 (by omega)]
theorem Zq3{b:Q08}(h:okB b)(port:Int):Qqx b port=Q5q b port:=by
 simp only[Qqx,Qdh,Q5q,Q6m,Tree.m,letv,(Z9d h.2).1]
theorem qan(g:Int)(z:Nat):g%2^(z+1)=g%2^z+2^z*(g/2^z%2):=by
 have hp:(0:Int)<2^z:=dK (by decide)
 have h1:=eZ g (2^z)
 have h2:=eZ (g/2^z) 2
 have h3:(g/2^z)/2=g/2^(z+1):=by rw[fA,eY (dM hp)]
 have h4:=eZ g (2^(z+1))
 rw[h3]at h2
 have h5:(2:Int)^(z+1)*(g/2^(z+1))=2^z*(2*(g/2^(z+1))):=by rw[fA,Int.mul_assoc]
 have h6:(2:Int)^z*(g/2^z)=2^z*(2*(g/2^(z+1)))+2^z*(g/2^z%2):=by rw[<-Int.mul_add,h2]
 omega
theorem qaJ{b:Q08}(hg:U b.C3){P:Nat}(hP:P<=32):(Q5v b P).w (λr=>r=decide (b.C3<2^P)):=by
 unfold Q5v
 have fin: ∀v:Int,0<=v->v<=32->wrap .u64 v=(v.toNat:Int):=λv h0 h1=>by rw[wrap_u64];omega
 refine w_lp (inv:=λz:Int=>0<=z/\z<=32/\b.C3%2^z.toNat<2^P) (μ:=Q7c b P) ⟨by decide,by decide,by have:(0:Int)<2^P:=dK (by decide);simpa using this⟩ (cK _) λz ⟨z0,z1,z2⟩=> ?_
 refine w_br (λhb=> ?_) (λhb=> ?_)
 . have hb:=oY hb
   have ew:i64.wrap (z+1)=z+1:=w64 (by omega) (by omega)
   have bt:iand .u32 (ishr .u32 b.C3 (wrap .u64 z)) 1=b.C3/2^z.toNat%2:=by
     rw[fin z z0 z1,and1 (Qz0 hg _),Qsh _ (by omega)]
   have bp:=qan b.C3 z.toNat
   have zt:(z+1).toNat=z.toNat+1:=by omega
   refine w_cn (dY (by rw[wrap_u64];omega)) ?_
   rw[bt]
   refine w_br (λe=>w_br (λhp=> ?_) (λhp=>w_nx ?_)) (λe=>w_nx ?_)
   . have e:=eq_of_beq e
     have hp:=oY hp
     show false=_
     refine(dN λhlt=> ?_).symm
     have hle:(2:Int)^P<=2^z.toNat:=by exact_mod_cast dQ (show 0<2 by decide) (show P<=z.toNat by omega)
     have:b.C3/2^z.toNat=0:=Int.ediv_eq_zero_of_lt hg.1 (by omega)
     rw[this]at e;cases e
   . have e:=eq_of_beq e
     have hp:=oN hp
     show(0<=i64.wrap (z+1)/\i64.wrap (z+1)<=32/\b.C3%2^(i64.wrap (z+1)).toNat<2^P)/\(32-i64.wrap (z+1)).toNat<(32-z).toNat
     rw[ew,zt]
     have hle:(2:Int)^(z.toNat+1)<=2^P:=by exact_mod_cast dQ (show 0<2 by decide) (show z.toNat+1<=P by omega)
     have:=Int.emod_lt_of_pos b.C3 (show(0:Int)<2^(z.toNat+1) from dK (by decide))
     exact⟨⟨by omega,by omega,by omega⟩,by omega⟩
   . have e: ¬b.C3/2^z.toNat%2=1:=by simpa using e
     have e:b.C3/2^z.toNat%2=0:=by omega
     rw[e]at bp
     show(0<=i64.wrap (z+1)/\i64.wrap (z+1)<=32/\b.C3%2^(i64.wrap (z+1)).toNat<2^P)/\(32-i64.wrap (z+1)).toNat<(32-z).toNat
     rw[ew,zt,bp]
     exact⟨⟨by omega,by omega,by omega⟩,by omega⟩
 . have hb:=oN hb
   have:z=32:=by omega
   subst this
   show true=_
   refine(dY ?_).symm
   have h2:b.C3%2^(32:Int).toNat=b.C3:=dJ hg.1 hg.2
   rwa [h2]at z2
theorem Zku{b:Q08}(hg:U b.C3){P:Nat}(hP:P<=32):Q2u b P=Qa0 b P:=by
 have r:=(Tree.pp (qaJ hg hP)).2
 change Qa0 b P=_ at r
 rw[r,eG,Z3w hg,decide_eq_true_eq]
theorem zeros:strings_Repeat [(0:UInt8)] 128=cN 128 0:=by kernel_rfl
theorem zaJ{P:Nat}{m:List Int}(hm:Q15 P m){b:Q08}{port:Int}{v:Int}(hv:U v)(hp:v<P)(h10:port=10)(hb:(iand .u32 (ishr .u32 b.C3 v) 1==0)=true):(Q50 b m port v).w (λr=>r.1={D0:=b.D0,C3:=ior .u32 b.C3 (ishl .u32 1 v)}/\Q15 P r.2/\ ∀k:Nat,byt r.2 k=if v*128<=k/\(k:Int)<v*128+128 then 0 else byt m k):=by
 have hv0:decide (0<=v)=true:=dY hv.1
 have h2:=hm.p2
 have pg:Q2a m v=true:=by rw[Qn8 hm hv];exact dY hp
 obtain⟨v1,v2⟩:=hv
 subst h10
 unfold Q50
 refine w_br (λ_=>w_lv λx0 hx=>w_br (λ_=>w_cn hv0 (w_br (λ_=>w_cn hv0 ?_) (λh=>by rw[hb]at h;cases h))) (λh=>by rw[hx,pg]at h;cases h)) (λh=>by cases h)
 refine w_lp (inv:=λz=>0<=z.1/\z.1<=32/\Q15 P z.2/\ ∀k:Nat,byt z.2 k=if v*128<=k/\(k:Int)<v*128+4*z.1 then 0 else byt m k) (μ:=Qjw b m 10 v) ⟨show(0:Int)<=0 by decide,show(0:Int)<=32 by decide,hm,λk=>by rw[if_neg];show¬(_/\_<_+4*(0:Int));omega⟩ (cK _) (λz hz=> ?_)
 obtain⟨z1,z2,z3,z4⟩:=hz
 have hl:=z3.len
 refine w_br (λh=> ?_) (λh=>⟨rfl,z3,λk=> ?_⟩)
 . have h:=oY h
   have e:wrap i64 (wrap i64 (wrap i64 v*32)+z.1)=v*32+z.1:=by rw[wrap_i64,wrap_i64,wrap_i64];omega
   refine w_cn (by rw[e];simp [bT];omega) (w_nx ?_)
   have ew:i64.wrap (z.1+1)=z.1+1:=by rw[wrap_i64];omega
   show(0<=i64.wrap (z.1+1)/\i64.wrap (z.1+1)<=32/\Q15 P (dD _ _ _)/\ ∀k:Nat,byt (dD z.2 (dC (wrap i64 (wrap i64 (wrap i64 v*32)+z.1))) 0) k=if v*128<=(k:Int)/\(k:Int)<v*128+4*i64.wrap (z.1+1) then 0 else _)/\(32-i64.wrap (z.1+1)).toNat<(32-z.1).toNat
   rw[ew,e]
   refine⟨⟨by omega,by omega,⟨by simp [hl],z3.p1,z3.p2,Z89 z3.u U_0 _⟩,λk=> ?_⟩,by omega⟩
   rw[Zkr (by omega)]
   by_cases hc:k/4=(v*32+z.1).toNat
   . rw[if_pos hc,if_pos (by omega)]
     have:k%4=0\/k%4=1\/k%4=2\/k%4=3:=by omega
     rcases this with h|h|h|h<;>rw[h]<;>rfl
   . rw[if_neg hc,z4 k]
     by_cases hd:v*128<=(k:Int)/\(k:Int)<v*128+4*z.1
     . rw[if_pos hd,if_pos (by omega)]
     . rw[if_neg hd,if_neg (by omega)]
 . have h:=oN h
   show byt z.2 k=_
   rw[z4 k,show z.1=32 by omega];rfl
theorem bitv{g v:Int}(hg:U g)(v0:0<=v)(v1:v<32):(iand .u32 g (ishl .u32 1 v)==0)=(iand .u32 (ishr .u32 g v) 1==0):=by
 obtain⟨z,rfl⟩: ∃z:Nat,v=z:=⟨v.toNat,by omega⟩
 obtain⟨n,rfl⟩: ∃n:Nat,g=n:=⟨g.toNat,by have:=hg.1;omega⟩
 have hz:z<32:=by omega
 have hlt:(2:Nat)^z<4294967296:=by have:=dZ (show 1<2 by omega) hz;simpa using this
 rw[and1 (Qz0 hg _),Qsh z (by omega),yf v0 v1,eA]
 have hc:((2:Int)^z)=((2^z:Nat):Int):=by simp
 generalize hq:2^z=q at*
 rw[hc,Zjq hg ⟨by omega,by omega⟩,eA,eA,<-hq]
 have e1:(n&&&2^z)=0↔n/2^z%2=0:=by
   have t:n.testBit z=decide (n/2^z%2=1):=Nat.testBit_eq_decide_div_mod_eq
   constructor
   . intro h
     have h2:(n&&&2^z).testBit z=false:=by rw[h];exact fB z
     rw[fC,Nat.testBit_two_pow_self,Bool.and_true,t]at h2
     have:=oN h2
     omega
   . intro h
     have t0:n.testBit z=false:=by rw[t];exact dN (by omega)
     apply eJ
     intro i
     rw[fC,Nat.testBit_two_pow,fB]
     by_cases hi:z=i
     . subst hi;rw[t0];rfl
     . rw[dN hi,Bool.and_false]
 rw[eG,beq_iff_eq,beq_iff_eq]
 constructor
 . intro h;have:=e1.1 (by omega);omega
 . intro h;have:=e1.2 (by omega);omega
theorem Zkl{P:Nat}{m:List Int}(h:Q15 P m){b:Q08}(hb:okB b)(port:Int){v:Int}(hv:U v):Q8j b m port v=Q76 b m port v:=by
  have hcl:Q04 m=m:=rfl
  have hp:=Q3w h
  have h2:=h.p2
  have ew:i64.wrap v=v:=w64 (by have:=hv.1;omega) (by have:=hv.2;omega)
  have pe:=Qn8 h hv
  by_cases h32:v<32
  . have bv :=bitv hb.2 hv.1 h32
    by_cases h10:port=10
    . by_cases hP:v<P
      . cases hz:iand .u32 (ishr .u32 b.C3 v) 1==0
        . simp only[Q8j,Q4a,Q76,Q50,Tree.m,letv,hcl,hp,ew,pe,bv,hz,h10,dY hP,dN (show¬v>=32 by omega)]
          rfl
        . obtain⟨g1,g2,g3⟩:=(Tree.pp (zaJ h hv hP h10 hz)).2
          change(Q76 b m port v).1=_ at g1
          change Q15 P (Q76 b m port v).2 at g2
          change∀k:Nat,byt (Q76 b m port v).2 k=_ at g3
          obtain⟨s1,s2,s3⟩:=(Tree.pp (Z6n h hv.1 hP (s:=cN 128 0) (by simp))).2
          have em:(Q30 m v (cN 128 0)).1=(Q76 b m port v).2:=by
            refine Zjy (s2.len.trans g2.len.symm) s2.u g2.u λk=> ?_
            rw[g3 k]
            refine(s3 k).trans ?_
            by_cases hk:v*128<=(k:Int)/\(k:Int)<v*128+128
            . rw[if_pos hk,if_pos hk]
              have:(cN 128 (0:UInt8)).getD ((k:Int)-v*128).toNat 0=0:=by
                rw[cL,List.getElem?_replicate]
                split<;>rfl
              rw[this];rfl
            . rw[if_neg hk,if_neg hk]
          have el:Q8j b m port v=({D0:=b.D0,C3:=ior .u32 b.C3 (ishl .u32 1 v)},(Q30 m v (cN 128 0)).1):=by
            simp only[Q8j,Q4a,Tree.m,letv,hcl,hp,ew,bv,hz,h10,dY hP,dN (show¬v>=32 by omega),zeros]
            rfl
          rw[el,em,<-g1]
      . simp only[Q8j,Q4a,Q76,Q50,Tree.m,letv,hcl,hp,ew,pe,h10,dN hP,dN (show¬v>=32 by omega)]
        rfl
    . simp only[Q8j,Q4a,Q76,Q50,Tree.m,letv,hcl,dY h32,dN (show¬v>=32 by omega),show(port==10)=false by simpa using h10]
      cases port==11<;>rfl
  . simp only[Q8j,Q4a,Q76,Q50,Tree.m,letv,hcl,pe,dN h32,dY (show v>=32 by omega),dN (show¬v<P by omega)]
    cases port==10<;>cases port==11<;>rfl
structure okV(m:Q00):Prop where
 cpu:Q2m m.B2
 mem: ∀w∈m.Mem,U w
 disk:Q9m m.B1
 nic:Qkr m.C5
 bal:okB m.A4
 cnt:0<=m.A1
theorem Qqj(m:List Int)(hm: ∀w∈m,U w):Q0z m=Q40 m/\(Q0z m=0\/ ∃P:Nat,1<=P/\Q15 P m):=by
 refine⟨rfl,?_⟩
 simp only[Q0z,Q96,Tree.m]
 cases h1:dB (m.length:Int) 32 !=0
 . cases h2:decide ((m.length:Int)>1024)
   . have h1:dB (m.length:Int) 32=0:=by simpa using h1
     have h2:=oN h2
     rw[eC (by omega)]at h1
     by_cases h0:m.length=0
     . left;rw[h0];rfl
     . right;exact⟨m.length/32,by omega,⟨by omega,by omega,by omega,hm⟩⟩
   . left;rfl
 . left;rfl
theorem rcnd{a x:Bool}:(bif !a then false else x)=true↔a=true/\x=true:=by cases a<;>simp
theorem xK(m:Q00):Q5e m=true↔ ¬(Q40 m.Mem<1)/\Q6f m.B2/\Qj6 m.A6=true/\Qe3 m.B0=true/\Qh0 m.B1 (Q40 m.Mem)=true/\Qjg m.C5 (Q40 m.Mem)=true/\Qa0 m.A4 (Q40 m.Mem)=true/\m.A1<=1152921504606846976/\ ¬(m.A7=true/\m.A9=true):=by
 simp only[Q5e,Qza,Tree.m,letv]
 rw[cnd2,cnd2,cnd2,cnd2,cnd2,cnd2,rcnd,rcnd,rcnd,rcnd,rcnd]
 simp only[decide_eq_false_iff_not,Int.not_lt,bne_eq_false_iff_eq,gt_iff_lt]
 have l:((bif decide (m.A1<=1152921504606846976) then(bif m.A7 then !m.A9 else true) else false)=true)↔m.A1<=1152921504606846976/\ ¬(m.A7=true/\m.A9=true):=by
   by_cases hc:m.A1<=1152921504606846976
   . rw[dY hc]
     cases m.A7<;>cases m.A9<;>simp [hc]
   . rw[dN hc];simp [hc]
 rw[l]
 constructor
 . rintro⟨a1,a2,a3,a4,a5,a6,a7⟩
   exact⟨by omega,⟨a2,a3,a4,a5,a6⟩,a7⟩
 . rintro⟨a1,⟨a2,a3,a4,a5,a6⟩,a7⟩
   exact⟨by omega,a2,a3,a4,a5,a6,a7⟩
theorem Zde{m:Q00}(h:okV m):Q19 m=Q5e m:=by
 rw[eG,Qn5,xK,qf]
 obtain⟨e,c⟩:=Qqj m.Mem h.mem
 simp only[aE,<-e]
 rcases c with c|⟨P,hP,hm⟩
 . constructor
   . rintro⟨a,_⟩;exact absurd c a
   . rintro⟨a,_⟩;omega
 . rw[Q3w hm,Z85,Zem,Zfv,Zku h.bal.2 hm.p2]
   constructor
   . rintro⟨a1,a2,a3,a4,a5,a6,a7,a8,a9⟩;exact⟨by omega,a2,a5,a6,a7,a8,a9,a3,a4⟩
   . rintro⟨a1,a2,a5,a6,a7,a8,a9,a3,a4⟩;exact⟨by omega,a2,a3,a4,a5,a6,a7,a8,a9⟩
def Ze9(a b c d e:Bool):Int:=ior .u32 (ior .u32 (ior .u32 (ior .u32 (Qa8 a 0) (Qa8 b 1)) (Qa8 c 2)) (Qa8 d 3)) (Qa8 e 4)
theorem mlines(m:Q00):Qee m=Ze9 (Qi1 m.B0) (Qa6 m.A6) (Qaa m.B1) (Qo3 m.C5) (Q7x m.A4):=by
 unfold Qee Q87
 simp only[Tree.m,letv]
 generalize Qi1 m.B0=a
 generalize Qa6 m.A6=b
 generalize Qaa m.B1=c
 generalize Qo3 m.C5=d
 generalize Q7x m.A4=e
 cases a<;>cases b<;>cases c<;>cases d<;>cases e<;>kernel_rfl
theorem Zpi(a b c d e:Bool):0<=Ze9 a b c d e/\Ze9 a b c d e<32:=by
 cases a<;>cases b<;>cases c<;>cases d<;>cases e<;>decide
theorem rlines(m:Q00):Qil m=Ze9 (Qas m.B0) (Q6c m.A6) (Qcl m.B1) (Qe9 m.C5) (Q43 m.A4):=rfl
section
variable {m:Q00} (h:okV m)
include h
theorem Zpe:Qee m=Qil m:=by
 rw[mlines,rlines,yJ,Zhd h.bal];rfl
theorem Qzu:Q63 m=Q37 m:=by
 have e:=Zpe h
 simp only[Q63,Q35,Q37,Q95,Tree.m,letv,e]
theorem Zjh:Q38 m=Qed m:=by
 have e:=Qzu h
 simp only[Q38,Q3e,Qed,Qfz,Tree.m,letv,e]
theorem Qwn:Q2g m=!Q0s m:=by
 have e1:=Zde h
 have e2:=Zjh h
 have e3:decide (m.A1>=1152921504606846976)=!decide (m.A1<1152921504606846976):=xj
 simp only[Q2g,Q49,Q0s,Q8b,Tree.m,letv,e1,e2,e3]
 cases Q5e m<;>cases m.A9<;>cases Qed m<;>cases decide (m.A1<1152921504606846976)<;>rfl
theorem Z9f:0<=Q37 m/\Q37 m<32:=by
 have e:Q37 m=iand .u32 (Qil m) m.B2.B6.a7:=rfl
 have l:=Zpi (Qas m.B0) (Q6c m.A6) (Qcl m.B1) (Qe9 m.C5) (Q43 m.A4)
 rw[<-rlines]at l
 rw[e,Zjq ⟨l.1,by omega⟩ h.cpu.a7]
 have:=dX (n:=(Qil m).toNat) (m:=m.B2.B6.a7.toNat)
 omega
def low(l:Int):Int:=if l%2=1 then 0 else if l/2%2=1 then 1 else if l/4%2=1 then 2 else if l/8%2=1 then 3 else 4
end
theorem cases32{l:Int}(h0:0<=l)(h1:l<32):l=0\/l=1\/l=2\/l=3\/l=4\/l=5\/l=6\/l=7\/l=8\/l=9\/l=10\/l=11\/l=12\/l=13\/l=14\/l=15\/l=16\/l=17\/l=18\/l=19\/l=20\/l=21\/l=22\/l=23\/l=24\/l=25\/l=26\/l=27\/l=28\/l=29\/l=30\/l=31:=by omega
def intr(m:Q00)(l:Int):Q05:=bif iand .u32 m.B2.B6.a0 2==0 then m.B2 else bif l==0 then m.B2 else Q3 m.B2 (wrap .i64 (16+low l)) 0
theorem rintr{m:Q00}(h:okV m):Q0q m=intr m (Q37 m):=by
 obtain⟨l0,l1⟩:=Z9f h
 unfold Q0q Q4u
 simp only[Tree.m,letv]
 revert l0 l1
 generalize Q37 m=l
 intro l0 l1
 unfold intr
 cases iand .u32 m.B2.B6.a0 2==0
 . rcases cases32 l0 l1 with rfl|rfl|rfl|rfl|rfl|rfl|rfl|rfl|rfl|rfl|rfl|rfl|rfl|rfl|rfl|rfl|rfl|rfl|rfl|rfl|rfl|rfl|rfl|rfl|rfl|rfl|rfl|rfl|rfl|rfl|rfl|rfl<;>kernel_rfl
 . rfl
def beg(m:Q00)(c:Q05):Q00:={B2:=c,Mem:=m.Mem,A6:=m.A6,B0:=m.B0,B1:=m.B1,C5:=m.C5,A4:=m.A4,A1:=m.A1,A7:=false,A9:=m.A9}
theorem Qy{m:Q00}(h:okV m)(hst:m.B2.B6.a0<=31):Q0u m=beg m (Q0q m):=by
 obtain⟨l0,l1⟩:=Z9f h
 have tr: ∀k b,Q5 m.B2 k b=Q3 m.B2 k b:=Qqe h.cpu.a0.1 hst
 have e:Q63 (beg m m.B2)=Q37 m:=Qzu (m:=beg m m.B2) ⟨h.cpu,h.mem,h.disk,h.nic,h.bal,h.cnt⟩
 rw[rintr h]
 unfold Q0u Q2z
 simp only[Tree.m,letv]
 rw[show Q63 {B2:=m.B2,Mem:=m.Mem,A6:=m.A6,B0:=m.B0,B1:=m.B1,C5:=m.C5,A4:=m.A4,A1:=m.A1,A7:=false,A9:=m.A9}=Q37 m from e]
 revert l0 l1
 generalize Q37 m=l
 intro l0 l1
 unfold intr
 simp only[<-tr]
 cases iand .u32 m.B2.B6.a0 2==0
 . rcases cases32 l0 l1 with rfl|rfl|rfl|rfl|rfl|rfl|rfl|rfl|rfl|rfl|rfl|rfl|rfl|rfl|rfl|rfl|rfl|rfl|rfl|rfl|rfl|rfl|rfl|rfl|rfl|rfl|rfl|rfl|rfl|rfl|rfl|rfl<;>(show _=_;kernel_rfl)
 . rfl
theorem ports{p:Int}:p=0\/p=1\/p=2\/p=3\/p=4\/p=5\/p=6\/p=7\/p=8\/p=9\/p=10\/p=11\/p<0\/12<=p:=by omega
theorem zan{m:Q00}(hb:okB m.A4)(port clock:Int):Q16 m port clock=((Qet m port clock).2,(Qet m port clock).1):=by
 have e1:=Zov m.A6
 have e2: ∀p,Qyl m.B1 p=Qj0 m.B1 p:=λ_=>rfl
 have e3:=Zqu m.C5
 have e4:=Zq3 hb
 have e5:Z2h m.B0=Qh9 m.B0:=rfl
 simp only[Q16,Q3k,Qet,Qm2,Tree.m,letv,e1,e2,e3,e4,e5]
 rcases ports (p:=port) with rfl|rfl|rfl|rfl|rfl|rfl|rfl|rfl|rfl|rfl|rfl|rfl|h|h
 all_goals first|rfl|skip
 . have n: ∀k:Int,0<=k->(port==k)=false:=λk hk=>beq_eq_false_iff_ne.2 (by omega)
   have c:Q5r m.A6 port=(m.A6,0):=by
     simp only[Q5r,Q3q,Tree.m,n 0 (by decide),n 1 (by decide),cond_false]
   simp only[n 0 (by decide),n 1 (by decide),n 2 (by decide),n 3 (by decide),n 4 (by decide),n 5 (by decide),n 6 (by decide),n 7 (by decide),n 8 (by decide),n 9 (by decide),n 10 (by decide),n 11 (by decide),cond_false,dY (show port<=1 by omega),cond_true,c]
 . have n: ∀k:Int,k<12->(port==k)=false:=λk hk=>beq_eq_false_iff_ne.2 (by omega)
   have c:Q5q m.A4 port=0:=by
     simp only[Q5q,Q6m,Tree.m,n 10 (by decide),n 11 (by decide),cond_false]
   simp only[n 0 (by decide),n 1 (by decide),n 2 (by decide),n 3 (by decide),n 4 (by decide),n 5 (by decide),n 6 (by decide),n 7 (by decide),n 8 (by decide),n 9 (by decide),n 10 (by decide),n 11 (by decide),cond_false,dN (show¬port<=1 by omega),dN (show¬port<=6 by omega),dN (show¬port<=9 by omega),c]
theorem zK{P:Nat}{m:Q00}(hm:Q15 P m.Mem)(hb:okB m.A4)(port:Int){v:Int}(hv:U v):Q2p m port v m.A1=((Qb8 m port v).2,(Qb8 m port v).1):=by
 have e1:=Zg4 hm m.B1
 have e2:=Zm7 hm m.C5
 have e3:=Zkl hm hb port hv
 have e4:=vJ m.B0 v
 simp only[Q2p,Q3z,Qb8,Qfi,Tree.m,letv,e1,e2,e3,e4]
 rcases ports (p:=port) with rfl|rfl|rfl|rfl|rfl|rfl|rfl|rfl|rfl|rfl|rfl|rfl|h|h
 all_goals first|rfl|skip
 . have n: ∀k:Int,0<=k->(port==k)=false:=λk hk=>beq_eq_false_iff_ne.2 (by omega)
   simp only[n 0 (by decide),n 1 (by decide),n 2 (by decide),n 3 (by decide),n 4 (by decide),n 5 (by decide),n 6 (by decide),n 7 (by decide),n 8 (by decide),n 9 (by decide),n 10 (by decide),n 11 (by decide),cond_false,dY (show port<=2 by omega),cond_true]
 . have n: ∀k:Int,k<12->(port==k)=false:=λk hk=>beq_eq_false_iff_ne.2 (by omega)
   have c:Q76 m.A4 m.Mem port v=(m.A4,m.Mem):=by
     simp only[Q76,Q50,Tree.m,n 10 (by decide),n 11 (by decide),cond_false]
   simp only[n 0 (by decide),n 1 (by decide),n 2 (by decide),n 3 (by decide),n 4 (by decide),n 5 (by decide),n 6 (by decide),n 7 (by decide),n 8 (by decide),n 9 (by decide),n 10 (by decide),n 11 (by decide),cond_false,dN (show¬port<=2 by omega),dN (show¬port<=6 by omega),dN (show¬port<=9 by omega),c]
def tick(n:Q00)(c:Q05)(w h:Bool):Q00:={B2:=c,Mem:=n.Mem,A6:=n.A6,B0:=n.B0,B1:=n.B1,C5:=n.C5,A4:=n.A4,A1:=wrap .u64 (n.A1+1),A7:=w,A9:=h}
def withX(m:Q00)(c:Q05)(mem:List Int):Q00:={B2:=c,Mem:=mem,A6:=m.A6,B0:=m.B0,B1:=m.B1,C5:=m.C5,A4:=m.A4,A1:=m.A1,A7:=false,A9:=m.A9}
def finP(n:Q00)(e:Q17)(clock at0:Int):Q00×List Q03:=
 bif e.B5==1 then
   (bif e.D9 !=0 then(tick (Q16 n e.D1 clock).1 {X:=A16.of 0 (dD (A16.l (Q16 n e.D1 clock).1.B2.X) e.D9.toNat (Q16 n e.D1 clock).2),Pc:=(Q16 n e.D1 clock).1.B2.Pc,B6:=(Q16 n e.D1 clock).1.B2.B6} (Q16 n e.D1 clock).1.A7 (Q16 n e.D1 clock).1.A9,[])
   else(tick (Q16 n e.D1 clock).1 (Q16 n e.D1 clock).1.B2 (Q16 n e.D1 clock).1.A7 (Q16 n e.D1 clock).1.A9,[]))
 else bif e.B5==2 then(tick (Q2p n e.D1 e.Value at0).1 (Q2p n e.D1 e.Value at0).1.B2 (Q2p n e.D1 e.Value at0).1.A7 (Q2p n e.D1 e.Value at0).1.A9,(Q2p n e.D1 e.Value at0).2)
 else bif e.B5==3 then(tick n n.B2 true n.A9,[]) else bif e.B5==4 then(tick n n.B2 n.A7 true,[]) else(tick n n.B2 n.A7 n.A9,[])
def finR(n:Q00)(e:Q17)(clock:Int):List Q03×Q00:=
 bif e.B5==1 then([],tick (Qet n e.D1 clock).2 (Q20 (Qet n e.D1 clock).2.B2 e.D9 (Qet n e.D1 clock).1) (Qet n e.D1 clock).2.A7 (Qet n e.D1 clock).2.A9)
 else bif e.B5==2 then((Qb8 n e.D1 e.Value).1,tick (Qb8 n e.D1 e.Value).2 (Qb8 n e.D1 e.Value).2.B2 (Qb8 n e.D1 e.Value).2.A7 (Qb8 n e.D1 e.Value).2.A9)
 else bif e.B5==3 then([],tick n n.B2 true n.A9) else bif e.B5==4 then([],tick n n.B2 n.A7 true) else([],tick n n.B2 n.A7 n.A9)
theorem vY(m:Q00)(clock:Int):Q0k m clock=finR (withX m (Q7v (Q0q m) m.Mem).1 (Q7v (Q0q m) m.Mem).2.2) (Q7v (Q0q m) m.Mem).2.1 clock:=by kernel_rfl
theorem Znf(m:Q00)(clock:Int):Q1z m clock=bif !Q2g m then(m,[]) else finP {B2:=(Q5b (Q0u m).B2 (Q0u m).Mem).1,Mem:=(Q5b (Q0u m).B2 (Q0u m).Mem).2.1,A6:=(Q0u m).A6,B0:=(Q0u m).B0,B1:=(Q0u m).B1,C5:=(Q0u m).C5,A4:=(Q0u m).A4,A1:=(Q0u m).A1,A7:=(Q0u m).A7,A9:=(Q0u m).A9} (Q5b (Q0u m).B2 (Q0u m).Mem).2.2 clock m.A1:=by kernel_rfl
theorem xan(m:List Int):Qu3 m=m:=by
 simp [Qu3,Qfl,Tree.m]
theorem Z9q(m:Q00):Qnn m=m:=by
 simp only[Qnn,Qdi,Tree.m,letv,xan]
def Zg0(m:Q00)(clock:Int):Q00×List Q03:=bif Q0s m then(m,[]) else((Q0k m clock).2,(Q0k m clock).1)
def Ql5(m:Q00)(e:Q07):Tree (Q00×Bool):=
 .an (Qh3 m) (.lv (Qnn m) λ(x0:Q00)=> .lv (Q5e x0) λ(x1:Bool)=> .br (!x1) (.lf (x0,false)) (.an (Qs5 x0 e) (.lv (Q0n x0 e) λ(x2:Bool×Q00)=> .lf (x2.2,x2.1))))
def Qn m e:=(Ql5 m e).m
theorem Ze2(m:Q00)(clock:Int):Zg0 m clock=bif Q0s m then(m,[]) else((Q0k m clock).2,(Q0k m clock).1):=rfl
theorem yK{P:Nat}{n:Q00}(hm:Q15 P n.Mem)(hb:okB n.A4){e:Q17}(hr:0<=e.D9/\e.D9<16)(hv:U e.Value)(clock:Int):finP n e clock n.A1=((finR n e clock).2,(finR n e clock).1):=by
 unfold finP finR
 rw[zan hb e.D1 clock,zK hm hb e.D1 hv]
 cases e.B5==1
 . cases e.B5==2
   . cases e.B5==3
     . cases e.B5==4<;>rfl
     . rfl
   . rfl
 . generalize Qet n e.D1 clock=r
   have s:=Z2i r.2.B2 hr r.1
   show(bif e.D9 !=0 then _ else _)=(tick r.2 (Q20 r.2.B2 e.D9 r.1) r.2.A7 r.2.A9,[])
   rw[<-s]
   simp only[Qbn,Qe5,Tree.m]
   cases e.D9 !=0<;>rfl
theorem Zhp{m:Q00}(h:okV m)(clock:Int):Q1z m clock=Zg0 m clock:=by
 rw[Znf,Ze2,Qwn h]
 cases hs:Q0s m
 . have hr:Q2g m=true:=by rw[Qwn h,hs];rfl
   obtain⟨hm,hh,hct⟩:=Z2o hr
   obtain⟨g1,g2,g3,g4,g5⟩:=(Qn5 m).1 hm
   rcases(Qqj m.Mem h.mem).2 with c|⟨P,hP,hmem⟩
   . exact absurd c g1
   have okm:okS P m:=⟨h.cpu,hmem,h.disk,h.nic,h.bal.1,h.bal.2⟩
   obtain⟨b1,b2,b3,_⟩:=(Tree.pp (Qud okm g2)).2
   change Q6f (Q0u m).B2 at b1
   change okS P (Q0u m) at b2
   change(Q0u m).Mem=m.Mem at b3
   have be:=Qy h g2.st
   have b1':Q6f (Q0q m):=by have:=b1;rw[be]at this;exact this
   have b2':Q2m (Q0q m):=by have:=b2.cpu;rw[be]at this;exact this
   have ex:=Zhi hmem b2' b1'.st
   have er:=(Tree.pp (Zo1 b2' hmem)).2
   change 0<=(Q5b (Q0q m) m.Mem).2.2.D9/\(Q5b (Q0q m) m.Mem).2.2.D9<16 at er
   obtain⟨d1,d2,d3⟩:=(Tree.pp (do_w b2' hmem)).2
   change U (Q7v (Q0q m) m.Mem).2.1.Value at d2
   change Q15 P (Q7v (Q0q m) m.Mem).2.2 at d3
   rw[ex]at er
   rw[vY,be]
   show finP {B2:=(Q5b (Q0q m) m.Mem).1,Mem:=(Q5b (Q0q m) m.Mem).2.1,A6:=m.A6,B0:=m.B0,B1:=m.B1,C5:=m.C5,A4:=m.A4,A1:=m.A1,A7:=false,A9:=m.A9} (Q5b (Q0q m) m.Mem).2.2 clock m.A1=_
   rw[ex]
   exact yK (n:=withX m (Q7v (Q0q m) m.Mem).1 (Q7v (Q0q m) m.Mem).2.2) d3 h.bal er d2 clock
 . rfl
theorem Z8z{m:Q00}(h:okV m)(e:Q07):Q5f m e=Qn m e:=by
 have hcl:Q04 m.Mem=m.Mem:=rfl
 have mm:=Zde h
 have t1:Qmj m.B0=Q6u m.B0:=rfl
 have t2: ∀b,Qq1 m.A6 b=Qmz m.A6 b:=λ_=>rfl
 simp only[Q5f,Q4l,Qn,Ql5,Q0n,Q4i,Tree.m,letv,Z9q,hcl,t1,t2]
 rw[show Q19 {B2:=m.B2,Mem:=m.Mem,A6:=m.A6,B0:=m.B0,B1:=m.B1,C5:=m.C5,A4:=m.A4,A1:=m.A1,A7:=m.A7,A9:=m.A9}=Q5e m from mm]
 cases hM:Q5e m
 . rfl
 have hM':Q19 m=true:=mm.trans hM
 rcases(Qqj m.Mem h.mem).2 with c|⟨P,hP,hmem⟩
 . exact absurd c ((Qn5 m).1 hM').1
 have cs:=Zbp hmem h.disk e
 have rs:=Zgz hmem h.nic e.C8
 clear mm hM hM' hcl h
 obtain⟨c,mem,con,ti,d,n,b,ct,w,hl⟩:=m
 cases hl
 . by_cases k2:e.B5=2
   . rw[k2];cases e.N==0<;>cases decide (e.C8=[])<;>rfl
   by_cases k3:e.B5=3
   . rw[k3];cases decide (e.N<=255)<;>cases decide (e.C8=[])<;>rfl
   by_cases k4:e.B5=4
   . rw[k4,cs];rfl
   by_cases k5:e.B5=5
   . rw[k5,rs];cases e.N==0<;>rfl
   by_cases k6:e.B5=6
   . rw[k6];cases decide (e.C8=[])<;>rfl
   . rw[show(e.B5==2)=false by simpa using k2,show(e.B5==3)=false by simpa using k3,show(e.B5==4)=false by simpa using k4,show(e.B5==5)=false by simpa using k5,show(e.B5==6)=false by simpa using k6]
     rfl
 . rfl
theorem qao{l acts:List Int}{x0:Bool}(hx0:x0=Qw4 l acts)(hb:(!x0)=false):l.length<=40/\acts.length<=30:=by
 have hb:x0=true:=by simpa using hb
 rw[hb]at hx0
 simp only[Qw4,Qyd,Tree.m]at hx0
 cases h1:decide ((l.length:Int)<=40)<;>rw[h1]at hx0
 . cases hx0
 . have:=oY hx0.symm
   have:=oY h1
   omega
section
variable {m:Q00} (h:okV m) (hl:m.Mem.length<=1024)
include h
theorem may_P(hm:Q19 m=true): ∃P,okS P m/\okM P m:=by
 rcases(Qqj m.Mem h.mem).2 with c|⟨P,hP,hmem⟩
 . exact absurd c ((Qn5 m).1 hm).1
 . exact⟨P,⟨h.cpu,hmem,h.disk,h.nic,h.bal.1,h.bal.2⟩,⟨h.cpu,hmem,h.disk,h.nic,h.bal,h.cnt⟩⟩
include hl
theorem Zf7{clock:Int}(hk:U clock):Q2l m clock/\(Q1z m clock).2.length<=1/\(Q1z m clock).1.Mem.length<=1024:=by
 cases hr:Q2g m
 . have e:Q1z m clock=(m,[]):=by rw[Znf,hr];rfl
   rw[e]
   refine⟨?_,aT _,hl⟩
   have hcl:Q04 m.Mem=m.Mem:=rfl
   show(Q2y m clock).p
   unfold Tree.p Q2y
   refine w_an (by show m.Mem.length<=35184372088832;omega) (w_lv λl hl=> ?_)
   rw[hcl]at hl;subst hl
   refine w_an (Tree.pp (Zlr (m:=⟨_,_,_,_,_,_,m.A4,_,_,_⟩) h.bal.2)).1 (w_lv λx1 hx1=>w_br (λ_=>trivial) (λhb=> ?_))
   have:x1=false:=hx1.trans hr
   rw[this]at hb;cases hb
 . obtain⟨P,s,_⟩:=may_P h (Z2o hr).1
   have g:=Tree.pp (xg s h.cnt hk)
   have ml:=g.2.2.ok.mem.len
   have mp:=g.2.2.ok.mem.p2
   exact⟨g.1,g.2.1,by show(Q2y m clock).m.1.Mem.length<=1024;omega⟩
omit h hl in
theorem vK{P:Nat}(h:okM P m){e:Q07}(he:U e.N):(Q4i m e).w (λx=>okM P x.2):=by
 have k:=h
 obtain⟨h1,h2,h3,h4,h5,h7⟩:=h
 unfold Q4i
 repeat'(first
   |exact k
   |exact⟨h1,h2,h3,h4,⟨he,h5.2⟩,h7⟩
   |exact w_lv λ_ _=>⟨h1,h2,h3,h4,h5,h7⟩
   |exact Q0e (zab _ _) λ_ _=>⟨h1,h2,h3,h4,h5,h7⟩
   |exact Q0e (Zoh h2 h3 _) λx hx=>⟨h1,hx.2,hx.1,h4,h5,h7⟩
   |exact Q0e (Zo3 h2 h4 _) λx hx=>⟨h1,hx.2,h3,hx.1,h5,h7⟩
   |refine w_br (λ_=> ?_) (λ_=> ?_))
theorem Qyr{e:Q07}(he:U e.N):Q81 m e:=by
 cases hm:Q19 m
 . have hcl:Q04 m.Mem=m.Mem:=rfl
   show(Q4l m e).p
   unfold Tree.p Q4l
   refine w_an (by show m.Mem.length<=35184372088832;omega) (w_lv λl hl=> ?_)
   rw[hcl]at hl;subst hl
   refine w_an (Tree.pp (Zar (m:=⟨_,_,_,_,_,_,m.A4,_,_,_⟩) h.bal.2)).1 (w_lv λx1 hx1=>w_br (λ_=>trivial) (λhb=> ?_))
   have:x1=false:=hx1.trans hm
   rw[this]at hb;cases hb
 . obtain⟨P,s,o⟩:=may_P h hm
   exact(Tree.pp (Zne o he)).1
end
theorem zao(a:Q00)(ha:a.Mem.length<=1000000000000):(Qki a a).w (λb=>b=true):=by
 unfold Qki
 repeat'(first
   |refine w_br (λ_=> ?_) (λh=>absurd h (by simp [eqs,eq1];done))
   |exact w_an ha (w_lv λx hx=>by rw[hx];exact Zb2 _ ha)
   |refine w_an ha (w_lv λx hx=>w_br (λ_=> ?_) (λh=>by rw[hx,Zb2 _ ha]at h;cases h))
   |exact rfl)
 all_goals(show(_==_)=true;simp)
theorem yj(a:List Q03)(ha:a.length<=1000000000000):(Q4t a a).w (λb=>b=true):=by
 unfold Q4t
 refine w_br (λh=>by simp at h) (λ_=> ?_)
 refine w_lp (inv:=λv:Int=>0<=v/\v<=a.length) (μ:=Q6d a a) ⟨by omega,by omega⟩ (cK _) λv ⟨h1,h2⟩=> ?_
 refine w_br (λhb=> ?_) (λ_=>rfl)
 have hb:=oY hb
 have e:i64.wrap (v+1)=v+1:=by rw[wrap_i64];omega
 refine w_cn (by simp [bT];omega) (w_cn (by simp [bT];omega) (w_br (λh=>by simp [eqs,eq1]at h) (λ_=>w_nx ?_)))
 show(_/\_)/\(_:Nat)<_
 exact⟨⟨by rw[e];omega,by rw[e];omega⟩,by show(a.length-i64.wrap (v+1)).toNat<(a.length-v).toNat;rw[e];omega⟩
def Tree.V{β:Type}(t:Tree β)(W:β->Prop):Prop:=W t.m
section
variable {α β:Type} {W:β->Prop} {c:Bool} {t e:Tree β}
theorem v_lf{x:β}(h:W x):Tree.V (.lf x) W:=h
theorem v_nx{f:Prop}{x:β}{hf:f}(h:W x):Tree.V (.nx f x hf) W:=h
theorem v_br(h:c=true->Tree.V t W)(g:c=false->Tree.V e W):Tree.V (.br c t e) W:=by
 cases c
 . exact g rfl
 . exact h rfl
theorem v_cn(g:Tree.V t W):Tree.V (.cn c t) W:=g
theorem v_an{p:Prop}(g:Tree.V t W):Tree.V (.an p t) W:=g
theorem v_lv{x:α}{k:α->Tree β}(h: ∀y,y=x->Tree.V (k y) W):Tree.V (.lv x k) W:=h x rfl
theorem v_lp{d:Inhabited β}{n:Nat}{f:Prop}{x:α}{k:α->Tree (α⊕β)}{hf:f}{inv:α->Prop}{μ:α->Nat}(h:inv x)(hn:μ x<n)(g: ∀y,inv y->Tree.V (k y) (Sum.elim (λz=>inv z/\μ z<μ y) W)):Tree.V (.lp d n f x k hf) W:=by
 refine xz (P:=inv) (R:=W) (μ:=μ) (λa ha=> ?_) n x h hn
 have:=g a ha
 unfold Tree.V at this
 revert this
 cases(k a).m with
 |inl z=>exact λh=>h
 |inr b=>exact λh=>h
end
def Z6s(r:Q01)(m:Q00):Q01:={A0:=m,A3:=r.A3,B3:=r.B3,A2:=r.A2}
theorem xaJ(r:Q01)(port clock:Int):Quq r port clock=((Qet r.A0 port clock).1,Z6s r (Qet r.A0 port clock).2):=by
 simp only[Quq,Qkq,Qet,Qm2,Tree.m,letv]
 cases decide (port<=1)<;>cases port==2<;>cases port==3<;>cases decide (port<=6)<;>cases decide (port<=9)<;>rfl
theorem xao(r:Q01)(port v:Int):Qrk r port v=((Qb8 r.A0 port v).1,Z6s r (Qb8 r.A0 port v).2):=by
 simp only[Qrk,Qdp,Qb8,Qfi,Tree.m,letv]
 cases port==0<;>cases decide (port<=2)<;>cases port==3<;>cases decide (port<=6)<;>cases decide (port<=9)<;>rfl
theorem qaK{r:Q01}{c:Bool}{x y:Bool×Q01}{x' y':Bool×Q00}(hx:x=(x'.1,Z6s r x'.2))(hy:y=(y'.1,Z6s r y'.2)):cond c x y=((cond c x' y').1,Z6s r (cond c x' y').2):=by cases c<;>assumption
theorem vj(r:Q01)(e:Q07):Qkw r e=((Q0n r.A0 e).1,Z6s r (Q0n r.A0 e).2):=by
 simp only[Qkw,Q92,Q0n,Q4i,Tree.m,letv]
 repeat'(first|rfl|refine qaK ?_ ?_)
theorem Zco(r:Q01)(clock:Int):Q7h r clock=((Q0k r.A0 clock).1,Z6s r (Q0k r.A0 clock).2):=by
 simp only[Q7h,Q6o,Q0k,Q98,Tree.m,letv,xaJ,xao,Z6s]
 cases(Q7v (Q0q r.A0) r.A0.Mem).2.1.B5==1<;>cases(Q7v (Q0q r.A0) r.A0.Mem).2.1.B5==2<;>cases(Q7v (Q0q r.A0) r.A0.Mem).2.1.B5==3<;>cases(Q7v (Q0q r.A0) r.A0.Mem).2.1.B5==4<;>rfl
def Q1k(r:Q01)(e:Q07):Q01:=
 bif(Q0n r.A0 e).1 then{A0:=(Q0n r.A0 e).2,A3:=r.A3,B3:=r.B3++[{At:=(Q0n r.A0 e).2.A1,C0:=e}],A2:=r.A2} else Z6s r (Q0n r.A0 e).2
theorem Zom(r:Q01)(e:Q07):Qj3 r e=Q1k r e:=by
 have a:Qi2 r e=((Q0n r.A0 e).1,Z6s r (Q0n r.A0 e).2):=by
   simp only[Qi2,Q8,Tree.m,letv,vj]
 simp only[Qj3,Qb5,Tree.m,letv,a,Q1k]
 cases(Q0n r.A0 e).1<;>rfl
def Q24(r:Q01):Q01:=bif Q74 r.A0.B0 r.A3 then Q1k r {B5:=2,N:=0,C8:=[]} else r
def Zd9(r:Q01):Q01:=bif Q0h r.A0 then{A0:=r.A0,A3:=r.A3,B3:=r.B3++[{At:=r.A0.A1,C0:={B5:=1,N:=r.A3,C8:=[]}}],A2:=r.A2} else r
def Qia(r:Q01):Q01:={A0:=(Q0k r.A0 r.A3).2,A3:=wrap .u32 (r.A3+1),B3:=(Zd9 r).B3,A2:=r.A2}
def recF:Nat->Q01->List Q03->Q01×List Q03
 |0,r,o=>(r,o)
 |n+1,r,o=>bif Q0s (Q24 r).A0 then(Q24 r,o) else recF n (Qia (Q24 r)) (o++(Q0k (Q24 r).A0 (Q24 r).A3).1)
def noQ(r:Q01):Q01:={A0:=r.A0,A3:=r.A3,B3:=r.B3,A2:=[]}
def advF(r:Q01)(steps clock:Int):Q01×List Q03:=
 bif !Q5e r.A0 then(r,[]) else recF (Q0i steps).toNat (noQ (r.A2.foldl Q1k {A0:=r.A0,A3:=if clock>r.A3 then clock else r.A3,B3:=r.B3,A2:=r.A2})) []
theorem Qkx(r:Q01)(e:Q07):(Q1k r e).A2=r.A2:=by
 unfold Q1k;cases(Q0n r.A0 e).1<;>rfl
theorem Zon(r:Q01):Qpj r=r:=by
 simp only[Qpj,Qfy,Tree.m,letv,Z9q]
theorem Quu(r:Q01)(steps clock:Int)(hq:r.A2.length<=1000000):Qe4 r steps clock=advF r steps clock:=by
  show Tree.V (Q5y r steps clock) (λx=>x=advF r steps clock)
  obtain⟨lim0,lim⟩:=Qkb steps
  unfold Q5y
  refine v_an (v_lv λx0 e0=>v_lv λx1 e1=> ?_)
  rw[Zon]at e0
  subst e0
  refine v_br (λhb=>v_lf ?_) λhb=> ?_
  . unfold advF;rw[<-e1,hb];rfl
  generalize hr0:({A0:=x0.A0,A3:=if clock>x0.A3 then clock else x0.A3,B3:=x0.B3,A2:=x0.A2}:Q01)=r0
  have hA:advF x0 steps clock=recF (Q0i steps).toNat (noQ (x0.A2.foldl Q1k r0)) []:=by
    unfold advF;rw[<-e1,hb,hr0];rfl
  have hQ:r0.A2=x0.A2:=by rw[<-hr0]
  refine v_lp (inv:=λz:Int×Q01=>0<=z.1/\z.1<=x0.A2.length/\z.2.A2=x0.A2/\(x0.A2.drop z.1.toNat).foldl Q1k z.2=x0.A2.foldl Q1k r0) (μ:=Qcw x0 steps clock) ⟨cS 0,by show(0:Int)<=_;omega,hQ,rfl⟩ (cK _) λz ⟨z0,z1,z2,z3⟩=> ?_
  refine v_br (λhb=> ?_) (λhb=> ?_)
  . have hb:=oY hb
    rw[z2]at hb
    refine v_cn (v_an (v_lv λx2 e2=>v_nx ?_))
    have ew:i64.wrap (z.1+1)=z.1+1:=by rw[wrap_i64];omega
    rw[Zom]at e2
    have q2:x2.A2=x0.A2:=by rw[e2,Qkx,z2]
    have hlt:z.1.toNat<x0.A2.length:=by omega
    have ed:z.2.A2.getD z.1.toNat (RK.dflt RK.apiEvent)=x0.A2[z.1.toNat]:=by rw[z2,cL,cG hlt];rfl
    show(0<=i64.wrap (z.1+1)/\i64.wrap (z.1+1)<=x0.A2.length/\x2.A2=x0.A2/\(x0.A2.drop (i64.wrap (z.1+1)).toNat).foldl Q1k x2=_)/\(x2.A2.length-i64.wrap (z.1+1)).toNat<(z.2.A2.length-z.1).toNat
    rw[ew,q2,z2]
    refine⟨⟨by omega,by omega,rfl,?_⟩,by omega⟩
    rw[<-z3,aB hlt,aD,show(z.1+1).toNat=z.1.toNat+1 by omega,e2,ed]
  . have hb:=oN hb
    rw[z2]at hb
    obtain⟨zi,zr⟩:=z
    have hb: ¬zi<x0.A2.length:=hb
    have ze:zr=x0.A2.foldl Q1k r0:=by
      rw[<-z3,aA (by show x0.A2.length<=zi.toNat;omega)];rfl
    rw[<-ze]at hA
    refine v_lp (inv:=λy:Int×Q01×List Q03=>0<=y.1/\y.1<=Q0i steps/\recF (Q0i steps-y.1).toNat y.2.1 y.2.2=advF x0 steps clock) (μ:=Q64 x0 steps clock (zi,zr)) ⟨cS 0,by show(0:Int)<=_;omega,by rw[hA];show recF (Q0i steps-0).toNat _ _=_;rw[fD];rfl⟩ (cK _) λy ⟨y0,y1,y2⟩=> ?_
    obtain⟨yi,yr,yo⟩:=y
    have mu: ∀q,yi<4000->Q64 x0 steps clock (zi,zr) (wrap .i64 (yi+1),q)<Q64 x0 steps clock (zi,zr) (yi,yr,yo):=λq h=>by
      show(4000-wrap .i64 (yi+1)).toNat<(4000-yi).toNat
      have y0:0<=yi:=y0
      rw[wrap_i64];omega
    have y0:0<=yi:=y0
    refine v_lv λx3 e3=>v_br (λhb=> ?_) (λhb=> ?_)
    . have hb:yi<x3:=oY hb
      rw[e3]at hb
      have mu:=λq=>mu q (by omega)
      have ew:i64.wrap (yi+1)=yi+1:=by rw[wrap_i64];omega
      have en:(Q0i steps-yi).toNat=(Q0i steps-(yi+1)).toNat+1:=by omega
      change recF (Q0i steps-yi).toNat yr yo=_ at y2
      rw[en]at y2
      refine v_lv λx4 e4=>v_br (λhd=>v_an (v_lv λx5 e5=> ?_)) (λhd=> ?_)
      . have e5:x5=Q24 yr:=by rw[e5,Zom];unfold Q24;rw[<-e4,hd];rfl
        refine v_an (v_lv λx6 e6=>v_br (λhs=>v_lf ?_) λhs=>v_an (v_lv λx7 e7=>v_br (λhr=>v_cn (v_an (v_lv λx8 e8=>v_cn (v_nx ?_)))) λhr=>v_an (v_lv λx9 e9=>v_cn (v_nx ?_))))
        . show(_,yo)=_
          rw[<-y2];unfold recF
          rw[<-e5,<-e6,hs];rfl
        . rw[Zco]at e8
          refine⟨⟨by show 0<=wrap .i64 (yi+1);rw[ew];omega,by show wrap .i64 (yi+1)<=_;rw[ew];omega,?_⟩,mu _⟩
          show recF (Q0i steps-wrap .i64 (yi+1)).toNat _ _=_
          rw[ew,<-y2,e8]
          conv=>rhs;unfold recF
          rw[<-e5,<-e6,hs]
          unfold Qia Zd9
          rw[<-e7,hr];rfl
        . rw[Zco]at e9
          refine⟨⟨by show 0<=wrap .i64 (yi+1);rw[ew];omega,by show wrap .i64 (yi+1)<=_;rw[ew];omega,?_⟩,mu _⟩
          show recF (Q0i steps-wrap .i64 (yi+1)).toNat _ _=_
          rw[ew,<-y2,e9]
          conv=>rhs;unfold recF
          rw[<-e5,<-e6,hs]
          unfold Qia Zd9
          rw[<-e7,hr];rfl
      . have e5:yr=Q24 yr:=by
          have e4:x4=Q74 yr.A0.B0 yr.A3:=e4
          unfold Q24;rw[<-e4,hd];rfl
        refine v_an (v_lv λx6 e6=>v_br (λhs=>v_lf ?_) λhs=>v_an (v_lv λx7 e7=>v_br (λhr=>v_cn (v_an (v_lv λx8 e8=>v_cn (v_nx ?_)))) λhr=>v_an (v_lv λx9 e9=>v_cn (v_nx ?_))))
        . show(_,yo)=_
          rw[<-y2];unfold recF
          rw[<-e5,<-e6,hs];rfl
        . rw[Zco]at e8
          refine⟨⟨by show 0<=wrap .i64 (yi+1);rw[ew];omega,by show wrap .i64 (yi+1)<=_;rw[ew];omega,?_⟩,mu _⟩
          show recF (Q0i steps-wrap .i64 (yi+1)).toNat _ _=_
          rw[ew,<-y2,e8]
          conv=>rhs;unfold recF
          rw[<-e5,<-e6,hs]
          unfold Qia Zd9
          rw[<-e7,hr];rfl
        . rw[Zco]at e9
          refine⟨⟨by show 0<=wrap .i64 (yi+1);rw[ew];omega,by show wrap .i64 (yi+1)<=_;rw[ew];omega,?_⟩,mu _⟩
          show recF (Q0i steps-wrap .i64 (yi+1)).toNat _ _=_
          rw[ew,<-y2,e9]
          conv=>rhs;unfold recF
          rw[<-e5,<-e6,hs]
          unfold Qia Zd9
          rw[<-e7,hr];rfl
    . have hb: ¬yi<x3:=oN hb
      rw[e3]at hb
      refine v_lf ?_
      show(yr,yo)=_
      change recF (Q0i steps-yi).toNat yr yo=_ at y2
      rw[<-y2,show(Q0i steps-yi).toNat=0 by omega];rfl
structure good(P:Nat)(m:Q00):Prop where
 ok:okM P m
 may:Q19 m=true
section
variable {P:Nat} {m:Q00} (h:good P m)
include h
theorem good.v:okV m:=⟨h.ok.cpu,h.ok.mem.u,h.ok.disk,h.ok.nic,h.ok.target,h.ok.cnt⟩
theorem good.s:okS P m:=⟨h.ok.cpu,h.ok.mem,h.ok.disk,h.ok.nic,h.ok.target.1,h.ok.target.2⟩
theorem good.rmay:Q5e m=true:=(Zde h.v).symm.trans h.may
theorem Qe8{e:Q07}(he:U e.N):good P (Q0n m e).2/\(Q0n m e).2.A1=m.A1:=by
 have o:okM P (Q0n m e).2:=Tree.post _ (vK h.ok he)
 have a:=(Tree.pp (Zne h.ok he)).2
 change(Q19 m=true->Q19 (Q5f m e).1=true)/\(Q5f m e).1.A1=m.A1/\_ at a
 have e1:Qn m e=((Q0n m e).2,(Q0n m e).1):=by
   simp only[Qn,Ql5,Tree.m,letv,Z9q,h.rmay];rfl
 rw[Z8z h.v e,e1]at a
 exact⟨⟨o,a.1 h.may⟩,a.2.1⟩
theorem Zez:Q0s m=false↔m.A9=false/\Qed m=false/\m.A1<1152921504606846976:=by
 simp only[Q0s,Q8b,Tree.m,letv,h.rmay]
 cases m.A9<;>cases Qed m<;>simp
theorem Q6v(hs:Q0s m=false){clock:Int}(hc:U clock):good P (Q0k m clock).2/\(Q0k m clock).2.A1=m.A1+1/\(Q0k m clock).1.length<=1:=by
 have o:=Tree.post _ (Z9k h.ok hc)
 change(Q0k m clock).1.length<=1/\okM P (Q0k m clock).2/\(Q0k m clock).2.A1=wrap .u64 (m.A1+1) at o
 have s:=(Tree.pp (xg h.s h.ok.cnt hc)).2
 change _/\Good P m (Q1z m clock).1 at s
 have e:Q1z m clock=((Q0k m clock).2,(Q0k m clock).1):=by rw[Zhp h.v,Ze2,hs];rfl
 rw[e]at s
 have hct:=((Zez h).1 hs).2.2
 have h0:=h.ok.cnt
 refine⟨⟨o.2.1,s.2.may h.may⟩,?_,o.1⟩
 rw[o.2.2,wrap_u64];omega
end
structure Q5z(P:Nat)(k:Int)(r:Q01):Prop where
 m:good P r.A0
 clock:U r.A3
 cnt:r.A0.A1<=k
theorem Qfq{P:Nat}{k:Int}{r:Q01}(h:Q5z P k r){e:Q07}(he:U e.N):Q5z P k (Q1k r e)/\(Q1k r e).A0.A1=r.A0.A1:=by
 obtain⟨a,b⟩:=Qe8 h.m he
 have hc:=h.cnt
 unfold Q1k
 cases(Q0n r.A0 e).1
 . exact⟨⟨a,h.clock,by show(Q0n r.A0 e).2.A1<=k;omega⟩,b⟩
 . exact⟨⟨a,h.clock,by show(Q0n r.A0 e).2.A1<=k;omega⟩,b⟩
theorem Qim{P:Nat}{k:Int}{r:Q01}(h:Q5z P k r):Q5z P k (Q24 r)/\(Q24 r).A0.A1=r.A0.A1:=by
 unfold Q24
 cases Q74 r.A0.B0 r.A3
 . exact⟨h,rfl⟩
 . exact Qfq h U_0
theorem Qis{P:Nat}{k:Int}{r:Q01}(h:Q5z P k r)(hs:Q0s r.A0=false):Q5z P (k+1) (Qia r):=by
 obtain⟨a,b,_⟩:=Q6v h.m hs h.clock
 have hc:=h.cnt
 exact⟨a,Q0v _,by show(Q0k r.A0 r.A3).2.A1<=k+1;omega⟩
theorem Zi3{P:Nat}(n:Nat): ∀{k:Int} {r:Q01} {o:List Q03},Q5z P k r->Q5z P (k+n) (recF n r o).1:=by
 induction n with
 |zero=>intro k r o h;exact⟨h.m,h.clock,by have:=h.cnt;show r.A0.A1<=k+(0:Nat);omega⟩
 | succ n ih=>
   intro k r o h
   obtain⟨f,fc⟩:=Qim h
   unfold recF
   cases hs:Q0s (Q24 r).A0
   . have t:=ih (o:=o++(Q0k (Q24 r).A0 (Q24 r).A3).1) (Qis f hs)
     exact⟨t.m,t.clock,by have:=t.cnt;show(recF n _ _).1.A0.A1<=_;omega⟩
   . exact⟨f.m,f.clock,by have:=f.cnt;show(Q24 r).A0.A1<=_;omega⟩
theorem Z9g{P:Nat}{k:Int}(l:List Q07): ∀{r:Q01},Q5z P k r->(∀q∈l,U q.N)->Q5z P k (l.foldl Q1k r)/\(l.foldl Q1k r).A2=r.A2:=by
 induction l with
 |nil=>intro r h _;exact⟨h,rfl⟩
 | cons e l ih=>
   intro r h hu
   obtain⟨a,b⟩:=ih (Qfq h (hu e (by simp))).1 (λq hq=>hu q (by simp [hq]))
   exact⟨a,b.trans (Qkx r e)⟩
theorem Qxc(n:Nat): ∀(r:Q01) (o:List Q03),(recF n r o).1.A2=r.A2:=by
 induction n with
 |zero=>intro r o;rfl
 | succ n ih=>
   intro r o
   have f:(Q24 r).A2=r.A2:=by
     unfold Q24;cases Q74 r.A0.B0 r.A3
     . rfl
     . exact Qkx _ _
   unfold recF
   cases Q0s (Q24 r).A0
   . exact(ih _ _).trans f
   . exact f
def okQ(l:List Q07):Prop:=l.length<=16/\ ∀q∈l,U q.N
theorem qk{P:Nat}{k:Int}{r:Q01}(h:Q5z P k r)(hq:okQ r.A2)(steps:Int){clock:Int}(hc:U clock):Q5z P (k+4000) (advF r steps clock).1/\okQ (advF r steps clock).1.A2:=by
 obtain⟨l0,l1⟩:=Qkb steps
 unfold advF
 rw[h.m.rmay]
 have hcl:U (if clock>r.A3 then clock else r.A3):=by split<;>first|exact hc|exact h.clock
 obtain⟨a,b⟩:=Z9g r.A2 (r:={A0:=r.A0,A3:=if clock>r.A3 then clock else r.A3,B3:=r.B3,A2:=r.A2}) ⟨h.m,hcl,h.cnt⟩ hq.2
 have c:=Zi3 (Q0i steps).toNat (o:=[]) (r:=noQ (r.A2.foldl Q1k {A0:=r.A0,A3:=if clock>r.A3 then clock else r.A3,B3:=r.B3,A2:=r.A2})) ⟨a.m,a.clock,a.cnt⟩
 refine⟨⟨c.m,c.clock,?_⟩,?_⟩
 . have:=c.cnt
   show(recF _ _ _).1.A0.A1<=_
   omega
 . show okQ (recF _ _ _).1.A2
   rw[Qxc];exact⟨aT _,λq hq=>by cases hq⟩
theorem Zkt(n:Int):U (Q46 n).N:=Tree.post _ (Zmb n)
theorem Qa(r:Q01)(e:Q07):Q2c r e=bif !Q2 e then(r,false) else bif e.B5==1 then(r,false) else bif decide ((r.A2.length:Int)>=16) then(r,false) else({A0:=r.A0,A3:=r.A3,B3:=r.B3,A2:=r.A2++[e]},true):=by
 simp only[Q2c,Q9,Tree.m,letv,Zon]
theorem Zlk{P:Nat}{k:Int}{r:Q01}(h:Q5z P k r)(hq:okQ r.A2){e:Q07}(he:U e.N):Q5z P k (Q2c r e).1/\okQ (Q2c r e).1.A2:=by
  rw[Qa]
  cases Q2 e
  . exact⟨h,hq⟩
  . cases e.B5==1
    . cases hl:decide ((r.A2.length:Int)>=16)
      . have hl:=oN hl
        refine⟨⟨h.m,h.clock,h.cnt⟩,?_,λq hm=> ?_⟩
        . show(r.A2++[e]).length<=16
          rw[lA,cW];omega
        . have hm:q∈r.A2++[e]:=hm
          rcases List.mem_append.1 hm with hm|hm
          . exact hq.2 q hm
          . rw[List.mem_singleton.1 hm];exact he
      . exact⟨h,hq⟩
    . exact⟨h,hq⟩
theorem Quf{r:Q01}{n:Int}(h:(dB (Q3n n 3) 3==0)=true):Q3x r n=((Q2c r (Q46 n)).1,[]):=by
 show Tree.V (Q8h r n) (λx=>x=((Q2c r (Q46 n)).1,[]))
 unfold Q8h
 refine v_lv λx0 e0=>v_br (λ_=>v_an (v_lv λx1 e1=>v_an (v_lv λx2 e2=>v_lf ?_))) (λhb=> ?_)
 . rw[e2,e1]
 . rw[e0,h]at hb;cases hb
theorem Qut{r:Q01}{n:Int}(h:(dB (Q3n n 3) 3==0)=false):Q3x r n=Qe4 r (Q4y (ishr .i64 (Q3n n 3) 4) 12) (wrap .u32 (iand .i64 (ishr .i64 (Q3n n 3) 12) 255)):=by
 show Tree.V (Q8h r n) (λx=>x=Qe4 r (Q4y (ishr .i64 (Q3n n 3) 4) 12) (wrap .u32 (iand .i64 (ishr .i64 (Q3n n 3) 12) 255)))
 unfold Q8h
 refine v_lv λx0 e0=>v_br (λhb=> ?_) (λ_=>v_an (v_lv λx1 e1=>v_an (v_lv λx2 e2=>v_lf ?_)))
 . rw[e0,h]at hb;cases hb
 . rw[e2,e1,e0]
def Qox(s:Q01×List Q03)(n:Int):Q01×List Q03:=((Q3x s.1 n).1,s.2++(Q3x s.1 n).2)
theorem qap(m:Q00)(l:List Int)(hl:l.length<=1000000):Z69 m l=l.foldl Qox (Q47 m,[]):=by
 show Tree.V (Qd8 m l) (λx=>x=l.foldl Qox (Q47 m,[]))
 unfold Qd8
 refine v_an (v_lv λx0 e0=> ?_)
 subst e0
 refine v_lp (inv:=λz:Int×Q01×List Q03=>0<=z.1/\z.1<=l.length/\(l.drop z.1.toNat).foldl Qox z.2=l.foldl Qox (Q47 m,[])) (μ:=Qk7 m l) ⟨cS 0,by show(0:Int)<=_;omega,rfl⟩ (cK _) λz ⟨z0,z1,z2⟩=> ?_
 obtain⟨i,r,o⟩:=z
 have z0:0<=i:=z0
 have z1:i<=l.length:=z1
 refine v_br (λhb=>v_cn (v_an (v_lv λx1 e1=>v_cn (v_nx ?_)))) (λhb=>v_lf ?_)
 . have hb:i<l.length:=oY hb
   have ew:i64.wrap (i+1)=i+1:=by rw[wrap_i64];omega
   have hlt:i.toNat<l.length:=by omega
   show(0<=i64.wrap (i+1)/\i64.wrap (i+1)<=l.length/\(l.drop (i64.wrap (i+1)).toNat).foldl Qox (x1.1,o++x1.2)=_)/\(l.length-i64.wrap (i+1)).toNat<(l.length-i).toNat
   rw[ew]
   refine⟨⟨by omega,by omega,?_⟩,by omega⟩
   rw[<-z2]
   show _=(l.drop i.toNat).foldl Qox (r,o)
   rw[aB hlt,aD,show(i+1).toNat=i.toNat+1 by omega,e1]
   have ed:l.getD i.toNat 0=l[i.toNat]:=by rw[cL,cG hlt];rfl
   rw[show Qox (r,o) l[i.toNat]=((Q3x r l[i.toNat]).1,o++(Q3x r l[i.toNat]).2) from by unfold Qox;rfl,<-ed]
 . have hb: ¬i<l.length:=oN hb
   show(r,o)=_
   rw[<-z2]
   show _=(l.drop i.toNat).foldl Qox (r,o)
   rw[aA (by omega)];rfl
theorem Zgg(s:Q01×List Q03)(n:Int):Qox s n=((Q3x s.1 n).1,s.2++(Q3x s.1 n).2):=by unfold Qox;rfl
theorem xk(m:Q00):Q47 m={A0:=m,A3:=0,B3:=[],A2:=[]}:=by
 simp only[Q47,Q44,Tree.m,letv,Z9q]
theorem Zo{i:List Int}(hu: ∀w∈i,U w)(hl:i.length<=256):good 8 (Q21 8 4 i).1/\(Q21 8 4 i).1.A1=0:=by
 obtain⟨a,b⟩:=(Tree.pp (new_w i hu hl)).2
 change okM 8 (Q21 8 4 i).1 at a
 refine⟨⟨a,?_⟩,b⟩
 have e:(Q21 8 4 i).2=true:=by
   have w:i64.wrap (8*32)=256:=by decide
   simp only[Q21,Q90,Tree.m,w,letv,dN (show¬((i.length:Int)>256) by omega)]
   rfl
 obtain⟨a1,a2,a3,a4,a5,a6⟩:=qaS 8 4 i e
 exact(zaS _ 8 4 a1 a2 a3 a4 a5 _ a6).1
theorem zk{m:Q00}(h:good 8 m)(hc:m.A1<=87):Tree.V (Qaj m [] 87) (λx=>x.2.2.2=0->good 8 x.1/\x.1.A1<=87):=by
 have z: ∀{k:Int} {p:Prop},k≠0->k=0->p:=λa b=>absurd b a
 unfold Qaj
 refine v_lv λx0 _=>v_br (λ_=>v_lf (z (by decide))) λ_=>v_br (λ_=>v_lf (z (by decide))) λ_=>v_br (λ_=>v_lf (z (by decide))) λ_=>v_an (v_lv λx1 _=>v_br (λ_=>v_lf (z (by decide))) λ_=>v_an (v_lv λx2 hx=> ?_))
 rw[Z9q]at hx
 refine v_lp (inv:=λv:Q00×List Q03=>good 8 v.1/\v.1.A1<=87) (μ:=Qhq m [] 87) ⟨by rw[hx];exact h,by rw[hx];exact hc⟩ (cK _) λv0 ⟨a1,a3⟩=> ?_
 have a2:=a1.ok.cnt
 refine v_br (λhb=>v_br (λhm=> ?_) (λ_=>v_lf λ_=>⟨a1,a3⟩)) (λ_=>v_lf λ_=>⟨a1,a3⟩)
 have hb:=oY hb
 have hm:=oY hm
 refine v_lp (inv:=λ_=>True) (μ:=Qhn m [] 87 v0) trivial (cK _) λv1 _=> ?_
 refine v_br (λ_=>v_lf λ_=>⟨a1,a3⟩) λhh=>v_an (v_lv λx3 h3=>v_br (λ_=>v_lf λ_=>⟨a1,a3⟩) λhi=>v_an (v_lv λx4 _=>v_br (λ_=>v_lf (z (by decide))) λ_=>v_an (v_lv λx5 h5=>v_cn (v_nx ?_))))
 obtain⟨b1,b2,_⟩:=Q6v a1 ((Zez a1).2 ⟨hh,h3.symm.trans hi,hm⟩) (clock:=0) U_0
 rw[<-h5]at b1 b2
 show(good 8 x5.2/\x5.2.A1<=87)/\(87-x5.2.A1).toNat<(87-v0.1.A1).toNat
 exact⟨⟨b1,by omega⟩,by omega⟩
theorem Zj8(kind:Int)(l:List Int)(hl:l.length*8<=reachBytes)(h40:l.length<=40):good 8 (Ql4 kind l)/\(Ql4 kind l).A1<=87:=by
  show Tree.V (Q7m kind l) (λm=>good 8 m/\m.A1<=87)
  have code:=(Tree.pp (qd l hl)).2
  change((Qq0 l).length:Int)=l.length/\ ∀w∈Qq0 l,U w at code
  obtain⟨b1,b2⟩:=code
  unfold Q7m
  refine v_an (v_lv λx0 hx0=>v_br (λ_=>v_an (v_lv λx1 e1=> ?_)) (λhk=> ?_))
  . have eb:x1.1=boot:=by rw[e1];rfl
    obtain⟨q1,q2⟩:boot.length<=160/\ ∀w∈boot,U w:=qe
    refine v_lp (inv:=λv:List Int=>v.length<=160/\v=boot++cN (v.length-boot.length) 0) (μ:=Qeg kind l) ⟨by rw[eb];exact q1,by rw[eb];simp⟩ (cK _) λv0 ⟨a1,a2⟩=> ?_
    have a3:boot.length<=v0.length:=by rw[a2,lA];omega
    refine v_br (λhb=> ?_) (λhb=> ?_)
    . have hb:=oY hb
      refine v_cn (v_nx ?_)
      show(_/\_)/\(_:Nat)<_
      refine⟨⟨by rw[lA,cW];omega,?_⟩,by show 160-(v0++[0]).length<160-v0.length;rw[lA,cW];omega⟩
      show v0++[0]=boot++cN ((v0++[0]).length-boot.length) 0
      rw[lA,cW,show v0.length+1-boot.length=(v0.length-boot.length)+1 by omega,List.replicate_succ',<-fE,<-a2]
    . have hb:=oN hb
      have hv:v0=Qlq:=by
        unfold Qlq
        rw[show(160:Nat)=v0.length by omega]
        exact a2
      subst hv
      have hp:=zah
      have hu0: ∀w∈Qlq,U w:=λw hw=>(List.mem_append.1 hw).elim (q2 w) (U_all _ w)
      refine v_an (v_lv λx2 e2=>v_cn ?_)
      rw[<-e2]at b1 b2
      have hu: ∀w∈Qlq++x2,U w:=λw hw=>(List.mem_append.1 hw).elim (hu0 w) (b2 w)
      have hlen:(Qlq++x2).length<=256:=by rw[lA];omega
      refine v_br (λhb=> ?_) (λhb=> ?_)
      . have hb:=oY hb;omega
      . obtain⟨c1,c2⟩:=Zo hu hlen
        refine v_an (v_lv λx3 h3=> ?_)
        rw[<-h3]at c1 c2
        have rn:=zk c1 (by omega)
        refine v_br (λ_=>v_an (v_lv λx4 hx=>v_lf ?_)) (λ_=>v_lf ⟨c1,by omega⟩)
        have e:x3=Q21 8 4 (Qlq++(x2++cN (96-x2.length) 0)):=by
          rw[h3]
          have hl2:(x2++cN (96-x2.length) (0:Int)).length=96:=by rw[lA,cR];omega
          refine qah _ _ hlen (by rw[lA,hl2];omega) ?_
          rw[lA,lA,hl2,hp,fE,fE,fE,show 256-(160+96)=0 by omega,show 256-(160+x2.length)=96-x2.length by omega]
          simp
        have h0:x4.2.2.2=0:=by
          rw[hx,e]
          exact qaF _ (by rw[lA,cR];omega)
        exact(by rw[hx];exact rn:x4.2.2.2=0->good 8 x4.1/\x4.1.A1<=87) h0
  . have hk:=oN hk
    refine v_an (v_lv λx2 e2=>v_cn ?_)
    rw[<-e2]at b1 b2
    refine v_br (λhb=> ?_) (λhb=> ?_)
    . have hb:=oY hb;omega
    . obtain⟨c1,c2⟩:=Zo b2 (by omega)
      refine v_an (v_lv λx3 h3=> ?_)
      rw[<-h3]at c1 c2
      exact v_br (λh=>absurd (eq_of_beq h) (by omega)) (λ_=>v_lf ⟨c1,by omega⟩)
theorem Zpn(w:Int):wrap .i64 (Q25 w).1.Imm=(Q25 w).1.Imm:=by
 show Tree.V (Q6y w) (λr=>wrap .i64 r.1.Imm=r.1.Imm)
 have e: ∀x,wrap .i64 (wrap .i32 x)=wrap .i32 x:=λx=>by rw[wrap_i64,wrap_i32];omega
 unfold Q6y
 refine v_lv λx0 _=> ?_
 have l: ∀i:Q0o,wrap .i64 i.Imm=i.Imm->Tree.V (Tree.lv (Q85 i) λx=> .br (!x) (.lf ((⟨0,0,0,0,0⟩:Q0o),false)) (.lf (i,true))) (λr=>wrap .i64 r.1.Imm=r.1.Imm):=λi hi=>v_lv λx hx=>v_br (λ_=>v_lf rfl) (λhb=>v_lf hi)
 exact v_br (λ_=>v_lf rfl) (λ_=>v_br (λ_=>l _ rfl) (λ_=>v_br (λ_=>l _ (e _)) (λ_=>v_br (λ_=>l _ (e _)) (λ_=>l _ (e _)))))
def ioP(e:Q17):Bool:=bif e.B5==1 then e.D1==2 else false
def readsC(c:Q05)(m:List Int):Bool:=
 bif iand .u32 c.B6.a0 1==0 then false else bif(Q1g m c.Pc 4).2 then bif(Q25 (Q1g m c.Pc 4).1).2 then bif(Q25 (Q1g m c.Pc 4).1).1.Op==60 then(Q25 (Q1g m c.Pc 4).1).1.Imm==2 else false else false else false
theorem Zji(m:Q00):Qfp m=readsC (Q0q m) m.Mem:=rfl
theorem zaK(c:Q05)(i:Q0o):ioP (Qjv c i).2=(bif i.Op==60 then wrap .i64 i.Imm==2 else false):=by
 show Tree.V (Q8p c i) (λr=>ioP r.2=_)
 have no: ∀{k:Int},i.Op=k->k≠60-> ∀e:Q17,e.B5≠1->ioP e=(bif i.Op==60 then wrap .i64 i.Imm==2 else false):=λh g e he=>by
   unfold ioP
   rw[h,show(_==(60:Int))=false from beq_false_of_ne g,show(e.B5==1)=false from beq_false_of_ne he];rfl
 have eq: ∀{k:Int},(i.Op==k)=true->i.Op=k:=λh=>eq_of_beq h
 unfold Q8p
 refine v_br (λh=>v_lv λ_ _=>v_lf (no (eq h) (by decide) _ (show(0:Int)≠1 by decide))) λ_=>v_br (λh=>v_lv λ_ _=>v_lf (no (eq h) (by decide) _ (show(0:Int)≠1 by decide))) λ_=>v_br (λh=>v_cn (v_an (v_lv λ_ _=>v_lf (no (eq h) (by decide) _ (show(0:Int)≠1 by decide))))) λ_=>v_br (λh=>v_cn (v_an (v_lv λ_ _=>v_lf (no (eq h) (by decide) _ (show(0:Int)≠1 by decide))))) λ_=>v_br (λh=>v_lf ?_) λh60=> ?_
 . show(bif(1:Int)==1 then wrap .i64 i.Imm==2 else false)=_
   rw[h];rfl
 . have n60:i.Op≠60:=λe=>by rw[e]at h60;cases h60
   refine v_br (λh=>v_cn (v_lf (no (eq h) (by decide) _ (by show(2:Int)≠1;decide)))) λ_=>v_br (λh=>v_lf (no (eq h) (by decide) _ (show(3:Int)≠1 by decide))) λ_=>v_br (λh=>v_lf (no (eq h) (by decide) _ (show(5:Int)≠1 by decide))) λ_=>v_br (λh=>v_lf (no (eq h) (by decide) _ (show(4:Int)≠1 by decide))) λ_=>v_lf (no rfl n60 _ (show(0:Int)≠1 by decide))
theorem yk(c:Q05)(m:List Int)(i:Q0o):ioP (Qks c m i).2.1=(bif i.Op==60 then wrap .i64 i.Imm==2 else false):=by
 unfold Qks
 cases h:decide (i.Op>=56)
 . have h:=oN h
   rw[show(i.Op==60)=false from beq_false_of_ne (by omega)]
   cases decide (i.Op>=40)<;>cases decide (i.Op>=32)<;>cases i.Op==24<;>cases decide (i.Op<=13)<;>rfl
 . exact zaK c i
theorem Zo7{P:Nat}{m:List Int}(h:Q15 P m){c:Q05}(hc:Q2m c)(hst:c.B6.a0<=31):ioP (Q7v c m).2.1=readsC c m:=by
  rw[do_eq]
  unfold readsC
  cases hk:iand .u32 c.B6.a0 1==0
  . have hp:Qm c=false:=by
      rw[Z94 hc.a0.1 hst,show Qb4 c=true from by show(iand .u32 c.B6.a0 1 !=0)=true;rw[bne,hk];rfl]
      rfl
    have wi:=Qik h hc.pc (size:=4) (.inr rfl)
    have kn:Qfj 1=true:=rfl
    have p0:=hc.pc.1
    have tm:dB c.Pc (wrap .u32 4)=c.Pc%4:=by
      rw[show wrap .u32 4=4 from rfl,eC p0]
    have rc:Q18 c m c.Pc 4 1=bif c.Pc%4 !=0 then(0,3,m) else bif !Q28 m c.Pc 4 then(0,Q27 1,m) else(c.Pc,0,m):=by
      simp only[Q18,Q8c,Tree.m,letv,kn,hp,tm]
      rfl
    rw[rc]
    cases h4:(c.Pc%4 !=0)
    . cases hw:Q28 m c.Pc 4
      . have l2:(Q1g m c.Pc 4).2=false:=by
          simp only[Q1g,Q48,Tree.m,letv,hw];rfl
        rw[l2]
        show ioP (doR c (0,Q27 1,m) _ _).2.1=false
        unfold doR
        rw[show((0,Q27 1,m):Int×Int×List Int).2.1=Q27 1 from rfl,show(Q27 1 !=0)=true by decide]
        rfl
      . have l2:(Q1g m c.Pc 4).2=true:=by
          simp only[Q1g,Q48,Tree.m,letv,hw];rfl
        rw[l2]
        show ioP (doR c (c.Pc,0,m) (Q1g m c.Pc 4).1 (Q25 (Q1g m c.Pc 4).1)).2.1=_
        have im:=Zpn (Q1g m c.Pc 4).1
        generalize Q1g m c.Pc 4=x at*
        generalize Q25 x.1=d at*
        unfold doR
        cases d.2
        . rfl
        . rw[hk]
          have:=yk c m d.1
          rw[im]at this
          cases Q3m d.1.Op<;>exact this
    . have hw:Q28 m c.Pc 4=false:=by
        rw[wi]
        refine dN λe=> ?_
        rw[e.1]at h4;cases h4
      have l2:(Q1g m c.Pc 4).2=false:=by
        simp only[Q1g,Q48,Tree.m,letv,hw];rfl
      rw[l2];rfl
  . have us : ∀x w d,ioP (doR c x w d).2.1=false:=λx w d=>by
      unfold doR
      cases x.2.1 !=0
      . cases d.2
        . rfl
        . cases hp:Q3m d.1.Op
          . have:=yk c x.2.2 d.1
            rw[show(d.1.Op==60)=false from beq_false_of_ne λe=>by rw[e]at hp;cases hp]at this
            exact this
          . rw[hk];rfl
      . rfl
    exact us _ _ _
theorem Qwx{m:Q00}(h:okV m):Q1y m=Q0h m:=by
 have rd:Q0h m=bif Q0s m then false else Qfp m:=rfl
 have pd:Q1y m=bif !Q2g m then false else ioP (Q5b (Q0u m).B2 (Q0u m).Mem).2.2:=rfl
 rw[rd,pd,Qwn h]
 cases hs:Q0s m
 . have hr:Q2g m=true:=by rw[Qwn h,hs];rfl
   obtain⟨hm,hh,hct⟩:=Z2o hr
   obtain⟨g1,g2,g3,g4,g5⟩:=(Qn5 m).1 hm
   rcases(Qqj m.Mem h.mem).2 with c|⟨P,hP,hmem⟩
   . exact absurd c g1
   have okm:okS P m:=⟨h.cpu,hmem,h.disk,h.nic,h.bal.1,h.bal.2⟩
   obtain⟨b1,b2,b3,_⟩:=(Tree.pp (Qud okm g2)).2
   change Q6f (Q0u m).B2 at b1
   change okS P (Q0u m) at b2
   have be:=Qy h g2.st
   have b1':Q6f (Q0q m):=by have:=b1;rw[be]at this;exact this
   have b2':Q2m (Q0q m):=by have:=b2.cpu;rw[be]at this;exact this
   have ex:=Zhi hmem b2' b1'.st
   rw[be,Zji,<-Zo7 hmem b2' b1'.st]
   show ioP (Q5b (Q0q m) m.Mem).2.2=_
   rw[ex];rfl
 . rfl
theorem xaK(d:Q0g)(m:List Int)(e:Q07):(Q8l d m e).2.1=false->Q8l d m e=(d,false,m):=by
 show Tree.V (Q7d d m e) (λr=>r.2.1=false->r=(d,false,m))
 have no: ∀{p:Prop},true=false->p:=λh=>by cases h
 unfold Q7d
 repeat'(first
   |exact v_lf λ_=>rfl
   |exact v_lf no
   |exact v_an (v_lv λ_ _=>v_lf no)
   |refine v_lv λ_ _=> ?_
   |refine v_an ?_
   |refine v_br (λ_=> ?_) (λ_=> ?_))
theorem qaL(n:Q0r)(m:List Int)(s:List UInt8):(Q8k n m s).2.1=false->Q8k n m s=(n,false,m):=by
 show Tree.V (Q6w n m s) (λr=>r.2.1=false->r=(n,false,m))
 have no: ∀{p:Prop},true=false->p:=λh=>by cases h
 unfold Q6w
 repeat'(first
   |exact v_lf λ_=>rfl
   |exact v_an (v_lv λ_ _=>v_lf no)
   |refine v_lv λ_ _=> ?_
   |refine v_br (λ_=> ?_) (λ_=> ?_))
theorem zap(t:Q0j):(Q6u t).2=false->(Q6u t).1=t:=by
 show Tree.V (Qab t) (λr=>r.2=false->r.1=t)
 have no: ∀{p:Prop},true=false->p:=λh=>by cases h
 unfold Qab
 repeat'(first
   |exact v_lf λ_=>rfl
   |exact v_lf no
   |refine v_br (λ_=> ?_) (λ_=> ?_))
theorem xap(c:Q0c)(b:Int):(Qmz c b).2=false->(Qmz c b).1=c:=by
 show Tree.V (Qcv c b) (λr=>r.2=false->r.1=c)
 have no: ∀{p:Prop},true=false->p:=λh=>by cases h
 unfold Qcv
 exact v_br (λ_=>v_lf λ_=>rfl) (λ_=>v_cn (v_lf no))
theorem qZ(m:Q00)(e:Q07):(Q0n m e).1=false->(Q0n m e).2=m:=by
 show Tree.V (Q4i m e) (λr=>r.1=false->r.2=m)
 have no: ∀{p:Prop},true=false->p:=λh=>by cases h
 unfold Q4i
 repeat'(first
   |exact v_lf λ_=>rfl
   |exact v_lf no
   |exact v_lv λx hx=>v_lf λh=>by rw[hx]at h⊢;rw[zap _ h]
   |exact v_an (v_lv λx hx=>v_lf λh=>by rw[hx]at h⊢;rw[xaK _ _ _ h])
   |exact v_an (v_lv λx hx=>v_lf λh=>by rw[hx]at h⊢;rw[qaL _ _ _ h])
   |exact v_an (v_lv λx hx=>v_lf λh=>by rw[hx]at h⊢;rw[xap _ _ h])
   |refine v_br (λ_=> ?_) (λ_=> ?_))
theorem vk{m:Q00}(h:U m.A4.C3):Q3r m:=by
 show(Q3e m).p
 unfold Tree.p Q3e
 refine w_br (λ_=>w_an ?_ (w_lv λ_ _=>trivial)) (λ_=>trivial)
 show(Q35 m).p
 unfold Tree.p Q35
 exact Q0e (Zn0 h) λ_ _=>trivial
theorem Zna{P:Nat}{m:Q00}(h:okS P m):(Q2d m).w (λ_=>True):=by
 unfold Q2d
 exact Q0e (Zlr h.given) λ_ _=>w_br (λ_=>trivial) (λ_=>Q0e (yU h) λx1 h1=>Q0e (vw h1.cpu h1.mem) λx2 _=>w_br (λ_=>trivial) (λ_=>trivial))
theorem Zau{e:Q07}(h:U e.N):Qbw e=Q2 e:=by
 obtain⟨h0,h1⟩:=h
 have d: ∀b:Bool,(bif e.N==1 then(bif decide (e.C8=[]) then true else b) else(bif e.N==0 then decide (e.C8=[]) else false))=(bif decide (e.N<=1) then(bif decide (e.C8=[]) then true else(bif e.N==1 then b else false)) else false):=λb=>by
   rcases(by omega:e.N=0\/e.N=1\/2<=e.N) with k|k|k
   . rw[k];cases decide (e.C8=[])<;>rfl
   . rw[k];cases decide (e.C8=[])<;>rfl
   . rw[show(e.N==1)=false from beq_false_of_ne (by omega),show(e.N==0)=false from beq_false_of_ne (by omega),dN (show¬e.N<=1 by omega)];rfl
 simp only[Qbw,Qhm,Q2,Qo4,Tree.m,d]
theorem Qvt(r:Q01):Qaq r=r:=rfl
theorem Qqt{r:Q01}(hm:r.A0.Mem.length<=1024)(hl:r.B3.length<=1000000)(hq:r.A2.length<=1000000):Q4 r:=by
 show(Q61 r).p
 unfold Tree.p Q61
 exact w_an (by show r.A0.Mem.length<=35184372088832;omega) (w_lv λ_ _=>w_an (by show r.B3.length<=3518437208883;omega) (w_lv λ_ _=>w_an (by show r.A2.length<=3518437208883;omega) (w_lv λ_ _=>trivial)))
section
variable {P:Nat} {m:Q00} (h:good P m)
include h
theorem good.len:m.Mem.length<=1024:=by have:=h.ok.mem.len;have:=h.ok.mem.p2;omega
theorem good.app(e:Q07):Q5f m e=((Q0n m e).2,(Q0n m e).1):=by
 rw[Z8z h.v]
 simp only[Qn,Ql5,Tree.m,letv,Z9q,h.rmay];rfl
theorem good.step(hs:Q0s m=false)(clock:Int):Q1z m clock=((Q0k m clock).2,(Q0k m clock).1):=by
 rw[Zhp h.v,Ze2,hs];rfl
theorem good.idle:Q38 m=Qed m:=Zjh h.v
end
theorem zaL(e:Q07){r:Q01}(hl:r.B3.length<=1000000):(Q70 e r).w (λx=>x={A0:=r.A0,A3:=r.A3,B3:=r.B3++[{At:=r.A0.A1,C0:=e}],A2:=r.A2}):=by
 unfold Q70
 exact w_cn (dY (by omega)) rfl
theorem qaq(e:Q07){r:Q01}(hl:r.B3.length<=1000000):(Q67 e r).w (λx=>x={A0:=r.A0,A3:=r.A3,B3:=r.B3++[{At:=r.A0.A1,C0:=e}],A2:=r.A2}):=by
 unfold Q67
 exact w_cn (dY (by omega)) rfl
theorem Zmy{P:Nat}{r:Q01}(h:good P r.A0){e:Q07}(he:U e.N)(hl:r.B3.length<=1000000):(Q6z e r).w (λx=>x=Q1k r e):=by
 unfold Q6z
 refine w_an (Qyr h.v h.len he) (w_lv λx0 e0=> ?_)
 rw[h.app]at e0
 refine w_br (λhb=>Q0e (qaq e (r:=⟨x0.1,r.A3,r.B3,r.A2⟩) hl) λx1 e1=> ?_) (λhb=> ?_)
 . have hb:(Q0n r.A0 e).1=true:=by rw[e0]at hb;exact hb
   show x1=_
   unfold Q1k
   rw[e1,hb,e0];rfl
 . have hb:(Q0n r.A0 e).1=false:=by rw[e0]at hb;exact hb
   show r=_
   unfold Q1k
   rw[hb,qZ _ _ hb];rfl
theorem Qm1(r:Q01)(e:Q07):(Q1k r e).B3.length<=r.B3.length+1:=by
 unfold Q1k
 cases(Q0n r.A0 e).1
 . exact fF _
 . show(r.B3++[_]).length<=_
   rw[lA,cW];omega
theorem Zgu(r:Q01):(Q24 r).B3.length<=r.B3.length+1:=by
 unfold Q24
 cases Q74 r.A0.B0 r.A3
 . exact fF _
 . exact Qm1 _ _
theorem ql(r:Q01):(Zd9 r).B3.length<=r.B3.length+1:=by
 unfold Zd9
 cases Q0h r.A0
 . exact fF _
 . show(r.B3++[_]).length<=_
   rw[lA,cW];omega
theorem Z9m{P:Nat}{m:Q00}(h:good P m):Q0s m=bif m.A9 then true else bif Q38 m then true else m.A1==1152921504606846976:=by
 have hc:=((Qn5 m).1 h.may).2.2.1
 have e:decide (m.A1>=1152921504606846976)=(m.A1==1152921504606846976):=by
   by_cases g:m.A1=1152921504606846976
   . rw[g];rfl
   . rw[show(m.A1==1152921504606846976)=false from beq_false_of_ne g,dN (by omega)]
 rw[h.idle,<-e]
 simp only[Q0s,Q8b,Tree.m,letv,h.rmay];rfl
theorem Qug{r:Q01}(hr:Q0h r.A0=true):Qia r={A0:=(Q0k r.A0 r.A3).2,A3:=wrap .u32 (r.A3+1),B3:=r.B3++[{At:=r.A0.A1,C0:={B5:=1,N:=r.A3,C8:=[]}}],A2:=r.A2}:=by
 unfold Qia Zd9;rw[hr];rfl
theorem Zdd{r:Q01}(hr:Q0h r.A0=false):Qia r={A0:=(Q0k r.A0 r.A3).2,A3:=wrap .u32 (r.A3+1),B3:=r.B3,A2:=r.A2}:=by
 unfold Qia Zd9;rw[hr];rfl
theorem Z6b(r:Q01):(Qia r).B3.length<=r.B3.length+1:=ql r
theorem Zr1{n:Nat}{r:Q01}{o:List Q03}(hs:Q0s (Q24 r).A0=true):recF (n+1) r o=(Q24 r,o):=by
 conv=>lhs;unfold recF
 rw[hs];rfl
theorem zaq{n:Nat}{r:Q01}{o:List Q03}(hs:Q0s (Q24 r).A0=false):recF (n+1) r o=recF n (Qia (Q24 r)) (o++(Q0k (Q24 r).A0 (Q24 r).A3).1):=by
 conv=>lhs;unfold recF
 rw[hs];rfl
theorem qL{r:Q01}(h:Q5e r.A0=true)(steps clock:Int):advF r steps clock=recF (Q0i steps).toNat (noQ (r.A2.foldl Q1k {A0:=r.A0,A3:=if clock>r.A3 then clock else r.A3,B3:=r.B3,A2:=r.A2})) []:=by
 unfold advF;rw[h];rfl
theorem xaL{P:Nat}{k:Int}{r:Q01}(h:Q5z P k r)(steps:Int){clock:Int}(hc:U clock)(hl:r.B3.length<=900000)(hq:r.A2.length<=1000)(hu: ∀q∈r.A2,U q.N):
    (Q6p r steps clock).w (λx=>x=advF r steps clock):=by
  obtain⟨lim0,lim1⟩:=Qkb steps
  have lim:(if 4000<(if 0>steps then 0 else steps) then 4000 else(if 0>steps then 0 else steps))=Q0i steps:=rfl
  have hA:=qL h.m.rmay steps clock
  unfold Q6p
  refine w_an (Qqt h.m.len (by omega) (by omega)) (w_lv λx0 e0=> ?_)
  rw[Qvt]at e0
  subst e0
  refine w_an (Tree.pp (Zar h.m.ok.target.2)).1 (w_lv λx1 e1=>w_br (λhb=>by rw[e1,h.m.may]at hb;cases hb) λhb=> ?_)
  have hcl:U (if clock>x0.A3 then clock else x0.A3):=by split<;>first|exact hc|exact h.clock
  generalize hr0:({A0:=x0.A0,A3:=if clock>x0.A3 then clock else x0.A3,B3:=x0.B3,A2:=x0.A2}:Q01)=r0 at*
  have hQ:r0.A2=x0.A2:=by rw[<-hr0]
  have hL:r0.B3=x0.B3:=by rw[<-hr0]
  have g0:Q5z P k r0:=by rw[<-hr0];exact⟨h.m,hcl,h.cnt⟩
  refine w_lp (inv:=λz:Int×Q01=>0<=z.1/\z.1<=x0.A2.length/\z.2.A2=x0.A2/\Q5z P k z.2/\(z.2.B3.length:Int)<=x0.B3.length+z.1/\(x0.A2.drop z.1.toNat).foldl Q1k z.2=x0.A2.foldl Q1k r0) (μ:=Qi0 x0 steps clock) ⟨cS 0,by show(0:Int)<=_;omega,hQ,g0,by rw[hL];omega,rfl⟩ (cK _) λz ⟨z0,z1,z2,z3,z4,z5⟩=> ?_
  refine w_br (λhb=> ?_) (λhb=> ?_)
  . have hb:=oY hb
    have hlt:z.1.toNat<x0.A2.length:=by omega
    have ed:x0.A2.getD z.1.toNat (RK.dflt RK.apiEvent)=x0.A2[z.1.toNat]:=by rw[cL,cG hlt];rfl
    have hm:x0.A2.getD z.1.toNat (RK.dflt RK.apiEvent)∈x0.A2:=by rw[ed];exact cM hlt
    refine w_cn (by simp [bT];omega) (Q0e (Zmy z3.m (hu _ hm) (by omega)) λx2 e2=>w_nx ?_)
    have ew:i64.wrap (z.1+1)=z.1+1:=by rw[wrap_i64];omega
    have q2:x2.A2=x0.A2:=by rw[e2,Qkx,z2]
    have l2:=Qm1 z.2 (x0.A2.getD z.1.toNat (RK.dflt RK.apiEvent))
    rw[<-e2]at l2
    have g2:=(Qfq z3 (hu _ hm)).1
    rw[<-e2]at g2
    show(0<=i64.wrap (z.1+1)/\i64.wrap (z.1+1)<=x0.A2.length/\x2.A2=x0.A2/\Q5z P k x2/\(x2.B3.length:Int)<=x0.B3.length+i64.wrap (z.1+1)/\(x0.A2.drop (i64.wrap (z.1+1)).toNat).foldl Q1k x2=_)/\(x2.A2.length-i64.wrap (z.1+1)).toNat<(z.2.A2.length-z.1).toNat
    rw[ew,q2,z2]
    refine⟨⟨by omega,by omega,rfl,g2,by omega,?_⟩,by omega⟩
    rw[<-z5,aB hlt,aD,show(z.1+1).toNat=z.1.toNat+1 by omega,e2,ed]
  . have hb:=oN hb
    obtain⟨zi,zr⟩:=z
    have hb: ¬zi<x0.A2.length:=hb
    have ze:zr=x0.A2.foldl Q1k r0:=by
      rw[<-z5,aA (by show x0.A2.length<=zi.toNat;omega)];rfl
    rw[<-ze]at hA
    have z3:Q5z P k zr:=z3
    have z4:(zr.B3.length:Int)<=x0.B3.length+zi:=z4
    have z1:zi<=x0.A2.length:=z1
    refine w_lp (inv:=λy:Int×Q01×List Q03=>0<=y.1/\y.1<=Q0i steps/\Q5z P (k+y.1) y.2.1/\(y.2.1.B3.length:Int)<=zr.B3.length+2*y.1/\(y.2.2.length:Int)<=y.1/\recF (Q0i steps-y.1).toNat y.2.1 y.2.2=advF x0 steps clock) (μ:=Q7q x0 steps clock (zi,zr)) ⟨cS 0,by show(0:Int)<=_;omega,⟨z3.m,z3.clock,by have:=z3.cnt;show zr.A0.A1<=k+0;omega⟩,by show(zr.B3.length:Int)<=_+2*0;omega,cS 0,by rw[hA];show recF (Q0i steps-0).toNat _ _=_;rw[fD];rfl⟩ (cK _) λy ⟨y0,y1,y2,y3,y4,y5⟩=> ?_
    obtain⟨yi,yr,yo⟩:=y
    have y0:0<=yi:=y0
    have y1:yi<=Q0i steps:=y1
    have y2:Q5z P (k+yi) yr:=y2
    have y3:(yr.B3.length:Int)<=zr.B3.length+2*yi:=y3
    have y4:(yo.length:Int)<=yi:=y4
    change recF (Q0i steps-yi).toNat yr yo=_ at y5
    refine w_br (λhb=> ?_) (λhb=> ?_)
    . have hb:yi<Q0i steps:=oY hb
      have ew:i64.wrap (yi+1)=yi+1:=by rw[wrap_i64];omega
      have en:(Q0i steps-yi).toNat=(Q0i steps-(yi+1)).toNat+1:=by omega
      rw[en]at y5
      obtain⟨gf,gc⟩:=Qim y2
      have lf:=Zgu yr
      have mu: ∀q,Q7q x0 steps clock (zi,zr) (wrap .i64 (yi+1),q)<Q7q x0 steps clock (zi,zr) (yi,yr,yo):=λq=>by
        show(4000-wrap .i64 (yi+1)).toNat<(4000-yi).toNat
        rw[ew];omega
      have nxt: ∀(x:Q01) (o:List Q03),Q0s (Q24 yr).A0=false->x=Qia (Q24 yr)->o=yo++(Q0k (Q24 yr).A0 (Q24 yr).A3).1->(0<=wrap .i64 (yi+1)/\wrap .i64 (yi+1)<=Q0i steps/\Q5z P (k+wrap .i64 (yi+1)) x/\(x.B3.length:Int)<=zr.B3.length+2*wrap .i64 (yi+1)/\(o.length:Int)<=wrap .i64 (yi+1)/\recF (Q0i steps-wrap .i64 (yi+1)).toNat x o=advF x0 steps clock):=λx o hs hx ho=>by
        have t:=Qis gf hs
        have lt:=Z6b (Q24 yr)
        obtain⟨_,_,a3⟩:=Q6v gf.m hs gf.clock
        rw[ew,hx,ho]
        refine⟨by omega,by omega,⟨t.m,t.clock,by have:=t.cnt;omega⟩,by omega,by rw[lA];omega,?_⟩
        rw[<-y5,zaq hs]
      have stk: ∀(x:Q01),Q0s (Q24 yr).A0=true->x=Q24 yr->(x,yo)=advF x0 steps clock:=λx hs hx=>by
        rw[<-y5,Zr1 hs,hx]
      have sg:=Z9m gf.m
      have cn: ∀(o:List Q03),Q0s (Q24 yr).A0=false->o=(Q0k (Q24 yr).A0 (Q24 yr).A3).1->decide (40*(yo.length+o.length)<=140737488355328)=true:=λo hs ho=>dY (by
        obtain⟨_,_,a3⟩:=Q6v gf.m hs gf.clock
        rw[ho];omega)
      have sp:=(Zf7 gf.m.v gf.m.len (clock:=(Q24 yr).A3) gf.clock).1
      have ms:=λhs=>gf.m.step hs (Q24 yr).A3
      have rs:=Qwx gf.m.v
      have rp:Q1r (Q24 yr).A0:=(Tree.pp (Zna gf.m.s)).1
      have ip:Q3r (Q24 yr).A0:=vk gf.m.ok.target.2
      have lw:=λe=>zaL e (r:=Q24 yr) (by omega)
      have tr:=Qug (r:=Q24 yr)
      have tn:=Zdd (r:=Q24 yr)
      have fin: ∀f:Q01,f=Q24 yr->Q5z P (k+yi) yr->f=f:=λ_ _ _=>rfl
      refine w_lv λx3 e3=>w_br (λhd=>Q0e (Zmy y2.m U_0 (by omega)) λx4 e4=> ?_) (λhd=> ?_)
      . have e5:x4=Q24 yr:=by
          have e3:x3=Q74 yr.A0.B0 yr.A3:=e3
          rw[e4];unfold Q24;rw[<-e3,hd];rfl
        rw[<-e5]at nxt stk sg cn sp ms rs rp ip lw tr tn
        refine w_br (λhh=>stk _ (by rw[sg,hh];rfl) rfl) λhh=>w_an ip (w_lv λx5 i5=>w_br (λhi=>stk _ (by rw[sg,hh,<-i5,hi];rfl) rfl) λhi=>w_br (λhct=>stk _ (by rw[sg,hh,<-i5,hi,hct];rfl) rfl) λhct=> ?_)
        have hs:Q0s x4.A0=false:=by rw[sg,hh,<-i5,hi,hct];rfl
        refine w_an rp (w_lv λx6 e6=>w_br (λhr=>Q0e (lw _) λx7 e7=> ?_) (λhr=>w_an sp (w_lv λx9 e9=>w_cn (cn _ hs (by rw[e9,ms hs])) (w_nx ⟨nxt _ _ hs (by rw[e9,ms hs,tn (by rw[<-rs,<-e6,hr])]) (by rw[e9,ms hs]),mu _⟩))))
        subst e7
        refine w_an sp (w_lv λx8 e8=>w_cn (cn _ hs (by rw[e8];exact congrArg fG (ms hs))) (w_nx ⟨nxt _ _ hs ?_ ?_,mu _⟩))
        . rw[tr (by rw[<-rs,<-e6,hr]),e8]
          exact congrArg (λq:Q00×List Q03=>({A0:=q.1,A3:=wrap .u32 (x4.A3+1),B3:=x4.B3++[{At:=x4.A0.A1,C0:={B5:=1,N:=x4.A3,C8:=[]}}],A2:=x4.A2}:Q01)) (ms hs)
        . rw[e8];exact congrArg (λq:Q00×List Q03=>yo++q.2) (ms hs)
      . have e5:yr=Q24 yr:=by
          have e3:x3=Q74 yr.A0.B0 yr.A3:=e3
          unfold Q24;rw[<-e3,hd];rfl
        rw[<-e5]at nxt stk sg cn sp ms rs rp ip lw tr tn
        refine w_br (λhh=>stk _ (by rw[sg,hh];rfl) rfl) λhh=>w_an ip (w_lv λx5 i5=>w_br (λhi=>stk _ (by rw[sg,hh,<-i5,hi];rfl) rfl) λhi=>w_br (λhct=>stk _ (by rw[sg,hh,<-i5,hi,hct];rfl) rfl) λhct=> ?_)
        have hs:Q0s yr.A0=false:=by rw[sg,hh,<-i5,hi,hct];rfl
        refine w_an rp (w_lv λx6 e6=>w_br (λhr=>Q0e (lw _) λx7 e7=> ?_) (λhr=>w_an sp (w_lv λx9 e9=>w_cn (cn _ hs (by rw[e9,ms hs])) (w_nx ⟨nxt _ _ hs (by rw[e9,ms hs,tn (by rw[<-rs,<-e6,hr])]) (by rw[e9,ms hs]),mu _⟩))))
        subst e7
        refine w_an sp (w_lv λx8 e8=>w_cn (cn _ hs (by rw[e8];exact congrArg fG (ms hs))) (w_nx ⟨nxt _ _ hs ?_ ?_,mu _⟩))
        . rw[tr (by rw[<-rs,<-e6,hr]),e8]
          exact congrArg (λq:Q00×List Q03=>({A0:=q.1,A3:=wrap .u32 (yr.A3+1),B3:=yr.B3++[{At:=yr.A0.A1,C0:={B5:=1,N:=yr.A3,C8:=[]}}],A2:=yr.A2}:Q01)) (ms hs)
        . rw[e8];exact congrArg (λq:Q00×List Q03=>yo++q.2) (ms hs)
    . have hb: ¬yi<Q0i steps:=oN hb
      show(yr,yo)=_
      rw[<-y5,show(Q0i steps-yi).toNat=0 by omega];rfl
def Qse:Q07:={B5:=2,N:=0,C8:=[]}
theorem Zjp(m:Q00):Q0n m Qse=bif m.A9 then(false,m) else((Q6u m.B0).2,{B2:=m.B2,Mem:=m.Mem,A6:=m.A6,B0:=(Q6u m.B0).1,B1:=m.B1,C5:=m.C5,A4:=m.A4,A1:=m.A1,A7:=m.A7,A9:=m.A9}):=rfl
theorem xl(t:Q0j):(Q6u t).2=true->(Q6u t).1.D2=false:=by
 show Tree.V (Qab t) (λr=>r.2=true->r.1.D2=false)
 unfold Qab
 exact v_br (λ_=>v_lf λh=>by cases h) (λ_=>v_lf λ_=>rfl)
theorem zl{t:Q0j}{c:Int}(h:t.D2=false):Q74 t c=false:=by
 simp only[Q74,Qx7,Tree.m,h];rfl
theorem Z5m{r:Q01}{e:Q07}(h:(Q0n r.A0 e).1=false):Q1k r e=r:=by
 unfold Q1k;rw[h,qZ _ _ h];rfl
theorem Qp5(r:Q01):Q24 r=bif Q74 r.A0.B0 r.A3 then Q1k r Qse else r:=rfl
theorem yl{r:Q01}(h:Q74 r.A0.B0 r.A3=false):Q24 r=r:=by rw[Qp5,h];rfl
theorem Z57(r:Q01)(o:List Q03):recF 0 r o=(r,o):=rfl
theorem Qtw{n:Nat}{r:Q01}{o:List Q03}(hs:Q0s (Q24 r).A0=true):recF (n+1) r o=(Q24 r,o):=by
 conv=>lhs;unfold recF
 rw[hs];rfl
theorem Qt9{n:Nat}{r:Q01}{o:List Q03}(hs:Q0s (Q24 r).A0=false):recF (n+1) r o=recF n (Qia (Q24 r)) (o++(Q0k (Q24 r).A0 (Q24 r).A3).1):=by
 conv=>lhs;unfold recF
 rw[hs];rfl
theorem xL(n:Nat): ∀(r:Q01) (o:List Q03),recF n r o=((recF n r []).1,o++(recF n r []).2):=by
 induction n with
 |zero=>intro r o;rw[Z57,Z57,cJ]
 | succ n ih=>
   intro r o
   cases hs:Q0s (Q24 r).A0
   . rw[Qt9 hs,Qt9 hs,ih,ih (Qia (Q24 r)) ([]++_),fH,fE]
   . rw[Qtw hs,Qtw hs,cJ]
theorem Qlx{r:Q01}(h:Q5e r.A0=true)(steps clock:Int):advF r steps clock=recF (Q0i steps).toNat (noQ (r.A2.foldl Q1k {A0:=r.A0,A3:=if clock>r.A3 then clock else r.A3,B3:=r.B3,A2:=r.A2})) []:=by
 unfold advF;rw[h];rfl
theorem Qxf{s:Int}(h0:0<=s)(h1:s<=4000):Q0i s=s:=by
 have:Q0i s=(if 4000<(if 0>s then 0 else s) then 4000 else(if 0>s then 0 else s)):=rfl
 rw[this,if_neg (show¬0>s by omega),if_neg (show¬4000<s by omega)]
theorem Zg6(a:List Q0f)(ha:a.length<=1000000000000):(Q77 a a).w (λb=>b=true):=by
 unfold Q77
 refine w_br (λh=>by simp at h) (λ_=> ?_)
 refine w_lp (inv:=λv:Int=>0<=v/\v<=a.length) (μ:=Qf2 a a) ⟨by omega,by omega⟩ (cK _) λv ⟨h1,h2⟩=> ?_
 refine w_br (λhb=> ?_) (λ_=>rfl)
 have hb:=oY hb
 have e:i64.wrap (v+1)=v+1:=by rw[wrap_i64];omega
 refine w_cn (by simp [bT];omega) (w_cn (by simp [bT];omega) (w_br (λh=>by simp [eqs,eq1]at h) (λ_=>w_nx ?_)))
 show(_/\_)/\(_:Nat)<_
 exact⟨⟨by rw[e];omega,by rw[e];omega⟩,by show(a.length-i64.wrap (v+1)).toNat<(a.length-v).toNat;rw[e];omega⟩
theorem zL(a:Q01)(hm:a.A0.Mem.length<=1000000000000)(hl:a.B3.length<=1000000000000)(hq:a.A2.length<=1000000000000):(Q5a a a).w (λb=>b=true):=by
 unfold Q5a
 refine Q0e (zao _ hm) λx0 h0=>w_br (λh=>by rw[h0]at h;cases h) λ_=>w_br (λh=>by simp at h) λ_=>Q0e (Zg6 _ hl) λx1 h1=>w_br (λh=>by rw[h1]at h;cases h) λ_=>w_br (λh=>by simp at h) λ_=> ?_
 refine w_lp (inv:=λv:Int=>0<=v/\v<=a.A2.length) (μ:=Qdm a a) ⟨by omega,by omega⟩ (cK _) λv ⟨h1,h2⟩=> ?_
 refine w_br (λhb=> ?_) (λ_=>rfl)
 have hb:=oY hb
 have e:i64.wrap (v+1)=v+1:=by rw[wrap_i64];omega
 refine w_cn (by simp [bT];omega) (w_cn (by simp [bT];omega) (w_br (λh=>by simp [eqs,eq1]at h) (λ_=>w_nx ?_)))
 show(_/\_)/\(_:Nat)<_
 exact⟨⟨by rw[e];omega,by rw[e];omega⟩,by show(a.A2.length-i64.wrap (v+1)).toNat<(a.A2.length-v).toNat;rw[e];omega⟩
structure Qp0(P:Nat)(k:Int)(r:Q01):Prop where
 g:Q5z P k r
 q:okQ r.A2
 l:(r.B3.length:Int)<=3*k
theorem yL(n:Nat): ∀(r:Q01) (o:List Q03),(recF n r o).1.B3.length<=r.B3.length+2*n:=by
 induction n with
 |zero=>intro r o;exact aO _
 | succ n ih=>
   intro r o
   have f:=Zgu r
   cases hs:Q0s (Q24 r).A0
   . rw[Qt9 hs]
     have:=ih (Qia (Q24 r)) (o++(Q0k (Q24 r).A0 (Q24 r).A3).1)
     have:=Z6b (Q24 r)
     omega
   . rw[Qtw hs]
     show(Q24 r).B3.length<=_
     omega
theorem vl(l:List Q07): ∀r:Q01,(l.foldl Q1k r).B3.length<=r.B3.length+l.length:=by
 induction l with
 |nil=>intro r;exact aO _
 | cons e l ih=>
   intro r
   have:=ih (Q1k r e)
   have:=Qm1 r e
   rw[aD,dF];omega
theorem vL(r:Q01)(steps clock:Int):(advF r steps clock).1.B3.length<=r.B3.length+r.A2.length+8000:=by
 obtain⟨l0,l1⟩:=Qkb steps
 cases hm:Q5e r.A0
 . unfold advF;rw[hm]
   show r.B3.length<=_
   omega
 . rw[Qlx hm]
   have a:=yL (Q0i steps).toNat (noQ (r.A2.foldl Q1k {A0:=r.A0,A3:=if clock>r.A3 then clock else r.A3,B3:=r.B3,A2:=r.A2})) []
   have b:=vl r.A2 {A0:=r.A0,A3:=if clock>r.A3 then clock else r.A3,B3:=r.B3,A2:=r.A2}
   have b:(noQ (r.A2.foldl Q1k {A0:=r.A0,A3:=if clock>r.A3 then clock else r.A3,B3:=r.B3,A2:=r.A2})).B3.length<=r.B3.length+r.A2.length:=b
   omega
theorem qm{P:Nat}(n:Nat): ∀{k:Int} {r:Q01} (o:List Q03),Q5z P k r->(recF n r o).2.length<=o.length+n:=by
 induction n with
 |zero=>intro k r o _;exact aO _
 | succ n ih=>
   intro k r o h
   obtain⟨f,_⟩:=Qim h
   cases hs:Q0s (Q24 r).A0
   . rw[Qt9 hs]
     have:=ih (o++(Q0k (Q24 r).A0 (Q24 r).A3).1) (Qis f hs)
     obtain⟨_,_,a3⟩:=Q6v f.m hs f.clock
     rw[lA]at this
     omega
   . rw[Qtw hs]
     show o.length<=_
     omega
theorem Zlz{P:Nat}{k:Int}{r:Q01}(h:Q5z P k r)(hu: ∀q∈r.A2,U q.N){clock:Int}(hc:U clock):Q5z P k (noQ (r.A2.foldl Q1k {A0:=r.A0,A3:=if clock>r.A3 then clock else r.A3,B3:=r.B3,A2:=r.A2})):=by
 have hcl:U (if clock>r.A3 then clock else r.A3):=by split<;>first|exact hc|exact h.clock
 obtain⟨a,b⟩:=Z9g r.A2 (r:={A0:=r.A0,A3:=if clock>r.A3 then clock else r.A3,B3:=r.B3,A2:=r.A2}) ⟨h.m,hcl,h.cnt⟩ hu
 exact⟨a.m,a.clock,a.cnt⟩
theorem Qra{P:Nat}{k:Int}{r:Q01}(h:Q5z P k r)(hq:okQ r.A2){clock:Int}(hc:U clock):Q5z P k (noQ (r.A2.foldl Q1k {A0:=r.A0,A3:=if clock>r.A3 then clock else r.A3,B3:=r.B3,A2:=r.A2})):=Zlz h hq.2 hc
theorem xm{P:Nat}{k:Int}{r:Q01}(h:Q5z P k r)(hq:okQ r.A2)(steps:Int){clock:Int}(hc:U clock):(advF r steps clock).2.length<=4000:=by
 obtain⟨l0,l1⟩:=Qkb steps
 rw[Qlx h.m.rmay]
 have:=qm (Q0i steps).toNat [] (Qra h hq hc)
 have e:([]:List Q03).length=0:=rfl
 omega
theorem advP{P:Nat}{k:Int}{r:Q01}(h:Qp0 P k r)(steps:Int){clock:Int}(hc:U clock):Qp0 P (k+4000) (advF r steps clock).1:=by
 obtain⟨a,b⟩:=qk h.g h.q steps hc
 have c:=vL r steps clock
 have d:=h.q.1
 have e:=h.l
 exact⟨a,b,by omega⟩
theorem arriveP{P:Nat}{k:Int}{r:Q01}(h:Qp0 P k r){e:Q07}(he:U e.N):Qp0 P k (Q2c r e).1:=by
 obtain⟨a,b⟩:=Zlk h.g h.q he
 refine⟨a,b,?_⟩
 have:=h.l
 rw[Qa]
 cases Q2 e<;>cases e.B5==1<;>cases decide ((r.A2.length:Int)>=16)<;>exact this
theorem Qp0.more{P:Nat}{k j:Int}{r:Q01}(h:Qp0 P k r)(hj:k<=j):Qp0 P j r:=
 ⟨⟨h.g.m,h.g.clock,by have:=h.g.cnt;omega⟩,h.q,by have:=h.l;omega⟩
theorem qaM{P:Nat}{k:Int}{A:Q01×Bool}(h:Qp0 P k A.1):Qp0 P (k+4000) (A.1,([]:List Q03)).1:=h.more (by omega)
theorem mstepP{P:Nat}{k:Int}{r:Q01}(h:Qp0 P k r)(n:Int):Qp0 P (k+4000) (Q3x r n).1:=by
 cases hm:dB (Q3n n 3) 3==0
 . rw[Qut hm,Quu _ _ _ (by have:=h.q.1;omega)]
   exact advP h _ (Q0v _)
 . rw[Quf hm]
   exact qaM (arriveP h (Zkt n))
theorem zaM{α β:Type}(a:α)(b:β):(a,b).1=a:=rfl
theorem Qvc(s:Q01×List Q03)(n:Int):(Qox s n).1=(Q3x s.1 n).1:=(congrArg Prod.fst (Zgg s n)).trans (zaM _ _)
theorem newP{P:Nat}{m:Q00}(h:good P m)(hc:m.A1<=87):Qp0 P 87 {A0:=m,A3:=0,B3:=[],A2:=[]}:=
 ⟨⟨h,U_0,hc⟩,⟨aT _,λq hq=>by cases hq⟩,by show((0:Nat):Int)<=_;omega⟩
theorem qM{l acts:List Int}{x0:Bool}(hx0:x0=Qw4 l acts)(hb:(!x0)=false):l.length<=40/\acts.length<=30:=qao hx0 hb
theorem xaM{m:Q00}(h:m.Mem.length<=1024):(Qam m).w (λx=>x={A0:=m,A3:=0,B3:=[],A2:=[]}):=by
 unfold Qam
 refine w_an (Qqt (r:=⟨m,0,[],[]⟩) h (aT _) (aT _)) (w_lv λx hx=> ?_)
 show x=_
 rw[hx,Qvt]
theorem Zgr{r:Q01}(hm:r.A0.Mem.length<=1024)(hl:r.B3.length<=1000000)(hq:r.A2.length<=1000000){e:Q07}(he:U e.N):(Q9v r e).w (λx=>x=Q2c r e):=by
 have hv:=Zau he
 unfold Q9v
 refine w_an (Qqt hm hl hq) (w_lv λx0 h0=>w_lv λx1 h1=> ?_)
 rw[Qvt]at h0
 subst h0
 rw[h1,hv]
 refine w_br (λhb=> ?_) λhb=>w_br (λhk=> ?_) λhk=>w_br (λhl=> ?_) λhl=>w_cn (dY (by omega)) ?_
 . show(x0,false)=_;rw[Qa,hb];rfl
 . show(x0,false)=_;rw[Qa,hb,hk];rfl
 . show(x0,false)=_;rw[Qa,hb,hk,hl];rfl
 . show(_,true)=_;rw[Qa,hb,hk,hl];rfl
theorem qaN{r:Q01}(hm:r.A0.Mem.length<=1024)(hl:r.B3.length<=1000000)(hq:r.A2.length<=1000000):(Qgk r).w (λx=>x=({A0:=r.A0,A3:=r.A3,B3:=[],A2:=r.A2},r.B3,r.A0.A1)):=by
 unfold Qgk
 refine w_an (Qqt hm hl hq) (w_lv λx0 h0=> ?_)
 rw[Qvt]at h0
 subst h0
 rfl
theorem zm{P:Nat}{k:Int}{r:Q01}(h:Qp0 P k r)(hk:k<=250000)(steps:Int){clock:Int}(hc:U clock):(Q6p r steps clock).w (λx=>x=advF r steps clock/\Qp0 P (k+4000) x.1/\x.2.length<=4000):=
 Tree.mono _ (λx hx=>by rw[hx];exact⟨rfl,advP h steps hc,xm h.g h.q steps hc⟩) (xaL h.g steps hc (by have:=h.l;omega) (by have:=h.q.1;omega) h.q.2)
theorem and255i(a:Int):0<=iand .i64 a 255/\iand .i64 a 255<=255:=by
 unfold iand
 rw[wrap_i64]
 have:(dT i64.bits a&&&dT i64.bits 255).toNat<=255:=by
   show(dT 64 a&&&dT 64 255).toNat<=255
   rw[dW]
   exact bH eB (by decide)
 omega
theorem Zjt(a:Int):0<=wrap .u32 (iand .i64 a 255)/\wrap .u32 (iand .i64 a 255)<=255:=by
 have:=and255i a
 rw[wrap_u32];omega
theorem Zoq(n k:Int)(h0:0<=k)(h1:k<=1000):(Qwk n k).length=k.toNat:=by
 show Tree.V (Qfs n k) (λs=>s.length=k.toNat)
 unfold Qfs
 refine v_lp (inv:=λv:Int×List Int=>0<=v.1/\v.1<=k/\v.2.length=v.1.toNat) (μ:=Qec n k) ⟨cS 0,h0,rfl⟩ (cK _) λv ⟨a,b,c⟩=> ?_
 refine v_br (λhb=> ?_) (λhb=> ?_)
 . have hb:=oY hb
   have e:i64.wrap (v.1+1)=v.1+1:=by rw[wrap_i64];omega
   refine v_lv λx _=>v_cn (v_nx ?_)
   show(0<=i64.wrap (v.1+1)/\i64.wrap (v.1+1)<=k/\(v.2++[_]).length=(i64.wrap (v.1+1)).toNat)/\(k-i64.wrap (v.1+1)).toNat<(k-v.1).toNat
   rw[e,lA,cW]
   exact⟨⟨by omega,by omega,by omega⟩,by omega⟩
 . have hb:=oN hb
   refine v_lf ?_
   show(bytesOf v.2).length=_
   unfold bytesOf
   rw[List.length_map,c];omega
theorem xaq(n k:Int):0<=Q3n n k:=by
 show Tree.V (Qr0 n k) (λx=>0<=x)
 unfold Qr0
 refine v_lv λx hx=>v_lf ?_
 have r:0<=x.1/\x.1<18446744073709551616:=by
   rw[hx]
   show 0<=wrap .u64 _/\wrap .u64 _<_
   rw[wrap_u64];omega
 show 0<=wrap .i64 (x.1.fdiv 2)
 rw[dL _ (by decide),wrap_i64];omega
def evOK(e:Q07):Prop:=Q2 e=true/\e.B5≠1
theorem Zay:evOK Qse:=⟨rfl,by decide⟩
theorem Zi9{n:Int}(h:n<=255):Q2 {B5:=3,N:=n,C8:=[]}=true:=by
 show(bif decide (n<=255) then decide (([]:List UInt8)=[]) else false)=true
 rw[dY h];rfl
theorem Zqe{s:List UInt8}(h:s.length=128):Q2 {B5:=4,N:=1,C8:=s}=true:=by
 show(bif decide (s=[]) then true else(s.length:Int)==128)=true
 rw[h];cases decide (s=[])<;>rfl
theorem ym{s:List UInt8}(h1:1<=s.length)(h2:s.length<=128):Q2 {B5:=5,N:=0,C8:=s}=true:=by
 show(bif decide ((s.length:Int)>=1) then decide ((s.length:Int)<=128) else false)=true
 rw[dY (show(s.length:Int)>=1 by omega),dY (show(s.length:Int)<=128 by omega)];rfl
theorem Znk(n:Int):evOK (Q46 n):=by
 show Tree.V (Q9p n) evOK
 unfold Q9p
 refine v_lv λx hx=> ?_
 have x0:0<=x:=by rw[hx];exact xaq n 2
 have i2: ∀k:Int,k≠1-> ¬k=1:=λ_ h=>h
 refine v_br (λ_=>v_lf ⟨rfl,by decide⟩) λ_=>v_br (λ_=>v_lf ⟨Zi9 (Zjt _).2,by show(3:Int)≠1;decide⟩) λ_=>v_br (λ_=>v_lf ⟨Zi9 (Zjt _).2,by show(3:Int)≠1;decide⟩) λ_=>v_br (λ_=>v_lf ⟨rfl,by decide⟩) λ_=>v_br (λ_=>v_an (v_lv λy hy=>v_lf ⟨Zqe ?_,by show(4:Int)≠1;decide⟩)) λ_=>v_br (λ_=>v_an (v_lv λy hy=>v_lf ⟨?_,by show(5:Int)≠1;decide⟩)) λ_=>v_br (λ_=>v_lf ⟨rfl,by decide⟩) λ_=>v_lf ⟨rfl,by show(6:Int)≠1;decide⟩
 . rw[hy,Zoq _ _ (by decide) (by decide)];rfl
 . have s0:0<=ishr .i64 x 8:=by
     unfold ishr
     exact Int.fdiv_nonneg x0 (dM (dK (by decide)))
   have t1:=fI (ishr .i64 x 8) (b:=40) (by decide)
   have t0:=fJ 40 s0
   have e:i64.wrap (1+dB (ishr .i64 x 8) 40)=1+dB (ishr .i64 x 8) 40:=by rw[wrap_i64];omega
   rw[e]at hy
   have:=Zoq x (1+dB (ishr .i64 x 8) 40) (by omega) (by omega)
   rw[<-hy]at this
   exact ym (by omega) (by omega)
structure Qls(c0:Int)(r:Q01):Prop where
 pw:r.B3.Pairwise λa b=>a.At<=b.At/\(a.C0.B5=1->a.At<b.At/\(b.C0.B5=1->a.C0.N<=b.C0.N))
 all: ∀e∈r.B3,c0<=e.At/\e.At<=r.A0.A1/\Q2 e.C0=true/\(e.C0.B5=1->e.At<r.A0.A1/\e.C0.N<r.A3/\0<=e.C0.N)
 q: ∀e∈r.A2,evOK e
 c:c0<=r.A0.A1
theorem Qls.with{c0:Int}{r x:Q01}(h:Qls c0 r)(hl:x.B3=r.B3)(hm:x.A0.A1=r.A0.A1)(hc:r.A3<=x.A3)(hq: ∀e∈x.A2,evOK e):Qls c0 x:=
 ⟨by rw[hl];exact h.pw,by
   rw[hl,hm]
   exact λe he=>⟨(h.all e he).1,(h.all e he).2.1,(h.all e he).2.2.1,λk=>⟨((h.all e he).2.2.2 k).1,by have:=((h.all e he).2.2.2 k).2.1;omega,((h.all e he).2.2.2 k).2.2⟩⟩,hq,by rw[hm];exact h.c⟩
theorem Zf8{P:Nat}{k c0:Int}{r:Q01}(h:Qls c0 r)(g:Q5z P k r){e:Q07}(he:evOK e)(hu:U e.N):Qls c0 (Q1k r e):=by
  obtain⟨a,b⟩:=Qe8 g.m hu
  unfold Q1k
  cases(Q0n r.A0 e).1
  . exact h.with rfl b (cS _) h.q
  . show Qls c0 {A0:=(Q0n r.A0 e).2,A3:=r.A3,B3:=r.B3++[{At:=(Q0n r.A0 e).2.A1,C0:=e}],A2:=r.A2}
    rw[b]
    refine⟨List.pairwise_append.2 ⟨h.pw,fK _ _,λx hx y hy=> ?_⟩,λx hx=> ?_,h.q,by show c0<=(Q0n r.A0 e).2.A1;rw[b];exact h.c⟩
    . rw[List.mem_singleton.1 hy]
      obtain⟨p1,p2,p3,p4⟩:=h.all x hx
      exact⟨p2,λkx=>⟨(p4 kx).1,λke=>absurd ke he.2⟩⟩
    . show c0<=x.At/\x.At<=(Q0n r.A0 e).2.A1/\_/\(_->x.At<(Q0n r.A0 e).2.A1/\_)
      rw[b]
      rcases List.mem_append.1 hx with hx|hx
      . exact h.all x hx
      . rw[List.mem_singleton.1 hx]
        exact⟨h.c,cS _,he.1,λke=>absurd ke he.2⟩
theorem xM{P:Nat}{k c0:Int}{r:Q01}(h:Qls c0 r)(g:Q5z P k r):Qls c0 (Q24 r):=by
 rw[Qp5]
 cases Q74 r.A0.B0 r.A3
 . exact h
 . exact Zf8 h g Zay U_0
theorem yM{P:Nat}{k c0:Int}{r:Q01}(h:Qls c0 r)(g:Q5z P k r)(hs:Q0s r.A0=false)(hc:r.A3<4294967295):Qls c0 (Qia r)/\(Qia r).A3=r.A3+1:=by
  obtain⟨_,b,_⟩:=Q6v g.m hs g.clock
  have c0':=g.clock.1
  have ec:wrap .u32 (r.A3+1)=r.A3+1:=by rw[wrap_u32];omega
  have old: ∀x∈r.B3,c0<=x.At/\x.At<=r.A0.A1+1/\Q2 x.C0=true/\(x.C0.B5=1->x.At<r.A0.A1+1/\x.C0.N<r.A3+1/\0<=x.C0.N):=λx hx=>by
    obtain⟨p1,p2,p3,p4⟩:=h.all x hx
    exact⟨p1,by omega,p3,λkx=>⟨by have:=(p4 kx).1;omega,by have:=(p4 kx).2.1;omega,(p4 kx).2.2⟩⟩
  have hcc:=h.c
  cases hr:Q0h r.A0
  . rw[Zdd hr,ec]
    refine⟨⟨h.pw,?_,h.q,by show c0<=(Q0k r.A0 r.A3).2.A1;omega⟩,rfl⟩
    show∀x∈r.B3,c0<=x.At/\x.At<=(Q0k r.A0 r.A3).2.A1/\_/\(_->x.At<(Q0k r.A0 r.A3).2.A1/\_)
    rw[b];exact old
  . rw [Qug hr,ec]
    refine⟨⟨List.pairwise_append.2 ⟨h.pw,fK _ _,λx hx y hy=> ?_⟩,?_,h.q,by show c0<=(Q0k r.A0 r.A3).2.A1;omega⟩,rfl⟩
    . rw[List.mem_singleton.1 hy]
      obtain⟨p1,p2,p3,p4⟩:=h.all x hx
      exact⟨p2,λkx=>⟨(p4 kx).1,λ_=>dM (p4 kx).2.1⟩⟩
    . show∀x∈r.B3++[_],c0<=x.At/\x.At<=(Q0k r.A0 r.A3).2.A1/\_/\(_->x.At<(Q0k r.A0 r.A3).2.A1/\_)
      rw[b]
      intro x hx
      rcases List.mem_append.1 hx with hx|hx
      . exact old x hx
      . rw[List.mem_singleton.1 hx]
        exact⟨h.c,by show r.A0.A1<=_;omega,rfl,λ_=>⟨by show r.A0.A1<_;omega,by show r.A3<r.A3+1;omega,c0'⟩⟩
theorem Zmi(r:Q01):(Q24 r).A3=r.A3:=by
 rw[Qp5]
 cases Q74 r.A0.B0 r.A3
 . rfl
 . show(Q1k r Qse).A3=r.A3
   unfold Q1k;cases(Q0n r.A0 Qse).1<;>rfl
theorem Zi4(r:Q01)(e:Q07):(Q1k r e).A3=r.A3:=by
 unfold Q1k;cases(Q0n r.A0 e).1<;>rfl
theorem qar{P:Nat}{c0:Int}(n:Nat): ∀{k B:Int} {r:Q01} {o:List Q03},Qls c0 r->Q5z P k r->r.A3<=B->B+n<4294967295->Qls c0 (recF n r o).1/\(recF n r o).1.A3<=B+n:=by
 induction n with
 |zero=>intro k B r o h g hb _;exact⟨h,by show r.A3<=B+(0:Nat);omega⟩
 | succ n ih=>
   intro k B r o h g hb hn
   have f:=xM h g
   obtain⟨gf,_⟩:=Qim g
   have fc:=Zmi r
   cases hs:Q0s (Q24 r).A0
   . rw[Qt9 hs]
     obtain⟨t1,t2⟩:=yM f gf hs (by omega)
     have:=ih (o:=o++(Q0k (Q24 r).A0 (Q24 r).A3).1) t1 (Qis gf hs) (B:=B+1) (by omega) (by omega)
     exact⟨this.1,by have:=this.2;omega⟩
   . rw[Qtw hs]
     exact⟨f,by show(Q24 r).A3<=_;omega⟩
theorem vM{P:Nat}{k c0:Int}(l:List Q07): ∀{r:Q01},Qls c0 r->Q5z P k r->(∀e∈l,evOK e/\U e.N)->Qls c0 (l.foldl Q1k r)/\(l.foldl Q1k r).A3=r.A3/\Q5z P k (l.foldl Q1k r):=by
 induction l with
 |nil=>intro r h g _;exact⟨h,rfl,g⟩
 | cons e l ih=>
   intro r h g hu
   obtain⟨a,b⟩:=hu e (by simp)
   obtain⟨p,q,s⟩:=ih (Zf8 h g a b) (Qfq g b).1 (λq hq=>hu q (by simp [hq]))
   exact⟨p,q.trans (Zi4 r e),s⟩
theorem vm{P:Nat}{k c0 B:Int}{r:Q01}(h:Qls c0 r)(g:Q5z P k r)(hq:okQ r.A2){steps clock:Int}(hb:r.A3<=B)(hc0:0<=clock)(hc:clock<=B)(hs:0<=steps/\steps<12)(hB:B<1000000000):Qls c0 (advF r steps clock).1/\(advF r steps clock).1.A3<=B+12:=by
 rw[Qlx g.m.rmay,Qxf hs.1 (by omega)]
 have m0:r.A3<=(if clock>r.A3 then clock else r.A3)/\(if clock>r.A3 then clock else r.A3)<=B:=by split<;>omega
 generalize(if clock>r.A3 then clock else r.A3)=cl at*
 have u:U cl:=by have:=g.clock;unfold U at*;omega
 obtain⟨a,b,c⟩:=vM r.A2 (r:={A0:=r.A0,A3:=cl,B3:=r.B3,A2:=r.A2}) (h.with rfl rfl m0.1 h.q) ⟨g.m,u,g.cnt⟩ (λe he=>⟨h.q e he,hq.2 e he⟩)
 have b:(r.A2.foldl Q1k {A0:=r.A0,A3:=cl,B3:=r.B3,A2:=r.A2}).A3=cl:=b
 generalize r.A2.foldl Q1k {A0:=r.A0,A3:=cl,B3:=r.B3,A2:=r.A2}=y at*
 have:=qar steps.toNat (o:=[]) (r:=noQ y) (B:=B) (a.with rfl rfl (cS _) (λe he=>by cases he)) (k:=k) ⟨c.m,c.clock,c.cnt⟩ (by show y.A3<=B;omega) (by omega)
 exact⟨this.1,by have:=this.2;omega⟩
theorem zar{c0:Int}{r:Q01}(h:Qls c0 r){e:Q07}(he:evOK e):Qls c0 (Q2c r e).1/\(Q2c r e).1.A3=r.A3:=by
  rw[Qa]
  cases Q2 e
  . exact⟨h,rfl⟩
  . cases e.B5==1
    . cases decide ((r.A2.length:Int)>=16)
      . refine⟨h.with rfl rfl (cS _) λq hq=> ?_,rfl⟩
        have hq:q∈r.A2++[e]:=hq
        rcases List.mem_append.1 hq with hq|hq
        . exact h.q q hq
        . rw[List.mem_singleton.1 hq];exact he
      . exact⟨h,rfl⟩
    . exact⟨h,rfl⟩
structure logP(c0 k B:Int)(r:Q01):Prop where
 p:Qp0 8 k r
 l:Qls c0 r
 b:r.A3<=B
theorem qN{c0 k B:Int}{A:Q01×Bool}(p:Qp0 8 k A.1)(a:Qls c0 A.1)(b:A.1.A3<=B):logP c0 k B (A.1,([]:List Q03)).1:=⟨p,a,b⟩
theorem Qr{c0 k B:Int}{r:Q01}(h:logP c0 k B r)(h255:255<=B)(hB:B<1000000000)(n:Int):logP c0 (k+4000) (B+12) (Q3x r n).1:=by
 have p:=mstepP h.p n
 have hb:=h.b
 cases hm:dB (Q3n n 3) 3==0
 . have rr:=Qnv (n:=ishr .i64 (Q3n n 3) 4) (k:=12) (by decide) (by decide)
   have w:=Zjt (ishr .i64 (Q3n n 3) 12)
   rw[Qut hm,Quu _ _ _ (by have:=h.p.q.1;omega)]at p⊢
   obtain⟨a,b⟩:=vm h.l h.p.g h.p.q (steps:=Q4y (ishr .i64 (Q3n n 3) 4) 12) (clock:=wrap .u32 (iand .i64 (ishr .i64 (Q3n n 3) 12) 255)) hb w.1 (by omega) rr hB
   exact⟨p,a,b⟩
 . have hb':r.A3<=B+12:=by omega
   obtain⟨a,b⟩:=zar h.l (Znk n)
   rw[Quf hm]
   exact qN (A:=Q2c r (Q46 n)) ((arriveP h.p (Zkt n)).more (Int.le_add_of_nonneg_right (by decide))) a (Int.le_trans (Int.le_of_eq b) hb')
theorem qn{c0:Int}(l:List Int): ∀{k B:Int} {s:Q01×List Q03},logP c0 k B s.1->255<=B->B+12*l.length<1000000000->logP c0 (k+4000*l.length) (B+12*l.length) (l.foldl Qox s).1:=by
 induction l with
 |nil=>intro k B s h _ _;simpa using h
 | cons n l ih=>
   intro k B s h h1 h2
   have e:((n::l).length:Int)=l.length+1:=by rw[dF];omega
   rw[e]at h2⊢
   have a:=Qr h h1 (by omega) n
   rw[<-Qvc]at a
   have:=ih a (by omega) (by omega)
   rw[aD,show k+4000*((l.length:Int)+1)=k+4000+4000*l.length by omega,show B+12*((l.length:Int)+1)=B+12+12*l.length by omega]
   exact this
theorem xN{m:Q00}(h:good 8 m)(hc:m.A1<=87):logP m.A1 87 255 {A0:=m,A3:=0,B3:=[],A2:=[]}:=
 ⟨newP h hc,⟨List.Pairwise.nil,(λe he=>by cases he),(λe he=>by cases he),cS _⟩,by show(0:Int)<=255;decide⟩
inductive Q9n:Q00->List Q0f->List Q03->Q00->Prop
 |nil {m:Q00}:Q9n m [] [] m
 |ev {m n:Q00} {e:Q07} {L:List Q0f} {o:List Q03}:(Q0n m e).1=true->e.B5≠1->U e.N->Q9n (Q0n m e).2 L o n->Q9n m ({At:=m.A1,C0:=e}::L) o n
 |rd {m n:Q00} {c:Int} {L:List Q0f} {o:List Q03}:Q0s m=false->Q0h m=true->U c->Q9n (Q0k m c).2 L o n->Q9n m ({At:=m.A1,C0:={B5:=1,N:=c,C8:=[]}}::L) ((Q0k m c).1++o) n
 |st {m n:Q00} {c:Int} {L:List Q0f} {o:List Q03}:Q0s m=false->Q0h m=false->U c->Q9n (Q0k m c).2 L o n->Q9n m L ((Q0k m c).1++o) n
theorem Q9n.trans{a b c:Q00}{L M:List Q0f}{o p:List Q03}(h:Q9n a L o b)(g:Q9n b M p c):Q9n a (L++M) (o++p) c:=by
 induction h with
 |nil=>exact g
 |ev h1 h2 h3 _ ih=>exact .ev h1 h2 h3 (ih g)
 |rd h1 h2 h3 _ ih=>rw[fE];exact .rd h1 h2 h3 (ih g)
 |st h1 h2 h3 _ ih=>rw[fE];exact .st h1 h2 h3 (ih g)
theorem Q9n.good{P:Nat}{a b:Q00}{L:List Q0f}{o:List Q03}(h:Q9n a L o b):good P a->good P b/\a.A1<=b.A1/\ ∀e∈L,a.A1<=e.At:=by
 induction h with
 |nil=>exact λg=>⟨g,cS _,λe he=>by cases he⟩
 | ev h1 h2 h3 _ ih=>
   intro g
   obtain⟨g1,c1⟩:=Qe8 g h3
   obtain⟨p,q,r⟩:=ih g1
   rw[c1]at q r
   exact⟨p,q,λe he=>(List.mem_cons.1 he).elim (λh=>by rw[h];exact cS _) (λh=>r e h)⟩
 | rd h1 h2 h3 _ ih=>
   intro g
   obtain⟨g1,c1,_⟩:=Q6v g h1 h3
   obtain⟨p,q,r⟩:=ih g1
   rw[c1]at q r
   exact⟨p,by omega,λe he=>(List.mem_cons.1 he).elim (λh=>by rw[h];exact cS _) (λh=>by have:=r e h;omega)⟩
 | st h1 h2 h3 _ ih=>
   intro g
   obtain⟨g1,c1,_⟩:=Q6v g h1 h3
   obtain⟨p,q,r⟩:=ih g1
   rw[c1]at q r
   exact⟨p,by omega,λe he=>by have:=r e he;omega⟩
def Q7p(r x:Q01)(o:List Q03):Prop:= ∃L,x.B3=r.B3++L/\Q9n r.A0 L o x.A0
theorem Q7p.rfl{r:Q01}:Q7p r r []:=⟨[],(cJ _).symm, .nil⟩
theorem Q7p.trans{a b c:Q01}{o p:List Q03}(h:Q7p a b o)(g:Q7p b c p):Q7p a c (o++p):=by
 obtain⟨L,l1,l2⟩:=h
 obtain⟨M,m1,m2⟩:=g
 exact⟨L++M,by rw[m1,l1,fE],l2.trans m2⟩
theorem Q7p.trans0{a b c:Q01}{p:List Q03}(h:Q7p a b [])(g:Q7p b c p):Q7p a c p:=h.trans g
theorem Znn{P:Nat}{k:Int}{r:Q01}(g:Q5z P k r){e:Q07}(he:evOK e)(hu:U e.N):Q7p r (Q1k r e) []:=by
 obtain⟨_,b⟩:=Qe8 g.m hu
 cases ha:(Q0n r.A0 e).1
 . rw[Z5m ha];exact Q7p.rfl
 . unfold Q1k
   rw[ha]
   refine⟨[{At:=r.A0.A1,C0:=e}],?_, .ev ha he.2 hu .nil⟩
   show r.B3++[{At:=(Q0n r.A0 e).2.A1,C0:=e}]=_
   rw[b]
theorem xar{P:Nat}{k:Int}{r:Q01}(g:Q5z P k r):Q7p r (Q24 r) []:=by
 rw[Qp5]
 cases Q74 r.A0.B0 r.A3
 . exact Q7p.rfl
 . exact Znn g Zay U_0
theorem qas{P:Nat}{k:Int}{r:Q01}(g:Q5z P k r)(hs:Q0s r.A0=false):Q7p r (Qia r) (Q0k r.A0 r.A3).1:=by
 cases hr:Q0h r.A0
 . rw[Zdd hr]
   refine⟨[],(cJ _).symm,?_⟩
   have:=Q9n.st (L:=[]) (o:=[]) hs hr g.clock .nil
   rw[cJ]at this;exact this
 . rw[Qug hr]
   refine⟨[{At:=r.A0.A1,C0:={B5:=1,N:=r.A3,C8:=[]}}],_root_.rfl,?_⟩
   have:=Q9n.rd (L:=[]) (o:=[]) hs hr g.clock .nil
   rw[cJ]at this;exact this
theorem zaN{P:Nat}(n:Nat): ∀{k:Int} {r:Q01},Q5z P k r->Q7p r (recF n r []).1 (recF n r []).2:=by
 induction n with
 |zero=>intro k r _;exact Q7p.rfl
 | succ n ih=>
   intro k r g
   obtain⟨gf,_⟩:=Qim g
   have f:=xar g
   cases hs:Q0s (Q24 r).A0
   . rw[Qt9 hs,xL,fH]
     exact f.trans0 ((qas gf hs).trans (ih (Qis gf hs)))
   . rw[Qtw hs];exact f
theorem zas{P:Nat}{k:Int}(l:List Q07): ∀{r:Q01},Q5z P k r->(∀e∈l,evOK e/\U e.N)->Q7p r (l.foldl Q1k r) []:=by
 induction l with
 |nil=>intro r _ _;exact Q7p.rfl
 | cons e l ih=>
   intro r g hu
   obtain⟨a,b⟩:=hu e (by simp)
   exact(Znn g a b).trans0 (ih (Qfq g b).1 (λq hq=>hu q (by simp [hq])))
theorem xZ{P:Nat}{k:Int}{r:Q01}(g:Q5z P k r)(hq:okQ r.A2)(he: ∀e∈r.A2,evOK e)(steps:Int){clock:Int}(hc:U clock):Q7p r (advF r steps clock).1 (advF r steps clock).2:=by
 rw[Qlx g.m.rmay]
 have s:=Qra g hq hc
 have u:U (if clock>r.A3 then clock else r.A3):=by split<;>first|exact hc|exact g.clock
 have f:=zas r.A2 (r:={A0:=r.A0,A3:=if clock>r.A3 then clock else r.A3,B3:=r.B3,A2:=r.A2}) (k:=k) ⟨g.m,u,g.cnt⟩ (λe h=>⟨he e h,hq.2 e h⟩)
 generalize r.A2.foldl Q1k {A0:=r.A0,A3:=if clock>r.A3 then clock else r.A3,B3:=r.B3,A2:=r.A2}=y at*
 have f:Q7p r (noQ y) []:=f
 exact f.trans0 (zaN _ s)
theorem xaN(r:Q01)(e:Q07):Q7p r (Q2c r e).1 []:=by
 rw[Qa]
 cases Q2 e<;>cases e.B5==1<;>cases decide ((r.A2.length:Int)>=16)<;>exact Q7p.rfl
theorem ev_on{r:Q01}{A:Q01×Bool}(h:Q7p r A.1 []):Q7p r (A.1,([]:List Q03)).1 (A.1,([]:List Q03)).2:=h
theorem zN{c0 k B:Int}{r:Q01}(h:logP c0 k B r)(n:Int):Q7p r (Q3x r n).1 (Q3x r n).2:=by
 cases hm:dB (Q3n n 3) 3==0
 . rw[Qut hm,Quu _ _ _ (by have:=h.p.q.1;omega)]
   exact xZ h.p.g h.p.q h.l.q _ (Q0v _)
 . rw[Quf hm]
   exact ev_on (A:=Q2c r (Q46 n)) (xaN _ _)
theorem xas{c0:Int}(l:List Int): ∀{k B:Int} {s:Q01×List Q03},logP c0 k B s.1->255<=B->B+12*l.length<1000000000-> ∃o,(l.foldl Qox s).2=s.2++o/\Q7p s.1 (l.foldl Qox s).1 o:=by
 induction l with
 |nil=>intro k B s _ _ _;exact⟨[],(cJ _).symm,Q7p.rfl⟩
 | cons n l ih=>
   intro k B s h h1 h2
   rw[dF]at h2
   have a:=Qr h h1 (by omega) n
   have b:=zN h n
   rw[<-Qvc]at a b
   obtain⟨o,o1,o2⟩:=ih a (by omega) (by omega)
   refine⟨(Q3x s.1 n).2++o,?_,b.trans o2⟩
   rw[aD,o1,Zgg,fE]
def arm(r:Q01):Nat:=if r.A0.B0.D2 then 1 else 0
theorem zZ(r:Q01):arm r<=1:=by unfold arm;split<;>omega
theorem Zkq(m:Q00)(e:Q07):(Q0n m e).2.B0=m.B0\/(Q0n m e).2.B0=(Q6u m.B0).1:=by
 show Tree.V (Q4i m e) (λx=>x.2.B0=m.B0\/x.2.B0=(Q6u m.B0).1)
 unfold Q4i
 repeat'(first
   |exact v_lf (.inl rfl)
   |exact v_lv λx hx=>v_lf (.inr (by rw[hx]))
   |exact v_lv λx hx=>v_lf (.inl rfl)
   |exact v_an (v_lv λx hx=>v_lf (.inl rfl))
   |refine v_br (λ_=> ?_) (λ_=> ?_))
theorem yN(t:Q0j):(Q6u t).1.D2=true->t.D2=true:=by
 show Tree.V (Qab t) (λr=>r.1.D2=true->t.D2=true)
 unfold Qab
 exact v_br (λ_=>v_lf λh=>h) (λ_=>v_lf λh=>by cases h)
theorem xn(r:Q01)(e:Q07):(Q1k r e).B3.length+arm (Q1k r e)<=r.B3.length+arm r+1:=by
  have l:=Qm1 r e
  cases ha:(Q0n r.A0 e).1
  . rw[Z5m ha];omega
  . have h:arm (Q1k r e)<=arm r:=by
      unfold arm Q1k
      rw[ha]
      show(if(Q0n r.A0 e).2.B0.D2=true then 1 else 0)<=_
      rcases Zkq r.A0 e with t|t
      . rw[t];exact aO _
      . rw[t]
        split
        . rename_i q;rw[if_pos (yN _ q)];exact aO _
        . exact aT _
    omega
theorem vN(r:Q01):(Q24 r).B3.length+arm (Q24 r)<=r.B3.length+arm r:=by
  cases hd:Q74 r.A0.B0 r.A3
  . rw[yl hd];exact aO _
  . have e:Q24 r=Q1k r Qse:=by rw[Qp5,hd];rfl
    rw[e]
    cases ha:(Q0n r.A0 Qse).1
    . rw[Z5m ha];exact aO _
    . have a1:arm r=1:=by
        unfold arm
        refine if_pos ?_
        cases h:r.A0.B0.D2
        . rw[zl h]at hd;cases hd
        . rfl
      have l:=Qm1 r Qse
      have a0:arm (Q1k r Qse)=0:=by
        unfold arm Q1k
        rw[ha]
        refine if_neg ?_
        show¬(Q0n r.A0 Qse).2.B0.D2=true
        rw[Zjp]at ha⊢
        cases hh:r.A0.A9
        . rw[hh]at ha
          have:=xl _ ha
          show¬(Q6u r.A0.B0).1.D2=true
          rw[this];decide
        . rw[hh]at ha;cases ha
      omega
theorem Zmk{P:Nat}{m:Q00}(g:good P m)(hr:Q0h m=true)(clock:Int):(Q0k m clock).2.B0=m.B0:=by
 have rd:Q0h m=bif Q0s m then false else Qfp m:=rfl
 rw[rd]at hr
 cases hs:Q0s m
 . rw[hs]at hr
   have hr:Qfp m=true:=hr
   obtain⟨g1,g2,g3,g4,g5⟩:=(Qn5 m).1 g.may
   obtain⟨b1,b2,b3,_⟩:=(Tree.pp (Qud g.s g2)).2
   change Q6f (Q0u m).B2 at b1
   change okS P (Q0u m) at b2
   have be:=Qy g.v g2.st
   have b1':Q6f (Q0q m):=by have:=b1;rw[be]at this;exact this
   have b2':Q2m (Q0q m):=by have:=b2.cpu;rw[be]at this;exact this
   rw[Zji,<-Zo7 g.ok.mem b2' b1'.st]at hr
   rw[vY]
   generalize Q7v (Q0q m) m.Mem=D at*
   unfold ioP at hr
   unfold finR
   cases hk:D.2.1.B5==1
   . rw[hk]at hr;cases hr
   . rw[hk]at hr
     have hp:D.2.1.D1=2:=eq_of_beq hr
     rw[hp];rfl
 . rw[hs]at hr;cases hr
theorem qO{P:Nat}{k:Int}{r:Q01}(g:Q5z P k r):(Qia r).B3.length+arm (Qia r)<=r.B3.length+arm r+1:=by
 cases hr:Q0h r.A0
 . have:=zZ (Qia r)
   have e:(Qia r).B3=r.B3:=by rw[Zdd hr]
   rw[e];omega
 . have l:=Z6b r
   have e:arm (Qia r)=arm r:=by
     unfold arm
     rw[Qug hr]
     show(if(Q0k r.A0 r.A3).2.B0.D2=true then 1 else 0)=_
     rw[Zmk g.m hr]
   omega
theorem qat{P:Nat}(n:Nat): ∀{k:Int} {r:Q01} {o:List Q03},Q5z P k r->(recF n r o).1.B3.length+arm (recF n r o).1<=r.B3.length+arm r+n:=by
 induction n with
 |zero=>intro k r o _;exact aO _
 | succ n ih=>
   intro k r o g
   obtain⟨gf,_⟩:=Qim g
   have f:=vN r
   cases hs:Q0s (Q24 r).A0
   . rw[Qt9 hs]
     have a:=ih (o:=o++(Q0k (Q24 r).A0 (Q24 r).A3).1) (Qis gf hs)
     have b:=qO gf
     omega
   . rw[Qtw hs]
     show(Q24 r).B3.length+arm (Q24 r)<=_
     omega
theorem xO(l:List Q07): ∀r:Q01,(l.foldl Q1k r).B3.length+arm (l.foldl Q1k r)<=r.B3.length+arm r+l.length:=by
 induction l with
 |nil=>intro r;exact aO _
 | cons e l ih=>
   intro r
   have a:=ih (Q1k r e)
   have b:=xn r e
   rw[aD,dF];omega
def cntR(r:Q01):Nat:=r.B3.length+arm r+r.A2.length
theorem zn{P:Nat}{k:Int}{r:Q01}(g:Q5z P k r)(hq:okQ r.A2){steps clock:Int}(hc:U clock)(hs:0<=steps/\steps<12):cntR (advF r steps clock).1<=cntR r+11:=by
 have s:=Qra g hq hc
 have f:=xO r.A2 {A0:=r.A0,A3:=if clock>r.A3 then clock else r.A3,B3:=r.B3,A2:=r.A2}
 rw[Qlx g.m.rmay,Qxf hs.1 (by omega)]
 generalize r.A2.foldl Q1k {A0:=r.A0,A3:=if clock>r.A3 then clock else r.A3,B3:=r.B3,A2:=r.A2}=y at*
 have q:(recF steps.toNat (noQ y) []).1.A2=[]:=Qxc _ _ _
 have c:=qat steps.toNat (o:=[]) s
 have e:arm (noQ y)=arm y:=rfl
 have e1:(noQ y).B3=y.B3:=rfl
 have e2:arm {A0:=r.A0,A3:=if clock>r.A3 then clock else r.A3,B3:=r.B3,A2:=r.A2}=arm r:=rfl
 rw[e,e1]at c
 rw[e2]at f
 have f:y.B3.length+arm y<=r.B3.length+arm r+r.A2.length:=f
 unfold cntR
 rw[q]
 show _+_+0<=_
 omega
theorem yn{P:Nat}{k:Int}{r:Q01}(g:Q5z P k r)(hq:okQ r.A2){steps clock:Int}(hc:U clock)(hs:0<=steps/\steps<12):(advF r steps clock).1.A0.A1<=r.A0.A1+11:=by
 have s:=Qra (k:=r.A0.A1) ⟨g.m,g.clock,cS _⟩ hq hc
 rw[Qlx g.m.rmay,Qxf hs.1 (by omega)]
 have:=(Zi3 steps.toNat (o:=[]) s).cnt
 omega
theorem Zkp{c0 k B:Int}{r:Q01}(h:logP c0 k B r)(n:Int):(Q3x r n).1.A0.A1<=r.A0.A1+11:=by
 cases hm:dB (Q3n n 3) 3==0
 . rw[Qut hm,Quu _ _ _ (by have:=h.p.q.1;omega)]
   exact yn h.p.g h.p.q (Q0v _) (Qnv (n:=ishr .i64 (Q3n n 3) 4) (k:=12) (by decide) (by decide))
 . rw[Quf hm,Qa]
   have z:r.A0.A1<=r.A0.A1+11:=by omega
   cases Q2 (Q46 n)<;>cases(Q46 n).B5==1<;>cases decide ((r.A2.length:Int)>=16)<;>exact z
theorem Zp8{c0:Int}(l:List Int): ∀{k B:Int} {s:Q01×List Q03},logP c0 k B s.1->255<=B->B+12*l.length<1000000000->(l.foldl Qox s).1.A0.A1<=s.1.A0.A1+11*l.length:=by
 induction l with
 |nil=>intro k B s _ _ _;show s.1.A0.A1<=s.1.A0.A1+11*((0:Nat):Int);omega
 | cons n l ih=>
   intro k B s h h1 h2
   rw[dF]at h2
   have a:=Qr h h1 (by omega) n
   have b:=Zkp h n
   rw[<-Qvc]at a b
   have:=ih a (by omega) (by omega)
   rw[aD,dF];omega
theorem vn{c0 k B:Int}{r:Q01}(h:logP c0 k B r)(n:Int):cntR (Q3x r n).1<=cntR r+11:=by
 cases hm:dB (Q3n n 3) 3==0
 . rw[Qut hm,Quu _ _ _ (by have:=h.p.q.1;omega)]
   exact zn h.p.g h.p.q (Q0v _) (Qnv (n:=ishr .i64 (Q3n n 3) 4) (k:=12) (by decide) (by decide))
 . rw[Quf hm,Qa]
   have:cntR {A0:=r.A0,A3:=r.A3,B3:=r.B3,A2:=r.A2++[Q46 n]}=cntR r+1:=by
     show r.B3.length+arm r+(r.A2++[_]).length=r.B3.length+arm r+r.A2.length+1
     rw[lA,cW];omega
   cases Q2 (Q46 n)<;>cases(Q46 n).B5==1<;>cases decide ((r.A2.length:Int)>=16)<;>first|exact Nat.le_add_right _ _|(show cntR {A0:=r.A0,A3:=r.A3,B3:=r.B3,A2:=r.A2++[Q46 n]}<=_;omega)
theorem zO{c0:Int}(l:List Int): ∀{k B:Int} {s:Q01×List Q03},logP c0 k B s.1->255<=B->B+12*l.length<1000000000->cntR (l.foldl Qox s).1<=cntR s.1+11*l.length:=by
 induction l with
 |nil=>intro k B s _ _ _;exact aO _
 | cons n l ih=>
   intro k B s h h1 h2
   rw[dF]at h2
   have a:=Qr h h1 (by omega) n
   have b:=vn h n
   rw[<-Qvc]at a b
   have:=ih a (by omega) (by omega)
   rw[aD,dF];omega
def dueF:List Q0f->Q00->Q00×List Q0f
 |[],m=>(m,[])
 |e::l,m=>bif decide (e.At<=m.A1) then(bif e.C0.B5 !=1 then dueF l (Q0n m e.C0).2 else(m,e::l)) else(m,e::l)
def setF(p:Q02):Q02:={A0:=(dueF p.B3 p.A0).1,B3:=(dueF p.B3 p.A0).2,C7:=p.C7,A3:=p.A3}
def Qos(p:Q02):Int:=match p.B3 with|[]=>0|e::_=>e.C0.N
def Qoy(p:Q02):Bool:=match p.B3 with
 |[]=>!Q0h p.A0
 |e::_=>bif Q0h p.A0 then(bif e.C0.B5==1 then e.At==p.A0.A1 else false) else !(bif e.C0.B5==1 then decide (e.At<=p.A0.A1) else false)
def Qc0(p:Q02):Int×List Q0f×Int:=bif Q0h p.A0 then(Qos p,p.B3.drop 1,wrap .u32 (Qos p+1)) else(0,p.B3,p.A3)
def goF(p:Q02):Q02:={A0:=(Q0k p.A0 (Qc0 p).1).2,B3:=(Qc0 p).2.1,C7:=p.C7,A3:=(Qc0 p).2.2}
def outF(p:Q02):List Q03:=(Q0k p.A0 (Qc0 p).1).1
def folF:Nat->Q02->List Q03->Q02×List Q03
 |0,p,o=>(p,o)
 |n+1,p,o=>bif decide (p.A0.A1>=p.C7) then(p,o) else bif Q0s (setF p).A0 then(setF p,o) else bif Qoy (setF p) then folF n (goF (setF p)) (o++outF (setF p)) else(setF p,o)
def folP(p:Q02)(steps:Int):Q02×List Q03:=bif Q5e p.A0 then folF (Q0i steps).toNat p [] else(p,[])
structure Qn0(P:Nat)(k:Int)(p:Q02):Prop where
 m:good P p.A0
 cnt:p.A0.A1<=k
 clock:U p.A3
 log:p.B3.length<=900000
 u: ∀e∈p.B3,U e.C0.N
theorem Qxx{e:Q0f}{l:List Q0f}{m:Q00}(h1:e.At<=m.A1)(h2:(e.C0.B5 !=1)=true):dueF (e::l) m=dueF l (Q0n m e.C0).2:=by
 conv=>lhs;unfold dueF
 rw[dY h1,h2];rfl
theorem Qmd{e:Q0f}{l:List Q0f}{m:Q00}(h1: ¬e.At<=m.A1):dueF (e::l) m=(m,e::l):=by
 conv=>lhs;unfold dueF
 rw[dN h1];rfl
theorem Qiv{e:Q0f}{l:List Q0f}{m:Q00}(h2:(e.C0.B5 !=1)=false):dueF (e::l) m=(m,e::l):=by
 conv=>lhs;unfold dueF
 rw[h2];cases decide (e.At<=m.A1)<;>rfl
theorem Zja: ∀(l:List Q0f) (m:Q00),dueF (dueF l m).2 (dueF l m).1=dueF l m
 |[],m=>rfl
 | e ::l,m=>by
   by_cases h1:e.At<=m.A1
   . cases h2:e.C0.B5 !=1
     . rw[Qiv h2,Qiv h2]
     . rw[Qxx h1 h2];exact Zja l _
   . rw[Qmd h1,Qmd h1]
theorem Zeq{P:Nat}: ∀{l:List Q0f} {m:Q00},good P m->(∀e∈l,U e.C0.N)->good P (dueF l m).1/\(dueF l m).1.A1=m.A1/\(dueF l m).2<:+l
  |[],m,h,_=>⟨h,rfl,bW _⟩
  | e ::l,m,h,hu=>by
    by_cases h1:e.At<=m.A1
    . cases h2:e.C0.B5 !=1
      . rw[Qiv h2];exact⟨h,rfl,bW _⟩
      . rw[Qxx h1 h2]
        obtain⟨a,b⟩:=Qe8 h (hu e (by simp))
        obtain⟨c,d,s⟩:=Zeq (l:=l) a (λq hq=>hu q (by simp [hq]))
        exact⟨c,d.trans b,s.trans (cA e l)⟩
    . rw[Qmd h1];exact⟨h,rfl,bW _⟩
theorem Qu6{P:Nat}{k:Int}{p:Q02}(h:Qn0 P k p):Qn0 P k (setF p)/\(setF p).A0.A1=p.A0.A1/\(setF p).B3<:+p.B3:=by
 obtain⟨a,b,s⟩:=Zeq h.m h.u
 have hc:=h.cnt
 have hl:=h.log
 have sl:=s.length_le
 exact⟨⟨a,by show(dueF p.B3 p.A0).1.A1<=k;omega,h.clock,by show(dueF p.B3 p.A0).2.length<=_;omega,λe he=>h.u e (s.subset he)⟩,b,s⟩
theorem yO{P:Nat}{k:Int}{p:Q02}(h:Qn0 P k p):U (Qos p):=by
 unfold Qos
 split
 . exact U_0
 . rename_i e l he;exact h.u e (by rw[he];simp)
theorem Zlu{P:Nat}{k:Int}{p:Q02}(h:Qn0 P k p):U (Qc0 p).1/\U (Qc0 p).2.2/\(Qc0 p).2.1<:+p.B3:=by
 unfold Qc0
 cases Q0h p.A0
 . exact⟨U_0,h.clock,bW _⟩
 . exact⟨yO h,Q0v _,List.drop_suffix _ _⟩
theorem Z26{P:Nat}{k:Int}{p:Q02}(h:Qn0 P k p)(hs:Q0s p.A0=false):Qn0 P (k+1) (goF p)/\(goF p).A0.A1=p.A0.A1+1/\(outF p).length<=1:=by
 obtain⟨t1,t2,t3⟩:=Zlu h
 obtain⟨a,b,c⟩:=Q6v h.m hs t1
 have hc:=h.cnt
 have hl:=h.log
 have sl:=t3.length_le
 exact⟨⟨a,by show(Q0k p.A0 (Qc0 p).1).2.A1<=k+1;omega,t2,by show(Qc0 p).2.1.length<=_;omega,λe he=>h.u e (t3.subset he)⟩,b,c⟩
theorem Quo{n:Nat}{p:Q02}{o:List Q03}(h:p.C7<=p.A0.A1):folF n p o=(p,o):=by
 cases n with
 |zero=>rfl
 | succ n=>
   conv=>lhs;unfold folF
   rw[dY (show p.A0.A1>=p.C7 from h)];rfl
theorem Qxu{n:Nat}{p:Q02}{o:List Q03}(h: ¬p.C7<=p.A0.A1)(hs:Q0s (setF p).A0=true):folF (n+1) p o=(setF p,o):=by
 conv=>lhs;unfold folF
 rw[dN (show¬p.A0.A1>=p.C7 from h),hs];rfl
theorem Z4n{n:Nat}{p:Q02}{o:List Q03}(h: ¬p.C7<=p.A0.A1)(hs:Q0s (setF p).A0=false)(hp:Qoy (setF p)=false):folF (n+1) p o=(setF p,o):=by
 conv=>lhs;unfold folF
 rw[dN (show¬p.A0.A1>=p.C7 from h),hs,hp];rfl
theorem Zel{n:Nat}{p:Q02}{o:List Q03}(h: ¬p.C7<=p.A0.A1)(hs:Q0s (setF p).A0=false)(hp:Qoy (setF p)=true):folF (n+1) p o=folF n (goF (setF p)) (o++outF (setF p)):=by
 conv=>lhs;unfold folF
 rw[dN (show¬p.A0.A1>=p.C7 from h),hs,hp];rfl
theorem qo{p:Q02}(h:Q5e p.A0=true)(steps:Int):folP p steps=folF (Q0i steps).toNat p []:=by
 unfold folP;rw[h];rfl
theorem Zfy{P:Nat}: ∀(n:Nat) {k:Int} {p:Q02} (o:List Q03),Qn0 P k p->Qn0 P (k+n) (folF n p o).1/\(folF n p o).2.length<=o.length+n
  |0,k,p,o,h=>⟨⟨h.m,by have:=h.cnt;show p.A0.A1<=k+(0:Nat);omega,h.clock,h.log,h.u⟩,aO _⟩
  | n + 1,k,p,o,h=>by
    obtain⟨g,gc,_⟩:=Qu6 h
    have up: ∀{q:Q02},Qn0 P k q->Qn0 P (k+(n+1:Nat)) q:=λh=>⟨h.m,by have:=h.cnt;omega,h.clock,h.log,h.u⟩
    by_cases hk:p.C7<=p.A0.A1
    . rw[Quo hk];exact⟨up h,by show o.length<=_;omega⟩
    . cases hs:Q0s (setF p).A0
      . cases hp:Qoy (setF p)
        . rw[Z4n hk hs hp];exact⟨up g,by show o.length<=_;omega⟩
        . rw[Zel hk hs hp]
          obtain⟨a,_,c⟩:=Z26 g hs
          obtain⟨x,y⟩:=Zfy n (o++outF (setF p)) a
          rw[lA]at y
          exact⟨⟨x.m,by have:=x.cnt;omega,x.clock,x.log,x.u⟩,by omega⟩
      . rw[Qxu hk hs];exact⟨up g,by show o.length<=_;omega⟩
theorem zat{P:Nat}{p:Q02}(h:good P p.A0){e:Q07}(he:U e.N):(Q4n e p).w (λx=>x=(true,{A0:=(Q0n p.A0 e).2,B3:=p.B3,C7:=p.C7,A3:=p.A3})):=by
 unfold Q4n
 refine w_an (Qyr h.v h.len he) (w_lv λx0 e0=> ?_)
 rw[h.app]at e0
 show(_,_)=_
 rw[e0]
theorem qaO{P:Nat}{p:Q02}(h:good P p.A0)(hu: ∀e∈p.B3,U e.C0.N):(Q7k p p.A0.A1).w (λx=>x.1=setF p):=by
  unfold Q7k
  refine w_lp (inv:=λv:Q02=>good P v.A0/\v.A0.A1=p.A0.A1/\(∀e∈v.B3,U e.C0.N)/\setF v=setF p) (μ:=Qlg p p.A0.A1) ⟨h,rfl,hu,rfl⟩ (cK _) λv ⟨a1,a2,a3,a4⟩=> ?_
  obtain⟨m,l,kn,ck⟩:=v
  cases l with
  | nil=>
    refine w_br (λhb=>absurd (oY hb) (by show¬((0:Nat):Int)>0;decide)) (λ_=> ?_)
    show _=_
    rw[<-a4];rfl
  | cons e l=>
    have cn:(bS 4 4&&bT 0 4&&decide ((0:Int)<=0/\(0:Int)<(((e::l).length:Nat):Int)))=true:=by
      rw[dY (show(0:Int)<=0/\(0:Int)<(((e::l).length:Nat):Int) by rw[dF];omega)];rfl
    have tk:cY ((((e::l).length:Nat):Int).toNat-dC 1) (cZ (dC 1) (e::l))=l:=by simp
    have cs:(bS 4 4&&bT 0 4&&decide ((0:Int)<=1/\(1:Int)<=(((e::l).length:Nat):Int)/\(((e::l).length:Nat):Int)<=(((e::l).length:Nat):Int)))=true:=by
      rw[dY (show(0:Int)<=1/\(1:Int)<=(((e::l).length:Nat):Int)/\(((e::l).length:Nat):Int)<=(((e::l).length:Nat):Int) by rw[dF];omega)];rfl
    have hc:m.A1=p.A0.A1:=a2
    have stay:dueF (e::l) m=(m,e::l)->(⟨m,e::l,kn,ck⟩:Q02)=setF p:=λhd=>by
      rw[<-a4]
      show _=(⟨(dueF (e::l) m).1,(dueF (e::l) m).2,kn,ck⟩:Q02)
      rw[hd]
    refine w_br (λ_=>w_cn cn (w_br (λh1=>w_cn cn (w_br (λh2=>w_cn cn (w_cn cs ?_)) (λh2=> ?_))) (λh1=> ?_))) (λhb=>absurd (oN hb) (by show¬ ¬(((e::l).length:Nat):Int)>0;rw[dF];omega))
    . have h1:e.At<=p.A0.A1:=oY h1
      have h2:(e.C0.B5 !=1)=true:=h2
      have he:=a3 e (by simp)
      obtain⟨k1,k2⟩:=Qe8 a1 he
      refine Q0e (zat (p:=⟨m,cY ((((e::l).length:Nat):Int).toNat-dC 1) (cZ (dC 1) (e::l)),kn,ck⟩) a1 he) λx0 e0=> ?_
      have e0:x0=(true,⟨(Q0n m e.C0).2,l,kn,ck⟩):=by
        rw[e0]
        show(true,(⟨(Q0n m e.C0).2,cY ((((e::l).length:Nat):Int).toNat-dC 1) (cZ (dC 1) (e::l)),kn,ck⟩:Q02))=_
        rw[tk]
      rw[e0]
      refine w_br (λh=>by cases h) (λ_=>w_nx ⟨⟨k1,k2.trans a2,λq hq=>a3 q (by simp [hq]),?_⟩,?_⟩)
      . rw[<-a4]
        show(⟨(dueF l (Q0n m e.C0).2).1,(dueF l (Q0n m e.C0).2).2,kn,ck⟩:Q02)=⟨(dueF (e::l) m).1,(dueF (e::l) m).2,kn,ck⟩
        rw[Qxx (by omega) h2]
      . show l.length<(e::l).length
        rw[dF];omega
    . exact stay (Qiv h2)
    . exact stay (Qmd (by have:=oN h1;rw[hc];exact this))
theorem zaO{P:Nat}{p:Q02}(h:good P p.A0):(Q7i p).w (λx=>x.2.1=Q0h p.A0/\x.2.2=Qoy p/\(Qoy p=true->x.1=(Qc0 p).1)):=by
  have rp:Q1r p.A0:=(Tree.pp (Zna h.s)).1
  have rs:=Qwx h.v
  unfold Q7i
  obtain⟨m,l,kn,ck⟩:=p
  have rs:Q1y m=Q0h m:=rs
  cases l with
  | nil =>
    refine w_br (λhb=>absurd (oY hb) (by show¬((0:Nat):Int)>0;decide)) (λ_=>w_an rp (w_lv λx e=> ?_))
    have e:x=Q0h m:=e.trans rs
    refine w_br (λhb=> ?_) (λhb=> ?_)
    . have hb:Q0h m=false:=by rw[e]at hb;simpa using hb
      refine⟨hb.symm,?_,λ_=> ?_⟩
      . show true=!Q0h m;rw[hb];rfl
      . show(0:Int)=_;unfold Qc0;rw[show Q0h (Q02.A0 ⟨m,[],kn,ck⟩)=false from hb];rfl
    . have hb:Q0h m=true:=by rw[e]at hb;simpa using hb
      refine⟨hb.symm,?_,λq=> ?_⟩
      . show false=!Q0h m;rw[hb];rfl
      . have q:(!Q0h m)=true:=q
        rw[hb]at q;cases q
  | cons e l=>
    have cn:(bS 4 4&&bT 0 4&&decide ((0:Int)<=0/\(0:Int)<(((e::l).length:Nat):Int)))=true:=by
      rw[dY (show(0:Int)<=0/\(0:Int)<(((e::l).length:Nat):Int) by rw[dF];omega)];rfl
    have pd:Qoy ⟨m,e::l,kn,ck⟩=bif Q0h m then(bif e.C0.B5==1 then e.At==m.A1 else false) else !(bif e.C0.B5==1 then decide (e.At<=m.A1) else false):=rfl
    have t0:Q0h m=false->(Qc0 ⟨m,e::l,kn,ck⟩).1=0:=λhb=>by unfold Qc0;rw[show Q0h (Q02.A0 ⟨m,e::l,kn,ck⟩)=false from hb];rfl
    have t1:Q0h m=true->(Qc0 ⟨m,e::l,kn,ck⟩).1=e.C0.N:=λhb=>by unfold Qc0;rw[show Q0h (Q02.A0 ⟨m,e::l,kn,ck⟩)=true from hb];rfl
    rw[pd]
    refine w_br (λ_=>w_cn cn (w_br (λhk=>w_an rp (w_lv λx ex=> ?_)) (λhk=>w_an rp (w_lv λx ex=> ?_)))) (λhb=>absurd (oN hb) (by show¬ ¬(((e::l).length:Nat):Int)>0;rw[dF];omega))
    . have ex:x=Q0h m:=ex.trans rs
      have hk:(e.C0.B5==1)=true:=hk
      rw[hk]
      refine w_br (λhb=> ?_) (λhb=>w_br (λh1=> ?_) (λh1=> ?_))
      . have hb:Q0h m=false:=by rw[ex]at hb;simpa using hb
        rw[hb]
        exact⟨rfl,rfl,λ_=>(t0 hb).symm⟩
      . have hb:Q0h m=true:=by rw[ex]at hb;simpa using hb
        rw[hb]
        exact⟨rfl,rfl,λ_=>(t1 hb).symm⟩
      . have hb:Q0h m=true:=by rw[ex]at hb;simpa using hb
        have h1: ¬e.At<=m.A1:=oN h1
        have e0:(e.At==m.A1)=false:=beq_false_of_ne (by omega)
        rw[hb,e0]
        exact⟨rfl,rfl,λq=>by cases q⟩
    . have ex:x=Q0h m:=ex.trans rs
      have hk:(e.C0.B5==1)=false:=hk
      rw[hk]
      refine w_br (λhb=> ?_) (λhb=> ?_)
      . have hb:Q0h m=false:=by rw[ex]at hb;simpa using hb
        rw[hb]
        exact⟨rfl,rfl,λ_=>(t0 hb).symm⟩
      . have hb:Q0h m=true:=by rw[ex]at hb;simpa using hb
        rw[hb]
        exact⟨rfl,rfl,λq=>by cases q⟩
theorem Z3y{p:Q02}(hm:p.A0.Mem.length<=1024)(hl:p.B3.length<=1000000):(Q5x p).w (λx=>x=p):=by
 unfold Q5x
 exact w_an (by show p.A0.Mem.length<=35184372088832;omega) (w_lv λx0 e0=>w_an (by show p.B3.length<=3518437208883;omega) (w_lv λx1 e1=>by rw[e0,e1];rfl))
theorem xat{P:Nat}{k:Int}{p:Q02}(h:Qn0 P k p)(steps:Int):(Q51 p steps).w (λx=>x=folP p steps):=by
  obtain⟨lim0,lim1⟩:=Qkb steps
  have lim:(if 4000<(if 0>steps then 0 else steps) then 4000 else(if 0>steps then 0 else steps))=Q0i steps:=rfl
  unfold Q51
  refine Q0e (Z3y h.m.len (by have:=h.log;omega)) λx0 e0=> ?_
  subst e0
  refine w_an (Tree.pp (Zar h.m.ok.target.2)).1 (w_lv λx1 e1=>w_br (λhb=>by rw[e1,h.m.may]at hb;cases hb) λhb=> ?_)
  rw[qo h.m.rmay]
  refine w_lp (inv:=λy:Int×Q02×List Q03=>0<=y.1/\y.1<=Q0i steps/\Qn0 P (k+y.1) y.2.1/\(y.2.2.length:Int)<=y.1/\folF (Q0i steps-y.1).toNat y.2.1 y.2.2=folF (Q0i steps).toNat x0 []) (μ:=Q7t x0 steps) ⟨cS 0,lim0,⟨h.m,by have:=h.cnt;show x0.A0.A1<=k+0;omega,h.clock,h.log,h.u⟩,cS 0,by show folF (Q0i steps-0).toNat x0 []=_;rw[fD]⟩ (cK _) λy ⟨y0,y1,y2,y4,y5⟩=> ?_
  obtain⟨yi,yp,yo⟩:=y
  have y0:0<=yi:=y0
  have y1:yi<=Q0i steps:=y1
  have y2:Qn0 P (k+yi) yp:=y2
  have y4:(yo.length:Int)<=yi:=y4
  have y5:folF (Q0i steps-yi).toNat yp yo=folF (Q0i steps).toNat x0 []:=y5
  rw[<-y5]
  refine w_br (λhb=> ?_) (λhb=> ?_)
  . have hb : yi<Q0i steps:=oY hb
    have ew:i64.wrap (yi+1)=yi+1:=by rw[wrap_i64];omega
    have en:(Q0i steps-yi).toNat=(Q0i steps-(yi+1)).toNat+1:=by omega
    obtain⟨g,gc,_⟩:=Qu6 y2
    rw[en]at y5⊢
    refine w_br (λhk=> ?_) (λhk=>w_lv λ_ _=>Q0e (qaO y2.m y2.u) λx3 e3=> ?_)
    . have hk:=oY hk
      show(yp,yo)=_
      rw[Quo hk]
    . have hk : ¬yp.C7<=yp.A0.A1:=oN hk
      obtain⟨x3,c3⟩:=x3
      have e3:x3=setF yp:=e3
      subst e3
      have sg:=Z9m g.m
      have stk:Q0s (setF yp).A0=true->(setF yp,yo)=folF ((Q0i steps-(yi+1)).toNat+1) yp yo:=λhs=>(Qxu hk hs).symm
      refine w_br (λhh=>stk (by rw[sg];have hh:(setF yp).A0.A9=true:=hh;rw[hh];rfl)) λhh=>w_an (vk g.m.ok.target.2) (w_lv λx4 e4=>w_br (λhi=>stk ?_) λhi=>w_br (λhm=>stk ?_) λhm=>Q0e (zaO g.m) λx5 ⟨c1,c2,c3⟩=> ?_)
      . have hh:(setF yp).A0.A9=false:=hh
        have e4:x4=Q38 (setF yp).A0:=e4
        rw[sg,hh,<-e4,hi];rfl
      . have hh:(setF yp).A0.A9=false:=hh
        have e4:x4=Q38 (setF yp).A0:=e4
        rw[sg,hh,<-e4,hi];exact hm
      have hs:Q0s (setF yp).A0=false:=by
        have hh:(setF yp).A0.A9=false:=hh
        have e4:x4=Q38 (setF yp).A0:=e4
        rw[sg,hh,<-e4,hi];exact hm
      refine w_br (λhp=> ?_) (λhp=> ?_)
      . have hp:Qoy (setF yp)=false:=by rw[c2]at hp;simpa using hp
        show(setF yp,yo)=_
        exact(Z4n hk hs hp).symm
      . have hp:Qoy (setF yp)=true:=by rw[c2]at hp;simpa using hp
        have c3:=c3 hp
        obtain⟨t1,t2,t3⟩:=Zlu g
        obtain⟨k1,k2,k3⟩:=Z26 g hs
        have sp:Q2l (setF yp).A0 x5.1:=by rw[c3];exact(Zf7 g.m.v g.m.len (clock:=(Qc0 (setF yp)).1) t1).1
        have ms:Q1z (setF yp).A0 x5.1=((goF (setF yp)).A0,outF (setF yp)):=by rw[c3];exact g.m.step hs (Qc0 (setF yp)).1
        have mu: ∀q,Q7t x0 steps (wrap .i64 (yi+1),q)<Q7t x0 steps (yi,yp,yo):=λq=>by
          show(4000-wrap .i64 (yi+1)).toNat<(4000-yi).toNat
          rw[ew];omega
        have nx: ∀(x:Q02) (o:List Q03),x=goF (setF yp)->o=yo++outF (setF yp)->(0<=wrap .i64 (yi+1)/\wrap .i64 (yi+1)<=Q0i steps/\Qn0 P (k+wrap .i64 (yi+1)) x/\(o.length:Int)<=wrap .i64 (yi+1)/\folF (Q0i steps-wrap .i64 (yi+1)).toNat x o=folF ((Q0i steps-(yi+1)).toNat+1) yp yo):=λx o hx ho=>by
          rw[ew,hx,ho]
          refine⟨by omega,by omega,⟨k1.m,by have:=k1.cnt;omega,k1.clock,k1.log,k1.u⟩,by rw[lA];omega,?_⟩
          rw[Zel hk hs hp]
        have cl: ∀o:List Q03,o=outF (setF yp)->decide (40*(yo.length+o.length)<=140737488355328)=true:=λo ho=>dY (by rw[ho];omega)
        refine w_br (λhr=> ?_) (λhr=> ?_)
        . have hr:Q0h (setF yp).A0=true:=by rw[c1]at hr;exact hr
          have tf:Qc0 (setF yp)=(Qos (setF yp),(setF yp).B3.drop 1,wrap .u32 (Qos (setF yp)+1)):=by unfold Qc0;rw[hr];rfl
          have ne:1<=(setF yp).B3.length:=by
            cases hl:(setF yp).B3 with
            | nil=>
              have:Qoy (setF yp)=!Q0h (setF yp).A0:=by unfold Qoy;rw[hl]
              rw[this,hr]at hp;cases hp
            |cons e l=>rw[dF];omega
          have tk:cY ((((setF yp).B3.length:Nat):Int).toNat-dC 1) (cZ (dC 1) (setF yp).B3)=(setF yp).B3.drop 1:=eX (by rw[bF];exact dI (by simp))
          have cs:(bS 4 4&&bT 0 4&&decide ((0:Int)<=1/\(1:Int)<=(((setF yp).B3.length:Nat):Int)/\(((setF yp).B3.length:Nat):Int)<=(((setF yp).B3.length:Nat):Int)))=true:=by
            rw[dY (show(0:Int)<=1/\(1:Int)<=(((setF yp).B3.length:Nat):Int)/\(((setF yp).B3.length:Nat):Int)<=(((setF yp).B3.length:Nat):Int) by omega)];rfl
          refine w_cn cs (w_an sp (w_lv λx6 e6=> ?_))
          have e6:=e6.trans ms
          refine w_cn (cl _ (congrArg fG e6)) (w_nx ⟨nx {A0:=x6.1,B3:=cY ((((setF yp).B3.length:Nat):Int).toNat-dC 1) (cZ (dC 1) (setF yp).B3),C7:=(setF yp).C7,A3:=u32.wrap (x5.1+1)} (yo++x6.2) ?_ (congrArg (yo++ ·) (congrArg fG e6)),mu ({A0:=x6.1,B3:=cY ((((setF yp).B3.length:Nat):Int).toNat-dC 1) (cZ (dC 1) (setF yp).B3),C7:=(setF yp).C7,A3:=u32.wrap (x5.1+1)},yo++x6.2)⟩)
          have gk:goF (setF yp)={A0:=(goF (setF yp)).A0,B3:=(setF yp).B3.drop 1,C7:=(setF yp).C7,A3:=wrap .u32 (Qos (setF yp)+1)}:=by
            show(⟨(goF (setF yp)).A0,(Qc0 (setF yp)).2.1,(setF yp).C7,(Qc0 (setF yp)).2.2⟩:Q02)=_
            rw[tf]
          have c4:x5.1=Qos (setF yp):=by rw[c3,tf]
          rw[gk,e6,c4]
          show(⟨_,cY ((((setF yp).B3.length:Nat):Int).toNat-dC 1) (cZ (dC 1) (setF yp).B3),_,_⟩:Q02)=_
          rw[tk]
        . have hr:Q0h (setF yp).A0=false:=by rw[c1]at hr;exact hr
          have tf:Qc0 (setF yp)=(0,(setF yp).B3,(setF yp).A3):=by unfold Qc0;rw[hr];rfl
          refine w_an sp (w_lv λx6 e6=> ?_)
          have e6:=e6.trans ms
          refine w_cn (cl _ (congrArg fG e6)) (w_nx ⟨nx {A0:=x6.1,B3:=(setF yp).B3,C7:=(setF yp).C7,A3:=(setF yp).A3} (yo++x6.2) ?_ (congrArg (yo++ ·) (congrArg fG e6)),mu ({A0:=x6.1,B3:=(setF yp).B3,C7:=(setF yp).C7,A3:=(setF yp).A3},yo++x6.2)⟩)
          have gk:goF (setF yp)={A0:=(goF (setF yp)).A0,B3:=(setF yp).B3,C7:=(setF yp).C7,A3:=(setF yp).A3}:=by
            show(⟨(goF (setF yp)).A0,(Qc0 (setF yp)).2.1,(setF yp).C7,(Qc0 (setF yp)).2.2⟩:Q02)=_
            rw[tf]
          rw[gk,e6]
  . have hb: ¬yi<Q0i steps:=oN hb
    show(yp,yo)=_
    rw[show(Q0i steps-yi).toNat=0 by omega]
    rfl
theorem vO{a b:List Q0f}(ha:a.length<=1000000)(hb:b.length<=1000000):(Q14 [a,b]).w (λx=>x=a++b):=by
  have w1:wrap .i64 (0+((a.length:Nat):Int))=a.length:=by rw[wrap_i64];omega
  have w2:wrap .i64 (((a.length:Nat):Int)+((b.length:Nat):Int))=a.length+b.length:=by rw[wrap_i64];omega
  unfold Q14
  refine w_lp (inv:=λv:Int×Int=>v=(0,0)\/v=((a.length:Int),1)\/v=((a.length:Int)+b.length,2)) (μ:=Q4f [a,b]) (.inl rfl) (cK _) λv hv=> ?_
  rcases hv with rfl|rfl|rfl
  . refine w_br (λ_=>w_cn rfl (w_fl (dN ?_) (w_nx ⟨.inr (.inl ?_),?_⟩))) (λh=>absurd (oN h) (by show¬ ¬(0:Int)<2;decide))
    . show¬wrap .i64 (0+((a.length:Nat):Int))<0
      rw[w1];omega
    . show(wrap .i64 (0+((a.length:Nat):Int)),wrap .i64 (0+1))=_
      rw[w1];rfl
    . show(2-wrap .i64 (0+1)).toNat<(2-(0:Int)).toNat
      decide
  . refine w_br (λ_=>w_cn rfl (w_fl (dN ?_) (w_nx ⟨.inr (.inr ?_),?_⟩))) (λh=>absurd (oN h) (by show¬ ¬(1:Int)<2;decide))
    . show¬wrap .i64 (((a.length:Nat):Int)+((b.length:Nat):Int))<0
      rw[w2];omega
    . show(wrap .i64 (((a.length:Nat):Int)+((b.length:Nat):Int)),wrap .i64 (1+1))=_
      rw[w2];rfl
    . show(2-wrap .i64 (1+1)).toNat<(2-(1:Int)).toNat
      decide
  . refine w_br (λh=>absurd (oY h) (by show¬(2:Int)<2;decide)) (λ_=>w_an ⟨by show 0<=(a.length:Int)+b.length;omega,by show(a.length:Int)+b.length<=1000000000000;omega⟩ (w_lv λx0 e0=> ?_))
    have e0:x0=[]:=e0
    refine w_lp (inv:=λv:Int×List Q0f=>v=(0,[])\/v=(1,a)\/v=(2,a++b)) (μ:=Q4g [a,b]) (.inl (by rw[e0])) (cK _) λv hv=> ?_
    rcases hv with rfl|rfl|rfl
    . refine w_br (λ_=>w_cn rfl (w_cn (dY ?_) (w_nx ⟨.inr (.inl rfl),?_⟩))) (λh=>absurd (oN h) (by show¬ ¬(0:Int)<2;decide))
      . show 40*(0+a.length)<=_;omega
      . show(2-wrap .i64 (0+1)).toNat<(2-(0:Int)).toNat
        decide
    . refine w_br (λ_=>w_cn rfl (w_cn (dY ?_) (w_nx ⟨.inr (.inr rfl),?_⟩))) (λh=>absurd (oN h) (by show¬ ¬(1:Int)<2;decide))
      . show 40*(a.length+b.length)<=_;omega
      . show(2-wrap .i64 (1+1)).toNat<(2-(1:Int)).toNat
        decide
    . exact w_br (λh=>absurd (oY h) (by show¬(2:Int)<2;decide)) (λ_=>rfl)
def Qp1(p:Q02)(known:Int)(e:Q0f):Bool:=bif decide (e.At<p.C7) then false else bif decide (e.At>known) then false else bif e.At==known then(bif e.C0.B5==1 then false else Q2 e.C0) else Q2 e.C0
def Z13(p:Q02)(l:List Q0f)(known:Int):Q02×Bool:=
 bif decide (known<p.C7) then(p,false) else bif decide ((l.length:Int)>400) then(p,false) else bif decide ((p.B3.length:Int)+l.length>4096) then(p,false) else bif l.all (Qp1 p known) then(bif Qdj (p.B3++l) then({A0:=p.A0,B3:=p.B3++l,C7:=known,A3:=p.A3},true) else(p,false)) else(p,false)
theorem xaO{p:Q02}(hm:p.A0.Mem.length<=1024)(hl:p.B3.length<=1000000){l:List Q0f}(hu: ∀e∈l,U e.C0.N)(known:Int):(Q6s p l known).w (λx=>x=Z13 p l known):=by
 unfold Q6s
 refine Q0e (Z3y hm hl) λx0 e0=> ?_
 subst e0
 refine w_br (λh1=> ?_) (λh1=>w_br (λh2=> ?_) (λh2=>w_br (λh3=> ?_) (λh3=> ?_)))
 . show(x0,false)=_;unfold Z13;rw[h1];rfl
 . show(x0,false)=_;unfold Z13;rw[h1,h2];rfl
 . have l4:=oN h2
   have ws:i64.wrap (((x0.B3.length:Nat):Int)+((l.length:Nat):Int))=x0.B3.length+l.length:=by rw[wrap_i64];omega
   rw[ws]at h3
   show(x0,false)=_;unfold Z13;rw[h1,h2,h3];rfl
 have l4:=oN h2
 have ws:i64.wrap (((x0.B3.length:Nat):Int)+((l.length:Nat):Int))=x0.B3.length+l.length:=by rw[wrap_i64];omega
 rw[ws]at h3
 have no:l.all (Qp1 x0 known)=false->(x0,false)=Z13 x0 l known:=λh=>by unfold Z13;rw[h1,h2,h3,h];rfl
 refine w_lp (inv:=λv:Int=>0<=v/\v<=l.length/\(l.drop v.toNat).all (Qp1 x0 known)=l.all (Qp1 x0 known)) (μ:=Qb1 x0 l known) ⟨cS 0,by omega,rfl⟩ (cK _) λv ⟨v0,v1,v2⟩=> ?_
 refine w_br (λhb=> ?_) (λhb=> ?_)
 . have hb:v<l.length:=oY hb
   have hlt:v.toNat<l.length:=by omega
   have ed:l.getD v.toNat (RK.dflt RK.apiEntry)=l[v.toNat]:=by rw[cL,cG hlt];rfl
   have hm:l.getD v.toNat (RK.dflt RK.apiEntry)∈l:=by rw[ed];exact cM hlt
   have ue:=hu _ hm
   have va:=Zau ue
   rw[aB hlt,List.all_cons,<-ed]at v2
   have ew:i64.wrap (v+1)=v+1:=by rw[wrap_i64];omega
   generalize l.getD v.toNat (RK.dflt RK.apiEntry)=e at*
   have bad:Qp1 x0 known e=false->(x0,false)=Z13 x0 l known:=λh=>no (by rw[<-v2,h];rfl)
   have nx:Qp1 x0 known e=true->(0<=wrap .i64 (v+1)/\wrap .i64 (v+1)<=l.length/\(l.drop (wrap .i64 (v+1)).toNat).all (Qp1 x0 known)=l.all (Qp1 x0 known))/\Qb1 x0 l known (wrap .i64 (v+1))<Qb1 x0 l known v:=λh=>by
     show _/\(l.length-wrap .i64 (v+1)).toNat<(l.length-v).toNat
     rw[ew]
     refine⟨⟨by omega,by omega,?_⟩,by omega⟩
     rw[<-v2,h,show(v+1).toNat=v.toNat+1 by omega];rfl
   refine w_cn (by simp [bT];omega) (w_br (λg1=>bad (by unfold Qp1;rw[g1];rfl)) λg1=>w_br (λg2=>bad (by unfold Qp1;rw[g1,g2];rfl)) λg2=>w_br (λg3=>w_br (λg4=>bad (by unfold Qp1;rw[g1,g2,g3,g4];rfl)) λg4=>w_lv λx1 e1=> ?_) λg3=>w_lv λx1 e1=> ?_)
   . have ok:Qp1 x0 known e=Q2 e.C0:=by unfold Qp1;rw[g1,g2,g3,g4];rfl
     have e1:=e1.trans va
     exact w_br (λh=>bad (by rw[ok,<-e1];simpa using h)) (λh=>w_nx (nx (by rw[ok,<-e1];simpa using h)))
   . have ok:Qp1 x0 known e=Q2 e.C0:=by unfold Qp1;rw[g1,g2,g3];rfl
     have e1:=e1.trans va
     exact w_br (λh=>bad (by rw[ok,<-e1];simpa using h)) (λh=>w_nx (nx (by rw[ok,<-e1];simpa using h)))
 . have hb: ¬v<l.length:=oN hb
   rw[aA (by omega)]at v2
   have v2:l.all (Qp1 x0 known)=true:=v2.symm
   refine Q0e (vO hl (by omega)) λx3 e3=> ?_
   have hlen:x3.length<=1000000000000:=by rw[e3,lA];omega
   refine w_an hlen (w_lv λx4 e4=> ?_)
   rw[e3]at e4
   refine w_br (λh=> ?_) (λh=> ?_)
   . have h:Qdj (x0.B3++l)=false:=by rw[<-e4];simpa using h
     show(x0,false)=_
     unfold Z13;rw[h1,h2,h3,v2,h];rfl
   . have h:Qdj (x0.B3++l)=true:=by rw[<-e4];simpa using h
     show(({A0:=x0.A0,B3:=x3,C7:=known,A3:=x0.A3}:Q02),true)=_
     unfold Z13;rw[h1,h2,h3,v2,h,e3];rfl
theorem qP{p:Q02}{l:List Q0f}{known:Int}(h1:p.C7<=known)(h2:l.length<=400)(h3:p.B3.length+l.length<=4096)(h4: ∀e∈l,Qp1 p known e=true)(h5:Qdj (p.B3++l)=true):Z13 p l known=({A0:=p.A0,B3:=p.B3++l,C7:=known,A3:=p.A3},true):=by
 unfold Z13
 rw[dN (by omega),dN (by omega),dN (by omega),List.all_eq_true.2 h4,h5];rfl
theorem Zej{l:List Q0f}{i:Nat}(h:i<l.length):l.getD i (RK.dflt RK.apiEntry)=l[i]:=by
 rw[cL,cG h];rfl
theorem Zpu{s:List Q0f}(hl:s.length<=1000000)(hp:s.Pairwise λa b=>a.At<=b.At/\(a.C0.B5=1->a.At<b.At/\(b.C0.B5=1->a.C0.N<=b.C0.N))):(Q9b s).w (λb=>b=true):=by
 unfold Q9b
 refine w_lp (inv:=λz:Int=>1<=z/\(z<=s.length\/z=1)) (μ:=Q4v s) ⟨cS 1, .inr rfl⟩ (cK _) λi ⟨a,b⟩=> ?_
 refine w_br (λhb=> ?_) (λ_=>rfl)
 have hb:=oY hb
 have ew:i64.wrap (i+1)=i+1:=by rw[wrap_i64];omega
 have em:i64.wrap (i-1)=i-1:=by rw[wrap_i64];omega
 have hlt:i.toNat<s.length:=by omega
 have hlt':(i-1).toNat<s.length:=by omega
 have q:=List.pairwise_iff_getElem.1 hp (i-1).toNat i.toNat hlt' hlt (by omega)
 rw[<-Zej hlt,<-Zej hlt']at q
 have nx:(1<=i64.wrap (i+1)/\(i64.wrap (i+1)<=s.length\/i64.wrap (i+1)=1))/\Q4v s (i64.wrap (i+1))<Q4v s i:=by
   show _/\(s.length-i64.wrap (i+1)).toNat<(s.length-i).toNat
   rw[ew];omega
 refine w_cn (by rw[em];simp [bT];omega) (w_cn (by simp [bT];omega) (w_br (λh=> ?_) λ_=>w_br (λh1=>w_br (λh2=> ?_) λ_=>w_nx nx) λ_=>w_nx nx))
 . have h:=oY h
   rw[em]at h
   have:=q.1;omega
 . rw[em]at h1 h2
   have h1:=eq_of_beq h1
   have:=(q.2 (eq_of_beq h2)).1;omega
theorem Zkc{a b:Q00}{L:List Q0f}{o:List Q03}(h:Q9n a L o b): ∀e∈L,U e.C0.N:=by
 induction h with
 |nil=>intro e he;cases he
 |ev h1 h2 h3 _ ih=>intro e he;rcases List.mem_cons.1 he with he|he;exact he▸h3;exact ih e he
 |rd h1 h2 h3 _ ih=>intro e he;rcases List.mem_cons.1 he with he|he;exact he▸h3;exact ih e he
 |st h1 h2 h3 _ ih=>exact ih
theorem Zrd{P:Nat}{a b:Q00}{L:List Q0f}{o:List Q03}(h:Q9n a L o b):good P a->(o.length:Int)<=b.A1-a.A1:=by
 induction h with
 |nil=>intro _;show((0:Nat):Int)<=_;omega
 |ev h1 h2 h3 _ ih=>intro g;obtain⟨p,q⟩:=Qe8 g h3;have:=ih p;omega
 |rd h1 h2 h3 _ ih=>intro g;obtain⟨p,q,r⟩:=Q6v g h1 h3;have:=ih p;rw[lA];omega
 |st h1 h2 h3 _ ih=>intro g;obtain⟨p,q,r⟩:=Q6v g h1 h3;have:=ih p;rw[lA];omega
def newQ(m:Q00):Q02:={A0:=m,B3:=[],C7:=m.A1,A3:=0}
theorem qau{m:Q00}(h:m.Mem.length<=1024):(Q9s m).w (λx=>x=newQ m):=by
 unfold Q9s
 exact Q0e (Z3y (p:=newQ m) h (aT _)) λx e=>e
structure Rec22(K:Int)(m:Q00)(x:Q01×List Q03):Prop where
 mg:good 8 m
 m0:m.A1<=87
 lp:logP m.A1 K K x.1
 cnt:cntR x.1<=331
 len:x.1.B3.length<=400
 tr:Q9n m x.1.B3 x.2 x.1.A0
 steps:x.1.A0.A1<=m.A1+330
 outs:x.2.length<=1000000
theorem rec22{m:Q00}(g:good 8 m)(b:m.A1<=87)(acts:List Int)(f2:acts.length<=30){x:Q01×List Q03}(hx:x=acts.foldl Qox ({A0:=m,A3:=0,B3:=[],A2:=[]},[])):Rec22 121000 m x:=by
 have s0:=xN g b
 have lp:=qn acts (s:=({A0:=m,A3:=0,B3:=[],A2:=[]},[])) s0 (cS _) (by omega)
 have ct:=zO acts (s:=({A0:=m,A3:=0,B3:=[],A2:=[]},[])) s0 (cS _) (by omega)
 obtain⟨o,on1,L,on2,on3⟩:=xas acts (s:=({A0:=m,A3:=0,B3:=[],A2:=[]},[])) s0 (cS _) (by omega)
 have sp:=Zp8 acts (s:=({A0:=m,A3:=0,B3:=[],A2:=[]},[])) s0 (cS _) (by omega)
 rw[<-hx]at lp ct on1 on2 on3 sp
 have on1:x.2=o:=on1
 have on2:x.1.B3=L:=on2
 have on3:Q9n m L o x.1.A0:=on3
 rw[<-on1,<-on2]at on3
 have sp:x.1.A0.A1<=m.A1+11*acts.length:=sp
 have hcnt:cntR x.1<=331:=by
   have c0:cntR ({A0:=m,A3:=0,B3:=[],A2:=[]}:Q01)<=1:=by
     have:=zZ {A0:=m,A3:=0,B3:=[],A2:=[]}
     show 0+arm {A0:=m,A3:=0,B3:=[],A2:=[]}+0<=1
     omega
   have ct:cntR x.1<=cntR ({A0:=m,A3:=0,B3:=[],A2:=[]}:Q01)+11*acts.length:=ct
   omega
 have hlen:x.1.B3.length<=400:=by unfold cntR at hcnt;omega
 have tout:=Zrd on3 g
 exact⟨g,b,⟨lp.p.more (by omega),lp.l,by have:=lp.b;omega⟩,hcnt,hlen,on3,by omega,by omega⟩
def fedQ(m:Q00)(r:Q01):Q02:={A0:=m,B3:=r.B3,C7:=r.A0.A1,A3:=0}
theorem fedOK{m:Q00}{r:Q01}(hl:Qls m.A1 r)(hn:r.B3.length<=400):Z13 (newQ m) r.B3 r.A0.A1=(fedQ m r,true):=by
 refine qP (p:=newQ m) (show m.A1<=_ from hl.c) hn (by show 0+r.B3.length<=4096;omega) (λe he=> ?_) (Tree.post _ (Zpu (by show r.B3.length<=_;omega) hl.pw))
 obtain⟨a,b,c,d⟩:=hl.all e he
 unfold Qp1
 rw[dN (show¬e.At<(newQ m).C7 by show¬e.At<m.A1;omega),dN (show¬e.At>r.A0.A1 by omega),c]
 cases h1:e.At==r.A0.A1
 . rfl
 . cases h2:e.C0.B5==1
   . rfl
   . have:=(d (eq_of_beq h2)).1
     have:=eq_of_beq h1
     omega
theorem Rec22.good{K:Int}{m:Q00}{x:Q01×List Q03}(h:Rec22 K m x):Qn0 8 87 (fedQ m x.1):=
 ⟨h.mg,h.m0,U_0,by have:=h.len;show x.1.B3.length<=_;omega,Zkc h.tr⟩
set_option synthInstance.maxHeartbeats 2000000
set_option synthInstance.maxSize 100000
noncomputable section
instance Z1g (s:List Int):Ck (Q0a s):=let d:Decidable (Q0a s):=(by delta Q0a;infer_instance);⟨@decide _ d,@oY _ d⟩
instance Zrh (m:List Int) (addr:Int) (size:Int):Ck (Qaz m addr size):=ckT (t:=Q3g m addr size) (by delta Q3g;infer_instance)
instance yZ (n:Int):Ck (Qii n):=ckT (t:=Qcz n) (by delta Qcz;infer_instance)
instance xP (w:Int) (low:Int) (n:Int):Ck (Q5m w low n):=ckT (t:=Qag w low n) (by delta Qag;infer_instance)
instance zP (w:Int):Ck (Qlu w):=ckT (t:=Q8d w) (by delta Q8d;infer_instance)
instance vC (m:List Int) (addr:Int) (size:Int):Ck (Q3h m addr size):=ckT (t:=Q79 m addr size) (by delta Q79;infer_instance)
instance qD (c:Q05) (m:List Int) (va:Int) (size:Int) (access:Int):Ck (Q9x c m va size access):=ckT (t:=Q6t c m va size access) (by delta Q6t;infer_instance)
instance vZ (c:Q05) (m:List Int):Ck (Qo6 c m):=ckT (t:=Qd4 c m) (by delta Qd4;infer_instance)
instance zau (c:Q05) (m:List Int):Ck (Ql7 c m):=ckT (t:=Q7u c m) (by delta Q7u;infer_instance)
instance Zok (x:Int):Ck (Qda x):=ckT (t:=Q1x x) (by delta Q1x;infer_instance)
instance xD (b:Q08) (pages:Int):Ck (Qdy b pages):=ckT (t:=Q4d b pages) (by delta Q4d;infer_instance)
instance Zhq (m:Q00):Ck (Q2w m):=ckT (t:=Q1w m) (by delta Q1w;infer_instance)
instance zD (m:Q00):Ck (Q3o m):=ckT (t:=Q5h m) (by delta Q5h;infer_instance)
instance xo (m:Q00):Ck (Q3r m):=ckT (t:=Q3e m) (by delta Q3e;infer_instance)
instance zo (m:Q00):Ck (Qcm m):=ckT (t:=Q49 m) (by delta Q49;infer_instance)
instance Zri (m:Q00):Ck (Qau m):=ckT (t:=Q2z m) (by delta Q2z;infer_instance)
instance vo (m:Q00) (clock:Int):Ck (Q2l m clock):=ckT (t:=Q2y m clock) (by delta Q2y;infer_instance)
instance xau (pages:Int):Ck (Qgm pages):=ckT (t:=Qfv pages) (by delta Qfv;infer_instance)
instance qav (pages:Int) (blocks:Int) (image:List Int):Ck (Qa1 pages blocks image):=ckT (t:=Q90 pages blocks image) (by delta Q90;infer_instance)
instance Zgs (m:Q00):Ck (Q1r m):=ckT (t:=Q2d m) (by delta Q2d;infer_instance)
instance Qt3 (s:List Q0f):Ck (Q0y s):=let d:Decidable (Q0y s):=(by delta Q0y;infer_instance);⟨@decide _ d,@oY _ d⟩
instance Qtt (s:List Q07):Ck (Q12 s):=let d:Decidable (Q12 s):=(by delta Q12;infer_instance);⟨@decide _ d,@oY _ d⟩
instance Zrf (r:Q01):Ck (Q4 r):=ckT (t:=Q61 r) (by delta Q61;infer_instance)
instance yP (m:Q00):Ck (Qln m):=ckT (t:=Qam m) (by delta Qam;infer_instance)
instance Zrk (p:Q02):Ck (Q7y p):=ckT (t:=Q5x p) (by delta Q5x;infer_instance)
instance vP (m:Q00):Ck (Qg5 m):=ckT (t:=Q9s m) (by delta Q9s;infer_instance)
instance qp (p:Q02):Ck (Qhi p):=ckT (t:=Q7i p) (by delta Q7i;infer_instance)
instance Zrg (p:Q02):Ck (Q89 p):=ckT (t:=Q6 p) (by delta Q6;infer_instance)
instance xp (script:List Q0f):Ck (Q52 script):=let d:Decidable (Q52 script):=(by delta Q52;infer_instance);⟨@decide _ d,@oY _ d⟩
instance Qu (s:List Q0f) (n:Int):Ck (Q1h s n):=let d:Decidable (Q1h s n):=(by delta Q1h;infer_instance);⟨@decide _ d,@oY _ d⟩
instance Qsf (slices:(List (List Q0f))):Ck (Q2t slices):=ckT (t:=Q14 slices) (by delta Q14;infer_instance)
instance yD (p:Q02) (l:List Q0f) (known:Int):Ck (Qeu p l known):=ckT (t:=Q6s p l known) (by delta Q6s;infer_instance)
instance zp (p:Q02) (fr1:Int):Ck (Qhs p fr1):=ckT (t:=Q7k p fr1) (by delta Q7k;infer_instance)
instance Zpm (p:Q02) (steps:Int):Ck (Q9f p steps):=ckT (t:=Q51 p steps) (by delta Q51;infer_instance)
theorem Zlo:Q4k:=ck (ckT (t:=Qev) (by delta Qev;infer_instance)) (by kernel_rfl)
theorem Zia:Qae=true:=by kernel_rfl
theorem aw22{W:Bool->Prop}(h:W true):(Tree.an Q4k (.lv Qae λx=> .lf x)).w W:=w_an Zlo (w_lv λx e=>by show W x;rw[e,Zia];exact h)
end
theorem Zqx{P:Nat}{a b:Q00}{L:List Q0f}{o:List Q03}(h:Q9n a L o b)(g:good P a)(hc:a.A1<b.A1):
   (∃e M,L={At:=a.A1,C0:=e}::M/\e.B5≠1/\U e.N/\(Q0n a e).1=true/\Q9n (Q0n a e).2 M o b)\/
   (∃c M p,L={At:=a.A1,C0:={B5:=1,N:=c,C8:=[]}}::M/\Q0s a=false/\Q0h a=true/\U c/\o=(Q0k a c).1++p/\Q9n (Q0k a c).2 M p b)\/
   (∃p,Q0s a=false/\Q0h a=false/\(∀e∈L,a.A1<e.At)/\o=(Q0k a 0).1++p/\Q9n (Q0k a 0).2 L p b):=by
 cases h with
 |nil=>omega
 |ev h1 h2 h3 h4=>exact .inl ⟨_,_,rfl,h2,h3,h1,h4⟩
 |rd h1 h2 h3 h4=>exact .inr (.inl ⟨_,_,_,rfl,h1,h2,h3,rfl,h4⟩)
 | @st _ _ c _ _ h1 h2 h3 h4=>
   refine .inr (.inr ?_)
   have e:Q0k a c=Q0k a 0:=by
     have s1:=g.step h1 c
     have s0:=g.step h1 0
     have:=Zpl (m:=a) (by rw[Qwx g.v];exact h2) c 0
     rw[s1,s0]at this
     injection this with p q
     exact eV q p
   obtain⟨g1,c1,_⟩:=Q6v g h1 h3
   have r:=(h4.good g1).2.2
   rw[c1]at r
   rw[e]at h4
   exact⟨_,h1,h2,λe he=>by have:=r e he;omega,by rw[e],h4⟩
theorem Qy6{P:Nat}{a b:Q00}{L:List Q0f}{o:List Q03}(h:Q9n a L o b)(g:good P a)(hc:b.A1<=a.A1):o=[]/\((L=[]/\a=b)\/ ∃e M,L={At:=a.A1,C0:=e}::M/\U e.N/\(Q0n a e).1=true/\Q9n (Q0n a e).2 M [] b):=by
 have main: ∀{a b:Q00} {L:List Q0f} {o:List Q03},Q9n a L o b->good P a->b.A1<=a.A1->o=[]:=by
   intro a b L o h
   induction h with
   |nil=>exact λ_ _=>rfl
   | ev h1 h2 h3 _ ih=>
     intro g hc
     obtain⟨g1,c1⟩:=Qe8 g h3
     exact ih g1 (by omega)
   | rd h1 h2 h3 h4 ih=>
     intro g hc
     obtain⟨g1,c1,_⟩:=Q6v g h1 h3
     have:=(h4.good g1).2.1;omega
   | st h1 h2 h3 h4 ih=>
     intro g hc
     obtain⟨g1,c1,_⟩:=Q6v g h1 h3
     have:=(h4.good g1).2.1;omega
 have z:=main h g hc
 refine⟨z,?_⟩
 cases h with
 |nil=>exact .inl ⟨rfl,rfl⟩
 |ev h1 h2 h3 h4=>rw[z]at h4;exact .inr ⟨_,_,rfl,h3,h1,h4⟩
 | rd h1 h2 h3 h4=>
   obtain⟨g1,c1,_⟩:=Q6v g h1 h3
   have:=(h4.good g1).2.1;omega
 | st h1 h2 h3 h4=>
   obtain⟨g1,c1,_⟩:=Q6v g h1 h3
   have:=(h4.good g1).2.1;omega
theorem Z59: ∀(l:List Q0f) (m:Q00),(dueF l m).2<:+l
 |[],m=>bW _
 | e ::l,m=>by
   by_cases h1:e.At<=m.A1
   . cases h2:e.C0.B5 !=1
     . rw[Qiv h2];exact bW _
     . rw[Qxx h1 h2];exact(Z59 l _).trans (cA e l)
   . rw[Qmd h1];exact bW _
theorem vp{l:List Q0f}{m:Q00}{e:Q0f}{M:List Q0f}(h:(dueF l m).2=e::M)(h1:e.At<=(dueF l m).1.A1)(h2:e.C0.B5≠1):False:=by
 have i:=Zja l m
 rw[h,Qxx h1 (bne_iff_ne.2 h2)]at i
 have s:=(Z59 M (Q0n (dueF l m).1 e.C0).2).length_le
 rw[i,h,dF]at s
 omega
theorem Zr{P:Nat}{a b:Q00}{L:List Q0f}{o:List Q03}(h:Q9n a L o b):good P a->Q9n (dueF L a).1 (dueF L a).2 o b:=by
 induction h with
 |nil=>intro _;exact .nil
 | ev h1 h2 h3 h4 ih=>
   intro g
   rw[Qxx (cS _) (bne_iff_ne.2 h2)]
   exact ih (Qe8 g h3).1
 |rd h1 h2 h3 h4 _=>intro g;rw[Qiv rfl];exact .rd h1 h2 h3 h4
 | @st m n c L o h1 h2 h3 h4 ih=>
   intro g
   obtain⟨g1,c1,_⟩:=Q6v g h1 h3
   have e:dueF L m=(m,L):=by
     cases L with
     |nil=>rfl
     |cons e L=>exact Qmd (by have:=(h4.good g1).2.2 e (by simp);omega)
   rw[e];exact .st h1 h2 h3 h4
theorem qQ{p:Q02}{c:Int}{M:List Q0f}(hl:p.B3={At:=p.A0.A1,C0:={B5:=1,N:=c,C8:=[]}}::M)(hr:Q0h p.A0=true):Qoy p=true/\Qc0 p=(c,M,wrap .u32 (c+1)):=by
 refine⟨?_,?_⟩
 . unfold Qoy;rw[hl]
   show(bif Q0h p.A0 then(bif(1:Int)==1 then p.A0.A1==p.A0.A1 else false) else _)=true
   rw[hr]
   show(p.A0.A1==p.A0.A1)=true
   exact beq_self_eq_true _
 . have f:Qos p=c:=by unfold Qos;rw[hl]
   unfold Qc0;rw[hr,f,hl];rfl
theorem xQ{p:Q02}(hl: ∀e∈p.B3,p.A0.A1<e.At)(hr:Q0h p.A0=false):Qoy p=true/\Qc0 p=(0,p.B3,p.A3):=by
 refine⟨?_,by unfold Qc0;rw[hr];rfl⟩
 unfold Qoy
 cases h:p.B3 with
 |nil=>show(!Q0h p.A0)=true;rw[hr];rfl
 | cons e M=>
   have:=hl e (by rw[h];simp)
   show(bif Q0h p.A0 then _ else !(bif e.C0.B5==1 then decide (e.At<=p.A0.A1) else false))=true
   rw[hr,dN (by omega)]
   cases e.C0.B5==1<;>rfl
structure Went(b:Q00)(O:List Q03)(p:Q02)(n:Nat)(o:List Q03)(q:Q02×List Q03):Prop where
 ex: ∃O1 O2,O=O1++O2/\q.2=o++O1/\Q9n q.1.A0 q.1.B3 O2 b
 kn:q.1.C7=p.C7
 cnt:q.1.A0.A1=b.A1\/q.1.A0.A1=p.A0.A1+n
theorem Zf9{P:Nat}: ∀(n:Nat) {k:Int} {p:Q02} {b:Q00} {O:List Q03} (o:List Q03),Qn0 P k p->p.C7=b.A1->Q9n p.A0 p.B3 O b->Went b O p n o (folF n p o)
  |0,k,p,b,O,o,h,hk,t=>⟨⟨[],O,rfl,(cJ o).symm,t⟩,rfl, .inr (by show p.A0.A1=p.A0.A1+(0:Nat);omega)⟩
  | n + 1,k,p,b,O,o,h,hk,t=>by
    have le:=(t.good h.m).2.1
    by_cases hc:p.C7<=p.A0.A1
    . rw[Quo hc]
      exact⟨⟨[],O,rfl,(cJ o).symm,t⟩,rfl, .inl (by show p.A0.A1=b.A1;omega)⟩
    . obtain⟨g,gc,_⟩:=Qu6 h
      have t2:Q9n (setF p).A0 (setF p).B3 O b:=Zr t h.m
      have go: ∀{O':List Q03},Q0s (setF p).A0=false->Qoy (setF p)=true->O=outF (setF p)++O'->Q9n (goF (setF p)).A0 (goF (setF p)).B3 O' b->Went b O p (n+1) o (folF (n+1) p o):=fun{O'} hs hp ho ht=>by
        obtain⟨k1,k2,k3⟩:=Z26 g hs
        obtain⟨⟨O1,O2,e1,e2,e3⟩,kn,ct⟩:=Zf9 n (o++outF (setF p)) k1 (show(goF (setF p)).C7=b.A1 from hk) ht
        rw[Zel hc hs hp]
        exact⟨⟨outF (setF p)++O1,O2,by rw[ho,e1,fE],by rw[e2,fE],e3⟩,kn,by rcases ct with c|c;exact .inl c;exact .inr (by omega)⟩
      rcases Zqx t2 g.m (by omega) with⟨e,M,e1,e2,_⟩|⟨c,M,O',e1,e2,e3,e4,e5,e6⟩|⟨O',e2,e3,e4,e5,e6⟩
      . exact(vp (l:=p.B3) (m:=p.A0) e1 (cS _) e2).elim
      . obtain⟨pr,tk⟩:=qQ e1 e3
        refine go e2 pr (by unfold outF;rw[tk];exact e5) ?_
        unfold goF;rw[tk];exact e6
      . obtain⟨pr,tk⟩:=xQ e4 e3
        refine go e2 pr (by unfold outF;rw[tk];exact e5) ?_
        unfold goF;rw[tk];exact e6
theorem Went.done{P:Nat}{k:Int}{b:Q00}{O:List Q03}{p:Q02}{n:Nat}{o:List Q03}{q:Q02×List Q03}(h:Went b O p n o q)(g:Qn0 P k q.1)(hn:b.A1<=p.A0.A1+n):q.1.A0.A1=b.A1/\q.2=o++O/\Q9n q.1.A0 q.1.B3 [] b:=by
 obtain⟨⟨O1,O2,e1,e2,e3⟩,_,ct⟩:=h
 have le:=(e3.good g.m).2.1
 have c:q.1.A0.A1=b.A1:=by rcases ct with c|c<;>omega
 obtain⟨z,_⟩:=Qy6 e3 g.m (by omega)
 subst z
 rw[cJ]at e1
 subst e1
 exact⟨c,e2,e3⟩
def Zdy(l:List Q0f)(m:Q00):Q00:=l.foldl (λm e=>(Q0n m e.C0).2) m
theorem Znl{P:Nat}: ∀{L:List Q0f} {a b:Q00},Q9n a L [] b->good P a->b.A1<=a.A1->Zdy L a=b
 | [],a,b,h,g,hc=>by
   obtain⟨_,⟨_,e⟩|⟨e,M,he,_⟩⟩:=Qy6 h g hc
   . exact e
   . cases he
 | x ::L,a,b,h,g,hc=>by
   obtain⟨_,⟨e,_⟩|⟨e,M,he,hu,_,t⟩⟩:=Qy6 h g hc
   . cases e
   . cases he
     obtain⟨k1,k2⟩:=Qe8 g hu
     show Zdy L (Q0n a e).2=b
     exact Znl t k1 (by omega)
theorem Zj9{P:Nat}{C:Int}(hC:C<4294967296): ∀(n:Nat) {k:Int} {p:Q02} (o:List Q03),Qn0 P k p->(∀e∈p.B3,e.C0.B5=1->e.C0.N<C)->p.A3<=C->(folF n p o).1.A3<=C
  |0,k,p,o,h,hl,hc=>hc
  | n + 1, k, p,o,h,hl,hc=>by
    by_cases hk:p.C7<=p.A0.A1
    . rw[Quo hk];exact hc
    . obtain ⟨g,gc,sf⟩:=Qu6 h
      cases hs:Q0s (setF p).A0
      . cases hp:Qoy (setF p)
        . rw[Z4n hk hs hp];exact hc
        . rw [Zel hk hs hp]
          obtain⟨k1,_⟩:=Z26 g hs
          obtain⟨_,_,ts⟩:=Zlu g
          refine Zj9 hC n _ k1 (λe he=>hl e (sf.subset (ts.subset he))) ?_
          show(Qc0 (setF p)).2.2<=C
          unfold Qc0
          cases hr:Q0h (setF p).A0
          . exact hc
          . show wrap .u32 (Qos (setF p)+1)<=C
            unfold Qoy at hp
            unfold Qos
            cases hL:(setF p).B3 with
            |nil=>rw[hL]at hp;simp [hr]at hp
            | cons e M=>
              rw[hL]at hp
              have he:=hl e (sf.subset (by rw[hL];simp))
              have hu:=g.u e (by rw[hL];simp)
              have k1:e.C0.B5=1:=by
                cases h1:e.C0.B5==1
                . simp [hr,h1]at hp
                . exact eq_of_beq h1
              have:=he k1
              have:=hu.1
              show wrap .u32 (e.C0.N+1)<=C
              rw[wrap_u32]
              omega
      . rw[Qxu hk hs];exact hc
theorem zav{P:Nat}{k:Int}{p:Q02}(h:Qn0 P k p)(hk:p.A0.A1=p.C7):(Q6 p).w (λx=>x=({A0:=Zdy p.B3 p.A0,A3:=p.A3,B3:=[],A2:=[]},true)):=by
 have hl:=h.log
 unfold Q6
 refine w_an (Tree.pp (Zar h.m.ok.target.2)).1 (w_lv λx0 e0=>w_br (λhb=>by rw[e0,h.m.may]at hb;cases hb) λ_=>w_br (λhb=>by rw[hk,bne_self_eq_false]at hb;cases hb) λ_=> ?_)
 refine w_lp (inv:=λv:Int×Q00=>0<=v.1/\v.1<=p.B3.length/\good P v.2/\Zdy (p.B3.drop v.1.toNat) v.2=Zdy p.B3 p.A0) (μ:=Qjb p) ⟨cS 0,by show(0:Int)<=_;omega,h.m,rfl⟩ (cK _) λv ⟨v0,v1,v2,v3⟩=> ?_
 obtain⟨i,m⟩:=v
 have v0:0<=i:=v0
 have v1:i<=p.B3.length:=v1
 have v2:good P m:=v2
 have v3:Zdy (p.B3.drop i.toNat) m=Zdy p.B3 p.A0:=v3
 refine w_br (λhb=> ?_) (λhb=> ?_)
 . have hb:i<p.B3.length:=oY hb
   have hlt:i.toNat<p.B3.length:=by omega
   have ed:=Zej hlt
   have hm:p.B3.getD i.toNat (RK.dflt RK.apiEntry)∈p.B3:=by rw[ed];exact cM hlt
   have ue:=h.u _ hm
   rw[aB hlt,<-ed]at v3
   have ew:i64.wrap (i+1)=i+1:=by rw[wrap_i64];omega
   obtain⟨k1,k2⟩:=Qe8 v2 ue
   refine w_cn (by simp [bT];omega) (w_an (Qyr v2.v v2.len ue) (w_lv λx1 e1=>w_nx ?_))
   have e1:x1=((Q0n m (p.B3.getD i.toNat (RK.dflt RK.apiEntry)).C0).2,(Q0n m (p.B3.getD i.toNat (RK.dflt RK.apiEntry)).C0).1):=e1.trans (v2.app _)
   have e2:x1.1=(Q0n m (p.B3.getD i.toNat (RK.dflt RK.apiEntry)).C0).2:=congrArg Prod.fst e1
   show(0<=i64.wrap (i+1)/\i64.wrap (i+1)<=p.B3.length/\good P x1.1/\Zdy (p.B3.drop (i64.wrap (i+1)).toNat) x1.1=_)/\(p.B3.length-i64.wrap (i+1)).toNat<(p.B3.length-i).toNat
   rw[ew,e2,show(i+1).toNat=i.toNat+1 by omega]
   exact⟨⟨by omega,by omega,k1,v3⟩,by omega⟩
 . have hb: ¬i<p.B3.length:=oN hb
   rw[aA (by omega)]at v3
   have v3:m=Zdy p.B3 p.A0:=v3
   refine Q0e (xaM v2.len) λx2 e2=> ?_
   show(({A0:=x2.A0,A3:=p.A3,B3:=x2.B3,A2:=x2.A2}:Q01),true)=_
   rw[e2,v3]
theorem Zhf{P:Nat}: ∀(l:List Q07),(∀e∈l,U e.N)-> ∀{r:Q01},good P r.A0->(l.foldl Q1k r).A0.A1=r.A0.A1
 |[],_,r,_=>rfl
 | e ::l,hu,r,g=>by
   obtain⟨a,b⟩:=Qfq (k:=r.A0.A1) (r:={A0:=r.A0,A3:=0,B3:=r.B3,A2:=r.A2}) ⟨g,U_0,cS _⟩ (hu e (by simp))
   have e1:(Q1k r e).A0=(Q1k {A0:=r.A0,A3:=0,B3:=r.B3,A2:=r.A2} e).A0:=by
     unfold Q1k
     cases(Q0n r.A0 e).1<;>rfl
   rw[aD,Zhf l (λq hq=>hu q (by simp [hq])) (by rw[e1];exact a.m),e1]
   exact b
theorem Rec22.adv{K:Int}{m:Q00}{x:Q01×List Q03}(h:Rec22 K m x)(hK:0<=K/\K<1000000){y:Q01×List Q03}(hy:y=advF x.1 0 0):logP m.A1 (K+4000) (K+12) y.1/\y.1.B3.length<=400/\Q9n m y.1.B3 (x.2++y.2) y.1.A0/\y.1.A0.A1=x.1.A0.A1/\y.1.A2=[]:=by
 have lp:=h.lp
 have hb:=lp.b
 obtain⟨a1,a2⟩:=vm lp.l lp.p.g lp.p.q (steps:=0) (clock:=0) (B:=K) hb (cS 0) hK.1 ⟨cS 0,by decide⟩ (by omega)
 have a3:=zn lp.p.g lp.p.q (steps:=0) (clock:=0) U_0 ⟨cS 0,by decide⟩
 have a4:=advP lp.p 0 U_0
 obtain⟨L,l1,l2⟩:=xZ lp.p.g lp.p.q lp.l.q 0 U_0
 have l3:=h.tr.trans l2
 rw[<-l1]at l3
 have lim:(Q0i 0).toNat=0:=rfl
 have hc:=h.cnt
 have q1:(advF x.1 0 0).1.A2=[]:=by rw[Qlx lp.p.g.m.rmay,Qxc];rfl
 have c1:(advF x.1 0 0).1.A0.A1=x.1.A0.A1:=by
   rw[Qlx lp.p.g.m.rmay,lim,Z57]
   show(x.1.A2.foldl Q1k _).A0.A1=_
   exact(Zhf x.1.A2 lp.p.q.2 (r:={A0:=x.1.A0,A3:=if(0:Int)>x.1.A3 then 0 else x.1.A3,B3:=x.1.B3,A2:=x.1.A2}) lp.p.g.m)
 rw[<-hy]at a1 a2 a3 a4 l3 q1 c1
 refine⟨⟨a4,a1,a2⟩,?_,l3,c1,q1⟩
 unfold cntR at a3 hc
 omega
theorem Z96{r:Q01}{e:Q07}(he:evOK e)(hq:r.A2=[]):Q2c r e=({A0:=r.A0,A3:=r.A3,B3:=r.B3,A2:=[e]},true):=by
 rw[Qa,he.1,show(e.B5==1)=false from beq_false_of_ne he.2,hq];rfl
theorem Zq7{m:Q00}(hm:Q5e m=true){a b c:Int}(ha:a<=c)(hb:b<=c)(l:List Q0f)(q:List Q07)(s:Int):advF {A0:=m,A3:=a,B3:=l,A2:=q} s c=advF {A0:=m,A3:=b,B3:=l,A2:=q} s c:=by
 rw[Qlx (r:={A0:=m,A3:=a,B3:=l,A2:=q}) hm,Qlx (r:={A0:=m,A3:=b,B3:=l,A2:=q}) hm]
 show recF _ (noQ (q.foldl Q1k {A0:=m,A3:=if c>a then c else a,B3:=l,A2:=q})) []=recF _ (noQ (q.foldl Q1k {A0:=m,A3:=if c>b then c else b,B3:=l,A2:=q})) []
 rw[show(if c>a then c else a)=c by split<;>omega,show(if c>b then c else b)=c by split<;>omega]
theorem zQ(kind:Int)(l acts:List Int)(n steps later:Int)(hla:U later)(hl:l.length*8<=reachBytes):Qhz kind l acts n steps later/\Qhk kind l acts n steps later=true:=by
 have aw:(Tree.an Q4k (.lv Qae λx=> .lf x)).w (λr=>r=true):=aw22 rfl
 refine Tree.pp (W:=λr=>r=true) ?_
 unfold Q9j
 refine w_lv λx0 h0=>w_br (λ_=>aw) λhb=>w_br (λ_=>aw) λ_=>w_br (λ_=>aw) λ_=> ?_
 obtain⟨f1,f2⟩:=qM h0 hb
 obtain⟨a,b⟩:=Zj8 kind l hl f1
 refine w_an (Tree.pp (xe kind l hl)).1 (w_lv λm hm=> ?_)
 rw[<-hm]at a b
 refine w_an (Tree.pp (xaE a.ok acts f2)).1 (w_lv λx hx=> ?_)
 rw[qap _ _ (by omega),xk]at hx
 have R:=rec22 a b acts f2 hx
 refine Q0e (zm R.lp.p (by decide) 0 U_0) λy ⟨ey,py,oy⟩=> ?_
 obtain⟨lp,len,tr,ct,qu⟩:=R.adv (by decide) ey
 have gy:=lp.p.g
 have st:=R.steps
 have hc0:=a.ok.cnt
 have cy:=gy.clock
 refine Q0e (qaN gy.m.len (by omega) (by rw[qu];exact aT _)) λz ez=> ?_
 subst ez
 refine Q0e (qau a.len) λq0 e0=> ?_
 subst e0
 have hn:Tree.p (Q6s (newQ m) y.1.B3 y.1.A0.A1)/\Qno (newQ m) y.1.B3 y.1.A0.A1=(fedQ m y.1,true):=by
   obtain⟨w1,w2⟩:=Tree.pp (xaO (p:=newQ m) a.len (aT _) (Zkc tr) y.1.A0.A1)
   refine⟨w1,w2.trans ?_⟩
   exact fedOK lp.l len
 refine w_an hn.1 (w_lv λq1 e1=> ?_)
 have e1:q1=(fedQ m y.1,true):=e1.trans hn.2
 subst e1
 have G:Qn0 8 87 (fedQ m y.1):=⟨a,b,U_0,by show y.1.B3.length<=_;omega,Zkc tr⟩
 refine Q0e (xat G 1000) λw ew=> ?_
 rw[qo G.m.rmay,show(Q0i 1000).toNat=1000 from rfl]at ew
 have W:=Zf9 1000 [] G rfl tr
 obtain⟨GW,_⟩:=Zfy 1000 [] G
 have CL:=Zj9 (C:=y.1.A3) (by have:=cy.2;omega) 1000 [] G (λe he hk=>(lp.l.all e he).2.2.2 hk|>.2.1) cy.1
 rw[<-ew]at W GW CL
 obtain⟨wc,wo,wt⟩:=W.done GW (by show y.1.A0.A1<=m.A1+(1000:Nat);omega)
 have kn:w.1.C7=y.1.A0.A1:=W.kn
 have le:=Znl wt GW.m (by omega)
 refine Q0e (zav GW (by omega)) λv ev=> ?_
 rw[le]at ev
 subst ev
 refine w_br (λh=>by cases h) λ_=>w_br (λh=>by cases h) λ_=>w_br (λh=>absurd (oY h) (by show¬w.1.A3>y.1.A3;omega)) λ_=> ?_
 refine w_an (Tree.pp (Zmb _)).1 (w_lv λe ee=> ?_)
 have ue:U e.N:=by rw[ee];exact Zkt _
 have oe:evOK e:=by rw[ee];exact Znk _
 refine Q0e (Zgr (r:={A0:=y.1.A0,A3:=y.1.A3,B3:=[],A2:=y.1.A2}) gy.m.len (aT _) (by show y.1.A2.length<=_;rw[qu];exact aT _) ue) λs1 es1=>Q0e (Zgr (r:={A0:=y.1.A0,A3:=w.1.A3,B3:=[],A2:=[]}) gy.m.len (aT _) (aT _) ue) λs2 es2=> ?_
 rw[Z96 (r:={A0:=y.1.A0,A3:=y.1.A3,B3:=[],A2:=y.1.A2}) oe qu]at es1
 rw[Z96 (r:={A0:=y.1.A0,A3:=w.1.A3,B3:=[],A2:=[]}) oe rfl]at es2
 subst es1
 subst es2
 have tm0:=fJ 1000 hla.1
 have tm1:=fI later (b:=1000) (by decide)
 have hB:=lp.b
 have wc:wrap .u32 (y.1.A3+dB later 1000)=y.1.A3+dB later 1000:=by
   have:=cy.1;rw[wrap_u32];omega
 have uc:U (wrap .u32 (y.1.A3+dB later 1000)):=Q0v _
 have g1:Qp0 8 125000 {A0:=y.1.A0,A3:=y.1.A3,B3:=[],A2:=[e]}:=⟨⟨gy.m,gy.clock,gy.cnt⟩,⟨by show 1<=16;decide,λq hq=>by rw[List.mem_singleton.1 hq];exact ue⟩,by show((0:Nat):Int)<=_;decide⟩
 have g2:Qp0 8 125000 {A0:=y.1.A0,A3:=w.1.A3,B3:=[],A2:=[e]}:=⟨⟨gy.m,GW.clock,gy.cnt⟩,⟨by show 1<=16;decide,λq hq=>by rw[List.mem_singleton.1 hq];exact ue⟩,by show((0:Nat):Int)<=_;decide⟩
 refine Q0e (zm g1 (by decide) steps uc) λt1 ⟨et1,pt1,ot1⟩=>Q0e (zm g2 (by decide) steps uc) λt2 ⟨et2,_,_⟩=> ?_
 have e12:t2=t1:=by
   rw[et1,et2,wc]
   exact Zq7 gy.m.rmay (by omega) (by omega) [] [e] steps
 subst e12
 have pl:=pt1.l
 have pq:=pt1.q.1
 have so:Qco t2.2 t2.2=true:=Tree.post _ (yj t2.2 (by omega))
 refine Q0e (zL t2.1 (by have:=pt1.g.m.len;omega) (by omega) (by omega)) λs1 h1=>w_br (λ_=>w_an (show t2.2.length<=1000000000000 by omega) (w_lv λs2 h2=>w_br (λ_=>aw) λh=> ?_)) λh=>by rw[h1]at h;cases h
 have h2:s2=Qco t2.2 t2.2:=h2
 rw[h2,so]at h;cases h

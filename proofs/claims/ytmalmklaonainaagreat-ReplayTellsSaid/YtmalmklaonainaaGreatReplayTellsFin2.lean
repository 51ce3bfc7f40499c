import Derived.Test.YtmalmklaonainaaGreatReplayTellsLaws2
import Derived.Test.YtmalmklaonainaaGreatReplayTellsNewsB
import Derived.Test.YtmalmklaonainaaGreatReplayTellsZt
open Nat renaming lt_succ_self->cK, beq->bS, blt->bT, zero_le->aT, le_refl->aO, le_trans->bH, min_le_left->cW, le_of_eq->dG, pow_le_pow_right->dO, and_le_left->dW, pow_lt_pow_right->dX, two_pow_pos->eB, two_pow_add_eq_or_of_lt->eG, eq_of_testBit_eq->eH, testBit_mod_two_pow->eI, testBit->eJ, zero_testBit->eZ, testBit_and->fA, le_succ->fC, le_mul_of_pos_right->fJ
open List renaming getD_eq_getElem?_getD->cL, getElem?_eq_getElem->cG, getElem_mem->cM, replicate->cN, append->cO, mem_cons->cP, not_mem_nil->cQ, length_take->bD, length_drop->bF, mem_of_mem_take->cS, mem_of_mem_drop->cU, length_singleton->cV, take->cY, drop->dA, set->dB, length_set->dC, length_cons->dD, length_nil->dE, length->dF, range->dP, getD->aK, ext_getElem->bM, getElem?_take->aU, take_of_length_le->eV, drop_eq_getElem_cons->aB, foldl_cons->aD, drop_eq_nil_of_le->aA, append_assoc->fE, suffix_refl->bW, all_cons->fG, mem_cons_of_mem->fH, length_map->fI
open Int renaming le_refl->cR, tmod->cX, toNat->cZ, emod_eq_of_lt->dH, pow_pos->dI, fdiv_eq_ediv_of_nonneg->dJ, le_of_lt->dK, pow_add->dL, mul_le_mul_of_nonneg_right->dM, lt_or_le->dR, toNat_natCast->dZ, tmod_eq_emod_of_nonneg->eA, toNat_of_nonneg->eC, fdiv->eF, tdiv->eO, tdiv_eq_ediv_of_nonneg->eQ, ediv_ediv_of_nonneg->eW, mul_ediv_add_emod->eX, pow_succ->eY, sub_zero->fB
open Bool renaming or_eq_true->aI, eq_iff_iff->eD, noConfusion->eU
open UInt8 renaming toNat_lt->dQ, toNat->eR, ofNat->eS
open BitVec renaming ofInt->dS, toNat_ofInt->dT, toNat_or->dU, toNat_and->dV, getLsbD->eK, eq_of_toNat_eq->eL, ofInt_natCast->eM, toNat_ofNat->eN
open Prod renaming ext->eT, fst->fD, snd->fF
set_option maxRecDepth 100000
set_option linter.all false
namespace Go.Proofs.YtmalmklaonainaaGreat
open Go Go.GD
open Go.IntKind(wrap i64 u32 u64 u8 wrap_i64 wrap_u32 wrap_u64 wrap_u8 wrap_i32)
theorem vG(i:Q0o):U (Q1t i).1:=by
 refine Tree.post (Qik i) (W:=λr=>U r.1) ?_
 unfold Qik
 exact w_lv λ_ _=>w_br (λ_=>U_0) (λ_=>U_or _ _)
theorem zW(l:List Int)(hl:l.length*8<=reachBytes):(Qkh l).w (λr=>(r.length:Int)=l.length/\ ∀w∈r,U w):=by
 have hl':l.length*8<=140737488351232:=hl
 have app: ∀{r:List Int} {x:Int},(∀w∈r,U w)->U x-> ∀w∈r++[x],U w:=λhr hx w hw=>by
   rw[List.mem_append]at hw
   rcases hw with hw|hw
   . exact hr w hw
   . rw[List.mem_singleton.1 hw];exact hx
 unfold Qkh
 refine w_lp (inv:=λz=>Qt1 l z/\ ∀w∈z.2,U w) (μ:=Qeo l) ⟨⟨by omega,by simp,by simp⟩,by simp⟩ (cK _) (λv0 hv=> ?_)
 obtain⟨⟨h1,h2,h3⟩,h4⟩:=hv
 refine w_br (λh=> ?_) (λh=> ?_)
 . have h:=oY h
   have next: ∀x:Int,U x->(Qt1 l (wrap i64 (v0.1+1),v0.2++[x])/\ ∀w∈v0.2++[x],U w)/\Qeo l (wrap i64 (v0.1+1),v0.2++[x])<Qeo l v0:=λx hx=>by
     have hw:i64.wrap (v0.1+1)=v0.1+1:=by rw[wrap_i64];omega
     rw[hw]
     refine⟨⟨⟨?_,?_,?_⟩,app h4 hx⟩,?_⟩
     . show 0<=v0.1+1;omega
     . show v0.1+1<=l.length;omega
     . show((v0.2++[x]).length:Int)=v0.1+1;simp;omega
     . show(l.length-(v0.1+1)).toNat<(l.length-v0.1).toNat;omega
   have hb:(bS 1 1&&bT 0 1&&decide (0<=v0.1/\v0.1<(l.length:Int)))=true:=by simp [bT];omega
   have hc:decide (4*(v0.2.length+1)<=140737488355328)=true:=dY (by omega)
   exact w_cn hb (w_br (λ_=>w_cn hb (w_cn hc (next _ (Q0u _)))) (λ_=>w_cn hb (w_an (zV _) (w_lv λx0 _=>w_lv λx1 hx=>w_cn hc (next _ (by rw[hx];exact vG _))))))
 . have h:=oN h
   exact⟨by show(v0.2.length:Int)=l.length;omega,h4⟩
theorem Qn8(steps:Int):0<=Q0i steps/\Q0i steps<=4000:=by
 refine Tree.post (Qf0 steps) (W:=λr=>0<=r/\r<=4000) ?_
 unfold Qf0
 refine w_lf ?_
 constructor<;>(repeat' split)<;>omega
theorem Zh8{P:Nat}{r:Q02}(h:okR P r)(steps:Int){clock:Int}(hc:U clock)(hl:r.B3.length<=900000)(hq:r.A9.length<=1000)(hu: ∀q∈r.A9,U q.N):
    (Q6 r steps clock).w (λx=>okR P x.1/\x.1.B3.length<=r.B3.length+r.A9.length+8000/\(x.1.A9=r.A9\/x.1.A9=[])/\x.2.length<=4000):=by
  unfold Q6
  refine Q0c (own_w h (by omega) (by omega)) λx0 hx=> ?_
  obtain⟨k1,k2,k3⟩:=hx
  refine w_lv λx1 _=>w_br (λ_=>⟨k1,by rw[k2];omega, .inl k3,aT _⟩) (λ_=> ?_)
  have hcl:U (if clock>x0.A7 then clock else x0.A7):=by split<;>first|exact hc|exact k1.clock
  refine w_lp (inv:=λz=>0<=z.1/\z.1<=r.A9.length/\okR P z.2/\(z.2.B3.length:Int)<=r.B3.length+z.1/\z.2.A9=r.A9) (μ:=Qdt r steps clock) ⟨by omega,by omega,⟨k1.m,hcl⟩,by rw[k2];omega,k3⟩ (cK _) (λz hz=> ?_)
  obtain⟨z1,z2,z3,z4,z5⟩:=hz
  refine w_br (λhb=> ?_) (λhb=> ?_)
  . have hb:=oY hb
    rw[z5]at hb
    have hm:(z.2.A9.getD z.1.toNat (RK.dflt RK.apiEvent))∈r.A9:=by
      rw[z5]
      have hlt:z.1.toNat<r.A9.length:=by omega
      rw[cL,cG hlt]
      exact cM hlt
    refine w_cn (by rw[z5];simp [bT];omega) (Q0c (qy z3 (hu _ hm) (by omega)) λx hx=>w_nx ?_)
    obtain⟨a1,a2,a3⟩:=hx
    show(0<=i64.wrap (z.1+1)/\i64.wrap (z.1+1)<=r.A9.length/\okR P x/\(x.B3.length:Int)<=r.B3.length+i64.wrap (z.1+1)/\x.A9=r.A9)/\(x.A9.length-i64.wrap (z.1+1)).toNat<(z.2.A9.length-z.1).toNat
    have ew:i64.wrap (z.1+1)=z.1+1:=by rw[wrap_i64];omega
    rw[ew,a3,z5]
    exact⟨⟨by omega,by omega,a1,by omega,rfl⟩,by omega⟩
  . refine w_lp (inv:=λy=>0<=y.1/\y.1<=4000/\okR P y.2.1/\(y.2.1.B3.length:Int)<=r.B3.length+r.A9.length+2*y.1/\y.2.1.A9=[]/\(y.2.2.length:Int)<=y.1) (μ:=Q6e r steps clock z) ⟨by omega,by omega,⟨z3.m,z3.clock⟩,by simp;omega,rfl,by simp⟩ (cK _) (λy hy=> ?_)
    obtain⟨y1,y2,y3,y4,y5,y6⟩:=hy
    have ew:i64.wrap (y.1+1)=y.1+1:=by rw[wrap_i64];omega
    refine w_lv λx3 hx3=>w_br (λhb=> ?_) (λ_=>⟨y3,by show y.2.1.B3.length<=_;omega, .inr y5,by show y.2.2.length<=_;omega⟩)
    have hb:=oY hb
    have lim:=(Qn8 steps).2
    rw[<-hx3]at lim
    refine w_lv λx4 _=>w_br (λ_=>Q0c (qy (e:=⟨_,_,_⟩) y3 U_0 (by omega)) λx5 h5=> ?_) (λ_=> ?_)
    . obtain⟨q1,q2,q3⟩:=h5
      have q3:=q3.trans y5
      refine Q0c (Zcs _) λs1 _=>w_br (λ_=>⟨q1,by show x5.B3.length<=_;omega, .inr q3,by show y.2.2.length<=_;omega⟩) (λ_=>Q0c (Qq4 q1.m.cpu q1.m.mem) λs2 _=>w_br (λ_=>w_cn (dY (by omega)) (Q0c (Qv4 (r:=⟨x5.A0,x5.A7,x5.B3++[_],x5.A9⟩) ⟨q1.m,q1.clock⟩ q1.clock) λo ho=> ?_)) (λ_=>Q0c (Qv4 q1 q1.clock) λo ho=> ?_))
      . obtain⟨a1,⟨⟨a2,a3⟩,a4,a5⟩⟩:=ho
        have e4:o.2.B3.length=x5.B3.length+1:=by rw[a4];simp
        have a5:o.2.A9=[]:=a5.trans q3
        refine w_cn (dY (by omega)) (w_nx ?_)
        show(0<=i64.wrap (y.1+1)/\i64.wrap (y.1+1)<=4000/\okR P _/\(o.2.B3.length:Int)<=r.B3.length+r.A9.length+2*i64.wrap (y.1+1)/\o.2.A9=[]/\((y.2.2++o.1).length:Int)<=i64.wrap (y.1+1))/\(4000-i64.wrap (y.1+1)).toNat<(4000-y.1).toNat
        rw[ew,a5,lA]
        exact⟨⟨by omega,by omega,⟨a2,Q0u _⟩,by omega,rfl,by omega⟩,by omega⟩
      . obtain⟨a1,⟨⟨a2,a3⟩,a4,a5⟩⟩:=ho
        have e4:o.2.B3.length=x5.B3.length:=by rw[a4]
        have a5:o.2.A9=[]:=a5.trans q3
        refine w_cn (dY (by omega)) (w_nx ?_)
        show(0<=i64.wrap (y.1+1)/\i64.wrap (y.1+1)<=4000/\okR P _/\(o.2.B3.length:Int)<=r.B3.length+r.A9.length+2*i64.wrap (y.1+1)/\o.2.A9=[]/\((y.2.2++o.1).length:Int)<=i64.wrap (y.1+1))/\(4000-i64.wrap (y.1+1)).toNat<(4000-y.1).toNat
        rw[ew,a5,lA]
        exact⟨⟨by omega,by omega,⟨a2,Q0u _⟩,by omega,rfl,by omega⟩,by omega⟩
    . refine Q0c (Zcs _) λs1 _=>w_br (λ_=>⟨y3,by show y.2.1.B3.length<=_;omega, .inr y5,by show y.2.2.length<=_;omega⟩) (λ_=>Q0c (Qq4 y3.m.cpu y3.m.mem) λs2 _=>w_br (λ_=>w_cn (dY (by omega)) (Q0c (Qv4 (r:=⟨y.2.1.A0,y.2.1.A7,y.2.1.B3++[_],y.2.1.A9⟩) ⟨y3.m,y3.clock⟩ y3.clock) λo ho=> ?_)) (λ_=>Q0c (Qv4 y3 y3.clock) λo ho=> ?_))
      . obtain⟨a1,⟨⟨a2,a3⟩,a4,a5⟩⟩:=ho
        have e4:o.2.B3.length=y.2.1.B3.length+1:=by rw[a4];simp
        have a5:o.2.A9=[]:=a5.trans y5
        refine w_cn (dY (by omega)) (w_nx ?_)
        show(0<=i64.wrap (y.1+1)/\i64.wrap (y.1+1)<=4000/\okR P _/\(o.2.B3.length:Int)<=r.B3.length+r.A9.length+2*i64.wrap (y.1+1)/\o.2.A9=[]/\((y.2.2++o.1).length:Int)<=i64.wrap (y.1+1))/\(4000-i64.wrap (y.1+1)).toNat<(4000-y.1).toNat
        rw[ew,a5,lA]
        exact⟨⟨by omega,by omega,⟨a2,Q0u _⟩,by omega,rfl,by omega⟩,by omega⟩
      . obtain⟨a1,⟨⟨a2,a3⟩,a4,a5⟩⟩:=ho
        have e4:o.2.B3.length=y.2.1.B3.length:=by rw[a4]
        have a5:o.2.A9=[]:=a5.trans y5
        refine w_cn (dY (by omega)) (w_nx ?_)
        show(0<=i64.wrap (y.1+1)/\i64.wrap (y.1+1)<=4000/\okR P _/\(o.2.B3.length:Int)<=r.B3.length+r.A9.length+2*i64.wrap (y.1+1)/\o.2.A9=[]/\((y.2.2++o.1).length:Int)<=i64.wrap (y.1+1))/\(4000-i64.wrap (y.1+1)).toNat<(4000-y.1).toNat
        rw[ew,a5,lA]
        exact⟨⟨by omega,by omega,⟨a2,Q0u _⟩,by omega,rfl,by omega⟩,by omega⟩
section
variable {P:Nat} {m:Q00} (h:okM P m)
include h
theorem min_w(port:Int){clock:Int}(hc:U clock):(Qjk m port clock).w (λx=>U x.1/\okM P x.2/\x.2.A2=m.A2):=by
 have k:=(⟨h,rfl⟩:okM P m/\m.A2=m.A2)
 obtain⟨h1,h2,h3,h4,h5,h7⟩:=h
 unfold Qjk
 exact w_br (λ_=>w_lv λx hx=>⟨hx▸Qu1 _ _,⟨⟨h1,h2,h3,h4,h5,h7⟩,rfl⟩⟩) (λ_=>w_br (λ_=>⟨hc,k⟩) (λ_=>w_br (λ_=>w_lv λx hx=>⟨hx▸Z6j _,k⟩) (λ_=>w_br (λ_=>w_lv λx hx=>⟨hx▸Zcg h3 _,k⟩) (λ_=>w_br (λ_=>w_lv λx hx=>⟨hx▸Zko h4 _,k⟩) (λ_=>w_lv λx hx=>⟨hx▸Qul h5.1 _,k⟩)))))
theorem qaB(port:Int){v:Int}(hv:U v):(Qdw m port v).w (λx=>x.1.length<=1/\okM P x.2/\x.2.A2=m.A2):=by
 have k:=(⟨h,rfl⟩:okM P m/\m.A2=m.A2)
 obtain⟨h1,h2,h3,h4,h5,h7⟩:=h
 unfold Qdw
 exact w_br (λ_=>⟨aO _,k⟩) (λ_=>w_br (λ_=>⟨aT _,k⟩) (λ_=>w_br (λ_=>w_lv λ_ _=>⟨aT _,⟨⟨h1,h2,h3,h4,h5,h7⟩,rfl⟩⟩) (λ_=>w_br (λ_=>Q0c (Z3a h2 h3 _ hv _) λx hx=>⟨hx.2,⟨⟨h1,h2,hx.1,h4,h5,h7⟩,rfl⟩⟩) (λ_=>w_br (λ_=>Q0c (Zde h2 h4 _ hv _) λx hx=>⟨hx.2,⟨⟨h1,h2,h3,hx.1,h5,h7⟩,rfl⟩⟩) (λ_=>Q0c (zx h2 h5 _ hv) λx hx=>⟨aT _,⟨⟨h1,hx.2,h3,h4,hx.1,h7⟩,rfl⟩⟩)))))
theorem Z9n{clock:Int}(hc:U clock):(Q7j m clock).w (λx=>x.1.length<=1/\okM P x.2/\x.2.A2=wrap .u64 (m.A2+1)):=by
 obtain⟨h1,h2,h3,h4,h5,h7⟩:=h
 unfold Q7j
 refine Q0c (Qit h1) λx0 c0=>Q0c (do_w c0 h2) λx1 hx=> ?_
 obtain⟨c1,v1,m1⟩:=hx
 refine w_br (λ_=>Zbi (min_w (m:=⟨_,_,_,_,_,_,_,_,_,_⟩) ⟨c1,m1,h3,h4,h5,h7⟩ _ hc) λx2 hx=> ?_) (λ_=>w_br (λ_=>Q0c (qaB (m:=⟨_,_,_,_,_,_,_,_,_,_⟩) ⟨c1,m1,h3,h4,h5,h7⟩ _ v1) λx4 hx=> ?_) (λ_=> ?_))
 . obtain⟨u,⟨k1,k2,k3,k4,k5,k7⟩,k6⟩:=hx
   exact Q0c (Z6r k1 _ u) λx3 h3=>⟨aT _,⟨h3,k2,k3,k4,k5,w0 _⟩,congrArg (λn=>wrap .u64 (n+1)) k6⟩
 . obtain⟨u,⟨k1,k2,k3,k4,k5,k7⟩,k6⟩:=hx
   exact⟨u,⟨k1,k2,k3,k4,k5,w0 _⟩,congrArg (λn=>wrap .u64 (n+1)) k6⟩
 . repeat'(first
     |exact⟨aT _,⟨c1,m1,h3,h4,h5,w0 _⟩,rfl⟩
     |refine w_br (λ_=> ?_) (λ_=> ?_))
theorem yW:(Q9e m).w (λx=>okM P x/\x.A2=m.A2):=by
 obtain⟨h1,h2,h3,h4,h5,h7⟩:=h
 unfold Q9e
 exact Q0c (z8 h2) λx hx=>⟨⟨h1,by rw[hx];exact h2,h3,h4,h5,h7⟩,rfl⟩
end
theorem U_all(n:Nat): ∀w∈cN n (0:Int),U w:=λw hw=>by rw[(List.mem_replicate.1 hw).2];exact U_0
theorem xae:okM 0 ⟨⟨⟨0,0,0,0,0,0,0,0,0,0,0,0,0,0,0,0⟩,0,⟨0,0,0,0,0,0,0,0⟩⟩,[],⟨[]⟩,⟨false,0,false⟩,⟨0,0,0,0,0,0,0,[]⟩,⟨0,0,false,0,false,0⟩,⟨0,0⟩,0,false,false⟩:=
 ⟨⟨U_all 16,U_0,U_all 8⟩,⟨rfl,by omega,by omega,λw hw=>by cases hw⟩,⟨U_0,U_0,U_0,U_0⟩,⟨U_0,U_0,U_0,U_0⟩,⟨U_0,U_0⟩,by decide⟩
theorem Zom{P:Nat}{m:Q00}(h:okM P m)(hc:0<=m.A2):(Qhe m [] 87).w (λx=> ∃Q,okM Q x.1):=by
 have z: ∃Q,okM Q _:=⟨0,xae⟩
 unfold Qhe
 refine w_lv λx0 _=>w_br (λ_=>z) λ_=>w_br (λ_=>z) λ_=>w_br (λ_=>z) λ_=>w_an (show Q6r [] by show([]:List Q0a).length<=1000000000000;decide) (w_lv λx1 _=>w_br (λ_=>z) λ_=>Q0c (yW h) λx2 hx=> ?_)
 refine w_lp (inv:=λv:Q00×List Q03=>okM P v.1/\0<=v.1.A2/\v.2.length+(87-v.1.A2).toNat<=87) (μ:=Qp5 m [] 87) ⟨hx.1,by rw[hx.2];exact hc,by rw[hx.2];show 0+_<=87;omega⟩ (cK _) λv0 ⟨a1,a2,a3⟩=> ?_
 refine w_br (λhb=>w_br (λ_=> ?_) (λ_=>⟨P,a1⟩)) (λ_=>⟨P,a1⟩)
 have hb:=oY hb
 refine w_lp (inv:=λ_=>True) (μ:=Qp9 m [] 87 v0) trivial (cK _) λv1 _=> ?_
 refine w_br (λ_=>⟨P,a1⟩) λ_=>Q0c (qaa _) λx3 _=>w_br (λ_=>⟨P,a1⟩) λ_=>Q0c (xx a1.cpu a1.mem) λx4 _=>w_br (λ_=>z) λ_=>Q0c (Z9n a1 U_0) λx5 h5=> ?_
 obtain⟨b1,b2,b3⟩:=h5
 refine w_cn (dY (by omega)) (w_nx ?_)
 have e:x5.2.A2=v0.1.A2+1:=by rw[b3,wrap_u64];omega
 show(_/\_/\_)/\(_:Nat)<_
 refine⟨⟨b2,by show 0<=x5.2.A2;omega,by show(v0.2++x5.1).length+(87-x5.2.A2).toNat<=87;rw[lA];omega⟩,by show(87-x5.2.A2).toNat<(87-v0.1.A2).toNat;omega⟩
set_option synthInstance.maxHeartbeats 2000000
set_option synthInstance.maxSize 100000
noncomputable section
instance qH (src:List UInt8):Ck (Qm1 src):=ckT (t:=Qgu src) (by delta Qgu;infer_instance)
instance zC (s:List UInt8):Ck (Qjb s):=ckT (t:=Qf7 s) (by delta Qf7;infer_instance)
instance yC (n:Int):Ck (Q3l n):=let d:Decidable (Q3l n):=(by delta Q3l;infer_instance);⟨@decide _ d,@oY _ d⟩
instance qd (n:Int):Ck (Qhx n):=ckT (t:=Q7c n) (by delta Q7c;infer_instance)
instance qaf (r:Int):Ck (Qqb r):=ckT (t:=Qga r) (by delta Qga;infer_instance)
instance vW (s:List UInt8):Ck (Qim s):=ckT (t:=Qkw s) (by delta Qkw;infer_instance)
instance Zry (op:Int):Ck (Qg2 op):=ckT (t:=Qam op) (by delta Qam;infer_instance)
instance Zpn (s:List UInt8):Ck (Q3p s):=ckT (t:=Q90 s) (by delta Q90;infer_instance)
instance xd (what:List UInt8):Ck (Q6u what):=ckT (t:=Qcm what) (by delta Qcm;infer_instance)
instance vC (s:List UInt8):Ck (Ql0 s):=ckT (t:=Qf6 s) (by delta Qf6;infer_instance)
instance zd (l:List Q0l) (p:List UInt8):Ck (Q6p l p):=ckT (t:=Qc7 l p) (by delta Qc7;infer_instance)
instance qD (s:List UInt8):Ck (Qjt s):=ckT (t:=Qex s) (by delta Qex;infer_instance)
instance yd (l:List Q2a) (label:List UInt8):Ck (Q3s l label):=let d:Decidable (Q3s l label):=(by delta Q3s;infer_instance);⟨@decide _ d,@oY _ d⟩
instance qX (src:List UInt8):Ck (Qnu src):=ckT (t:=Qk6 src) (by delta Qk6;infer_instance)
instance xX (st:Q0d) (v:Int):Ck (Qb6 st v):=ckT (t:=Qkp st v) (by delta Qkp;infer_instance)
instance Zrz (src:List UInt8):Ck (Qb5 src):=ckT (t:=Qa4 src) (by delta Qa4;infer_instance)
theorem zaf:Qb5 ((108:UInt8)::(tblZe0++Zk2++(Zgh++Zg0)++(Zh7++Zft++(Zin++Zhs))++(Ziv++Zi++(Z3y++Z47)++(Z3p++Z6i++(Z6d++Z4y))))):=ck inferInstance (by kernel_rfl)
def inU(x:Int):Bool:=decide (0<=x)&&decide (x<4294967296)
theorem xaf(l:List Int)(h:(Nat.ble l.length 160&&List.all l inU)=true):l.length<=160/\ ∀w∈l,U w:=by
 rw[aE]at h
 refine⟨lE h.1,λw hw=> ?_⟩
 have:=List.all_eq_true.1 h.2 w hw
 simp only[inU,aE,decide_eq_true_eq]at this
 exact this
theorem zaB:(Q1o (cO (cO (cO (cO Zmd Zk2) (cO Zgh Zg0)) (cO (cO Zh7 Zft) (cO Zin Zhs))) (cO (cO (cO Ziv Zi) (cO Z3y Z47)) (cO (cO Z3p Z6i) (cO Z6d Z4y))))).1.length<=160/\ ∀w∈(Q1o (cO (cO (cO (cO Zmd Zk2) (cO Zgh Zg0)) (cO (cO Zh7 Zft) (cO Zin Zhs))) (cO (cO (cO Ziv Zi) (cO Z3y Z47)) (cO (cO Z3p Z6i) (cO Z6d Z4y))))).1,U w:=xaf _ (by kernel_rfl)
end
theorem new_w(i:List Int)(hu: ∀w∈i,U w)(hl:i.length<=256):(Qfx 8 4 i).w (λx=>okM 8 x.1/\x.1.A2=0):=by
 unfold Qfx
 refine w_br (λh=>absurd h (by decide)) λ_=>w_br (λh=>absurd h (by decide)) λ_=>w_br (λh=>absurd h (by decide)) λ_=>w_br (λh=>absurd h (by decide)) λ_=>w_br (λh=> ?_) λ_=>w_lv λx0 e0=>w_an (Zii _) (w_lv λx1 e1=> ?_)
 . have h:=oY h
   rw[show i64.wrap (8*32)=256 by decide]at h
   omega
 have hx:x1=cN 256 0:=by rw[e1];kernel_rfl
 have c0:Q2n x0:=by rw[e0];exact⟨by
   intro w hw
   simp only[Qs,Qlz,Tree.m,A16.l,cP,cQ,or_false,or_self]at hw
   rw[hw];exact U_0,U_0,by
   intro w hw
   simp only[Qs,Qlz,Tree.m,A8.l,cP,cQ,or_false,or_self]at hw
   rcases hw with rfl|rfl
   . exact⟨by omega,by omega⟩
   . exact U_0⟩
 have hz: ∀w∈x1,U w:=by rw[hx];exact U_all 256
 have hn:x1.length=256:=by rw[hx,List.length_replicate]
 refine⟨⟨c0,⟨?_,by omega,by omega,λw hw=> ?_⟩,⟨U_0,U_0,U_0,U_0⟩,⟨U_0,U_0,U_0,U_0⟩,⟨U_0,U_0⟩,cR _⟩,rfl⟩
 . simp only[lA,bD,bF,hn];omega
 . rcases List.mem_append.1 hw with h1|h1
   . exact hu w (cS h1)
   . exact hz w (cU h1)
theorem vd(kind:Int)(l:List Int)(hl:l.length*8<=reachBytes):(Qcr kind l).w (λx=> ∃Q,okM Q x):=by
  have hl':l.length*8<=140737488351232:=hl
  unfold Qcr
  refine w_an (Qes (by decide)) (w_lv λx0 _=>w_br (λ_=>w_an zaf (w_lv λx1 e1=> ?_)) (λ_=> ?_))
  . obtain⟨q1,q2⟩:x1.1.length<=160/\ ∀w∈x1.1,U w:=by rw[e1];exact zaB
    refine w_lp (inv:=λv:List Int=>v.length<=160/\ ∀w∈v,U w) (μ:=Qle kind l) ⟨q1,q2⟩ (cK _) λv0 ⟨a1,a2⟩=> ?_
    refine w_br (λhb=> ?_) (λ_=> ?_)
    . have hb:=oY hb
      refine w_cn (dY (by omega)) (w_nx ?_)
      show(_/\_)/\(_:Nat)<_
      refine⟨⟨by rw[lA,cV];omega,λw hw=> ?_⟩,by show 160-(v0++[0]).length<160-v0.length;rw[lA,cV];omega⟩
      rcases List.mem_append.1 hw with h1|h1
      . exact a2 w h1
      . rw[List.mem_singleton.1 h1];exact U_0
    . refine Q0c (zW l hl) λx2 ⟨b1,b2⟩=>w_cn (dY (by omega)) ?_
      have hu: ∀w∈v0++x2,U w:=λw hw=>(List.mem_append.1 hw).elim (a2 w) (b2 w)
      refine w_br (λhb=> ?_) (λhb=> ?_)
      . have hb:=oY hb
        refine w_cn (by simp [bT];rw[lA]at hb;omega) (Q0c (new_w _ (λw hw=>hu w (cU (cS hw))) (by rw[bD];exact bH (cW _ _) (by decide))) λx3 ⟨c1,c2⟩=>w_br (λ_=>Q0c (Zom c1 (by omega)) λx4 hx=>hx) (λ_=>⟨8,c1⟩))
      . have hb:=oN hb
        exact Q0c (new_w _ hu (by omega)) λx3 ⟨c1,c2⟩=>w_br (λ_=>Q0c (Zom c1 (by omega)) λx4 hx=>hx) (λ_=>⟨8,c1⟩)
  . refine Q0c (zW l hl) λx2 ⟨b1,b2⟩=>w_cn (dY (by omega)) ?_
    refine w_br (λhb=> ?_) (λhb=> ?_)
    . have hb:=oY hb
      refine w_cn (by simp [bT];omega) (Q0c (new_w _ (λw hw=>b2 w (cU (cS hw))) (by rw[bD];exact bH (cW _ _) (by decide))) λx3 ⟨c1,c2⟩=>w_br (λ_=>Q0c (Zom c1 (by omega)) λx4 hx=>hx) (λ_=>⟨8,c1⟩))
    . have hb:=oN hb
      exact Q0c (new_w _ b2 (by omega)) λx3 ⟨c1,c2⟩=>w_br (λ_=>Q0c (Zom c1 (by omega)) λx4 hx=>hx) (λ_=>⟨8,c1⟩)
theorem xaB{P:Nat}{r:Q02}(h:okR P r)(n:Int)(hl:r.B3.length<=900000)(hq:r.A9.length<=16)(hu: ∀q∈r.A9,U q.N):
   (Q8l r n).w (λx=>okR P x.1/\x.1.B3.length<=r.B3.length+8016/\(x.1.A9.length<=16/\ ∀q∈x.1.A9,U q.N)/\x.2.length<=4000):=by
 unfold Q8l
 refine w_lv λx0 _=>w_br (λ_=>Q0c (Zm0 n) λe he=>Q0c (xV h e (by omega) hq hu he) λx hx=> ?_) (λ_=>w_an (Qes (by decide)) (w_lv λx3 _=>Q0c (Zh8 h _ (Q0u _) hl (by omega) hu) λx hx=> ?_))
 . obtain⟨a1,a2,a3,a4⟩:=hx
   exact⟨a1,by rw[a2];omega,⟨a3,a4⟩,aT _⟩
 . obtain⟨a1,a2,a3,a4⟩:=hx
   refine⟨a1,by show x.1.B3.length<=_;omega,?_,a4⟩
   rcases a3 with a3|a3
   . rw[a3];exact⟨hq,hu⟩
   . rw[a3];exact⟨aT _,λq hq=>by cases hq⟩
theorem qaC{P:Nat}{m:Q00}(h:okM P m)(l:List Int)(hl:l.length<=30):(Qde m l).w (λx=>okR P x.1):=by
 unfold Qde
 have nr:(Q45 m).w (λx=>okR P x/\x.B3=[]/\x.A9=[]):=by
   unfold Q45
   exact Q0c (yW h) λx hx=>⟨⟨hx.1,U_0⟩,rfl,rfl⟩
 refine Q0c nr λx0 ⟨n1,n2,n3⟩=> ?_
 refine w_lp (inv:=λv:Int×Q02×List Q03=>0<=v.1/\v.1<=l.length/\okR P v.2.1/\(v.2.1.B3.length:Int)<=8016*v.1/\(v.2.1.A9.length<=16/\ ∀q∈v.2.1.A9,U q.N)/\(v.2.2.length:Int)<=4000*v.1) (μ:=Qkr m l) ⟨cR _,by show(0:Int)<=l.length;omega,n1,by rw[n2];exact cR _,by rw[n3];exact⟨aT _,λq hq=>by cases hq⟩,cR _⟩ (cK _) λv0 ⟨a1,a2,a3,a4,⟨a5,a6⟩,a7⟩=> ?_
 refine w_br (λhb=> ?_) (λ_=>a3)
 have hb:=oY hb
 refine w_cn (by simp [bT];omega) (Q0c (xaB a3 _ (by omega) a5 a6) λx1 ⟨b1,b2,b3,b4⟩=>w_cn (dY (by omega)) (w_nx ?_))
 have e:i64.wrap (v0.1+1)=v0.1+1:=by rw[wrap_i64];omega
 show(_/\_/\_/\_/\_/\_)/\(_:Nat)<_
 refine⟨⟨by rw[e];omega,by rw[e];omega,b1,by rw[e];show(x1.1.B3.length:Int)<=_;omega,b3,by rw[e,lA];omega⟩,by show(l.length-i64.wrap (v0.1+1)).toNat<(l.length-v0.1).toNat;rw[e];omega⟩
noncomputable section
end
attribute [local irreducible] Q1o
def out(f:Int)(m m':List Int):Prop:= ∀j:Nat,¬(f*32<=j/\(j:Int)<f*32+32)->m'.getD j 0=m.getD j 0
theorem Qrm(f:Int)(m:List Int):out f m m:=λ_ _=>rfl
theorem getDset(l:List Int)(i j:Nat)(v:Int)(h:i≠j):(l.set i v).getD j 0=l.getD j 0:=by
 simp only[cL,List.getElem?_set_ne h]
theorem Q3z{P:Nat}{m:List Int}(h:Q17 P m):Q1 m=P:=by
 obtain⟨h1,h2,h3,_⟩:=h
 simp only[Q1,Qcw,Tree.m]
 have e:(m.length:Int)=32*P:=by omega
 rw[e]
 have e1:(cX (32*(P:Int)) 32 !=0)=false:=by simp [Int.mul_tmod_right]
 have e2:decide ((32*(P:Int))>1024)=false:=dN (by omega)
 rw[e1,e2]
 simp only[cond_false]
 rw[Int.mul_tdiv_cancel_left _ (by decide),wrap_i64];omega
theorem zX{P:Nat}{m:List Int}(h:Q17 P m)(f:Int):Q5n m f=true->0<=f/\f<P:=by
 have hp:=Q3z h
 simp only[Q5n,Q94,Tree.m,letv,hp]
 cases h1:decide (f>=0)
 . intro h;cases h
 . intro h;exact⟨oY h1,oY h⟩
theorem Z5s{P:Nat}{m:List Int}(h:Q17 P m)(f:Int)(s:List UInt8):(Q3w m f s).w (λr=>Q17 P r.1/\out f m r.1/\(r.2=false->r.1=m)):=by
 have hcl:Q04 m=m:=rfl
 have h2:=h.p2
 unfold Q3w
 refine w_an (Qac h) (w_lv λx0 hx0=>w_lv λx1 hx1=> ?_)
 rw[hcl]at hx0;subst hx0
 refine w_br (λ_=>⟨h,Qrm _ _,λ_=>rfl⟩) λhb=>w_br (λ_=>⟨h,Qrm _ _,λ_=>rfl⟩) λhs=> ?_
 have hb:x1=true:=by simpa using hb
 obtain⟨f0,f1⟩:=zX h f (hx1.symm.trans hb)
 have hs:(s.length:Int)=128:=by simpa using hs
 refine w_lp (inv:=λz:Int×List Int=>0<=z.1/\z.1<=32/\Q17 P z.2/\out f x0 z.2) (μ:=Qbv x0 f s) ⟨show(0:Int)<=0 by decide,show(0:Int)<=32 by decide,h,Qrm _ _⟩ (cK _) λz ⟨z1,z2,z3,z4⟩=> ?_
 refine w_br (λhb=> ?_) (λ_=>⟨z3,z4,λh=>by cases h⟩)
 have hb:=oY hb
 have e1:i64.wrap (4*z.1)=4*z.1:=by rw[wrap_i64];omega
 have e2:i64.wrap (i64.wrap (4*z.1)+4)=4*z.1+4:=by rw[wrap_i64,wrap_i64];omega
 have e3:i64.wrap (i64.wrap (f*32)+z.1)=f*32+z.1:=by rw[wrap_i64,wrap_i64];omega
 have hl:=z3.len
 have hlen:(cY (cZ (i64.wrap (i64.wrap (4*z.1)+4))-cZ (i64.wrap (4*z.1))) (dA (cZ (i64.wrap (4*z.1))) s)).length=4:=by
   rw[e2,e1,bD,bF];omega
 refine w_cn (dY (by rw[e2,e1];omega)) ?_
 refine w_cn (dY (by rw[hlen];decide)) (w_cn (dY (by rw[hlen];decide)) (w_cn (dY (by rw[hlen];decide)) (w_cn (dY (by rw[hlen];decide)) (w_cn (by rw[e3];simp [bT];omega) (w_nx ?_)))))
 show(_/\_/\Q17 P (dB _ _ _)/\out f x0 (dB _ _ _))/\(_:Nat)<_
 have ew:i64.wrap (z.1+1)=z.1+1:=by rw[wrap_i64];omega
 rw[e3]
 refine⟨⟨by rw[ew];omega,by rw[ew];omega,⟨by rw[dC];exact hl,z3.p1,z3.p2,Z8j z3.u (U_or _ _) _⟩,λj hj=> ?_⟩,by show(32-i64.wrap (z.1+1)).toNat<(32-z.1).toNat;rw[ew];omega⟩
 rw[getDset _ _ _ _ (by omega)]
 exact z4 j hj
theorem zaC(w:List Int)(h:w.length<=32):(Q5j w).w (λr=>r.length=4*w.length):=by
 have e0:i64.wrap (4*(w.length:Int))=4*w.length:=by rw[wrap_i64];omega
 unfold Q5j
 refine w_cn (by rw[e0];simp [bT,D.plain];omega) ?_
 refine w_lp (inv:=λz:Int×List Int=>0<=z.1/\z.1<=w.length/\(z.2.length:Int)=4*z.1) (μ:=Q82 w) ⟨by decide,by show(0:Int)<=w.length;omega,rfl⟩ (cK _) λz ⟨z1,z2,z3⟩=> ?_
 refine w_br (λhb=> ?_) (λhb=> ?_)
 . have hb:=oY hb
   have ew:i64.wrap (z.1+1)=z.1+1:=by rw[wrap_i64];omega
   refine w_cn (by simp [bT];omega) (w_cn (dY (by omega)) (w_nx ?_))
   show(_/\_/\_)/\(_:Nat)<_
   refine⟨⟨by rw[ew];omega,by rw[ew];omega,by rw[ew,lA];simp only[dD,dE];omega⟩,by show(w.length-i64.wrap (z.1+1)).toNat<(w.length-z.1).toNat;rw[ew];omega⟩
 . have hb:=oN hb
   show(bytesOf z.2).length=_
   rw[Qj6];omega
theorem Zl1{P:Nat}{m:List Int}(h:Q17 P m)(f:Int):(Q74 m f).w (λr=>0<=f->f<P->r.1.length=128):=by
 have hl:=h.len
 have h2:=h.p2
 unfold Q74
 refine w_lv λx0 hx0=>w_br (λhb=>λf0 f1=> ?_) (λhb=> ?_)
 . have hp:=Q3z h
   have hb:x0=false:=by simpa using hb
   rw[hb]at hx0
   simp only[Q5n,Q94,Tree.m,letv,hp]at hx0
   rw[dY f0]at hx0
   exact absurd f1 (oN hx0.symm)
 . have hb:x0=true:=by simpa using hb
   obtain⟨f0,f1⟩:=zX h f (hx0.symm.trans hb)
   have e1:i64.wrap (f*32)=f*32:=by rw[wrap_i64];omega
   have e2:i64.wrap (i64.wrap (f*32)+32)=f*32+32:=by rw[wrap_i64,wrap_i64];omega
   have hlen:(cY (cZ (i64.wrap (i64.wrap (f*32)+32))-cZ (i64.wrap (f*32))) (dA (cZ (i64.wrap (f*32))) m)).length=32:=by
     rw[e2,e1,bD,bF];omega
   refine w_cn (by rw[e2,e1];simp [bT];omega) ?_
   refine w_an (by show dF _<=1000000000000;rw[hlen];decide) (w_lv λx1 h1=> ?_)
   have h1:x1.length=4*(cY (cZ (i64.wrap (i64.wrap (f*32)+32))-cZ (i64.wrap (f*32))) (dA (cZ (i64.wrap (f*32))) m)).length:=by rw[h1];exact(Tree.pp (zaC _ (dG hlen))).2
   intro _ _
   show x1.length=128
   rw[h1,hlen]
theorem Zna{f:Int}(hf:U f){P:Nat}(hP:P<=32)(h:decide (u64.wrap f<u64.wrap (P:Int))=true):0<=f/\f<P:=by
 have h:=oY h
 obtain⟨h1,h2⟩:=hf
 rw[wrap_u64,wrap_u64,dH h1 (by omega),dH (by omega) (by omega)]at h
 exact⟨h1,h⟩
theorem Zpd{P:Nat}{m:List Int}(h:Q17 P m){d:Q0h}(hd:Q9p d)(e:Q0b):(Q8a d m e).w (λr=>Q9p r.1/\Q17 P r.2.1/\out d.B4 m r.2.1/\(r.2.2=false->r.2.1=m)/\(∀p,Q1q d p=true->Q1q r.1 p=true)):=by
 have hcl:Q04 m=m:=rfl
 have keep: ∀b:Bool,Q9p d/\Q17 P m/\out d.B4 m m/\(b=false->m=m)/\(∀p,Q1q d p=true->Q1q d p=true):=λb=>⟨hd,h,Qrm _ _,λ_=>rfl,λ_ h=>h⟩
 have blk: ∀{p:Int},Q1q d p=true->decide (d.Blocks>64)=false:=fun{p} hm=>by
   cases hb:decide (d.Blocks>64)
   . rfl
   . have:Q1q d p=false:=by simp only[Q1q,Q6m,Tree.m];rw[hb];rfl
     rw[this]at hm;cases hm
 have m2: ∀p,Q1q d p=true->Q1q {Blocks:=d.Blocks,C3:=d.C3,Frame:=d.Frame,C4:=2,D8:=0,B9:=0,B4:=0,C6:=[]} p=true:=λp hm=>by
   simp only[Q1q,Q6m,Tree.m];rw[blk hm];rfl
 have m3: ∀p,Q1q d p=true->Q1q {Blocks:=d.Blocks,C3:=d.C3,Frame:=d.Frame,C4:=3,D8:=0,B9:=0,B4:=0,C6:=[]} p=true:=λp hm=>by
   simp only[Q1q,Q6m,Tree.m];rw[blk hm];rfl
 unfold Q8a
 refine w_br (λ_=>w_an (Qac h) (w_lv λx hx=>by rw[hcl]at hx;subst hx;exact keep _)) λ_=>w_br (λ_=>w_an (Qac h) (w_lv λx hx=>by rw[hcl]at hx;subst hx;exact keep _)) λ_=>w_br (λ_=>w_an (Qac h) (w_lv λx hx=>by rw[hcl]at hx;subst hx;exact keep _)) λ_=>w_an (Qac h) (w_lv λx3 hx3=> ?_)
 rw[hcl]at hx3;subst hx3
 have fin: ∀{m':List Int},Q17 P m'->out d.B4 x3 m'->(Tree.br (e.N==1) (.lf (({Blocks:=d.Blocks,C3:=d.C3,Frame:=d.Frame,C4:=2,D8:=0,B9:=0,B4:=0,C6:=[]}:Q0h),m',true)) (.lf (({Blocks:=d.Blocks,C3:=d.C3,Frame:=d.Frame,C4:=3,D8:=0,B9:=0,B4:=0,C6:=[]}:Q0h),m',true))).w (λr=>Q9p r.1/\Q17 P r.2.1/\out d.B4 x3 r.2.1/\(r.2.2=false->r.2.1=x3)/\(∀p,Q1q d p=true->Q1q r.1 p=true)):=λhm ho=>
   w_br (λ_=>⟨⟨hd.block,hd.frame,U_0,U_0⟩,hm,ho,(λh=>by cases h),m2⟩) (λ_=>⟨⟨hd.block,hd.frame,U_0,U_0⟩,hm,ho,(λh=>by cases h),m3⟩)
 have nod:(Tree.br (!decide (e.D0=[])) (.lf (d,x3,false)) (Tree.br (e.N==1) (.lf (({Blocks:=d.Blocks,C3:=d.C3,Frame:=d.Frame,C4:=2,D8:=0,B9:=0,B4:=0,C6:=[]}:Q0h),x3,true)) (.lf (({Blocks:=d.Blocks,C3:=d.C3,Frame:=d.Frame,C4:=3,D8:=0,B9:=0,B4:=0,C6:=[]}:Q0h),x3,true)))).w (λr=>Q9p r.1/\Q17 P r.2.1/\out d.B4 x3 r.2.1/\(r.2.2=false->r.2.1=x3)/\(∀p,Q1q d p=true->Q1q r.1 p=true)):=
   w_br (λ_=>keep _) (λ_=>fin h (Qrm _ _))
 refine w_br (λ_=>w_br (λ_=>w_lv λx4 hx4=>w_br (λ_=>keep _) λhb=> ?_) (λ_=>nod)) (λ_=>nod)
 have hp:=Q3z h
 have hb:x4=true:=by simpa using hb
 rw[hb]at hx4
 simp only[Qap,Qf8,Tree.m,letv,hp]at hx4
 obtain⟨f0,f1⟩:=Zna hd.opFrame h.p2 hx4.symm
 have ef:i64.wrap d.B4=d.B4:=by have:=h.p2;rw[wrap_i64];omega
 refine Q0c (Z5s h _ _) λx5 ⟨h5,o5,k5⟩=> ?_
 rw[ef]at o5
 exact w_br (λhf=>⟨hd,h5,o5,λ_=>k5 (by simpa using hf),λ_ h=>h⟩) (λ_=>fin h5 o5)
theorem qe{P:Nat}{m:List Int}(h:Q17 P m){n:Q0q}(hn:Ql6 n)(frame:List UInt8):(Qbj n m frame).w (λr=>Ql6 r.1/\Q17 P r.2.1/\out n.C1 m r.2.1/\(r.2.2=false->r.2.1=m)/\(∀p,Q83 n p=true->Q83 r.1 p=true)):=by
 have hcl:Q04 m=m:=rfl
 have keep:Ql6 n/\Q17 P m/\out n.C1 m m/\(false=false->m=m)/\(∀p,Q83 n p=true->Q83 n p=true):=⟨hn,h,Qrm _ _,λ_=>rfl,λ_ h=>h⟩
 unfold Qbj
 refine w_br (λ_=>w_an (Qac h) (w_lv λx hx=>by rw[hcl]at hx;subst hx;exact keep)) λhpo=>w_br (λ_=>w_an (Qac h) (w_lv λx hx=>by rw[hcl]at hx;subst hx;exact keep)) λl1=>w_br (λ_=>w_an (Qac h) (w_lv λx hx=>by rw[hcl]at hx;subst hx;exact keep)) λl2=>w_lv λx3 hx3=>w_br (λ_=>w_an (Qac h) (w_lv λx hx=>by rw[hcl]at hx;subst hx;exact keep)) λhb=> ?_
 have l1:=oN l1
 have l2:=oN l2
 have hp:=Q3z h
 have hb:x3=true:=by simpa using hb
 rw[hb]at hx3
 simp only[Qbg,Qhq,Tree.m,letv,hp]at hx3
 obtain⟨f0,f1⟩:=Zna hn.buffer h.p2 hx3.symm
 have ef:i64.wrap n.C1=n.C1:=by have:=h.p2;rw[wrap_i64];omega
 refine Q0c (Zl1 h _) λx5 h5=> ?_
 rw[ef]at h5
 have h5:=h5 f0 f1
 have hmax:(maxLen:Nat)=9223372036854775807:=rfl
 refine w_cn (dY (by omega)) (w_cn (dY (by simp only[bD,bF,hmax];omega)) (Q0c (Z5s h _ _) λx6 ⟨h6,o6,_⟩=> ?_))
 rw[ef]at o6
 have hg:u32.wrap (frame.length:Int)=frame.length:=by rw[wrap_u32];omega
 refine⟨⟨hn.frame,hn.len,U_0,Q0u _⟩,h6,o6,(λh=>by cases h),λp _=> ?_⟩
 simp only[Q83,Qnf,Tree.m]
 rw[hg,dY (show(frame.length:Int)>=1 by omega),dY (show(frame.length:Int)<=128 by omega)]
 rfl
theorem qag(c:Q0e)(b:Int):(Qcn c b).w (λr=>Q31 c=true->Q31 r.1=true):=by
 have hmax:(maxLen:Nat)=9223372036854775807:=rfl
 unfold Qcn
 refine w_br (λ_=>λh=>h) (λhb=> ?_)
 have hb:=oN hb
 refine w_cn (dY (by rw[hmax];omega)) ?_
 intro _
 show decide (((c.D2++[_]).length:Int)<=16)=true
 rw[lA,cV]
 exact dY (by omega)
theorem xH(t:Q0j)(h:Q63 t=true):Q63 (Qn7 t).1=true:=by
 simp only[Qn7,Qpt,Tree.m]
 cases ha:t.D4
 . exact h
 . rfl
theorem xe(m:Q00):Q1a m=(Q31 m.A3&&(Q63 m.B0&&(Q1q m.B1 (Q1 m.Mem)&&(Q83 m.C2 (Q1 m.Mem)&&Q3o m.A1 (Q1 m.Mem))))):=by
 simp only[Q1a,Q2c,Tree.m,letv]
 cases Q31 m.A3<;>cases Q63 m.B0<;>cases Q1q m.B1 (Q1 m.Mem)<;>cases Q83 m.C2 (Q1 m.Mem)<;>rfl
theorem xaC{b c:Q07}(h:c.C5=b.C5)(p:Int):Q3o c p=Q3o b p:=by
 simp only[Q3o,Q5i,Tree.m,h]
theorem cnd{a x y:Bool}(h:x=true->y=true):(bif a then false else x)=true->(bif a then false else y)=true:=by cases a<;>simp_all
def chain(b1 b2 b3 b4 b5 b6 b7 w h dev:Bool):Bool:=bif b1 then false else bif b2 then false else bif b3 then false else bif b4 then false else bif b5 then false else bif b6 then false else bif b7 then false else bif w then(bif h then false else dev) else dev
theorem Zr0{b1 b2 b3 b4 b5 b6 b7 w h d d':Bool}(hd:d=true->d'=true):chain b1 b2 b3 b4 b5 b6 b7 w h d=true->chain b1 b2 b3 b4 b5 b6 b7 w h d'=true:=by
 refine cnd (cnd (cnd (cnd (cnd (cnd (cnd ?_))))))
 cases w
 . exact hd
 . cases h
   . exact hd
   . exact λh=>h
def mayC(p:Int)(c:Q05)(ct:Int)(w h dev:Bool):Bool:=chain (p==0) (c.X.a0 !=0) (decide (c.B8.a0>31)) (decide (c.B8.a7>31)) (decide (c.B8.a6>255)) (cX c.B8.a1 4 !=0) (decide (ct>1152921504606846976)) w h dev
theorem ye{p:Int}{c:Q05}{ct:Int}{w h d d':Bool}(hd:d=true->d'=true)(g:mayC p c ct w h d=true):mayC p c ct w h d'=true:=Zr0 hd g
theorem yX(m:Q00):Q18 m=mayC (Q1 m.Mem) m.B2 m.A2 m.A4 m.A6 (Q1a m):=rfl
theorem Qv6{m n:Q00}(hp:Q1 n.Mem=Q1 m.Mem)(hcpu:n.B2=m.B2)(hct:n.A2=m.A2)(hw:n.A4=m.A4)(hh:n.A6=m.A6)
   (hc:Q31 m.A3=true->Q31 n.A3=true) (ht:Q63 m.B0=true->Q63 n.B0=true) (hd: ∀p,Q1q m.B1 p=true->Q1q n.B1 p=true) (hn: ∀p,Q83 m.C2 p=true->Q83 n.C2 p=true) (hb:n.A1.C5=m.A1.C5) (h:Q18 m=true):Q18 n=true:=by
 have dev:Q1a m=true->Q1a n=true:=λh=>by
   rw[xe]at h⊢
   simp only[aE]at h⊢
   rw[hp,xaC hb]
   exact⟨hc h.1,ht h.2.1,hd _ h.2.2.1,hn _ h.2.2.2.1,h.2.2.2.2⟩
 rw[yX]at h⊢
 rw[hp,hcpu,hct,hw,hh]
 exact ye dev h
section
variable {P:Nat} {m:List Int} (h:Q17 P m)
include h
theorem dpage{f:Int}(hf:U f){b:Bool}(hx:b=Qap m f)(hb:b=true):0<=f/\f<P:=by
 have hp:=Q3z h
 rw[hb]at hx
 simp only[Qap,Qf8,Tree.m,letv,hp]at hx
 exact Zna hf h.p2 hx.symm
theorem npage{f:Int}(hf:U f){b:Bool}(hx:b=Qbg m f)(hb:b=true):0<=f/\f<P:=by
 have hp:=Q3z h
 rw[hb]at hx
 simp only[Qbg,Qhq,Tree.m,letv,hp]at hx
 exact Zna hf h.p2 hx.symm
def keepD(P:Nat)(d d':Q0h):Prop:=Q9p d'/\(Q1q d P=true->Q1q d' P=true)
theorem qf{d:Q0h}(hd:Q9p d){cmd:Int}(hc:cmd=1\/cmd=2)(at0:Int):(Qe2 d m cmd at0).w (λr=>keepD P d r.1/\r.2.length<=1):=by
 have h2:=h.p2
 have st3:(d.C4 !=0)=false->keepD P d {Blocks:=d.Blocks,C3:=d.C3,Frame:=d.Frame,C4:=3,D8:=d.D8,B9:=d.B9,B4:=d.B4,C6:=d.C6}:=λhs=>by
   have hs:d.C4=0:=by simpa using hs
   refine⟨⟨hd.block,hd.frame,hd.opBlock,hd.opFrame⟩,λhm=> ?_⟩
   simp only[Q1q,Q6m,Tree.m,hs]at hm⊢
   exact hm
 have blk:Q1q d P=true->decide (d.Blocks>64)=false:=λhm=>by
   cases hb:decide (d.Blocks>64)
   . rfl
   . have:Q1q d P=false:=by simp only[Q1q,Q6m,Tree.m];rw[hb];rfl
     rw[this]at hm;cases hm
 unfold Qe2
 refine w_br (λ_=>⟨⟨hd,λh=>h⟩,aT _⟩) λhs=>w_br (λ_=>⟨st3 hs,aT _⟩) λhb=>w_lv λx0 hx=>w_br (λ_=>⟨st3 hs,aT _⟩) λhp=> ?_
 have hb:=oN hb
 obtain⟨f0,f1⟩:=dpage h hd.frame hx (by simpa using hp)
 have ef:i64.wrap d.Frame=d.Frame:=by rw[wrap_i64];omega
 have e1:decide (d.C3<d.Blocks)=true:=dY (by omega)
 have e2:decide (i64.wrap d.Frame<(P:Int))=true:=by rw[ef];exact dY f1
 refine w_br (λhcm=>Q0c (Zl1 h _) λx1 h1=> ?_) (λhcm=> ?_)
 . rw[ef]at h1
   have h1:=h1 f0 f1
   have hcm:=eq_of_beq hcm
   subst hcm
   refine w_lv λx2 _=>⟨⟨⟨hd.block,hd.frame,hd.block,hd.frame⟩,λhm=> ?_⟩,aO _⟩
   simp only[Q1q,Q6m,Q9y,Q7y,Tree.m,letv,blk hm,e1,e2,h1]
   rfl
 . have hc:cmd=1:=by
     rcases hc with h|h
     . exact h
     . rw[h]at hcm;exact absurd hcm (by decide)
   subst hc
   refine w_lv λx2 _=>⟨⟨⟨hd.block,hd.frame,hd.block,hd.frame⟩,λhm=> ?_⟩,aO _⟩
   simp only[Q1q,Q6m,Q9y,Q7y,Tree.m,letv,blk hm,e1,e2]
   rfl
theorem zag{d:Q0h}(hd:Q9p d)(port:Int){v:Int}(hv:U v)(at0:Int):(Qj4 d m port v at0).w (λr=>keepD P d r.1/\r.2.length<=1):=by
 have keep:keepD P d d:=⟨hd,λh=>h⟩
 have e1: ∀{k:Int},(v==k)=true->i64.wrap v=k:=λhk=>by
   have:=eq_of_beq hk
   obtain⟨a,b⟩:=hv
   rw[wrap_i64];omega
 unfold Qj4
 refine w_br (λ_=>⟨⟨⟨hv,hd.frame,hd.opBlock,hd.opFrame⟩,λh=>h⟩,aT _⟩) λ_=>w_br (λ_=>⟨⟨⟨hd.block,hv,hd.opBlock,hd.opFrame⟩,λh=>h⟩,aT _⟩) λ_=>w_br (λ_=>w_br (λhk=>Q0c (qf h hd (.inl (e1 hk)) _) λx hx=>hx) λ_=>w_br (λhk=>Q0c (qf h hd (.inr (e1 hk)) _) λx hx=>hx) λ_=>w_br (λ_=>w_lv λx hx=>w_br (λhb=> ?_) (λ_=>⟨keep,aT _⟩)) (λ_=>⟨keep,aT _⟩)) (λ_=>⟨keep,aT _⟩)
 refine⟨⟨⟨hd.block,hd.frame,hd.opBlock,hd.opFrame⟩,λhm=> ?_⟩,aT _⟩
 rw[hb]at hx
 simp only[Qa2,Qme,Tree.m]at hx
 cases h2:d.C4==2
 . rw[h2]at hx
   have h3:d.C4=3:=eq_of_beq hx.symm
   simp only[Q1q,Q6m,Tree.m,h3]at hm⊢
   exact hm
 . have h3:d.C4=2:=eq_of_beq h2
   simp only[Q1q,Q6m,Tree.m,h3]at hm⊢
   exact hm
def keepN(P:Nat)(n n':Q0q):Prop:=Ql6 n'/\(Q83 n P=true->Q83 n' P=true)
theorem qaD{n:Q0q}(hn:Ql6 n)(at0:Int):(Qiz n m at0).w (λr=>r.length<=1):=by
 have h2:=h.p2
 unfold Qiz
 refine w_br (λ_=>aT _) λl1=>w_br (λ_=>aT _) λl2=>w_lv λx0 hx=>w_br (λ_=>aT _) λhp=>Q0c (Zl1 h _) λx1 h1=> ?_
 have l1:=oN l1
 have l2:=oN l2
 obtain⟨f0,f1⟩:=npage h hn.frame hx (by simpa using hp)
 have ef:i64.wrap n.Frame=n.Frame:=by rw[wrap_i64];omega
 rw[ef]at h1
 have h1:=h1 f0 f1
 exact w_cn (dY (by omega)) (aO _)
theorem zaD{n:Q0q}(hn:Ql6 n)(port:Int){v:Int}(hv:U v)(at0:Int):(Qn1 n m port v at0).w (λr=>keepN P n r.1/\r.2.length<=1):=by
 have h2:=h.p2
 have keep:keepN P n n:=⟨hn,λh=>h⟩
 unfold Qn1
 refine w_br (λ_=>⟨⟨⟨hv,hn.len,hn.buffer,hn.got⟩,λh=>h⟩,aT _⟩) λ_=>w_br (λ_=>⟨⟨⟨hn.frame,hv,hn.buffer,hn.got⟩,λh=>h⟩,aT _⟩) λ_=>w_br (λ_=>w_br (λ_=>Q0c (qaD h hn _) λx hx=>⟨keep,hx⟩) λ_=>w_br (λ_=>w_lv λx hx=>w_br (λhb=>w_br (λnp=>w_br (λnr=> ?_) (λ_=>⟨keep,aT _⟩)) (λ_=>⟨keep,aT _⟩)) (λ_=>⟨keep,aT _⟩)) λ_=>w_br (λ_=> ?_) (λ_=>⟨keep,aT _⟩)) (λ_=>⟨keep,aT _⟩)
 . obtain⟨f0,f1⟩:=npage h hn.frame hx hb
   have np:n.C7=false:=by simpa using np
   have nr:n.C0=false:=by simpa using nr
   have e2:decide (i64.wrap n.Frame>=(P:Int))=false:=dN (by rw[wrap_i64];omega)
   refine⟨⟨⟨hn.frame,hn.len,hn.frame,hn.got⟩,λhm=> ?_⟩,aT _⟩
   simp only[Q83,Qnf,Tree.m,np,nr,e2]at hm⊢
   cases hb:(n.C1 !=0)
   . rw[hb]at hm;exact hm
   . rw[hb]at hm;cases hm
 . refine⟨⟨⟨hn.frame,hn.len,hn.buffer,U_0⟩,λhm=> ?_⟩,aT _⟩
   simp only[Q83,Qnf,Tree.m]at hm⊢
   revert hm
   cases n.C7<;>cases n.C0<;>cases decide (i64.wrap n.C1>=(P:Int))<;>cases(n.C1 !=0)<;>simp
end
theorem xag(t:Q0j)(v:Int):Q63 (Qnb t v)=true:=by
 simp only[Qnb,Qnn,Q63,Qnt,Tree.m]
 cases h:(v !=0)
 . have:v=0:=by simpa using h
   subst this;rfl
 . rfl
theorem Qta{a:Int}(k:Nat)(hk:k<=32):ishr .u32 a k=a/2^k:=by
 unfold ishr
 have e:min (k:Int).toNat u32.bits=k:=by show min (k:Int).toNat 32=k;omega
 have hp:(0:Int)<2^k:=dI (by decide)
 rw[e,dJ _ (dK hp)]
def Zpb(x:Int)(n:Nat):Prop:=x<2^n/\(n=0\/(2:Int)^(n-1)<=x)
theorem Zeg{x q:Int}{n k:Nat}(hq:q=x/2^k)(h0:0<q)(h:Zpb q n):Zpb x (n+k):=by
 have hp:(0:Int)<2^k:=dI (by decide)
 obtain⟨h1,h2⟩:=h
 have hn:n≠0:=λe=>by subst e;simp at h1;omega
 refine⟨?_, .inr ?_⟩
 . rw[dL]
   have:x<(x/2^k+1)*2^k:=Int.lt_ediv_add_one_mul_self x hp
   have h3:(x/2^k+1)*2^k<=2^n*2^k:=dM (by omega) (dK hp)
   omega
 . have h2:=h2.resolve_left hn
   have e:n+k-1=(n-1)+k:=by omega
   rw[e,dL]
   have h3:(2:Int)^(n-1)*2^k<=q*2^k:=dM h2 (dK hp)
   have h4:q*2^k<=x:=by rw[hq];exact Int.ediv_mul_le x (Int.ne_of_gt hp)
   omega
theorem zH{x:Int}{n p:Nat}(h:Zpb x n)(hx:x<2^p):n<=p:=by
  obtain⟨h1,h2⟩:=h
  rcases h2 with h2|h2
  . omega
  . rcases Nat.lt_or_ge p n with hlt|hge
    . have:(2:Int)^p<=2^(n-1):=by
        have:=dO (show 0<2 by omega) (show p<=n-1 by omega)
        exact_mod_cast this
      omega
    . exact hge
theorem Zlt{x:Int}{n p:Nat}(h:Zpb x n)(hn:n<=p):x<2^p:=by
 have:(2:Int)^n<=2^p:=by
   have:=dO (show 0<2 by omega) hn
   exact_mod_cast this
 exact Int.lt_of_lt_of_le h.1 this
def lenChk(i:Nat):Bool:=match(Q1y (i:Int)) with
 | .ofNat n=>decide ((i:Int)<2^n)&&(bS n 0||decide ((2:Int)^(n-1)<=i))&&decide (n<=8)
 |_=>false
theorem Qvy{q:Int}(h0:0<=q)(h1:q<256): ∃n:Nat,Q1y q=n/\Zpb q n/\n<=8:=by
 have all:List.all (dP 256) lenChk=true:=by kernel_rfl
 have:=List.all_eq_true.1 all q.toNat (List.mem_range.2 (by omega))
 have hq:((q.toNat:Nat):Int)=q:=by omega
 unfold lenChk at this
 rw[hq]at this
 split at this
 . rename_i n hn
   simp only[aE,aI,decide_eq_true_eq]at this
   refine⟨n,hn,⟨this.1.1,?_⟩,this.2⟩
   rcases this.1.2 with h|h
   . exact .inl (bE h)
   . exact .inr h
 . cases this
theorem xaD{x:Int}(h:U x)(hx:16777216<=x):Q1y x=24+Q1y (x/16777216):=by
 obtain⟨h0,h1⟩:=h
 have s16:ishr .u32 x 16=x/65536:=Qta 16 (by omega)
 have s24:ishr .u32 (x/65536) 8=x/16777216:=by rw[show((8:Int))=((8:Nat):Int) from rfl,Qta 8 (by omega)];omega
 have d1:decide (x>=65536)=true:=dY (by omega)
 have d2:decide (x/65536>=256)=true:=dY (by omega)
 have d3:decide (x/16777216>=65536)=false:=dN (by omega)
 have d4:decide (x/16777216>=256)=false:=dN (by omega)
 have u:u8.wrap (x/16777216)=x/16777216:=by rw[wrap_u8];omega
 simp only[Q1y,Q2b,Tree.m,s16,s24,d1,d2,d3,d4,u,cond_true,cond_false]
 generalize(aK _ (cZ (x/16777216)) (0:UInt8))=b
 have hb:=dQ b
 rw[wrap_i64,wrap_i64,wrap_i64,wrap_i64]
 omega
theorem qaE{x:Int}(h0:65536<=x)(h1:x<16777216):Q1y x=16+Q1y (x/65536):=by
 have s16:ishr .u32 x 16=x/65536:=Qta 16 (by omega)
 have d1:decide (x>=65536)=true:=dY (by omega)
 have d2:decide (x/65536>=256)=false:=dN (by omega)
 have d3:decide (x/65536>=65536)=false:=dN (by omega)
 have u:u8.wrap (x/65536)=x/65536:=by rw[wrap_u8];omega
 simp only[Q1y,Q2b,Tree.m,s16,d1,d2,d3,u,cond_true,cond_false]
 generalize(aK _ (cZ (x/65536)) (0:UInt8))=b
 have hb:=dQ b
 rw[wrap_i64,wrap_i64,wrap_i64]
 omega
theorem len_8{x:Int}(h0:256<=x)(h1:x<65536):Q1y x=8+Q1y (x/256):=by
 have s8:ishr .u32 x 8=x/256:=Qta 8 (by omega)
 have d1:decide (x>=65536)=false:=dN (by omega)
 have d2:decide (x>=256)=true:=dY (by omega)
 have d3:decide (x/256>=65536)=false:=dN (by omega)
 have d4:decide (x/256>=256)=false:=dN (by omega)
 have u:u8.wrap (x/256)=x/256:=by rw[wrap_u8];omega
 simp only[Q1y,Q2b,Tree.m,s8,d1,d2,d3,d4,u,cond_true,cond_false]
 generalize(aK _ (cZ (x/256)) (0:UInt8))=b
 have hb:=dQ b
 rw[wrap_i64,wrap_i64,wrap_i64,wrap_i64]
 omega
theorem Zre{x:Int}(h:U x): ∃n:Nat,Q1y x=n/\Zpb x n:=by
  obtain⟨h0,h1⟩:=h
  rcases dR x 256 with a|a
  . obtain⟨n,e,l,_⟩:=Qvy h0 a
    exact⟨n,e,l⟩
  . rcases dR x 65536 with b|b
    . obtain⟨n,e,l,_⟩:=Qvy (q:=x/256) (by omega) (by omega)
      exact⟨n+8,by rw[len_8 a b,e];omega,Zeg (k:=8) rfl (by omega) l⟩
    . rcases dR x 16777216 with c|c
      . obtain⟨n,e,l,_⟩:=Qvy (q:=x/65536) (by omega) (by omega)
        exact⟨n+16,by rw[qaE b c,e];omega,Zeg (k:=16) rfl (by omega) l⟩
      . obtain⟨n,e,l,_⟩:=Qvy (q:=x/16777216) (by omega) (by omega)
        exact⟨n+24,by rw[xaD ⟨h0,h1⟩ c,e];omega,Zeg (k:=24) rfl (by omega) l⟩
theorem Z3t{b:Q07}(h:U b.C5){P:Nat}:Q3o b P=true↔b.C5<2^P:=by
 obtain⟨n,e,l⟩:=Zre h
 have hp:(if(0:Int)>(P:Int) then(0:Int) else P)=P:=by rw[if_neg (by omega)]
 simp only[Q3o,Q5i,Tree.m,letv,e,hp,decide_eq_true_eq]
 constructor
 . intro h;exact Zlt l (by omega)
 . intro h;have:=zH l h;omega
theorem Zec{a:Int}(h:U a){P:Nat}(h1:a<2^P):(dS 32 a).toNat<2^P:=by
 obtain⟨a0,a1⟩:=h
 rw[dT,dH a0 (by omega)]
 have:((2^P:Nat):Int)=(2:Int)^P:=by exact_mod_cast rfl
 omega
theorem or_lt{a b:Int}(ha:U a)(hb:U b){P:Nat}(hP:P<=32)(h1:a<2^P)(h2:b<2^P):ior .u32 a b<2^P:=by
 have e:(dS 32 a|||dS 32 b).toNat<2^P:=by
   rw[dU]
   exact Nat.or_lt_two_pow (Zec ha h1) (Zec hb h2)
 have hc:((2^P:Nat):Int)=(2:Int)^P:=by exact_mod_cast rfl
 have l:=(dS 32 a|||dS 32 b).isLt
 show wrap .u32 ((dS 32 a|||dS 32 b).toNat:Int)<2^P
 rw[wrap_u32]
 omega
theorem qah{a b:Int}(ha:U a){P:Nat}(h1:a<2^P):Qir .u32 a b<2^P:=by
 have e:(dS 32 a&&&~~~dS 32 b).toNat<2^P:=by
   rw[dV]
   exact Nat.lt_of_le_of_lt dW (Zec ha h1)
 have hc:((2^P:Nat):Int)=(2:Int)^P:=by exact_mod_cast rfl
 have l:=(dS 32 a&&&~~~dS 32 b).isLt
 show wrap .u32 ((dS 32 a&&&~~~dS 32 b).toNat:Int)<2^P
 rw[wrap_u32]
 omega
theorem xf{v:Int}(h0:0<=v)(h1:v<32):ishl .u32 1 v=2^v.toNat:=by
 have e:min v.toNat u32.bits=v.toNat:=by show min v.toNat 32=v.toNat;omega
 obtain⟨n,rfl⟩: ∃n:Nat,v=n:=⟨v.toNat,by omega⟩
 have hn:n<32:=by omega
 have hlt:(2:Nat)^n<4294967296:=by
   have:=dX (show 1<2 by omega) hn
   simpa using this
 have hc:((2^n:Nat):Int)=(2:Int)^n:=by exact_mod_cast rfl
 unfold ishl
 rw[e,wrap_u32,Int.one_mul,dZ,<-hc]
 clear hc e
 generalize(2:Nat)^n=z at*
 omega
def keepB(P:Nat)(b b':Q07):Prop:=okB b'/\(Q3o b P=true->Q3o b' P=true)
theorem Zri{P:Nat}{m:List Int}(h:Q17 P m){b:Q07}(hb:okB b)(port:Int){v:Int}(hv:U v):(Q4g b m port v).w (λr=>keepB P b r.1/\Q17 P r.2):=by
 have hcl:Q04 m=m:=rfl
 have h2:=h.p2
 have hp:=Q3z h
 have keep:(Tree.an (Q09 m) (.lv (Q04 m) λx=> .lf (b,x))).w (λr=>keepB P b r.1/\Q17 P r.2):=w_an (Qac h) (w_lv λx hx=>by rw[hcl]at hx;subst hx;exact⟨⟨hb,λh=>h⟩,h⟩)
 unfold Q4g
 refine w_br (λ_=>keep) λhlt=>w_cn (dY hv.1) (w_br (λ_=>w_lv λx1 hx=>w_br (λhpg=>w_br (λ_=>w_an ⟨by decide,by decide,by decide⟩ (w_lv λx2 _=>Q0c (Z5s h _ _) λx3 ⟨h3,_⟩=> ?_)) (λ_=>keep)) (λ_=>keep)) (λ_=>w_br (λ_=>w_an (Qac h) (w_lv λx hx=> ?_)) (λ_=>keep)))
 . have hlt:=oN hlt
   have hpg:=oY hpg
   rw[hx,hp]at hpg
   obtain⟨v0,v1⟩:=hv
   have ev:i64.wrap v=v:=by rw[wrap_i64];omega
   rw[ev]at hpg
   refine⟨⟨⟨hb.1,Q0u _⟩,λhm=> ?_⟩,h3⟩
   rw[Z3t hb.2]at hm
   rw[Z3t (Q0u _)]
   have hs:ishl .u32 1 v<2^P:=by
     rw[xf v0 (by omega)]
     have:=dX (show 1<2 by omega) (show v.toNat<P by omega)
     exact_mod_cast this
   exact or_lt hb.2 (Q0u _) h2 hm hs
 . rw[hcl]at hx;subst hx
   refine⟨⟨⟨hb.1,Q0u _⟩,λhm=> ?_⟩,h⟩
   rw[Z3t hb.2]at hm
   rw[Z3t (Q0u _)]
   exact qah hb.2 hm
structure kept(P:Nat)(m n:Q00):Prop where
 ok:okS P n
 dev:Q1a m=true->Q1a n=true
 cpu:n.B2=m.B2
 cnt:n.A2=m.A2
 wait:n.A4=m.A4
 halt:n.A6=m.A6
theorem Zi1{P:Nat}{m:Q00}(h:okS P m):kept P m m:=⟨h,λh=>h,rfl,rfl,rfl,rfl⟩
theorem Qs1{P:Nat}{m n:Q00}(hm:Q17 P m.Mem)(hn:Q17 P n.Mem)(hc:Q31 m.A3=true->Q31 n.A3=true)(ht:Q63 m.B0=true->Q63 n.B0=true)
   (hd:Q1q m.B1 P=true->Q1q n.B1 P=true) (hk:Q83 m.C2 P=true->Q83 n.C2 P=true) (hb:Q3o m.A1 P=true->Q3o n.A1 P=true) (h:Q1a m=true):Q1a n=true:=by
 rw[xe]at h⊢
 rw[Q3z hm]at h
 rw[Q3z hn]
 simp only[aE]at h⊢
 exact⟨hc h.1,ht h.2.1,hd h.2.2.1,hk h.2.2.2.1,hb h.2.2.2.2⟩
theorem Zkw{P:Nat}{m:Q00}(h:okS P m)(port:Int){v:Int}(hv:U v)(at0:Int):(Q46 m port v at0).w (λr=>kept P m r.1/\r.2.length<=1):=by
 have k:=Zi1 h
 obtain⟨h1,h2,h3,h4,h5,h6⟩:=h
 have id: ∀{p:Prop},p->p:=λh=>h
 have D: ∀(x:Q0h×List Q03),(keepD P m.B1 x.1/\x.2.length<=1)->kept P m {B2:=m.B2,Mem:=m.Mem,A3:=m.A3,B0:=m.B0,B1:=x.1,C2:=m.C2,A1:=m.A1,A2:=m.A2,A4:=m.A4,A6:=m.A6}/\x.2.length<=1:=λx hx=>
   ⟨⟨⟨h1,h2,hx.1.1,h4,h5,h6⟩,Qs1 h2 h2 id id hx.1.2 id id,rfl,rfl,rfl,rfl⟩,hx.2⟩
 have N: ∀(x:Q0q×List Q03),(keepN P m.C2 x.1/\x.2.length<=1)->kept P m {B2:=m.B2,Mem:=m.Mem,A3:=m.A3,B0:=m.B0,B1:=m.B1,C2:=x.1,A1:=m.A1,A2:=m.A2,A4:=m.A4,A6:=m.A6}/\x.2.length<=1:=λx hx=>
   ⟨⟨⟨h1,h2,h3,hx.1.1,h5,h6⟩,Qs1 h2 h2 id id id hx.1.2 id,rfl,rfl,rfl,rfl⟩,hx.2⟩
 have B: ∀(x:Q07×List Int),(keepB P m.A1 x.1/\Q17 P x.2)->kept P m {B2:=m.B2,Mem:=x.2,A3:=m.A3,B0:=m.B0,B1:=m.B1,C2:=m.C2,A1:=x.1,A2:=m.A2,A4:=m.A4,A6:=m.A6}/\([]:List Q03).length<=1:=λx hx=>
   ⟨⟨⟨h1,hx.2,h3,h4,hx.1.1.1,hx.1.1.2⟩,Qs1 h2 hx.2 id id id id hx.1.2,rfl,rfl,rfl,rfl⟩,aT _⟩
 unfold Q46
 repeat'(first
   |exact⟨k,aO _⟩
   |exact⟨k,aT _⟩
   |exact w_lv λx hx=>⟨⟨⟨h1,h2,h3,h4,h5,h6⟩,Qs1 h2 h2 id (λ_=>by rw[hx];exact xag _ _) id id id,rfl,rfl,rfl,rfl⟩,aT _⟩
   |exact Q0c (zag h2 h3 _ hv _) λx hx=>D x hx
   |exact Q0c (zaD h2 h4 _ hv _) λx hx=>N x hx
   |exact Q0c (Zri h2 ⟨h5,h6⟩ _ hv) λx hx=>B x hx
   |refine w_br (λ_=> ?_) (λ_=> ?_))
theorem Z9o(c:Q0e)(port:Int):(Qal c port).w (λr=>U r.2/\(Q31 c=true->Q31 r.1=true)):=by
 have u1:U 4294967295:=⟨by omega,by omega⟩
 unfold Qal
 refine w_br (λ_=>w_br (λ_=>⟨u1,λh=>h⟩) (λhb=>w_cn ?_ (w_cn ?_ ⟨Q0u _,λhm=> ?_⟩))) (λ_=>w_br (λ_=>⟨Q0u _,λh=>h⟩) (λ_=>⟨U_0,λh=>h⟩))
 . have hb:=oN hb
   have:0<c.D2.length:=List.length_pos_iff.2 hb
   simp [bT];omega
 . have hb:=oN hb
   have:0<c.D2.length:=List.length_pos_iff.2 hb
   exact dY (by omega)
 . have hm:decide ((c.D2.length:Int)<=16)=true:=hm
   have hm:=oY hm
   show decide (((cY _ (dA _ c.D2)).length:Int)<=16)=true
   refine dY ?_
   rw[bD,bF];omega
theorem Zqj{P:Nat}{m:Q00}(h:okS P m)(port:Int){clock:Int}(hc:U clock):(Q4z m port clock).w (λr=>kept P m r.1/\U r.2):=by
 have k:=Zi1 h
 obtain⟨h1,h2,h3,h4,h5,h6⟩:=h
 have id: ∀{p:Prop},p->p:=λh=>h
 have ti: ∀t,U (Z2n t):=λt=>by
   refine Tree.post (Qrp t) (W:=U) ?_
   unfold Qrp
   exact w_br (λ_=>⟨by omega,by omega⟩) (λ_=>U_0)
 have di: ∀p,U (Qyx m.B1 p):=λp=>by
   refine Tree.post (Qvd m.B1 p) (W:=U) ?_
   unfold Qvd
   exact w_br (λ_=>h3.block) (λ_=>w_br (λ_=>h3.frame) (λ_=>w_br (λ_=>Q0u _) (λ_=>U_0)))
 have ni: ∀p,U (Z6g m.C2 p):=λp=>by
   refine Tree.post (Qw4 m.C2 p) (W:=U) ?_
   unfold Qw4
   exact w_br (λ_=>h4.frame) (λ_=>w_br (λ_=>h4.got) (λ_=>w_br (λ_=>w_br (λ_=>w_br (λ_=>Q0u _) (λ_=>Q0u _)) (λ_=>w_br (λ_=>Q0u _) (λ_=>U_0))) (λ_=>U_0)))
 have bi: ∀p,(Qdz m.A1 p).w U:=λp=>by
   unfold Qdz
   exact w_br (λ_=>h5) (λ_=>w_br (λ_=>Q0c (Zod h6) λ_ _=>Q0u _) (λ_=>U_0))
 have C: ∀(x:Q0e×Int),(U x.2/\(Q31 m.A3=true->Q31 x.1=true))->kept P m {B2:=m.B2,Mem:=m.Mem,A3:=x.1,B0:=m.B0,B1:=m.B1,C2:=m.C2,A1:=m.A1,A2:=m.A2,A4:=m.A4,A6:=m.A6}/\U x.2:=λx hx=>
   ⟨⟨⟨h1,h2,h3,h4,h5,h6⟩,Qs1 h2 h2 hx.2 id id id id,rfl,rfl,rfl,rfl⟩,hx.1⟩
 unfold Q4z
 repeat'(first
   |exact⟨k,hc⟩
   |exact⟨k,U_0⟩
   |exact Q0c (Z9o _ _) λx hx=>C x hx
   |exact Zbi (Z9o _ _) λx hx=>C x hx
   |exact w_lv λx hx=>⟨k,by rw[hx];exact ti _⟩
   |exact w_lv λx hx=>⟨k,by rw[hx];exact di _⟩
   |exact w_lv λx hx=>⟨k,by rw[hx];exact ni _⟩
   |exact Q0c (bi _) λx hx=>⟨k,hx⟩
   |refine w_br (λ_=> ?_) (λ_=> ?_))
structure Q7p(c:Q05):Prop where
 x0:c.X.a0=0
 st:c.B8.a0<=31
 en:c.B8.a7<=31
 rt:c.B8.a6<=255
 ve:cX c.B8.a1 4=0
theorem Q7p.pc{c:Q05}(h:Q7p c)(p:Int):Q7p {X:=c.X,Pc:=p,B8:=c.B8}:=⟨h.x0,h.st,h.en,h.rt,h.ve⟩
theorem and31(a:Int):iand .u32 a 31<=31:=by
 have e:(dS 32 a&&&dS 32 31).toNat<=31:=by
   rw[dV]
   exact bH Nat.and_le_right (by decide)
 show wrap .u32 ((dS 32 a&&&dS 32 31).toNat:Int)<=31
 rw[wrap_u32];omega
theorem and255'(a:Int):iand .u32 a 255<=255:=by have:=and255 a;omega
theorem andn3(a:Int):cX (Qir .u32 a 3) 4=0:=by
 have e:(dS 32 a&&&~~~dS 32 3).toNat%4=0:=by
   rw[dV,show(~~~dS 32 3).toNat=4294967292 by decide]
   have:=Nat.and_mod_two_pow (a:=(dS 32 a).toNat) (b:=4294967292) (n:=2)
   simpa using this
 have l:=(dS 32 a&&&~~~dS 32 3).isLt
 show cX (wrap .u32 ((dS 32 a&&&~~~dS 32 3).toNat:Int)) 4=0
 rw[wrap_u32,eA (by omega)]
 omega
theorem fin32{f:Int->Int}(h:(dP 32).all (λn=>decide (f n<=31))=true){s:Int}(h0:0<=s)(h1:s<=31):f s<=31:=by
 have:=List.all_eq_true.1 h s.toNat (List.mem_range.2 (by omega))
 have e:((s.toNat:Nat):Int)=s:=by omega
 rw[e]at this
 exact oY this
theorem Qny{c:Q05}(h:Q2n c)(m:Q7p c)(k b:Int):Q7p (Q4u c k b):=
 ⟨m.x0,fin32 (f:=λs=>Qir .u32 (ior .u32 (Q9u (Q9u s 1 8) 2 16) 1) 2) (by kernel_rfl) h.a0.1 m.st,m.en,m.rt,m.ve⟩
theorem Zrk{c:Q05}(h:Q2n c)(m:Q7p c):Q7p (Qg8 c):=
 ⟨m.x0,fin32 (f:=λs=>Q9u (Q9u s 8 1) 16 2) (by kernel_rfl) h.a0.1 m.st,m.en,m.rt,m.ve⟩
theorem Qys{c:Q05}(m:Q7p c){r:Int}(hr:0<=r/\r<16)(v:Int):(Qef c r v).w Q7p:=by
 unfold Qef
 refine w_br (λhn=>w_cn (rc hr) ?_) (λ_=>m)
 have hn:r≠0:=by simpa using hn
 obtain⟨n,e⟩: ∃n:Nat,r.toNat=n+1:=⟨r.toNat-1,by omega⟩
 refine⟨?_,m.st,m.en,m.rt,m.ve⟩
 show(A16.of 0 (dB (A16.l c.X) r.toNat v)).a0=0
 rw[e]
 exact m.x0
theorem zf{c:Q05}(m:Q7p c)(k v:Int):(Qds c k v).w Q7p:=by
 unfold Qds
 refine w_br (λhk=>w_cn (by rw[eq_of_beq hk];decide) ?_) λ_=>w_br (λhk=>w_cn (by rw[eq_of_beq hk];decide) ?_) λ_=>w_br (λhk=>w_cn (by rw[eq_of_beq hk];decide) ?_) λ_=>w_br (λhk=>w_cn (by rw[eq_of_beq hk];decide) ?_) λ_=>w_br (λhk=>w_cn (by rw[eq_of_beq hk];decide) ?_) λ_=>w_br (λhk=>w_cn (by rw[eq_of_beq hk];decide) ?_) λ_=>w_br (λhk=>w_cn (by rw[eq_of_beq hk];decide) ?_) λ_=>w_br (λhk=>w_cn (by rw[eq_of_beq hk];decide) ?_) (λ_=>m)
 all_goals(have hk:=eq_of_beq hk;subst hk)
 . exact⟨m.x0,and31 _,m.en,m.rt,m.ve⟩
 . exact⟨m.x0,m.st,and31 _,m.rt,m.ve⟩
 . exact⟨m.x0,m.st,m.en,and255' _,m.ve⟩
 . exact⟨m.x0,m.st,m.en,m.rt,andn3 _⟩
 . exact⟨m.x0,m.st,m.en,m.rt,m.ve⟩
 . exact⟨m.x0,m.st,m.en,m.rt,m.ve⟩
 . exact⟨m.x0,m.st,m.en,m.rt,m.ve⟩
 . exact⟨m.x0,m.st,m.en,m.rt,m.ve⟩
section
variable {c:Q05} (h:Q2n c) (m:Q7p c) {i:Q0o} (hi:Qhc i)
include h m hi
theorem Zlg:(Q5g c i).w (λr=>Q7p r.1):=by
 unfold Q5g
 refine w_cn (rc hi.a) (w_cn (rc hi.b) ?_)
 repeat'(first
   |refine w_br (λ_=> ?_) (λ_=> ?_)
   |exact Q0c (Qys m hi.a _) λx hx=>hx.pc _
   |exact w_lv λx _=>w_br (λ_=>m.pc _) (λ_=>m.pc _)
   |exact w_lv λx hx=>by rw[hx];exact Qny h m _ _
   |exact w_lv λx hx=>by rw[hx];exact Zrk h m
   |exact w_cn (by have:=hi.csr (by simp_all);simp [bT];omega) (Q0c (Qys m hi.a _) λx hx=>hx.pc _)
   |exact Q0c (zf m _ _) λx hx=>hx.pc _
   |refine w_cn (rc hi.c) ?_
   |exact Q0c (Z9t _ (h.r _) (Q0u _)) λy hy=>Q0c (Qys m hi.a _) λx hx=>hx.pc _
   |exact Q0c (Z9t _ (h.r _) (h.r _)) λy hy=>Q0c (Qys m hi.a _) λx hx=>hx.pc _
   |refine w_lf ?_)
 all_goals exact m.pc _
theorem yH{P:Nat}{mem:List Int}(hm:Q17 P mem):(Qfz c mem i).w (λr=>Q7p r.1):=by
 have w:=Zct i.Op
 unfold Qfz
 refine w_cn (rc hi.b) (w_lv λx0 h0=> ?_)
 rw[<-h0]at w
 refine Q0c (Qng hm (Q0u _) w 2) λx1 h1=>w_br (λ_=>w_lv λy hy=>by rw[hy];exact Qny h m _ _) (λ_=>w_lv λx3 h3=> ?_)
 rw[h0,<-h3]at w
 exact Q0c (Qup h1.2 h1.1 w) λx4 h4=>w_br (λ_=>Q0c (Qy2 h4.1 8) λy hy=>Q0c (Qys m hi.a _) λx hx=>hx.pc _) (λ_=>Q0c (Qys m hi.a _) λx hx=>hx.pc _)
theorem yf{P:Nat}{mem:List Int}(hm:Q17 P mem):(Qdh c mem i).w (λr=>Q7p r.1):=by
 have w:=Zct i.Op
 unfold Qdh
 refine w_cn (rc hi.b) (w_lv λx0 h0=> ?_)
 rw[<-h0]at w
 refine Q0c (Qng hm (Q0u _) w 3) λx1 h1=>w_br (λ_=>w_lv λy hy=>by rw[hy];exact Qny h m _ _) (λ_=>w_lv λx3 h3=>w_cn (rc hi.a) ?_)
 rw[h0,<-h3]at w
 exact Q0c (Z2g h1.2 h1.1 w (h.r _)) λx hx=>m.pc _
end
theorem vH{c:Q05}(h:Q2n c)(m:Q7p c){P:Nat}{mem:List Int}(hm:Q17 P mem):(Q7x c mem).w (λr=>Q7p r.1):=by
 unfold Q7x
 refine Q0c (Zcu hm h) λx0 h0=>w_br (λ_=>w_lv λy hy=>by rw[hy];exact Qny h m _ _) (λ_=>Q0c (Z5i _) λx2 h2=>w_br (λ_=>w_lv λy hy=>by rw[hy];exact Qny h m _ _) (λhb=> ?_))
 have hi:=h2 (by simpa using hb)
 refine w_lv λx4 _=> ?_
 repeat'(first
   |refine w_br (λ_=> ?_) (λ_=> ?_)
   |exact Q0c (yH h m hi h0.2) λx hx=>hx
   |exact Q0c (yf h m hi h0.2) λx hx=>hx
   |exact Q0c (Zlg h m hi) λx hx=>hx
   |exact w_lv λy hy=>by rw[hy];exact Qny h m _ _
   |refine w_lv λ_ _=> ?_)
theorem Zmr{c:Q05}(h:Q2n c){i:Q0o}(hi:Qhc i):(Q5g c i).w (λr=>0<=r.2.D9/\r.2.D9<16):=by
 have z:(0:Int)<=0/\(0:Int)<16:=⟨by decide,by decide⟩
 unfold Q5g
 refine w_cn (rc hi.a) (w_cn (rc hi.b) ?_)
 repeat'(first
   |refine w_br (λ_=> ?_) (λ_=> ?_)
   |exact Q0c (Qtk h hi.a (Q0u _)) λx hx=>z
   |exact w_lv λx _=>w_br (λ_=>z) (λ_=>z)
   |exact w_lv λx hx=>z
   |exact w_cn (by have:=hi.csr (by simp_all);simp [bT];omega) (Q0c (Qtk h hi.a (h.a _)) λx hx=>z)
   |exact Q0c (Zo h _ (h.r _)) λx hx=>z
   |refine w_cn (rc hi.c) ?_
   |exact Q0c (Z9t _ (h.r _) (Q0u _)) λy hy=>Q0c (Qtk h hi.a hy) λx hx=>z
   |exact Q0c (Z9t _ (h.r _) (h.r _)) λy hy=>Q0c (Qtk h hi.a hy) λx hx=>z
   |refine w_lf ?_)
 all_goals first|exact z|exact hi.a
theorem Znp{c:Q05}(h:Q2n c){P:Nat}{mem:List Int}(hm:Q17 P mem):(Q7x c mem).w (λr=>0<=r.2.2.D9/\r.2.2.D9<16):=by
 have z:(0:Int)<=0/\(0:Int)<16:=⟨by decide,by decide⟩
 unfold Q7x
 refine Q0c (Zcu hm h) λx0 h0=>w_br (λ_=>w_lv λy hy=>z) (λ_=>Q0c (Z5i _) λx2 h2=>w_br (λ_=>w_lv λy hy=>z) (λhb=> ?_))
 have hi:=h2 (by simpa using hb)
 refine w_lv λx4 _=> ?_
 repeat'(first
   |refine w_br (λ_=> ?_) (λ_=> ?_)
   |exact Q0c (Z46 h hi h0.2) λx hx=>z
   |exact Q0c (Z0b h hi h0.2) λx hx=>z
   |exact Q0c (Zmr h hi) λx hx=>hx
   |exact w_lv λy hy=>z
   |refine w_lv λ_ _=> ?_)
theorem cnd2{a x:Bool}:(bif a then false else x)=true↔a=false/\x=true:=by cases a<;>simp
theorem Qqi(m:Q00):Q18 m=true↔Q1 m.Mem≠0/\Q7p m.B2/\m.A2<=1152921504606846976/\ ¬(m.A4=true/\m.A6=true)/\Q1a m=true:=by
  rw[yX]
  unfold mayC chain
  rw[cnd2,cnd2,cnd2,cnd2,cnd2,cnd2,cnd2]
  simp only[decide_eq_false_iff_not,Int.not_lt,beq_eq_false_iff_ne,bne_eq_false_iff_eq,gt_iff_lt]
  constructor
  . rintro⟨a1,a2,a3,a4,a5,a6,a7,a8⟩
    refine⟨a1,⟨a2,a3,a4,a5,a6⟩,a7,?_,?_⟩
    . rintro⟨w,h⟩;rw[w,h]at a8;cases a8
    . revert a8;cases m.A4
      . exact λh=>h
      . cases m.A6
        . exact λh=>h
        . intro h;cases h
  . rintro⟨a1,⟨a2,a3,a4,a5,a6⟩,a7,a8,a9⟩
    refine⟨a1,a2,a3,a4,a5,a6,a7,?_⟩
    rw[a9]
    cases hw:m.A4
    . rfl
    . cases hh:m.A6
      . rfl
      . exact absurd ⟨hw,hh⟩ a8
theorem Z2k{m:Q00}(h:Q2u m=true):Q18 m=true/\m.A6=false/\m.A2<1152921504606846976:=by
  simp only[Q2u,Q4e,Tree.m,letv]at h
  cases h1:Q18 m
  . rw[h1]at h;cases h
  . cases h2:m.A6
    . rw[h1,h2]at h
      cases h3:Q4l m
      . rw[h3]at h
        have h:decide (m.A2<1152921504606846976)=true:=h
        exact⟨rfl,rfl,oY h⟩
      . rw[h3]at h;cases h
    . rw[h1,h2]at h;cases h
theorem Z4z{P:Nat}{m:Q00}(h:okS P m)(g:Q7p m.B2):(Q2w m).w (λr=>Q7p r.B2/\okS P r/\r.Mem=m.Mem/\r.A4=false/\r.A6=m.A6/\r.A2=m.A2/\r.A3=m.A3/\r.B0=m.B0/\r.B1=m.B1/\r.C2=m.C2/\r.A1=m.A1):=by
 obtain⟨h1,h2,h3,h4,h5,h6⟩:=h
 unfold Q2w
 refine w_br (λ_=>⟨g,⟨h1,h2,h3,h4,h5,h6⟩,rfl,rfl,rfl,rfl,rfl,rfl,rfl,rfl,rfl⟩) (λ_=>Q0c (Qxd (m:=⟨_,_,_,_,_,_,m.A1,_,_,_⟩) h6) λx0 _=>w_lp (inv:=λz=>0<=z/\z<=5) (μ:=Qdj m) ⟨by omega,by omega⟩ (cK _) (λz hz=> ?_))
 obtain⟨z1,z2⟩:=hz
 refine w_br (λhb=>w_cn (dY z1) (w_br (λ_=>w_lv λx1 hx=>⟨by rw[hx];exact Qny h1 g _ _,⟨by rw[hx];exact Qqn h1 _ U_0,h2,h3,h4,h5,h6⟩,rfl,rfl,rfl,rfl,rfl,rfl,rfl,rfl,rfl⟩) (λ_=>w_nx ?_))) (λ_=>⟨g,⟨h1,h2,h3,h4,h5,h6⟩,rfl,rfl,rfl,rfl,rfl,rfl,rfl,rfl,rfl⟩)
 have hb:=oY hb
 show(0<=i64.wrap (z+1)/\i64.wrap (z+1)<=5)/\(5-i64.wrap (z+1)).toNat<(5-z).toNat
 have ew:i64.wrap (z+1)=z+1:=by rw[wrap_i64];omega
 rw[ew];omega
structure Good(P:Nat)(m r:Q00):Prop where
 ok:okS P r
 cnt:0<=r.A2
 may:Q18 m=true->Q18 r=true
 or:r=m\/r.A2=m.A2+1
theorem vf{P:Nat}{m:Q00}(h:okS P m)(hc0:0<=m.A2){clock:Int}(hk:U clock):(Q3f m clock).w (λr=>r.2.length<=1/\Good P m r.1):=by
 have hcl:Q04 m.Mem=m.Mem:=rfl
 unfold Q3f
 refine w_an (Qac h.mem) (w_lv λl hl=> ?_)
 rw[hcl]at hl;subst hl
 refine w_an (Tree.pp (Zms (m:=⟨_,_,_,_,_,_,m.A1,_,_,_⟩) h.given)).1 (w_lv λx1 hx1=>w_br (λ_=>⟨aT _,h,hc0,λh=>h, .inl rfl⟩) (λhb=> ?_))
 have hr:Q2u m=true:=by rw[<-show x1=Q2u m from hx1];simpa using hb
 obtain⟨hm,hh,hct⟩:=Z2k hr
 obtain⟨g1,g2,g3,g4,g5⟩:=(Qqi m).1 hm
 have hP:(P:Int)≠0:=by rw[<-Q3z h.mem];exact g1
 have fin: ∀(n:Q00),okS P n->Q7p n.B2->Q1a n=true->n.A2=m.A2-> ¬(n.A4=true/\n.A6=true)->Good P m {B2:=n.B2,Mem:=n.Mem,A3:=n.A3,B0:=n.B0,B1:=n.B1,C2:=n.C2,A1:=n.A1,A2:=wrap .u64 (n.A2+1),A4:=n.A4,A6:=n.A6}:=λn a b c d e=>by
   have ec:wrap .u64 (n.A2+1)=m.A2+1:=by rw[d,wrap_u64];omega
   refine⟨⟨a.cpu,a.mem,a.disk,a.nic,a.target,a.given⟩,?_,λ_=>(Qqi _).2 ⟨?_,b,?_,e,c⟩, .inr ec⟩
   . show 0<=wrap .u64 (n.A2+1);omega
   . show Q1 n.Mem≠0;rw[Q3z a.mem];exact hP
   . show wrap .u64 (n.A2+1)<=_;omega
 refine Q0c (Z4z (m:=⟨_,_,m.A3,m.B0,m.B1,m.C2,m.A1,m.A2,m.A4,m.A6⟩) ⟨h.cpu,h.mem,h.disk,h.nic,h.target,h.given⟩ g2) λx2 hx2=> ?_
 obtain⟨b1,b2,b3,b4,b5,b6,b7,b8,b9,b10,b11⟩:=hx2
 have ex:=Tree.pp (yw b2.cpu b2.mem)
 have em:=Tree.pp (vH b2.cpu b1 b2.mem)
 have er:=Tree.pp (Znp b2.cpu b2.mem)
 refine w_an ex.1 (w_lv λx3 h3=> ?_)
 obtain⟨e1,e2,e3⟩:Q2n x3.1/\Q17 P x3.2.1/\U x3.2.2.Value:=by rw[h3];exact ex.2
 have f1:Q7p x3.1:=by rw[h3];exact em.2
 have r1:0<=x3.2.2.D9/\x3.2.2.D9<16:=by rw[h3];exact er.2
 have ok3:okS P ⟨x3.1,x3.2.1,x2.A3,x2.B0,x2.B1,x2.C2,x2.A1,x2.A2,x2.A4,x2.A6⟩:=⟨e1,e2,b2.disk,b2.nic,b2.target,b2.given⟩
 have dev: ∀(w h:Bool),Q1a ⟨x3.1,x3.2.1,x2.A3,x2.B0,x2.B1,x2.C2,x2.A1,x2.A2,w,h⟩=true:=λw hh=>by
   have id: ∀{p:Prop},p->p:=λh=>h
   refine Qs1 (m:=m) (P:=P) h.mem e2 ?_ ?_ ?_ ?_ ?_ g5
   . show _->Q31 x2.A3=true;rw[b7];exact id
   . show _->Q63 x2.B0=true;rw[b8];exact id
   . show _->Q1q x2.B1 P=true;rw[b9];exact id
   . show _->Q83 x2.C2 P=true;rw[b10];exact id
   . show _->Q3o x2.A1 P=true;rw[b11];exact id
 have hw:x2.A4=false:=b4
 have hh2:x2.A6=false:=b5.trans hh
 have hct2:x2.A2=m.A2:=b6
 refine w_br (λ_=> ?_) λ_=>w_br (λ_=> ?_) λ_=>w_br (λ_=> ?_) λ_=>w_br (λ_=> ?_) λ_=> ?_
 . refine Q0c (Zqj ok3 _ hk) λx4 h4=> ?_
   obtain⟨k,u⟩:=h4
   have kc:x4.1.B2=x3.1:=k.cpu
   have kt:x4.1.A2=m.A2:=k.cnt.trans hct2
   have kw: ¬(x4.1.A4=true/\x4.1.A6=true):=λe=>by have:x4.1.A4=x2.A4:=k.wait;rw[this,hw]at e;cases e.1
   have km:Q7p x4.1.B2:=by rw[kc];exact f1
   refine w_br (λhn=>w_cn (rc r1) ⟨aT _,?_⟩) (λ_=>⟨aT _,fin x4.1 k.ok km (k.dev (dev _ _)) kt kw⟩)
   have hn:x3.2.2.D9≠0:=by simpa using hn
   obtain⟨q,e⟩: ∃q:Nat,x3.2.2.D9.toNat=q+1:=⟨x3.2.2.D9.toNat-1,by omega⟩
   refine fin ⟨⟨A16.of 0 (dB (A16.l x4.1.B2.X) x3.2.2.D9.toNat x4.2),x4.1.B2.Pc,x4.1.B2.B8⟩,x4.1.Mem,x4.1.A3,x4.1.B0,x4.1.B1,x4.1.C2,x4.1.A1,x4.1.A2,x4.1.A4,x4.1.A6⟩ ⟨⟨Zla k.ok.cpu.x u _,k.ok.cpu.pc,k.ok.cpu.csr⟩,k.ok.mem,k.ok.disk,k.ok.nic,k.ok.target,k.ok.given⟩ ⟨?_,km.st,km.en,km.rt,km.ve⟩ (k.dev (dev _ _)) kt kw
   show(A16.of 0 (dB (A16.l x4.1.B2.X) x3.2.2.D9.toNat x4.2)).a0=0
   rw[e]
   exact km.x0
 . refine Q0c (Zkw ok3 _ e3 _) λx5 h5=> ?_
   obtain⟨k,u⟩:=h5
   have kc:x5.1.B2=x3.1:=k.cpu
   exact⟨u,fin x5.1 k.ok (by rw[kc];exact f1) (k.dev (dev _ _)) (k.cnt.trans hct2) (λe=>by have:x5.1.A4=x2.A4:=k.wait;rw[this,hw]at e;cases e.1)⟩
 . exact⟨aT _,fin ⟨x3.1,x3.2.1,x2.A3,x2.B0,x2.B1,x2.C2,x2.A1,x2.A2,true,x2.A6⟩ ⟨e1,e2,b2.disk,b2.nic,b2.target,b2.given⟩ f1 (dev _ _) hct2 (λe=>by have e2:x2.A6=true:=e.2;rw[hh2]at e2;cases e2)⟩
 . exact⟨aT _,fin ⟨x3.1,x3.2.1,x2.A3,x2.B0,x2.B1,x2.C2,x2.A1,x2.A2,x2.A4,true⟩ ⟨e1,e2,b2.disk,b2.nic,b2.target,b2.given⟩ f1 (dev _ _) hct2 (λe=>by have e2:x2.A4=true:=e.1;rw[hw]at e2;cases e2)⟩
 . exact⟨aT _,fin ⟨x3.1,x3.2.1,x2.A3,x2.B0,x2.B1,x2.C2,x2.A1,x2.A2,x2.A4,x2.A6⟩ ok3 f1 (dev _ _) hct2 (λe=>by have e2:x2.A4=true:=e.1;rw[hw]at e2;cases e2)⟩
theorem Zow{P:Nat}{m:Q00}(h:okM P m){e:Q0b}(he:U e.N):(Q4q m e).w (λr=>(Q18 m=true->Q18 r.1=true)/\r.1.A2=m.A2/\U r.1.A1.C5):=by
 obtain⟨h1,h2,h3,h4,h5,h7⟩:=h
 have hcl:Q04 m.Mem=m.Mem:=rfl
 have pg: ∀{m':List Int},Q17 P m'->Q1 m'=Q1 m.Mem:=λh=>by rw[Q3z h,Q3z h2]
 have keep:(Q18 m=true->Q18 m=true)/\m.A2=m.A2/\U m.A1.C5:=⟨λh=>h,rfl,h5.2⟩
 unfold Q4q
 refine w_an (Qac h2) (w_lv λl hl=> ?_)
 rw[hcl]at hl;subst hl
 refine Q0c (Zak (m:=⟨_,_,_,_,_,_,m.A1,_,_,_⟩) h5.2) λx1 _=>w_br (λ_=>keep) λ_=>w_br (λ_=>keep) λ_=> ?_
 refine w_br (λ_=>w_br (λ_=>w_br (λ_=>w_lv λx hx=> ?_) (λ_=>keep)) (λ_=>keep)) λ_=>w_br (λ_=>w_br (λ_=>w_br (λ_=>Q0c (qag _ _) λx hx=> ?_) (λ_=>keep)) (λ_=>keep)) λ_=>w_br (λhk=>Q0c (Zpd h2 h3 e) λx hx=> ?_) λ_=>w_br (λhk=>w_br (λ_=>Q0c (qe h2 h4 _) λx hx=> ?_) (λ_=>keep)) λ_=>w_br (λ_=>w_br (λ_=> ?_) (λ_=>keep)) (λ_=>keep)
 . exact⟨Qv6 rfl rfl rfl rfl rfl (λh=>h) (λh=>by rw[hx];exact xH _ h) (λ_ h=>h) (λ_ h=>h) rfl,rfl,h5.2⟩
 . exact⟨Qv6 rfl rfl rfl rfl rfl hx (λh=>h) (λ_ h=>h) (λ_ h=>h) rfl,rfl,h5.2⟩
 . obtain⟨a1,a2,a3,a4,a5⟩:=hx
   exact⟨Qv6 (pg a2) rfl rfl rfl rfl (λh=>h) (λh=>h) a5 (λ_ h=>h) rfl,rfl,h5.2⟩
 . obtain⟨a1,a2,a3,a4,a5⟩:=hx
   exact⟨Qv6 (pg a2) rfl rfl rfl rfl (λh=>h) (λh=>h) (λ_ h=>h) a5 rfl,rfl,h5.2⟩
 . exact⟨Qv6 rfl rfl rfl rfl rfl (λh=>h) (λh=>h) (λ_ h=>h) (λ_ h=>h) rfl,rfl,h5.2⟩
structure okW(m:Q00):Prop where
 cpu:Q2n m.B2
 u: ∀w∈m.Mem,U w
 len:m.Mem.length<=1024
 disk:Q9p m.B1
 nic:Ql6 m.C2
 bal:okB m.A1
 cnt:0<=m.A2
theorem Qz1{a:Int}(h:U a):(dS 32 a).toNat=a.toNat:=by
 obtain⟨h1,h2⟩:=h
 rw[dT];omega
theorem Zkc{a b:Int}(ha:U a)(hb:U b):iand .u32 a b=((a.toNat&&&b.toNat:Nat):Int):=by
 have l:=(dS 32 a&&&dS 32 b).isLt
 have e:(dS 32 a&&&dS 32 b).toNat=a.toNat&&&b.toNat:=by rw[dV,Qz1 ha,Qz1 hb]
 show wrap .u32 ((dS 32 a&&&dS 32 b).toNat:Int)=_
 rw[wrap_u32,<-e];omega
theorem zaE{a b:Int}(ha:U a)(hb:U b):ior .u32 a b=((a.toNat|||b.toNat:Nat):Int):=by
 have l:=(dS 32 a|||dS 32 b).isLt
 have e:(dS 32 a|||dS 32 b).toNat=a.toNat|||b.toNat:=by rw[dU,Qz1 ha,Qz1 hb]
 show wrap .u32 ((dS 32 a|||dS 32 b).toNat:Int)=_
 rw[wrap_u32,<-e];omega
theorem Zcr{a:Int}(ha:U a)(k:Nat)(hk:k<=32){q:Int}(hq:q=((2^k-1:Nat):Int)):iand .u32 a q=a%2^k:=by
 have hp:2^k<=2^32:=dO (by decide) hk
 have h1:(2:Nat)^32=4294967296:=by decide
 have hpos:=eB k
 subst hq
 rw[Zkc ha ⟨by omega,by omega⟩,dZ,Nat.and_two_pow_sub_one_eq_mod]
 have:=ha.1
 rw[Int.natCast_emod,eC this]
 simp
theorem m15{a:Int}(ha:U a):iand .u32 a 15=a%16:=Zcr ha 4 (by decide) rfl
theorem m255{a:Int}(ha:U a):iand .u32 a 255=a%256:=Zcr ha 8 (by decide) rfl
theorem m65535{a:Int}(ha:U a):iand .u32 a 65535=a%65536:=Zcr ha 16 (by decide) rfl
theorem Qx8(p:Int->Bool)(N:Nat)(h:(dP N).all (λn=>p n)=true){s:Int}(h0:0<=s)(h1:s<N):p s=true:=by
 have:=List.all_eq_true.1 h s.toNat (List.mem_range.2 (by omega))
 rwa [eC h0]at this
theorem w64{x:Int}(h0: -9223372036854775808<=x)(h1:x<9223372036854775808):wrap .i64 x=x:=by rw[wrap_i64];omega
theorem shr0(a:Int):ishr .u32 a 0=a:=by have:=Qta (a:=a) 0 (by decide);simpa using this
theorem fld(w:Int):Q38 w 24 8=iand .u32 (ishr .u32 w 24) 255/\Q38 w 20 4=iand .u32 (ishr .u32 w 20) 15/\Q38 w 16 4=iand .u32 (ishr .u32 w 16) 15/\Q38 w 0 16=iand .u32 (ishr .u32 w 0) 65535/\Q38 w 8 8=iand .u32 (ishr .u32 w 8) 255:=
 ⟨by kernel_rfl,by kernel_rfl,by kernel_rfl,by kernel_rfl,by kernel_rfl⟩
def useOf(f:Int):Q9m×Bool:=
 bif f==1 then(⟨false,false,false,0,0⟩,true) else bif f==2 then(⟨true,true,true,0,0⟩,true) else bif f==3 then(⟨true,true,false,-32768,32767⟩,true)
 else bif f==4 then(⟨true,true,false,0,65535⟩,true) else bif f==5 then(⟨true,true,false,0,31⟩,true) else bif f==6 then(⟨true,false,false,0,65535⟩,true)
 else bif f==7 then(⟨true,false,false,-32768,32767⟩,true) else bif f==8 then(⟨true,false,false,0,7⟩,true) else bif f==9 then(⟨true,false,false,0,11⟩,true) else(⟨false,false,false,0,0⟩,false)
def sameU(x y:Q9m×Bool):Bool:=x.1.a==y.1.a&&x.1.b==y.1.b&&x.1.c==y.1.c&&x.1.low==y.1.low&&x.1.D6==y.1.D6&&x.2==y.2
theorem qI{x y:Q9m×Bool}(h:sameU x y=true):x=y:=by
 obtain⟨⟨a,b,c,d,e⟩,f⟩:=x
 obtain⟨⟨a',b',c',d',e'⟩,f'⟩:=y
 simp only[sameU,aE,beq_iff_eq]at h
 obtain⟨⟨⟨⟨⟨rfl,rfl⟩,rfl⟩,rfl⟩,rfl⟩,rfl⟩:=h
 rfl
theorem vX{op:Int}(h0:0<=op)(h1:op<256):Z2t op=useOf (Q2i op):=by
 exact qI (Qx8 (λop=>sameU (Z2t op) (useOf (Q2i op))) 256 (by kernel_rfl) h0 h1)
theorem qg{op:Int}(h0:0<=op)(h1:op<256):Q2i op=0\/Q2i op=1\/Q2i op=2\/Q2i op=3\/Q2i op=4\/Q2i op=5\/Q2i op=6\/Q2i op=7\/Q2i op=8\/Q2i op=9:=by
 have:=oY (Qx8 (λop=>decide (0<=Q2i op/\Q2i op<=9)) 256 (by kernel_rfl) h0 h1)
 omega
theorem zah{op:Int}(h0:0<=op)(h1:op<256):Q95 op=Q3i op:=by
 exact eq_of_beq (Qx8 (λop=>Q95 op==Q3i op) 256 (by kernel_rfl) h0 h1)
theorem xI{a x y:Bool}:(cond a x y=true)↔((a=true/\x=true)\/(a=false/\y=true)):=by cases a<;>simp
theorem Zf{i:Q0o}(h0:0<=i.Op)(h1:i.Op<256)(hi:wrap .i64 i.Imm=i.Imm):Qhj i=Q81 i:=by
 rw[eD]
 simp only[Qhj,Qkm,Tree.m,letv,Q81,Qh6,vX h0 h1,hi]
 rcases qg h0 h1 with h|h|h|h|h|h|h|h|h|h<;>rw[h]<;>
 simp [useOf,Qai,Qgh,Q8w,Qf3,Qo9,Qod,Tree.m,letv,xI]<;>omega
theorem sx16{x:Int}(h0:0<=x)(h1:x<65536):wrap .i32 (Q2h x 16)=wrap .i32 (wrap .i16 x):=by
 have e:Q2h x 16=wrap .u32 (ishr .i32 (wrap .i32 (ishl .u32 x 16)) 16):=by kernel_rfl
 have e2: ∀y,ishr .i32 y 16=y/65536:=λy=>by
   show eF y 65536=_
   rw[dJ _ (by decide)]
 have e3:ishl .u32 x 16=wrap .u32 (x*65536):=rfl
 have e4:wrap .i16 x=(x+32768)%65536-32768:=by
   simp [wrap,IntKind.bits,IntKind.signed]
   split<;>omega
 rw[e,e2,e3,e4]
 simp only[wrap_i32,wrap_u32]
 omega
theorem sx8{x:Int}(h0:0<=x)(h1:x<256):Q2h x 8=Q3j x 8:=by
 exact eq_of_beq (Qx8 (λx=>Q2h x 8==Q3j x 8) 256 (by kernel_rfl) h0 h1)
theorem xg{w:Int}(hw:U w):Qiw w=Q24 w:=by
 obtain⟨f1,f2,f3,f4,_⟩:=fld w
 obtain⟨w0,w1⟩:=hw
 have s24:ishr .u32 w 24=w/16777216:=by have:=Qta (a:=w) 24 (by decide);simpa using this
 have s20:U (ishr .u32 w 20):=Qyg ⟨w0,w1⟩ _
 have s16:U (ishr .u32 w 16):=Qyg ⟨w0,w1⟩ _
 rw[m255 (Qyg ⟨w0,w1⟩ _),s24]at f1
 rw[m15 s20]at f2
 rw[m15 s16]at f3
 rw[shr0]at f4
 have g1:w/16777216%256=w/16777216:=by omega
 rw[g1]at f1
 have o0:0<=w/16777216:=by omega
 have o1:w/16777216<256:=by omega
 have eo:wrap .i64 (w/16777216)=w/16777216:=w64 (by omega) (by omega)
 have i32: ∀x,wrap .i64 (wrap .i32 x)=wrap .i32 x:=λx=>by rw[wrap_i64,wrap_i32];omega
 have l0:=m65535 ⟨w0,w1⟩
 have lx:=sx16 (x:=iand .u32 w 65535) (by omega) (by omega)
 simp only[Qiw,Q8b,Q24,Q6z,Tree.m,letv,f1,f2,f3,f4,s24,eo,vX o0 o1,m15 s20,m15 s16,lx]
 generalize w/16777216=op at*
 generalize wrap .i64 (ishr .u32 w 20%16)=a
 generalize wrap .i64 (ishr .u32 w 16%16)=b
 generalize iand .u32 w 65535=l
 rw[Zf (i:=⟨op,a,b,wrap .i64 l,0⟩) o0 o1 rfl,Zf (i:=⟨op,a,b,0,wrap .i32 (wrap .i16 l)⟩) o0 o1 (i32 _),Zf (i:=⟨op,a,b,0,wrap .i32 l⟩) o0 o1 (i32 _)]
 rcases qg o0 o1 with h|h|h|h|h|h|h|h|h|h<;>rw[h]<;>rfl
theorem xah(x v:BitVec 32)(s:Nat)(hs:s<=24):((x&&&~~~(255#32<<<s))|||((v&&&255#32)<<<s)).toNat=2^(s+8)*(x.toNat/2^(s+8))+(2^s*(v.toNat%256)+x.toNat%2^s):=by
  have hx:=x.isLt
  have h1:x.toNat%2^s<2^s:=Nat.mod_lt _ (eB s)
  have h2:2^s*(v.toNat%256)+x.toNat%2^s<2^(s+8):=by
    have:v.toNat%256<256:=Nat.mod_lt _ (by decide)
    have h3:2^s*(v.toNat%256)<=2^s*255:=Nat.mul_le_mul_left _ (by omega)
    have:2^(s+8)=2^s*256:=by rw[Nat.pow_add]
    omega
  rw[eG h2,eG h1]
  apply eH
  intro i
  rw[BitVec.testBit_toNat]
  simp only[BitVec.getLsbD_or,BitVec.getLsbD_and,BitVec.getLsbD_not,BitVec.getLsbD_shiftLeft,Nat.testBit_or,Nat.testBit_two_pow_mul,eI,Nat.testBit_div_two_pow,BitVec.getLsbD_ofNat]
  have e255: ∀j,eJ 255 j=decide (j<8):=λj=>by
    rw[show 255=2^8-1 from rfl,Nat.testBit_two_pow_sub_one]
  have e256: ∀n j,eJ (n%256) j=(decide (j<8)&&eJ n j):=λn j=>by
    rw[show 256=2^8 from rfl,eI]
  rw[e255,e256]
  by_cases hi:i<32
  . by_cases a1:i<s
    . have a2: ¬(s<=i):=by omega
      have a3: ¬(s+8<=i):=by omega
      simp [hi,a1,a2,a3,eK]
    . by_cases a4:s+8<=i
      . have a2: ¬(i-s<8):=by omega
        have a5:i-(s+8)+(s+8)=i:=by omega
        have a6:s<=i:=by omega
        simp [hi,a1,a2,a4,a5,a6,eK]
      . have a2:(i-s<8):=by omega
        have a6:s<=i:=by omega
        have a7:i-s<32:=by omega
        simp [hi,a1,a2,a4,a6,a7,eK]
  . have a0:x.toNat.testBit i=false:=Nat.testBit_lt_two_pow (Nat.lt_of_lt_of_le hx (dO (by decide) (by omega)))
    have a1: ¬(i<s):=by omega
    have a2: ¬(i-s<8):=by omega
    have a4:s+8<=i:=by omega
    have a5:i-(s+8)+(s+8)=i:=by omega
    simp [hi,a0,a1,a2,a4,a5]
theorem Zat(b:BitVec 32):dS 32 (wrap .u32 (b.toNat:Int))=b:=by
 have:=b.isLt
 rw[wrap_u32]
 apply eL
 rw[dT];omega
theorem Zqz(x:Int):dS 32 (wrap .u32 x)=dS 32 x:=by
 apply eL
 rw[dT,dT,wrap_u32]
 have:((2^32:Nat):Int)=4294967296:=by decide
 rw[this,Int.emod_emod_of_dvd _ (Int.dvd_refl _)]
theorem Zig{x:Int}(hx:U x)(s:Nat)(hs:s<=32):dS 32 (ishl .u32 x s)=dS 32 x<<<s:=by
 obtain⟨n,rfl⟩: ∃n:Nat,x=n:=⟨x.toNat,by have:=hx.1;omega⟩
 have e:min (cZ (s:Int)) u32.bits=s:=by show min (cZ (s:Int)) 32=s;omega
 unfold ishl
 rw[e,Zqz]
 have e2:((n:Int)*2^s)=((n*2^s:Nat):Int):=by simp
 have:=hx.2
 rw[e2,eM,eM]
 apply eL
 rw[BitVec.toNat_shiftLeft,eN,eN,Nat.shiftLeft_eq,Nat.mod_mul_mod]
def putW(W v:Int)(s:Nat):Int:=ior .u32 (Qir .u32 W (ishl .u32 255 s)) (ishl .u32 (iand .u32 v 255) s)
theorem qai{W v:Int}(hW:U W)(hv:U v)(s:Nat)(hs:s<=24):putW W v s=2^(s+8)*(W/2^(s+8))+(2^s*(v%256)+W%2^s):=by
 have e:=xah (dS 32 W) (dS 32 v) s hs
 have l:=((dS 32 W&&&~~~(255#32<<<s))|||((dS 32 v&&&255#32)<<<s)).isLt
 have h1:dS 32 (Qir .u32 W (ishl .u32 255 s))=dS 32 W&&&~~~(255#32<<<s):=by
   show dS 32 (wrap .u32 (dS 32 W&&&~~~dS 32 (ishl .u32 255 s)).toNat)=_
   rw[Zat,Zig ⟨by decide,by decide⟩ s (by omega)]
   rfl
 have h2:dS 32 (ishl .u32 (iand .u32 v 255) s)=(dS 32 v&&&255#32)<<<s:=by
   rw[Zig (Zmk _ _) s (by omega)]
   congr 1
   show dS 32 (wrap .u32 (dS 32 v&&&dS 32 255).toNat)=_
   rw[Zat];rfl
 show wrap .u32 ((dS 32 (Qir .u32 W (ishl .u32 255 s))|||dS 32 (ishl .u32 (iand .u32 v 255) s)).toNat:Int)=_
 rw[h1,h2]
 have lw:wrap .u32 ((((dS 32 W&&&~~~(255#32<<<s))|||((dS 32 v&&&255#32)<<<s)).toNat:Nat):Int)=(((dS 32 W&&&~~~(255#32<<<s))|||((dS 32 v&&&255#32)<<<s)).toNat:Nat):=by rw[wrap_u32];omega
 rw[lw,e,Qz1 hW,Qz1 hv]
 obtain⟨n,rfl⟩: ∃n:Nat,W=n:=⟨W.toNat,by have:=hW.1;omega⟩
 obtain⟨k,rfl⟩: ∃n:Nat,v=n:=⟨v.toNat,by have:=hv.1;omega⟩
 simp
def dig(w:Int)(k:Nat):Int:=if k=0 then w%256 else if k=1 then w/256%256 else if k=2 then w/65536%256 else w/16777216%256
def byt(m:List Int)(a:Nat):Int:=dig (m.getD (a/4) 0) (a%4)
theorem zg(w:Int)(k:Nat):0<=dig w k/\dig w k<256:=by
 unfold dig
 split
 . omega
 . split
   . omega
   . split<;>omega
theorem zai{w v:Int}(hw:U w)(hv:U v)(h: ∀k,k<4->dig w k=dig v k):w=v:=by
 have h0:=h 0 (by omega)
 have h1:=h 1 (by omega)
 have h2:=h 2 (by omega)
 have h3:=h 3 (by omega)
 simp [dig]at h0 h1 h2 h3
 obtain⟨a,b⟩:=hw
 obtain⟨c,d⟩:=hv
 omega
theorem Zlu{m n:List Int}(hl:m.length=n.length)(hm: ∀w∈m,U w)(hn: ∀w∈n,U w)(h: ∀a,byt m a=byt n a):m=n:=by
 refine bM hl λi h1 h2=> ?_
 have e1:m[i]=m.getD i 0:=by simp [aK,h1]
 have e2:n[i]=n.getD i 0:=by simp [aK,h2]
 rw[e1,e2]
 refine zai (Qmr hm i) (Qmr hn i) λk hk=> ?_
 have:=h (4*i+k)
 simp only[byt]at this
 rwa [show(4*i+k)/4=i by omega,show(4*i+k)%4=k by omega]at this
theorem Quy{l:List Int}{i:Nat}(h:i<l.length)(v:Int):(l.set i v).getD i 0=v:=by
 simp [aK,h]
theorem Zlq{m:List Int}{i:Nat}(hi:i<m.length)(v:Int)(a:Nat):byt (m.set i v) a=if a/4=i then dig v (a%4) else byt m a:=by
 unfold byt
 split
 . rename_i h;rw[h,Quy hi]
 . rename_i h;rw[getDset _ _ _ _ (λe=>h e.symm)]
theorem xai{W v:Int}(hW:U W)(hv:U v){j:Nat}(hj:j<4){k:Nat}(hk:k<4):dig (putW W v (8*j)) k=if k=j then v%256 else dig W k:=by
 have h:=qai hW hv (8*j) (by omega)
 rw[h]
 obtain⟨w0,w1⟩:=hW
 have h0:0<=v%256:=by omega
 have h1:v%256<256:=by omega
 generalize v%256=b at*
 clear h
 have hj:j=0\/j=1\/j=2\/j=3:=by omega
 have hk:k=0\/k=1\/k=2\/k=3:=by omega
 rcases hj with rfl|rfl|rfl|rfl<;>rcases hk with rfl|rfl|rfl|rfl<;>simp [dig]<;>omega
theorem qaj{m:List Int}{a v:Int}(ha:U a):Qbo m a 1 v=m.set (a/4).toNat (putW (m.getD (a/4).toNat 0) v (8*(a%4).toNat)):=by
 obtain⟨a0,a1⟩:=ha
 have e1:wrap .u32 (eO a 4)=a/4:=by rw[wrap_u32,eQ a0];omega
 have e2:wrap .u32 (8*cX a 4)=((8*(a%4).toNat:Nat):Int):=by rw[wrap_u32,eA a0];omega
 have e3:((1:Int)==4)=false:=rfl
 simp only[Qbo,Qfo,Tree.m,e1,e2,e3,cond_false]
 rfl
theorem yg{P:Nat}{m:List Int}(h:Q17 P m){a v:Int}(ha:U a)(hl:a<128*P)(hv:U v):Q17 P (Qbo m a 1 v)/\ ∀b:Nat,byt (Qbo m a 1 v) b=if(b:Int)=a then v%256 else byt m b:=by
 have hlen:=h.len
 have a0:=ha.1
 rw[qaj ha]
 have hi:(a/4).toNat<m.length:=by omega
 refine⟨⟨by rw[dC];exact hlen,h.p1,h.p2,Z8j h.u (U_or _ _) _⟩,λb=> ?_⟩
 rw[Zlq hi]
 by_cases hb:b/4=(a/4).toNat
 . rw[if_pos hb,xai (Qmr h.u _) hv (by omega) (by omega)]
   by_cases hc:b%4=(a%4).toNat
   . rw[if_pos hc,if_pos (by omega)]
   . rw[if_neg hc,if_neg (by omega),byt,hb]
 . rw[if_neg hb,if_neg (by omega)]
theorem qY{P:Nat}{m:List Int}(h:Q17 P m){frame:Int}(f0:0<=frame)(f1:frame<P)(s:List UInt8):(Qa8 m frame s).w (λr=>Q17 P r/\ ∀b:Nat,byt r b=if frame*128<=b/\(b:Int)<frame*128+min s.length 128 then((s.getD (b-frame*128).toNat 0).toNat:Int) else byt m b):=by
 unfold Qa8
 have h3:=h.p2
 refine w_lp (inv:=λz=>0<=z.1/\z.1<=min s.length 128/\Q17 P z.2/\ ∀b:Nat,byt z.2 b=if frame*128<=b/\(b:Int)<frame*128+z.1 then((s.getD (b-frame*128).toNat 0).toNat:Int) else byt m b) (μ:=Qk7 m frame s) ⟨show(0:Int)<=0 by decide,by show(0:Int)<=_;omega,h,λb=>by rw[if_neg];show¬(_/\_<_+(0:Int));omega⟩ (cK _) (λv0 hv0=> ?_)
 obtain⟨i,mm⟩:=v0
 obtain⟨i0,i1,hm,hy⟩:=hv0
 have i0:0<=i:=i0
 have i1:i<=min s.length 128:=i1
 have hm:Q17 P mm:=hm
 have fin: ∀r:List Int,r=mm->i=min s.length 128->Q17 P r/\ ∀b:Nat,byt r b=if frame*128<=b/\(b:Int)<frame*128+min s.length 128 then((s.getD (b-frame*128).toNat 0).toNat:Int) else byt m b:=λr hr hi=>by
   subst hr;refine⟨hm,λb=> ?_⟩
   rw[hy b];simp only[hi]
 refine w_br (λh1=>w_br (λh2=>w_cn ?_ ?_) (λh2=>fin mm rfl ?_)) (λh1=>fin mm rfl ?_)
 . have:=oY h1
   simp [bT];omega
 . have h1:i<s.length:=oY h1
   have h2:i<128:=oY h2
   have e:wrap u32 (wrap i64 (wrap i64 (frame*128)+i))=frame*128+i:=by
     rw[wrap_u32,wrap_i64,wrap_i64];omega
   show(Tree.an (Qhf mm (wrap u32 (wrap i64 (wrap i64 (frame*128)+i))) 1 _) (Tree.lv _ _)).w _
   rw[e]
   have hu:U (frame*128+i):=⟨by omega,by omega⟩
   have hvU: ∀n:Nat,U (wrap .u32 (n:Int)):=λn=>Q0u _
   obtain⟨g1,_⟩:=Tree.pp (put_w hm (size:=1) (addr:=frame*128+i) hu (by rw[hm.len];omega) (hvU (eR (s.getD i.toNat 0))))
   obtain⟨g2,g3⟩:=yg hm hu (by omega) (hvU (eR (s.getD i.toNat 0)))
   refine w_an g1 (w_lv λx0 hx0=> ?_)
   rw[hx0]
   have ew:i64.wrap (i+1)=i+1:=by rw[wrap_i64];omega
   refine w_nx ?_
   show(0<=i64.wrap (i+1)/\i64.wrap (i+1)<=min s.length 128/\Q17 P _/\ ∀b:Nat,byt _ b=if frame*128<=b/\(b:Int)<frame*128+i64.wrap (i+1) then _ else _)/\(128-i64.wrap (i+1)).toNat<(128-i).toNat
   rw[ew]
   refine⟨⟨by omega,by omega,g2,λb=> ?_⟩,by omega⟩
   rw[show Qbo mm (frame*128+i) 1 _=_ from rfl,g3 b]
   by_cases hb:(b:Int)=frame*128+i
   . rw[if_pos hb,if_pos (by omega),wrap_u32]
     have:=(s.getD i.toNat 0).toNat_lt
     rw[show(b-frame*128).toNat=i.toNat by omega];omega
   . rw[if_neg hb,hy b]
     show(if frame*128<=(b:Int)/\(b:Int)<frame*128+i then _ else _)=_
     by_cases hc:frame*128<=(b:Int)/\(b:Int)<frame*128+i
     . rw[if_pos hc,if_pos (by omega)]
     . rw[if_neg hc,if_neg (by omega)]
 . have h1:i<s.length:=oY h1
   have h2: ¬i<128:=oN h2
   omega
 . have h1: ¬i<s.length:=oN h1
   omega
theorem vg{x y:Int}(hx:U x)(hy:U y)(k:Nat)(hk:x<2^k)(h:x+y*2^k<4294967296):ior .u32 x (y*2^k)=x+y*2^k:=by
 obtain⟨n,rfl⟩: ∃n:Nat,x=n:=⟨x.toNat,by have:=hx.1;omega⟩
 obtain⟨z,rfl⟩: ∃n:Nat,y=n:=⟨y.toNat,by have:=hy.1;omega⟩
 have e:((z:Int)*2^k)=((z*2^k:Nat):Int):=by simp
 rw[e]at h⊢
 have hn:n<2^k:=by exact_mod_cast hk
 rw[zaE hx ⟨by omega,by omega⟩,dZ,dZ,Nat.or_comm,Nat.mul_comm,<-eG hn]
 omega
theorem four{a b c d:Int}(ha:0<=a/\a<256)(hb:0<=b/\b<256)(hc:0<=c/\c<256)(hd:0<=d/\d<256):ior .u32 (ior .u32 (ior .u32 (wrap .u32 a) (ishl .u32 (wrap .u32 b) 8)) (ishl .u32 (wrap .u32 c) 16)) (ishl .u32 (wrap .u32 d) 24)=a+b*2^8+c*2^16+d*2^24:=by
 have w: ∀{x:Int},0<=x/\x<256->wrap .u32 x=x:=λhx=>by rw[wrap_u32];omega
 have s8: ∀{x:Int},0<=x/\x<256->ishl .u32 x 8=x*2^8:=fun{x} hx=>by show wrap .u32 (x*2^8)=_;rw[wrap_u32];omega
 have s16: ∀{x:Int},0<=x/\x<256->ishl .u32 x 16=x*2^16:=fun{x} hx=>by show wrap .u32 (x*2^16)=_;rw[wrap_u32];omega
 have s24: ∀{x:Int},0<=x/\x<256->ishl .u32 x 24=x*2^24:=fun{x} hx=>by show wrap .u32 (x*2^24)=_;rw[wrap_u32];omega
 rw[w ha,w hb,w hc,w hd,s8 hb,s16 hc,s24 hd]
 rw[vg ⟨by omega,by omega⟩ ⟨by omega,by omega⟩ 8 (by omega) (by omega),vg ⟨by omega,by omega⟩ ⟨by omega,by omega⟩ 16 (by omega) (by omega),vg ⟨by omega,by omega⟩ ⟨by omega,by omega⟩ 24 (by omega) (by omega)]
theorem zI{a b c d:Int}(ha:0<=a/\a<256)(hb:0<=b/\b<256)(hc:0<=c/\c<256)(hd:0<=d/\d<256)(k:Nat)(hk:k<4):dig (a+b*2^8+c*2^16+d*2^24) k=if k=0 then a else if k=1 then b else if k=2 then c else d:=by
 have hk:k=0\/k=1\/k=2\/k=3:=by omega
 rcases hk with rfl|rfl|rfl|rfl<;>simp [dig]<;>omega
theorem Zc{P:Nat}{m:List Int}(h:Q17 P m)(f:Int):Q5n m f=decide (0<=f/\f<P):=by
 have hp:=Q3z h
 simp only[Q5n,Q94,Tree.m,letv,hp]
 by_cases h1:0<=f
 . rw[dY h1];simp [h1]
 . rw[dN h1];simp [h1]
theorem yI(s:List UInt8)(a b k:Nat)(h:k<b):(cY b (dA a s)).getD k 0=s.getD (a+k) 0:=by
 simp [cL,aU,h]
theorem u8I(x:UInt8):0<=(x.toNat:Int)/\(x.toNat:Int)<256:=by have:=x.toNat_lt;omega
theorem Z4h{P:Nat}{m:List Int}(h:Q17 P m){f:Int}(f0:0<=f)(f1:f<P){s:List UInt8}(hs:s.length=128):(Q3w m f s).w (λr=>r.2=true/\Q17 P r.1/\ ∀b:Nat,byt r.1 b=if f*128<=b/\(b:Int)<f*128+128 then((s.getD (b-f*128).toNat 0).toNat:Int) else byt m b):=by
  have hcl:Q04 m=m:=rfl
  have h2:=h.p2
  unfold Q3w
  refine w_an (Qac h) (w_lv λx0 hx0=>w_lv λx1 hx1=> ?_)
  rw[hcl]at hx0;subst hx0
  rw[Zc h,dY ⟨f0,f1⟩]at hx1
  subst hx1
  refine w_br (λhb=>by cases hb) λ_=>w_br (λhb=>by simp [hs]at hb) λ_=> ?_
  refine w_lp (inv:=λz:Int×List Int=>0<=z.1/\z.1<=32/\Q17 P z.2/\ ∀b:Nat,byt z.2 b=if f*128<=b/\(b:Int)<f*128+4*z.1 then((s.getD (b-f*128).toNat 0).toNat:Int) else byt x0 b) (μ:=Qbv x0 f s) ⟨show(0:Int)<=0 by decide,show(0:Int)<=32 by decide,h,λb=>by rw[if_neg];show¬(_/\_<_+4*(0:Int));omega⟩ (cK _) λz ⟨z1,z2,z3,z4⟩=> ?_
  refine w_br (λhb=> ?_) (λhb=>⟨rfl,z3,λb=> ?_⟩)
  . have hb:=oY hb
    have e1:i64.wrap (4*z.1)=4*z.1:=by rw[wrap_i64];omega
    have e2:i64.wrap (i64.wrap (4*z.1)+4)=4*z.1+4:=by rw[wrap_i64,wrap_i64];omega
    have e3:i64.wrap (i64.wrap (f*32)+z.1)=f*32+z.1:=by rw[wrap_i64,wrap_i64];omega
    have hl:=z3.len
    have cut:cZ (i64.wrap (i64.wrap (4*z.1)+4))-cZ (i64.wrap (4*z.1))=4:=by rw[e2,e1];omega
    have hlen:(cY (cZ (i64.wrap (i64.wrap (4*z.1)+4))-cZ (i64.wrap (4*z.1))) (dA (cZ (i64.wrap (4*z.1))) s)).length=4:=by
      rw[cut,e1,bD,bF];omega
    refine w_cn (dY (by rw[e2,e1];omega)) ?_
    refine w_cn (dY (by rw[hlen];decide)) (w_cn (dY (by rw[hlen];decide)) (w_cn (dY (by rw[hlen];decide)) (w_cn (dY (by rw[hlen];decide)) (w_cn (by rw[e3];simp [bT];omega) (w_nx ?_)))))
    have ew:i64.wrap (z.1+1)=z.1+1:=by rw[wrap_i64];omega
    rw[cut]
    refine⟨⟨by show 0<=i64.wrap (z.1+1);rw[ew];omega,by show i64.wrap (z.1+1)<=32;rw[ew];omega,?_,?_⟩,by show(32-i64.wrap (z.1+1)).toNat<(32-z.1).toNat;rw[ew];omega⟩
    . show Q17 P (dB _ _ _)
      exact⟨by rw[dC];exact hl,z3.p1,z3.p2,Z8j z3.u (U_or _ _) _⟩
    . intro b
      show byt (dB z.2 (cZ (i64.wrap (i64.wrap (f*32)+z.1))) _) b=if f*128<=(b:Int)/\(b:Int)<f*128+4*i64.wrap (z.1+1) then _ else _
      rw[e3,ew,four (u8I _) (u8I _) (u8I _) (u8I _),Zlq (by omega)]
      have g: ∀k:Nat,k<4->(cY 4 (dA (cZ (i64.wrap (4*z.1))) s)).getD k 0=s.getD ((4*z.1).toNat+k) 0:=λk hk=>by rw[e1];exact yI _ _ _ _ hk
      by_cases hc:b/4=(f*32+z.1).toNat
      . have hin:f*128<=(b:Int)/\(b:Int)<f*128+4*(z.1+1):=by omega
        rw[if_pos hc,zI (u8I _) (u8I _) (u8I _) (u8I _) _ (by omega),if_pos hin]
        have hb4:b%4=0\/b%4=1\/b%4=2\/b%4=3:=by omega
        have gi:(b-f*128).toNat=(4*z.1).toNat+b%4:=by omega
        rw[gi]
        rcases hb4 with h4|h4|h4|h4<;>rw[h4]
        . rw[if_pos rfl,<-g 0 (by omega)];rfl
        . rw[if_neg (by decide),if_pos rfl,<-g 1 (by omega)];rfl
        . rw[if_neg (by decide),if_neg (by decide),if_pos rfl,<-g 2 (by omega)];rfl
        . rw[if_neg (by decide),if_neg (by decide),if_neg (by decide),<-g 3 (by omega)];rfl
      . rw[if_neg hc,z4 b]
        by_cases hd:f*128<=(b:Int)/\(b:Int)<f*128+4*z.1
        . rw[if_pos hd,if_pos (by omega)]
        . rw[if_neg hd,if_neg (by omega)]
  . have hb:=oN hb
    show byt z.2 b=_
    rw[z4 b,show z.1=32 by omega]
    rfl
theorem Zdf{α:Type}(l l2:List α)(k:Nat)(z:α):(l++l2).getD k z=if k<l.length then l.getD k z else l2.getD (k-l.length) z:=by
 simp only[cL,List.getElem?_append]
 split<;>rfl
theorem u8w{x:Int}:wrap .u8 x=x%256:=wrap_u8 x
theorem shr_c(W:Int):ishr .u32 W 8=W/256/\ishr .u32 W 16=W/65536/\ishr .u32 W 24=W/16777216:=by
 refine⟨?_,?_,?_⟩
 . show eF W 256=_;rw[dJ _ (by decide)]
 . show eF W 65536=_;rw[dJ _ (by decide)]
 . show eF W 16777216=_;rw[dJ _ (by decide)]
theorem b4d(W:Int){k:Nat}(hk:k<4):[wrap .u8 W,wrap .u8 (ishr .u32 W 8),wrap .u8 (ishr .u32 W 16),wrap .u8 (ishr .u32 W 24)].getD k 0=dig W k:=by
 obtain⟨a,b,c⟩:=shr_c W
 have hk:k=0\/k=1\/k=2\/k=3:=by omega
 rcases hk with rfl|rfl|rfl|rfl<;>simp [dig,a,b,c,u8w]
theorem Qps(l:List Int)(k:Nat)(h:0<=l.getD k 0/\l.getD k 0<256)(hk:k<l.length):(((bytesOf l).getD k 0).toNat:Int)=l.getD k 0:=by
 have e:(bytesOf l).getD k 0=eS (l.getD k 0).toNat:=by
   simp [bytesOf,cL,hk]
 rw[e,UInt8.toNat_ofNat']
 omega
theorem Zke(l:List UInt8)(k:Nat)(hk:k<l.length):(Qc9 l).getD k 0=((l.getD k 0).toNat:Int):=by
 simp [Qc9,cL,hk]
theorem xaE(w:List Int)(h:w.length<=32):(Q5j w).w (λr=>r.length=4*w.length/\ ∀k:Nat,k<4*w.length->((r.getD k 0).toNat:Int)=dig (w.getD (k/4) 0) (k%4)):=by
 have e0:i64.wrap (4*(w.length:Int))=4*w.length:=by rw[wrap_i64];omega
 unfold Q5j
 refine w_cn (by rw[e0];simp [bT,D.plain];omega) ?_
 refine w_lp (inv:=λz:Int×List Int=>0<=z.1/\z.1<=w.length/\(z.2.length:Int)=4*z.1/\ ∀k:Nat,(k:Int)<4*z.1->z.2.getD k 0=dig (w.getD (k/4) 0) (k%4)) (μ:=Q82 w) ⟨by decide,by show(0:Int)<=w.length;omega,rfl,λk hk=>by have hk:(k:Int)<4*0:=hk;omega⟩ (cK _) λz ⟨z1,z2,z3,z4⟩=> ?_
 refine w_br (λhb=> ?_) (λhb=> ?_)
 . have hb:=oY hb
   have ew:i64.wrap (z.1+1)=z.1+1:=by rw[wrap_i64];omega
   refine w_cn (by simp [bT];omega) (w_cn (dY (by omega)) (w_nx ?_))
   show(_/\_/\_/\ ∀k:Nat,(k:Int)<4*i64.wrap (z.1+1)->(z.2++_).getD k 0=_)/\(_:Nat)<_
   refine⟨⟨by rw[ew];omega,by rw[ew];omega,by rw[ew,lA];simp only[dD,dE];omega,λk hk=> ?_⟩,by show(w.length-i64.wrap (z.1+1)).toNat<(w.length-z.1).toNat;rw[ew];omega⟩
   rw[ew]at hk
   rw[Zdf]
   split
   . exact z4 k (by omega)
   . rename_i hn
     rw[b4d _ (by omega),show z.1.toNat=k/4 by omega,show k-z.2.length=k%4 by omega]
 . have hb:=oN hb
   show(bytesOf z.2).length=_/\ ∀k:Nat,_->(((bytesOf z.2).getD k 0).toNat:Int)=_
   refine⟨by rw[Qj6];omega,λk hk=> ?_⟩
   have e:=z4 k (by omega)
   have:=zg (w.getD (k/4) 0) (k%4)
   rw[Qps _ _ (by rw[e];exact this) (by omega),e]
def isPg(m:List Int)(f:Int)(r:List UInt8):Prop:=r.length=128/\ ∀k:Nat,k<128->((r.getD k 0).toNat:Int)=byt m ((f*128).toNat+k)
theorem qaF{m:List Int}{f:Int}{r s:List UInt8}(a:isPg m f r)(b:isPg m f s):r=s:=by
 obtain⟨a1,a2⟩:=a
 obtain⟨b1,b2⟩:=b
 refine bM (by omega) λi h1 h2=> ?_
 have e:=(a2 i (by omega)).trans (b2 i (by omega)).symm
 have e1:r[i]=r.getD i 0:=by simp [aK,h1]
 have e2:s[i]=s.getD i 0:=by simp [aK,h2]
 rw[e1,e2]
 exact UInt8.toNat_inj.1 (by omega)
theorem qh{P:Nat}{m:List Int}(h:Q17 P m){f:Int}(f0:0<=f)(f1:f<P):(Q74 m f).w (λr=>isPg m f r.1/\r.2=true):=by
 have hl:=h.len
 have h2:=h.p2
 unfold Q74
 refine w_lv λx0 hx0=> ?_
 rw[Zc h,dY ⟨f0,f1⟩]at hx0
 subst hx0
 refine w_br (λhb=>by cases hb) (λhb=> ?_)
 have e1:i64.wrap (f*32)=f*32:=by rw[wrap_i64];omega
 have e2:i64.wrap (i64.wrap (f*32)+32)=f*32+32:=by rw[wrap_i64,wrap_i64];omega
 have cut:cZ (i64.wrap (i64.wrap (f*32)+32))-cZ (i64.wrap (f*32))=32:=by rw[e2,e1];omega
 have hlen:(cY 32 (dA (cZ (i64.wrap (f*32))) m)).length=32:=by
   rw[e1,bD,bF];omega
 refine w_cn (by rw[e2,e1];simp [bT];omega) ?_
 rw[cut]
 refine w_an (by show dF _<=1000000000000;rw[hlen];decide) (w_lv λx1 h1=> ?_)
 have t:=(Tree.pp (xaE _ (dG hlen))).2
 rw[hlen,show(Q5j (cY 32 (dA (cZ (i64.wrap (f*32))) m))).m=x1 from h1.symm]at t
 refine⟨⟨t.1,λk hk=> ?_⟩,rfl⟩
 show((x1.getD k 0).toNat:Int)=_
 rw[t.2 k hk,byt,e1]
 have g:(cY 32 (dA (cZ (f*32)) m)).getD (k/4) 0=m.getD ((f*32).toNat+k/4) 0:=by
   simp [cL,aU,show k/4<32 by omega]
 rw[g,show((f*128).toNat+k)/4=(f*32).toNat+k/4 by omega,show((f*128).toNat+k)%4=k%4 by omega]
theorem zaF(x:Int):Zeq x 4=bytesOf [wrap .u8 (ishr .u32 x 0),wrap .u8 (ishr .u32 x 8),wrap .u8 (ishr .u32 x 16),wrap .u8 (ishr .u32 x 24)]:=by kernel_rfl
theorem zaj{P:Nat}{m:List Int}(hm:Q17 P m){frame:Int}(f0:0<=frame)(f1:frame<P):(Qak m frame).w (λr=>isPg m frame r.1/\r.2=true):=by
 have hp:=Qgk hm
 have hl:=hm.len
 have h2:=hm.p2
 unfold Qak
 refine w_br (λh=>by have:=oY h;omega) (λh=>w_lv λx0 hx=>w_br (λh1=>by have:=oY h1;rw[hx,hp]at this;omega) (λh1=> ?_))
 refine w_lp (inv:=λz:Int×List Int=>0<=z.1/\z.1<=32/\(z.2.length:Int)=4*z.1/\ ∀k:Nat,(k:Int)<4*z.1->z.2.getD k 0=byt m ((frame*128).toNat+k)) (μ:=Qjz m frame) ⟨by decide,by decide,rfl,λk hk=>by have hk:(k:Int)<4*0:=hk;omega⟩ (cK _) (λz hz=> ?_)
 obtain⟨z1,z2,z3,z4⟩:=hz
 refine w_br (λhb=> ?_) (λhb=> ?_)
 . have hb:=oY hb
   have e:wrap i64 (wrap i64 (frame*32)+z.1)=frame*32+z.1:=by rw[wrap_i64,wrap_i64];omega
   refine w_cn (by rw[e];simp [bT];omega) (w_an (show(4:Int)<=1000000000000 by decide) (w_lv λx1 h4=> ?_))
   rw[zaF,shr0,e]at h4
   have l4:x1.length=4:=by rw[h4];rfl
   refine w_cn (dY (by rw[Qrq,l4];omega)) (w_nx ?_)
   show(0<=i64.wrap (z.1+1)/\i64.wrap (z.1+1)<=32/\((z.2++Qc9 x1).length:Int)=4*i64.wrap (z.1+1)/\ ∀k:Nat,(k:Int)<4*i64.wrap (z.1+1)->(z.2++Qc9 x1).getD k 0=_)/\(32-i64.wrap (z.1+1)).toNat<(32-z.1).toNat
   have ew:i64.wrap (z.1+1)=z.1+1:=by rw[wrap_i64];omega
   rw[ew]
   refine⟨⟨by omega,by omega,by rw[lA,Qrq,l4];omega,λk hk=> ?_⟩,by omega⟩
   rw[Zdf]
   split
   . exact z4 k (by omega)
   . rename_i hn
     have hk4:k-z.2.length<4:=by omega
     rw[Zke _ _ (by omega),h4]
     have d:=b4d (m.getD (frame*32+z.1).toNat 0) hk4
     rw[Qps _ _ (by rw[d];exact zg _ _) (by simpa using hk4),d,byt]
     rw[show((frame*128).toNat+k)/4=(frame*32+z.1).toNat by omega,show((frame*128).toNat+k)%4=k-z.2.length by omega]
 . have hb:=oN hb
   refine⟨⟨?_,λk hk=> ?_⟩,rfl⟩
   . show(bytesOf z.2).length=128
     rw[Qj6];omega
   . show(((bytesOf z.2).getD k 0).toNat:Int)=_
     have e:=z4 k (by omega)
     rw[Qps _ _ (by rw[e];exact zg _ _) (by omega),e]
theorem Zgb{P:Nat}{m:List Int}(h:Q17 P m)(f:Int):Q5z m f=Qkg m f:=by
 by_cases hf:0<=f/\f<P
 . have a:=(Tree.pp (qh h hf.1 hf.2)).2
   have b:=(Tree.pp (zaj h hf.1 hf.2)).2
   exact eT (qaF a.1 b.1) (a.2.trans b.2.symm)
 . have hp:=Qgk h
   have e1:Q5z m f=([],false):=by
     simp only[Q5z,Q74,Tree.m,letv,Zc h,dN hf];rfl
   have e2:Qkg m f=([],false):=by
     simp only[Qkg,Qak,Tree.m,letv,hp]
     by_cases h0:f<0
     . rw[dY h0];rfl
     . rw[dN h0,dY (show f>=P by omega)];rfl
   rw[e1,e2]
section
variable {P:Nat} {m:List Int} (h:Q17 P m)
include h
theorem Zgl{f:Int}(f0:0<=f)(f1:f<P){s:List UInt8}(hs:s.length=128):Q2y m f s=(Qnk m f s,true):=by
 have a:=(Tree.pp (Z4h h f0 f1 hs)).2
 have b:=(Tree.pp (qY h f0 f1 s)).2
 refine eT (Zlu (a.2.1.len.trans b.1.len.symm) a.2.1.u b.1.u λk=> ?_) a.1
 have e:((min s.length 128:Nat):Int)=128:=by rw[hs];rfl
 have b2:=b.2 k
 have a2:=a.2.2 k
 rw[e]at b2
 exact a2.trans b2.symm
theorem Zh2{f:Int}(f0:0<=f)(f1:f<P){s r:List UInt8}(hs:s.length<=128)(hr:isPg m f r):Q2y m f (s++r.drop s.length)=(Qnk m f s,true):=by
  have hl:(s++r.drop s.length).length=128:=by have:=hr.1;simp;omega
  have a:=(Tree.pp (Z4h h f0 f1 hl)).2
  have b:=(Tree.pp (qY h f0 f1 s)).2
  refine eT (Zlu (a.2.1.len.trans b.1.len.symm) a.2.1.u b.1.u λk=> ?_) a.1
  have b2:=b.2 k
  have a2:=a.2.2 k
  refine a2.trans (Eq.trans ?_ b2.symm)
  by_cases hc:f*128<=(k:Int)/\(k:Int)<f*128+128
  . rw [if_pos hc,Zdf]
    by_cases hd:(k-f*128).toNat<s.length
    . rw[if_pos hd,if_pos (by omega)]
    . rw[if_neg hd,if_neg (by omega)]
      have e:(r.drop s.length).getD ((k-f*128).toNat-s.length) 0=r.getD (k-f*128).toNat 0:=by
        simp [cL,show s.length+((k-f*128).toNat-s.length)=(k-f*128).toNat by omega]
      rw[e,hr.2 _ (by omega),show(f*128).toNat+(k-f*128).toNat=k by omega]
  . rw[if_neg hc,if_neg (by omega)]
theorem Qj2{a:Int}(ha:U a){size:Int}(hs:size=1\/size=4):Q27 m a size=decide (a%size=0/\a<128*P):=by
 have hq:=Qgk h
 have h2:=h.p2
 have a0:=ha.1
 have e:wrap u32 size=size:=by rcases hs with rfl|rfl<;>decide
 have e0:decide (wrap u32 size≠0)=true:=by rcases hs with rfl|rfl<;>decide
 have t:cX a (wrap u32 size)=a%size:=by rw[e,eA a0]
 have l: ∀x,x=Q40 m->a%size=0->decide (a<wrap u32 (wrap i64 (128*x)))=decide (a%size=0/\a<128*P):=λx hx hz=>by
   rw[hx,hq,wrap_u32,wrap_i64]
   exact decide_eq_decide.2 ⟨λh=>⟨hz,by omega⟩,λh=>by omega⟩
 refine Tree.post (Q8x m a size) (W:=λb=>b=decide (a%size=0/\a<128*P)) ?_
 unfold Q8x
 refine w_br (λh1=>w_br (λh4=> ?_) (λ_=> ?_)) (λ_=> ?_)
 . have h1: ¬size=1:=by simpa using h1
   have h4: ¬size=4:=by simpa using h4
   omega
 all_goals
   refine w_cn e0 (w_br (λhb=>w_lv λx hx=>l x hx ?_) (λhb=> ?_))
   . rw[t]at hb;exact eq_of_beq hb
   . rw[t]at hb
     exact(dN (λh=>by rw[h.1]at hb;cases hb)).symm
theorem Z6{a:Int}(ha:U a){size:Int}(hs:size=1\/size=4):Qip m a size=Q27 m a size:=by
 rw[Qj2 h ha hs]
 have hq:=Z59 h
 have h2:=h.p2
 have a0:=ha.1
 have a1:=ha.2
 have e:wrap u32 size=size:=by rcases hs with rfl|rfl<;>decide
 have e0:decide (wrap u32 size≠0)=true:=by rcases hs with rfl|rfl<;>decide
 have t:cX a (wrap u32 size)=a%size:=by rw[e,eA a0]
 have l: ∀x,x=Q1 m->a%size=0->decide (wrap u64 (wrap u64 a+wrap u64 size)<=wrap u64 (wrap u64 x*128))=decide (a%size=0/\a<128*P):=λx hx hz=>by
   rw[hx,hq]
   simp only[wrap_u64]
   refine decide_eq_decide.2 ⟨λh=>⟨hz,?_⟩,λh=> ?_⟩<;>rcases hs with rfl|rfl<;>omega
 refine Tree.post (Q3g m a size) (W:=λb=>b=decide (a%size=0/\a<128*P)) ?_
 unfold Q3g
 refine w_br (λh1=>w_br (λh4=> ?_) (λ_=> ?_)) (λ_=> ?_)
 . have h1: ¬size=1:=by simpa using h1
   have h4: ¬size=4:=by simpa using h4
   omega
 all_goals
   refine w_cn e0 (w_br (λhb=> ?_) (λhb=>w_lv λx hx=>l x hx ?_))
   . rw[t]at hb
     exact(dN (λh=>by rw[h.1]at hb;cases hb)).symm
   . rw[t]at hb;simpa using hb
end
theorem fldj(w:Int):Q38 w 0 8=iand .u32 (ishr .u32 w 0) 255/\Q38 w 8 8=iand .u32 (ishr .u32 w 8) 255/\Q38 w 16 8=iand .u32 (ishr .u32 w 16) 255/\Q38 w 24 8=iand .u32 (ishr .u32 w 24) 255:=
 ⟨by kernel_rfl,by kernel_rfl,by kernel_rfl,by kernel_rfl⟩
theorem setj(w v:Int):Q8k w 0 8 v=putW w v 0/\Q8k w 8 8 v=putW w v 8/\Q8k w 16 8 v=putW w v 16/\Q8k w 24 8 v=putW w v 24:=
 ⟨by kernel_rfl,by kernel_rfl,by kernel_rfl,by kernel_rfl⟩
theorem xh{a:Int}(ha:U a):wrap .i64 (wrap .i64 (cX a 4)*8)=8*(a%4)/\wrap .u32 (8*cX a 4)=8*(a%4):=by
 obtain⟨a0,a1⟩:=ha
 rw[eA a0]
 exact⟨by rw[wrap_i64,wrap_i64];omega,by rw[wrap_u32];omega⟩
section
variable {P:Nat} {m:List Int} (h:Q17 P m)
include h
theorem Qri{a:Int}(ha:U a){size:Int}(hs:size=1\/size=4):Q59 m a size=Q1h m a size:=by
 have e:=Z6 h ha hs
 obtain⟨s1,s2⟩:=xh ha
 have f:Q38 (m.getD (cZ (wrap .u32 (eO a 4))) 0) (8*(a%4)) 8=iand .u32 (ishr .u32 (m.getD (cZ (wrap .u32 (eO a 4))) 0) (8*(a%4))) 255:=by
   obtain⟨f0,f1,f2,f3⟩:=fldj (m.getD (cZ (wrap .u32 (eO a 4))) 0)
   have:a%4=0\/a%4=1\/a%4=2\/a%4=3:=by omega
   rcases this with h|h|h|h<;>rw[h]
   . exact f0
   . exact f1
   . exact f2
   . exact f3
 simp only[Q59,Q72,Q1h,Q43,Tree.m,letv,e,s1,s2,f]
omit h in
theorem Zez(a size:Int):(Q1h m a size).2=Q27 m a size:=by
 simp only[Q1h,Q43,Tree.m,letv]
 cases Q27 m a size
 . rfl
 . cases size==1<;>rfl
theorem Zar{a:Int}(ha:U a){size:Int}(hs:size=1\/size=4)(v:Int):Q9x m a size v=bif Q27 m a size then(Qbo m a size v,true) else(m,false):=by
 have hcl:Q04 m=m:=rfl
 have e:=Z6 h ha hs
 obtain⟨s1,s2⟩:=xh ha
 have f: ∀w,Q8k w (8*(a%4)) 8 v=ior .u32 (Qir .u32 w (ishl .u32 255 (8*(a%4)))) (ishl .u32 (iand .u32 v 255) (8*(a%4))):=λw=>by
   obtain⟨f0,f1,f2,f3⟩:=setj w v
   have:a%4=0\/a%4=1\/a%4=2\/a%4=3:=by omega
   rcases this with h|h|h|h<;>rw[h]
   . exact f0
   . exact f1
   . exact f2
   . exact f3
 simp only[Q9x,Q9f,Qbo,Qfo,Tree.m,letv,hcl,e,s1,s2,f]
 rcases hs with rfl|rfl<;>cases Q27 m a _<;>rfl
end
section
variable {P:Nat} {m:List Int} (h:Q17 P m)
include h
theorem zh{root va:Int}(hr:U root)(hv:U va){access:Int}(ha:access=1\/access=2\/access=3):Qkn m root va access=Q71 m root va access:=by
 have hp:=Qgk h
 have h2:=h.p2
 have hlen:=h.len
 obtain⟨r1,r2⟩:=hr
 obtain⟨v1,v2⟩:=hv
 have hpg: ∀{f:Int},U f->Qbk m f=decide (f<P):=λhf=>vT h hf
 have eP:wrap .u32 (P:Int)=P:=by rw[wrap_u32];omega
 have kn:Qfk access=true:=by rcases ha with rfl|rfl|rfl<;>rfl
 have ca:Qmg access=(Q26 access,true):=by rcases ha with rfl|rfl|rfl<;>rfl
 simp only[Qkn,Qb4,Q71,Qa3,Tree.m,letv,hp,eP,kn,ca,hpg ⟨r1,r2⟩]
 by_cases c1:va>=4096
 . rw[dY c1];rfl
 by_cases c2:root<P
 . have eE:wrap u32 (wrap u32 (root*128)+wrap u32 (4*wrap u32 (eO va 128)))=root*128+4*(va/128):=by
     rw[eQ v1,wrap_u32,wrap_u32,wrap_u32,wrap_u32];omega
   have hE:U (root*128+4*(va/128)):=⟨by omega,by omega⟩
   have wi:Q27 m (root*128+4*(va/128)) 4=true:=by
     rw[Qj2 h hE (.inr rfl)];exact dY ⟨by omega,by omega⟩
   rw[dN c1,dY c2,dN (show¬root>=P by omega),eE,Qri h hE (.inr rfl),Zez,wi]
   have ld:(Q1h m (root*128+4*(va/128)) 4).1=m.getD (cZ (wrap .u32 (eO (root*128+4*(va/128)) 4))) 0:=by
     simp only[Q1h,Q43,Tree.m,letv,wi];rfl
   rw[ld]
   generalize m.getD (cZ (wrap .u32 (eO (root*128+4*(va/128)) 4))) 0=w
   have fo:Qgp w=iand .u32 (ishr .u32 w 8) 255:=(fld w).2.2.2.2
   rw[fo,hpg (Zmk _ _)]
   have hge:decide (iand .u32 (ishr .u32 w 8) 255>=(P:Int))=!decide (iand .u32 (ishr .u32 w 8) 255<(P:Int)):=by
     by_cases hq:iand .u32 (ishr .u32 w 8) 255<(P:Int)
     . rw[dY hq,dN (by omega)];rfl
     . rw[dN hq,dY (by omega)];rfl
   rw[hge]
   generalize decide (iand .u32 (ishr .u32 w 8) 255<(P:Int))=d
   rcases ha with rfl|rfl|rfl
   . show _=(bif iand .u32 w 1==0 then _ else bif iand .u32 w 4==0 then _ else bif !d then _ else _)
     have:Qc8 w 1=(bif iand .u32 w 1==0 then false else !(iand .u32 w 4==0)):=rfl
     rw[this]
     cases iand .u32 w 1==0<;>cases iand .u32 w 4==0<;>cases d<;>rfl
   . show _=(bif iand .u32 w 1==0 then _ else bif !d then _ else _)
     have:Qc8 w 2=(bif iand .u32 w 1==0 then false else true):=rfl
     rw[this]
     cases iand .u32 w 1==0<;>cases d<;>rfl
   . show _=(bif iand .u32 w 1==0 then _ else bif iand .u32 w 2==0 then _ else bif !d then _ else _)
     have:Qc8 w 3=(bif iand .u32 w 1==0 then false else !(iand .u32 w 2==0)):=rfl
     rw[this]
     cases iand .u32 w 1==0<;>cases iand .u32 w 2==0<;>cases d<;>rfl
 . rw[dN c1,dN c2,dY (show root>=P by omega)];rfl
theorem Zqx{a:Int}(ha:U a)(access:Int):Qe7 m a access=Qra m a access:=by
 have hcl:Q04 m=m:=rfl
 have hl:=h.len
 have a0:=ha.1
 simp only[Qe7,Q9d,Qra,Qgc,Tree.m,letv,Qri h ha (.inr rfl),Zez,Zar h ha (.inr rfl),hcl]
 cases hw:Q27 m a 4
 . rfl
 . rw[Qj2 h ha (.inr rfl)]at hw
   have hw:=oY hw
   have wi:Q27 m a 4=true:=by rw[Qj2 h ha (.inr rfl)];exact dY hw
   have ld:(Q1h m a 4).1=m.getD (cZ (wrap .u32 (eO a 4))) 0:=by
     simp only[Q1h,Q43,Tree.m,letv,wi];rfl
   have pu: ∀v,Qbo m a 4 v=m.set (cZ (wrap .u32 (eO a 4))) v:=λv=>rfl
   rw[ld,pu,pu]
   have hi:cZ (wrap .u32 (eO a 4))<m.length:=by
     rw[eQ a0,wrap_u32];omega
   generalize cZ (wrap .u32 (eO a 4))=i at*
   rw[Quy hi,List.set_set]
   rfl
end
theorem Qrg{c:Q05}(h0:0<=c.B8.a0)(h:c.B8.a0<=31)(k b:Int):Q4u c k b=Q2x c k b:=by
 have e:=eq_of_beq (Qx8 (λs=>Qir .u32 (ior .u32 (Q9u (Q9u s 1 8) 2 16) 1) 2==ior .u32 (Qir .u32 (ior .u32 (ior .u32 (Qir .u32 s 24) (wrap .u32 (8*Qd6 (iand .u32 s 1 !=0)))) (wrap .u32 (16*Qd6 (iand .u32 s 2 !=0)))) 2) 1) 32 (by kernel_rfl) h0 (by omega))
 simp only[Q4u,Qni,Q2x,Qkd,Tree.m,letv,e]
theorem Zmj{c:Q05}(h0:0<=c.B8.a0)(h:c.B8.a0<=31):Qg8 c=Qk c:=by
 have e:=eq_of_beq (Qx8 (λs=>Q9u (Q9u s 8 1) 16 2==ior .u32 (ior .u32 (Qir .u32 s 3) (wrap .u32 (1*Qd6 (iand .u32 s 8 !=0)))) (wrap .u32 (2*Qd6 (iand .u32 s 16 !=0)))) 32 (by kernel_rfl) h0 (by omega))
 simp only[Qg8,Qhb,Qk,Qek,Tree.m,letv,e]
theorem Zbc{c:Q05}(h0:0<=c.B8.a0)(h:c.B8.a0<=31):Qmu c=(!Qb c&&(iand .u32 c.B8.a0 4 !=0)):=
 eq_of_beq (Qx8 (λs=>(iand .u32 s 5==4)==(!(iand .u32 s 1 !=0)&&(iand .u32 s 4 !=0))) 32 (by kernel_rfl) h0 (by omega))
theorem Z2d(c:Q05){r:Int}(hr:0<=r/\r<16)(v:Int):Qc0 c r v=Q1z c r v:=by
 simp only[Qc0,Qef,Q1z,Qg1,Tree.m]
 by_cases h:r=0
 . subst h;rfl
 . rw[dY (show r>0 by omega),dY hr.2,show(r !=0)=true by simpa using h];rfl
theorem vI{a b:Int}(ha:U a)(hb:U b):Qdi a b=Qdl a b:=by
  obtain⟨a0,a1⟩:=ha
  obtain⟨b0,b1⟩:=hb
  have i: ∀x,wrap .i64 (wrap .i32 x)=wrap .i32 x:=λx=>by rw[wrap_i64,wrap_i32];omega
  have r32: ∀x,-2147483648<=wrap .i32 x/\wrap .i32 x<2147483648:=λx=>by rw[wrap_i32];omega
  have q32: ∀x y:Int,-2147483648<=x/\x<2147483648-> -2147483648<=eO x y/\eO x y<=2147483648:=λx y hx=>by
    have h1:(eO x y).natAbs<=x.natAbs:=by rw[Int.natAbs_tdiv];exact Nat.div_le_self _ _
    omega
  simp only[Qdi,Qb8,Qdl,Qbp,Tree.m,i]
  cases hb:b==0
  . have w: ∀z,wrap .u32 (wrap .i32 z)=wrap .u32 z:=λz=>by rw[wrap_i32,wrap_u32,wrap_u32];omega
    have w2:wrap .i64 (eO (wrap .i32 a) (wrap .i32 b))=eO (wrap .i32 a) (wrap .i32 b):=by
      have:=q32 _ (wrap .i32 b) (r32 a)
      rw[wrap_i64];omega
    rw[w,w2]
    cases h1:a==2147483648
    . rfl
    . cases h2:b==4294967295
      . rfl
      . have h1:=eq_of_beq h1
        have h2:=eq_of_beq h2
        subst h1;subst h2
        rfl
  . rfl
theorem qJ{op a b:Int}(h0:1<=op)(h1:op<=23)(ha:U a)(hb:U b):Q4i op a b=Qep op a b:=by
 have sub:wrap .u32 (a+wrap .u32 (0-b))=wrap .u32 (a-b):=by
   rw[wrap_u32,wrap_u32,wrap_u32];omega
 have hop:op=1\/op=2\/op=3\/op=4\/op=5\/op=6\/op=7\/op=8\/op=9\/op=10\/op=11\/op=12\/op=13\/op=14\/op=15\/op=16\/op=17\/op=18\/op=19\/op=20\/op=21\/op=22\/op=23:=by omega
 have d:=vI ha hb
 rcases hop with rfl|rfl|rfl|rfl|rfl|rfl|rfl|rfl|rfl|rfl|rfl|rfl|rfl|rfl|rfl|rfl|rfl|rfl|rfl|rfl|rfl|rfl|rfl
 . rfl
 . show(wrap .u32 (a+wrap .u32 (0-b)),true)=(wrap .u32 (a-b),true)
   rw[sub]
 . rfl
 . rfl
 . rfl
 . rfl
 . rfl
 . rfl
 . rfl
 . show((Qdi a b).1,true)=((Qdl a b).1,true)
   rw[d]
 . show((Qdi a b).2,true)=((Qdl a b).2,true)
   rw[d]
 all_goals rfl
theorem Qr1{P:Nat}{m:List Int}(h:Q17 P m){c:Q05}(hc:Q2n c)(hst:c.B8.a0<=31){va:Int}(hv:U va){size:Int}(hs:size=1\/size=4){access:Int}(ha:access=1\/access=2\/access=3):Q28 c m va size access=((Q19 c m va size access).1,(Q19 c m va size access).2.2,(Q19 c m va size access).2.1):=by
 have hcl:Q04 m=m:=rfl
 have kn:Qfk access=true:=by rcases ha with rfl|rfl|rfl<;>rfl
 have ca:Qtv access=(Q26 access,true):=by rcases ha with rfl|rfl|rfl<;>rfl
 have pg:=Zbc hc.a0.1 hst
 have wk:=zh h hc.a6 hv ha
 have tc:Qe7 m (Q71 m c.B8.a6 va access).F2 access=Qra m (Q71 m c.B8.a6 va access).F2 access:=Zqx h (Tree.pp (y9 h hc.a6 hv access)).2.2.1 access
 have sz:(bif size !=1 then bif size !=4 then false else true else true)=true:=by rcases hs with rfl|rfl<;>rfl
 simp only[Q28,Q73,Q19,Q8d,Tree.m,letv,hcl,kn,ca,pg,wk,tc,Qri h hv hs,Zez]
 rcases hs with rfl|rfl<;>
 . show(bif _ then _ else _)=_
   cases cX va _ !=0<;>cases Qb c<;>cases iand .u32 c.B8.a0 4 !=0<;>cases(Q71 m c.B8.a6 va access).F0 !=0<;>cases Q27 m va _<;>rfl
theorem Z4g{α:Type}{Q:α->Prop}{c:Bool}{x y:α}(hx:Q x)(hy:Q y):Q (cond c x y):=by cases c<;>assumption
theorem xaj(m:List Int)(root:Int){va:Int}(hv:U va)(access:Int):(Q71 m root va access).F0=0->(Q71 m root va access).Addr%4=va%4:=by
 have hc:Q26 access≠0:=by
   simp only[Q26,Q9i,Tree.m]
   cases access==1<;>cases access==3<;>simp
 have q :(λt:Q1g=>t.F0=0->t.Addr%4=va%4) (Q71 m root va access):=by
   simp only[Q71,Qa3,Tree.m,letv]
   repeat'(first
     |exact λe=>absurd e hc
     | (intro _
        show wrap .u32 (wrap .u32 (_*128)+cX va 128)%4=va%4
        rw[eA hv.1,wrap_u32,wrap_u32];omega)
     |refine Z4g (Q:=λt:Q1g=>t.F0=0->t.Addr%4=va%4) ?_ ?_)
 exact q
theorem xJ{c:Q05}{m:List Int}{va:Int}(hv:U va){size:Int}(hs:size=1\/size=4){access:Int}(ha:access=1\/access=2\/access=3):(Q19 c m va size access).2.1=0->(Q19 c m va size access).1%size=0:=by
  have kn:Qfk access=true:=by rcases ha with rfl|rfl|rfl<;>rfl
  have hc:Q26 access≠0:=by
    simp only[Q26,Q9i,Tree.m]
    cases access==1<;>cases access==3<;>simp
  rcases hs with rfl|rfl
  . intro _;omega
  simp only[Q19,Q8d,Tree.m,letv,kn]
  show(bif cX va 4 !=0 then((0:Int),(3:Int),m) else _).2.1=0->(bif cX va 4 !=0 then((0:Int),(3:Int),m) else _).1%4=0
  rw[eA hv.1]
  cases hz:va%4 !=0
  . have hz:va%4=0:=by simpa using hz
    have w:=xaj m c.B8.a6 hv access
    cases hp:Qmu c
    . cases hw:Q27 m va 4
      . exact λe=>absurd e hc
      . exact λ_=>hz
    . cases hq:(Q71 m c.B8.a6 va access).F0 !=0
      . have hq:(Q71 m c.B8.a6 va access).F0=0:=by simpa using hq
        exact λ_=>(w hq).trans hz
      . have hq: ¬(Q71 m c.B8.a6 va access).F0=0:=by simpa using hq
        exact λe=>absurd e hq
  . intro e;cases e
def eff0:Q16:={B7:=0,D1:=0,D9:=0,Value:=0}
def Q65(c:Q05)(m:List Int)(i:Q0o):Q05×List Int×Q16:=
 bif i.Op==32 then((Q7 c m i).1,(Q7 c m i).2,eff0) else bif i.Op==33 then((Q7 c m i).1,(Q7 c m i).2,eff0) else bif i.Op==34 then((Q7 c m i).1,(Q7 c m i).2,eff0)
 else bif i.Op==35 then((Q92 c m i).1,(Q92 c m i).2,eff0) else bif i.Op==36 then((Q92 c m i).1,(Q92 c m i).2,eff0) else((Qog c i).1,m,(Qog c i).2)
def regX(c:Q05)(r:Int):Int:=aK (A16.l c.X) r.toNat 0
def Ql5(c:Q05)(m:List Int)(i:Q0o):Q05×Q16×List Int:=
 bif decide (i.Op>=56) then((Ql4 c i).1,(Ql4 c i).2,m) else bif decide (i.Op>=40) then(Z3z c i,eff0,m) else bif decide (i.Op>=32) then((Q5k c m i).1,eff0,(Q5k c m i).2)
 else bif i.Op==24 then({X:=(Q1z c i.A (ishl .u32 (wrap .u32 i.Imm) 16)).X,Pc:=wrap .u32 ((Q1z c i.A (ishl .u32 (wrap .u32 i.Imm) 16)).Pc+4),B8:=(Q1z c i.A (ishl .u32 (wrap .u32 i.Imm) 16)).B8},eff0,m)
 else bif decide (i.Op<=13) then
   ({X:=(Q1z c i.A (Qep i.Op (regX c i.B) (regX c i.C)).1).X,Pc:=wrap .u32 ((Q1z c i.A (Qep i.Op (regX c i.B) (regX c i.C)).1).Pc+4),B8:=(Q1z c i.A (Qep i.Op (regX c i.B) (regX c i.C)).1).B8},eff0,m)
 else({X:=(Q1z c i.A (Qep i.Op (regX c i.B) (wrap .u32 i.Imm)).1).X,Pc:=wrap .u32 ((Q1z c i.A (Qep i.Op (regX c i.B) (wrap .u32 i.Imm)).1).Pc+4),B8:=(Q1z c i.A (Qep i.Op (regX c i.B) (wrap .u32 i.Imm)).1).B8},eff0,m)
def isOp(op:Int):Prop:=op=1\/op=2\/op=3\/op=4\/op=5\/op=6\/op=7\/op=8\/op=9\/op=10\/op=11\/op=12\/op=13\/op=16\/op=17\/op=18\/op=19\/op=20\/op=21\/op=22\/op=23\/op=24\/op=32\/op=33\/op=34\/op=35\/op=36\/op=40\/op=41\/op=42\/op=43\/op=44\/op=45\/op=48\/op=49\/op=56\/op=57\/op=58\/op=59\/op=60\/op=61\/op=62\/op=63\/op=64
theorem xY(c:Q05)(r v:Int):(Q1z c r v).Pc=c.Pc/\(Q1z c r v).B8=c.B8:=by
 simp only[Q1z,Qg1,Tree.m]
 cases decide (r>0)
 . exact⟨rfl,rfl⟩
 . cases decide (r<16)<;>exact⟨rfl,rfl⟩
def adv(c:Q05):Q05:={X:=c.X,Pc:=wrap .u32 (c.Pc+4),B8:=c.B8}
def va(c:Q05)(B Imm:Int):Int:=wrap .u32 (aK (A16.l c.X) B.toNat 0+wrap .u32 Imm)
def ldP(c:Q05)(A v size:Int)(f:Int->Int)(y:Int×List Int×Int):Q05×List Int:=bif y.2.2 !=0 then(Q4u c y.2.2 v,y.2.1) else(adv (Qc0 c A (f (Q59 y.2.1 y.1 size).1)),y.2.1)
def ldR(c:Q05)(A v size:Int)(f:Int->Int)(x:Int×Int×List Int):Q05×List Int:=bif x.2.1 !=0 then(Q2x c x.2.1 v,x.2.2) else(adv (Q1z c A (f (Q1h x.2.2 x.1 size).1)),x.2.2)
def stP(c:Q05)(A v size:Int)(y:Int×List Int×Int):Q05×List Int:=bif y.2.2 !=0 then(Q4u c y.2.2 v,y.2.1) else(adv c,(Q9x y.2.1 y.1 size (aK (A16.l c.X) A.toNat 0)).1)
def stR(c:Q05)(A v size:Int)(x:Int×Int×List Int):Q05×List Int:=bif x.2.1 !=0 then(Q2x c x.2.1 v,x.2.2) else(adv c,Qbo x.2.2 x.1 size (aK (A16.l c.X) A.toNat 0))
theorem ld_eq(c:Q05)(m:List Int)(A B C Imm:Int):
   (Q7 c m ⟨32,A,B,C,Imm⟩=ldP c A (va c B Imm) 4 (λv=>v) (Q28 c m (va c B Imm) 4 2)/\Q5k c m ⟨32,A,B,C,Imm⟩=ldR c A (va c B Imm) 4 (λv=>v) (Q19 c m (va c B Imm) 4 2))/\
   (Q7 c m ⟨33,A,B,C,Imm⟩=ldP c A (va c B Imm) 1 (λv=>Q2h v 8) (Q28 c m (va c B Imm) 1 2)/\Q5k c m ⟨33,A,B,C,Imm⟩=ldR c A (va c B Imm) 1 (λv=>Q3j v 8) (Q19 c m (va c B Imm) 1 2))/\
   (Q7 c m ⟨34,A,B,C,Imm⟩=ldP c A (va c B Imm) 1 (λv=>v) (Q28 c m (va c B Imm) 1 2)/\Q5k c m ⟨34,A,B,C,Imm⟩=ldR c A (va c B Imm) 1 (λv=>v) (Q19 c m (va c B Imm) 1 2))/\
   (Q92 c m ⟨35,A,B,C,Imm⟩=stP c A (va c B Imm) 4 (Q28 c m (va c B Imm) 4 3)/\Q5k c m ⟨35,A,B,C,Imm⟩=stR c A (va c B Imm) 4 (Q19 c m (va c B Imm) 4 3))/\
   (Q92 c m ⟨36,A,B,C,Imm⟩=stP c A (va c B Imm) 1 (Q28 c m (va c B Imm) 1 3)/\Q5k c m ⟨36,A,B,C,Imm⟩=stR c A (va c B Imm) 1 (Q19 c m (va c B Imm) 1 3)):=
 ⟨⟨by kernel_rfl,by kernel_rfl⟩,⟨by kernel_rfl,by kernel_rfl⟩,⟨by kernel_rfl,by kernel_rfl⟩,⟨by kernel_rfl,by kernel_rfl⟩,⟨by kernel_rfl,by kernel_rfl⟩⟩
theorem qak{P:Nat}{m:List Int}(h:Q17 P m)(a:Int):Q2h (Q1h m a 1).1 8=Q3j (Q1h m a 1).1 8:=by
 have: ∀x:Int×Bool,(∃w,U w/\x=(iand .u32 w 255,true))\/x=(0,false)->Q2h x.1 8=Q3j x.1 8:=λx hx=>by
   rcases hx with⟨w,hw,rfl⟩|rfl
   . have e:=m255 hw
     exact sx8 (by show 0<=iand .u32 w 255;omega) (by show iand .u32 w 255<256;omega)
   . rfl
 refine this _ ?_
 simp only[Q1h,Q43,Tree.m,letv]
 cases Q27 m a 1
 . exact .inr rfl
 . exact .inl ⟨_,Qyg (Qmr h.u _) _,rfl⟩
section
variable {P:Nat} {m:List Int} (h:Q17 P m) {c:Q05} (hc:Q2n c) (hst:c.B8.a0<=31)
include h hc hst
omit hst in
theorem Zmw{v:Int}(hv:U v){size:Int}(hs:size=1\/size=4)(access:Int):Q17 P (Q19 c m v size access).2.2/\U (Q19 c m v size access).1/\((Q19 c m v size access).2.1=0->(Q19 c m v size access).1<128*P):=(Tree.pp (Ze3 h hc hv hs access)).2
theorem Zlj{A v:Int}(hA:0<=A/\A<16)(hv:U v){size:Int}(hs:size=1\/size=4){f g:Int->Int}(hf: ∀{m':List Int},Q17 P m'-> ∀a,f (Q1h m' a size).1=g (Q1h m' a size).1):ldP c A v size f (Q28 c m v size 2)=ldR c A v size g (Q19 c m v size 2):=by
 rw[Qr1 h hc hst hv hs (.inr (.inl rfl))]
 obtain⟨k,u,_⟩:=Zmw h hc hv hs 2
 generalize Q19 c m v size 2=x at*
 simp only[ldP,ldR,Qri k u hs,Qrg hc.a0.1 hst,Z2d c hA,hf k]
theorem yh{A v:Int}(hv:U v){size:Int}(hs:size=1\/size=4):stP c A v size (Q28 c m v size 3)=stR c A v size (Q19 c m v size 3):=by
 rw[Qr1 h hc hst hv hs (.inr (.inr rfl))]
 obtain⟨k,u,b⟩:=Zmw h hc hv hs 3
 have al:=xJ (c:=c) (m:=m) hv hs (access:=3) (.inr (.inr rfl))
 generalize Q19 c m v size 3=x at*
 simp only[stP,stR,Zar k u hs,Qrg hc.a0.1 hst,Qj2 k u hs]
 cases hq:x.2.1 !=0
 . have hq:x.2.1=0:=by simpa using hq
   rw[dY ⟨al hq,b hq⟩];rfl
 . rfl
end
theorem zJ(c:Q05)(k v:Int):(Qj1 c k v).Pc=c.Pc:=by
 simp only[Qj1,Qe1,Tree.m]
 repeat'(first|rfl|refine Z4g (Q:=λx:Q05=>x.Pc=c.Pc) ?_ ?_)
def setP(c:Q05)(A v p:Int):Q05:={X:=(Qc0 c A v).X,Pc:=p,B8:=(Qc0 c A v).B8}
def setR(c:Q05)(A v p:Int):Q05:={X:=(Q1z c A v).X,Pc:=p,B8:=(Q1z c A v).B8}
def nxt(c:Q05):Int:=wrap .u32 (c.Pc+4)
theorem Zfh(c:Q05){A:Int}(hA:0<=A/\A<16)(v p:Int):setP c A v p=setR c A v p:=by
 unfold setP setR;rw[Z2d c hA]
theorem Zlx(c:Q05)(A v:Int):adv (Q1z c A v)=setR c A v (nxt c):=by
 unfold adv setR nxt;rw[(xY c A v).1]
theorem brc(t:Bool)(x y:Q05)(m:List Int):((bif t then(x,eff0) else(y,eff0)).1,m,(bif t then(x,eff0) else(y,eff0)).2)=((bif t then x else y),m,eff0):=by cases t<;>rfl
def isOpB(op:Int):Bool:=decide (op=1)||decide (op=2)||decide (op=3)||decide (op=4)||decide (op=5)||decide (op=6)||decide (op=7)||decide (op=8)||decide (op=9)||decide (op=10)||decide (op=11)||decide (op=12)||decide (op=13)||decide (op=16)||decide (op=17)||decide (op=18)||decide (op=19)||decide (op=20)||decide (op=21)||decide (op=22)||decide (op=23)||decide (op=24)||decide (op=32)||decide (op=33)||decide (op=34)||decide (op=35)||decide (op=36)||decide (op=40)||decide (op=41)||decide (op=42)||decide (op=43)||decide (op=44)||decide (op=45)||decide (op=48)||decide (op=49)||decide (op=56)||decide (op=57)||decide (op=58)||decide (op=59)||decide (op=60)||decide (op=61)||decide (op=62)||decide (op=63)||decide (op=64)
section
variable {P:Nat} {m:List Int} (h:Q17 P m) {c:Q05} (hc:Q2n c) (hst:c.B8.a0<=31) {A B C Imm:Int} (hA:0<=A/\A<16)
include h hc hst hA
theorem vh{op:Int}(hop:isOp op):Q65 c m ⟨op,A,B,C,Imm⟩=((Ql5 c m ⟨op,A,B,C,Imm⟩).1,(Ql5 c m ⟨op,A,B,C,Imm⟩).2.2,(Ql5 c m ⟨op,A,B,C,Imm⟩).2.1):=by
 have alu: ∀{k y:Int},1<=k->k<=23->U y->((setP c A (Q4i k (regX c B) y).1 (nxt c),m,eff0):Q05×List Int×Q16)=(adv (Q1z c A (Qep k (regX c B) y).1),m,eff0):=λh1 h2 hy=>by
   rw[qJ h1 h2 (show U (regX c B) from hc.r _) hy,Zlx,Zfh c hA]
 have uC:U (regX c C):=hc.r _
 have uI:U (wrap .u32 Imm):=Q0u _
 obtain⟨⟨l1,l2⟩,⟨l3,l4⟩,⟨l5,l6⟩,⟨l7,l8⟩,⟨l9,l10⟩⟩:=ld_eq c m A B C Imm
 have hva:U (va c B Imm):=Q0u _
 rcases hop with rfl|rfl|rfl|rfl|rfl|rfl|rfl|rfl|rfl|rfl|rfl|rfl|rfl|rfl|rfl|rfl|rfl|rfl|rfl|rfl|rfl|rfl|rfl|rfl|rfl|rfl|rfl|rfl|rfl|rfl|rfl|rfl|rfl|rfl|rfl|rfl|rfl|rfl|rfl|rfl|rfl|rfl|rfl|rfl
 . exact(show Q65 c m ⟨1,A,B,C,Imm⟩=(setP c A (Q4i 1 (regX c B) (regX c C)).1 (nxt c),m,eff0) by kernel_rfl).trans ((alu (by decide) (by decide) uC).trans (by kernel_rfl))
 . exact(show Q65 c m ⟨2,A,B,C,Imm⟩=(setP c A (Q4i 2 (regX c B) (regX c C)).1 (nxt c),m,eff0) by kernel_rfl).trans ((alu (by decide) (by decide) uC).trans (by kernel_rfl))
 . exact(show Q65 c m ⟨3,A,B,C,Imm⟩=(setP c A (Q4i 3 (regX c B) (regX c C)).1 (nxt c),m,eff0) by kernel_rfl).trans ((alu (by decide) (by decide) uC).trans (by kernel_rfl))
 . exact(show Q65 c m ⟨4,A,B,C,Imm⟩=(setP c A (Q4i 4 (regX c B) (regX c C)).1 (nxt c),m,eff0) by kernel_rfl).trans ((alu (by decide) (by decide) uC).trans (by kernel_rfl))
 . exact(show Q65 c m ⟨5,A,B,C,Imm⟩=(setP c A (Q4i 5 (regX c B) (regX c C)).1 (nxt c),m,eff0) by kernel_rfl).trans ((alu (by decide) (by decide) uC).trans (by kernel_rfl))
 . exact(show Q65 c m ⟨6,A,B,C,Imm⟩=(setP c A (Q4i 6 (regX c B) (regX c C)).1 (nxt c),m,eff0) by kernel_rfl).trans ((alu (by decide) (by decide) uC).trans (by kernel_rfl))
 . exact(show Q65 c m ⟨7,A,B,C,Imm⟩=(setP c A (Q4i 7 (regX c B) (regX c C)).1 (nxt c),m,eff0) by kernel_rfl).trans ((alu (by decide) (by decide) uC).trans (by kernel_rfl))
 . exact(show Q65 c m ⟨8,A,B,C,Imm⟩=(setP c A (Q4i 8 (regX c B) (regX c C)).1 (nxt c),m,eff0) by kernel_rfl).trans ((alu (by decide) (by decide) uC).trans (by kernel_rfl))
 . exact(show Q65 c m ⟨9,A,B,C,Imm⟩=(setP c A (Q4i 9 (regX c B) (regX c C)).1 (nxt c),m,eff0) by kernel_rfl).trans ((alu (by decide) (by decide) uC).trans (by kernel_rfl))
 . exact(show Q65 c m ⟨10,A,B,C,Imm⟩=(setP c A (Q4i 10 (regX c B) (regX c C)).1 (nxt c),m,eff0) by kernel_rfl).trans ((alu (by decide) (by decide) uC).trans (by kernel_rfl))
 . exact(show Q65 c m ⟨11,A,B,C,Imm⟩=(setP c A (Q4i 11 (regX c B) (regX c C)).1 (nxt c),m,eff0) by kernel_rfl).trans ((alu (by decide) (by decide) uC).trans (by kernel_rfl))
 . exact(show Q65 c m ⟨12,A,B,C,Imm⟩=(setP c A (Q4i 12 (regX c B) (regX c C)).1 (nxt c),m,eff0) by kernel_rfl).trans ((alu (by decide) (by decide) uC).trans (by kernel_rfl))
 . exact(show Q65 c m ⟨13,A,B,C,Imm⟩=(setP c A (Q4i 13 (regX c B) (regX c C)).1 (nxt c),m,eff0) by kernel_rfl).trans ((alu (by decide) (by decide) uC).trans (by kernel_rfl))
 . exact(show Q65 c m ⟨16,A,B,C,Imm⟩=(setP c A (Q4i 16 (regX c B) (wrap .u32 Imm)).1 (nxt c),m,eff0) by kernel_rfl).trans ((alu (by decide) (by decide) uI).trans (by kernel_rfl))
 . exact(show Q65 c m ⟨17,A,B,C,Imm⟩=(setP c A (Q4i 17 (regX c B) (wrap .u32 Imm)).1 (nxt c),m,eff0) by kernel_rfl).trans ((alu (by decide) (by decide) uI).trans (by kernel_rfl))
 . exact(show Q65 c m ⟨18,A,B,C,Imm⟩=(setP c A (Q4i 18 (regX c B) (wrap .u32 Imm)).1 (nxt c),m,eff0) by kernel_rfl).trans ((alu (by decide) (by decide) uI).trans (by kernel_rfl))
 . exact(show Q65 c m ⟨19,A,B,C,Imm⟩=(setP c A (Q4i 19 (regX c B) (wrap .u32 Imm)).1 (nxt c),m,eff0) by kernel_rfl).trans ((alu (by decide) (by decide) uI).trans (by kernel_rfl))
 . exact(show Q65 c m ⟨20,A,B,C,Imm⟩=(setP c A (Q4i 20 (regX c B) (wrap .u32 Imm)).1 (nxt c),m,eff0) by kernel_rfl).trans ((alu (by decide) (by decide) uI).trans (by kernel_rfl))
 . exact(show Q65 c m ⟨21,A,B,C,Imm⟩=(setP c A (Q4i 21 (regX c B) (wrap .u32 Imm)).1 (nxt c),m,eff0) by kernel_rfl).trans ((alu (by decide) (by decide) uI).trans (by kernel_rfl))
 . exact(show Q65 c m ⟨22,A,B,C,Imm⟩=(setP c A (Q4i 22 (regX c B) (wrap .u32 Imm)).1 (nxt c),m,eff0) by kernel_rfl).trans ((alu (by decide) (by decide) uI).trans (by kernel_rfl))
 . exact(show Q65 c m ⟨23,A,B,C,Imm⟩=(setP c A (Q4i 23 (regX c B) (wrap .u32 Imm)).1 (nxt c),m,eff0) by kernel_rfl).trans ((alu (by decide) (by decide) uI).trans (by kernel_rfl))
 . refine(show Q65 c m ⟨24,A,B,C,Imm⟩=(setP c A (ishl .u32 (wrap .u32 Imm) 16) (nxt c),m,eff0) by kernel_rfl).trans ?_
   rw[Zfh c hA,<-Zlx];kernel_rfl
 . have e:=Zlj h hc hst hA hva (.inr rfl) (f:=λv=>v) (g:=λv=>v) (λ_ _=>rfl)
   rw[<-l1,<-l2]at e
   refine(show Q65 c m ⟨32,A,B,C,Imm⟩=((Q7 c m ⟨32,A,B,C,Imm⟩).1,(Q7 c m ⟨32,A,B,C,Imm⟩).2,eff0) by kernel_rfl).trans ?_
   rw[e];kernel_rfl
 . have e:=Zlj h hc hst hA hva (.inl rfl) (f:=λv=>Q2h v 8) (g:=λv=>Q3j v 8) (λhm a=>qak hm a)
   rw[<-l3,<-l4]at e
   refine(show Q65 c m ⟨33,A,B,C,Imm⟩=((Q7 c m ⟨33,A,B,C,Imm⟩).1,(Q7 c m ⟨33,A,B,C,Imm⟩).2,eff0) by kernel_rfl).trans ?_
   rw[e];kernel_rfl
 . have e:=Zlj h hc hst hA hva (.inl rfl) (f:=λv=>v) (g:=λv=>v) (λ_ _=>rfl)
   rw[<-l5,<-l6]at e
   refine(show Q65 c m ⟨34,A,B,C,Imm⟩=((Q7 c m ⟨34,A,B,C,Imm⟩).1,(Q7 c m ⟨34,A,B,C,Imm⟩).2,eff0) by kernel_rfl).trans ?_
   rw[e];kernel_rfl
 . have e:=yh h hc hst (A:=A) hva (.inr rfl)
   rw[<-l7,<-l8]at e
   refine(show Q65 c m ⟨35,A,B,C,Imm⟩=((Q92 c m ⟨35,A,B,C,Imm⟩).1,(Q92 c m ⟨35,A,B,C,Imm⟩).2,eff0) by kernel_rfl).trans ?_
   rw[e];kernel_rfl
 . have e:=yh h hc hst (A:=A) hva (.inl rfl)
   rw[<-l9,<-l10]at e
   refine(show Q65 c m ⟨36,A,B,C,Imm⟩=((Q92 c m ⟨36,A,B,C,Imm⟩).1,(Q92 c m ⟨36,A,B,C,Imm⟩).2,eff0) by kernel_rfl).trans ?_
   rw[e];kernel_rfl
 . exact(show Q65 c m ⟨40,A,B,C,Imm⟩=((bif(Q2e 40 (regX c A) (regX c B)) then((⟨c.X,wrap .u32 (c.Pc+wrap .u32 (4*wrap .u32 Imm)),c.B8⟩:Q05),eff0) else(⟨c.X,nxt c,c.B8⟩,eff0)).1,m,(bif(Q2e 40 (regX c A) (regX c B)) then((⟨c.X,wrap .u32 (c.Pc+wrap .u32 (4*wrap .u32 Imm)),c.B8⟩:Q05),eff0) else(⟨c.X,nxt c,c.B8⟩,eff0)).2) by kernel_rfl).trans ((brc (Q2e 40 (regX c A) (regX c B)) ⟨c.X,wrap .u32 (c.Pc+wrap .u32 (4*wrap .u32 Imm)),c.B8⟩ ⟨c.X,nxt c,c.B8⟩ m).trans (by kernel_rfl))
 . exact(show Q65 c m ⟨41,A,B,C,Imm⟩=((bif(Q2e 41 (regX c A) (regX c B)) then((⟨c.X,wrap .u32 (c.Pc+wrap .u32 (4*wrap .u32 Imm)),c.B8⟩:Q05),eff0) else(⟨c.X,nxt c,c.B8⟩,eff0)).1,m,(bif(Q2e 41 (regX c A) (regX c B)) then((⟨c.X,wrap .u32 (c.Pc+wrap .u32 (4*wrap .u32 Imm)),c.B8⟩:Q05),eff0) else(⟨c.X,nxt c,c.B8⟩,eff0)).2) by kernel_rfl).trans ((brc (Q2e 41 (regX c A) (regX c B)) ⟨c.X,wrap .u32 (c.Pc+wrap .u32 (4*wrap .u32 Imm)),c.B8⟩ ⟨c.X,nxt c,c.B8⟩ m).trans (by kernel_rfl))
 . exact(show Q65 c m ⟨42,A,B,C,Imm⟩=((bif(Q2e 42 (regX c A) (regX c B)) then((⟨c.X,wrap .u32 (c.Pc+wrap .u32 (4*wrap .u32 Imm)),c.B8⟩:Q05),eff0) else(⟨c.X,nxt c,c.B8⟩,eff0)).1,m,(bif(Q2e 42 (regX c A) (regX c B)) then((⟨c.X,wrap .u32 (c.Pc+wrap .u32 (4*wrap .u32 Imm)),c.B8⟩:Q05),eff0) else(⟨c.X,nxt c,c.B8⟩,eff0)).2) by kernel_rfl).trans ((brc (Q2e 42 (regX c A) (regX c B)) ⟨c.X,wrap .u32 (c.Pc+wrap .u32 (4*wrap .u32 Imm)),c.B8⟩ ⟨c.X,nxt c,c.B8⟩ m).trans (by kernel_rfl))
 . exact(show Q65 c m ⟨43,A,B,C,Imm⟩=((bif(Q2e 43 (regX c A) (regX c B)) then((⟨c.X,wrap .u32 (c.Pc+wrap .u32 (4*wrap .u32 Imm)),c.B8⟩:Q05),eff0) else(⟨c.X,nxt c,c.B8⟩,eff0)).1,m,(bif(Q2e 43 (regX c A) (regX c B)) then((⟨c.X,wrap .u32 (c.Pc+wrap .u32 (4*wrap .u32 Imm)),c.B8⟩:Q05),eff0) else(⟨c.X,nxt c,c.B8⟩,eff0)).2) by kernel_rfl).trans ((brc (Q2e 43 (regX c A) (regX c B)) ⟨c.X,wrap .u32 (c.Pc+wrap .u32 (4*wrap .u32 Imm)),c.B8⟩ ⟨c.X,nxt c,c.B8⟩ m).trans (by kernel_rfl))
 . exact(show Q65 c m ⟨44,A,B,C,Imm⟩=((bif(Q2e 44 (regX c A) (regX c B)) then((⟨c.X,wrap .u32 (c.Pc+wrap .u32 (4*wrap .u32 Imm)),c.B8⟩:Q05),eff0) else(⟨c.X,nxt c,c.B8⟩,eff0)).1,m,(bif(Q2e 44 (regX c A) (regX c B)) then((⟨c.X,wrap .u32 (c.Pc+wrap .u32 (4*wrap .u32 Imm)),c.B8⟩:Q05),eff0) else(⟨c.X,nxt c,c.B8⟩,eff0)).2) by kernel_rfl).trans ((brc (Q2e 44 (regX c A) (regX c B)) ⟨c.X,wrap .u32 (c.Pc+wrap .u32 (4*wrap .u32 Imm)),c.B8⟩ ⟨c.X,nxt c,c.B8⟩ m).trans (by kernel_rfl))
 . exact(show Q65 c m ⟨45,A,B,C,Imm⟩=((bif(Q2e 45 (regX c A) (regX c B)) then((⟨c.X,wrap .u32 (c.Pc+wrap .u32 (4*wrap .u32 Imm)),c.B8⟩:Q05),eff0) else(⟨c.X,nxt c,c.B8⟩,eff0)).1,m,(bif(Q2e 45 (regX c A) (regX c B)) then((⟨c.X,wrap .u32 (c.Pc+wrap .u32 (4*wrap .u32 Imm)),c.B8⟩:Q05),eff0) else(⟨c.X,nxt c,c.B8⟩,eff0)).2) by kernel_rfl).trans ((brc (Q2e 45 (regX c A) (regX c B)) ⟨c.X,wrap .u32 (c.Pc+wrap .u32 (4*wrap .u32 Imm)),c.B8⟩ ⟨c.X,nxt c,c.B8⟩ m).trans (by kernel_rfl))
 . refine(show Q65 c m ⟨48,A,B,C,Imm⟩=(setP c A (nxt c) (wrap .u32 ((Qc0 c A (nxt c)).Pc+wrap .u32 (4*wrap .u32 Imm))),m,eff0) by kernel_rfl).trans ?_
   rw[Zfh c hA,Z2d c hA,(xY c A (nxt c)).1];kernel_rfl
 . refine(show Q65 c m ⟨49,A,B,C,Imm⟩=(setP c A (nxt c) (va c B Imm),m,eff0) by kernel_rfl).trans ?_
   rw[Zfh c hA];kernel_rfl
 . refine(show Q65 c m ⟨56,A,B,C,Imm⟩=(Q4u c 7 0,m,eff0) by kernel_rfl).trans ?_
   rw[Qrg hc.a0.1 hst];kernel_rfl
 . refine(show Q65 c m ⟨57,A,B,C,Imm⟩=(Qg8 c,m,eff0) by kernel_rfl).trans ?_
   rw[Zmj hc.a0.1 hst];kernel_rfl
 . refine(show Q65 c m ⟨58,A,B,C,Imm⟩=(setP c A (aK (A8.l c.B8) Imm.toNat 0) (nxt c),m,eff0) by kernel_rfl).trans ?_
   rw[Zfh c hA,<-Zlx];kernel_rfl
 . have e:=zJ c (wrap .i64 Imm) (regX c A)
   refine(show Q65 c m ⟨59,A,B,C,Imm⟩=((⟨(Qj1 c (wrap .i64 Imm) (regX c A)).X,wrap .u32 (c.Pc+4),(Qj1 c (wrap .i64 Imm) (regX c A)).B8⟩:Q05),m,eff0) by kernel_rfl).trans ?_
   rw[<-e];kernel_rfl
 . exact(show Q65 c m ⟨60,A,B,C,Imm⟩=((Ql5 c m ⟨60,A,B,C,Imm⟩).1,(Ql5 c m ⟨60,A,B,C,Imm⟩).2.2,(Ql5 c m ⟨60,A,B,C,Imm⟩).2.1) by kernel_rfl)
 . exact(show Q65 c m ⟨61,A,B,C,Imm⟩=((Ql5 c m ⟨61,A,B,C,Imm⟩).1,(Ql5 c m ⟨61,A,B,C,Imm⟩).2.2,(Ql5 c m ⟨61,A,B,C,Imm⟩).2.1) by kernel_rfl)
 . exact(show Q65 c m ⟨62,A,B,C,Imm⟩=((Ql5 c m ⟨62,A,B,C,Imm⟩).1,(Ql5 c m ⟨62,A,B,C,Imm⟩).2.2,(Ql5 c m ⟨62,A,B,C,Imm⟩).2.1) by kernel_rfl)
 . exact(show Q65 c m ⟨63,A,B,C,Imm⟩=((Ql5 c m ⟨63,A,B,C,Imm⟩).1,(Ql5 c m ⟨63,A,B,C,Imm⟩).2.2,(Ql5 c m ⟨63,A,B,C,Imm⟩).2.1) by kernel_rfl)
 . exact(show Q65 c m ⟨64,A,B,C,Imm⟩=((Ql5 c m ⟨64,A,B,C,Imm⟩).1,(Ql5 c m ⟨64,A,B,C,Imm⟩).2.2,(Ql5 c m ⟨64,A,B,C,Imm⟩).2.1) by kernel_rfl)
end
theorem zak{op:Int}(h0:0<=op)(h1:op<256)(h:Q2i op≠0):isOp op:=by
 have e:=oY (Qx8 (λop=>decide (Q2i op=0\/isOpB op=true)) 256 (by kernel_rfl) h0 h1)
 rcases e with e|e
 . exact absurd e h
 . simpa only[isOpB,isOp,aI,decide_eq_true_eq,or_assoc] using e
theorem qi{op:Int}(o:isOp op):1<=op/\op<=64:=by
 unfold isOp at o
 rcases o with h|h|h|h|h|h|h|h|h|h|h|h|h|h|h|h|h|h|h|h|h|h|h|h|h|h|h|h|h|h|h|h|h|h|h|h|h|h|h|h|h|h|h|h<;>(rw[h];decide)
theorem xi{w:Int}(hw:U w):(Q24 w).2=true->isOp (Q24 w).1.Op:=by
  have s24:ishr .u32 w 24=w/16777216:=by have:=Qta (a:=w) 24 (by decide);simpa using this
  obtain⟨w0,w1⟩:=hw
  have eo:wrap .i64 (w/16777216)=w/16777216:=w64 (by omega) (by omega)
  have q:(λr:Q0o×Bool=>r.2=true->isOp r.1.Op) (Q24 w):=by
    simp only[Q24,Q6z,Tree.m,letv,s24,eo]
    cases hf:Q2i (w/16777216)==0
    . have g:isOp (w/16777216):=zak (by omega) (by omega) (by simpa using hf)
      repeat'(first
        |exact λ_=>g
        |exact λe=>eU (show false=true from e)
        |refine Z4g (Q:=λr:Q0o×Bool=>r.2=true->isOp r.1.Op) ?_ ?_)
    . exact λe=>eU (show false=true from e)
  exact q
section
variable (c:Q05) (m:List Int)
def doR(x:Int×Int×List Int)(w:Int)(d:Q0o×Bool):Q05×Q16×List Int:=
 bif x.2.1 !=0 then(Q2x c x.2.1 c.Pc,eff0,x.2.2) else bif !d.2 then(Q2x c 1 w,eff0,x.2.2) else bif Q3i d.1.Op then(bif iand .u32 c.B8.a0 1==0 then(Q2x c 2 w,eff0,x.2.2) else Ql5 c x.2.2 d.1) else Ql5 c x.2.2 d.1
def doP(y:Int×List Int×Int)(d:Q0o×Bool):Q05×List Int×Q16:=
 bif y.2.2 !=0 then(Q4u c y.2.2 c.Pc,y.2.1,eff0) else bif !d.2 then(Q4u c 1 y.1,y.2.1,eff0) else bif Q95 d.1.Op then(bif !Qb c then(Q4u c 2 y.1,y.2.1,eff0) else Q65 c y.2.1 d.1) else Q65 c y.2.1 d.1
theorem do_eq:Q5f c m=doR c (Q19 c m c.Pc 4 1) (Q1h (Q19 c m c.Pc 4 1).2.2 (Q19 c m c.Pc 4 1).1 4).1 (Q24 (Q1h (Q19 c m c.Pc 4 1).2.2 (Q19 c m c.Pc 4 1).1 4).1):=by kernel_rfl
theorem xak:Q8j c m=doP c (Qqu c m) (Qiw (Qqu c m).1):=by kernel_rfl
theorem yJ:Qqu c m=bif(Q28 c m c.Pc 4 1).2.2 !=0 then(0,(Q28 c m c.Pc 4 1).2.1,(Q28 c m c.Pc 4 1).2.2) else((Q59 (Q28 c m c.Pc 4 1).2.1 (Q28 c m c.Pc 4 1).1 4).1,(Q28 c m c.Pc 4 1).2.1,0):=by kernel_rfl
end
theorem Zil{P:Nat}{m:List Int}(h:Q17 P m){c:Q05}(hc:Q2n c)(hst:c.B8.a0<=31):Q8j c m=((Q5f c m).1,(Q5f c m).2.2,(Q5f c m).2.1):=by
  obtain⟨k,u,b⟩:=Zmw h hc hc.pc (.inr rfl) 1
  have tr: ∀k b,Q4u c k b=Q2x c k b:=Qrg hc.a0.1 hst
  rw[xak,do_eq,yJ,Qr1 h hc hst hc.pc (.inr rfl) (.inl rfl)]
  generalize Q19 c m c.Pc 4 1=x at*
  cases hx:x.2.1 !=0
  . rw [Qri k u (.inr rfl)]
    have hw:U (Q1h x.2.2 x.1 4).1:=(Tree.pp (Zh k u (.inr rfl))).2
    generalize(Q1h x.2.2 x.1 4).1=w at*
    show doP c (w,x.2.2,0) (Qiw w)=_
    rw[xg hw]
    have o:=xi hw
    have i:=Tree.post _ (Zob w)
    change(Q24 w).2=true->Qhc (Q24 w).1 at i
    generalize Q24 w=d at*
    obtain⟨⟨op,A,B,C,Imm⟩,ok⟩:=d
    cases ok
    . simp only[doP,doR,hx,tr];rfl
    . have o:isOp op:=o rfl
      have i:=i rfl
      have p:=vh (C:=C) (B:=B) (Imm:=Imm) k hc hst i.a o
      have pv:Q95 op=Q3i op:=zah (by have:=qi o;omega) (by have:=qi o;omega)
      have kn:(!Qb c)=(iand .u32 c.B8.a0 1==0):=by
        show(!(!(iand .u32 c.B8.a0 1==0)))=_
        exact Bool.not_not _
      simp only[doP,doR,hx,tr,pv,kn,p]
      cases Q3i op
      . rfl
      . cases iand .u32 c.B8.a0 1==0<;>rfl
  . simp only[doP,doR,hx,cond_true,tr]
theorem vi{a b:Int}:decide (a>=b)=!decide (a<b):=by
 by_cases h:a<b
 . rw[dY h,dN (by omega)];rfl
 . rw[dN h,dY (by omega)];rfl
def bits(g:Int)(l:List Nat)(s:Int):Int:=l.foldl (λ(a:Int) (i:Nat)=>wrap .i64 (a+wrap .i64 (iand .u32 (ishr .u32 g (i:Int)) 1))) s
theorem vJ(b:Q07):Qfu b=bits b.C5 [0,1,2,3,4,5,6,7,8,9,10,11,12,13,14,15,16,17,18,19,20,21,22,23,24,25,26,27,28,29,30,31] 0:=by kernel_rfl
theorem xaF{g:Int}(hg:U g){i:Nat}(hi:i<=32):wrap .i64 (iand .u32 (ishr .u32 g (i:Int)) 1)=g/2^i%2:=by
 rw[and1 (Qyg hg _),Qta i hi]
 have:0<=g/2^i%2/\g/2^i%2<2:=by omega
 exact w64 (by omega) (by omega)
theorem qK{g:Int}(hg:U g)(l:List Nat): ∀s:Int,(∀i∈l,i<=32)->0<=s->s+l.length<=1000->bits g l s=s+(l.map λi=>g/2^i%2).sum:=by
 induction l with
 |nil=>intro s _ _ _;simp [bits]
 | cons i l ih=>
   intro s hl h0 h1
   have h1:s+(l.length+1)<=1000:=by simpa using h1
   have hb:0<=g/2^i%2/\g/2^i%2<2:=by omega
   have e:bits g (i::l) s=bits g l (s+g/2^i%2):=by
     show bits g l (wrap .i64 (s+wrap .i64 (iand .u32 (ishr .u32 g (i:Int)) 1)))=_
     rw[xaF hg (hl i (by simp)),w64 (by omega) (by omega)]
   rw[e,ih _ (λj hj=>hl j (by simp [hj])) (by omega) (by omega)]
   simp;omega
theorem Zr3(n:Q0q)(port:Int):Z6g n port=Qfp n port:=by
 simp only[Z6g,Qw4,Qfp,Qgr,Tree.m]
 cases n.C7<;>cases n.C0<;>rfl
theorem Z9a(t:Q0j):Q63 t=Qem t:=by
 simp only[Q63,Qnt,Qem,Qkj,Tree.m]
 cases t.D4<;>cases t.D3<;>rfl
theorem Zgq(n:Q0q)(p:Int):Q83 n p=Qkl n p:=by
 simp only[Q83,Qnf,Qkl,Qnr,Tree.m]
 cases n.C7<;>cases n.C0<;>rfl
theorem Zet(d:Q0h)(p:Int):Q1q d p=Qhr d p:=by
  simp only[Q1q,Q6m,Q9y,Q7y,Qhr,Qmf,Tree.m,letv,vi]
  cases decide (d.Blocks>64)
  . by_cases s:d.C4=0\/d.C4=1\/d.C4=2\/d.C4=3
    . rcases s with s|s|s|s<;>rw[s]
      . rfl
      . by_cases c1:d.D8=1
        . rw[c1];cases decide (d.B9<d.Blocks)<;>cases decide (wrap .i64 d.B4<p)<;>cases decide (d.C6=[])<;>rfl
        . by_cases c2:d.D8=2
          . rw[c2];cases decide (d.B9<d.Blocks)<;>cases decide (wrap .i64 d.B4<p)<;>cases(d.C6.length:Int)==128<;>rfl
          . rw[show(d.D8==1)=false by simpa using c1,show(d.D8==2)=false by simpa using c2]
            cases decide (d.B9<d.Blocks)<;>cases decide (wrap .i64 d.B4<p)<;>rfl
      . rfl
      . rfl
    . rw[show(d.C4==0)=false by simp;omega,show(d.C4==1)=false by simp;omega,show(d.C4==2)=false by simp;omega,show(d.C4==3)=false by simp;omega]
      by_cases n:d.C4<0
      . rw[dY n];rfl
      . rw[dN n,dY (show d.C4>3 by omega)];rfl
  . rfl
theorem xK(c:Q0e):Qaq c=Q6a c:=by
 show(!decide (c.D2=[]))=decide ((c.D2.length:Int)>0)
 cases c.D2 with
 |nil=>rfl
 |cons a l=>rw[dN (by simp),dY (by simp)];rfl
theorem qal(k:List UInt8):decide (k=[])=((k.length:Int)==0):=by
 cases k with
 |nil=>rfl
 | cons a l=>
   rw[dN (by simp)]
   exact(beq_eq_false_iff_ne.2 (by simp;omega)).symm
theorem Zrs(c:Q0e)(port:Int):Qs7 c port=Q4h c port:=by
 simp only[Qs7,Qal,Q4h,Q3v,Tree.m,qal]
 cases port==0
 . rfl
 . cases(c.D2.length:Int)==0<;>rfl
theorem zK(t:Q0j)(v:Int):Qnb t v=Qse v:=by
 simp only[Qnb,Qnn,Qse,Qyu,Tree.m]
 cases h:v==0
 . rw[show(v !=0)=true by simp only[bne,h];rfl];rfl
 . rw[show(v !=0)=false by simp only[bne,h];rfl,eq_of_beq h];rfl
section
variable {P:Nat} {m:List Int} (h:Q17 P m)
include h
theorem Zbb(f:Int):Qap m f=Q29 m f:=by
 have a:=Q3z h
 have b:=Qgk h
 simp only[Qap,Qf8,Q29,Ql3,Tree.m,letv,a,b]
theorem Zb8(f:Int):Qbg m f=Q29 m f:=by
 have a:=Q3z h
 have b:=Qgk h
 simp only[Qbg,Qhq,Q29,Ql3,Tree.m,letv,a,b]
theorem Zjc(d:Q0h)(port v at0:Int):Z26 d m port v at0=Qe5 d m port v at0:=by
  have pg:=Zbb h
  have pa:=Zgb h
  have rq: ∀d a,Qlq d a=Qlc d a:=λ_ _=>rfl
  simp only[Z26,Qj4,Qxx,Qe2,Qe5,Q97,Tree.m,letv,pg,pa,rq]
  cases port==4
  . cases port==5
    . cases h6:port==6
      . rw[show(port !=6)=true by simp only[bne,h6];rfl];rfl
      . rw [show(port !=6)=false by simp only[bne,h6];rfl]
        by_cases v1:v=1
        . subst v1
          cases hs:d.C4==0
          . rw[show(d.C4 !=0)=true by simp only[bne,hs];rfl];rfl
          . rw[show(d.C4 !=0)=false by simp only[bne,hs];rfl];rfl
        . by_cases v2:v=2
          . subst v2
            cases hs:d.C4==0
            . rw[show(d.C4 !=0)=true by simp only[bne,hs];rfl];rfl
            . rw[show(d.C4 !=0)=false by simp only[bne,hs];rfl];rfl
          . rw[show(v==1)=false by simpa using v1,show(v==2)=false by simpa using v2]
            cases v==0
            . rfl
            . have:Qa2 d=(bif d.C4==2 then true else d.C4==3):=rfl
              rw[this]
              cases d.C4==2<;>cases d.C4==3<;>rfl
    . rfl
  . rfl
theorem Zm3(n:Q0q)(port v at0:Int):Zdn n m port v at0=Qg3 n m port v at0:=by
  have pg:=Zb8 h
  have pa:=Zgb h
  simp only[Zdn,Qn1,Zc7,Qiz,Qg3,Qb9,Tree.m,letv,pg,pa]
  have g1:decide (n.E0>=1)=!decide (n.E0<1):=vi
  have g2:decide (n.E0<=128)=!decide (n.E0>128):=by
    by_cases h:n.E0>128
    . rw[dY h,dN (by omega)];rfl
    . rw[dN h,dY (by omega)];rfl
  rw[g1,g2]
  cases port==7
  . cases port==8
    . cases h9:port==9
      . rw[show(port !=9)=true by simp only[bne,h9];rfl];rfl
      . rw [show(port !=9)=false by simp only[bne,h9];rfl]
        by_cases v1:v=1
        . subst v1
          cases decide (n.E0<1)<;>cases decide (n.E0>128)<;>cases Q29 m n.Frame<;>rfl
        . by_cases v2:v=2
          . subst v2;rfl
          . rw[show(v==1)=false by simpa using v1,show(v==2)=false by simpa using v2]
            cases v==0<;>rfl
    . rfl
  . rfl
theorem Zen{d:Q0h}(hd:Q9p d)(e:Q0b):Qis d m e=((Qa1 d m e).1,(Qa1 d m e).2.2,(Qa1 d m e).2.1):=by
  have hcl:Q04 m=m:=rfl
  have pg:=Zbb h d.B4
  have lp:decide ((e.D0.length:Int)>0)=!decide (e.D0=[]):=by
    cases e.D0 with
    |nil=>rfl
    |cons a l=>rw[dY (by simp),dN (by simp)];rfl
  have bad:(e.D0.length:Int)≠128->Q29 m d.B4=true->Q2y m (wrap .i64 d.B4) e.D0=(m,false):=λhl hp=>by
    rw[Qo5 h hd.opFrame]at hp
    have hp:=oY hp
    have h1:=hd.opFrame.1
    have h3:=h.p2
    have ew:i64.wrap d.B4=d.B4:=w64 (by omega) (by omega)
    simp only[Q2y,Q3w,Tree.m,letv,hcl,ew,Zc h,dY (⟨h1,hp⟩:0<=d.B4/\d.B4<P),show((e.D0.length:Int) !=128)=true by simpa using hl]
    rfl
  have good:(e.D0.length:Int)=128->Q29 m d.B4=true->Q2y m (wrap .i64 d.B4) e.D0=(Qnk m (wrap .i64 d.B4) e.D0,true):=λhl hp=>by
    rw[Qo5 h hd.opFrame]at hp
    have hp:=oY hp
    have h1:=hd.opFrame.1
    have h3:=h.p2
    have ew:i64.wrap d.B4=d.B4:=w64 (by omega) (by omega)
    rw[ew];exact Zgl h h1 hp (by omega)
  simp only[Qis,Q8a,Qa1,Qbh,Tree.m,letv,hcl,pg,lp]
  cases d.C4 !=1
  . cases e.B7 !=4
    . cases decide (e.N>1)
      . cases e.N==1
        . cases decide (e.D0=[])<;>rfl
        . cases hc:d.D8==1
          . cases decide (e.D0=[])<;>rfl
          . by_cases hl:(e.D0.length:Int)=128
            . rw[show((e.D0.length:Int) !=128)=false by simpa using hl]
              cases hp:Q29 m d.B4
              . rfl
              . rw[good hl hp];rfl
            . rw[show((e.D0.length:Int) !=128)=true by simpa using hl]
              cases hp:Q29 m d.B4
              . rfl
              . rw[bad hl hp];rfl
      . rfl
    . rfl
  . rfl
theorem Zjf{n:Q0q}(hn:Ql6 n)(frame:List UInt8):Qo4 n m frame=((Qao n m frame).1,(Qao n m frame).2.2,(Qao n m frame).2.1):=by
  have hcl:Q04 m=m:=rfl
  have pg:=Zb8 h n.C1
  simp only[Qo4,Qbj,Qao,Qaz,Tree.m,letv,hcl,pg]
  cases !n.C7
  . cases decide ((frame.length:Int)<1)
    . cases hf:decide ((frame.length:Int)>128)
      . cases hp:Q29 m n.C1
        . rfl
        . rw[Qo5 h hn.buffer]at hp
          have hp:=oY hp
          have h1:=hn.buffer.1
          have h3:=h.p2
          have ew:i64.wrap n.C1=n.C1:=w64 (by omega) (by omega)
          have hf:=oN hf
          obtain⟨b1,b2⟩:=(Tree.pp (qh h h1 hp)).2
          change isPg m n.C1 (Q5z m n.C1).1 at b1
          have tk:cY (cZ ((Q5z m n.C1).1.length:Int)-cZ (frame.length:Int)) (dA (cZ (frame.length:Int)) (Q5z m n.C1).1)=(Q5z m n.C1).1.drop frame.length:=by
            rw[dZ,dZ]
            exact eV (by simp)
          rw[ew,tk,Zh2 h h1 hp (by omega) b1]
          rfl
      . rfl
    . rfl
  . rfl
end
def ptab:List UInt8:=(dP 256).map λn=>eS (n%2+n/2%2+n/4%2+n/8%2+n/16%2+n/32%2+n/64%2+n/128%2)
def pt(n:Int):Int:=((eR (ptab.getD n.toNat 0):Nat):Int)
theorem yK(x:Int):Q7a x=wrap .i64 (wrap .u8 (wrap .u8 (wrap .u8 (pt (ishr .u32 x 24)+pt (iand .u32 (ishr .u32 x 16) 255))+pt (iand .u32 (ishr .u32 x 8) 255))+pt (iand .u32 x 255))):=by kernel_rfl
theorem pt8{a:Int}(h0:0<=a)(h1:a<256):pt a=a%2+a/2%2+a/4%2+a/8%2+a/16%2+a/32%2+a/64%2+a/128%2:=
 eq_of_beq (Qx8 (λa=>pt a==a%2+a/2%2+a/4%2+a/8%2+a/16%2+a/32%2+a/64%2+a/128%2) 256 (by kernel_rfl) h0 h1)
theorem qj{g:Int}(hg:U g):bits g [0,1,2,3,4,5,6,7,8,9,10,11,12,13,14,15,16,17,18,19,20,21,22,23,24,25,26,27,28,29,30,31] 0=pt (g%256)+pt (g/256%256)+pt (g/65536%256)+pt (g/16777216):=by
 rw[qK hg _ 0 (by decide) (by decide) (by decide),pt8 (by omega) (by omega),pt8 (by omega) (by omega),pt8 (by omega) (by omega),pt8 (by have:=hg.1;omega) (by have:=hg.2;omega)]
 obtain⟨g0,g1⟩:=hg
 simp only[List.map_cons,List.map_nil,List.sum_cons,List.sum_nil]
 have e: ∀i j:Nat,∀k:Int,i<8->k=2^j->g/2^(i+j)%2=(g/k%256)/2^i%2:=λi j k hi hk=>by
   subst hk
   rw[Nat.add_comm,dL,<-eW (dK (dI (by decide)))]
   generalize g/2^j=x
   have:i=0\/i=1\/i=2\/i=3\/i=4\/i=5\/i=6\/i=7:=by omega
   rcases this with rfl|rfl|rfl|rfl|rfl|rfl|rfl|rfl<;>simp<;>omega
 have e0: ∀i:Nat,i<8->g/2^i%2=(g%256)/2^i%2:=λi hi=>by have:=e i 0 1 hi rfl;simpa using this
 have e24:g/16777216%256=g/16777216:=by omega
 rw[e0 0 (by decide),e0 1 (by decide),e0 2 (by decide),e0 3 (by decide),e0 4 (by decide),e0 5 (by decide),e0 6 (by decide),e0 7 (by decide)]
 rw[e 0 8 256 (by decide) (by decide),e 1 8 256 (by decide) (by decide),e 2 8 256 (by decide) (by decide),e 3 8 256 (by decide) (by decide),e 4 8 256 (by decide) (by decide),e 5 8 256 (by decide) (by decide),e 6 8 256 (by decide) (by decide),e 7 8 256 (by decide) (by decide)]
 rw[e 0 16 65536 (by decide) (by decide),e 1 16 65536 (by decide) (by decide),e 2 16 65536 (by decide) (by decide),e 3 16 65536 (by decide) (by decide),e 4 16 65536 (by decide) (by decide),e 5 16 65536 (by decide) (by decide),e 6 16 65536 (by decide) (by decide),e 7 16 65536 (by decide) (by decide)]
 rw[e 0 24 16777216 (by decide) (by decide),e 1 24 16777216 (by decide) (by decide),e 2 24 16777216 (by decide) (by decide),e 3 24 16777216 (by decide) (by decide),e 4 24 16777216 (by decide) (by decide),e 5 24 16777216 (by decide) (by decide),e 6 24 16777216 (by decide) (by decide),e 7 24 16777216 (by decide) (by decide),e24]
 generalize g%256=a
 generalize g/256%256=b
 generalize g/65536%256=c
 generalize g/16777216=d
 simp only[show(2:Int)^0=1 from rfl,show(2:Int)^1=2 from rfl,show(2:Int)^2=4 from rfl,show(2:Int)^3=8 from rfl,show(2:Int)^4=16 from rfl,show(2:Int)^5=32 from rfl,show(2:Int)^6=64 from rfl,show(2:Int)^7=128 from rfl,Int.ediv_one]
 omega
theorem pt_le{a:Int}(h0:0<=a)(h1:a<256):0<=pt a/\pt a<=8:=by rw[pt8 h0 h1];omega
theorem Z9i{b:Q07}(hg:U b.C5):Qen b=Qfu b/\0<=Qfu b/\Qfu b<=32:=by
 obtain⟨s8,s16,s24⟩:=shr_c b.C5
 have u8:U (ishr .u32 b.C5 8):=Qyg hg _
 have u16:U (ishr .u32 b.C5 16):=Qyg hg _
 have e:Qen b=Q7a b.C5:=rfl
 rw[e,yK,vJ,qj hg,m255 u8,m255 u16,m255 hg,s8,s16,s24]
 obtain⟨g0,g1⟩:=hg
 have p0:=pt_le (a:=b.C5%256) (by omega) (by omega)
 have p1:=pt_le (a:=b.C5/256%256) (by omega) (by omega)
 have p2:=pt_le (a:=b.C5/65536%256) (by omega) (by omega)
 have p3:=pt_le (a:=b.C5/16777216) (by omega) (by omega)
 have w8: ∀x,wrap .u8 x=x%256:=λx=>wrap_u8 x
 rw[w8,w8,w8,wrap_i64]
 omega
theorem Zk{b:Q07}(h:okB b):Q8 b=Q4a b:=by
 obtain⟨e,l0,l1⟩:=Z9i h.2
 obtain⟨t0,t1⟩:=h.1
 simp only[Q8,Q5w,Q4a,Qa6,Tree.m,letv,e]
 rw[wrap_u32,wrap_u64,wrap_u64,dH l0 (by omega),dH l0 (by omega),dH t0 (by omega)]
theorem Zrd{b:Q07}(h:okB b)(port:Int):Qs3 b port=Q4f b port:=by
 simp only[Qs3,Qdz,Q4f,Q6s,Tree.m,letv,(Z9i h.2).1]
theorem zal(g:Int)(z:Nat):g%2^(z+1)=g%2^z+2^z*(g/2^z%2):=by
 have hp:(0:Int)<2^z:=dI (by decide)
 have h1:=eX g (2^z)
 have h2:=eX (g/2^z) 2
 have h3:(g/2^z)/2=g/2^(z+1):=by rw[eY,eW (dK hp)]
 have h4:=eX g (2^(z+1))
 rw[h3]at h2
 have h5:(2:Int)^(z+1)*(g/2^(z+1))=2^z*(2*(g/2^(z+1))):=by rw[eY,Int.mul_assoc]
 have h6:(2:Int)^z*(g/2^z)=2^z*(2*(g/2^(z+1)))+2^z*(g/2^z%2):=by rw[<-Int.mul_add,h2]
 omega
theorem qaG{b:Q07}(hg:U b.C5){P:Nat}(hP:P<=32):(Q5x b P).w (λr=>r=decide (b.C5<2^P)):=by
 unfold Q5x
 have fin: ∀v:Int,0<=v->v<=32->wrap .u64 v=(v.toNat:Int):=λv h0 h1=>by rw[wrap_u64];omega
 refine w_lp (inv:=λz:Int=>0<=z/\z<=32/\b.C5%2^z.toNat<2^P) (μ:=Q6x b P) ⟨by decide,by decide,by have:(0:Int)<2^P:=dI (by decide);simpa using this⟩ (cK _) λz ⟨z0,z1,z2⟩=> ?_
 refine w_br (λhb=> ?_) (λhb=> ?_)
 . have hb:=oY hb
   have ew:i64.wrap (z+1)=z+1:=w64 (by omega) (by omega)
   have bt:iand .u32 (ishr .u32 b.C5 (wrap .u64 z)) 1=b.C5/2^z.toNat%2:=by
     rw[fin z z0 z1,and1 (Qyg hg _),Qta _ (by omega)]
   have bp:=zal b.C5 z.toNat
   have zt:(z+1).toNat=z.toNat+1:=by omega
   refine w_cn (dY (by rw[wrap_u64];omega)) ?_
   rw[bt]
   refine w_br (λe=>w_br (λhp=> ?_) (λhp=>w_nx ?_)) (λe=>w_nx ?_)
   . have e:=eq_of_beq e
     have hp:=oY hp
     show false=_
     refine(dN λhlt=> ?_).symm
     have hle:(2:Int)^P<=2^z.toNat:=by exact_mod_cast dO (show 0<2 by decide) (show P<=z.toNat by omega)
     have:b.C5/2^z.toNat=0:=Int.ediv_eq_zero_of_lt hg.1 (by omega)
     rw[this]at e;cases e
   . have e:=eq_of_beq e
     have hp:=oN hp
     show(0<=i64.wrap (z+1)/\i64.wrap (z+1)<=32/\b.C5%2^(i64.wrap (z+1)).toNat<2^P)/\(32-i64.wrap (z+1)).toNat<(32-z).toNat
     rw[ew,zt]
     have hle:(2:Int)^(z.toNat+1)<=2^P:=by exact_mod_cast dO (show 0<2 by decide) (show z.toNat+1<=P by omega)
     have:=Int.emod_lt_of_pos b.C5 (show(0:Int)<2^(z.toNat+1) from dI (by decide))
     exact⟨⟨by omega,by omega,by omega⟩,by omega⟩
   . have e: ¬b.C5/2^z.toNat%2=1:=by simpa using e
     have e:b.C5/2^z.toNat%2=0:=by omega
     rw[e]at bp
     show(0<=i64.wrap (z+1)/\i64.wrap (z+1)<=32/\b.C5%2^(i64.wrap (z+1)).toNat<2^P)/\(32-i64.wrap (z+1)).toNat<(32-z).toNat
     rw[ew,zt,bp]
     exact⟨⟨by omega,by omega,by omega⟩,by omega⟩
 . have hb:=oN hb
   have:z=32:=by omega
   subst this
   show true=_
   refine(dY ?_).symm
   have h2:b.C5%2^(32:Int).toNat=b.C5:=dH hg.1 hg.2
   rwa [h2]at z2
theorem Zlb{b:Q07}(hg:U b.C5){P:Nat}(hP:P<=32):Q3o b P=Qab b P:=by
 have r:=(Tree.pp (qaG hg hP)).2
 change Qab b P=_ at r
 rw[r,eD,Z3t hg,decide_eq_true_eq]
theorem zeros:strings_Repeat [(0:UInt8)] 128=cN 128 0:=by kernel_rfl
theorem zaG{P:Nat}{m:List Int}(hm:Q17 P m){b:Q07}{port:Int}{v:Int}(hv:U v)(hp:v<P)(h10:port=10)(hb:(iand .u32 (ishr .u32 b.C5 v) 1==0)=true):(Q55 b m port v).w (λr=>r.1={C9:=b.C9,C5:=ior .u32 b.C5 (ishl .u32 1 v)}/\Q17 P r.2/\ ∀k:Nat,byt r.2 k=if v*128<=k/\(k:Int)<v*128+128 then 0 else byt m k):=by
 have hv0:decide (0<=v)=true:=dY hv.1
 have h2:=hm.p2
 have pg:Q29 m v=true:=by rw[Qo5 hm hv];exact dY hp
 obtain⟨v1,v2⟩:=hv
 subst h10
 unfold Q55
 refine w_br (λ_=>w_lv λx0 hx=>w_br (λ_=>w_cn hv0 (w_br (λ_=>w_cn hv0 ?_) (λh=>by rw[hb]at h;cases h))) (λh=>by rw[hx,pg]at h;cases h)) (λh=>by cases h)
 refine w_lp (inv:=λz=>0<=z.1/\z.1<=32/\Q17 P z.2/\ ∀k:Nat,byt z.2 k=if v*128<=k/\(k:Int)<v*128+4*z.1 then 0 else byt m k) (μ:=Qk9 b m 10 v) ⟨show(0:Int)<=0 by decide,show(0:Int)<=32 by decide,hm,λk=>by rw[if_neg];show¬(_/\_<_+4*(0:Int));omega⟩ (cK _) (λz hz=> ?_)
 obtain⟨z1,z2,z3,z4⟩:=hz
 have hl:=z3.len
 refine w_br (λh=> ?_) (λh=>⟨rfl,z3,λk=> ?_⟩)
 . have h:=oY h
   have e:wrap i64 (wrap i64 (wrap i64 v*32)+z.1)=v*32+z.1:=by rw[wrap_i64,wrap_i64,wrap_i64];omega
   refine w_cn (by rw[e];simp [bT];omega) (w_nx ?_)
   have ew:i64.wrap (z.1+1)=z.1+1:=by rw[wrap_i64];omega
   show(0<=i64.wrap (z.1+1)/\i64.wrap (z.1+1)<=32/\Q17 P (dB _ _ _)/\ ∀k:Nat,byt (dB z.2 (cZ (wrap i64 (wrap i64 (wrap i64 v*32)+z.1))) 0) k=if v*128<=(k:Int)/\(k:Int)<v*128+4*i64.wrap (z.1+1) then 0 else _)/\(32-i64.wrap (z.1+1)).toNat<(32-z.1).toNat
   rw[ew,e]
   refine⟨⟨by omega,by omega,⟨by simp [hl],z3.p1,z3.p2,Z8j z3.u U_0 _⟩,λk=> ?_⟩,by omega⟩
   rw[Zlq (by omega)]
   by_cases hc:k/4=(v*32+z.1).toNat
   . rw[if_pos hc,if_pos (by omega)]
     have:k%4=0\/k%4=1\/k%4=2\/k%4=3:=by omega
     rcases this with h|h|h|h<;>rw[h]<;>rfl
   . rw[if_neg hc,z4 k]
     by_cases hd:v*128<=(k:Int)/\(k:Int)<v*128+4*z.1
     . rw[if_pos hd,if_pos (by omega)]
     . rw[if_neg hd,if_neg (by omega)]
 . have h:=oN h
   show byt z.2 k=_
   rw[z4 k,show z.1=32 by omega];rfl
theorem bitv{g v:Int}(hg:U g)(v0:0<=v)(v1:v<32):(iand .u32 g (ishl .u32 1 v)==0)=(iand .u32 (ishr .u32 g v) 1==0):=by
 obtain⟨z,rfl⟩: ∃z:Nat,v=z:=⟨v.toNat,by omega⟩
 obtain⟨n,rfl⟩: ∃n:Nat,g=n:=⟨g.toNat,by have:=hg.1;omega⟩
 have hz:z<32:=by omega
 have hlt:(2:Nat)^z<4294967296:=by have:=dX (show 1<2 by omega) hz;simpa using this
 rw[and1 (Qyg hg _),Qta z (by omega),xf v0 v1,dZ]
 have hc:((2:Int)^z)=((2^z:Nat):Int):=by simp
 generalize hq:2^z=q at*
 rw[hc,Zkc hg ⟨by omega,by omega⟩,dZ,dZ,<-hq]
 have e1:(n&&&2^z)=0↔n/2^z%2=0:=by
   have t:n.testBit z=decide (n/2^z%2=1):=Nat.testBit_eq_decide_div_mod_eq
   constructor
   . intro h
     have h2:(n&&&2^z).testBit z=false:=by rw[h];exact eZ z
     rw[fA,Nat.testBit_two_pow_self,Bool.and_true,t]at h2
     have:=oN h2
     omega
   . intro h
     have t0:n.testBit z=false:=by rw[t];exact dN (by omega)
     apply eH
     intro i
     rw[fA,Nat.testBit_two_pow,eZ]
     by_cases hi:z=i
     . subst hi;rw[t0];rfl
     . rw[dN hi,Bool.and_false]
 rw[eD,beq_iff_eq,beq_iff_eq]
 constructor
 . intro h;have:=e1.1 (by omega);omega
 . intro h;have:=e1.2 (by omega);omega
theorem Zm4{P:Nat}{m:List Int}(h:Q17 P m){b:Q07}(hb:okB b)(port:Int){v:Int}(hv:U v):Q8q b m port v=Q60 b m port v:=by
  have hcl:Q04 m=m:=rfl
  have hp:=Q3z h
  have h2:=h.p2
  have ew:i64.wrap v=v:=w64 (by have:=hv.1;omega) (by have:=hv.2;omega)
  have pe:=Qo5 h hv
  by_cases h32:v<32
  . have bv :=bitv hb.2 hv.1 h32
    by_cases h10:port=10
    . by_cases hP:v<P
      . cases hz:iand .u32 (ishr .u32 b.C5 v) 1==0
        . simp only[Q8q,Q4g,Q60,Q55,Tree.m,letv,hcl,hp,ew,pe,bv,hz,h10,dY hP,dN (show¬v>=32 by omega)]
          rfl
        . obtain⟨g1,g2,g3⟩:=(Tree.pp (zaG h hv hP h10 hz)).2
          change(Q60 b m port v).1=_ at g1
          change Q17 P (Q60 b m port v).2 at g2
          change∀k:Nat,byt (Q60 b m port v).2 k=_ at g3
          obtain⟨s1,s2,s3⟩:=(Tree.pp (Z4h h hv.1 hP (s:=cN 128 0) (by simp))).2
          have em:(Q2y m v (cN 128 0)).1=(Q60 b m port v).2:=by
            refine Zlu (s2.len.trans g2.len.symm) s2.u g2.u λk=> ?_
            rw[g3 k]
            refine(s3 k).trans ?_
            by_cases hk:v*128<=(k:Int)/\(k:Int)<v*128+128
            . rw[if_pos hk,if_pos hk]
              have:(cN 128 (0:UInt8)).getD ((k:Int)-v*128).toNat 0=0:=by
                rw[cL,List.getElem?_replicate]
                split<;>rfl
              rw[this];rfl
            . rw[if_neg hk,if_neg hk]
          have el:Q8q b m port v=({C9:=b.C9,C5:=ior .u32 b.C5 (ishl .u32 1 v)},(Q2y m v (cN 128 0)).1):=by
            simp only[Q8q,Q4g,Tree.m,letv,hcl,hp,ew,bv,hz,h10,dY hP,dN (show¬v>=32 by omega),zeros]
            rfl
          rw[el,em,<-g1]
      . simp only[Q8q,Q4g,Q60,Q55,Tree.m,letv,hcl,hp,ew,pe,h10,dN hP,dN (show¬v>=32 by omega)]
        rfl
    . simp only[Q8q,Q4g,Q60,Q55,Tree.m,letv,hcl,dY h32,dN (show¬v>=32 by omega),show(port==10)=false by simpa using h10]
      cases port==11<;>rfl
  . simp only[Q8q,Q4g,Q60,Q55,Tree.m,letv,hcl,pe,dN h32,dY (show v>=32 by omega),dN (show¬v<P by omega)]
    cases port==10<;>cases port==11<;>rfl
structure okV(m:Q00):Prop where
 cpu:Q2n m.B2
 mem: ∀w∈m.Mem,U w
 disk:Q9p m.B1
 nic:Ql6 m.C2
 bal:okB m.A1
 cnt:0<=m.A2
theorem Qqz(m:List Int)(hm: ∀w∈m,U w):Q1 m=Q40 m/\(Q1 m=0\/ ∃P:Nat,1<=P/\Q17 P m):=by
 refine⟨rfl,?_⟩
 simp only[Q1,Qcw,Tree.m]
 cases h1:cX (m.length:Int) 32 !=0
 . cases h2:decide ((m.length:Int)>1024)
   . have h1:cX (m.length:Int) 32=0:=by simpa using h1
     have h2:=oN h2
     rw[eA (by omega)]at h1
     by_cases h0:m.length=0
     . left;rw[h0];rfl
     . right;exact⟨m.length/32,by omega,⟨by omega,by omega,by omega,hm⟩⟩
   . left;rfl
 . left;rfl
theorem rcnd{a x:Bool}:(bif !a then false else x)=true↔a=true/\x=true:=by cases a<;>simp
theorem vK(m:Q00):Q25 m=true↔ ¬(Q40 m.Mem<1)/\Q7p m.B2/\Qka m.A3=true/\Qem m.B0=true/\Qhr m.B1 (Q40 m.Mem)=true/\Qkl m.C2 (Q40 m.Mem)=true/\Qab m.A1 (Q40 m.Mem)=true/\m.A2<=1152921504606846976/\ ¬(m.A4=true/\m.A6=true):=by
 simp only[Q25,Qyn,Tree.m,letv]
 rw[cnd2,cnd2,cnd2,cnd2,cnd2,cnd2,rcnd,rcnd,rcnd,rcnd,rcnd]
 simp only[decide_eq_false_iff_not,Int.not_lt,bne_eq_false_iff_eq,gt_iff_lt]
 have l:((bif decide (m.A2<=1152921504606846976) then(bif m.A4 then !m.A6 else true) else false)=true)↔m.A2<=1152921504606846976/\ ¬(m.A4=true/\m.A6=true):=by
   by_cases hc:m.A2<=1152921504606846976
   . rw[dY hc]
     cases m.A4<;>cases m.A6<;>simp [hc]
   . rw[dN hc];simp [hc]
 rw[l]
 constructor
 . rintro⟨a1,a2,a3,a4,a5,a6,a7⟩
   exact⟨by omega,⟨a2,a3,a4,a5,a6⟩,a7⟩
 . rintro⟨a1,⟨a2,a3,a4,a5,a6⟩,a7⟩
   exact⟨by omega,a2,a3,a4,a5,a6,a7⟩
theorem Qij{m:Q00}(h:okV m):Q18 m=Q25 m:=by
 rw[eD,Qqi,vK,xe]
 obtain⟨e,c⟩:=Qqz m.Mem h.mem
 simp only[aE,<-e]
 rcases c with c|⟨P,hP,hm⟩
 . constructor
   . rintro⟨a,_⟩;exact absurd c a
   . rintro⟨a,_⟩;omega
 . rw[Q3z hm,Z9a,Zet,Zgq,Zlb h.bal.2 hm.p2]
   constructor
   . rintro⟨a1,a2,a3,a4,a5,a6,a7,a8,a9⟩;exact⟨by omega,a2,a5,a6,a7,a8,a9,a3,a4⟩
   . rintro⟨a1,a2,a5,a6,a7,a8,a9,a3,a4⟩;exact⟨by omega,a2,a3,a4,a5,a6,a7,a8,a9⟩
def Zd6(a b c d e:Bool):Int:=ior .u32 (ior .u32 (ior .u32 (ior .u32 (Q9w a 0) (Q9w b 1)) (Q9w c 2)) (Q9w d 3)) (Q9w e 4)
theorem mlines(m:Q00):Qfa m=Zd6 (Qiv m.B0) (Qaq m.A3) (Qa2 m.B1) (Qoh m.C2) (Q8 m.A1):=by
 unfold Qfa Q7t
 simp only[Tree.m,letv]
 generalize Qiv m.B0=a
 generalize Qaq m.A3=b
 generalize Qa2 m.B1=c
 generalize Qoh m.C2=d
 generalize Q8 m.A1=e
 cases a<;>cases b<;>cases c<;>cases d<;>cases e<;>kernel_rfl
theorem Zpx(a b c d e:Bool):0<=Zd6 a b c d e/\Zd6 a b c d e<32:=by
 cases a<;>cases b<;>cases c<;>cases d<;>cases e<;>decide
theorem rlines(m:Q00):Qj3 m=Zd6 (Qbd m.B0) (Q6a m.A3) (Qd0 m.B1) (Qfd m.C2) (Q4a m.A1):=rfl
section
variable {m:Q00} (h:okV m)
include h
theorem Zrb:Qfa m=Qj3 m:=by
 rw[mlines,rlines,xK,Zk h.bal];rfl
theorem Z0f:Q68 m=Q37 m:=by
 have e:=Zrb h
 simp only[Q68,Q39,Q37,Q9a,Tree.m,letv,e]
theorem Zi7:Q4l m=Qev m:=by
 have e:=Z0f h
 simp only[Q4l,Q3e,Qev,Qfr,Tree.m,letv,e]
theorem Qwv:Q2u m=!Q0z m:=by
 have e1:=Qij h
 have e2:=Zi7 h
 have e3:decide (m.A2>=1152921504606846976)=!decide (m.A2<1152921504606846976):=vi
 simp only[Q2u,Q4e,Q0z,Q8e,Tree.m,letv,e1,e2,e3]
 cases Q25 m<;>cases m.A6<;>cases Qev m<;>cases decide (m.A2<1152921504606846976)<;>rfl
theorem Za7:0<=Q37 m/\Q37 m<32:=by
 have e:Q37 m=iand .u32 (Qj3 m) m.B2.B8.a7:=rfl
 have l:=Zpx (Qbd m.B0) (Q6a m.A3) (Qd0 m.B1) (Qfd m.C2) (Q4a m.A1)
 rw[<-rlines]at l
 rw[e,Zkc ⟨l.1,by omega⟩ h.cpu.a7]
 have:=dW (n:=(Qj3 m).toNat) (m:=m.B2.B8.a7.toNat)
 omega
def low(l:Int):Int:=if l%2=1 then 0 else if l/2%2=1 then 1 else if l/4%2=1 then 2 else if l/8%2=1 then 3 else 4
end
theorem cases32{l:Int}(h0:0<=l)(h1:l<32):l=0\/l=1\/l=2\/l=3\/l=4\/l=5\/l=6\/l=7\/l=8\/l=9\/l=10\/l=11\/l=12\/l=13\/l=14\/l=15\/l=16\/l=17\/l=18\/l=19\/l=20\/l=21\/l=22\/l=23\/l=24\/l=25\/l=26\/l=27\/l=28\/l=29\/l=30\/l=31:=by omega
def intr(m:Q00)(l:Int):Q05:=bif iand .u32 m.B2.B8.a0 2==0 then m.B2 else bif l==0 then m.B2 else Q2x m.B2 (wrap .i64 (16+low l)) 0
theorem rintr{m:Q00}(h:okV m):Q0n m=intr m (Q37 m):=by
 obtain⟨l0,l1⟩:=Za7 h
 unfold Q0n Q4y
 simp only[Tree.m,letv]
 revert l0 l1
 generalize Q37 m=l
 intro l0 l1
 unfold intr
 cases iand .u32 m.B2.B8.a0 2==0
 . rcases cases32 l0 l1 with rfl|rfl|rfl|rfl|rfl|rfl|rfl|rfl|rfl|rfl|rfl|rfl|rfl|rfl|rfl|rfl|rfl|rfl|rfl|rfl|rfl|rfl|rfl|rfl|rfl|rfl|rfl|rfl|rfl|rfl|rfl|rfl<;>kernel_rfl
 . rfl
def beg(m:Q00)(c:Q05):Q00:={B2:=c,Mem:=m.Mem,A3:=m.A3,B0:=m.B0,B1:=m.B1,C2:=m.C2,A1:=m.A1,A2:=m.A2,A4:=false,A6:=m.A6}
theorem Zbg{m:Q00}(h:okV m)(hst:m.B2.B8.a0<=31):Q11 m=beg m (Q0n m):=by
 obtain⟨l0,l1⟩:=Za7 h
 have tr: ∀k b,Q4u m.B2 k b=Q2x m.B2 k b:=Qrg h.cpu.a0.1 hst
 have e:Q68 (beg m m.B2)=Q37 m:=Z0f (m:=beg m m.B2) ⟨h.cpu,h.mem,h.disk,h.nic,h.bal,h.cnt⟩
 rw[rintr h]
 unfold Q11 Q2w
 simp only[Tree.m,letv]
 rw[show Q68 {B2:=m.B2,Mem:=m.Mem,A3:=m.A3,B0:=m.B0,B1:=m.B1,C2:=m.C2,A1:=m.A1,A2:=m.A2,A4:=false,A6:=m.A6}=Q37 m from e]
 revert l0 l1
 generalize Q37 m=l
 intro l0 l1
 unfold intr
 simp only[<-tr]
 cases iand .u32 m.B2.B8.a0 2==0
 . rcases cases32 l0 l1 with rfl|rfl|rfl|rfl|rfl|rfl|rfl|rfl|rfl|rfl|rfl|rfl|rfl|rfl|rfl|rfl|rfl|rfl|rfl|rfl|rfl|rfl|rfl|rfl|rfl|rfl|rfl|rfl|rfl|rfl|rfl|rfl<;>(show _=_;kernel_rfl)
 . rfl
theorem ports{p:Int}:p=0\/p=1\/p=2\/p=3\/p=4\/p=5\/p=6\/p=7\/p=8\/p=9\/p=10\/p=11\/p<0\/12<=p:=by omega
theorem xal{m:Q00}(hb:okB m.A1)(port clock:Int):Q1m m port clock=((Qaf m port clock).2,(Qaf m port clock).1):=by
 have e1:=Zrs m.A3
 have e2: ∀p,Qyx m.B1 p=Qg9 m.B1 p:=λ_=>rfl
 have e3:=Zr3 m.C2
 have e4:=Zrd hb
 have e5:Z2n m.B0=Qe4 m.B0:=rfl
 simp only[Q1m,Q4z,Qaf,Qjk,Tree.m,letv,e1,e2,e3,e4,e5]
 rcases ports (p:=port) with rfl|rfl|rfl|rfl|rfl|rfl|rfl|rfl|rfl|rfl|rfl|rfl|h|h
 all_goals first|rfl|skip
 . have n: ∀k:Int,0<=k->(port==k)=false:=λk hk=>beq_eq_false_iff_ne.2 (by omega)
   have c:Q4h m.A3 port=(m.A3,0):=by
     simp only[Q4h,Q3v,Tree.m,n 0 (by decide),n 1 (by decide),cond_false]
   simp only[n 0 (by decide),n 1 (by decide),n 2 (by decide),n 3 (by decide),n 4 (by decide),n 5 (by decide),n 6 (by decide),n 7 (by decide),n 8 (by decide),n 9 (by decide),n 10 (by decide),n 11 (by decide),cond_false,dY (show port<=1 by omega),cond_true,c]
 . have n: ∀k:Int,k<12->(port==k)=false:=λk hk=>beq_eq_false_iff_ne.2 (by omega)
   have c:Q4f m.A1 port=0:=by
     simp only[Q4f,Q6s,Tree.m,n 10 (by decide),n 11 (by decide),cond_false]
   simp only[n 0 (by decide),n 1 (by decide),n 2 (by decide),n 3 (by decide),n 4 (by decide),n 5 (by decide),n 6 (by decide),n 7 (by decide),n 8 (by decide),n 9 (by decide),n 10 (by decide),n 11 (by decide),cond_false,dN (show¬port<=1 by omega),dN (show¬port<=6 by omega),dN (show¬port<=9 by omega),c]
theorem qL{P:Nat}{m:Q00}(hm:Q17 P m.Mem)(hb:okB m.A1)(port:Int){v:Int}(hv:U v):Q2m m port v m.A2=((Q7s m port v).2,(Q7s m port v).1):=by
 have e1:=Zjc hm m.B1
 have e2:=Zm3 hm m.C2
 have e3:=Zm4 hm hb port hv
 have e4:=zK m.B0 v
 simp only[Q2m,Q46,Q7s,Qdw,Tree.m,letv,e1,e2,e3,e4]
 rcases ports (p:=port) with rfl|rfl|rfl|rfl|rfl|rfl|rfl|rfl|rfl|rfl|rfl|rfl|h|h
 all_goals first|rfl|skip
 . have n: ∀k:Int,0<=k->(port==k)=false:=λk hk=>beq_eq_false_iff_ne.2 (by omega)
   simp only[n 0 (by decide),n 1 (by decide),n 2 (by decide),n 3 (by decide),n 4 (by decide),n 5 (by decide),n 6 (by decide),n 7 (by decide),n 8 (by decide),n 9 (by decide),n 10 (by decide),n 11 (by decide),cond_false,dY (show port<=2 by omega),cond_true]
 . have n: ∀k:Int,k<12->(port==k)=false:=λk hk=>beq_eq_false_iff_ne.2 (by omega)
   have c:Q60 m.A1 m.Mem port v=(m.A1,m.Mem):=by
     simp only[Q60,Q55,Tree.m,n 10 (by decide),n 11 (by decide),cond_false]
   simp only[n 0 (by decide),n 1 (by decide),n 2 (by decide),n 3 (by decide),n 4 (by decide),n 5 (by decide),n 6 (by decide),n 7 (by decide),n 8 (by decide),n 9 (by decide),n 10 (by decide),n 11 (by decide),cond_false,dN (show¬port<=2 by omega),dN (show¬port<=6 by omega),dN (show¬port<=9 by omega),c]
def tick(n:Q00)(c:Q05)(w h:Bool):Q00:={B2:=c,Mem:=n.Mem,A3:=n.A3,B0:=n.B0,B1:=n.B1,C2:=n.C2,A1:=n.A1,A2:=wrap .u64 (n.A2+1),A4:=w,A6:=h}
def withX(m:Q00)(c:Q05)(mem:List Int):Q00:={B2:=c,Mem:=mem,A3:=m.A3,B0:=m.B0,B1:=m.B1,C2:=m.C2,A1:=m.A1,A2:=m.A2,A4:=false,A6:=m.A6}
def finP(n:Q00)(e:Q16)(clock at0:Int):Q00×List Q03:=
 bif e.B7==1 then
   (bif e.D9 !=0 then(tick (Q1m n e.D1 clock).1 {X:=A16.of 0 (dB (A16.l (Q1m n e.D1 clock).1.B2.X) e.D9.toNat (Q1m n e.D1 clock).2),Pc:=(Q1m n e.D1 clock).1.B2.Pc,B8:=(Q1m n e.D1 clock).1.B2.B8} (Q1m n e.D1 clock).1.A4 (Q1m n e.D1 clock).1.A6,[])
   else(tick (Q1m n e.D1 clock).1 (Q1m n e.D1 clock).1.B2 (Q1m n e.D1 clock).1.A4 (Q1m n e.D1 clock).1.A6,[]))
 else bif e.B7==2 then(tick (Q2m n e.D1 e.Value at0).1 (Q2m n e.D1 e.Value at0).1.B2 (Q2m n e.D1 e.Value at0).1.A4 (Q2m n e.D1 e.Value at0).1.A6,(Q2m n e.D1 e.Value at0).2)
 else bif e.B7==3 then(tick n n.B2 true n.A6,[]) else bif e.B7==4 then(tick n n.B2 n.A4 true,[]) else(tick n n.B2 n.A4 n.A6,[])
def finR(n:Q00)(e:Q16)(clock:Int):List Q03×Q00:=
 bif e.B7==1 then([],tick (Qaf n e.D1 clock).2 (Q1z (Qaf n e.D1 clock).2.B2 e.D9 (Qaf n e.D1 clock).1) (Qaf n e.D1 clock).2.A4 (Qaf n e.D1 clock).2.A6)
 else bif e.B7==2 then((Q7s n e.D1 e.Value).1,tick (Q7s n e.D1 e.Value).2 (Q7s n e.D1 e.Value).2.B2 (Q7s n e.D1 e.Value).2.A4 (Q7s n e.D1 e.Value).2.A6)
 else bif e.B7==3 then([],tick n n.B2 true n.A6) else bif e.B7==4 then([],tick n n.B2 n.A4 true) else([],tick n n.B2 n.A4 n.A6)
theorem xaG(m:Q00)(clock:Int):Q0r m clock=finR (withX m (Q5f (Q0n m) m.Mem).1 (Q5f (Q0n m) m.Mem).2.2) (Q5f (Q0n m) m.Mem).2.1 clock:=by kernel_rfl
theorem Znd(m:Q00)(clock:Int):Q3t m clock=bif !Q2u m then(m,[]) else finP {B2:=(Q8j (Q11 m).B2 (Q11 m).Mem).1,Mem:=(Q8j (Q11 m).B2 (Q11 m).Mem).2.1,A3:=(Q11 m).A3,B0:=(Q11 m).B0,B1:=(Q11 m).B1,C2:=(Q11 m).C2,A1:=(Q11 m).A1,A2:=(Q11 m).A2,A4:=(Q11 m).A4,A6:=(Q11 m).A6} (Q8j (Q11 m).B2 (Q11 m).Mem).2.2 clock m.A2:=by kernel_rfl
theorem qam(m:List Int):Qpr m=m:=by
 simp [Qpr,Qa0,Tree.m]
theorem Zgc(m:Q00):Qio m=m:=by
 simp only[Qio,Q9e,Tree.m,letv,qam]
def Zj(m:Q00)(clock:Int):Q00×List Q03:=bif Q0z m then(m,[]) else((Q0r m clock).2,(Q0r m clock).1)
def Qlj(m:Q00)(e:Q0b):Tree (Q00×Bool):=
 .an (Qaj m) (.lv (Qio m) λ(x0:Q00)=> .lv (Q25 x0) λ(x1:Bool)=> .br (!x1) (.lf (x0,false)) (.an (Qti x0 e) (.lv (Q0s x0 e) λ(x2:Bool×Q00)=> .lf (x2.2,x2.1))))
def Qne m e:=(Qlj m e).m
theorem Zco(m:Q00)(clock:Int):Zj m clock=bif Q0z m then(m,[]) else((Q0r m clock).2,(Q0r m clock).1):=rfl
theorem xL{P:Nat}{n:Q00}(hm:Q17 P n.Mem)(hb:okB n.A1){e:Q16}(hr:0<=e.D9/\e.D9<16)(hv:U e.Value)(clock:Int):finP n e clock n.A2=((finR n e clock).2,(finR n e clock).1):=by
 unfold finP finR
 rw[xal hb e.D1 clock,qL hm hb e.D1 hv]
 cases e.B7==1
 . cases e.B7==2
   . cases e.B7==3
     . cases e.B7==4<;>rfl
     . rfl
   . rfl
 . generalize Qaf n e.D1 clock=r
   have s:=Z2d r.2.B2 hr r.1
   show(bif e.D9 !=0 then _ else _)=(tick r.2 (Q1z r.2.B2 e.D9 r.1) r.2.A4 r.2.A6,[])
   rw[<-s]
   simp only[Qc0,Qef,Tree.m]
   cases e.D9 !=0<;>rfl
theorem Zgw{m:Q00}(h:okV m)(clock:Int):Q3t m clock=Zj m clock:=by
 rw[Znd,Zco,Qwv h]
 cases hs:Q0z m
 . have hr:Q2u m=true:=by rw[Qwv h,hs];rfl
   obtain⟨hm,hh,hct⟩:=Z2k hr
   obtain⟨g1,g2,g3,g4,g5⟩:=(Qqi m).1 hm
   rcases(Qqz m.Mem h.mem).2 with c|⟨P,hP,hmem⟩
   . exact absurd c g1
   have okm:okS P m:=⟨h.cpu,hmem,h.disk,h.nic,h.bal.1,h.bal.2⟩
   obtain⟨b1,b2,b3,_⟩:=(Tree.pp (Z4z okm g2)).2
   change Q7p (Q11 m).B2 at b1
   change okS P (Q11 m) at b2
   change(Q11 m).Mem=m.Mem at b3
   have be:=Zbg h g2.st
   have b1':Q7p (Q0n m):=by have:=b1;rw[be]at this;exact this
   have b2':Q2n (Q0n m):=by have:=b2.cpu;rw[be]at this;exact this
   have ex:=Zil hmem b2' b1'.st
   have er:=(Tree.pp (Znp b2' hmem)).2
   change 0<=(Q8j (Q0n m) m.Mem).2.2.D9/\(Q8j (Q0n m) m.Mem).2.2.D9<16 at er
   obtain⟨d1,d2,d3⟩:=(Tree.pp (do_w b2' hmem)).2
   change U (Q5f (Q0n m) m.Mem).2.1.Value at d2
   change Q17 P (Q5f (Q0n m) m.Mem).2.2 at d3
   rw[ex]at er
   rw[xaG,be]
   show finP {B2:=(Q8j (Q0n m) m.Mem).1,Mem:=(Q8j (Q0n m) m.Mem).2.1,A3:=m.A3,B0:=m.B0,B1:=m.B1,C2:=m.C2,A1:=m.A1,A2:=m.A2,A4:=false,A6:=m.A6} (Q8j (Q0n m) m.Mem).2.2 clock m.A2=_
   rw[ex]
   exact xL (n:=withX m (Q5f (Q0n m) m.Mem).1 (Q5f (Q0n m) m.Mem).2.2) d3 h.bal er d2 clock
 . rfl
theorem Zb2{m:Q00}(h:okV m)(e:Q0b):Q70 m e=Qne m e:=by
 have hcl:Q04 m.Mem=m.Mem:=rfl
 have mm:=Qij h
 have t1:Qn7 m.B0=Qr8 m.B0:=rfl
 have t2: ∀b,Qpm m.A3 b=Qr6 m.A3 b:=λ_=>rfl
 simp only[Q70,Q4q,Qne,Qlj,Q0s,Q8f,Tree.m,letv,Zgc,hcl,t1,t2]
 rw[show Q18 {B2:=m.B2,Mem:=m.Mem,A3:=m.A3,B0:=m.B0,B1:=m.B1,C2:=m.C2,A1:=m.A1,A2:=m.A2,A4:=m.A4,A6:=m.A6}=Q25 m from mm]
 cases hM:Q25 m
 . rfl
 have hM':Q18 m=true:=mm.trans hM
 rcases(Qqz m.Mem h.mem).2 with c|⟨P,hP,hmem⟩
 . exact absurd c ((Qqi m).1 hM').1
 have cs:=Zen hmem h.disk e
 have rs:=Zjf hmem h.nic e.D0
 clear mm hM hM' hcl h
 obtain⟨c,mem,con,ti,d,n,b,ct,w,hl⟩:=m
 cases hl
 . by_cases k2:e.B7=2
   . rw[k2];cases e.N==0<;>cases decide (e.D0=[])<;>rfl
   by_cases k3:e.B7=3
   . rw[k3];cases decide (e.N<=255)<;>cases decide (e.D0=[])<;>rfl
   by_cases k4:e.B7=4
   . rw[k4,cs];rfl
   by_cases k5:e.B7=5
   . rw[k5,rs];cases e.N==0<;>rfl
   by_cases k6:e.B7=6
   . rw[k6];cases decide (e.D0=[])<;>rfl
   . rw[show(e.B7==2)=false by simpa using k2,show(e.B7==3)=false by simpa using k3,show(e.B7==4)=false by simpa using k4,show(e.B7==5)=false by simpa using k5,show(e.B7==6)=false by simpa using k6]
     rfl
 . rfl
theorem zam{l acts:List Int}{x0:Bool}(hx0:x0=Qvv l acts)(hb:(!x0)=false):l.length<=40/\acts.length<=30:=by
 have hb:x0=true:=by simpa using hb
 rw[hb]at hx0
 simp only[Qvv,Qz5,Tree.m]at hx0
 cases h1:decide ((l.length:Int)<=40)<;>rw[h1]at hx0
 . cases hx0
 . have:=oY hx0.symm
   have:=oY h1
   omega
section
variable {m:Q00} (h:okV m) (hl:m.Mem.length<=1024)
include h
theorem may_P(hm:Q18 m=true): ∃P,okS P m/\okM P m:=by
 rcases(Qqz m.Mem h.mem).2 with c|⟨P,hP,hmem⟩
 . exact absurd c ((Qqi m).1 hm).1
 . exact⟨P,⟨h.cpu,hmem,h.disk,h.nic,h.bal.1,h.bal.2⟩,⟨h.cpu,hmem,h.disk,h.nic,h.bal,h.cnt⟩⟩
include hl
theorem xj{clock:Int}(hk:U clock):Q6o m clock/\(Q3t m clock).2.length<=1/\(Q3t m clock).1.Mem.length<=1024:=by
 cases hr:Q2u m
 . have e:Q3t m clock=(m,[]):=by rw[Znd,hr];rfl
   rw[e]
   refine⟨?_,aT _,hl⟩
   have hcl:Q04 m.Mem=m.Mem:=rfl
   show(Q3f m clock).p
   unfold Tree.p Q3f
   refine w_an (by show m.Mem.length<=35184372088832;omega) (w_lv λl hl=> ?_)
   rw[hcl]at hl;subst hl
   refine w_an (Tree.pp (Zms (m:=⟨_,_,_,_,_,_,m.A1,_,_,_⟩) h.bal.2)).1 (w_lv λx1 hx1=>w_br (λ_=>trivial) (λhb=> ?_))
   have:x1=false:=hx1.trans hr
   rw[this]at hb;cases hb
 . obtain⟨P,s,_⟩:=may_P h (Z2k hr).1
   have g:=Tree.pp (vf s h.cnt hk)
   have ml:=g.2.2.ok.mem.len
   have mp:=g.2.2.ok.mem.p2
   exact⟨g.1,g.2.1,by show(Q3f m clock).m.1.Mem.length<=1024;omega⟩
omit h in
theorem ownV:(Q9e m).w (λx=>x=m):=by
 unfold Q9e Qpr
 have c:(Qa0 m.Mem).w (λr=>r=m.Mem):=by
   unfold Qa0
   refine w_cn ?_ ?_
   . simp [bT,D.plain];omega
   . show _=_;simp
 exact Q0c c λx hx=>by rw[hx];rfl
omit h hl in
theorem zL{P:Nat}(h:okM P m){e:Q0b}(he:U e.N):(Q8f m e).w (λx=>okM P x.2):=by
 have k:=h
 obtain⟨h1,h2,h3,h4,h5,h7⟩:=h
 unfold Q8f
 repeat'(first
   |exact k
   |exact⟨h1,h2,h3,h4,⟨he,h5.2⟩,h7⟩
   |exact w_lv λ_ _=>⟨h1,h2,h3,h4,h5,h7⟩
   |exact Q0c (yx _ _) λ_ _=>⟨h1,h2,h3,h4,h5,h7⟩
   |exact Q0c (Zdm h2 h3 _) λx hx=>⟨h1,hx.2,hx.1,h4,h5,h7⟩
   |exact Q0c (Zdj h2 h4 _) λx hx=>⟨h1,hx.2,h3,hx.1,h5,h7⟩
   |refine w_br (λ_=> ?_) (λ_=> ?_))
theorem Zb1{e:Q0b}(he:U e.N):Qax m e:=by
 cases hm:Q18 m
 . have hcl:Q04 m.Mem=m.Mem:=rfl
   show(Q4q m e).p
   unfold Tree.p Q4q
   refine w_an (by show m.Mem.length<=35184372088832;omega) (w_lv λl hl=> ?_)
   rw[hcl]at hl;subst hl
   refine w_an (Tree.pp (Zak (m:=⟨_,_,_,_,_,_,m.A1,_,_,_⟩) h.bal.2)).1 (w_lv λx1 hx1=>w_br (λ_=>trivial) (λhb=> ?_))
   have:x1=false:=hx1.trans hm
   rw[this]at hb;cases hb
 . obtain⟨P,s,o⟩:=may_P h hm
   exact(Tree.pp (Zow o he)).1
end
theorem zj(a:Q00)(ha:a.Mem.length<=1000000000000):(Qjl a a).w (λb=>b=true):=by
 unfold Qjl
 repeat'(first
   |refine w_br (λ_=> ?_) (λh=>absurd h (by simp [eqs,eq1];done))
   |exact w_an ha (w_lv λx hx=>by rw[hx];exact Z9u _ ha)
   |refine w_an ha (w_lv λx hx=>w_br (λ_=> ?_) (λh=>by rw[hx,Z9u _ ha]at h;cases h))
   |exact rfl)
 all_goals(show(_==_)=true;simp)
theorem Zi9(a:List Q03)(ha:a.length<=1000000000000):(Q4x a a).w (λb=>b=true):=by
 unfold Q4x
 refine w_br (λh=>by simp at h) (λ_=> ?_)
 refine w_lp (inv:=λv:Int=>0<=v/\v<=a.length) (μ:=Q6i a a) ⟨by omega,by omega⟩ (cK _) λv ⟨h1,h2⟩=> ?_
 refine w_br (λhb=> ?_) (λ_=>rfl)
 have hb:=oY hb
 have e:i64.wrap (v+1)=v+1:=by rw[wrap_i64];omega
 refine w_cn (by simp [bT];omega) (w_cn (by simp [bT];omega) (w_br (λh=>by simp [eqs,eq1]at h) (λ_=>w_nx ?_)))
 show(_/\_)/\(_:Nat)<_
 exact⟨⟨by rw[e];omega,by rw[e];omega⟩,by show(a.length-i64.wrap (v+1)).toNat<(a.length-v).toNat;rw[e];omega⟩
def Tree.V{β:Type}(t:Tree β)(W:β->Prop):Prop:=W t.m
section
variable {α β:Type} {W:β->Prop} {c:Bool} {t e:Tree β}
theorem v_lf{x:β}(h:W x):Tree.V (.lf x) W:=h
theorem v_nx{f:Prop}{x:β}{hf:f}(h:W x):Tree.V (.nx f x hf) W:=h
theorem v_br(h:c=true->Tree.V t W)(g:c=false->Tree.V e W):Tree.V (.br c t e) W:=by
 cases c
 . exact g rfl
 . exact h rfl
theorem v_cn(g:Tree.V t W):Tree.V (.cn c t) W:=g
theorem v_an{p:Prop}(g:Tree.V t W):Tree.V (.an p t) W:=g
theorem v_lv{x:α}{k:α->Tree β}(h: ∀y,y=x->Tree.V (k y) W):Tree.V (.lv x k) W:=h x rfl
theorem v_lp{d:Inhabited β}{n:Nat}{f:Prop}{x:α}{k:α->Tree (α⊕β)}{hf:f}{inv:α->Prop}{μ:α->Nat}(h:inv x)(hn:μ x<n)(g: ∀y,inv y->Tree.V (k y) (Sum.elim (λz=>inv z/\μ z<μ y) W)):Tree.V (.lp d n f x k hf) W:=by
 refine xz (P:=inv) (R:=W) (μ:=μ) (λa ha=> ?_) n x h hn
 have:=g a ha
 unfold Tree.V at this
 revert this
 cases(k a).m with
 |inl z=>exact λh=>h
 |inr b=>exact λh=>h
end
def Z95(r:Q02)(m:Q00):Q02:={A0:=m,A7:=r.A7,B3:=r.B3,A9:=r.A9}
theorem qaH(r:Q02)(port clock:Int):Qwc r port clock=((Qaf r.A0 port clock).1,Z95 r (Qaf r.A0 port clock).2):=by
 simp only[Qwc,Qjh,Qaf,Qjk,Tree.m,letv]
 cases decide (port<=1)<;>cases port==2<;>cases port==3<;>cases decide (port<=6)<;>cases decide (port<=9)<;>rfl
theorem xam(r:Q02)(port v:Int):Qsg r port v=((Q7s r.A0 port v).1,Z95 r (Q7s r.A0 port v).2):=by
 simp only[Qsg,Qe0,Q7s,Qdw,Tree.m,letv]
 cases port==0<;>cases decide (port<=2)<;>cases port==3<;>cases decide (port<=6)<;>cases decide (port<=9)<;>rfl
theorem zaH{r:Q02}{c:Bool}{x y:Bool×Q02}{x' y':Bool×Q00}(hx:x=(x'.1,Z95 r x'.2))(hy:y=(y'.1,Z95 r y'.2)):cond c x y=((cond c x' y').1,Z95 r (cond c x' y').2):=by cases c<;>assumption
theorem yj(r:Q02)(e:Q0b):Qls r e=((Q0s r.A0 e).1,Z95 r (Q0s r.A0 e).2):=by
 simp only[Qls,Q9b,Q0s,Q8f,Tree.m,letv]
 repeat'(first|rfl|refine zaH ?_ ?_)
theorem Zcp(r:Q02)(clock:Int):Q7k r clock=((Q0r r.A0 clock).1,Z95 r (Q0r r.A0 clock).2):=by
 simp only[Q7k,Q6t,Q0r,Q7j,Tree.m,letv,qaH,xam,Z95]
 cases(Q5f (Q0n r.A0) r.A0.Mem).2.1.B7==1<;>cases(Q5f (Q0n r.A0) r.A0.Mem).2.1.B7==2<;>cases(Q5f (Q0n r.A0) r.A0.Mem).2.1.B7==3<;>cases(Q5f (Q0n r.A0) r.A0.Mem).2.1.B7==4<;>rfl
def Qbq(r:Q02)(e:Q0b):Q02:=
 bif(Q0s r.A0 e).1 then{A0:=(Q0s r.A0 e).2,A7:=r.A7,B3:=r.B3++[{At:=(Q0s r.A0 e).2.A2,B6:=e}],A9:=r.A9} else Z95 r (Q0s r.A0 e).2
theorem Zo5(r:Q02)(e:Q0b):Qk2 r e=Qbq r e:=by
 have a:Qiu r e=((Q0s r.A0 e).1,Z95 r (Q0s r.A0 e).2):=by
   simp only[Qiu,Q89,Tree.m,letv,yj]
 simp only[Qk2,Qb1,Tree.m,letv,a,Qbq]
 cases(Q0s r.A0 e).1<;>rfl
def Qcx(r:Q02):Q02:=bif Qsc r.A0.B0 r.A7 then Qbq r {B7:=2,N:=0,D0:=[]} else r
def Zcf(r:Q02):Q02:=bif Q0g r.A0 then{A0:=r.A0,A7:=r.A7,B3:=r.B3++[{At:=r.A0.A2,B6:={B7:=1,N:=r.A7,D0:=[]}}],A9:=r.A9} else r
def Qve(r:Q02):Q02:={A0:=(Q0r r.A0 r.A7).2,A7:=wrap .u32 (r.A7+1),B3:=(Zcf r).B3,A9:=r.A9}
def recF:Nat->Q02->List Q03->Q02×List Q03
 |0,r,o=>(r,o)
 |n+1,r,o=>bif Q0z (Qcx r).A0 then(Qcx r,o) else recF n (Qve (Qcx r)) (o++(Q0r (Qcx r).A0 (Qcx r).A7).1)
def noQ(r:Q02):Q02:={A0:=r.A0,A7:=r.A7,B3:=r.B3,A9:=[]}
def advF(r:Q02)(steps clock:Int):Q02×List Q03:=
 bif !Q25 r.A0 then(r,[]) else recF (Q0i steps).toNat (noQ (r.A9.foldl Qbq {A0:=r.A0,A7:=if clock>r.A7 then clock else r.A7,B3:=r.B3,A9:=r.A9})) []
theorem Zjv(r:Q02)(e:Q0b):(Qbq r e).A9=r.A9:=by
 unfold Qbq;cases(Q0s r.A0 e).1<;>rfl
theorem Znf(r:Q02):Qq9 r=r:=by
 simp only[Qq9,Qfy,Tree.m,letv,Zgc]
theorem yL(r:Q02)(steps clock:Int)(hq:r.A9.length<=1000000):Qf4 r steps clock=advF r steps clock:=by
  show Tree.V (Q6 r steps clock) (λx=>x=advF r steps clock)
  obtain⟨lim0,lim⟩:=Qn8 steps
  unfold Q6
  refine v_an (v_lv λx0 e0=>v_lv λx1 e1=> ?_)
  rw[Znf]at e0
  subst e0
  refine v_br (λhb=>v_lf ?_) λhb=> ?_
  . unfold advF;rw[<-e1,hb];rfl
  generalize hr0:({A0:=x0.A0,A7:=if clock>x0.A7 then clock else x0.A7,B3:=x0.B3,A9:=x0.A9}:Q02)=r0
  have hA:advF x0 steps clock=recF (Q0i steps).toNat (noQ (x0.A9.foldl Qbq r0)) []:=by
    unfold advF;rw[<-e1,hb,hr0];rfl
  have hQ:r0.A9=x0.A9:=by rw[<-hr0]
  refine v_lp (inv:=λz:Int×Q02=>0<=z.1/\z.1<=x0.A9.length/\z.2.A9=x0.A9/\(x0.A9.drop z.1.toNat).foldl Qbq z.2=x0.A9.foldl Qbq r0) (μ:=Qdt x0 steps clock) ⟨cR 0,by show(0:Int)<=_;omega,hQ,rfl⟩ (cK _) λz ⟨z0,z1,z2,z3⟩=> ?_
  refine v_br (λhb=> ?_) (λhb=> ?_)
  . have hb:=oY hb
    rw[z2]at hb
    refine v_cn (v_an (v_lv λx2 e2=>v_nx ?_))
    have ew:i64.wrap (z.1+1)=z.1+1:=by rw[wrap_i64];omega
    rw[Zo5]at e2
    have q2:x2.A9=x0.A9:=by rw[e2,Zjv,z2]
    have hlt:z.1.toNat<x0.A9.length:=by omega
    have ed:z.2.A9.getD z.1.toNat (RK.dflt RK.apiEvent)=x0.A9[z.1.toNat]:=by rw[z2,cL,cG hlt];rfl
    show(0<=i64.wrap (z.1+1)/\i64.wrap (z.1+1)<=x0.A9.length/\x2.A9=x0.A9/\(x0.A9.drop (i64.wrap (z.1+1)).toNat).foldl Qbq x2=_)/\(x2.A9.length-i64.wrap (z.1+1)).toNat<(z.2.A9.length-z.1).toNat
    rw[ew,q2,z2]
    refine⟨⟨by omega,by omega,rfl,?_⟩,by omega⟩
    rw[<-z3,aB hlt,aD,show(z.1+1).toNat=z.1.toNat+1 by omega,e2,ed]
  . have hb:=oN hb
    rw[z2]at hb
    obtain⟨zi,zr⟩:=z
    have hb: ¬zi<x0.A9.length:=hb
    have ze:zr=x0.A9.foldl Qbq r0:=by
      rw[<-z3,aA (by show x0.A9.length<=zi.toNat;omega)];rfl
    rw[<-ze]at hA
    refine v_lp (inv:=λy:Int×Q02×List Q03=>0<=y.1/\y.1<=Q0i steps/\recF (Q0i steps-y.1).toNat y.2.1 y.2.2=advF x0 steps clock) (μ:=Q6e x0 steps clock (zi,zr)) ⟨cR 0,by show(0:Int)<=_;omega,by rw[hA];show recF (Q0i steps-0).toNat _ _=_;rw[fB];rfl⟩ (cK _) λy ⟨y0,y1,y2⟩=> ?_
    obtain⟨yi,yr,yo⟩:=y
    have mu: ∀q,yi<4000->Q6e x0 steps clock (zi,zr) (wrap .i64 (yi+1),q)<Q6e x0 steps clock (zi,zr) (yi,yr,yo):=λq h=>by
      show(4000-wrap .i64 (yi+1)).toNat<(4000-yi).toNat
      have y0:0<=yi:=y0
      rw[wrap_i64];omega
    have y0:0<=yi:=y0
    refine v_lv λx3 e3=>v_br (λhb=> ?_) (λhb=> ?_)
    . have hb:yi<x3:=oY hb
      rw[e3]at hb
      have mu:=λq=>mu q (by omega)
      have ew:i64.wrap (yi+1)=yi+1:=by rw[wrap_i64];omega
      have en:(Q0i steps-yi).toNat=(Q0i steps-(yi+1)).toNat+1:=by omega
      change recF (Q0i steps-yi).toNat yr yo=_ at y2
      rw[en]at y2
      refine v_lv λx4 e4=>v_br (λhd=>v_an (v_lv λx5 e5=> ?_)) (λhd=> ?_)
      . have e5:x5=Qcx yr:=by rw[e5,Zo5];unfold Qcx;rw[<-e4,hd];rfl
        refine v_an (v_lv λx6 e6=>v_br (λhs=>v_lf ?_) λhs=>v_an (v_lv λx7 e7=>v_br (λhr=>v_cn (v_an (v_lv λx8 e8=>v_cn (v_nx ?_)))) λhr=>v_an (v_lv λx9 e9=>v_cn (v_nx ?_))))
        . show(_,yo)=_
          rw[<-y2];unfold recF
          rw[<-e5,<-e6,hs];rfl
        . rw[Zcp]at e8
          refine⟨⟨by show 0<=wrap .i64 (yi+1);rw[ew];omega,by show wrap .i64 (yi+1)<=_;rw[ew];omega,?_⟩,mu _⟩
          show recF (Q0i steps-wrap .i64 (yi+1)).toNat _ _=_
          rw[ew,<-y2,e8]
          conv=>rhs;unfold recF
          rw[<-e5,<-e6,hs]
          unfold Qve Zcf
          rw[<-e7,hr];rfl
        . rw[Zcp]at e9
          refine⟨⟨by show 0<=wrap .i64 (yi+1);rw[ew];omega,by show wrap .i64 (yi+1)<=_;rw[ew];omega,?_⟩,mu _⟩
          show recF (Q0i steps-wrap .i64 (yi+1)).toNat _ _=_
          rw[ew,<-y2,e9]
          conv=>rhs;unfold recF
          rw[<-e5,<-e6,hs]
          unfold Qve Zcf
          rw[<-e7,hr];rfl
      . have e5:yr=Qcx yr:=by
          have e4:x4=Qsc yr.A0.B0 yr.A7:=e4
          unfold Qcx;rw[<-e4,hd];rfl
        refine v_an (v_lv λx6 e6=>v_br (λhs=>v_lf ?_) λhs=>v_an (v_lv λx7 e7=>v_br (λhr=>v_cn (v_an (v_lv λx8 e8=>v_cn (v_nx ?_)))) λhr=>v_an (v_lv λx9 e9=>v_cn (v_nx ?_))))
        . show(_,yo)=_
          rw[<-y2];unfold recF
          rw[<-e5,<-e6,hs];rfl
        . rw[Zcp]at e8
          refine⟨⟨by show 0<=wrap .i64 (yi+1);rw[ew];omega,by show wrap .i64 (yi+1)<=_;rw[ew];omega,?_⟩,mu _⟩
          show recF (Q0i steps-wrap .i64 (yi+1)).toNat _ _=_
          rw[ew,<-y2,e8]
          conv=>rhs;unfold recF
          rw[<-e5,<-e6,hs]
          unfold Qve Zcf
          rw[<-e7,hr];rfl
        . rw[Zcp]at e9
          refine⟨⟨by show 0<=wrap .i64 (yi+1);rw[ew];omega,by show wrap .i64 (yi+1)<=_;rw[ew];omega,?_⟩,mu _⟩
          show recF (Q0i steps-wrap .i64 (yi+1)).toNat _ _=_
          rw[ew,<-y2,e9]
          conv=>rhs;unfold recF
          rw[<-e5,<-e6,hs]
          unfold Qve Zcf
          rw[<-e7,hr];rfl
    . have hb: ¬yi<x3:=oN hb
      rw[e3]at hb
      refine v_lf ?_
      show(yr,yo)=_
      change recF (Q0i steps-yi).toNat yr yo=_ at y2
      rw[<-y2,show(Q0i steps-yi).toNat=0 by omega];rfl
structure good(P:Nat)(m:Q00):Prop where
 ok:okM P m
 may:Q18 m=true
section
variable {P:Nat} {m:Q00} (h:good P m)
include h
theorem good.v:okV m:=⟨h.ok.cpu,h.ok.mem.u,h.ok.disk,h.ok.nic,h.ok.target,h.ok.cnt⟩
theorem good.s:okS P m:=⟨h.ok.cpu,h.ok.mem,h.ok.disk,h.ok.nic,h.ok.target.1,h.ok.target.2⟩
theorem good.rmay:Q25 m=true:=(Qij h.v).symm.trans h.may
theorem Qnz{e:Q0b}(he:U e.N):good P (Q0s m e).2/\(Q0s m e).2.A2=m.A2:=by
 have o:okM P (Q0s m e).2:=Tree.post _ (zL h.ok he)
 have a:=(Tree.pp (Zow h.ok he)).2
 change(Q18 m=true->Q18 (Q70 m e).1=true)/\(Q70 m e).1.A2=m.A2/\_ at a
 have e1:Qne m e=((Q0s m e).2,(Q0s m e).1):=by
   simp only[Qne,Qlj,Tree.m,letv,Zgc,h.rmay];rfl
 rw[Zb2 h.v e,e1]at a
 exact⟨⟨o,a.1 h.may⟩,a.2.1⟩
theorem vj:Q0z m=false↔m.A6=false/\Qev m=false/\m.A2<1152921504606846976:=by
 simp only[Q0z,Q8e,Tree.m,letv,h.rmay]
 cases m.A6<;>cases Qev m<;>simp
theorem Zcq(hs:Q0z m=false){clock:Int}(hc:U clock):good P (Q0r m clock).2/\(Q0r m clock).2.A2=m.A2+1/\(Q0r m clock).1.length<=1:=by
 have o:=Tree.post _ (Z9n h.ok hc)
 change(Q0r m clock).1.length<=1/\okM P (Q0r m clock).2/\(Q0r m clock).2.A2=wrap .u64 (m.A2+1) at o
 have s:=(Tree.pp (vf h.s h.ok.cnt hc)).2
 change _/\Good P m (Q3t m clock).1 at s
 have e:Q3t m clock=((Q0r m clock).2,(Q0r m clock).1):=by rw[Zgw h.v,Zco,hs];rfl
 rw[e]at s
 have hct:=((vj h).1 hs).2.2
 have h0:=h.ok.cnt
 refine⟨⟨o.2.1,s.2.may h.may⟩,?_,o.1⟩
 rw[o.2.2,wrap_u64];omega
end
structure goodR(P:Nat)(k:Int)(r:Q02):Prop where
 m:good P r.A0
 clock:U r.A7
 cnt:r.A0.A2<=k
def okQ(l:List Q0b):Prop:=l.length<=16/\ ∀q∈l,U q.N
theorem qan(n:Int):U (Qfm n).N:=Tree.post _ (Zm0 n)
theorem qk(r:Q02)(e:Q0b):Q6v r e=bif !Q34 e then(r,false) else bif e.B7==1 then(r,false) else bif decide ((r.A9.length:Int)>=16) then(r,false) else({A0:=r.A0,A7:=r.A7,B3:=r.B3,A9:=r.A9++[e]},true):=by
 simp only[Q6v,Q9g,Tree.m,letv,Znf]
theorem vL{r:Q02}{n:Int}(h:(cX (Q9q n 3) 3==0)=true):Q86 r n=((Q6v r (Qfm n)).1,[]):=by
 show Tree.V (Q8l r n) (λx=>x=((Q6v r (Qfm n)).1,[]))
 unfold Q8l
 refine v_lv λx0 e0=>v_br (λ_=>v_an (v_lv λx1 e1=>v_an (v_lv λx2 e2=>v_lf ?_))) (λhb=> ?_)
 . rw[e2,e1]
 . rw[e0,h]at hb;cases hb
theorem qM{r:Q02}{n:Int}(h:(cX (Q9q n 3) 3==0)=false):Q86 r n=Qf4 r (Q3q (ishr .i64 (Q9q n 3) 4) 12) (wrap .u32 (iand .i64 (ishr .i64 (Q9q n 3) 12) 255)):=by
 show Tree.V (Q8l r n) (λx=>x=Qf4 r (Q3q (ishr .i64 (Q9q n 3) 4) 12) (wrap .u32 (iand .i64 (ishr .i64 (Q9q n 3) 12) 255)))
 unfold Q8l
 refine v_lv λx0 e0=>v_br (λhb=> ?_) (λ_=>v_an (v_lv λx1 e1=>v_an (v_lv λx2 e2=>v_lf ?_)))
 . rw[e0,h]at hb;cases hb
 . rw[e2,e1,e0]
def Qw6(s:Q02×List Q03)(n:Int):Q02×List Q03:=((Q86 s.1 n).1,s.2++(Q86 s.1 n).2)
theorem zan(m:Q00)(l:List Int)(hl:l.length<=1000000):Z5q m l=l.foldl Qw6 (Q47 m,[]):=by
 show Tree.V (Qde m l) (λx=>x=l.foldl Qw6 (Q47 m,[]))
 unfold Qde
 refine v_an (v_lv λx0 e0=> ?_)
 subst e0
 refine v_lp (inv:=λz:Int×Q02×List Q03=>0<=z.1/\z.1<=l.length/\(l.drop z.1.toNat).foldl Qw6 z.2=l.foldl Qw6 (Q47 m,[])) (μ:=Qkr m l) ⟨cR 0,by show(0:Int)<=_;omega,rfl⟩ (cK _) λz ⟨z0,z1,z2⟩=> ?_
 obtain⟨i,r,o⟩:=z
 have z0:0<=i:=z0
 have z1:i<=l.length:=z1
 refine v_br (λhb=>v_cn (v_an (v_lv λx1 e1=>v_cn (v_nx ?_)))) (λhb=>v_lf ?_)
 . have hb:i<l.length:=oY hb
   have ew:i64.wrap (i+1)=i+1:=by rw[wrap_i64];omega
   have hlt:i.toNat<l.length:=by omega
   show(0<=i64.wrap (i+1)/\i64.wrap (i+1)<=l.length/\(l.drop (i64.wrap (i+1)).toNat).foldl Qw6 (x1.1,o++x1.2)=_)/\(l.length-i64.wrap (i+1)).toNat<(l.length-i).toNat
   rw[ew]
   refine⟨⟨by omega,by omega,?_⟩,by omega⟩
   rw[<-z2]
   show _=(l.drop i.toNat).foldl Qw6 (r,o)
   rw[aB hlt,aD,show(i+1).toNat=i.toNat+1 by omega,e1]
   have ed:l.getD i.toNat 0=l[i.toNat]:=by rw[cL,cG hlt];rfl
   rw[show Qw6 (r,o) l[i.toNat]=((Q86 r l[i.toNat]).1,o++(Q86 r l[i.toNat]).2) from by unfold Qw6;rfl,<-ed]
 . have hb: ¬i<l.length:=oN hb
   show(r,o)=_
   rw[<-z2]
   show _=(l.drop i.toNat).foldl Qw6 (r,o)
   rw[aA (by omega)];rfl
theorem xk(s:Q02×List Q03)(n:Int):Qw6 s n=((Q86 s.1 n).1,s.2++(Q86 s.1 n).2):=by unfold Qw6;rfl
theorem zk(m:Q00):Q47 m={A0:=m,A7:=0,B3:=[],A9:=[]}:=by
 simp only[Q47,Q45,Tree.m,letv,Zgc]
theorem Zpz(w:Int):wrap .i64 (Q24 w).1.Imm=(Q24 w).1.Imm:=by
 show Tree.V (Q6z w) (λr=>wrap .i64 r.1.Imm=r.1.Imm)
 have e: ∀x,wrap .i64 (wrap .i32 x)=wrap .i32 x:=λx=>by rw[wrap_i64,wrap_i32];omega
 unfold Q6z
 refine v_lv λx0 _=> ?_
 have l: ∀i:Q0o,wrap .i64 i.Imm=i.Imm->Tree.V (Tree.lv (Q81 i) λx=> .br (!x) (.lf ((⟨0,0,0,0,0⟩:Q0o),false)) (.lf (i,true))) (λr=>wrap .i64 r.1.Imm=r.1.Imm):=λi hi=>v_lv λx hx=>v_br (λ_=>v_lf rfl) (λhb=>v_lf hi)
 exact v_br (λ_=>v_lf rfl) (λ_=>v_br (λ_=>l _ rfl) (λ_=>v_br (λ_=>l _ (e _)) (λ_=>v_br (λ_=>l _ (e _)) (λ_=>l _ (e _)))))
def ioP(e:Q16):Bool:=bif e.B7==1 then e.D1==2 else false
def readsC(c:Q05)(m:List Int):Bool:=
 bif iand .u32 c.B8.a0 1==0 then false else bif(Q1h m c.Pc 4).2 then bif(Q24 (Q1h m c.Pc 4).1).2 then bif(Q24 (Q1h m c.Pc 4).1).1.Op==60 then(Q24 (Q1h m c.Pc 4).1).1.Imm==2 else false else false else false
theorem yk(m:Q00):Qmv m=readsC (Q0n m) m.Mem:=rfl
theorem xaH(c:Q05)(i:Q0o):ioP (Ql4 c i).2=(bif i.Op==60 then wrap .i64 i.Imm==2 else false):=by
 show Tree.V (Q8n c i) (λr=>ioP r.2=_)
 have no: ∀{k:Int},i.Op=k->k≠60-> ∀e:Q16,e.B7≠1->ioP e=(bif i.Op==60 then wrap .i64 i.Imm==2 else false):=λh g e he=>by
   unfold ioP
   rw[h,show(_==(60:Int))=false from beq_false_of_ne g,show(e.B7==1)=false from beq_false_of_ne he];rfl
 have eq: ∀{k:Int},(i.Op==k)=true->i.Op=k:=λh=>eq_of_beq h
 unfold Q8n
 refine v_br (λh=>v_lv λ_ _=>v_lf (no (eq h) (by decide) _ (show(0:Int)≠1 by decide))) λ_=>v_br (λh=>v_lv λ_ _=>v_lf (no (eq h) (by decide) _ (show(0:Int)≠1 by decide))) λ_=>v_br (λh=>v_cn (v_an (v_lv λ_ _=>v_lf (no (eq h) (by decide) _ (show(0:Int)≠1 by decide))))) λ_=>v_br (λh=>v_cn (v_an (v_lv λ_ _=>v_lf (no (eq h) (by decide) _ (show(0:Int)≠1 by decide))))) λ_=>v_br (λh=>v_lf ?_) λh60=> ?_
 . show(bif(1:Int)==1 then wrap .i64 i.Imm==2 else false)=_
   rw[h];rfl
 . have n60:i.Op≠60:=λe=>by rw[e]at h60;cases h60
   refine v_br (λh=>v_cn (v_lf (no (eq h) (by decide) _ (by show(2:Int)≠1;decide)))) λ_=>v_br (λh=>v_lf (no (eq h) (by decide) _ (show(3:Int)≠1 by decide))) λ_=>v_br (λh=>v_lf (no (eq h) (by decide) _ (show(5:Int)≠1 by decide))) λ_=>v_br (λh=>v_lf (no (eq h) (by decide) _ (show(4:Int)≠1 by decide))) λ_=>v_lf (no rfl n60 _ (show(0:Int)≠1 by decide))
theorem vk(c:Q05)(m:List Int)(i:Q0o):ioP (Ql5 c m i).2.1=(bif i.Op==60 then wrap .i64 i.Imm==2 else false):=by
 unfold Ql5
 cases h:decide (i.Op>=56)
 . have h:=oN h
   rw[show(i.Op==60)=false from beq_false_of_ne (by omega)]
   cases decide (i.Op>=40)<;>cases decide (i.Op>=32)<;>cases i.Op==24<;>cases decide (i.Op<=13)<;>rfl
 . exact xaH c i
theorem xM{P:Nat}{m:List Int}(h:Q17 P m){c:Q05}(hc:Q2n c)(hst:c.B8.a0<=31):ioP (Q5f c m).2.1=readsC c m:=by
  rw[do_eq]
  unfold readsC
  cases hk:iand .u32 c.B8.a0 1==0
  . have hp:Qmu c=false:=by
      rw[Zbc hc.a0.1 hst,show Qb c=true from by show(iand .u32 c.B8.a0 1 !=0)=true;rw[bne,hk];rfl]
      rfl
    have wi:=Qj2 h hc.pc (size:=4) (.inr rfl)
    have kn:Qfk 1=true:=rfl
    have p0:=hc.pc.1
    have tm:cX c.Pc (wrap .u32 4)=c.Pc%4:=by
      rw[show wrap .u32 4=4 from rfl,eA p0]
    have rc:Q19 c m c.Pc 4 1=bif c.Pc%4 !=0 then(0,3,m) else bif !Q27 m c.Pc 4 then(0,Q26 1,m) else(c.Pc,0,m):=by
      simp only[Q19,Q8d,Tree.m,letv,kn,hp,tm]
      rfl
    rw[rc]
    cases h4:(c.Pc%4 !=0)
    . cases hw:Q27 m c.Pc 4
      . have l2:(Q1h m c.Pc 4).2=false:=by
          simp only[Q1h,Q43,Tree.m,letv,hw];rfl
        rw[l2]
        show ioP (doR c (0,Q26 1,m) _ _).2.1=false
        unfold doR
        rw[show((0,Q26 1,m):Int×Int×List Int).2.1=Q26 1 from rfl,show(Q26 1 !=0)=true by decide]
        rfl
      . have l2:(Q1h m c.Pc 4).2=true:=by
          simp only[Q1h,Q43,Tree.m,letv,hw];rfl
        rw[l2]
        show ioP (doR c (c.Pc,0,m) (Q1h m c.Pc 4).1 (Q24 (Q1h m c.Pc 4).1)).2.1=_
        have im:=Zpz (Q1h m c.Pc 4).1
        generalize Q1h m c.Pc 4=x at*
        generalize Q24 x.1=d at*
        unfold doR
        cases d.2
        . rfl
        . rw[hk]
          have:=vk c m d.1
          rw[im]at this
          cases Q3i d.1.Op<;>exact this
    . have hw:Q27 m c.Pc 4=false:=by
        rw[wi]
        refine dN λe=> ?_
        rw[e.1]at h4;cases h4
      have l2:(Q1h m c.Pc 4).2=false:=by
        simp only[Q1h,Q43,Tree.m,letv,hw];rfl
      rw[l2];rfl
  . have us : ∀x w d,ioP (doR c x w d).2.1=false:=λx w d=>by
      unfold doR
      cases x.2.1 !=0
      . cases d.2
        . rfl
        . cases hp:Q3i d.1.Op
          . have:=vk c x.2.2 d.1
            rw[show(d.1.Op==60)=false from beq_false_of_ne λe=>by rw[e]at hp;cases hp]at this
            exact this
          . rw[hk];rfl
      . rfl
    exact us _ _ _
theorem Zp7{m:Q00}(h:okV m):Q3n m=Q0g m:=by
 have rd:Q0g m=bif Q0z m then false else Qmv m:=rfl
 have pd:Q3n m=bif !Q2u m then false else ioP (Q8j (Q11 m).B2 (Q11 m).Mem).2.2:=rfl
 rw[rd,pd,Qwv h]
 cases hs:Q0z m
 . have hr:Q2u m=true:=by rw[Qwv h,hs];rfl
   obtain⟨hm,hh,hct⟩:=Z2k hr
   obtain⟨g1,g2,g3,g4,g5⟩:=(Qqi m).1 hm
   rcases(Qqz m.Mem h.mem).2 with c|⟨P,hP,hmem⟩
   . exact absurd c g1
   have okm:okS P m:=⟨h.cpu,hmem,h.disk,h.nic,h.bal.1,h.bal.2⟩
   obtain⟨b1,b2,b3,_⟩:=(Tree.pp (Z4z okm g2)).2
   change Q7p (Q11 m).B2 at b1
   change okS P (Q11 m) at b2
   have be:=Zbg h g2.st
   have b1':Q7p (Q0n m):=by have:=b1;rw[be]at this;exact this
   have b2':Q2n (Q0n m):=by have:=b2.cpu;rw[be]at this;exact this
   have ex:=Zil hmem b2' b1'.st
   rw[be,yk,<-xM hmem b2' b1'.st]
   show ioP (Q8j (Q0n m) m.Mem).2.2=_
   rw[ex];rfl
 . rfl
theorem xan{m:Q00}(h:U m.A1.C5):Q9 m:=by
 show(Q3e m).p
 unfold Tree.p Q3e
 refine w_br (λ_=>w_an ?_ (w_lv λ_ _=>trivial)) (λ_=>trivial)
 show(Q39 m).p
 unfold Tree.p Q39
 exact Q0c (Znn h) λ_ _=>trivial
theorem yM{P:Nat}{m:Q00}(h:okS P m):(Q2p m).w (λ_=>True):=by
 unfold Q2p
 exact Q0c (Zms h.given) λ_ _=>w_br (λ_=>trivial) (λ_=>Q0c (xU h) λx1 h1=>Q0c (yw h1.cpu h1.mem) λx2 _=>w_br (λ_=>trivial) (λ_=>trivial))
theorem Zq4{e:Q0b}(h:U e.N):Qge e=Q34 e:=by
 obtain⟨h0,h1⟩:=h
 have d: ∀b:Bool,(bif e.N==1 then(bif decide (e.D0=[]) then true else b) else(bif e.N==0 then decide (e.D0=[]) else false))=(bif decide (e.N<=1) then(bif decide (e.D0=[]) then true else(bif e.N==1 then b else false)) else false):=λb=>by
   rcases(by omega:e.N=0\/e.N=1\/2<=e.N) with k|k|k
   . rw[k];cases decide (e.D0=[])<;>rfl
   . rw[k];cases decide (e.D0=[])<;>rfl
   . rw[show(e.N==1)=false from beq_false_of_ne (by omega),show(e.N==0)=false from beq_false_of_ne (by omega),dN (show¬e.N<=1 by omega)];rfl
 simp only[Qge,Qhz,Q34,Qo8,Tree.m,d]
theorem ql(r:Q02):Qnw r=r:=rfl
theorem Zr5{r:Q02}(hm:r.A0.Mem.length<=1024)(hl:r.B3.length<=1000000)(hq:r.A9.length<=1000000):Qbc r:=by
 show(Q6f r).p
 unfold Tree.p Q6f
 exact w_an (by show r.A0.Mem.length<=35184372088832;omega) (w_lv λ_ _=>w_an (by show r.B3.length<=3518437208883;omega) (w_lv λ_ _=>w_an (by show r.A9.length<=3518437208883;omega) (w_lv λ_ _=>trivial)))
section
variable {P:Nat} {m:Q00} (h:good P m)
include h
theorem good.len:m.Mem.length<=1024:=by have:=h.ok.mem.len;have:=h.ok.mem.p2;omega
theorem good.app(e:Q0b):Q70 m e=((Q0s m e).2,(Q0s m e).1):=by
 rw[Zb2 h.v]
 simp only[Qne,Qlj,Tree.m,letv,Zgc,h.rmay];rfl
theorem good.step(hs:Q0z m=false)(clock:Int):Q3t m clock=((Q0r m clock).2,(Q0r m clock).1):=by
 rw[Zgw h.v,Zco,hs];rfl
theorem good.idle:Q4l m=Qev m:=Zi7 h.v
end
theorem Za(r:Q02)(e:Q0b):(Qbq r e).B3.length<=r.B3.length+1:=by
 unfold Qbq
 cases(Q0s r.A0 e).1
 . exact fC _
 . show(r.B3++[_]).length<=_
   rw[lA,cV];omega
theorem xl(r:Q02):(Qcx r).B3.length<=r.B3.length+1:=by
 unfold Qcx
 cases Qsc r.A0.B0 r.A7
 . exact fC _
 . exact Za _ _
theorem zl(r:Q02):(Zcf r).B3.length<=r.B3.length+1:=by
 unfold Zcf
 cases Q0g r.A0
 . exact fC _
 . show(r.B3++[_]).length<=_
   rw[lA,cV];omega
theorem Zrm{P:Nat}{m:Q00}(h:good P m):Q0z m=bif m.A6 then true else bif Q4l m then true else m.A2==1152921504606846976:=by
 have hc:=((Qqi m).1 h.may).2.2.1
 have e:decide (m.A2>=1152921504606846976)=(m.A2==1152921504606846976):=by
   by_cases g:m.A2=1152921504606846976
   . rw[g];rfl
   . rw[show(m.A2==1152921504606846976)=false from beq_false_of_ne g,dN (by omega)]
 rw[h.idle,<-e]
 simp only[Q0z,Q8e,Tree.m,letv,h.rmay];rfl
theorem yl{r:Q02}(hr:Q0g r.A0=true):Qve r={A0:=(Q0r r.A0 r.A7).2,A7:=wrap .u32 (r.A7+1),B3:=r.B3++[{At:=r.A0.A2,B6:={B7:=1,N:=r.A7,D0:=[]}}],A9:=r.A9}:=by
 unfold Qve Zcf;rw[hr];rfl
theorem qao{r:Q02}(hr:Q0g r.A0=false):Qve r={A0:=(Q0r r.A0 r.A7).2,A7:=wrap .u32 (r.A7+1),B3:=r.B3,A9:=r.A9}:=by
 unfold Qve Zcf;rw[hr];rfl
theorem vl(r:Q02):(Qve r).B3.length<=r.B3.length+1:=zl r
theorem Zqr{n:Nat}{r:Q02}{o:List Q03}(hs:Q0z (Qcx r).A0=true):recF (n+1) r o=(Qcx r,o):=by
 conv=>lhs;unfold recF
 rw[hs];rfl
theorem zao{n:Nat}{r:Q02}{o:List Q03}(hs:Q0z (Qcx r).A0=false):recF (n+1) r o=recF n (Qve (Qcx r)) (o++(Q0r (Qcx r).A0 (Qcx r).A7).1):=by
 conv=>lhs;unfold recF
 rw[hs];rfl
theorem vM{r:Q02}(h:Q25 r.A0=true)(steps clock:Int):advF r steps clock=recF (Q0i steps).toNat (noQ (r.A9.foldl Qbq {A0:=r.A0,A7:=if clock>r.A7 then clock else r.A7,B3:=r.B3,A9:=r.A9})) []:=by
 unfold advF;rw[h];rfl
theorem xao{n:Nat}{r:Q02}{o:List Q03}(hs:Q0z (Qcx r).A0=true):recF (n+1) r o=(Qcx r,o):=by
 conv=>lhs;unfold recF
 rw[hs];rfl
theorem qap{n:Nat}{r:Q02}{o:List Q03}(hs:Q0z (Qcx r).A0=false):recF (n+1) r o=recF n (Qve (Qcx r)) (o++(Q0r (Qcx r).A0 (Qcx r).A7).1):=by
 conv=>lhs;unfold recF
 rw[hs];rfl
theorem zap{r:Q02}(h:Q25 r.A0=true)(steps clock:Int):advF r steps clock=recF (Q0i steps).toNat (noQ (r.A9.foldl Qbq {A0:=r.A0,A7:=if clock>r.A7 then clock else r.A7,B3:=r.B3,A9:=r.A9})) []:=by
 unfold advF;rw[h];rfl
theorem Z0q(a:List Q0a)(ha:a.length<=1000000000000):(Q78 a a).w (λb=>b=true):=by
 unfold Q78
 refine w_br (λh=>by simp at h) (λ_=> ?_)
 refine w_lp (inv:=λv:Int=>0<=v/\v<=a.length) (μ:=Qfi a a) ⟨by omega,by omega⟩ (cK _) λv ⟨h1,h2⟩=> ?_
 refine w_br (λhb=> ?_) (λ_=>rfl)
 have hb:=oY hb
 have e:i64.wrap (v+1)=v+1:=by rw[wrap_i64];omega
 refine w_cn (by simp [bT];omega) (w_cn (by simp [bT];omega) (w_br (λh=>by simp [eqs,eq1]at h) (λ_=>w_nx ?_)))
 show(_/\_)/\(_:Nat)<_
 exact⟨⟨by rw[e];omega,by rw[e];omega⟩,by show(a.length-i64.wrap (v+1)).toNat<(a.length-v).toNat;rw[e];omega⟩
theorem qN(a:Q02)(hm:a.A0.Mem.length<=1000000000000)(hl:a.B3.length<=1000000000000)(hq:a.A9.length<=1000000000000):(Q5e a a).w (λb=>b=true):=by
 unfold Q5e
 refine Q0c (zj _ hm) λx0 h0=>w_br (λh=>by rw[h0]at h;cases h) λ_=>w_br (λh=>by simp at h) λ_=>Q0c (Z0q _ hl) λx1 h1=>w_br (λh=>by rw[h1]at h;cases h) λ_=>w_br (λh=>by simp at h) λ_=> ?_
 refine w_lp (inv:=λv:Int=>0<=v/\v<=a.A9.length) (μ:=Qdy a a) ⟨by omega,by omega⟩ (cK _) λv ⟨h1,h2⟩=> ?_
 refine w_br (λhb=> ?_) (λ_=>rfl)
 have hb:=oY hb
 have e:i64.wrap (v+1)=v+1:=by rw[wrap_i64];omega
 refine w_cn (by simp [bT];omega) (w_cn (by simp [bT];omega) (w_br (λh=>by simp [eqs,eq1]at h) (λ_=>w_nx ?_)))
 show(_/\_)/\(_:Nat)<_
 exact⟨⟨by rw[e];omega,by rw[e];omega⟩,by show(a.A9.length-i64.wrap (v+1)).toNat<(a.A9.length-v).toNat;rw[e];omega⟩
structure goodP(P:Nat)(k:Int)(r:Q02):Prop where
 g:goodR P k r
 q:okQ r.A9
 l:(r.B3.length:Int)<=3*k
theorem xN(n:Nat): ∀(r:Q02) (o:List Q03),(recF n r o).1.B3.length<=r.B3.length+2*n:=by
 induction n with
 |zero=>intro r o;exact aO _
 | succ n ih=>
   intro r o
   have f:=xl r
   cases hs:Q0z (Qcx r).A0
   . rw[qap hs]
     have:=ih (Qve (Qcx r)) (o++(Q0r (Qcx r).A0 (Qcx r).A7).1)
     have:=vl (Qcx r)
     omega
   . rw[xao hs]
     show(Qcx r).B3.length<=_
     omega
theorem qm(l:List Q0b): ∀r:Q02,(l.foldl Qbq r).B3.length<=r.B3.length+l.length:=by
 induction l with
 |nil=>intro r;exact aO _
 | cons e l ih=>
   intro r
   have:=ih (Qbq r e)
   have:=Za r e
   rw[aD,dD];omega
theorem zN(r:Q02)(steps clock:Int):(advF r steps clock).1.B3.length<=r.B3.length+r.A9.length+8000:=by
 obtain⟨l0,l1⟩:=Qn8 steps
 cases hm:Q25 r.A0
 . unfold advF;rw[hm]
   show r.B3.length<=_
   omega
 . rw[zap hm]
   have a:=xN (Q0i steps).toNat (noQ (r.A9.foldl Qbq {A0:=r.A0,A7:=if clock>r.A7 then clock else r.A7,B3:=r.B3,A9:=r.A9})) []
   have b:=qm r.A9 {A0:=r.A0,A7:=if clock>r.A7 then clock else r.A7,B3:=r.B3,A9:=r.A9}
   have b:(noQ (r.A9.foldl Qbq {A0:=r.A0,A7:=if clock>r.A7 then clock else r.A7,B3:=r.B3,A9:=r.A9})).B3.length<=r.B3.length+r.A9.length:=b
   omega
theorem goodP.more{P:Nat}{k j:Int}{r:Q02}(h:goodP P k r)(hj:k<=j):goodP P j r:=
 ⟨⟨h.g.m,h.g.clock,by have:=h.g.cnt;omega⟩,h.q,by have:=h.l;omega⟩
theorem qaI{α β:Type}(a:α)(b:β):(a,b).1=a:=rfl
theorem xm(s:Q02×List Q03)(n:Int):(Qw6 s n).1=(Q86 s.1 n).1:=(congrArg fD (xk s n)).trans (qaI _ _)
theorem yN{l acts:List Int}{x0:Bool}(hx0:x0=Qvv l acts)(hb:(!x0)=false):l.length<=40/\acts.length<=30:=zam hx0 hb
theorem zaI{m:Q00}(h:m.Mem.length<=1024):(Q9z m).w (λx=>x={A0:=m,A7:=0,B3:=[],A9:=[]}):=by
 unfold Q9z
 refine w_an (Zr5 (r:=⟨m,0,[],[]⟩) h (aT _) (aT _)) (w_lv λx hx=> ?_)
 show x=_
 rw[hx,ql]
def evOK(e:Q0b):Prop:=Q34 e=true/\e.B7≠1
structure logOK(c0:Int)(r:Q02):Prop where
 pw:r.B3.Pairwise λa b=>a.At<=b.At/\(a.B6.B7=1->a.At<b.At/\(b.B6.B7=1->a.B6.N<=b.B6.N))
 all: ∀e∈r.B3,c0<=e.At/\e.At<=r.A0.A2/\Q34 e.B6=true/\(e.B6.B7=1->e.At<r.A0.A2/\e.B6.N<r.A7/\0<=e.B6.N)
 q: ∀e∈r.A9,evOK e
 c:c0<=r.A0.A2
theorem logOK.with{c0:Int}{r x:Q02}(h:logOK c0 r)(hl:x.B3=r.B3)(hm:x.A0.A2=r.A0.A2)(hc:r.A7<=x.A7)(hq: ∀e∈x.A9,evOK e):logOK c0 x:=
 ⟨by rw[hl];exact h.pw,by
   rw[hl,hm]
   exact λe he=>⟨(h.all e he).1,(h.all e he).2.1,(h.all e he).2.2.1,λk=>⟨((h.all e he).2.2.2 k).1,by have:=((h.all e he).2.2.2 k).2.1;omega,((h.all e he).2.2.2 k).2.2⟩⟩,hq,by rw[hm];exact h.c⟩
structure logP(c0 k B:Int)(r:Q02):Prop where
 p:goodP 8 k r
 l:logOK c0 r
 b:r.A7<=B
inductive Qsj:Q00->List Q0a->List Q03->Q00->Prop
 |nil {m:Q00}:Qsj m [] [] m
 |ev {m n:Q00} {e:Q0b} {L:List Q0a} {o:List Q03}:(Q0s m e).1=true->e.B7≠1->U e.N->Qsj (Q0s m e).2 L o n->Qsj m ({At:=m.A2,B6:=e}::L) o n
 |rd {m n:Q00} {c:Int} {L:List Q0a} {o:List Q03}:Q0z m=false->Q0g m=true->U c->Qsj (Q0r m c).2 L o n->Qsj m ({At:=m.A2,B6:={B7:=1,N:=c,D0:=[]}}::L) ((Q0r m c).1++o) n
 |st {m n:Q00} {c:Int} {L:List Q0a} {o:List Q03}:Q0z m=false->Q0g m=false->U c->Qsj (Q0r m c).2 L o n->Qsj m L ((Q0r m c).1++o) n
theorem Qsj.trans{a b c:Q00}{L M:List Q0a}{o p:List Q03}(h:Qsj a L o b)(g:Qsj b M p c):Qsj a (L++M) (o++p) c:=by
 induction h with
 |nil=>exact g
 |ev h1 h2 h3 _ ih=>exact .ev h1 h2 h3 (ih g)
 |rd h1 h2 h3 _ ih=>rw[fE];exact .rd h1 h2 h3 (ih g)
 |st h1 h2 h3 _ ih=>rw[fE];exact .st h1 h2 h3 (ih g)
theorem Qsj.good{P:Nat}{a b:Q00}{L:List Q0a}{o:List Q03}(h:Qsj a L o b):good P a->good P b/\a.A2<=b.A2/\ ∀e∈L,a.A2<=e.At:=by
 induction h with
 |nil=>exact λg=>⟨g,cR _,λe he=>by cases he⟩
 | ev h1 h2 h3 _ ih=>
   intro g
   obtain⟨g1,c1⟩:=Qnz g h3
   obtain⟨p,q,r⟩:=ih g1
   rw[c1]at q r
   exact⟨p,q,λe he=>(List.mem_cons.1 he).elim (λh=>by rw[h];exact cR _) (λh=>r e h)⟩
 | rd h1 h2 h3 _ ih=>
   intro g
   obtain⟨g1,c1,_⟩:=Zcq g h1 h3
   obtain⟨p,q,r⟩:=ih g1
   rw[c1]at q r
   exact⟨p,by omega,λe he=>(List.mem_cons.1 he).elim (λh=>by rw[h];exact cR _) (λh=>by have:=r e h;omega)⟩
 | st h1 h2 h3 _ ih=>
   intro g
   obtain⟨g1,c1,_⟩:=Zcq g h1 h3
   obtain⟨p,q,r⟩:=ih g1
   rw[c1]at q r
   exact⟨p,by omega,λe he=>by have:=r e he;omega⟩
def Zbj(r x:Q02)(o:List Q03):Prop:= ∃L,x.B3=r.B3++L/\Qsj r.A0 L o x.A0
theorem Zbj.rfl{r:Q02}:Zbj r r []:=⟨[],(List.append_nil _).symm, .nil⟩
theorem Zbj.trans{a b c:Q02}{o p:List Q03}(h:Zbj a b o)(g:Zbj b c p):Zbj a c (o++p):=by
 obtain⟨L,l1,l2⟩:=h
 obtain⟨M,m1,m2⟩:=g
 exact⟨L++M,by rw[m1,l1,fE],l2.trans m2⟩
def arm(r:Q02):Nat:=if r.A0.B0.D4 then 1 else 0
def cntR(r:Q02):Nat:=r.B3.length+arm r+r.A9.length
def dueF:List Q0a->Q00->Q00×List Q0a
 |[],m=>(m,[])
 |e::l,m=>bif decide (e.At<=m.A2) then(bif e.B6.B7 !=1 then dueF l (Q0s m e.B6).2 else(m,e::l)) else(m,e::l)
def setF(p:Q01):Q01:={A0:=(dueF p.B3 p.A0).1,B3:=(dueF p.B3 p.A0).2,B5:=p.B5,A7:=p.A7}
def Qt9(p:Q01):Int:=match p.B3 with|[]=>0|e::_=>e.B6.N
def Qo7(p:Q01):Bool:=match p.B3 with
 |[]=>!Q0g p.A0
 |e::_=>bif Q0g p.A0 then(bif e.B6.B7==1 then e.At==p.A0.A2 else false) else !(bif e.B6.B7==1 then decide (e.At<=p.A0.A2) else false)
def Qar(p:Q01):Int×List Q0a×Int:=bif Q0g p.A0 then(Qt9 p,p.B3.drop 1,wrap .u32 (Qt9 p+1)) else(0,p.B3,p.A7)
def goF(p:Q01):Q01:={A0:=(Q0r p.A0 (Qar p).1).2,B3:=(Qar p).2.1,B5:=p.B5,A7:=(Qar p).2.2}
def outF(p:Q01):List Q03:=(Q0r p.A0 (Qar p).1).1
def folF:Nat->Q01->List Q03->Q01×List Q03
 |0,p,o=>(p,o)
 |n+1,p,o=>bif decide (p.A0.A2>=p.B5) then(p,o) else bif Q0z (setF p).A0 then(setF p,o) else bif Qo7 (setF p) then folF n (goF (setF p)) (o++outF (setF p)) else(setF p,o)
def folP(p:Q01)(steps:Int):Q01×List Q03:=bif Q25 p.A0 then folF (Q0i steps).toNat p [] else(p,[])
structure Qm8(P:Nat)(k:Int)(p:Q01):Prop where
 m:good P p.A0
 cnt:p.A0.A2<=k
 clock:U p.A7
 log:p.B3.length<=900000
 u: ∀e∈p.B3,U e.B6.N
theorem Zlf{e:Q0a}{l:List Q0a}{m:Q00}(h1:e.At<=m.A2)(h2:(e.B6.B7 !=1)=true):dueF (e::l) m=dueF l (Q0s m e.B6).2:=by
 conv=>lhs;unfold dueF
 rw[dY h1,h2];rfl
theorem Z5x{e:Q0a}{l:List Q0a}{m:Q00}(h1: ¬e.At<=m.A2):dueF (e::l) m=(m,e::l):=by
 conv=>lhs;unfold dueF
 rw[dN h1];rfl
theorem Qy0{e:Q0a}{l:List Q0a}{m:Q00}(h2:(e.B6.B7 !=1)=false):dueF (e::l) m=(m,e::l):=by
 conv=>lhs;unfold dueF
 rw[h2];cases decide (e.At<=m.A2)<;>rfl
theorem Zhg{P:Nat}: ∀{l:List Q0a} {m:Q00},good P m->(∀e∈l,U e.B6.N)->good P (dueF l m).1/\(dueF l m).1.A2=m.A2/\(dueF l m).2<:+l
  |[],m,h,_=>⟨h,rfl,bW _⟩
  | e ::l,m,h,hu=>by
    by_cases h1:e.At<=m.A2
    . cases h2:e.B6.B7 !=1
      . rw[Qy0 h2];exact⟨h,rfl,bW _⟩
      . rw[Zlf h1 h2]
        obtain⟨a,b⟩:=Qnz h (hu e (by simp))
        obtain⟨c,d,s⟩:=Zhg (l:=l) a (λq hq=>hu q (by simp [hq]))
        exact⟨c,d.trans b,s.trans (List.suffix_cons e l)⟩
    . rw[Z5x h1];exact⟨h,rfl,bW _⟩
theorem Qx9{P:Nat}{k:Int}{p:Q01}(h:Qm8 P k p):Qm8 P k (setF p)/\(setF p).A0.A2=p.A0.A2/\(setF p).B3<:+p.B3:=by
 obtain⟨a,b,s⟩:=Zhg h.m h.u
 have hc:=h.cnt
 have hl:=h.log
 have sl:=s.length_le
 exact⟨⟨a,by show(dueF p.B3 p.A0).1.A2<=k;omega,h.clock,by show(dueF p.B3 p.A0).2.length<=_;omega,λe he=>h.u e (s.subset he)⟩,b,s⟩
theorem vN{P:Nat}{k:Int}{p:Q01}(h:Qm8 P k p):U (Qt9 p):=by
 unfold Qt9
 split
 . exact U_0
 . rename_i e l he;exact h.u e (by rw[he];simp)
theorem Zm1{P:Nat}{k:Int}{p:Q01}(h:Qm8 P k p):U (Qar p).1/\U (Qar p).2.2/\(Qar p).2.1<:+p.B3:=by
 unfold Qar
 cases Q0g p.A0
 . exact⟨U_0,h.clock,bW _⟩
 . exact⟨vN h,Q0u _,List.drop_suffix _ _⟩
theorem Z28{P:Nat}{k:Int}{p:Q01}(h:Qm8 P k p)(hs:Q0z p.A0=false):Qm8 P (k+1) (goF p)/\(goF p).A0.A2=p.A0.A2+1/\(outF p).length<=1:=by
 obtain⟨t1,t2,t3⟩:=Zm1 h
 obtain⟨a,b,c⟩:=Zcq h.m hs t1
 have hc:=h.cnt
 have hl:=h.log
 have sl:=t3.length_le
 exact⟨⟨a,by show(Q0r p.A0 (Qar p).1).2.A2<=k+1;omega,t2,by show(Qar p).2.1.length<=_;omega,λe he=>h.u e (t3.subset he)⟩,b,c⟩
theorem Qvu{n:Nat}{p:Q01}{o:List Q03}(h:p.B5<=p.A0.A2):folF n p o=(p,o):=by
 cases n with
 |zero=>rfl
 | succ n=>
   conv=>lhs;unfold folF
   rw[dY (show p.A0.A2>=p.B5 from h)];rfl
theorem Qro{n:Nat}{p:Q01}{o:List Q03}(h: ¬p.B5<=p.A0.A2)(hs:Q0z (setF p).A0=true):folF (n+1) p o=(setF p,o):=by
 conv=>lhs;unfold folF
 rw[dN (show¬p.A0.A2>=p.B5 from h),hs];rfl
theorem Qv{n:Nat}{p:Q01}{o:List Q03}(h: ¬p.B5<=p.A0.A2)(hs:Q0z (setF p).A0=false)(hp:Qo7 (setF p)=false):folF (n+1) p o=(setF p,o):=by
 conv=>lhs;unfold folF
 rw[dN (show¬p.A0.A2>=p.B5 from h),hs,hp];rfl
theorem Zdr{n:Nat}{p:Q01}{o:List Q03}(h: ¬p.B5<=p.A0.A2)(hs:Q0z (setF p).A0=false)(hp:Qo7 (setF p)=true):folF (n+1) p o=folF n (goF (setF p)) (o++outF (setF p)):=by
 conv=>lhs;unfold folF
 rw[dN (show¬p.A0.A2>=p.B5 from h),hs,hp];rfl
theorem Zld{p:Q01}(h:Q25 p.A0=true)(steps:Int):folP p steps=folF (Q0i steps).toNat p []:=by
 unfold folP;rw[h];rfl
theorem Zg5{P:Nat}: ∀(n:Nat) {k:Int} {p:Q01} (o:List Q03),Qm8 P k p->Qm8 P (k+n) (folF n p o).1/\(folF n p o).2.length<=o.length+n
  |0,k,p,o,h=>⟨⟨h.m,by have:=h.cnt;show p.A0.A2<=k+(0:Nat);omega,h.clock,h.log,h.u⟩,aO _⟩
  | n + 1,k,p,o,h=>by
    obtain⟨g,gc,_⟩:=Qx9 h
    have up: ∀{q:Q01},Qm8 P k q->Qm8 P (k+(n+1:Nat)) q:=λh=>⟨h.m,by have:=h.cnt;omega,h.clock,h.log,h.u⟩
    by_cases hk:p.B5<=p.A0.A2
    . rw[Qvu hk];exact⟨up h,by show o.length<=_;omega⟩
    . cases hs:Q0z (setF p).A0
      . cases hp:Qo7 (setF p)
        . rw[Qv hk hs hp];exact⟨up g,by show o.length<=_;omega⟩
        . rw[Zdr hk hs hp]
          obtain⟨a,_,c⟩:=Z28 g hs
          obtain⟨x,y⟩:=Zg5 n (o++outF (setF p)) a
          rw[lA]at y
          exact⟨⟨x.m,by have:=x.cnt;omega,x.clock,x.log,x.u⟩,by omega⟩
      . rw[Qro hk hs];exact⟨up g,by show o.length<=_;omega⟩
theorem xap{P:Nat}{p:Q01}(h:good P p.A0){e:Q0b}(he:U e.N):(Q4s e p).w (λx=>x=(true,{A0:=(Q0s p.A0 e).2,B3:=p.B3,B5:=p.B5,A7:=p.A7})):=by
 unfold Q4s
 refine w_an (Zb1 h.v h.len he) (w_lv λx0 e0=> ?_)
 rw[h.app]at e0
 show(_,_)=_
 rw[e0]
theorem xaI{P:Nat}{p:Q01}(h:good P p.A0)(hu: ∀e∈p.B3,U e.B6.N):(Q7g p p.A0.A2).w (λx=>x.1=setF p):=by
  unfold Q7g
  refine w_lp (inv:=λv:Q01=>good P v.A0/\v.A0.A2=p.A0.A2/\(∀e∈v.B3,U e.B6.N)/\setF v=setF p) (μ:=Qlw p p.A0.A2) ⟨h,rfl,hu,rfl⟩ (cK _) λv ⟨a1,a2,a3,a4⟩=> ?_
  obtain⟨m,l,kn,ck⟩:=v
  cases l with
  | nil=>
    refine w_br (λhb=>absurd (oY hb) (by show¬((0:Nat):Int)>0;decide)) (λ_=> ?_)
    show _=_
    rw[<-a4];rfl
  | cons e l=>
    have cn:(bS 4 4&&bT 0 4&&decide ((0:Int)<=0/\(0:Int)<(((e::l).length:Nat):Int)))=true:=by
      rw[dY (show(0:Int)<=0/\(0:Int)<(((e::l).length:Nat):Int) by rw[dD];omega)];rfl
    have tk:cY ((((e::l).length:Nat):Int).toNat-cZ 1) (dA (cZ 1) (e::l))=l:=by simp
    have cs:(bS 4 4&&bT 0 4&&decide ((0:Int)<=1/\(1:Int)<=(((e::l).length:Nat):Int)/\(((e::l).length:Nat):Int)<=(((e::l).length:Nat):Int)))=true:=by
      rw[dY (show(0:Int)<=1/\(1:Int)<=(((e::l).length:Nat):Int)/\(((e::l).length:Nat):Int)<=(((e::l).length:Nat):Int) by rw[dD];omega)];rfl
    have hc:m.A2=p.A0.A2:=a2
    have stay:dueF (e::l) m=(m,e::l)->(⟨m,e::l,kn,ck⟩:Q01)=setF p:=λhd=>by
      rw[<-a4]
      show _=(⟨(dueF (e::l) m).1,(dueF (e::l) m).2,kn,ck⟩:Q01)
      rw[hd]
    refine w_br (λ_=>w_cn cn (w_br (λh1=>w_cn cn (w_br (λh2=>w_cn cn (w_cn cs ?_)) (λh2=> ?_))) (λh1=> ?_))) (λhb=>absurd (oN hb) (by show¬ ¬(((e::l).length:Nat):Int)>0;rw[dD];omega))
    . have h1:e.At<=p.A0.A2:=oY h1
      have h2:(e.B6.B7 !=1)=true:=h2
      have he:=a3 e (by simp)
      obtain⟨k1,k2⟩:=Qnz a1 he
      refine Q0c (xap (p:=⟨m,cY ((((e::l).length:Nat):Int).toNat-cZ 1) (dA (cZ 1) (e::l)),kn,ck⟩) a1 he) λx0 e0=> ?_
      have e0:x0=(true,⟨(Q0s m e.B6).2,l,kn,ck⟩):=by
        rw[e0]
        show(true,(⟨(Q0s m e.B6).2,cY ((((e::l).length:Nat):Int).toNat-cZ 1) (dA (cZ 1) (e::l)),kn,ck⟩:Q01))=_
        rw[tk]
      rw[e0]
      refine w_br (λh=>by cases h) (λ_=>w_nx ⟨⟨k1,k2.trans a2,λq hq=>a3 q (by simp [hq]),?_⟩,?_⟩)
      . rw[<-a4]
        show(⟨(dueF l (Q0s m e.B6).2).1,(dueF l (Q0s m e.B6).2).2,kn,ck⟩:Q01)=⟨(dueF (e::l) m).1,(dueF (e::l) m).2,kn,ck⟩
        rw[Zlf (by omega) h2]
      . show l.length<(e::l).length
        rw[dD];omega
    . exact stay (Qy0 h2)
    . exact stay (Z5x (by have:=oN h1;rw[hc];exact this))
theorem qaJ{P:Nat}{p:Q01}(h:good P p.A0):(Q7d p).w (λx=>x.2.1=Q0g p.A0/\x.2.2=Qo7 p/\(Qo7 p=true->x.1=(Qar p).1)):=by
  have rp:Q2v p.A0:=(Tree.pp (yM h.s)).1
  have rs:=Zp7 h.v
  unfold Q7d
  obtain⟨m,l,kn,ck⟩:=p
  have rs:Q3n m=Q0g m:=rs
  cases l with
  | nil =>
    refine w_br (λhb=>absurd (oY hb) (by show¬((0:Nat):Int)>0;decide)) (λ_=>w_an rp (w_lv λx e=> ?_))
    have e:x=Q0g m:=e.trans rs
    refine w_br (λhb=> ?_) (λhb=> ?_)
    . have hb:Q0g m=false:=by rw[e]at hb;simpa using hb
      refine⟨hb.symm,?_,λ_=> ?_⟩
      . show true=!Q0g m;rw[hb];rfl
      . show(0:Int)=_;unfold Qar;rw[show Q0g (Q01.A0 ⟨m,[],kn,ck⟩)=false from hb];rfl
    . have hb:Q0g m=true:=by rw[e]at hb;simpa using hb
      refine⟨hb.symm,?_,λq=> ?_⟩
      . show false=!Q0g m;rw[hb];rfl
      . have q:(!Q0g m)=true:=q
        rw[hb]at q;cases q
  | cons e l=>
    have cn:(bS 4 4&&bT 0 4&&decide ((0:Int)<=0/\(0:Int)<(((e::l).length:Nat):Int)))=true:=by
      rw[dY (show(0:Int)<=0/\(0:Int)<(((e::l).length:Nat):Int) by rw[dD];omega)];rfl
    have pd:Qo7 ⟨m,e::l,kn,ck⟩=bif Q0g m then(bif e.B6.B7==1 then e.At==m.A2 else false) else !(bif e.B6.B7==1 then decide (e.At<=m.A2) else false):=rfl
    have t0:Q0g m=false->(Qar ⟨m,e::l,kn,ck⟩).1=0:=λhb=>by unfold Qar;rw[show Q0g (Q01.A0 ⟨m,e::l,kn,ck⟩)=false from hb];rfl
    have t1:Q0g m=true->(Qar ⟨m,e::l,kn,ck⟩).1=e.B6.N:=λhb=>by unfold Qar;rw[show Q0g (Q01.A0 ⟨m,e::l,kn,ck⟩)=true from hb];rfl
    rw[pd]
    refine w_br (λ_=>w_cn cn (w_br (λhk=>w_an rp (w_lv λx ex=> ?_)) (λhk=>w_an rp (w_lv λx ex=> ?_)))) (λhb=>absurd (oN hb) (by show¬ ¬(((e::l).length:Nat):Int)>0;rw[dD];omega))
    . have ex:x=Q0g m:=ex.trans rs
      have hk:(e.B6.B7==1)=true:=hk
      rw[hk]
      refine w_br (λhb=> ?_) (λhb=>w_br (λh1=> ?_) (λh1=> ?_))
      . have hb:Q0g m=false:=by rw[ex]at hb;simpa using hb
        rw[hb]
        exact⟨rfl,rfl,λ_=>(t0 hb).symm⟩
      . have hb:Q0g m=true:=by rw[ex]at hb;simpa using hb
        rw[hb]
        exact⟨rfl,rfl,λ_=>(t1 hb).symm⟩
      . have hb:Q0g m=true:=by rw[ex]at hb;simpa using hb
        have h1: ¬e.At<=m.A2:=oN h1
        have e0:(e.At==m.A2)=false:=beq_false_of_ne (by omega)
        rw[hb,e0]
        exact⟨rfl,rfl,λq=>by cases q⟩
    . have ex:x=Q0g m:=ex.trans rs
      have hk:(e.B6.B7==1)=false:=hk
      rw[hk]
      refine w_br (λhb=> ?_) (λhb=> ?_)
      . have hb:Q0g m=false:=by rw[ex]at hb;simpa using hb
        rw[hb]
        exact⟨rfl,rfl,λ_=>(t0 hb).symm⟩
      . have hb:Q0g m=true:=by rw[ex]at hb;simpa using hb
        rw[hb]
        exact⟨rfl,rfl,λq=>by cases q⟩
theorem Quz{p:Q01}(hm:p.A0.Mem.length<=1024)(hl:p.B3.length<=1000000):(Q6b p).w (λx=>x=p):=by
 unfold Q6b
 exact w_an (by show p.A0.Mem.length<=35184372088832;omega) (w_lv λx0 e0=>w_an (by show p.B3.length<=3518437208883;omega) (w_lv λx1 e1=>by rw[e0,e1];rfl))
theorem qaq{P:Nat}{k:Int}{p:Q01}(h:Qm8 P k p)(steps:Int):(Q3 p steps).w (λx=>x=folP p steps):=by
  obtain⟨lim0,lim1⟩:=Qn8 steps
  have lim:(if 4000<(if 0>steps then 0 else steps) then 4000 else(if 0>steps then 0 else steps))=Q0i steps:=rfl
  unfold Q3
  refine Q0c (Quz h.m.len (by have:=h.log;omega)) λx0 e0=> ?_
  subst e0
  refine w_an (Tree.pp (Zak h.m.ok.target.2)).1 (w_lv λx1 e1=>w_br (λhb=>by rw[e1,h.m.may]at hb;cases hb) λhb=> ?_)
  rw[Zld h.m.rmay]
  refine w_lp (inv:=λy:Int×Q01×List Q03=>0<=y.1/\y.1<=Q0i steps/\Qm8 P (k+y.1) y.2.1/\(y.2.2.length:Int)<=y.1/\folF (Q0i steps-y.1).toNat y.2.1 y.2.2=folF (Q0i steps).toNat x0 []) (μ:=Q7r x0 steps) ⟨cR 0,lim0,⟨h.m,by have:=h.cnt;show x0.A0.A2<=k+0;omega,h.clock,h.log,h.u⟩,cR 0,by show folF (Q0i steps-0).toNat x0 []=_;rw[fB]⟩ (cK _) λy ⟨y0,y1,y2,y4,y5⟩=> ?_
  obtain⟨yi,yp,yo⟩:=y
  have y0:0<=yi:=y0
  have y1:yi<=Q0i steps:=y1
  have y2:Qm8 P (k+yi) yp:=y2
  have y4:(yo.length:Int)<=yi:=y4
  have y5:folF (Q0i steps-yi).toNat yp yo=folF (Q0i steps).toNat x0 []:=y5
  rw[<-y5]
  refine w_br (λhb=> ?_) (λhb=> ?_)
  . have hb : yi<Q0i steps:=oY hb
    have ew:i64.wrap (yi+1)=yi+1:=by rw[wrap_i64];omega
    have en:(Q0i steps-yi).toNat=(Q0i steps-(yi+1)).toNat+1:=by omega
    obtain⟨g,gc,_⟩:=Qx9 y2
    rw[en]at y5⊢
    refine w_br (λhk=> ?_) (λhk=>w_lv λ_ _=>Q0c (xaI y2.m y2.u) λx3 e3=> ?_)
    . have hk:=oY hk
      show(yp,yo)=_
      rw[Qvu hk]
    . have hk : ¬yp.B5<=yp.A0.A2:=oN hk
      obtain⟨x3,c3⟩:=x3
      have e3:x3=setF yp:=e3
      subst e3
      have sg:=Zrm g.m
      have stk:Q0z (setF yp).A0=true->(setF yp,yo)=folF ((Q0i steps-(yi+1)).toNat+1) yp yo:=λhs=>(Qro hk hs).symm
      refine w_br (λhh=>stk (by rw[sg];have hh:(setF yp).A0.A6=true:=hh;rw[hh];rfl)) λhh=>w_an (xan g.m.ok.target.2) (w_lv λx4 e4=>w_br (λhi=>stk ?_) λhi=>w_br (λhm=>stk ?_) λhm=>Q0c (qaJ g.m) λx5 ⟨c1,c2,c3⟩=> ?_)
      . have hh:(setF yp).A0.A6=false:=hh
        have e4:x4=Q4l (setF yp).A0:=e4
        rw[sg,hh,<-e4,hi];rfl
      . have hh:(setF yp).A0.A6=false:=hh
        have e4:x4=Q4l (setF yp).A0:=e4
        rw[sg,hh,<-e4,hi];exact hm
      have hs:Q0z (setF yp).A0=false:=by
        have hh:(setF yp).A0.A6=false:=hh
        have e4:x4=Q4l (setF yp).A0:=e4
        rw[sg,hh,<-e4,hi];exact hm
      refine w_br (λhp=> ?_) (λhp=> ?_)
      . have hp:Qo7 (setF yp)=false:=by rw[c2]at hp;simpa using hp
        show(setF yp,yo)=_
        exact(Qv hk hs hp).symm
      . have hp:Qo7 (setF yp)=true:=by rw[c2]at hp;simpa using hp
        have c3:=c3 hp
        obtain⟨t1,t2,t3⟩:=Zm1 g
        obtain⟨k1,k2,k3⟩:=Z28 g hs
        have sp:Q6o (setF yp).A0 x5.1:=by rw[c3];exact(xj g.m.v g.m.len (clock:=(Qar (setF yp)).1) t1).1
        have ms:Q3t (setF yp).A0 x5.1=((goF (setF yp)).A0,outF (setF yp)):=by rw[c3];exact g.m.step hs (Qar (setF yp)).1
        have mu: ∀q,Q7r x0 steps (wrap .i64 (yi+1),q)<Q7r x0 steps (yi,yp,yo):=λq=>by
          show(4000-wrap .i64 (yi+1)).toNat<(4000-yi).toNat
          rw[ew];omega
        have nx: ∀(x:Q01) (o:List Q03),x=goF (setF yp)->o=yo++outF (setF yp)->(0<=wrap .i64 (yi+1)/\wrap .i64 (yi+1)<=Q0i steps/\Qm8 P (k+wrap .i64 (yi+1)) x/\(o.length:Int)<=wrap .i64 (yi+1)/\folF (Q0i steps-wrap .i64 (yi+1)).toNat x o=folF ((Q0i steps-(yi+1)).toNat+1) yp yo):=λx o hx ho=>by
          rw[ew,hx,ho]
          refine⟨by omega,by omega,⟨k1.m,by have:=k1.cnt;omega,k1.clock,k1.log,k1.u⟩,by rw[lA];omega,?_⟩
          rw[Zdr hk hs hp]
        have cl: ∀o:List Q03,o=outF (setF yp)->decide (40*(yo.length+o.length)<=140737488355328)=true:=λo ho=>dY (by rw[ho];omega)
        refine w_br (λhr=> ?_) (λhr=> ?_)
        . have hr:Q0g (setF yp).A0=true:=by rw[c1]at hr;exact hr
          have tf:Qar (setF yp)=(Qt9 (setF yp),(setF yp).B3.drop 1,wrap .u32 (Qt9 (setF yp)+1)):=by unfold Qar;rw[hr];rfl
          have ne:1<=(setF yp).B3.length:=by
            cases hl:(setF yp).B3 with
            | nil=>
              have:Qo7 (setF yp)=!Q0g (setF yp).A0:=by unfold Qo7;rw[hl]
              rw[this,hr]at hp;cases hp
            |cons e l=>rw[dD];omega
          have tk:cY ((((setF yp).B3.length:Nat):Int).toNat-cZ 1) (dA (cZ 1) (setF yp).B3)=(setF yp).B3.drop 1:=eV (by rw[bF];exact dG (by simp))
          have cs:(bS 4 4&&bT 0 4&&decide ((0:Int)<=1/\(1:Int)<=(((setF yp).B3.length:Nat):Int)/\(((setF yp).B3.length:Nat):Int)<=(((setF yp).B3.length:Nat):Int)))=true:=by
            rw[dY (show(0:Int)<=1/\(1:Int)<=(((setF yp).B3.length:Nat):Int)/\(((setF yp).B3.length:Nat):Int)<=(((setF yp).B3.length:Nat):Int) by omega)];rfl
          refine w_cn cs (w_an sp (w_lv λx6 e6=> ?_))
          have e6:=e6.trans ms
          refine w_cn (cl _ (congrArg fF e6)) (w_nx ⟨nx {A0:=x6.1,B3:=cY ((((setF yp).B3.length:Nat):Int).toNat-cZ 1) (dA (cZ 1) (setF yp).B3),B5:=(setF yp).B5,A7:=u32.wrap (x5.1+1)} (yo++x6.2) ?_ (congrArg (yo++ ·) (congrArg fF e6)),mu ({A0:=x6.1,B3:=cY ((((setF yp).B3.length:Nat):Int).toNat-cZ 1) (dA (cZ 1) (setF yp).B3),B5:=(setF yp).B5,A7:=u32.wrap (x5.1+1)},yo++x6.2)⟩)
          have gk:goF (setF yp)={A0:=(goF (setF yp)).A0,B3:=(setF yp).B3.drop 1,B5:=(setF yp).B5,A7:=wrap .u32 (Qt9 (setF yp)+1)}:=by
            show(⟨(goF (setF yp)).A0,(Qar (setF yp)).2.1,(setF yp).B5,(Qar (setF yp)).2.2⟩:Q01)=_
            rw[tf]
          have c4:x5.1=Qt9 (setF yp):=by rw[c3,tf]
          rw[gk,e6,c4]
          show(⟨_,cY ((((setF yp).B3.length:Nat):Int).toNat-cZ 1) (dA (cZ 1) (setF yp).B3),_,_⟩:Q01)=_
          rw[tk]
        . have hr:Q0g (setF yp).A0=false:=by rw[c1]at hr;exact hr
          have tf:Qar (setF yp)=(0,(setF yp).B3,(setF yp).A7):=by unfold Qar;rw[hr];rfl
          refine w_an sp (w_lv λx6 e6=> ?_)
          have e6:=e6.trans ms
          refine w_cn (cl _ (congrArg fF e6)) (w_nx ⟨nx {A0:=x6.1,B3:=(setF yp).B3,B5:=(setF yp).B5,A7:=(setF yp).A7} (yo++x6.2) ?_ (congrArg (yo++ ·) (congrArg fF e6)),mu ({A0:=x6.1,B3:=(setF yp).B3,B5:=(setF yp).B5,A7:=(setF yp).A7},yo++x6.2)⟩)
          have gk:goF (setF yp)={A0:=(goF (setF yp)).A0,B3:=(setF yp).B3,B5:=(setF yp).B5,A7:=(setF yp).A7}:=by
            show(⟨(goF (setF yp)).A0,(Qar (setF yp)).2.1,(setF yp).B5,(Qar (setF yp)).2.2⟩:Q01)=_
            rw[tf]
          rw[gk,e6]
  . have hb: ¬yi<Q0i steps:=oN hb
    show(yp,yo)=_
    rw[show(Q0i steps-yi).toNat=0 by omega]
    rfl
theorem qO{a b:List Q0a}(ha:a.length<=1000000)(hb:b.length<=1000000):(Q15 [a,b]).w (λx=>x=a++b):=by
  have w1:wrap .i64 (0+((a.length:Nat):Int))=a.length:=by rw[wrap_i64];omega
  have w2:wrap .i64 (((a.length:Nat):Int)+((b.length:Nat):Int))=a.length+b.length:=by rw[wrap_i64];omega
  unfold Q15
  refine w_lp (inv:=λv:Int×Int=>v=(0,0)\/v=((a.length:Int),1)\/v=((a.length:Int)+b.length,2)) (μ:=Q4j [a,b]) (.inl rfl) (cK _) λv hv=> ?_
  rcases hv with rfl|rfl|rfl
  . refine w_br (λ_=>w_cn rfl (w_fl (dN ?_) (w_nx ⟨.inr (.inl ?_),?_⟩))) (λh=>absurd (oN h) (by show¬ ¬(0:Int)<2;decide))
    . show¬wrap .i64 (0+((a.length:Nat):Int))<0
      rw[w1];omega
    . show(wrap .i64 (0+((a.length:Nat):Int)),wrap .i64 (0+1))=_
      rw[w1];rfl
    . show(2-wrap .i64 (0+1)).toNat<(2-(0:Int)).toNat
      decide
  . refine w_br (λ_=>w_cn rfl (w_fl (dN ?_) (w_nx ⟨.inr (.inr ?_),?_⟩))) (λh=>absurd (oN h) (by show¬ ¬(1:Int)<2;decide))
    . show¬wrap .i64 (((a.length:Nat):Int)+((b.length:Nat):Int))<0
      rw[w2];omega
    . show(wrap .i64 (((a.length:Nat):Int)+((b.length:Nat):Int)),wrap .i64 (1+1))=_
      rw[w2];rfl
    . show(2-wrap .i64 (1+1)).toNat<(2-(1:Int)).toNat
      decide
  . refine w_br (λh=>absurd (oY h) (by show¬(2:Int)<2;decide)) (λ_=>w_an ⟨by show 0<=(a.length:Int)+b.length;omega,by show(a.length:Int)+b.length<=1000000000000;omega⟩ (w_lv λx0 e0=> ?_))
    have e0:x0=[]:=e0
    refine w_lp (inv:=λv:Int×List Q0a=>v=(0,[])\/v=(1,a)\/v=(2,a++b)) (μ:=Q4r [a,b]) (.inl (by rw[e0])) (cK _) λv hv=> ?_
    rcases hv with rfl|rfl|rfl
    . refine w_br (λ_=>w_cn rfl (w_cn (dY ?_) (w_nx ⟨.inr (.inl rfl),?_⟩))) (λh=>absurd (oN h) (by show¬ ¬(0:Int)<2;decide))
      . show 40*(0+a.length)<=_;omega
      . show(2-wrap .i64 (0+1)).toNat<(2-(0:Int)).toNat
        decide
    . refine w_br (λ_=>w_cn rfl (w_cn (dY ?_) (w_nx ⟨.inr (.inr rfl),?_⟩))) (λh=>absurd (oN h) (by show¬ ¬(1:Int)<2;decide))
      . show 40*(a.length+b.length)<=_;omega
      . show(2-wrap .i64 (1+1)).toNat<(2-(1:Int)).toNat
        decide
    . exact w_br (λh=>absurd (oY h) (by show¬(2:Int)<2;decide)) (λ_=>rfl)
def Qc4(p:Q01)(known:Int)(e:Q0a):Bool:=bif decide (e.At<p.B5) then false else bif decide (e.At>known) then false else bif e.At==known then(bif e.B6.B7==1 then false else Q34 e.B6) else Q34 e.B6
def Ql7(p:Q01)(l:List Q0a)(known:Int):Q01×Bool:=
 bif decide (known<p.B5) then(p,false) else bif decide ((l.length:Int)>400) then(p,false) else bif decide ((p.B3.length:Int)+l.length>4096) then(p,false) else bif l.all (Qc4 p known) then(bif Q5m (p.B3++l) then({A0:=p.A0,B3:=p.B3++l,B5:=known,A7:=p.A7},true) else(p,false)) else(p,false)
theorem zaJ{p:Q01}(hm:p.A0.Mem.length<=1024)(hl:p.B3.length<=1000000){l:List Q0a}(hu: ∀e∈l,U e.B6.N)(known:Int):(Q8u p l known).w (λx=>x=Ql7 p l known):=by
 unfold Q8u
 refine Q0c (Quz hm hl) λx0 e0=> ?_
 subst e0
 refine w_br (λh1=> ?_) (λh1=>w_br (λh2=> ?_) (λh2=>w_br (λh3=> ?_) (λh3=> ?_)))
 . show(x0,false)=_;unfold Ql7;rw[h1];rfl
 . show(x0,false)=_;unfold Ql7;rw[h1,h2];rfl
 . have l4:=oN h2
   have ws:i64.wrap (((x0.B3.length:Nat):Int)+((l.length:Nat):Int))=x0.B3.length+l.length:=by rw[wrap_i64];omega
   rw[ws]at h3
   show(x0,false)=_;unfold Ql7;rw[h1,h2,h3];rfl
 have l4:=oN h2
 have ws:i64.wrap (((x0.B3.length:Nat):Int)+((l.length:Nat):Int))=x0.B3.length+l.length:=by rw[wrap_i64];omega
 rw[ws]at h3
 have no:l.all (Qc4 x0 known)=false->(x0,false)=Ql7 x0 l known:=λh=>by unfold Ql7;rw[h1,h2,h3,h];rfl
 refine w_lp (inv:=λv:Int=>0<=v/\v<=l.length/\(l.drop v.toNat).all (Qc4 x0 known)=l.all (Qc4 x0 known)) (μ:=Qbe x0 l known) ⟨cR 0,by omega,rfl⟩ (cK _) λv ⟨v0,v1,v2⟩=> ?_
 refine w_br (λhb=> ?_) (λhb=> ?_)
 . have hb:v<l.length:=oY hb
   have hlt:v.toNat<l.length:=by omega
   have ed:l.getD v.toNat (RK.dflt RK.apiEntry)=l[v.toNat]:=by rw[cL,cG hlt];rfl
   have hm:l.getD v.toNat (RK.dflt RK.apiEntry)∈l:=by rw[ed];exact cM hlt
   have ue:=hu _ hm
   have va:=Zq4 ue
   rw[aB hlt,fG,<-ed]at v2
   have ew:i64.wrap (v+1)=v+1:=by rw[wrap_i64];omega
   generalize l.getD v.toNat (RK.dflt RK.apiEntry)=e at*
   have bad:Qc4 x0 known e=false->(x0,false)=Ql7 x0 l known:=λh=>no (by rw[<-v2,h];rfl)
   have nx:Qc4 x0 known e=true->(0<=wrap .i64 (v+1)/\wrap .i64 (v+1)<=l.length/\(l.drop (wrap .i64 (v+1)).toNat).all (Qc4 x0 known)=l.all (Qc4 x0 known))/\Qbe x0 l known (wrap .i64 (v+1))<Qbe x0 l known v:=λh=>by
     show _/\(l.length-wrap .i64 (v+1)).toNat<(l.length-v).toNat
     rw[ew]
     refine⟨⟨by omega,by omega,?_⟩,by omega⟩
     rw[<-v2,h,show(v+1).toNat=v.toNat+1 by omega];rfl
   refine w_cn (by simp [bT];omega) (w_br (λg1=>bad (by unfold Qc4;rw[g1];rfl)) λg1=>w_br (λg2=>bad (by unfold Qc4;rw[g1,g2];rfl)) λg2=>w_br (λg3=>w_br (λg4=>bad (by unfold Qc4;rw[g1,g2,g3,g4];rfl)) λg4=>w_lv λx1 e1=> ?_) λg3=>w_lv λx1 e1=> ?_)
   . have ok:Qc4 x0 known e=Q34 e.B6:=by unfold Qc4;rw[g1,g2,g3,g4];rfl
     have e1:=e1.trans va
     exact w_br (λh=>bad (by rw[ok,<-e1];simpa using h)) (λh=>w_nx (nx (by rw[ok,<-e1];simpa using h)))
   . have ok:Qc4 x0 known e=Q34 e.B6:=by unfold Qc4;rw[g1,g2,g3];rfl
     have e1:=e1.trans va
     exact w_br (λh=>bad (by rw[ok,<-e1];simpa using h)) (λh=>w_nx (nx (by rw[ok,<-e1];simpa using h)))
 . have hb: ¬v<l.length:=oN hb
   rw[aA (by omega)]at v2
   have v2:l.all (Qc4 x0 known)=true:=v2.symm
   refine Q0c (qO hl (by omega)) λx3 e3=> ?_
   have hlen:x3.length<=1000000000000:=by rw[e3,lA];omega
   refine w_an hlen (w_lv λx4 e4=> ?_)
   rw[e3]at e4
   refine w_br (λh=> ?_) (λh=> ?_)
   . have h:Q5m (x0.B3++l)=false:=by rw[<-e4];simpa using h
     show(x0,false)=_
     unfold Ql7;rw[h1,h2,h3,v2,h];rfl
   . have h:Q5m (x0.B3++l)=true:=by rw[<-e4];simpa using h
     show(({A0:=x0.A0,B3:=x3,B5:=known,A7:=x0.A7}:Q01),true)=_
     unfold Ql7;rw[h1,h2,h3,v2,h,e3];rfl
theorem Z2i{l:List Q0a}{i:Nat}(h:i<l.length):l.getD i (RK.dflt RK.apiEntry)=l[i]:=by
 rw[cL,cG h];rfl
theorem zaq{a b:Q00}{L:List Q0a}{o:List Q03}(h:Qsj a L o b): ∀e∈L,U e.B6.N:=by
 induction h with
 |nil=>intro e he;cases he
 |ev h1 h2 h3 _ ih=>intro e he;rcases List.mem_cons.1 he with he|he;exact he▸h3;exact ih e he
 |rd h1 h2 h3 _ ih=>intro e he;rcases List.mem_cons.1 he with he|he;exact he▸h3;exact ih e he
 |st h1 h2 h3 _ ih=>exact ih
def newQ(m:Q00):Q01:={A0:=m,B3:=[],B5:=m.A2,A7:=0}
structure Rec22(K:Int)(m:Q00)(x:Q02×List Q03):Prop where
 mg:good 8 m
 m0:m.A2<=87
 lp:logP m.A2 K K x.1
 cnt:cntR x.1<=331
 len:x.1.B3.length<=400
 tr:Qsj m x.1.B3 x.2 x.1.A0
 steps:x.1.A0.A2<=m.A2+330
 outs:x.2.length<=1000000
def fedQ(m:Q00)(r:Q02):Q01:={A0:=m,B3:=r.B3,B5:=r.A0.A2,A7:=0}
theorem Rec22.good{K:Int}{m:Q00}{x:Q02×List Q03}(h:Rec22 K m x):Qm8 8 87 (fedQ m x.1):=
 ⟨h.mg,h.m0,U_0,by have:=h.len;show x.1.B3.length<=_;omega,zaq h.tr⟩
theorem Zfe(a:Q01)(hm:a.A0.Mem.length<=1000000000000)(hl:a.B3.length<=1000000000000):(Q3r a a).w (λb=>b=true):=by
 unfold Q3r
 exact Q0c (zj _ hm) λx0 h0=>w_br (λ_=>Q0c (Z0q _ hl) λx1 h1=>w_br (λ_=>w_br (λ_=>beq_self_eq_true _) λh=>by simp at h) λh=>by rw[h1]at h;cases h) λh=>by rw[h0]at h;cases h
set_option synthInstance.maxHeartbeats 2000000
set_option synthInstance.maxSize 100000
noncomputable section
instance Z1v (s:List Int):Ck (Q09 s):=let d:Decidable (Q09 s):=(by delta Q09;infer_instance);⟨@decide _ d,@oY _ d⟩
instance Zrx (m:List Int) (addr:Int) (size:Int):Ck (Qba m addr size):=ckT (t:=Q3g m addr size) (by delta Q3g;infer_instance)
instance zY (n:Int):Ck (Qih n):=ckT (t:=Qdk n) (by delta Qdk;infer_instance)
instance xO (w:Int) (low:Int) (n:Int):Ck (Q5l w low n):=ckT (t:=Qa7 w low n) (by delta Qa7;infer_instance)
instance zO (w:Int):Ck (Qmc w):=ckT (t:=Q8b w) (by delta Q8b;infer_instance)
instance xD (m:List Int) (addr:Int) (size:Int):Ck (Q3h m addr size):=ckT (t:=Q72 m addr size) (by delta Q72;infer_instance)
instance zD (c:Q05) (m:List Int) (va:Int) (size:Int) (access:Int):Ck (Qas c m va size access):=ckT (t:=Q73 c m va size access) (by delta Q73;infer_instance)
instance yY (c:Q05) (m:List Int):Ck (Qnq c m):=ckT (t:=Qdo c m) (by delta Qdo;infer_instance)
instance xaq (c:Q05) (m:List Int):Ck (Qly c m):=ckT (t:=Q7x c m) (by delta Q7x;infer_instance)
instance Zoj (x:Int):Ck (Qd9 x):=ckT (t:=Q2b x) (by delta Q2b;infer_instance)
instance yD (b:Q07) (pages:Int):Ck (Qk5 b pages):=ckT (t:=Q5i b pages) (by delta Q5i;infer_instance)
instance Zhb (m:Q00):Ck (Q6g m):=ckT (t:=Q2c m) (by delta Q2c;infer_instance)
instance vD (m:Q00):Ck (Q7u m):=ckT (t:=Q8m m) (by delta Q8m;infer_instance)
instance zm (m:Q00):Ck (Q9 m):=ckT (t:=Q3e m) (by delta Q3e;infer_instance)
instance ym (m:Q00):Ck (Qd4 m):=ckT (t:=Q4e m) (by delta Q4e;infer_instance)
instance Zrv (m:Q00):Ck (Qbi m):=ckT (t:=Q2w m) (by delta Q2w;infer_instance)
instance vm (m:Q00) (clock:Int):Ck (Q6o m clock):=ckT (t:=Q3f m clock) (by delta Q3f;infer_instance)
instance qar (pages:Int):Ck (Qgy pages):=ckT (t:=Qj0 pages) (by delta Qj0;infer_instance)
instance zar (pages:Int) (blocks:Int) (image:List Int):Ck (Qa9 pages blocks image):=ckT (t:=Qfx pages blocks image) (by delta Qfx;infer_instance)
instance Zij (m:Q00):Ck (Q2v m):=ckT (t:=Q2p m) (by delta Q2p;infer_instance)
instance Qu6 (s:List Q0a):Ck (Q0y s):=let d:Decidable (Q0y s):=(by delta Q0y;infer_instance);⟨@decide _ d,@oY _ d⟩
instance Qua (s:List Q0b):Ck (Q13 s):=let d:Decidable (Q13 s):=(by delta Q13;infer_instance);⟨@decide _ d,@oY _ d⟩
instance Zrt (r:Q02):Ck (Qbc r):=ckT (t:=Q6f r) (by delta Q6f;infer_instance)
instance yO (m:Q00):Ck (Qmi m):=ckT (t:=Q9z m) (by delta Q9z;infer_instance)
instance Zrw (p:Q01):Ck (Q5y p):=ckT (t:=Q6b p) (by delta Q6b;infer_instance)
instance vO (m:Q00):Ck (Qm9 m):=ckT (t:=Qh1 m) (by delta Qh1;infer_instance)
instance qn (p:Q01):Ck (Qi4 p):=ckT (t:=Q7d p) (by delta Q7d;infer_instance)
instance Zru (p:Q01):Ck (Q44 p):=ckT (t:=Q62 p) (by delta Q62;infer_instance)
instance xn (script:List Q0a):Ck (Q53 script):=let d:Decidable (Q53 script):=(by delta Q53;infer_instance);⟨@decide _ d,@oY _ d⟩
instance Qut (s:List Q0a) (n:Int):Ck (Q1i s n):=let d:Decidable (Q1i s n):=(by delta Q1i;infer_instance);⟨@decide _ d,@oY _ d⟩
instance Qtb (slices:(List (List Q0a))):Ck (Q2s slices):=ckT (t:=Q15 slices) (by delta Q15;infer_instance)
instance qE (p:Q01) (l:List Q0a) (known:Int):Ck (Q7z p l known):=ckT (t:=Q8u p l known) (by delta Q8u;infer_instance)
instance zn (p:Q01) (fr1:Int):Ck (Qi p fr1):=ckT (t:=Q7g p fr1) (by delta Q7g;infer_instance)
instance Zpc (p:Q01) (steps:Int):Ck (Q2d p steps):=ckT (t:=Q3 p steps) (by delta Q3;infer_instance)
theorem Zky:Q1s:=ck (ckT (t:=Qej) (by delta Qej;infer_instance)) (by kernel_rfl)
theorem Zjk:Q35=true:=by kernel_rfl
theorem aw22{W:Bool->Prop}(h:W true):(Tree.an Q1s (.lv Q35 λx=> .lf x)).w W:=w_an Zky (w_lv λx e=>by show W x;rw[e,Zjk];exact h)
end
theorem Q0t{t:STy}{ts:List STy}{es:List D}(h:Fits (t::ts) es): ∃d ds,es=d::ds/\Fit t d/\Fits ts ds:=by
 cases es with
 |nil=>exact absurd h (by simp [Fits])
 |cons d ds=>unfold Fits at h;exact⟨d,ds,rfl,h.1,h.2⟩
theorem Zcw{es:List D}(h:Fits [] es):es=[]:=by
 cases es with
 |nil=>rfl
 |cons d ds=>exact absurd h (by simp [Fits])
theorem u_of{x:Int}(h:u32.min<=x/\x<=u32.max):U x:=⟨h.1,by have:u32.max=4294967295:=rfl;have:=h.2;omega⟩
theorem Zgo{es:List D}(h:Fits [.int .u32, .int .u32, .int .u32, .int .u32, .int .u32, .int .u32, .int .u32, .int .u32, .int .u32, .int .u32, .int .u32, .int .u32, .int .u32, .int .u32, .int .u32, .int .u32, .int .u32, .int .u32, .int .u32, .int .u32, .int .u32, .int .u32, .int .u32, .int .u32, .int .u32, .sl [.int .u32], .str, .bool, .int .u32, .bool, .int .u32, .int .u32, .int .u32, .int .i64, .int .i64, .int .u32, .int .u32, .str, .int .u32, .int .u32, .bool, .int .u32, .bool, .int .u32, .int .u32, .int .u32, .int .u64, .bool, .bool] es): ∃m:Q00,es=m.cells/\okV m/\m.Mem.length*4<=reachBytes:=by
 obtain⟨d0,e0,rfl,h0,H0⟩:=Q0t h
 obtain⟨x0,rfl,b0⟩:=Q1n h0
 obtain⟨d1,e1,rfl,h1,H1⟩:=Q0t H0
 obtain⟨x1,rfl,b1⟩:=Q1n h1
 obtain⟨d2,e2,rfl,h2,H2⟩:=Q0t H1
 obtain⟨x2,rfl,b2⟩:=Q1n h2
 obtain⟨d3,e3,rfl,h3,H3⟩:=Q0t H2
 obtain⟨x3,rfl,b3⟩:=Q1n h3
 obtain⟨d4,e4,rfl,h4,H4⟩:=Q0t H3
 obtain⟨x4,rfl,b4⟩:=Q1n h4
 obtain⟨d5,e5,rfl,h5,H5⟩:=Q0t H4
 obtain⟨x5,rfl,b5⟩:=Q1n h5
 obtain⟨d6,e6,rfl,h6,H6⟩:=Q0t H5
 obtain⟨x6,rfl,b6⟩:=Q1n h6
 obtain⟨d7,e7,rfl,h7,H7⟩:=Q0t H6
 obtain⟨x7,rfl,b7⟩:=Q1n h7
 obtain⟨d8,e8,rfl,h8,H8⟩:=Q0t H7
 obtain⟨x8,rfl,b8⟩:=Q1n h8
 obtain⟨d9,e9,rfl,h9,H9⟩:=Q0t H8
 obtain⟨x9,rfl,b9⟩:=Q1n h9
 obtain⟨d10,e10,rfl,h10,H10⟩:=Q0t H9
 obtain⟨x10,rfl,b10⟩:=Q1n h10
 obtain⟨d11,e11,rfl,h11,H11⟩:=Q0t H10
 obtain⟨x11,rfl,b11⟩:=Q1n h11
 obtain⟨d12,e12,rfl,h12,H12⟩:=Q0t H11
 obtain⟨x12,rfl,b12⟩:=Q1n h12
 obtain⟨d13,e13,rfl,h13,H13⟩:=Q0t H12
 obtain⟨x13,rfl,b13⟩:=Q1n h13
 obtain⟨d14,e14,rfl,h14,H14⟩:=Q0t H13
 obtain⟨x14,rfl,b14⟩:=Q1n h14
 obtain⟨d15,e15,rfl,h15,H15⟩:=Q0t H14
 obtain⟨x15,rfl,b15⟩:=Q1n h15
 obtain⟨d16,e16,rfl,h16,H16⟩:=Q0t H15
 obtain⟨x16,rfl,b16⟩:=Q1n h16
 obtain⟨d17,e17,rfl,h17,H17⟩:=Q0t H16
 obtain⟨x17,rfl,b17⟩:=Q1n h17
 obtain⟨d18,e18,rfl,h18,H18⟩:=Q0t H17
 obtain⟨x18,rfl,b18⟩:=Q1n h18
 obtain⟨d19,e19,rfl,h19,H19⟩:=Q0t H18
 obtain⟨x19,rfl,b19⟩:=Q1n h19
 obtain⟨d20,e20,rfl,h20,H20⟩:=Q0t H19
 obtain⟨x20,rfl,b20⟩:=Q1n h20
 obtain⟨d21,e21,rfl,h21,H21⟩:=Q0t H20
 obtain⟨x21,rfl,b21⟩:=Q1n h21
 obtain⟨d22,e22,rfl,h22,H22⟩:=Q0t H21
 obtain⟨x22,rfl,b22⟩:=Q1n h22
 obtain⟨d23,e23,rfl,h23,H23⟩:=Q0t H22
 obtain⟨x23,rfl,b23⟩:=Q1n h23
 obtain⟨d24,e24,rfl,h24,H24⟩:=Q0t H23
 obtain⟨x24,rfl,b24⟩:=Q1n h24
 obtain⟨d25,e25,rfl,h25,H25⟩:=Q0t H24
 obtain⟨x25,rfl,r25,b25⟩:=Zdv h25
 obtain⟨d26,e26,rfl,h26,H26⟩:=Q0t H25
 obtain⟨x26,rfl,b26⟩:=Zka h26
 obtain⟨d27,e27,rfl,h27,H27⟩:=Q0t H26
 obtain⟨x27,rfl⟩:=Qoe h27
 obtain⟨d28,e28,rfl,h28,H28⟩:=Q0t H27
 obtain⟨x28,rfl,b28⟩:=Q1n h28
 obtain⟨d29,e29,rfl,h29,H29⟩:=Q0t H28
 obtain⟨x29,rfl⟩:=Qoe h29
 obtain⟨d30,e30,rfl,h30,H30⟩:=Q0t H29
 obtain⟨x30,rfl,b30⟩:=Q1n h30
 obtain⟨d31,e31,rfl,h31,H31⟩:=Q0t H30
 obtain⟨x31,rfl,b31⟩:=Q1n h31
 obtain⟨d32,e32,rfl,h32,H32⟩:=Q0t H31
 obtain⟨x32,rfl,b32⟩:=Q1n h32
 obtain⟨d33,e33,rfl,h33,H33⟩:=Q0t H32
 obtain⟨x33,rfl,b33⟩:=Q1n h33
 obtain⟨d34,e34,rfl,h34,H34⟩:=Q0t H33
 obtain⟨x34,rfl,b34⟩:=Q1n h34
 obtain⟨d35,e35,rfl,h35,H35⟩:=Q0t H34
 obtain⟨x35,rfl,b35⟩:=Q1n h35
 obtain⟨d36,e36,rfl,h36,H36⟩:=Q0t H35
 obtain⟨x36,rfl,b36⟩:=Q1n h36
 obtain⟨d37,e37,rfl,h37,H37⟩:=Q0t H36
 obtain⟨x37,rfl,b37⟩:=Zka h37
 obtain⟨d38,e38,rfl,h38,H38⟩:=Q0t H37
 obtain⟨x38,rfl,b38⟩:=Q1n h38
 obtain⟨d39,e39,rfl,h39,H39⟩:=Q0t H38
 obtain⟨x39,rfl,b39⟩:=Q1n h39
 obtain⟨d40,e40,rfl,h40,H40⟩:=Q0t H39
 obtain⟨x40,rfl⟩:=Qoe h40
 obtain⟨d41,e41,rfl,h41,H41⟩:=Q0t H40
 obtain⟨x41,rfl,b41⟩:=Q1n h41
 obtain⟨d42,e42,rfl,h42,H42⟩:=Q0t H41
 obtain⟨x42,rfl⟩:=Qoe h42
 obtain⟨d43,e43,rfl,h43,H43⟩:=Q0t H42
 obtain⟨x43,rfl,b43⟩:=Q1n h43
 obtain⟨d44,e44,rfl,h44,H44⟩:=Q0t H43
 obtain⟨x44,rfl,b44⟩:=Q1n h44
 obtain⟨d45,e45,rfl,h45,H45⟩:=Q0t H44
 obtain⟨x45,rfl,b45⟩:=Q1n h45
 obtain⟨d46,e46,rfl,h46,H46⟩:=Q0t H45
 obtain⟨x46,rfl,b46⟩:=Q1n h46
 obtain⟨d47,e47,rfl,h47,H47⟩:=Q0t H46
 obtain⟨x47,rfl⟩:=Qoe h47
 obtain⟨d48,e48,rfl,h48,H48⟩:=Q0t H47
 obtain⟨x48,rfl⟩:=Qoe h48
 obtain rfl:=Zcw H48
 refine⟨⟨⟨⟨x0,x1,x2,x3,x4,x5,x6,x7,x8,x9,x10,x11,x12,x13,x14,x15⟩,x16,⟨x17,x18,x19,x20,x21,x22,x23,x24⟩⟩,x25,⟨x26⟩,⟨x27,x28,x29⟩,⟨x30,x31,x32,x33,x34,x35,x36,x37⟩,⟨x38,x39,x40,x41,x42,x43⟩,⟨x44,x45⟩,x46,x47,x48⟩,rfl,⟨⟨?_,u_of b16,?_⟩,λw hw=>u_of (b25 w hw),⟨u_of b31,u_of b32,u_of b35,u_of b36⟩,⟨u_of b38,u_of b39,u_of b41,u_of b43⟩,⟨u_of b44,u_of b45⟩,b46.1⟩,r25⟩
 . intro w hw
   have hw:w∈[x0,x1,x2,x3,x4,x5,x6,x7,x8,x9,x10,x11,x12,x13,x14,x15]:=hw
   simp only[cP,cQ,or_false]at hw
   rcases hw with rfl|rfl|rfl|rfl|rfl|rfl|rfl|rfl|rfl|rfl|rfl|rfl|rfl|rfl|rfl|rfl
   . exact u_of b0
   . exact u_of b1
   . exact u_of b2
   . exact u_of b3
   . exact u_of b4
   . exact u_of b5
   . exact u_of b6
   . exact u_of b7
   . exact u_of b8
   . exact u_of b9
   . exact u_of b10
   . exact u_of b11
   . exact u_of b12
   . exact u_of b13
   . exact u_of b14
   . exact u_of b15
 . intro w hw
   have hw:w∈[x17,x18,x19,x20,x21,x22,x23,x24]:=hw
   simp only[cP,cQ,or_false]at hw
   rcases hw with rfl|rfl|rfl|rfl|rfl|rfl|rfl|rfl
   . exact u_of b17
   . exact u_of b18
   . exact u_of b19
   . exact u_of b20
   . exact u_of b21
   . exact u_of b22
   . exact u_of b23
   . exact u_of b24
theorem Zqe{es:List D}(h:Fits [.int .i64, .int .u32, .str] es): ∃e:Q0b,es=e.cells/\U e.N:=by
 obtain⟨d0,e0,rfl,h0,H0⟩:=Q0t h
 obtain⟨x0,rfl,b0⟩:=Q1n h0
 obtain⟨d1,e1,rfl,h1,H1⟩:=Q0t H0
 obtain⟨x1,rfl,b1⟩:=Q1n h1
 obtain⟨d2,e2,rfl,h2,H2⟩:=Q0t H1
 obtain⟨x2,rfl,b2⟩:=Zka h2
 obtain rfl:=Zcw H2
 exact⟨⟨x0,x1,x2⟩,rfl,u_of b1⟩
theorem Zrn{ts us:List STy}: ∀{es:List D},Fits (ts++us) es-> ∃a b,es=a++b/\Fits ts a/\Fits us b:=by
 induction ts with
 |nil=>intro es h;exact⟨[],es,rfl,by unfold Fits;trivial,h⟩
 | cons t ts ih=>
   intro es h
   obtain⟨d,ds,rfl,h1,h2⟩:=Q0t h
   obtain⟨a,b,rfl,h3,h4⟩:=ih h2
   exact⟨d::a,b,rfl,by unfold Fits;exact⟨h1,h3⟩,h4⟩
theorem Sub1.gens{k:RK}{es:List (List D)}{fr:Bool}{l:List (RK.T k)}(h:es=l.map (RK.cells k)):Sub1 (.sl k.size (.gen es) fr) (.sl k.size (.recs k l) false):=by
 intro c w v hv
 obtain⟨a,cap,hv,hc,hes⟩:=hv
 have he:(Els.gen es).l=(Els.recs k l).l:=by subst h;rfl
 rw[he]at hv hc hes
 refine⟨a,cap,hv,hc,?_⟩
 rcases hes with hes|⟨b,off,arr,ty,fz,ha,hI,hf,hh,hE⟩
 . exact .inl hes
 . exact .inr ⟨b,off,arr,ty,fz,ha,hI,(λe=>by cases e),hh,hE⟩
theorem SubL.rfl: ∀{l:List D},SubL l l
 |[]=>trivial
 |_::_=>⟨Sub1.rfl,SubL.rfl⟩
theorem SubL.append: ∀{a b a' b':List D},SubL a a'->SubL b b'->SubL (a++b) (a'++b')
 |[],_,[],_,_,h=>h
 |_::_,_,_::_,_,h,g=>⟨h.1,SubL.append h.2 g⟩
 |[],_,_::_,_,h,_=>h.elim
 |_::_,_,[],_,h,_=>h.elim
theorem Z06{es:List (List D)}(h: ∀e∈es,Fits [.int .u64, .int .i64, .int .u32, .str] e): ∃l:List Q0a,es=l.map Q0a.cells/\ ∀e∈l,U e.B6.N/\0<=e.At/\e.At<=18446744073709551615:=by
 induction es with
 |nil=>exact⟨[],rfl,λe he=>by cases he⟩
 | cons x es ih=>
   obtain⟨l,h1,h2⟩:=ih (λe he=>h e (by simp [he]))
   obtain⟨d0,e0,rfl,h0,H0⟩:=Q0t (h x (by simp))
   obtain⟨x0,rfl,b0⟩:=Q1n h0
   obtain⟨e,he,hu⟩:=Zqe H0
   refine⟨⟨x0,e⟩::l,by rw[h1,he];rfl,λq hq=> ?_⟩
   rcases List.mem_cons.1 hq with hq|hq
   . rw[hq];exact⟨hu,b0.1,b0.2⟩
   . exact h2 q hq
def Z53(s:List Q0a)(i:Nat):Bool:=!decide ((s.getD i (RK.dflt RK.apiEntry)).At<(s.getD (i-1) (RK.dflt RK.apiEntry)).At)&&!(((s.getD i (RK.dflt RK.apiEntry)).At==(s.getD (i-1) (RK.dflt RK.apiEntry)).At)&&((s.getD (i-1) (RK.dflt RK.apiEntry)).B6.B7==1))
def ordB(s:List Q0a):Bool:=decide (∀i,i<s.length->1<=i->Z53 s i=true)
theorem Z86{s:List Q0a}(hl:s.length<=1000000):(Q99 s).w (λb=>b=ordB s):=by
 unfold Q99
 refine w_lp (inv:=λz:Int=>1<=z/\(z<=s.length\/z=1)/\ ∀j:Nat,(j:Int)<z->1<=j->Z53 s j=true) (μ:=Q52 s) ⟨cR 1, .inr rfl,λj h1 h2=>by omega⟩ (cK _) λi ⟨a,b,c⟩=> ?_
 have ew:i64.wrap (i+1)=i+1:=by rw[wrap_i64];omega
 have em:i64.wrap (i-1)=i-1:=by rw[wrap_i64];omega
 refine w_br (λhb=> ?_) (λhb=>w_lf ?_)
 rotate_left
 . have hb:=oN hb
   exact(dY λj h1 h2=>c j (by omega) h2).symm
 have hb:i<s.length:=oY hb
 have e1:(i-1).toNat=i.toNat-1:=by omega
 have no:Z53 s i.toNat=false->false=ordB s:=λh=>(dN λk=>by rw[k i.toNat (by omega) (by omega)]at h;cases h).symm
 have nx:Z53 s i.toNat=true->(1<=i64.wrap (i+1)/\(i64.wrap (i+1)<=s.length\/i64.wrap (i+1)=1)/\ ∀j:Nat,(j:Int)<i64.wrap (i+1)->1<=j->Z53 s j=true)/\Q52 s (i64.wrap (i+1))<Q52 s i:=λh=>by
   show _/\(s.length-i64.wrap (i+1)).toNat<(s.length-i).toNat
   rw[ew]
   refine⟨⟨by omega,by omega,λj h1 h2=> ?_⟩,by omega⟩
   by_cases e:(j:Int)<i
   . exact c j e h2
   . rw[show j=i.toNat by omega];exact h
 have c1:(bS 4 4&&bT 0 4&&decide (0<=i64.wrap (i-1)/\i64.wrap (i-1)<(s.length:Int)))=true:=by rw[em];simp [bT];omega
 have c2:(bS 4 4&&bT 0 4&&decide (0<=i/\i<(s.length:Int)))=true:=by simp [bT];omega
 have eP:Z53 s i.toNat=(!decide ((s.getD i.toNat (RK.dflt RK.apiEntry)).At<(s.getD (i64.wrap (i-1)).toNat (RK.dflt RK.apiEntry)).At)&&!(((s.getD i.toNat (RK.dflt RK.apiEntry)).At==(s.getD (i64.wrap (i-1)).toNat (RK.dflt RK.apiEntry)).At)&&((s.getD (i64.wrap (i-1)).toNat (RK.dflt RK.apiEntry)).B6.B7==1))):=by rw[em,e1];rfl
 refine w_cn c2 (w_cn c1 (w_br (λh=>w_lf (no (by rw[eP,h];rfl))) λh=>w_cn c2 (w_cn c1 (w_br (λh1=>w_cn c1 (w_br (λh2=>w_lf (no (by rw[eP,h,h1,h2];rfl))) λh2=>w_nx (nx (by rw[eP,h,h1,h2];rfl)))) λh1=>w_nx (nx (by rw[eP,h,h1];rfl))))))
theorem Z94{s:List Q0a}(hl:s.length<=1000000):(Q9h s).w (λb=>b=ordB s):=by
 unfold Q9h
 refine w_lp (inv:=λz:Int=>1<=z/\(z<=s.length\/z=1)/\ ∀j:Nat,(j:Int)<z->1<=j->Z53 s j=true) (μ:=Q50 s) ⟨cR 1, .inr rfl,λj h1 h2=>by omega⟩ (cK _) λi ⟨a,b,c⟩=> ?_
 have ew:i64.wrap (i+1)=i+1:=by rw[wrap_i64];omega
 have em:i64.wrap (i-1)=i-1:=by rw[wrap_i64];omega
 refine w_br (λhb=> ?_) (λhb=>w_lf ?_)
 rotate_left
 . have hb:=oN hb
   exact(dY λj h1 h2=>c j (by omega) h2).symm
 have hb:i<s.length:=oY hb
 have e1:(i-1).toNat=i.toNat-1:=by omega
 have no:Z53 s i.toNat=false->false=ordB s:=λh=>(dN λk=>by rw[k i.toNat (by omega) (by omega)]at h;cases h).symm
 have nx:Z53 s i.toNat=true->(1<=i64.wrap (i+1)/\(i64.wrap (i+1)<=s.length\/i64.wrap (i+1)=1)/\ ∀j:Nat,(j:Int)<i64.wrap (i+1)->1<=j->Z53 s j=true)/\Q50 s (i64.wrap (i+1))<Q50 s i:=λh=>by
   show _/\(s.length-i64.wrap (i+1)).toNat<(s.length-i).toNat
   rw[ew]
   refine⟨⟨by omega,by omega,λj h1 h2=> ?_⟩,by omega⟩
   by_cases e:(j:Int)<i
   . exact c j e h2
   . rw[show j=i.toNat by omega];exact h
 have c1:(bS 4 4&&bT 0 4&&decide (0<=i64.wrap (i-1)/\i64.wrap (i-1)<(s.length:Int)))=true:=by rw[em];simp [bT];omega
 have c2:(bS 4 4&&bT 0 4&&decide (0<=i/\i<(s.length:Int)))=true:=by simp [bT];omega
 have eP:Z53 s i.toNat=(!decide ((s.getD i.toNat (RK.dflt RK.apiEntry)).At<(s.getD (i64.wrap (i-1)).toNat (RK.dflt RK.apiEntry)).At)&&!(((s.getD i.toNat (RK.dflt RK.apiEntry)).At==(s.getD (i64.wrap (i-1)).toNat (RK.dflt RK.apiEntry)).At)&&((s.getD (i64.wrap (i-1)).toNat (RK.dflt RK.apiEntry)).B6.B7==1))):=by rw[em,e1];rfl
 refine w_cn c1 (w_cn c2 (w_br (λh=>w_lf (no (by rw[eP,h];rfl))) λh=>w_br (λh1=>w_br (λh2=>w_lf (no (by rw[eP,h,h1,h2];rfl))) λh2=>w_nx (nx (by rw[eP,h,h1,h2];rfl))) λh1=>w_nx (nx (by rw[eP,h,h1];rfl))))
theorem Zjs{s:List Q0a}(hl:s.length<=1000000):Q5m s=ordB s:=Tree.post _ (Z94 hl)
theorem Zc4{s:List Q0a}(hl:s.length<=1000000):Qhp s=ordB s:=Tree.post _ (Z86 hl)
def Z36(p:Q01)(m:Q00):Q01:={A0:=m,B3:=p.B3,B5:=p.B5,A7:=p.A7}
theorem xaJ(r:Q01)(port clock:Int):Qwf r port clock=((Qaf r.A0 port clock).1,Z36 r (Qaf r.A0 port clock).2):=by
 simp only[Qwf,Qjr,Qaf,Qjk,Tree.m,letv]
 cases decide (port<=1)<;>cases port==2<;>cases port==3<;>cases decide (port<=6)<;>cases decide (port<=9)<;>rfl
theorem xar(r:Q01)(port v:Int):Qrw r port v=((Q7s r.A0 port v).1,Z36 r (Q7s r.A0 port v).2):=by
 simp only[Qrw,Qe6,Q7s,Qdw,Tree.m,letv]
 cases port==0<;>cases decide (port<=2)<;>cases port==3<;>cases decide (port<=6)<;>cases decide (port<=9)<;>rfl
theorem qaK{r:Q01}{c:Bool}{x y:Bool×Q01}{x' y':Bool×Q00}(hx:x=(x'.1,Z36 r x'.2))(hy:y=(y'.1,Z36 r y'.2)):cond c x y=((cond c x' y').1,Z36 r (cond c x' y').2):=by cases c<;>assumption
theorem yn(r:Q01)(e:Q0b):Qlk r e=((Q0s r.A0 e).1,Z36 r (Q0s r.A0 e).2):=by
 simp only[Qlk,Q9j,Q0s,Q8f,Tree.m,letv]
 repeat'(first|rfl|refine qaK ?_ ?_)
theorem qas(r:Q01)(clock:Int):Q7h r clock=((Q0r r.A0 clock).1,Z36 r (Q0r r.A0 clock).2):=by
 simp only[Q7h,Q6q,Q0r,Q7j,Tree.m,letv,xaJ,xar,Z36]
 cases(Q5f (Q0n r.A0) r.A0.Mem).2.1.B7==1<;>cases(Q5f (Q0n r.A0) r.A0.Mem).2.1.B7==2<;>cases(Q5f (Q0n r.A0) r.A0.Mem).2.1.B7==3<;>cases(Q5f (Q0n r.A0) r.A0.Mem).2.1.B7==4<;>rfl
theorem vn(r:Q01)(e:Q0b):Qeh r e=((Q0s r.A0 e).1,Z36 r (Q0s r.A0 e).2):=by
 simp only[Qeh,Q7w,Tree.m,letv,yn]
section
variable {P:Nat} {r:Q01} (h:okM P r.A0)
include h
theorem inQ_w(port:Int){clock:Int}(hc:U clock):(Qjr r port clock).w (λx=>U x.1/\okM P x.2.A0):=by
 obtain⟨h1,h2,h3,h4,h5,h7⟩:=h
 have k:okM P r.A0:=⟨h1,h2,h3,h4,h5,h7⟩
 unfold Qjr
 exact w_br (λ_=>w_lv λx hx=>⟨hx▸Qu1 _ _,⟨h1,h2,h3,h4,h5,h7⟩⟩) (λ_=>w_br (λ_=>⟨hc,k⟩) (λ_=>w_br (λ_=>w_lv λx hx=>⟨hx▸Z6j _,k⟩) (λ_=>w_br (λ_=>w_lv λx hx=>⟨hx▸Zcg h3 _,k⟩) (λ_=>w_br (λ_=>w_lv λx hx=>⟨hx▸Zko h4 _,k⟩) (λ_=>w_lv λx hx=>⟨hx▸Qul h5.1 _,k⟩)))))
theorem zaK(port:Int){v:Int}(hv:U v):(Qe6 r port v).w (λ_=>True):=by
 obtain⟨h1,h2,h3,h4,h5,h7⟩:=h
 unfold Qe6
 exact w_br (λ_=>trivial) (λ_=>w_br (λ_=>trivial) (λ_=>w_br (λ_=>w_lv λ_ _=>trivial) (λ_=>w_br (λ_=>Q0c (Z3a h2 h3 _ hv _) λx hx=>trivial) (λ_=>w_br (λ_=>Q0c (Zde h2 h4 _ hv _) λx hx=>trivial) (λ_=>Q0c (zx h2 h5 _ hv) λx hx=>trivial)))))
theorem Zrq{clock:Int}(hc:U clock):(Q6q r clock).w (λ_=>True):=by
 obtain⟨h1,h2,h3,h4,h5,h7⟩:=h
 unfold Q6q
 refine Q0c (Qit h1) λx0 c0=>Q0c (do_w c0 h2) λx1 hx=> ?_
 obtain⟨c1,v1,m1⟩:=hx
 refine w_br (λ_=>Zbi (inQ_w (r:=⟨⟨_,_,_,_,_,_,_,_,_,_⟩,_,_,_⟩) ⟨c1,m1,h3,h4,h5,h7⟩ _ hc) λx2 hx=> ?_) (λ_=>w_br (λ_=>Q0c (zaK (r:=⟨⟨_,_,_,_,_,_,_,_,_,_⟩,_,_,_⟩) ⟨c1,m1,h3,h4,h5,h7⟩ _ v1) λx4 hx=>trivial) (λ_=> ?_))
 . obtain⟨u,⟨k1,k2,k3,k4,k5,k7⟩⟩:=hx
   exact Q0c (Z6r k1 _ u) λx3 h3=>trivial
 . repeat'(first
     |exact trivial
     |refine w_br (λ_=> ?_) (λ_=> ?_))
theorem qP{e:Q0b}(he:U e.N):(Q9j r e).w (λ_=>True):=by
 obtain⟨h1,h2,h3,h4,h5,h7⟩:=h
 unfold Q9j
 repeat'(first
   |exact trivial
   |exact w_lv λ_ _=>trivial
   |exact Q0c (yx _ _) λ_ _=>trivial
   |exact Q0c (Zdm h2 h3 _) λx hx=>trivial
   |exact Q0c (Zdj h2 h4 _) λx hx=>trivial
   |refine w_br (λ_=> ?_) (λ_=> ?_))
theorem Z70{e:Q0b}(he:U e.N):Qbm r e:=by
 show(Q7w r e).p
 unfold Tree.p Q7w
 exact Q0c (qP h he) λx hx=>trivial
theorem Qrk{clock:Int}(hc:U clock):Q9n r clock:=(Tree.pp (Zrq h hc)).1
end
theorem Zdy{p:Q01}(hm:p.A0.Mem.length<=1024)(hl:p.B3.length<=1000000):(Qha p).w (λx=>x=p):=by
 unfold Qha
 exact Q0c (ownV hm) λx hx=>w_cn (dY (by simp;omega)) (by rw[hx];rfl)
theorem Zk9{p:Q01}{e:Q0a}{l:List Q0a}(hl:p.B3=e::l)(ha:e.At<=p.A0.A2)(hk:e.B6.B7=1):Qo7 p=(bif Q0g p.A0 then e.At==p.A0.A2 else false):=by
 unfold Qo7
 rw[hl]
 show(bif Q0g p.A0 then(bif e.B6.B7==1 then e.At==p.A0.A2 else false) else !(bif e.B6.B7==1 then decide (e.At<=p.A0.A2) else false))=_
 rw[hk,dY ha];rfl
theorem qo{p:Q01}{e:Q0a}{l:List Q0a}(hl:p.B3=e::l)(hr:Q0g p.A0=true):Qar p=(e.B6.N,l,wrap .u32 (e.B6.N+1)):=by
 have f:Qt9 p=e.B6.N:=by unfold Qt9;rw[hl]
 unfold Qar
 rw[hr,f,hl];rfl
theorem Zb0{p:Q01}(h: ∀e∈p.B3.head?,p.A0.A2<e.At):Qo7 p=!Q0g p.A0:=by
 unfold Qo7
 cases hl:p.B3 with
 |nil=>rfl
 | cons e l=>
   have:=h e (by rw[hl];rfl)
   show(bif Q0g p.A0 then(bif e.B6.B7==1 then e.At==p.A0.A2 else false) else !(bif e.B6.B7==1 then decide (e.At<=p.A0.A2) else false))=_
   rw[dN (by omega),show(e.At==p.A0.A2)=false from beq_false_of_ne (by omega)]
   cases Q0g p.A0<;>cases e.B6.B7==1<;>rfl
theorem Zpm{p:Q01}(hr:Q0g p.A0=false):Qar p=(0,p.B3,p.A7):=by unfold Qar;rw[hr];rfl
theorem w_ev4{β:Type}{c1 c2 c3 cc:Bool}{N T:Tree β}{W:β->Prop}(hcc:c1=true->cc=true)(hN:c1=true->c2=true->c3=true->N.w W)(hT:(c1&&(c2&&c3))=false->T.w W):(Tree.br c1 (.cn cc (.br c2 (.cn cc (.br c3 (.cn cc N) T)) T)) T).w W:=by
 refine w_br (λh1=>w_cn (hcc h1) (w_br (λh2=>w_cn (hcc h1) (w_br (λh3=>w_cn (hcc h1) (hN h1 h2 h3)) λh3=>hT (by rw[h1,h2,h3];rfl))) λh2=>hT (by rw[h1,h2];rfl))) λh1=>hT (by rw[h1];rfl)
theorem bm1: ∀a b:Bool,(!a==b)=true->(a==b)=false:=by decide
theorem bm2: ∀a b:Bool,(!a==b)=false->(a==b)=true:=by decide
theorem xP{l:List Q0a}{m:Q00}(hx:(decide ((l.length:Int)>0)&&(decide ((l.getD (cZ 0) (RK.dflt RK.apiEntry)).At<=m.A2)&&((l.getD (cZ 0) (RK.dflt RK.apiEntry)).B6.B7 !=1)))=false):dueF l m=(m,l):=by
 cases l with
 |nil=>rfl
 | cons e l=>
   have hx:(decide ((((e::l).length:Nat):Int)>0)&&(decide (e.At<=m.A2)&&(e.B6.B7 !=1)))=false:=hx
   rw[dY (show(((e::l).length:Nat):Int)>0 by rw[dD];omega)]at hx
   by_cases h1:e.At<=m.A2
   . rw[dY h1]at hx
     exact Qy0 hx
   . exact Z5x h1
theorem xo{P:Nat}{k:Int}{p:Q01}(h:Qm8 P k p)(steps:Int):(Q7f p steps).w (λx=>x=folP p steps):=by
  obtain⟨lim0,lim1⟩:=Qn8 steps
  unfold Q7f
  refine Q0c (Zdy h.m.len (by have:=h.log;omega)) λx0 e0=> ?_
  subst e0
  refine w_lv λx1 e1=>w_br (λhb=>by rw[e1,h.m.rmay]at hb;cases hb) λ_=> ?_
  rw[Zld h.m.rmay]
  refine w_lp (inv:=λy:Int×Q01×List Q03=>0<=y.1/\y.1<=Q0i steps/\Qm8 P (k+y.1) y.2.1/\(y.2.2.length:Int)<=y.1/\folF (Q0i steps-y.1).toNat y.2.1 y.2.2=folF (Q0i steps).toNat x0 []) (μ:=Q9o x0 steps) ⟨cR 0,lim0,⟨h.m,by have:=h.cnt;show x0.A0.A2<=k+0;omega,h.clock,h.log,h.u⟩,cR 0,by show folF (Q0i steps-0).toNat x0 []=_;rw[fB]⟩ (cK _) λy ⟨y0,y1,y2,y4,y5⟩=> ?_
  obtain⟨yi,yp,yo⟩:=y
  have y0:0<=yi:=y0
  have y1:yi<=Q0i steps:=y1
  have y2:Qm8 P (k+yi) yp:=y2
  have y4:(yo.length:Int)<=yi:=y4
  have y5:folF (Q0i steps-yi).toNat yp yo=folF (Q0i steps).toNat x0 []:=y5
  rw[<-y5]
  refine w_lv λx2 e2=> ?_
  rw[e2]
  refine w_br (λhb=>w_br (λhk=> ?_) λhk=> ?_) (λhb=> ?_)
  rotate_left
  . have hk: ¬yp.A0.A2<yp.B5:=oN hk
    show(yp,yo)=_
    rw[Qvu (by omega)]
  . have hb: ¬yi<Q0i steps:=oN hb
    show(yp,yo)=_
    rw[show(Q0i steps-yi).toNat=0 by omega]
    rfl
  have hb:yi<Q0i steps:=oY hb
  have hk: ¬yp.B5<=yp.A0.A2:=by have:yp.A0.A2<yp.B5:=oY hk;omega
  have ew:i64.wrap (yi+1)=yi+1:=by rw[wrap_i64];omega
  have en:(Q0i steps-yi).toNat=(Q0i steps-(yi+1)).toNat+1:=by omega
  obtain⟨g,gc,_⟩:=Qx9 y2
  rw[en]at y5⊢
  refine w_lp (inv:=λv:Q01=>good P v.A0/\v.A0.A2=yp.A0.A2/\(∀e∈v.B3,U e.B6.N)/\setF v=setF yp) (μ:=Qli x0 steps) ⟨y2.m,rfl,y2.u,rfl⟩ (cK _) λv ⟨a1,a2,a3,a4⟩=> ?_
  have cc:decide ((v.B3.length:Int)>0)=true->(bS 4 4&&bT 0 4&&decide ((0:Int)<=0/\(0:Int)<((v.B3.length:Nat):Int)))=true:=λh=>by
    have:=oY h
    rw[dY (show(0:Int)<=0/\(0:Int)<((v.B3.length:Nat):Int) by omega)];rfl
  have c1:decide ((v.B3.length:Int)>0)=true-> ∀L:List Q0a,L=v.B3->(bS 4 4&&bT 0 4&&decide ((0:Int)<=1/\(1:Int)<=((L.length:Nat):Int)/\((L.length:Nat):Int)<=((L.length:Nat):Int)))=true:=λh L hL=>by
    have:=oY h
    rw[hL,dY (show(0:Int)<=1/\(1:Int)<=((v.B3.length:Nat):Int)/\((v.B3.length:Nat):Int)<=((v.B3.length:Nat):Int) by omega)];rfl
  have dropF: ∀L:List Q0a,cY (cZ ((L.length:Nat):Int)-cZ 1) (dA (cZ 1) L)=L.drop 1:=λL=>by
    show cY (L.length-1) (dA 1 L)=_
    rw[eV (by rw[bF];exact aO _)]
  refine w_ev4 (λh=>cc h) (λh1 h2 h3=> ?_) λhx=> ?_
  . obtain⟨m,l,kn,ck⟩:=v
    cases l with
    |nil=>exact absurd (oY h1) (by show¬((0:Nat):Int)>0;decide)
    | cons e l=>
      have he:=a3 e (by simp)
      have h2:e.At<=m.A2:=oY h2
      have h3:(e.B6.B7 !=1)=true:=h3
      obtain⟨k1,k2⟩:=Qnz a1 he
      refine w_an (Z70 (r:=⟨m,e::l,kn,ck⟩) a1.ok he) (w_lv λx3 e3=> ?_)
      have e3:x3=((Q0s m e.B6).1,(⟨(Q0s m e.B6).2,e::l,kn,ck⟩:Q01)):=e3.trans (vn _ _)
      have e4:x3.2=(⟨(Q0s m e.B6).2,e::l,kn,ck⟩:Q01):=congrArg fF e3
      refine w_cn (c1 h1 _ (by rw[e4])) (w_nx ?_)
      rw[e4]
      show(good P (Q0s m e.B6).2/\(Q0s m e.B6).2.A2=yp.A0.A2/\(∀q∈cY (cZ (((e::l).length:Nat):Int)-cZ 1) (dA (cZ 1) (e::l)),U q.B6.N)/\setF ⟨(Q0s m e.B6).2,cY (cZ (((e::l).length:Nat):Int)-cZ 1) (dA (cZ 1) (e::l)),kn,ck⟩=setF yp)/\(cY (cZ (((e::l).length:Nat):Int)-cZ 1) (dA (cZ 1) (e::l))).length<(e::l).length
      rw[dropF]
      refine⟨⟨k1,k2.trans a2,λq hq=>a3 q (fH _ hq),?_⟩,by show l.length<(e::l).length;rw[dD];omega⟩
      rw[<-a4]
      show(⟨(dueF l (Q0s m e.B6).2).1,(dueF l (Q0s m e.B6).2).2,kn,ck⟩:Q01)=⟨(dueF (e::l) m).1,(dueF (e::l) m).2,kn,ck⟩
      rw[Zlf h2 h3]
  have vz:v=setF yp:=by
    rw[<-a4]
    show v=⟨(dueF v.B3 v.A0).1,(dueF v.B3 v.A0).2,v.B5,v.A7⟩
    rw[xP hx]
  rw[vz]at hx cc c1⊢
  generalize hz:setF yp=z at*
  have stk:Q0z z.A0=true->(z,yo)=folF ((Q0i steps-(yi+1)).toNat+1) yp yo:=λhs=>by rw[Qro hk (by rw[hz];exact hs),hz]
  have wai:Q0z z.A0=false->Qo7 z=false->(z,yo)=folF ((Q0i steps-(yi+1)).toNat+1) yp yo:=λhs hp=>by rw[Qv hk (by rw[hz];exact hs) (by rw[hz];exact hp),hz]
  have rp:Q41 z.A0:=(Tree.pp (Qq4 g.m.ok.cpu g.m.ok.mem)).1
  refine w_an (Tree.pp (Zcs z.A0)).1 (w_lv λx4 e4=>w_br (λhs=>stk (by rw[<-e4];exact hs)) λhs=> ?_)
  have hs:Q0z z.A0=false:=by rw[<-e4];exact hs
  have fin: ∀(w:Int) (q:Q01),U w->Qo7 z=true->Qar z=(w,q.B3,q.A7)->q.A0=z.A0->q.B5=z.B5-> ∀x:List Q03×Q01,x=Q7h q w->decide (40*(yo.length+x.1.length)<=140737488355328)=true/\((0<=wrap .i64 (yi+1)/\wrap .i64 (yi+1)<=Q0i steps/\Qm8 P (k+wrap .i64 (yi+1)) x.2/\((yo++x.1).length:Int)<=wrap .i64 (yi+1)/\folF (Q0i steps-wrap .i64 (yi+1)).toNat x.2 (yo++x.1)=folF ((Q0i steps-(yi+1)).toNat+1) yp yo)/\Q9o x0 steps (wrap .i64 (yi+1),x.2,yo++x.1)<Q9o x0 steps (yi,yp,yo)):=λw q hw hp ht q1 q2 x hx=>by
    rw[qas,q1]at hx
    obtain⟨k1,k2,k3⟩:=Z28 g hs
    have ge:x.2=goF z:=by
      rw[hx]
      show(⟨(Q0r z.A0 w).2,q.B3,q.B5,q.A7⟩:Q01)=⟨(Q0r z.A0 (Qar z).1).2,(Qar z).2.1,z.B5,(Qar z).2.2⟩
      rw[ht,q2]
    have oe:x.1=outF z:=by
      rw[hx]
      show(Q0r z.A0 w).1=(Q0r z.A0 (Qar z).1).1
      rw[ht]
    rw[ew,ge,oe]
    refine⟨dY (by omega),⟨by omega,by omega,⟨k1.m,by have:=k1.cnt;omega,k1.clock,k1.log,k1.u⟩,by rw[lA];omega,?_⟩,?_⟩
    . rw[Zdr hk (by rw[hz];exact hs) (by rw[hz];exact hp),hz]
    . show(4000-(yi+1)).toNat<(4000-yi).toNat
      omega
  have go0:(∀e∈z.B3.head?,z.A0.A2<e.At)-> ∀x5:Bool,x5=Q0g z.A0->(!false==x5)=false-> ∀x:List Q03×Q01,x=Q7h z 0->_:=λhl x5 e5 hn=>fin 0 z U_0 (by rw[Zb0 hl,<-e5,<-eq_of_beq (bm2 _ _ hn)];rfl) (Zpm (by rw[<-e5,<-eq_of_beq (bm2 _ _ hn)])) rfl rfl
  have no0:(∀e∈z.B3.head?,z.A0.A2<e.At)-> ∀x5:Bool,x5=Q0g z.A0->(!false==x5)=true->(z,yo)=folF ((Q0i steps-(yi+1)).toNat+1) yp yo:=λhl x5 e5 hn=>wai hs (by
    have:=bm1 _ _ hn
    rw[Zb0 hl,<-e5]
    revert this;cases x5<;>decide)
  refine w_br (λhl=>w_cn (cc hl) (w_br (λha=>w_cn (cc hl) (w_br (λhlt=> ?_) λhge=> ?_)) λha=> ?_)) λhl=> ?_
  . obtain⟨m,l,kn,ck⟩:=z
    cases l with
    |nil=>exact absurd (oY hl) (by show¬((0:Nat):Int)>0;decide)
    | cons e l=>
      have ha:e.At<=m.A2:=oY ha
      have hlt:e.At<m.A2:=oY hlt
      have hx:(decide ((((e::l).length:Nat):Int)>0)&&(decide (e.At<=m.A2)&&(e.B6.B7 !=1)))=false:=hx
      rw[dY (show(((e::l).length:Nat):Int)>0 by rw[dD];omega),dY ha]at hx
      have kd:e.B6.B7=1:=by simpa using hx
      refine wai hs ?_
      rw[Zk9 (p:=⟨m,e::l,kn,ck⟩) rfl ha kd,show(e.At==m.A2)=false from beq_false_of_ne (by omega)]
      cases Q0g m<;>rfl
  . obtain⟨m,l,kn,ck⟩:=z
    cases l with
    |nil=>exact absurd (oY hl) (by show¬((0:Nat):Int)>0;decide)
    | cons e l=>
      have ha':=ha
      have ha:e.At<=m.A2:=oY ha
      have hge: ¬e.At<m.A2:=oN hge
      have hx:(decide ((((e::l).length:Nat):Int)>0)&&(decide (e.At<=m.A2)&&(e.B6.B7 !=1)))=false:=hx
      rw[dY (show(((e::l).length:Nat):Int)>0 by rw[dD];omega),dY ha]at hx
      have kd:e.B6.B7=1:=by simpa using hx
      have pe:=Zk9 (p:=⟨m,e::l,kn,ck⟩) rfl ha kd
      rw[show(e.At==m.A2)=true by rw[show e.At=m.A2 by omega];exact beq_self_eq_true _]at pe
      refine w_an rp (w_lv λx5 e5=> ?_)
      have e5:x5=Q0g m:=e5
      refine w_br (λhn=>wai hs ?_) λhn=>w_br (λ_=>w_cn (cc hl) (w_cn (c1 hl _ rfl) ?_)) λhq=>absurd (oN hq) (by show¬ ¬e.At<=m.A2;omega)
      . have hn:(!decide (e.At<=m.A2)==x5)=true:=hn
        rw[dY ha]at hn
        have:=bm1 _ _ hn
        rw[pe]
        show(bif Q0g m then true else false)=false
        rw[<-e5]
        revert this;cases x5<;>decide
      . have hn:(!decide (e.At<=m.A2)==x5)=false:=hn
        rw[dY ha]at hn
        have hr:Q0g m=true:=by rw[<-e5];exact(eq_of_beq (bm2 _ _ hn)).symm
        have ue:U e.B6.N:=g.u e (by simp)
        have pt:Qo7 (⟨m,e::l,kn,ck⟩:Q01)=true:=by
          rw[pe]
          show(bif Q0g m then true else false)=true
          rw[hr];rfl
        have tk:=qo (p:=⟨m,e::l,kn,ck⟩) rfl hr
        have F:=fin e.B6.N ⟨m,cY (cZ (((e::l).length:Nat):Int)-cZ 1) (dA (cZ 1) (e::l)),kn,wrap .u32 (e.B6.N+1)⟩ ue pt (by rw[tk,dropF];rfl) rfl rfl
        refine w_an (Qrk (r:=⟨m,cY (cZ (((e::l).length:Nat):Int)-cZ 1) (dA (cZ 1) (e::l)),kn,wrap .u32 (e.B6.N+1)⟩) g.m.ok ue) (w_lv λx6 e6=>w_cn (F x6 e6).1 (w_nx (F x6 e6).2))
  . have late: ∀e∈z.B3.head?,z.A0.A2<e.At:=λe he=>by
      cases hL:z.B3 with
      |nil=>rw[hL]at he;cases he
      | cons a l=>
        rw[hL]at he ha
        have ha: ¬a.At<=z.A0.A2:=oN ha
        have he:some a=some e:=he
        injection he with he
        rw[<-he];omega
    have df:decide ((z.B3.getD (cZ 0) (RK.dflt RK.apiEntry)).At<=z.A0.A2)=false:=ha
    refine w_an rp (w_lv λx5 e5=> ?_)
    rw[df]
    exact w_br (λhn=>no0 late x5 e5 hn) λhn=>w_br (λhq=>by cases hq) λ_=>w_an (Qrk g.m.ok U_0) (w_lv λx6 e6=>w_cn (go0 late x5 e5 hn x6 e6).1 (w_nx (go0 late x5 e5 hn x6 e6).2))
  . have late: ∀e∈z.B3.head?,z.A0.A2<e.At:=λe he=>by
      have hl:=oN hl
      cases hL:z.B3 with
      |nil=>rw[hL]at he;cases he
      |cons a l=>exact absurd (show(z.B3.length:Int)>0 by rw[hL,dD];omega) hl
    refine w_an rp (w_lv λx5 e5=> ?_)
    exact w_br (λhn=>no0 late x5 e5 hn) λhn=>w_an (Qrk g.m.ok U_0) (w_lv λx6 e6=>w_cn (go0 late x5 e5 hn x6 e6).1 (w_nx (go0 late x5 e5 hn x6 e6).2))
theorem zP{p:Q01}(hm:p.A0.Mem.length<=1024)(hl:p.B3.length<=1000000){l:List Q0a}(known:Int):(Qgw p l known).w (λx=>x=Ql7 p l known):=by
 unfold Qgw
 refine Q0c (Zdy hm hl) λx0 e0=> ?_
 subst e0
 refine w_br (λh1=> ?_) (λh1=>w_br (λh2=> ?_) (λh2=>w_br (λh3=> ?_) (λh3=> ?_)))
 . show(x0,false)=_;unfold Ql7;rw[h1];rfl
 . show(x0,false)=_;unfold Ql7;rw[h1,h2];rfl
 . have l4:=oN h2
   have h3:=oY h3
   have h3:decide ((x0.B3.length:Int)+l.length>4096)=true:=dY (by
     rw[show i64.wrap (4096-((l.length:Nat):Int))=4096-((l.length:Nat):Int) by rw[wrap_i64];omega]at h3
     omega)
   show(x0,false)=_;unfold Ql7;rw[h1,h2,h3];rfl
 have l4:=oN h2
 have h3:=oN h3
 have h3:decide ((x0.B3.length:Int)+l.length>4096)=false:=dN (by
   rw[show i64.wrap (4096-((l.length:Nat):Int))=4096-((l.length:Nat):Int) by rw[wrap_i64];omega]at h3
   omega)
 have no:l.all (Qc4 x0 known)=false->(x0,false)=Ql7 x0 l known:=λh=>by unfold Ql7;rw[h1,h2,h3,h];rfl
 refine w_lp (inv:=λv:Int=>0<=v/\v<=l.length/\(l.drop v.toNat).all (Qc4 x0 known)=l.all (Qc4 x0 known)) (μ:=Qd5 x0 l known) ⟨cR 0,by omega,rfl⟩ (cK _) λv ⟨v0,v1,v2⟩=> ?_
 refine w_br (λhb=> ?_) (λhb=> ?_)
 . have hb:v<l.length:=oY hb
   have hlt:v.toNat<l.length:=by omega
   have cn:(bS 4 4&&bT 0 4&&decide (0<=v/\v<(l.length:Int)))=true:=by simp [bT];omega
   have ed:l.getD v.toNat (RK.dflt RK.apiEntry)=l[v.toNat]:=Z2i hlt
   rw[aB hlt,fG,<-ed]at v2
   have ew:i64.wrap (v+1)=v+1:=by rw[wrap_i64];omega
   generalize l.getD v.toNat (RK.dflt RK.apiEntry)=e at*
   have bad:Qc4 x0 known e=false->(x0,false)=Ql7 x0 l known:=λh=>no (by rw[<-v2,h];rfl)
   have nx:Qc4 x0 known e=true->(0<=wrap .i64 (v+1)/\wrap .i64 (v+1)<=l.length/\(l.drop (wrap .i64 (v+1)).toNat).all (Qc4 x0 known)=l.all (Qc4 x0 known))/\Qd5 x0 l known (wrap .i64 (v+1))<Qd5 x0 l known v:=λh=>by
     show _/\(l.length-wrap .i64 (v+1)).toNat<(l.length-v).toNat
     rw[ew]
     refine⟨⟨by omega,by omega,?_⟩,by omega⟩
     rw[<-v2,h,show(v+1).toNat=v.toNat+1 by omega];rfl
   refine w_cn cn (w_br (λg1=>bad (by unfold Qc4;rw[g1];rfl)) λg1=>w_br (λg2=>bad (by unfold Qc4;rw[g1,g2];rfl)) λg2=>w_br (λg3=>w_cn cn (w_br (λg4=>bad (by unfold Qc4;rw[g1,g2,g3,g4];rfl)) λg4=>w_cn cn (w_lv λx1 e1=> ?_))) λg3=>w_cn cn (w_lv λx1 e1=> ?_))
   . have ok:Qc4 x0 known e=Q34 e.B6:=by unfold Qc4;rw[g1,g2,g3,g4];rfl
     exact w_br (λh=>bad (by rw[ok,<-e1];simpa using h)) (λh=>w_nx (nx (by rw[ok,<-e1];simpa using h)))
   . have ok:Qc4 x0 known e=Q34 e.B6:=by unfold Qc4;rw[g1,g2,g3];rfl
     exact w_br (λh=>bad (by rw[ok,<-e1];simpa using h)) (λh=>w_nx (nx (by rw[ok,<-e1];simpa using h)))
 . have hb: ¬v<l.length:=oN hb
   rw[aA (by omega)]at v2
   have v2:l.all (Qc4 x0 known)=true:=v2.symm
   have hlen:(x0.B3++l).length<=1000000+400:=by rw[lA];omega
   have oo:Qhp (x0.B3++l)=Q5m (x0.B3++l):=by
     have:=oN h3
     rw[Zjs (by rw[lA];omega),Zc4 (by rw[lA];omega)]
   refine w_cn (dY (by omega)) (w_cn (dY (by omega)) (w_an (show(x0.B3++l).length<=1000000000000 by omega) (w_lv λx4 e4=> ?_)))
   rw[oo]at e4
   refine w_br (λh=> ?_) (λh=> ?_)
   . have h:Q5m (x0.B3++l)=false:=by rw[<-e4];simpa using h
     show(x0,false)=_
     unfold Ql7;rw[h1,h2,h3,v2,h];rfl
   . have h:Q5m (x0.B3++l)=true:=by rw[<-e4];simpa using h
     show(({A0:=x0.A0,B3:=x0.B3++l,B5:=known,A7:=x0.A7}:Q01),true)=_
     unfold Ql7;rw[h1,h2,h3,v2,h];rfl
structure Qsm(p:Q01):Prop where
 v:okV p.A0
 mem:p.A0.Mem.length<=1024
 clock:U p.A7
 log:p.B3.length<=800000
 u: ∀e∈p.B3,U e.B6.N
theorem Qsm.good{p:Q01}(h:Qsm p)(hm:Q18 p.A0=true): ∃P,Qm8 P p.A0.A2 p:=by
 obtain⟨P,_,o⟩:=may_P h.v hm
 exact⟨P,⟨o,hm⟩,cR _,h.clock,by have:=h.log;omega,h.u⟩
theorem Zc5{p:Q01}(h:Q25 p.A0=false)(steps:Int):folP p steps=(p,[]):=by unfold folP;rw[h];rfl
theorem Zp3{p:Q01}(h:Qsm p)(steps:Int):(Q3 p steps).w (λx=>x=folP p steps):=by
 have hl:=h.log
 cases hm:Q18 p.A0
 . have hr:Q25 p.A0=false:=(Qij h.v).symm.trans hm
   rw[Zc5 hr]
   unfold Q3
   refine Q0c (Quz h.mem (by omega)) λx0 e0=> ?_
   subst e0
   exact w_an (Tree.pp (Zak h.v.bal.2)).1 (w_lv λx1 e1=>w_br (λ_=>rfl) λhb=>by rw[e1,hm]at hb;cases hb)
 . obtain⟨P,g⟩:=h.good hm
   exact qaq g steps
theorem Zgp{p:Q01}(h:Qsm p)(steps:Int):(Q7f p steps).w (λx=>x=folP p steps):=by
 have hl:=h.log
 cases hm:Q18 p.A0
 . have hr:Q25 p.A0=false:=(Qij h.v).symm.trans hm
   rw[Zc5 hr]
   unfold Q7f
   refine Q0c (Zdy h.mem (by omega)) λx0 e0=> ?_
   subst e0
   exact w_lv λx1 e1=>w_br (λ_=>rfl) λhb=>by rw[e1,hr]at hb;cases hb
 . obtain⟨P,g⟩:=h.good hm
   exact xo g steps
theorem zo{P:Nat}: ∀(n:Nat) {k:Int} {p:Q01} (o:List Q03),Qm8 P k p->(folF n p o).1.B3<:+p.B3
  |0,k,p,o,h=>bW _
  | n + 1,k,p,o,h=>by
    by_cases hk:p.B5<=p.A0.A2
    . rw[Qvu hk];exact bW _
    . obtain⟨g,_,sf⟩:=Qx9 h
      cases hs:Q0z (setF p).A0
      . cases hp:Qo7 (setF p)
        . rw[Qv hk hs hp];exact sf
        . rw[Zdr hk hs hp]
          obtain⟨k1,_⟩:=Z28 g hs
          obtain⟨_,_,ts⟩:=Zm1 g
          exact(zo n _ k1).trans (List.IsSuffix.trans ts sf)
      . rw[Qro hk hs];exact sf
theorem Qsm.fol{p:Q01}(h:Qsm p)(steps:Int):Qsm (folP p steps).1/\(folP p steps).2.length<=4000:=by
 have hl:=h.log
 cases hm:Q18 p.A0
 . have hr:Q25 p.A0=false:=(Qij h.v).symm.trans hm
   rw[Zc5 hr]
   exact⟨h,aT _⟩
 . obtain⟨P,g⟩:=h.good hm
   obtain⟨l0,l1⟩:=Qn8 steps
   rw[Zld g.m.rmay]
   obtain⟨a,b⟩:=Zg5 (Q0i steps).toNat [] g
   have s:=(zo (Q0i steps).toNat [] g).length_le
   have:([]:List Q03).length=0:=rfl
   exact⟨⟨a.m.v,a.m.len,a.clock,by omega,a.u⟩,by omega⟩
def Qsi(l:List Q0a)(m:Q00):Q00:=l.foldl (λm e=>(Q0s m e.B6).2) m
def zeroM:Q00:={B2:={X:={a0:=0,a1:=0,a2:=0,a3:=0,a4:=0,a5:=0,a6:=0,a7:=0,a8:=0,a9:=0,a10:=0,a11:=0,a12:=0,a13:=0,a14:=0,a15:=0},Pc:=0,B8:={a0:=0,a1:=0,a2:=0,a3:=0,a4:=0,a5:=0,a6:=0,a7:=0}},Mem:=[],A3:={D2:=[]},B0:={D4:=false,C8:=0,D3:=false},B1:={Blocks:=0,C3:=0,Frame:=0,C4:=0,D8:=0,B9:=0,B4:=0,C6:=[]},C2:={Frame:=0,E0:=0,C7:=false,C1:=0,C0:=false,F1:=0},A1:={C9:=0,C5:=0},A2:=0,A4:=false,A6:=false}
def Qwe(p:Q01):Q02×Bool:=bif Q25 p.A0 then(bif p.A0.A2 !=p.B5 then({A0:=zeroM,A7:=0,B3:=[],A9:=[]},false) else({A0:=Qsi p.B3 p.A0,A7:=p.A7,B3:=[],A9:=[]},true)) else({A0:=zeroM,A7:=0,B3:=[],A9:=[]},false)
theorem Zbe{P:Nat}: ∀(l:List Q0a),(∀e∈l,U e.B6.N)-> ∀{m:Q00},good P m->good P (Qsi l m)
 |[],_,m,g=>g
 |e::l,hu,m,g=>Zbe l (λq hq=>hu q (fH _ hq)) (Qnz g (hu e (by simp))).1
theorem vo{p:Q01}(h:Qsm p):(Qwe p).1.A0.Mem.length<=1024/\(Qwe p).1.B3.length=0/\(Qwe p).1.A9.length=0:=by
 unfold Qwe
 cases hm:Q18 p.A0
 . have hr:Q25 p.A0=false:=(Qij h.v).symm.trans hm
   rw[hr];exact⟨aT _,rfl,rfl⟩
 . obtain⟨P,g⟩:=h.good hm
   rw[g.m.rmay]
   show(Q02.A0 (fD (bif p.A0.A2 !=p.B5 then _ else _))).Mem.length<=1024/\_
   cases hc:p.A0.A2 !=p.B5
   . exact⟨(Zbe p.B3 h.u g.m).len,rfl,rfl⟩
   . exact⟨aT _,rfl,rfl⟩
theorem yP{p:Q01}(h:Qsm p):(Q62 p).w (λx=>x=Qwe p):=by
 unfold Q62
 refine w_an (Tree.pp (Zak h.v.bal.2)).1 (w_lv λx0 e0=> ?_)
 have e1:x0=Q25 p.A0:=e0.trans (Qij h.v)
 refine w_br (λhb=> ?_) λhb=> ?_
 . have hr:Q25 p.A0=false:=by rw[<-e1];simpa using hb
   show(_,false)=_
   unfold Qwe;rw[hr];rfl
 have hr:Q25 p.A0=true:=by rw[<-e1];simpa using hb
 obtain⟨P,g⟩:=h.good (e0.symm.trans (e1.trans hr))
 refine w_br (λhc=> ?_) λhc=> ?_
 . have hc:(p.A0.A2 !=p.B5)=true:=hc
   show(_,false)=_
   unfold Qwe;rw[hr,hc];rfl
 have hc:(p.A0.A2 !=p.B5)=false:=hc
 have hl:=h.log
 have fin:Qwe p=({A0:=Qsi p.B3 p.A0,A7:=p.A7,B3:=[],A9:=[]},true):=by unfold Qwe;rw[hr,hc];rfl
 refine w_lp (inv:=λv:Int×Q00=>0<=v.1/\v.1<=p.B3.length/\good P v.2/\Qsi (p.B3.drop v.1.toNat) v.2=Qsi p.B3 p.A0) (μ:=Qk4 p) ⟨cR 0,by show(0:Int)<=_;omega,g.m,rfl⟩ (cK _) λv ⟨v0,v1,v2,v3⟩=> ?_
 obtain⟨i,m⟩:=v
 have v0:0<=i:=v0
 have v1:i<=p.B3.length:=v1
 have v2:good P m:=v2
 have v3:Qsi (p.B3.drop i.toNat) m=Qsi p.B3 p.A0:=v3
 refine w_br (λhb=> ?_) (λhb=> ?_)
 . have hb:i<p.B3.length:=oY hb
   have hlt:i.toNat<p.B3.length:=by omega
   have ed:=Z2i hlt
   have ue:U (p.B3.getD i.toNat (RK.dflt RK.apiEntry)).B6.N:=h.u _ (by rw[ed];exact cM hlt)
   rw[aB hlt,<-ed]at v3
   have ew:i64.wrap (i+1)=i+1:=by rw[wrap_i64];omega
   obtain⟨k1,k2⟩:=Qnz v2 ue
   refine w_cn (by simp [bT];omega) (w_an (Zb1 v2.v v2.len ue) (w_lv λx1 e1=>w_nx ?_))
   have e1:x1=((Q0s m (p.B3.getD i.toNat (RK.dflt RK.apiEntry)).B6).2,(Q0s m (p.B3.getD i.toNat (RK.dflt RK.apiEntry)).B6).1):=e1.trans (v2.app _)
   have e2:x1.1=(Q0s m (p.B3.getD i.toNat (RK.dflt RK.apiEntry)).B6).2:=congrArg fD e1
   show(0<=i64.wrap (i+1)/\i64.wrap (i+1)<=p.B3.length/\good P x1.1/\Qsi (p.B3.drop (i64.wrap (i+1)).toNat) x1.1=_)/\(p.B3.length-i64.wrap (i+1)).toNat<(p.B3.length-i).toNat
   rw[ew,e2,show(i+1).toNat=i.toNat+1 by omega]
   exact⟨⟨by omega,by omega,k1,v3⟩,by omega⟩
 . have hb: ¬i<p.B3.length:=oN hb
   rw[aA (by omega)]at v3
   have v3:m=Qsi p.B3 p.A0:=v3
   refine Q0c (zaI v2.len) λx2 e2=> ?_
   show(({A0:=x2.A0,A7:=p.A7,B3:=x2.B3,A9:=x2.A9}:Q02),true)=_
   rw[e2,v3,fin]
theorem vP{p:Q01}(h:Qsm p):(Qcv p).w (λx=>x=Qwe p):=by
 have hl:=h.log
 unfold Qcv
 refine Q0c (Zdy h.mem (by omega)) λx0 e0=> ?_
 subst e0
 refine w_lv λx1 e1=>w_br (λhb=> ?_) λhb=> ?_
 . have hr:Q25 x0.A0=false:=by rw[<-e1];simpa using hb
   show(_,false)=_
   unfold Qwe;rw[hr];rfl
 have hr:Q25 x0.A0=true:=by rw[<-e1];simpa using hb
 obtain⟨P,g⟩:=h.good ((Qij h.v).trans hr)
 refine w_br (λhc=> ?_) λhc=> ?_
 . have hc:(x0.A0.A2 !=x0.B5)=true:=hc
   show(_,false)=_
   unfold Qwe;rw[hr,hc];rfl
 have hc:(x0.A0.A2 !=x0.B5)=false:=hc
 have fin:Qwe x0=({A0:=Qsi x0.B3 x0.A0,A7:=x0.A7,B3:=[],A9:=[]},true):=by unfold Qwe;rw[hr,hc];rfl
 refine w_lp (inv:=λv:Int×Q01=>0<=v.1/\v.1<=x0.B3.length/\good P v.2.A0/\v.2.B3=x0.B3/\v.2.A7=x0.A7/\Qsi (x0.B3.drop v.1.toNat) v.2.A0=Qsi x0.B3 x0.A0) (μ:=Q9r x0) ⟨cR 0,by show(0:Int)<=_;omega,g.m,rfl,rfl,rfl⟩ (cK _) λv ⟨v0,v1,v2,v4,v5,v3⟩=> ?_
 obtain⟨i,q⟩:=v
 have v0:0<=i:=v0
 have v1:i<=x0.B3.length:=v1
 have v2:good P q.A0:=v2
 have v4:q.B3=x0.B3:=v4
 have v5:q.A7=x0.A7:=v5
 have v3:Qsi (x0.B3.drop i.toNat) q.A0=Qsi x0.B3 x0.A0:=v3
 refine w_br (λhb=> ?_) (λhb=> ?_)
 . have hb:i<q.B3.length:=oY hb
   rw[v4]at hb
   have hlt:i.toNat<x0.B3.length:=by omega
   have ed:=Z2i hlt
   have ue:U (x0.B3.getD i.toNat (RK.dflt RK.apiEntry)).B6.N:=h.u _ (by rw[ed];exact cM hlt)
   rw[aB hlt,<-ed]at v3
   have ew:i64.wrap (i+1)=i+1:=by rw[wrap_i64];omega
   obtain⟨k1,k2⟩:=Qnz v2 ue
   refine w_cn (by show(bS 4 4&&bT 0 4&&decide (0<=i/\i<((q.B3.length:Nat):Int)))=true;rw[v4];simp [bT];omega) (w_an (Z70 v2.ok (by show U (q.B3.getD i.toNat (RK.dflt RK.apiEntry)).B6.N;rw[v4];exact ue)) (w_lv λx1 e1=>w_nx ?_))
   have e1:x1=((Q0s q.A0 (q.B3.getD i.toNat (RK.dflt RK.apiEntry)).B6).1,Z36 q (Q0s q.A0 (q.B3.getD i.toNat (RK.dflt RK.apiEntry)).B6).2):=e1.trans (vn _ _)
   rw[v4]at e1
   have e2:x1.2=Z36 q (Q0s q.A0 (x0.B3.getD i.toNat (RK.dflt RK.apiEntry)).B6).2:=congrArg fF e1
   show(0<=i64.wrap (i+1)/\i64.wrap (i+1)<=x0.B3.length/\good P x1.2.A0/\x1.2.B3=x0.B3/\x1.2.A7=x0.A7/\Qsi (x0.B3.drop (i64.wrap (i+1)).toNat) x1.2.A0=_)/\Q9r x0 (i64.wrap (i+1),x1.2)<Q9r x0 (i,q)
   rw[ew,e2,show(i+1).toNat=i.toNat+1 by omega]
   refine⟨⟨by omega,by omega,k1,v4,v5,v3⟩,?_⟩
   show(x0.B3.length-(i+1)).toNat<(x0.B3.length-i).toNat
   omega
 . have hb: ¬i<q.B3.length:=oN hb
   rw[v4]at hb
   rw[aA (by omega)]at v3
   have v3:q.A0=Qsi x0.B3 x0.A0:=v3
   show(({A0:=q.A0,A7:=q.A7,B3:=[],A9:=[]}:Q02),true)=_
   rw[v3,v5,fin]
theorem Zoz{m:Q00}(h:m.Mem.length<=1024):(Q67 m).w (λx=>x=newQ m):=by
 unfold Q67
 exact Q0c (ownV h) λx hx=>by rw[hx];rfl
theorem xaK(p:Q01):Qdx p=Qmp p:=by
 simp only[Qdx,Qpw,Qmp,Qu5,Tree.m]
theorem Zls(p:Q01)(l:List Q0a)(known:Int):(Ql7 p l known).1=p\/(l.length<=400/\(Ql7 p l known).1={A0:=p.A0,B3:=p.B3++l,B5:=known,A7:=p.A7}):=by
  unfold Ql7
  cases decide (known<p.B5)
  . cases h2:decide ((l.length:Int)>400)
    . cases decide ((p.B3.length:Int)+l.length>4096)
      . cases l.all (Qc4 p known)
        . exact .inl rfl
        . cases Q5m (p.B3++l)
          . exact .inl rfl
          . exact .inr ⟨by have:=oN h2;omega,rfl⟩
      . exact .inl rfl
    . exact .inl rfl
  . exact .inl rfl
theorem Qsm.feed{p:Q01}(h:Qsm p)(hl:p.B3.length<=700000){l:List Q0a}(hu: ∀e∈l,U e.B6.N)(known:Int):Qsm (Ql7 p l known).1:=by
 rcases Zls p l known with e|⟨n,e⟩
 . rw[e];exact h
 . rw[e]
   exact⟨h.v,h.mem,h.clock,by show(p.B3++l).length<=_;rw[lA];omega,λq hq=>(List.mem_append.1 hq).elim (h.u q) (hu q)⟩
theorem Zmf{d:D}(h:Fit (.sl [.int .u64, .int .i64, .int .u32, .str]) d): ∃l:List Q0a,SubV d (.sl 4 (.recs .apiEntry l) false)/\l.length<=1000000000000000/\ ∀e∈l,U e.B6.N:=by
 unfold Fit at h
 obtain⟨es,rfl,hl,h⟩:=h
 obtain⟨l,rfl,hu⟩:=Z06 h
 refine⟨l,Sub1.gens (k:= .apiEntry) rfl,?_,λe he=>(hu e he).1⟩
 rw[fI]at hl
 have hl:=bH (fJ l.length (by decide)) hl
 unfold reachBytes at hl;omega
theorem Ze9{es:List D}(h:Fits ([.int .u32, .int .u32, .int .u32, .int .u32, .int .u32, .int .u32, .int .u32, .int .u32, .int .u32, .int .u32, .int .u32, .int .u32, .int .u32, .int .u32, .int .u32, .int .u32, .int .u32, .int .u32, .int .u32, .int .u32, .int .u32, .int .u32, .int .u32, .int .u32, .int .u32, .sl [.int .u32], .str, .bool, .int .u32, .bool, .int .u32, .int .u32, .int .u32, .int .i64, .int .i64, .int .u32, .int .u32, .str, .int .u32, .int .u32, .bool, .int .u32, .bool, .int .u32, .int .u32, .int .u32, .int .u64, .bool, .bool]++[.sl [.int .u64, .int .i64, .int .u32, .str], .int .u64, .int .u32]) es): ∃p:Q01,SubL es p.cells/\okV p.A0/\U p.A7/\p.B3.length<=1000000000000000/\ ∀e∈p.B3,U e.B6.N:=by
 obtain⟨a,b,rfl,h1,h2⟩:=Zrn h
 obtain⟨m,rfl,hm,_⟩:=Zgo h1
 obtain⟨d1,e1,rfl,g1,H1⟩:=Q0t h2
 unfold Fit at g1
 obtain⟨es1,rfl,hl,g1⟩:=g1
 obtain⟨log,rfl,hu⟩:=Z06 g1
 have hl:log.length<=1000000000000000:=by
   rw[fI]at hl
   have hl:=bH (fJ log.length (by decide)) hl
   unfold reachBytes at hl;omega
 obtain⟨d2,e2,rfl,g2,H2⟩:=Q0t H1
 obtain⟨kn,rfl,bk⟩:=Q1n g2
 obtain⟨d3,e3,rfl,g3,H3⟩:=Q0t H2
 obtain⟨c,rfl,bc⟩:=Q1n g3
 obtain rfl:=Zcw H3
 refine⟨⟨m,log,kn,c⟩,?_,hm,u_of bc,hl,λe he=>(hu e he).1⟩
 have e:(⟨m,log,kn,c⟩:Q01).cells=m.cells++[.sl 4 (.recs .apiEntry log) false, .int .u64 kn, .int .u32 c]:=by kernel_rfl
 rw[e]
 exact SubL.append SubL.rfl ⟨Sub1.gens (k:= .apiEntry) _root_.rfl,Sub1.rfl,Sub1.rfl,trivial⟩
theorem qp{l:List Q0a}(hl:l.length<=1000000)(hu: ∀e∈l,U e.B6.N)(how at0:Int):(Qcg l how at0).w (λr=> ∀e∈r,U e.B6.N):=by
 unfold Qcg
 refine w_br (λ_=>w_lf hu) λh0=> ?_
 have h0: ¬(l.length:Int)=0:=by simpa using h0
 refine w_cn (dY (by omega)) (w_an (Qes h0) (w_lv λx0 e0=>w_an (Qes (by decide)) (w_lv λx1 _=> ?_)))
 have rr:=Z50 (n:=at0) (k:=(l.length:Int)) (by omega) (by omega)
 rw[<-e0]at rr
 have hlt:x0.toNat<l.length:=by omega
 have ug:U (l.getD x0.toNat (RK.dflt RK.apiEntry)).B6.N:=by rw[Z2i hlt];exact hu _ (cM _)
 have ew:i64.wrap (x0+1)=x0+1:=by rw[wrap_i64];omega
 have c1:(bS 4 4&&bT 0 4&&decide (0<=x0/\x0<(l.length:Int)))=true:=by simp [bT];omega
 have us: ∀e:Q0a,U e.B6.N-> ∀q∈l.set x0.toNat e,U q.B6.N:=λe he q hq=>by
   rcases List.mem_or_eq_of_mem_set hq with h|h
   . exact hu q h
   . rw[h];exact he
 have ut: ∀(a b c:Nat),∀q∈cY a l++cY b (dA c l),U q.B6.N:=λa b c q hq=>by
   rcases List.mem_append.1 hq with h|h
   . exact hu q (cS h)
   . exact hu q (cU (cS h))
 refine w_br (λ_=>w_cn c1 (w_cn c1 (w_lf (us _ ug)))) λ_=>w_br (λ_=>w_cn ?_ (w_cn ?_ (w_cn ?_ (w_lf (ut _ _ _))))) λ_=>w_br (λ_=>w_cn ?_ (w_cn ?_ (w_cn ?_ (w_lf (ut _ _ _))))) λ_=>w_br (λ_=>Q0c (Zm0 at0) λx2 h2=>w_cn c1 (w_lf (us _ h2))) λ_=>w_lf hu
 . simp [bT];omega
 . rw[ew];simp [bT];omega
 . refine dY ?_
   rw[bD,bD,bF];omega
 . rw[ew];simp [bT];omega
 . simp [bT];omega
 . refine dY ?_
   rw[bD,bD,bF];omega
theorem xp{l:List Q0a}(hl:l.length<=1000000000000000):(Qff l).w (λr=>r=true->l.length<=60):=by
 unfold Qff
 refine w_lp (inv:=λv:Int=>0<=v/\v<=l.length) (μ:=Qnh l) ⟨cR 0,by omega⟩ (cK _) λv ⟨v1,v2⟩=> ?_
 refine w_br (λhb=>w_br (λ_=> ?_) λ_=>w_lf λh=>by have:=oY h;omega) λ_=>w_lf λh=>by have:=oY h;omega
 have hb:=oY hb
 have ew:i64.wrap (v+1)=v+1:=by rw[wrap_i64];omega
 refine w_cn (by simp [bT];omega) (w_br (λ_=>w_lf λh=>by cases h) λ_=>w_nx ?_)
 show(0<=i64.wrap (v+1)/\i64.wrap (v+1)<=l.length)/\(l.length-i64.wrap (v+1)).toNat<(l.length-v).toNat
 rw[ew]
 exact⟨⟨by omega,by omega⟩,by omega⟩
theorem qQ{m:Q00}(h:m.Mem.length<=1024):(Qcl m).w (λx=>x=newQ m):=by
 unfold Qcl
 exact Q0c (Quz (p:=newQ m) h (aT _)) λx e=>e
def tellsQ(p:Q01)(s:List Q0a)(known steps more:Int):Tree Bool:=
 .an (Q7z p s known) (.lv (Qjf p s known) λ(x34:Q01×Bool)=> .an (Qgd p s known) (.lv (Qry p s known) λ(x35:Q01×Bool)=> .an (Q12 x34.1 x35.1) (.lv (Q1k x34.1 x35.1) λ(x36:Bool)=> .br (!x36) (.lf false) (.br (!x34.2==x35.2) (.lf false) (.lv (Qdx x35.1) λ(x37:Int)=> .lv (Qmp x35.1) λ(x38:Int)=> .br (x37 !=x38) (.lf false) (.an (Q2d x35.1 steps) (.lv (Q5r x35.1 steps) λ(x39:Q01×List Q03)=> .an (Q57 x35.1 steps) (.lv (Qad x35.1 steps) λ(x40:Q01×List Q03)=> .an (Q12 x39.1 x40.1) (.lv (Q1k x39.1 x40.1) λ(x41:Bool)=> .br (!x41) (.lf false) (.an (Q20 x39.2 x40.2) (.lv (Q30 x39.2 x40.2) λ(x42:Bool)=> .br (!x42) (.lf false) (.an (Q2d x40.1 more) (.lv (Q5r x40.1 more) λ(x43:Q01×List Q03)=> .an (Q57 x40.1 more) (.lv (Qad x40.1 more) λ(x44:Q01×List Q03)=> .an (Q12 x43.1 x44.1) (.lv (Q1k x43.1 x44.1) λ(x45:Bool)=> .br (!x45) (.lf false) (.an (Q20 x43.2 x44.2) (.lv (Q30 x43.2 x44.2) λ(x46:Bool)=> .br (!x46) (.lf false) (.an (Q44 x44.1) (.lv (Qaw x44.1) λ(x47:Q02×Bool)=> .an (Qd1 x44.1) (.lv (Qla x44.1) λ(x48:Q02×Bool)=> .an (Q6h x47.1 x48.1) (.lv (Q9t x47.1 x48.1) λ(x49:Bool)=> .br x49 (.br (x47.2==x48.2) (.an (Qcy p.A0) (.lv (Qlo p.A0) λ(x50:Q01)=> .an (Q4m p.A0) (.lv (Q85 p.A0) λ(x51:Q01)=> .an (Q12 x50 x51) (.lv (Q1k x50 x51) λ(x52:Bool)=> .br x52 (.an Q1s (.lv Q35 λ(x53:Bool)=> .lf x53)) (.lf false))))) (.lf false)) (.lf false))))))))))))))))))))))
theorem Zo6{p:Q01}(h:Qsm p)(hl:p.B3.length<=1000){s:List Q0a}(hu: ∀e∈s,U e.B6.N)(known steps more:Int):(tellsQ p s known steps more).w (λb=>b=true):=by
 have aw:(Tree.an Q1s (.lv Q35 λx=> .lf x)).w (λr=>r=true):=aw22 rfl
 have sr: ∀q:Q01,Qsm q->(Q3r q q).w (λb=>b=true):=λq hq=>Zfe q (by have:=hq.mem;omega) (by have:=hq.log;omega)
 have hmem:=h.mem
 unfold tellsQ
 refine Q0c (zaJ h.mem (by omega) hu known) λx1 e1=>Q0c (zP h.mem (by omega) known) λx2 e2=> ?_
 have e12:x1=x2:=e1.trans e2.symm
 rw[e12]
 have v2:Qsm x2.1:=by rw[e2];exact h.feed (by omega) hu known
 refine Q0c (sr _ v2) λb1 h1=>w_br (λh=>by rw[h1]at h;cases h) λ_=>w_br (λh=>by cases hb:x2.2<;>rw[hb]at h<;>cases h) λ_=>w_lv λx3 e3=>w_lv λx4 e4=>w_br (λh=>by rw[e3,e4,xaK,bne_self_eq_false]at h;cases h) λ_=> ?_
 refine Q0c (Zp3 v2 steps) λx5 e5=>Q0c (Zgp v2 steps) λx6 e6=> ?_
 have e56:x5=x6:=e5.trans e6.symm
 rw[e56]
 obtain⟨v6,o6⟩:=v2.fol steps
 rw[<-e6]at v6 o6
 have so6:Q30 x6.2 x6.2=true:=Tree.post _ (Zi9 x6.2 (by omega))
 refine Q0c (sr _ v6) λb2 h2=>w_br (λh=>by rw[h2]at h;cases h) λ_=>w_an (show x6.2.length<=1000000000000 by omega) (w_lv λb3 h3=>w_br (λh=>by rw[h3,so6]at h;cases h) λ_=> ?_)
 refine Q0c (Zp3 v6 more) λx7 e7=>Q0c (Zgp v6 more) λx8 e8=> ?_
 have e78:x7=x8:=e7.trans e8.symm
 rw[e78]
 obtain⟨v8,o8⟩:=v6.fol more
 rw[<-e8]at v8 o8
 have so8:Q30 x8.2 x8.2=true:=Tree.post _ (Zi9 x8.2 (by omega))
 refine Q0c (sr _ v8) λb4 h4=>w_br (λh=>by rw[h4]at h;cases h) λ_=>w_an (show x8.2.length<=1000000000000 by omega) (w_lv λb5 h5=>w_br (λh=>by rw[h5,so8]at h;cases h) λ_=> ?_)
 refine Q0c (yP v8) λx9 e9=>Q0c (vP v8) λx10 e10=> ?_
 have e910:x9=x10:=e9.trans e10.symm
 rw[e910]
 obtain⟨l1,l2,l3⟩:=vo v8
 rw[<-e10]at l1 l2 l3
 refine Q0c (qN x10.1 (by omega) (by omega) (by omega)) λb6 h6=>w_br (λ_=>w_br (λ_=> ?_) λh=>by simp at h) λh=>by rw[h6]at h;cases h
 refine Q0c (qQ h.mem) λx11 e11=>Q0c (Zoz h.mem) λx12 e12=> ?_
 have e1112:x11=x12:=e11.trans e12.symm
 rw[e1112]
 exact Q0c (Zfe x12 (by rw[e12];show p.A0.Mem.length<=_;omega) (by rw[e12];exact aT _)) λb7 h7=>w_br (λ_=>aw) λh=>by rw[h7]at h;cases h
structure lU(r:Q02):Prop where
 c:U r.A7
 l: ∀e∈r.B3,U e.B6.N
 q:r.A9.length<=16
 u: ∀e∈r.A9,U e.N
theorem lU.app{r:Q02}(h:lU r){a:Q0a}(ha:U a.B6.N): ∀e∈r.B3++[a],U e.B6.N:=λq hq=>by
 rcases List.mem_append.1 hq with hq|hq
 . exact h.l q hq
 . rw[List.mem_singleton.1 hq];exact ha
theorem zp{r:Q02}(h:lU r){e:Q0b}(he:U e.N):lU (Qbq r e):=by
 unfold Qbq
 cases(Q0s r.A0 e).1
 . exact⟨h.c,h.l,h.q,h.u⟩
 . exact⟨h.c,h.app he,h.q,h.u⟩
theorem vY{r:Q02}(h:lU r):lU (Qcx r):=by
 unfold Qcx
 cases Qsc r.A0.B0 r.A7
 . exact h
 . exact zp h U_0
theorem qaL{r:Q02}(h:lU r):lU (Qve r):=by
 cases hr:Q0g r.A0
 . rw[qao hr];exact⟨Q0u _,h.l,h.q,h.u⟩
 . rw[yl hr];exact⟨Q0u _,h.app h.c,h.q,h.u⟩
theorem rec_U: ∀(n:Nat) {r:Q02} (o:List Q03),lU r->lU (recF n r o).1
 |0,_,_,h=>h
 | n+1,r,o,h=>by
   cases hs:Q0z (Qcx r).A0
   . rw[zao hs];exact rec_U n _ (qaL (vY h))
   . rw[Zqr hs];exact vY h
theorem qZ: ∀(l:List Q0b) {r:Q02},(∀q∈l,U q.N)->lU r->lU (l.foldl Qbq r)
 |[],_,_,h=>h
 |e::l,r,hu,h=>qZ l (λq hq=>hu q (by simp [hq])) (zp h (hu e (by simp)))
theorem adv_U{r:Q02}(h:lU r)(steps:Int){clock:Int}(hc:U clock):lU (advF r steps clock).1:=by
 cases hm:Q25 r.A0
 . unfold advF;rw[hm];exact h
 . rw[vM hm]
   have a:=qZ r.A9 (r:={A0:=r.A0,A7:=if clock>r.A7 then clock else r.A7,B3:=r.B3,A9:=r.A9}) h.u ⟨by show U (if _ then _ else _);split<;>first|exact hc|exact h.c,h.l,h.q,h.u⟩
   exact rec_U _ [] ⟨a.c,a.l,aT _,λe he=>by cases he⟩
theorem arr_U{r:Q02}(h:lU r){e:Q0b}(he:U e.N):lU (Q6v r e).1/\(Q6v r e).1.B3=r.B3:=by
  rw[qk]
  cases Q34 e
  . exact⟨h,rfl⟩
  . cases e.B7==1
    . cases hq:decide ((r.A9.length:Int)>=16)
      . have hq:=oN hq
        refine⟨⟨h.c,h.l,by show(r.A9++[e]).length<=16;rw[lA,cV];omega,λq hm=> ?_⟩,rfl⟩
        rcases List.mem_append.1 hm with hm|hm
        . exact h.u q hm
        . rw[List.mem_singleton.1 hm];exact he
      . exact⟨h,rfl⟩
    . exact⟨h,rfl⟩
theorem ev_U{A:Q02×Bool}{l:List Q0a}(h:lU A.1/\A.1.B3=l):lU (A.1,([]:List Q03)).1/\(A.1,([]:List Q03)).1.B3.length<=l.length+8016:=⟨h.1,by show A.1.B3.length<=_;rw[h.2];omega⟩
theorem zas{r:Q02}(h:lU r)(n:Int):lU (Q86 r n).1/\(Q86 r n).1.B3.length<=r.B3.length+8016:=by
 have hq:=h.q
 cases hm:cX (Q9q n 3) 3==0
 . rw[qM hm,yL _ _ _ (by omega)]
   exact⟨adv_U h _ (Q0u _),by have:=zN r (Q3q (ishr .i64 (Q9q n 3) 4) 12) (wrap .u32 (iand .i64 (ishr .i64 (Q9q n 3) 12) 255));omega⟩
 . rw[vL hm]
   exact ev_U (A:=Q6v r (Qfm n)) (arr_U h (qan n))
theorem xZ: ∀(l:List Int) {s:Q02×List Q03},lU s.1->lU (l.foldl Qw6 s).1/\(l.foldl Qw6 s).1.B3.length<=s.1.B3.length+8016*l.length
 |[],_,h=>⟨h,aO _⟩
 | n::l,s,h=>by
   rw[aD,dD]
   have a:=zas h n
   rw[<-xm]at a
   obtain⟨b1,b2⟩:=xZ l a.1
   exact⟨b1,by omega⟩
theorem vp(kind:Int)(l acts:List Int)(how at0:Int){p:Q01}(hv:okV p.A0)(hc:U p.A7)(hpl:p.B3.length<=1000000000000000)(hpu: ∀e∈p.B3,U e.B6.N)(raw:Bool){s:List Q0a}(hsl:s.length<=1000000000000000)(hsu: ∀e∈s,U e.B6.N){known:Int}(hk:0<=known)(steps more:Int)(hl:l.length*8<=reachBytes):Qh5 kind l acts how at0 p raw s known steps more/\Qg0 kind l acts how at0 p raw s known steps more=true:=by
 have aw:(Tree.an Q1s (.lv Q35 λx=> .lf x)).w (λr=>r=true):=aw22 rfl
 refine Tree.pp (W:=λr=>r=true) ?_
 unfold Q8h
 refine w_lv λx0 h0=>w_br (λ_=>aw) λhb=>Q0c (xp hsl) λx2 h2=>w_br (λ_=>aw) λhx2=>Q0c (xp hpl) λx4 h4=>w_br (λ_=>aw) λhx4=>w_br (λ_=>aw) λhm=>w_br (λ_=>aw) λ_=>w_br (λ_=>aw) λ_=>w_br (λ_=>aw) λ_=>w_br (λ_=> ?_) λ_=> ?_
 . obtain⟨f1,f2⟩:=yN h0 hb
   refine Q0c (vd kind l hl) λm ⟨Q,a⟩=> ?_
   have ml:m.Mem.length<=1024:=by have:=a.mem.len;have:=a.mem.p2;omega
   refine w_an (Tree.pp (qaC a acts f2)).1 (w_lv λx hx=> ?_)
   rw[zan _ _ (by omega),zk]at hx
   obtain⟨gu,gl⟩:=xZ acts (s:=({A0:=m,A7:=0,B3:=[],A9:=[]},[])) ⟨U_0,(λe he=>by cases he),aT _,λe he=>by cases he⟩
   rw[<-hx]at gu gl
   have gl:x.1.B3.length<=0+8016*acts.length:=gl
   refine Q0c (Zoz ml) λx12 e12=> ?_
   subst e12
   refine Q0c (qp (by omega) gu.l how at0) λx13 su=> ?_
   exact Zo6 ⟨⟨a.cpu,a.mem.u,a.disk,a.nic,a.target,a.cnt⟩,ml,U_0,aT _,λe he=>by cases he⟩ (aT _) su _ steps more
 . have hm:=oN hm
   have l4:=h4 (by simpa using hx4)
   exact Zo6 ⟨hv,by omega,hc,by omega,hpu⟩ (by omega) hsu known steps more

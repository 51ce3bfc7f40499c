import Derived.Test.YtmalmklaonainaaGreatMachineEncodesLaws2
import Derived.Test.YtmalmklaonainaaGreatMachineEncodesNewsB
import Derived.Test.YtmalmklaonainaaGreatMachineEncodesZt
open List renaming mem_append->bX, getD_eq_getElem?_getD->cP, getElem?_eq_getElem->cG, getElem_mem->cQ, replicate->cR, append->cS, mem_cons->cU, not_mem_nil->cV, length_replicate->cW, length_take->bD, length_drop->bF, mem_of_mem_take->cY, mem_of_mem_drop->cZ, length_singleton->dA, take->dC, drop->dD, ext_getElem->bM, range->dE, set->dH, length_set->dI, length_cons->dJ, length_nil->dK, length->dL, getD->aK, getElem?_take->aU, drop_eq_getElem_cons->aB, foldl_cons->aD, drop_eq_nil_of_le->aA, append_assoc->fK, length_map->fM, map_append->bK, append_nil->cJ, nil_append->fN, append_inj->fO
open Nat renaming lt_succ_self->cO, blt->bT, zero_le->aT, le_refl->aO, le_trans->bH, min_le_left->dB, le_of_eq->dM, pow_le_pow_right->dU, and_le_left->eC, pow_lt_pow_right->eD, and_le_right->eG, two_pow_pos->eI, mod_lt->eN, two_pow_add_eq_or_of_lt->eO, eq_of_testBit_eq->eQ, testBit_mod_two_pow->eR, testBit->eS, mul_comm->fA, zero_testBit->fI, testBit_and->fJ, strongRecOn->fL
open Int renaming le_refl->cX, tmod->dF, toNat->dG, emod_eq_of_lt->dO, pow_pos->dP, fdiv_eq_ediv_of_nonneg->dQ, le_of_lt->dR, pow_add->dS, mul_le_mul_of_nonneg_right->dT, lt_or_le->dW, toNat_natCast->eF, tmod_eq_emod_of_nonneg->eH, toNat_of_nonneg->eJ, fdiv->eM, tdiv->eX, tdiv_eq_ediv_of_nonneg->eY, ediv_ediv_of_nonneg->fF, mul_ediv_add_emod->fG, pow_succ->fH, natCast_inj->fP
open Bool renaming or_eq_true->aI, eq_iff_iff->eK, noConfusion->fE
open UInt8 renaming toNat_lt->dV, toNat->eZ, ofNat->fB, toNat_ofNat'->fC
open BitVec renaming ofInt->dX, toNat_ofInt->dZ, toNat_or->eA, toNat_and->eB, getLsbD->eT, eq_of_toNat_eq->eU, ofInt_natCast->eV, toNat_ofNat->eW
open Prod renaming ext->fD
set_option maxRecDepth 100000
set_option linter.all false
namespace Go.Proofs.YtmalmklaonainaaGreat
open Go Go.GD
open Go.IntKind(wrap i64 u32 u64 u8 wrap_i64 wrap_u32 wrap_u64 wrap_u8 wrap_i32)
theorem Zk9(i:Q0i):U (Q18 i).1:=by
 refine Tree.post (Qfj i) (W:=λr=>U r.1) ?_
 unfold Qfj
 exact w_lv λ_ _=>w_br (λ_=>U_0) (λ_=>U_or _ _)
theorem Zir(l:List Int)(hl:l.length*8<=reachBytes):(Qho l).w (λr=>(r.length:Int)=l.length/\ ∀w∈r,U w):=by
 have hl':l.length*8<=140737488351232:=hl
 have app: ∀{r:List Int} {x:Int},(∀w∈r,U w)->U x-> ∀w∈r++[x],U w:=λhr hx w hw=>by
   rw[bX]at hw
   rcases hw with hw|hw
   . exact hr w hw
   . rw[List.mem_singleton.1 hw];exact hx
 unfold Qho
 refine w_lp (inv:=λz=>Qpl l z/\ ∀w∈z.2,U w) (μ:=Qci l) ⟨⟨by omega,by simp,by simp⟩,by simp⟩ (cO _) (λv0 hv=> ?_)
 obtain⟨⟨h1,h2,h3⟩,h4⟩:=hv
 refine w_br (λh=> ?_) (λh=> ?_)
 . have h:=oY h
   have next: ∀x:Int,U x->(Qpl l (wrap i64 (v0.1+1),v0.2++[x])/\ ∀w∈v0.2++[x],U w)/\Qci l (wrap i64 (v0.1+1),v0.2++[x])<Qci l v0:=λx hx=>by
     have hw:i64.wrap (v0.1+1)=v0.1+1:=by rw[wrap_i64];omega
     rw[hw]
     refine⟨⟨⟨?_,?_,?_⟩,app h4 hx⟩,?_⟩
     . show 0<=v0.1+1;omega
     . show v0.1+1<=l.length;omega
     . show((v0.2++[x]).length:Int)=v0.1+1;simp;omega
     . show(l.length-(v0.1+1)).toNat<(l.length-v0.1).toNat;omega
   have hb:(Nat.beq 1 1&&bT 0 1&&decide (0<=v0.1/\v0.1<(l.length:Int)))=true:=by simp [bT];omega
   have hc:decide (4*(v0.2.length+1)<=140737488355328)=true:=dY (by omega)
   exact w_cn hb (w_br (λ_=>w_cn hb (w_cn hc (next _ (Q0l _)))) (λ_=>w_cn hb (w_an (Zk8 _) (w_lv λx0 _=>w_lv λx1 hx=>w_cn hc (next _ (by rw[hx];exact Zk9 _))))))
 . have h:=oN h
   exact⟨by show(v0.2.length:Int)=l.length;omega,h4⟩
theorem Z2z(steps:Int):0<=Q19 steps/\Q19 steps<=4000:=by
 refine Tree.post (Qbu steps) (W:=λr=>0<=r/\r<=4000) ?_
 unfold Qbu
 refine w_lf ?_
 constructor<;>(repeat' split)<;>omega
theorem Zd2{P:Nat}{r:Q01}(h:okR P r)(steps:Int){clock:Int}(hc:U clock)(hl:r.C7.length<=900000)(hq:r.B0.length<=1000)(hu: ∀q∈r.B0,U q.N):
    (Q4y r steps clock).w (λx=>okR P x.1/\x.1.C7.length<=r.C7.length+r.B0.length+8000/\(x.1.B0=r.B0\/x.1.B0=[])/\x.2.length<=4000):=by
  unfold Q4y
  refine Q0a (own_w h (by omega) (by omega)) λx0 hx=> ?_
  obtain⟨k1,k2,k3⟩:=hx
  refine w_lv λx1 _=>w_br (λ_=>⟨k1,by rw[k2];omega, .inl k3,aT _⟩) (λ_=> ?_)
  have hcl:U (if clock>x0.B3 then clock else x0.B3):=by split<;>first|exact hc|exact k1.clock
  refine w_lp (inv:=λz=>0<=z.1/\z.1<=r.B0.length/\okR P z.2/\(z.2.C7.length:Int)<=r.C7.length+z.1/\z.2.B0=r.B0) (μ:=Qal r steps clock) ⟨by omega,by omega,⟨k1.m,hcl⟩,by rw[k2];omega,k3⟩ (cO _) (λz hz=> ?_)
  obtain⟨z1,z2,z3,z4,z5⟩:=hz
  refine w_br (λhb=> ?_) (λhb=> ?_)
  . have hb:=oY hb
    rw[z5]at hb
    have hm:(z.2.B0.getD z.1.toNat (RK.dflt RK.apiEvent))∈r.B0:=by
      rw[z5]
      have hlt:z.1.toNat<r.B0.length:=by omega
      rw[cP,cG hlt]
      exact cQ hlt
    refine w_cn (by rw[z5];simp [bT];omega) (Q0a (vw z3 (hu _ hm) (by omega)) λx hx=>w_nx ?_)
    obtain⟨a1,a2,a3⟩:=hx
    show(0<=i64.wrap (z.1+1)/\i64.wrap (z.1+1)<=r.B0.length/\okR P x/\(x.C7.length:Int)<=r.C7.length+i64.wrap (z.1+1)/\x.B0=r.B0)/\(x.B0.length-i64.wrap (z.1+1)).toNat<(z.2.B0.length-z.1).toNat
    have ew:i64.wrap (z.1+1)=z.1+1:=by rw[wrap_i64];omega
    rw[ew,a3,z5]
    exact⟨⟨by omega,by omega,a1,by omega,rfl⟩,by omega⟩
  . refine w_lp (inv:=λy=>0<=y.1/\y.1<=4000/\okR P y.2.1/\(y.2.1.C7.length:Int)<=r.C7.length+r.B0.length+2*y.1/\y.2.1.B0=[]/\(y.2.2.length:Int)<=y.1) (μ:=Q50 r steps clock z) ⟨by omega,by omega,⟨z3.m,z3.clock⟩,by simp;omega,rfl,by simp⟩ (cO _) (λy hy=> ?_)
    obtain⟨y1,y2,y3,y4,y5,y6⟩:=hy
    have ew:i64.wrap (y.1+1)=y.1+1:=by rw[wrap_i64];omega
    refine w_lv λx3 hx3=>w_br (λhb=> ?_) (λ_=>⟨y3,by show y.2.1.C7.length<=_;omega, .inr y5,by show y.2.2.length<=_;omega⟩)
    have hb:=oY hb
    have lim:=(Z2z steps).2
    rw[<-hx3]at lim
    refine w_lv λx4 _=>w_br (λ_=>Q0a (vw (e:=⟨_,_,_⟩) y3 U_0 (by omega)) λx5 h5=> ?_) (λ_=> ?_)
    . obtain⟨q1,q2,q3⟩:=h5
      have q3:=q3.trans y5
      refine Q0a (Zfp _) λs1 _=>w_br (λ_=>⟨q1,by show x5.C7.length<=_;omega, .inr q3,by show y.2.2.length<=_;omega⟩) (λ_=>Q0a (Qx3 q1.m.cpu q1.m.mem) λs2 _=>w_br (λ_=>w_cn (dY (by omega)) (Q0a (Qt8 (r:=⟨x5.A0,x5.B3,x5.C7++[_],x5.B0⟩) ⟨q1.m,q1.clock⟩ q1.clock) λo ho=> ?_)) (λ_=>Q0a (Qt8 q1 q1.clock) λo ho=> ?_))
      . obtain⟨a1,⟨⟨a2,a3⟩,a4,a5⟩⟩:=ho
        have e4:o.2.C7.length=x5.C7.length+1:=by rw[a4];simp
        have a5:o.2.B0=[]:=a5.trans q3
        refine w_cn (dY (by omega)) (w_nx ?_)
        show(0<=i64.wrap (y.1+1)/\i64.wrap (y.1+1)<=4000/\okR P _/\(o.2.C7.length:Int)<=r.C7.length+r.B0.length+2*i64.wrap (y.1+1)/\o.2.B0=[]/\((y.2.2++o.1).length:Int)<=i64.wrap (y.1+1))/\(4000-i64.wrap (y.1+1)).toNat<(4000-y.1).toNat
        rw[ew,a5,lA]
        exact⟨⟨by omega,by omega,⟨a2,Q0l _⟩,by omega,rfl,by omega⟩,by omega⟩
      . obtain⟨a1,⟨⟨a2,a3⟩,a4,a5⟩⟩:=ho
        have e4:o.2.C7.length=x5.C7.length:=by rw[a4]
        have a5:o.2.B0=[]:=a5.trans q3
        refine w_cn (dY (by omega)) (w_nx ?_)
        show(0<=i64.wrap (y.1+1)/\i64.wrap (y.1+1)<=4000/\okR P _/\(o.2.C7.length:Int)<=r.C7.length+r.B0.length+2*i64.wrap (y.1+1)/\o.2.B0=[]/\((y.2.2++o.1).length:Int)<=i64.wrap (y.1+1))/\(4000-i64.wrap (y.1+1)).toNat<(4000-y.1).toNat
        rw[ew,a5,lA]
        exact⟨⟨by omega,by omega,⟨a2,Q0l _⟩,by omega,rfl,by omega⟩,by omega⟩
    . refine Q0a (Zfp _) λs1 _=>w_br (λ_=>⟨y3,by show y.2.1.C7.length<=_;omega, .inr y5,by show y.2.2.length<=_;omega⟩) (λ_=>Q0a (Qx3 y3.m.cpu y3.m.mem) λs2 _=>w_br (λ_=>w_cn (dY (by omega)) (Q0a (Qt8 (r:=⟨y.2.1.A0,y.2.1.B3,y.2.1.C7++[_],y.2.1.B0⟩) ⟨y3.m,y3.clock⟩ y3.clock) λo ho=> ?_)) (λ_=>Q0a (Qt8 y3 y3.clock) λo ho=> ?_))
      . obtain⟨a1,⟨⟨a2,a3⟩,a4,a5⟩⟩:=ho
        have e4:o.2.C7.length=y.2.1.C7.length+1:=by rw[a4];simp
        have a5:o.2.B0=[]:=a5.trans y5
        refine w_cn (dY (by omega)) (w_nx ?_)
        show(0<=i64.wrap (y.1+1)/\i64.wrap (y.1+1)<=4000/\okR P _/\(o.2.C7.length:Int)<=r.C7.length+r.B0.length+2*i64.wrap (y.1+1)/\o.2.B0=[]/\((y.2.2++o.1).length:Int)<=i64.wrap (y.1+1))/\(4000-i64.wrap (y.1+1)).toNat<(4000-y.1).toNat
        rw[ew,a5,lA]
        exact⟨⟨by omega,by omega,⟨a2,Q0l _⟩,by omega,rfl,by omega⟩,by omega⟩
      . obtain⟨a1,⟨⟨a2,a3⟩,a4,a5⟩⟩:=ho
        have e4:o.2.C7.length=y.2.1.C7.length:=by rw[a4]
        have a5:o.2.B0=[]:=a5.trans y5
        refine w_cn (dY (by omega)) (w_nx ?_)
        show(0<=i64.wrap (y.1+1)/\i64.wrap (y.1+1)<=4000/\okR P _/\(o.2.C7.length:Int)<=r.C7.length+r.B0.length+2*i64.wrap (y.1+1)/\o.2.B0=[]/\((y.2.2++o.1).length:Int)<=i64.wrap (y.1+1))/\(4000-i64.wrap (y.1+1)).toNat<(4000-y.1).toNat
        rw[ew,a5,lA]
        exact⟨⟨by omega,by omega,⟨a2,Q0l _⟩,by omega,rfl,by omega⟩,by omega⟩
section
variable {P:Nat} {m:Q00} (h:okM P m)
include h
theorem min_w(port:Int){clock:Int}(hc:U clock):(Qeb m port clock).w (λx=>U x.1/\okM P x.2/\x.2.A4=m.A4):=by
 have k:=(⟨h,rfl⟩:okM P m/\m.A4=m.A4)
 obtain⟨h1,h2,h3,h4,h5,h7⟩:=h
 unfold Qeb
 exact w_br (λ_=>w_lv λx hx=>⟨hx▸Qzx _ _,⟨⟨h1,h2,h3,h4,h5,h7⟩,rfl⟩⟩) (λ_=>w_br (λ_=>⟨hc,k⟩) (λ_=>w_br (λ_=>w_lv λx hx=>⟨hx▸Zf _,k⟩) (λ_=>w_br (λ_=>w_lv λx hx=>⟨hx▸Zjj h3 _,k⟩) (λ_=>w_br (λ_=>w_lv λx hx=>⟨hx▸yw h4 _,k⟩) (λ_=>w_lv λx hx=>⟨hx▸Z33 h5.1 _,k⟩)))))
theorem zay(port:Int){v:Int}(hv:U v):(Q9b m port v).w (λx=>x.1.length<=1/\okM P x.2/\x.2.A4=m.A4):=by
 have k:=(⟨h,rfl⟩:okM P m/\m.A4=m.A4)
 obtain⟨h1,h2,h3,h4,h5,h7⟩:=h
 unfold Q9b
 exact w_br (λ_=>⟨aO _,k⟩) (λ_=>w_br (λ_=>⟨aT _,k⟩) (λ_=>w_br (λ_=>w_lv λ_ _=>⟨aT _,⟨⟨h1,h2,h3,h4,h5,h7⟩,rfl⟩⟩) (λ_=>w_br (λ_=>Q0a (Zca h2 h3 _ hv _) λx hx=>⟨hx.2,⟨⟨h1,h2,hx.1,h4,h5,h7⟩,rfl⟩⟩) (λ_=>w_br (λ_=>Q0a (Zj7 h2 h4 _ hv _) λx hx=>⟨hx.2,⟨⟨h1,h2,h3,hx.1,h5,h7⟩,rfl⟩⟩) (λ_=>Q0a (zY h2 h5 _ hv) λx hx=>⟨aT _,⟨⟨h1,hx.2,h3,h4,hx.1,h7⟩,rfl⟩⟩)))))
theorem Z75{clock:Int}(hc:U clock):(Q7o m clock).w (λx=>x.1.length<=1/\okM P x.2/\x.2.A4=wrap .u64 (m.A4+1)):=by
 obtain⟨h1,h2,h3,h4,h5,h7⟩:=h
 unfold Q7o
 refine Q0a (Qfm h1) λx0 c0=>Q0a (do_w c0 h2) λx1 hx=> ?_
 obtain⟨c1,v1,m1⟩:=hx
 refine w_br (λ_=>Zbc (min_w (m:=⟨_,_,_,_,_,_,_,_,_,_⟩) ⟨c1,m1,h3,h4,h5,h7⟩ _ hc) λx2 hx=> ?_) (λ_=>w_br (λ_=>Q0a (zay (m:=⟨_,_,_,_,_,_,_,_,_,_⟩) ⟨c1,m1,h3,h4,h5,h7⟩ _ v1) λx4 hx=> ?_) (λ_=> ?_))
 . obtain⟨u,⟨k1,k2,k3,k4,k5,k7⟩,k6⟩:=hx
   exact Q0a (Z4w k1 _ u) λx3 h3=>⟨aT _,⟨h3,k2,k3,k4,k5,w0 _⟩,congrArg (λn=>wrap .u64 (n+1)) k6⟩
 . obtain⟨u,⟨k1,k2,k3,k4,k5,k7⟩,k6⟩:=hx
   exact⟨u,⟨k1,k2,k3,k4,k5,w0 _⟩,congrArg (λn=>wrap .u64 (n+1)) k6⟩
 . repeat'(first
     |exact⟨aT _,⟨c1,m1,h3,h4,h5,w0 _⟩,rfl⟩
     |refine w_br (λ_=> ?_) (λ_=> ?_))
theorem xe:(Qbg m).w (λx=>okM P x/\x.A4=m.A4):=by
 obtain⟨h1,h2,h3,h4,h5,h7⟩:=h
 unfold Qbg
 exact Q0a (zX h2) λx hx=>⟨⟨h1,by rw[hx];exact h2,h3,h4,h5,h7⟩,rfl⟩
end
theorem U_all(n:Nat): ∀w∈cR n (0:Int),U w:=λw hw=>by rw[(List.mem_replicate.1 hw).2];exact U_0
theorem xab:okM 0 ⟨⟨⟨0,0,0,0,0,0,0,0,0,0,0,0,0,0,0,0⟩,0,⟨0,0,0,0,0,0,0,0⟩⟩,[],⟨[]⟩,⟨false,0,false⟩,⟨0,0,0,0,0,0,0,[]⟩,⟨0,0,false,0,false,0⟩,⟨0,0⟩,0,false,false⟩:=
 ⟨⟨U_all 16,U_0,U_all 8⟩,⟨rfl,by omega,by omega,λw hw=>by cases hw⟩,⟨U_0,U_0,U_0,U_0⟩,⟨U_0,U_0,U_0,U_0⟩,⟨U_0,U_0⟩,by decide⟩
theorem Zkc{P:Nat}{m:Q00}(h:okM P m)(hc:0<=m.A4):(Q5p m [] 87).w (λx=> ∃Q,okM Q x.1):=by
 have z: ∃Q,okM Q _:=⟨0,xab⟩
 unfold Q5p
 refine w_lv λx0 _=>w_br (λ_=>z) λ_=>w_br (λ_=>z) λ_=>w_br (λ_=>z) λ_=>w_an (show Q7c [] by show([]:List Q1t).length<=1000000000000;decide) (w_lv λx1 _=>w_br (λ_=>z) λ_=>Q0a (xe h) λx2 hx=> ?_)
 refine w_lp (inv:=λv:Q00×List Q08=>okM P v.1/\0<=v.1.A4/\v.2.length+(87-v.1.A4).toNat<=87) (μ:=Qaf m [] 87) ⟨hx.1,by rw[hx.2];exact hc,by rw[hx.2];show 0+_<=87;omega⟩ (cO _) λv0 ⟨a1,a2,a3⟩=> ?_
 refine w_br (λhb=>w_br (λ_=> ?_) (λ_=>⟨P,a1⟩)) (λ_=>⟨P,a1⟩)
 have hb:=oY hb
 refine w_lp (inv:=λ_=>True) (μ:=Qaa m [] 87 v0) trivial (cO _) λv1 _=> ?_
 refine w_br (λ_=>⟨P,a1⟩) λ_=>Q0a (qY _) λx3 _=>w_br (λ_=>⟨P,a1⟩) λ_=>Q0a (zw a1.cpu a1.mem) λx4 _=>w_br (λ_=>z) λ_=>Q0a (Z75 a1 U_0) λx5 h5=> ?_
 obtain⟨b1,b2,b3⟩:=h5
 refine w_cn (dY (by omega)) (w_nx ?_)
 have e:x5.2.A4=v0.1.A4+1:=by rw[b3,wrap_u64];omega
 show(_/\_/\_)/\(_:Nat)<_
 refine⟨⟨b2,by show 0<=x5.2.A4;omega,by show(v0.2++x5.1).length+(87-x5.2.A4).toNat<=87;rw[lA];omega⟩,by show(87-x5.2.A4).toNat<(87-v0.1.A4).toNat;omega⟩
set_option synthInstance.maxHeartbeats 2000000
set_option synthInstance.maxSize 100000
noncomputable section
instance yF (src:List UInt8):Ck (Qj6 src):=ckT (t:=Qe5 src) (by delta Qe5;infer_instance)
instance vA (s:List UInt8):Ck (Qhk s):=ckT (t:=Qcj s) (by delta Qcj;infer_instance)
instance qB (n:Int):Ck (Q2t n):=let d:Decidable (Q2t n):=(by delta Q2t;infer_instance);⟨@decide _ d,@oY _ d⟩
instance ye (n:Int):Ck (Qf n):=ckT (t:=Q60 n) (by delta Q60;infer_instance)
instance qac (r:Int):Ck (Qn0 r):=ckT (t:=Qd5 r) (by delta Qd5;infer_instance)
instance qT (s:List UInt8):Ck (Qft s):=ckT (t:=Qhi s) (by delta Qhi;infer_instance)
instance Zni (op:Int):Ck (Qde op):=ckT (t:=Q85 op) (by delta Q85;infer_instance)
instance Zld (s:List UInt8):Ck (Q2x s):=ckT (t:=Q7d s) (by delta Q7d;infer_instance)
instance qf (what:List UInt8):Ck (Q5h what):=ckT (t:=Qa7 what) (by delta Qa7;infer_instance)
instance xB (s:List UInt8):Ck (Qhx s):=ckT (t:=Qby s) (by delta Qby;infer_instance)
instance xf (l:List Q0f) (p:List UInt8):Ck (Q5f l p):=ckT (t:=Qa4 l p) (by delta Qa4;infer_instance)
instance zB (s:List UInt8):Ck (Qh7 s):=ckT (t:=Qc7 s) (by delta Qc7;infer_instance)
instance zf (l:List Q1w) (label:List UInt8):Ck (Q30 l label):=let d:Decidable (Q30 l label):=(by delta Q30;infer_instance);⟨@decide _ d,@oY _ d⟩
instance xT (src:List UInt8):Ck (Qkm src):=ckT (t:=Qhn src) (by delta Qhn;infer_instance)
instance zT (st:Q09) (v:Int):Ck (Q9d st v):=ckT (t:=Qia st v) (by delta Qia;infer_instance)
instance Zng (src:List UInt8):Ck (Q9n src):=ckT (t:=Q8x src) (by delta Q8x;infer_instance)
theorem zac:Q9n ((108:UInt8)::(tblZe0++Z56++(Z5y++Z6)++(Z5o++Z6e++(Z55++Z79))++(Z5v++Z61++(Quh++Qv0)++(Que++Qv5++(Qum++Qtu))))):=ck inferInstance (by kernel_rfl)
def inU(x:Int):Bool:=decide (0<=x)&&decide (x<4294967296)
theorem xac(l:List Int)(h:(Nat.ble l.length 160&&List.all l inU)=true):l.length<=160/\ ∀w∈l,U w:=by
 rw[aE]at h
 refine⟨lE h.1,λw hw=> ?_⟩
 have:=List.all_eq_true.1 h.2 w hw
 simp only[inU,aE,decide_eq_true_eq]at this
 exact this
theorem Zki:(Q1z (cS (cS (cS (cS Z84 Z56) (cS Z5y Z6)) (cS (cS Z5o Z6e) (cS Z55 Z79))) (cS (cS (cS Z5v Z61) (cS Quh Qv0)) (cS (cS Que Qv5) (cS Qum Qtu))))).1.length<=160/\ ∀w∈(Q1z (cS (cS (cS (cS Z84 Z56) (cS Z5y Z6)) (cS (cS Z5o Z6e) (cS Z55 Z79))) (cS (cS (cS Z5v Z61) (cS Quh Qv0)) (cS (cS Que Qv5) (cS Qum Qtu))))).1,U w:=xac _ (by kernel_rfl)
end
theorem new_w(i:List Int)(hu: ∀w∈i,U w)(hl:i.length<=256):(Q7p 8 4 i).w (λx=>okM 8 x.1/\x.1.A4=0):=by
 unfold Q7p
 refine w_br (λh=>absurd h (by decide)) λ_=>w_br (λh=>absurd h (by decide)) λ_=>w_br (λh=>absurd h (by decide)) λ_=>w_br (λh=>absurd h (by decide)) λ_=>w_br (λh=> ?_) λ_=>w_lv λx0 e0=>w_an (Zcb _) (w_lv λx1 e1=> ?_)
 . have h:=oY h
   rw[show i64.wrap (8*32)=256 by decide]at h
   omega
 have hx:x1=cR 256 0:=by rw[e1];kernel_rfl
 have c0:Q27 x0:=by rw[e0];exact⟨by
   intro w hw
   simp only[Qor,Qin,Tree.m,A16.l,cU,cV,or_false,or_self]at hw
   rw[hw];exact U_0,U_0,by
   intro w hw
   simp only[Qor,Qin,Tree.m,A8.l,cU,cV,or_false,or_self]at hw
   rcases hw with rfl|rfl
   . exact⟨by omega,by omega⟩
   . exact U_0⟩
 have hz: ∀w∈x1,U w:=by rw[hx];exact U_all 256
 have hn:x1.length=256:=by rw[hx,cW]
 refine⟨⟨c0,⟨?_,by omega,by omega,λw hw=> ?_⟩,⟨U_0,U_0,U_0,U_0⟩,⟨U_0,U_0,U_0,U_0⟩,⟨U_0,U_0⟩,cX _⟩,rfl⟩
 . simp only[lA,bD,bF,hn];omega
 . rcases List.mem_append.1 hw with h1|h1
   . exact hu w (cY h1)
   . exact hz w (cZ h1)
theorem yf(kind:Int)(l:List Int)(hl:l.length*8<=reachBytes):(Q3j kind l).w (λx=> ∃Q,okM Q x):=by
  have hl':l.length*8<=140737488351232:=hl
  unfold Q3j
  refine w_an (Q5r (by decide)) (w_lv λx0 _=>w_br (λ_=>w_an zac (w_lv λx1 e1=> ?_)) (λ_=> ?_))
  . obtain⟨q1,q2⟩:x1.1.length<=160/\ ∀w∈x1.1,U w:=by rw[e1];exact Zki
    refine w_lp (inv:=λv:List Int=>v.length<=160/\ ∀w∈v,U w) (μ:=Q7z kind l) ⟨q1,q2⟩ (cO _) λv0 ⟨a1,a2⟩=> ?_
    refine w_br (λhb=> ?_) (λ_=> ?_)
    . have hb:=oY hb
      refine w_cn (dY (by omega)) (w_nx ?_)
      show(_/\_)/\(_:Nat)<_
      refine⟨⟨by rw[lA,dA];omega,λw hw=> ?_⟩,by show 160-(v0++[0]).length<160-v0.length;rw[lA,dA];omega⟩
      rcases List.mem_append.1 hw with h1|h1
      . exact a2 w h1
      . rw[List.mem_singleton.1 h1];exact U_0
    . refine Q0a (Zir l hl) λx2 ⟨b1,b2⟩=>w_cn (dY (by omega)) ?_
      have hu: ∀w∈v0++x2,U w:=λw hw=>(List.mem_append.1 hw).elim (a2 w) (b2 w)
      refine w_br (λhb=> ?_) (λhb=> ?_)
      . have hb:=oY hb
        refine w_cn (by simp [bT];rw[lA]at hb;omega) (Q0a (new_w _ (λw hw=>hu w (cZ (cY hw))) (by rw[bD];exact bH (dB _ _) (by decide))) λx3 ⟨c1,c2⟩=>w_br (λ_=>Q0a (Zkc c1 (by omega)) λx4 hx=>hx) (λ_=>⟨8,c1⟩))
      . have hb:=oN hb
        exact Q0a (new_w _ hu (by omega)) λx3 ⟨c1,c2⟩=>w_br (λ_=>Q0a (Zkc c1 (by omega)) λx4 hx=>hx) (λ_=>⟨8,c1⟩)
  . refine Q0a (Zir l hl) λx2 ⟨b1,b2⟩=>w_cn (dY (by omega)) ?_
    refine w_br (λhb=> ?_) (λhb=> ?_)
    . have hb:=oY hb
      refine w_cn (by simp [bT];omega) (Q0a (new_w _ (λw hw=>b2 w (cZ (cY hw))) (by rw[bD];exact bH (dB _ _) (by decide))) λx3 ⟨c1,c2⟩=>w_br (λ_=>Q0a (Zkc c1 (by omega)) λx4 hx=>hx) (λ_=>⟨8,c1⟩))
    . have hb:=oN hb
      exact Q0a (new_w _ b2 (by omega)) λx3 ⟨c1,c2⟩=>w_br (λ_=>Q0a (Zkc c1 (by omega)) λx4 hx=>hx) (λ_=>⟨8,c1⟩)
theorem xay{P:Nat}{r:Q01}(h:okR P r)(n:Int)(hl:r.C7.length<=900000)(hq:r.B0.length<=16)(hu: ∀q∈r.B0,U q.N):
   (Q79 r n).w (λx=>okR P x.1/\x.1.C7.length<=r.C7.length+8016/\(x.1.B0.length<=16/\ ∀q∈x.1.B0,U q.N)/\x.2.length<=4000):=by
 unfold Q79
 refine w_lv λx0 _=>w_br (λ_=>Q0a (qx n) λe he=>Q0a (yR h e (by omega) hq hu he) λx hx=> ?_) (λ_=>w_an (Q5r (by decide)) (w_lv λx3 _=>Q0a (Zd2 h _ (Q0l _) hl (by omega) hu) λx hx=> ?_))
 . obtain⟨a1,a2,a3,a4⟩:=hx
   exact⟨a1,by rw[a2];omega,⟨a3,a4⟩,aT _⟩
 . obtain⟨a1,a2,a3,a4⟩:=hx
   refine⟨a1,by show x.1.C7.length<=_;omega,?_,a4⟩
   rcases a3 with a3|a3
   . rw[a3];exact⟨hq,hu⟩
   . rw[a3];exact⟨aT _,λq hq=>by cases hq⟩
theorem qaz{P:Nat}{m:Q00}(h:okM P m)(l:List Int)(hl:l.length<=30):(Qaw m l).w (λx=>okR P x.1):=by
 unfold Qaw
 have nr:(Q3e m).w (λx=>okR P x/\x.C7=[]/\x.B0=[]):=by
   unfold Q3e
   exact Q0a (xe h) λx hx=>⟨⟨hx.1,U_0⟩,rfl,rfl⟩
 refine Q0a nr λx0 ⟨n1,n2,n3⟩=> ?_
 refine w_lp (inv:=λv:Int×Q01×List Q08=>0<=v.1/\v.1<=l.length/\okR P v.2.1/\(v.2.1.C7.length:Int)<=8016*v.1/\(v.2.1.B0.length<=16/\ ∀q∈v.2.1.B0,U q.N)/\(v.2.2.length:Int)<=4000*v.1) (μ:=Qgn m l) ⟨cX _,by show(0:Int)<=l.length;omega,n1,by rw[n2];exact cX _,by rw[n3];exact⟨aT _,λq hq=>by cases hq⟩,cX _⟩ (cO _) λv0 ⟨a1,a2,a3,a4,⟨a5,a6⟩,a7⟩=> ?_
 refine w_br (λhb=> ?_) (λ_=>a3)
 have hb:=oY hb
 refine w_cn (by simp [bT];omega) (Q0a (xay a3 _ (by omega) a5 a6) λx1 ⟨b1,b2,b3,b4⟩=>w_cn (dY (by omega)) (w_nx ?_))
 have e:i64.wrap (v0.1+1)=v0.1+1:=by rw[wrap_i64];omega
 show(_/\_/\_/\_/\_/\_)/\(_:Nat)<_
 refine⟨⟨by rw[e];omega,by rw[e];omega,b1,by rw[e];show(x1.1.C7.length:Int)<=_;omega,b3,by rw[e,lA];omega⟩,by show(l.length-i64.wrap (v0.1+1)).toNat<(l.length-v0.1).toNat;rw[e];omega⟩
noncomputable section
def boot:List Int:=(Q1z (cS (cS (cS (cS Z84 Z56) (cS Z5y Z6)) (cS (cS Z5o Z6e) (cS Z55 Z79))) (cS (cS (cS Z5v Z61) (cS Quh Qv0)) (cS (cS Que Qv5) (cS Qum Qtu))))).1
def Qjd:List Int:=boot++cR (160-boot.length) 0
theorem run87(t0 t1 t2 t3 t4 t5 t6 t7 t8 t9 t10 t11 t12 t13 t14 t15 t16 t17 t18 t19 t20 t21 t22 t23 t24 t25 t26 t27 t28 t29 t30 t31 t32 t33 t34 t35 t36 t37 t38 t39 t40 t41 t42 t43 t44 t45 t46 t47 t48 t49 t50 t51 t52 t53 t54 t55 t56 t57 t58 t59 t60 t61 t62 t63 t64 t65 t66 t67 t68 t69 t70 t71 t72 t73 t74 t75 t76 t77 t78 t79 t80 t81 t82 t83 t84 t85 t86 t87 t88 t89 t90 t91 t92 t93 t94 t95:Int):(Qb3 (Q1l 8 4 (Qjd++[t0,t1,t2,t3,t4,t5,t6,t7,t8,t9,t10,t11,t12,t13,t14,t15,t16,t17,t18,t19,t20,t21,t22,t23,t24,t25,t26,t27,t28,t29,t30,t31,t32,t33,t34,t35,t36,t37,t38,t39,t40,t41,t42,t43,t44,t45,t46,t47,t48,t49,t50,t51,t52,t53,t54,t55,t56,t57,t58,t59,t60,t61,t62,t63,t64,t65,t66,t67,t68,t69,t70,t71,t72,t73,t74,t75,t76,t77,t78,t79,t80,t81,t82,t83,t84,t85,t86,t87,t88,t89,t90,t91,t92,t93,t94,t95])).1 [] 87).2.2.2=0:=by kernel_rfl
end
attribute [local irreducible] Q1z
theorem qad(i j:List Int)(hi:i.length<=256)(hj:j.length<=256)(e:i++cR (256-i.length) 0=j++cR (256-j.length) 0):Q1l 8 4 i=Q1l 8 4 j:=by
 have w:i64.wrap (8*32)=256:=by decide
 have m:Qrb 8=cR 256 0:=by kernel_rfl
 have d: ∀k:List Int,k.length<=256->decide ((k.length:Int)>256)=false:=λk h=>dN (by omega)
 have mem: ∀k:List Int,k.length<=256->dC (min k.length (cR 256 (0:Int)).length) k++dD (min k.length (cR 256 (0:Int)).length) (cR 256 0)=k++cR (256-k.length) 0:=λk h=>by
   rw[cW,Nat.min_eq_left h,List.take_length,List.drop_replicate]
 have r:Qrb 8=cR 256 0:=by kernel_rfl
 simp only[Q1l,Q7p,Tree.m,w,letv,r,d i hi,d j hj]
 simp only[mem i hi,mem j hj,e]
theorem list96(t:List Int)(ht:t.length=96):t=[t.getD 0 0,t.getD 1 0,t.getD 2 0,t.getD 3 0,t.getD 4 0,t.getD 5 0,t.getD 6 0,t.getD 7 0,t.getD 8 0,t.getD 9 0,t.getD 10 0,t.getD 11 0,t.getD 12 0,t.getD 13 0,t.getD 14 0,t.getD 15 0,t.getD 16 0,t.getD 17 0,t.getD 18 0,t.getD 19 0,t.getD 20 0,t.getD 21 0,t.getD 22 0,t.getD 23 0,t.getD 24 0,t.getD 25 0,t.getD 26 0,t.getD 27 0,t.getD 28 0,t.getD 29 0,t.getD 30 0,t.getD 31 0,t.getD 32 0,t.getD 33 0,t.getD 34 0,t.getD 35 0,t.getD 36 0,t.getD 37 0,t.getD 38 0,t.getD 39 0,t.getD 40 0,t.getD 41 0,t.getD 42 0,t.getD 43 0,t.getD 44 0,t.getD 45 0,t.getD 46 0,t.getD 47 0,t.getD 48 0,t.getD 49 0,t.getD 50 0,t.getD 51 0,t.getD 52 0,t.getD 53 0,t.getD 54 0,t.getD 55 0,t.getD 56 0,t.getD 57 0,t.getD 58 0,t.getD 59 0,t.getD 60 0,t.getD 61 0,t.getD 62 0,t.getD 63 0,t.getD 64 0,t.getD 65 0,t.getD 66 0,t.getD 67 0,t.getD 68 0,t.getD 69 0,t.getD 70 0,t.getD 71 0,t.getD 72 0,t.getD 73 0,t.getD 74 0,t.getD 75 0,t.getD 76 0,t.getD 77 0,t.getD 78 0,t.getD 79 0,t.getD 80 0,t.getD 81 0,t.getD 82 0,t.getD 83 0,t.getD 84 0,t.getD 85 0,t.getD 86 0,t.getD 87 0,t.getD 88 0,t.getD 89 0,t.getD 90 0,t.getD 91 0,t.getD 92 0,t.getD 93 0,t.getD 94 0,t.getD 95 0]:=by
 apply bM
 . rw[ht];rfl
 . intro i h1 h2
   have e: ∀j (hj:j<96),[t.getD 0 0,t.getD 1 0,t.getD 2 0,t.getD 3 0,t.getD 4 0,t.getD 5 0,t.getD 6 0,t.getD 7 0,t.getD 8 0,t.getD 9 0,t.getD 10 0,t.getD 11 0,t.getD 12 0,t.getD 13 0,t.getD 14 0,t.getD 15 0,t.getD 16 0,t.getD 17 0,t.getD 18 0,t.getD 19 0,t.getD 20 0,t.getD 21 0,t.getD 22 0,t.getD 23 0,t.getD 24 0,t.getD 25 0,t.getD 26 0,t.getD 27 0,t.getD 28 0,t.getD 29 0,t.getD 30 0,t.getD 31 0,t.getD 32 0,t.getD 33 0,t.getD 34 0,t.getD 35 0,t.getD 36 0,t.getD 37 0,t.getD 38 0,t.getD 39 0,t.getD 40 0,t.getD 41 0,t.getD 42 0,t.getD 43 0,t.getD 44 0,t.getD 45 0,t.getD 46 0,t.getD 47 0,t.getD 48 0,t.getD 49 0,t.getD 50 0,t.getD 51 0,t.getD 52 0,t.getD 53 0,t.getD 54 0,t.getD 55 0,t.getD 56 0,t.getD 57 0,t.getD 58 0,t.getD 59 0,t.getD 60 0,t.getD 61 0,t.getD 62 0,t.getD 63 0,t.getD 64 0,t.getD 65 0,t.getD 66 0,t.getD 67 0,t.getD 68 0,t.getD 69 0,t.getD 70 0,t.getD 71 0,t.getD 72 0,t.getD 73 0,t.getD 74 0,t.getD 75 0,t.getD 76 0,t.getD 77 0,t.getD 78 0,t.getD 79 0,t.getD 80 0,t.getD 81 0,t.getD 82 0,t.getD 83 0,t.getD 84 0,t.getD 85 0,t.getD 86 0,t.getD 87 0,t.getD 88 0,t.getD 89 0,t.getD 90 0,t.getD 91 0,t.getD 92 0,t.getD 93 0,t.getD 94 0,t.getD 95 0][j]'hj=t.getD j 0:=by
     intro j hj
     have:[t.getD 0 0,t.getD 1 0,t.getD 2 0,t.getD 3 0,t.getD 4 0,t.getD 5 0,t.getD 6 0,t.getD 7 0,t.getD 8 0,t.getD 9 0,t.getD 10 0,t.getD 11 0,t.getD 12 0,t.getD 13 0,t.getD 14 0,t.getD 15 0,t.getD 16 0,t.getD 17 0,t.getD 18 0,t.getD 19 0,t.getD 20 0,t.getD 21 0,t.getD 22 0,t.getD 23 0,t.getD 24 0,t.getD 25 0,t.getD 26 0,t.getD 27 0,t.getD 28 0,t.getD 29 0,t.getD 30 0,t.getD 31 0,t.getD 32 0,t.getD 33 0,t.getD 34 0,t.getD 35 0,t.getD 36 0,t.getD 37 0,t.getD 38 0,t.getD 39 0,t.getD 40 0,t.getD 41 0,t.getD 42 0,t.getD 43 0,t.getD 44 0,t.getD 45 0,t.getD 46 0,t.getD 47 0,t.getD 48 0,t.getD 49 0,t.getD 50 0,t.getD 51 0,t.getD 52 0,t.getD 53 0,t.getD 54 0,t.getD 55 0,t.getD 56 0,t.getD 57 0,t.getD 58 0,t.getD 59 0,t.getD 60 0,t.getD 61 0,t.getD 62 0,t.getD 63 0,t.getD 64 0,t.getD 65 0,t.getD 66 0,t.getD 67 0,t.getD 68 0,t.getD 69 0,t.getD 70 0,t.getD 71 0,t.getD 72 0,t.getD 73 0,t.getD 74 0,t.getD 75 0,t.getD 76 0,t.getD 77 0,t.getD 78 0,t.getD 79 0,t.getD 80 0,t.getD 81 0,t.getD 82 0,t.getD 83 0,t.getD 84 0,t.getD 85 0,t.getD 86 0,t.getD 87 0,t.getD 88 0,t.getD 89 0,t.getD 90 0,t.getD 91 0,t.getD 92 0,t.getD 93 0,t.getD 94 0,t.getD 95 0]=(dE 96).map (λk=>t.getD k 0):=rfl
     simp only[this,List.getElem_map,List.getElem_range]
   rw[e i (by omega),cP,cG h1]
   rfl
theorem zaz(t:List Int)(ht:t.length=96):(Qb3 (Q1l 8 4 (Qjd++t)).1 [] 87).2.2.2=0:=by
 rw[list96 t ht]
 exact run87 _ _ _ _ _ _ _ _ _ _ _ _ _ _ _ _ _ _ _ _ _ _ _ _ _ _ _ _ _ _ _ _ _ _ _ _ _ _ _ _ _ _ _ _ _ _ _ _ _ _ _ _ _ _ _ _ _ _ _ _ _ _ _ _ _ _ _ _ _ _ _ _ _ _ _ _ _ _ _ _ _ _ _ _ _ _ _ _ _ _ _ _ _ _ _ _
theorem zad:Qjd.length=160:=by
 have h:boot.length<=160:=Zki.1
 unfold Qjd
 rw[lA,cW];omega
def out(f:Int)(m m':List Int):Prop:= ∀j:Nat,¬(f*32<=j/\(j:Int)<f*32+32)->m'.getD j 0=m.getD j 0
theorem Qo9(f:Int)(m:List Int):out f m m:=λ_ _=>rfl
theorem getDset(l:List Int)(i j:Nat)(v:Int)(h:i≠j):(l.set i v).getD j 0=l.getD j 0:=by
 simp only[cP,List.getElem?_set_ne h]
theorem Q33{P:Nat}{m:List Int}(h:Q0t P m):Q0o m=P:=by
 obtain⟨h1,h2,h3,_⟩:=h
 simp only[Q0o,Q7v,Tree.m]
 have e:(m.length:Int)=32*P:=by omega
 rw[e]
 have e1:(dF (32*(P:Int)) 32 !=0)=false:=by simp [Int.mul_tmod_right]
 have e2:decide ((32*(P:Int))>1024)=false:=dN (by omega)
 rw[e1,e2]
 simp only[cond_false]
 rw[Int.mul_tdiv_cancel_left _ (by decide),wrap_i64];omega
theorem yT{P:Nat}{m:List Int}(h:Q0t P m)(f:Int):Q4j m f=true->0<=f/\f<P:=by
 have hp:=Q33 h
 simp only[Q4j,Q7f,Tree.m,letv,hp]
 cases h1:decide (f>=0)
 . intro h;cases h
 . intro h;exact⟨oY h1,oY h⟩
theorem Z03{P:Nat}{m:List Int}(h:Q0t P m)(f:Int)(s:List UInt8):(Q31 m f s).w (λr=>Q0t P r.1/\out f m r.1/\(r.2=false->r.1=m)):=by
 have hcl:Q03 m=m:=rfl
 have h2:=h.p2
 unfold Q31
 refine w_an (Q8m h) (w_lv λx0 hx0=>w_lv λx1 hx1=> ?_)
 rw[hcl]at hx0;subst hx0
 refine w_br (λ_=>⟨h,Qo9 _ _,λ_=>rfl⟩) λhb=>w_br (λ_=>⟨h,Qo9 _ _,λ_=>rfl⟩) λhs=> ?_
 have hb:x1=true:=by simpa using hb
 obtain⟨f0,f1⟩:=yT h f (hx1.symm.trans hb)
 have hs:(s.length:Int)=128:=by simpa using hs
 refine w_lp (inv:=λz:Int×List Int=>0<=z.1/\z.1<=32/\Q0t P z.2/\out f x0 z.2) (μ:=Q9t x0 f s) ⟨show(0:Int)<=0 by decide,show(0:Int)<=32 by decide,h,Qo9 _ _⟩ (cO _) λz ⟨z1,z2,z3,z4⟩=> ?_
 refine w_br (λhb=> ?_) (λ_=>⟨z3,z4,λh=>by cases h⟩)
 have hb:=oY hb
 have e1:i64.wrap (4*z.1)=4*z.1:=by rw[wrap_i64];omega
 have e2:i64.wrap (i64.wrap (4*z.1)+4)=4*z.1+4:=by rw[wrap_i64,wrap_i64];omega
 have e3:i64.wrap (i64.wrap (f*32)+z.1)=f*32+z.1:=by rw[wrap_i64,wrap_i64];omega
 have hl:=z3.len
 have hlen:(dC (dG (i64.wrap (i64.wrap (4*z.1)+4))-dG (i64.wrap (4*z.1))) (dD (dG (i64.wrap (4*z.1))) s)).length=4:=by
   rw[e2,e1,bD,bF];omega
 refine w_cn (dY (by rw[e2,e1];omega)) ?_
 refine w_cn (dY (by rw[hlen];decide)) (w_cn (dY (by rw[hlen];decide)) (w_cn (dY (by rw[hlen];decide)) (w_cn (dY (by rw[hlen];decide)) (w_cn (by rw[e3];simp [bT];omega) (w_nx ?_)))))
 show(_/\_/\Q0t P (dH _ _ _)/\out f x0 (dH _ _ _))/\(_:Nat)<_
 have ew:i64.wrap (z.1+1)=z.1+1:=by rw[wrap_i64];omega
 rw[e3]
 refine⟨⟨by rw[ew];omega,by rw[ew];omega,⟨by rw[dI];exact hl,z3.p1,z3.p2,Qyh z3.u (U_or _ _) _⟩,λj hj=> ?_⟩,by show(32-i64.wrap (z.1+1)).toNat<(32-z.1).toNat;rw[ew];omega⟩
 rw[getDset _ _ _ _ (by omega)]
 exact z4 j hj
theorem xaz(w:List Int)(h:w.length<=32):(Q4g w).w (λr=>r.length=4*w.length):=by
 have e0:i64.wrap (4*(w.length:Int))=4*w.length:=by rw[wrap_i64];omega
 unfold Q4g
 refine w_cn (by rw[e0];simp [bT,D.plain];omega) ?_
 refine w_lp (inv:=λz:Int×List Int=>0<=z.1/\z.1<=w.length/\(z.2.length:Int)=4*z.1) (μ:=Q6j w) ⟨by decide,by show(0:Int)<=w.length;omega,rfl⟩ (cO _) λz ⟨z1,z2,z3⟩=> ?_
 refine w_br (λhb=> ?_) (λhb=> ?_)
 . have hb:=oY hb
   have ew:i64.wrap (z.1+1)=z.1+1:=by rw[wrap_i64];omega
   refine w_cn (by simp [bT];omega) (w_cn (dY (by omega)) (w_nx ?_))
   show(_/\_/\_)/\(_:Nat)<_
   refine⟨⟨by rw[ew];omega,by rw[ew];omega,by rw[ew,lA];simp only[dJ,dK];omega⟩,by show(w.length-i64.wrap (z.1+1)).toNat<(w.length-z.1).toNat;rw[ew];omega⟩
 . have hb:=oN hb
   show(bytesOf z.2).length=_
   rw[Qh2];omega
theorem Zgi{P:Nat}{m:List Int}(h:Q0t P m)(f:Int):(Q5y m f).w (λr=>0<=f->f<P->r.1.length=128):=by
 have hl:=h.len
 have h2:=h.p2
 unfold Q5y
 refine w_lv λx0 hx0=>w_br (λhb=>λf0 f1=> ?_) (λhb=> ?_)
 . have hp:=Q33 h
   have hb:x0=false:=by simpa using hb
   rw[hb]at hx0
   simp only[Q4j,Q7f,Tree.m,letv,hp]at hx0
   rw[dY f0]at hx0
   exact absurd f1 (oN hx0.symm)
 . have hb:x0=true:=by simpa using hb
   obtain⟨f0,f1⟩:=yT h f (hx0.symm.trans hb)
   have e1:i64.wrap (f*32)=f*32:=by rw[wrap_i64];omega
   have e2:i64.wrap (i64.wrap (f*32)+32)=f*32+32:=by rw[wrap_i64,wrap_i64];omega
   have hlen:(dC (dG (i64.wrap (i64.wrap (f*32)+32))-dG (i64.wrap (f*32))) (dD (dG (i64.wrap (f*32))) m)).length=32:=by
     rw[e2,e1,bD,bF];omega
   refine w_cn (by rw[e2,e1];simp [bT];omega) ?_
   refine w_an (by show dL _<=1000000000000;rw[hlen];decide) (w_lv λx1 h1=> ?_)
   have h1:x1.length=4*(dC (dG (i64.wrap (i64.wrap (f*32)+32))-dG (i64.wrap (f*32))) (dD (dG (i64.wrap (f*32))) m)).length:=by rw[h1];exact(Tree.pp (xaz _ (dM hlen))).2
   intro _ _
   show x1.length=128
   rw[h1,hlen]
theorem Zj1{f:Int}(hf:U f){P:Nat}(hP:P<=32)(h:decide (u64.wrap f<u64.wrap (P:Int))=true):0<=f/\f<P:=by
 have h:=oY h
 obtain⟨h1,h2⟩:=hf
 rw[wrap_u64,wrap_u64,dO h1 (by omega),dO (by omega) (by omega)]at h
 exact⟨h1,h⟩
theorem Zlc{P:Nat}{m:List Int}(h:Q0t P m){d:Q0d}(hd:Q7i d)(e:Q0e):(Q89 d m e).w (λr=>Q7i r.1/\Q0t P r.2.1/\out d.B2 m r.2.1/\(r.2.2=false->r.2.1=m)/\(∀p,Q15 d p=true->Q15 r.1 p=true)):=by
 have hcl:Q03 m=m:=rfl
 have keep: ∀b:Bool,Q7i d/\Q0t P m/\out d.B2 m m/\(b=false->m=m)/\(∀p,Q15 d p=true->Q15 d p=true):=λb=>⟨hd,h,Qo9 _ _,λ_=>rfl,λ_ h=>h⟩
 have blk: ∀{p:Int},Q15 d p=true->decide (d.Blocks>64)=false:=fun{p} hm=>by
   cases hb:decide (d.Blocks>64)
   . rfl
   . have:Q15 d p=false:=by simp only[Q15,Q3y,Tree.m];rw[hb];rfl
     rw[this]at hm;cases hm
 have m2: ∀p,Q15 d p=true->Q15 {Blocks:=d.Blocks,C1:=d.C1,Frame:=d.Frame,B7:=2,D4:=0,B5:=0,B2:=0,B8:=[]} p=true:=λp hm=>by
   simp only[Q15,Q3y,Tree.m];rw[blk hm];rfl
 have m3: ∀p,Q15 d p=true->Q15 {Blocks:=d.Blocks,C1:=d.C1,Frame:=d.Frame,B7:=3,D4:=0,B5:=0,B2:=0,B8:=[]} p=true:=λp hm=>by
   simp only[Q15,Q3y,Tree.m];rw[blk hm];rfl
 unfold Q89
 refine w_br (λ_=>w_an (Q8m h) (w_lv λx hx=>by rw[hcl]at hx;subst hx;exact keep _)) λ_=>w_br (λ_=>w_an (Q8m h) (w_lv λx hx=>by rw[hcl]at hx;subst hx;exact keep _)) λ_=>w_br (λ_=>w_an (Q8m h) (w_lv λx hx=>by rw[hcl]at hx;subst hx;exact keep _)) λ_=>w_an (Q8m h) (w_lv λx3 hx3=> ?_)
 rw[hcl]at hx3;subst hx3
 have fin: ∀{m':List Int},Q0t P m'->out d.B2 x3 m'->(Tree.br (e.N==1) (.lf (({Blocks:=d.Blocks,C1:=d.C1,Frame:=d.Frame,B7:=2,D4:=0,B5:=0,B2:=0,B8:=[]}:Q0d),m',true)) (.lf (({Blocks:=d.Blocks,C1:=d.C1,Frame:=d.Frame,B7:=3,D4:=0,B5:=0,B2:=0,B8:=[]}:Q0d),m',true))).w (λr=>Q7i r.1/\Q0t P r.2.1/\out d.B2 x3 r.2.1/\(r.2.2=false->r.2.1=x3)/\(∀p,Q15 d p=true->Q15 r.1 p=true)):=λhm ho=>
   w_br (λ_=>⟨⟨hd.block,hd.frame,U_0,U_0⟩,hm,ho,(λh=>by cases h),m2⟩) (λ_=>⟨⟨hd.block,hd.frame,U_0,U_0⟩,hm,ho,(λh=>by cases h),m3⟩)
 have nod:(Tree.br (!decide (e.C9=[])) (.lf (d,x3,false)) (Tree.br (e.N==1) (.lf (({Blocks:=d.Blocks,C1:=d.C1,Frame:=d.Frame,B7:=2,D4:=0,B5:=0,B2:=0,B8:=[]}:Q0d),x3,true)) (.lf (({Blocks:=d.Blocks,C1:=d.C1,Frame:=d.Frame,B7:=3,D4:=0,B5:=0,B2:=0,B8:=[]}:Q0d),x3,true)))).w (λr=>Q7i r.1/\Q0t P r.2.1/\out d.B2 x3 r.2.1/\(r.2.2=false->r.2.1=x3)/\(∀p,Q15 d p=true->Q15 r.1 p=true)):=
   w_br (λ_=>keep _) (λ_=>fin h (Qo9 _ _))
 refine w_br (λ_=>w_br (λ_=>w_lv λx4 hx4=>w_br (λ_=>keep _) λhb=> ?_) (λ_=>nod)) (λ_=>nod)
 have hp:=Q33 h
 have hb:x4=true:=by simpa using hb
 rw[hb]at hx4
 simp only[Q8y,Qco,Tree.m,letv,hp]at hx4
 obtain⟨f0,f1⟩:=Zj1 hd.opFrame h.p2 hx4.symm
 have ef:i64.wrap d.B2=d.B2:=by have:=h.p2;rw[wrap_i64];omega
 refine Q0a (Z03 h _ _) λx5 ⟨h5,o5,k5⟩=> ?_
 rw[ef]at o5
 exact w_br (λhf=>⟨hd,h5,o5,λ_=>k5 (by simpa using hf),λ_ h=>h⟩) (λ_=>fin h5 o5)
theorem vf{P:Nat}{m:List Int}(h:Q0t P m){n:Q0m}(hn:Qhl n)(frame:List UInt8):(Qbs n m frame).w (λr=>Qhl r.1/\Q0t P r.2.1/\out n.C0 m r.2.1/\(r.2.2=false->r.2.1=m)/\(∀p,Q5a n p=true->Q5a r.1 p=true)):=by
 have hcl:Q03 m=m:=rfl
 have keep:Qhl n/\Q0t P m/\out n.C0 m m/\(false=false->m=m)/\(∀p,Q5a n p=true->Q5a n p=true):=⟨hn,h,Qo9 _ _,λ_=>rfl,λ_ h=>h⟩
 unfold Qbs
 refine w_br (λ_=>w_an (Q8m h) (w_lv λx hx=>by rw[hcl]at hx;subst hx;exact keep)) λhpo=>w_br (λ_=>w_an (Q8m h) (w_lv λx hx=>by rw[hcl]at hx;subst hx;exact keep)) λl1=>w_br (λ_=>w_an (Q8m h) (w_lv λx hx=>by rw[hcl]at hx;subst hx;exact keep)) λl2=>w_lv λx3 hx3=>w_br (λ_=>w_an (Q8m h) (w_lv λx hx=>by rw[hcl]at hx;subst hx;exact keep)) λhb=> ?_
 have l1:=oN l1
 have l2:=oN l2
 have hp:=Q33 h
 have hb:x3=true:=by simpa using hb
 rw[hb]at hx3
 simp only[Q93,Qdz,Tree.m,letv,hp]at hx3
 obtain⟨f0,f1⟩:=Zj1 hn.buffer h.p2 hx3.symm
 have ef:i64.wrap n.C0=n.C0:=by have:=h.p2;rw[wrap_i64];omega
 refine Q0a (Zgi h _) λx5 h5=> ?_
 rw[ef]at h5
 have h5:=h5 f0 f1
 have hmax:(maxLen:Nat)=9223372036854775807:=rfl
 refine w_cn (dY (by omega)) (w_cn (dY (by simp only[bD,bF,hmax];omega)) (Q0a (Z03 h _ _) λx6 ⟨h6,o6,_⟩=> ?_))
 rw[ef]at o6
 have hg:u32.wrap (frame.length:Int)=frame.length:=by rw[wrap_u32];omega
 refine⟨⟨hn.frame,hn.len,U_0,Q0l _⟩,h6,o6,(λh=>by cases h),λp _=> ?_⟩
 simp only[Q5a,Qjp,Tree.m]
 rw[hg,dY (show(frame.length:Int)>=1 by omega),dY (show(frame.length:Int)<=128 by omega)]
 rfl
theorem xad(c:Q0c)(b:Int):(Qdr c b).w (λr=>Q25 c=true->Q25 r.1=true):=by
 have hmax:(maxLen:Nat)=9223372036854775807:=rfl
 unfold Qdr
 refine w_br (λ_=>λh=>h) (λhb=> ?_)
 have hb:=oN hb
 refine w_cn (dY (by rw[hmax];omega)) ?_
 intro _
 show decide (((c.D0++[_]).length:Int)<=16)=true
 rw[lA,dA]
 exact dY (by omega)
theorem vF(t:Q0h)(h:Q3q t=true):Q3q (Qof t).1=true:=by
 simp only[Qof,Qwy,Tree.m]
 cases ha:t.D2
 . exact h
 . rfl
theorem qg(m:Q00):Q0q m=(Q25 m.A2&&(Q3q m.A7&&(Q15 m.A9 (Q0o m.Mem)&&(Q5a m.B9 (Q0o m.Mem)&&Q2c m.A1 (Q0o m.Mem))))):=by
 simp only[Q0q,Q1,Tree.m,letv]
 cases Q25 m.A2<;>cases Q3q m.A7<;>cases Q15 m.A9 (Q0o m.Mem)<;>cases Q5a m.B9 (Q0o m.Mem)<;>rfl
theorem qaA{b c:Q07}(h:c.C2=b.C2)(p:Int):Q2c c p=Q2c b p:=by
 simp only[Q2c,Q3l,Tree.m,h]
theorem cnd{a x y:Bool}(h:x=true->y=true):(bif a then false else x)=true->(bif a then false else y)=true:=by cases a<;>simp_all
def chain(b1 b2 b3 b4 b5 b6 b7 w h dev:Bool):Bool:=bif b1 then false else bif b2 then false else bif b3 then false else bif b4 then false else bif b5 then false else bif b6 then false else bif b7 then false else bif w then(bif h then false else dev) else dev
theorem Zlk{b1 b2 b3 b4 b5 b6 b7 w h d d':Bool}(hd:d=true->d'=true):chain b1 b2 b3 b4 b5 b6 b7 w h d=true->chain b1 b2 b3 b4 b5 b6 b7 w h d'=true:=by
 refine cnd (cnd (cnd (cnd (cnd (cnd (cnd ?_))))))
 cases w
 . exact hd
 . cases h
   . exact hd
   . exact λh=>h
def mayC(p:Int)(c:Q02)(ct:Int)(w h dev:Bool):Bool:=chain (p==0) (c.X.a0 !=0) (decide (c.B4.a0>31)) (decide (c.B4.a7>31)) (decide (c.B4.a6>255)) (dF c.B4.a1 4 !=0) (decide (ct>1152921504606846976)) w h dev
theorem xg{p:Int}{c:Q02}{ct:Int}{w h d d':Bool}(hd:d=true->d'=true)(g:mayC p c ct w h d=true):mayC p c ct w h d'=true:=Zlk hd g
theorem vT(m:Q00):Q17 m=mayC (Q0o m.Mem) m.B1 m.A4 m.A3 m.A6 (Q0q m):=rfl
theorem Qtk{m n:Q00}(hp:Q0o n.Mem=Q0o m.Mem)(hcpu:n.B1=m.B1)(hct:n.A4=m.A4)(hw:n.A3=m.A3)(hh:n.A6=m.A6)
   (hc:Q25 m.A2=true->Q25 n.A2=true) (ht:Q3q m.A7=true->Q3q n.A7=true) (hd: ∀p,Q15 m.A9 p=true->Q15 n.A9 p=true) (hn: ∀p,Q5a m.B9 p=true->Q5a n.B9 p=true) (hb:n.A1.C2=m.A1.C2) (h:Q17 m=true):Q17 n=true:=by
 have dev:Q0q m=true->Q0q n=true:=λh=>by
   rw[qg]at h⊢
   simp only[aE]at h⊢
   rw[hp,qaA hb]
   exact⟨hc h.1,ht h.2.1,hd _ h.2.2.1,hn _ h.2.2.2.1,h.2.2.2.2⟩
 rw[vT]at h⊢
 rw[hp,hcpu,hct,hw,hh]
 exact xg dev h
section
variable {P:Nat} {m:List Int} (h:Q0t P m)
include h
theorem dpage{f:Int}(hf:U f){b:Bool}(hx:b=Q8y m f)(hb:b=true):0<=f/\f<P:=by
 have hp:=Q33 h
 rw[hb]at hx
 simp only[Q8y,Qco,Tree.m,letv,hp]at hx
 exact Zj1 hf h.p2 hx.symm
theorem npage{f:Int}(hf:U f){b:Bool}(hx:b=Q93 m f)(hb:b=true):0<=f/\f<P:=by
 have hp:=Q33 h
 rw[hb]at hx
 simp only[Q93,Qdz,Tree.m,letv,hp]at hx
 exact Zj1 hf h.p2 hx.symm
def keepD(P:Nat)(d d':Q0d):Prop:=Q7i d'/\(Q15 d P=true->Q15 d' P=true)
theorem zg{d:Q0d}(hd:Q7i d){cmd:Int}(hc:cmd=1\/cmd=2)(at0:Int):(Qbj d m cmd at0).w (λr=>keepD P d r.1/\r.2.length<=1):=by
 have h2:=h.p2
 have st3:(d.B7 !=0)=false->keepD P d {Blocks:=d.Blocks,C1:=d.C1,Frame:=d.Frame,B7:=3,D4:=d.D4,B5:=d.B5,B2:=d.B2,B8:=d.B8}:=λhs=>by
   have hs:d.B7=0:=by simpa using hs
   refine⟨⟨hd.block,hd.frame,hd.opBlock,hd.opFrame⟩,λhm=> ?_⟩
   simp only[Q15,Q3y,Tree.m,hs]at hm⊢
   exact hm
 have blk:Q15 d P=true->decide (d.Blocks>64)=false:=λhm=>by
   cases hb:decide (d.Blocks>64)
   . rfl
   . have:Q15 d P=false:=by simp only[Q15,Q3y,Tree.m];rw[hb];rfl
     rw[this]at hm;cases hm
 unfold Qbj
 refine w_br (λ_=>⟨⟨hd,λh=>h⟩,aT _⟩) λhs=>w_br (λ_=>⟨st3 hs,aT _⟩) λhb=>w_lv λx0 hx=>w_br (λ_=>⟨st3 hs,aT _⟩) λhp=> ?_
 have hb:=oN hb
 obtain⟨f0,f1⟩:=dpage h hd.frame hx (by simpa using hp)
 have ef:i64.wrap d.Frame=d.Frame:=by rw[wrap_i64];omega
 have e1:decide (d.C1<d.Blocks)=true:=dY (by omega)
 have e2:decide (i64.wrap d.Frame<(P:Int))=true:=by rw[ef];exact dY f1
 refine w_br (λhcm=>Q0a (Zgi h _) λx1 h1=> ?_) (λhcm=> ?_)
 . rw[ef]at h1
   have h1:=h1 f0 f1
   have hcm:=eq_of_beq hcm
   subst hcm
   refine w_lv λx2 _=>⟨⟨⟨hd.block,hd.frame,hd.block,hd.frame⟩,λhm=> ?_⟩,aO _⟩
   simp only[Q15,Q3y,Q6c,Q3c,Tree.m,letv,blk hm,e1,e2,h1]
   rfl
 . have hc:cmd=1:=by
     rcases hc with h|h
     . exact h
     . rw[h]at hcm;exact absurd hcm (by decide)
   subst hc
   refine w_lv λx2 _=>⟨⟨⟨hd.block,hd.frame,hd.block,hd.frame⟩,λhm=> ?_⟩,aO _⟩
   simp only[Q15,Q3y,Q6c,Q3c,Tree.m,letv,blk hm,e1,e2]
   rfl
theorem qae{d:Q0d}(hd:Q7i d)(port:Int){v:Int}(hv:U v)(at0:Int):(Qg9 d m port v at0).w (λr=>keepD P d r.1/\r.2.length<=1):=by
 have keep:keepD P d d:=⟨hd,λh=>h⟩
 have e1: ∀{k:Int},(v==k)=true->i64.wrap v=k:=λhk=>by
   have:=eq_of_beq hk
   obtain⟨a,b⟩:=hv
   rw[wrap_i64];omega
 unfold Qg9
 refine w_br (λ_=>⟨⟨⟨hv,hd.frame,hd.opBlock,hd.opFrame⟩,λh=>h⟩,aT _⟩) λ_=>w_br (λ_=>⟨⟨⟨hd.block,hv,hd.opBlock,hd.opFrame⟩,λh=>h⟩,aT _⟩) λ_=>w_br (λ_=>w_br (λhk=>Q0a (zg h hd (.inl (e1 hk)) _) λx hx=>hx) λ_=>w_br (λhk=>Q0a (zg h hd (.inr (e1 hk)) _) λx hx=>hx) λ_=>w_br (λ_=>w_lv λx hx=>w_br (λhb=> ?_) (λ_=>⟨keep,aT _⟩)) (λ_=>⟨keep,aT _⟩)) (λ_=>⟨keep,aT _⟩)
 refine⟨⟨⟨hd.block,hd.frame,hd.opBlock,hd.opFrame⟩,λhm=> ?_⟩,aT _⟩
 rw[hb]at hx
 simp only[Q8s,Qj0,Tree.m]at hx
 cases h2:d.B7==2
 . rw[h2]at hx
   have h3:d.B7=3:=eq_of_beq hx.symm
   simp only[Q15,Q3y,Tree.m,h3]at hm⊢
   exact hm
 . have h3:d.B7=2:=eq_of_beq h2
   simp only[Q15,Q3y,Tree.m,h3]at hm⊢
   exact hm
def keepN(P:Nat)(n n':Q0m):Prop:=Qhl n'/\(Q5a n P=true->Q5a n' P=true)
theorem zaA{n:Q0m}(hn:Qhl n)(at0:Int):(Qg2 n m at0).w (λr=>r.length<=1):=by
 have h2:=h.p2
 unfold Qg2
 refine w_br (λ_=>aT _) λl1=>w_br (λ_=>aT _) λl2=>w_lv λx0 hx=>w_br (λ_=>aT _) λhp=>Q0a (Zgi h _) λx1 h1=> ?_
 have l1:=oN l1
 have l2:=oN l2
 obtain⟨f0,f1⟩:=npage h hn.frame hx (by simpa using hp)
 have ef:i64.wrap n.Frame=n.Frame:=by rw[wrap_i64];omega
 rw[ef]at h1
 have h1:=h1 f0 f1
 exact w_cn (dY (by omega)) (aO _)
theorem xaA{n:Q0m}(hn:Qhl n)(port:Int){v:Int}(hv:U v)(at0:Int):(Qkd n m port v at0).w (λr=>keepN P n r.1/\r.2.length<=1):=by
 have h2:=h.p2
 have keep:keepN P n n:=⟨hn,λh=>h⟩
 unfold Qkd
 refine w_br (λ_=>⟨⟨⟨hv,hn.len,hn.buffer,hn.got⟩,λh=>h⟩,aT _⟩) λ_=>w_br (λ_=>⟨⟨⟨hn.frame,hv,hn.buffer,hn.got⟩,λh=>h⟩,aT _⟩) λ_=>w_br (λ_=>w_br (λ_=>Q0a (zaA h hn _) λx hx=>⟨keep,hx⟩) λ_=>w_br (λ_=>w_lv λx hx=>w_br (λhb=>w_br (λnp=>w_br (λnr=> ?_) (λ_=>⟨keep,aT _⟩)) (λ_=>⟨keep,aT _⟩)) (λ_=>⟨keep,aT _⟩)) λ_=>w_br (λ_=> ?_) (λ_=>⟨keep,aT _⟩)) (λ_=>⟨keep,aT _⟩)
 . obtain⟨f0,f1⟩:=npage h hn.frame hx hb
   have np:n.C5=false:=by simpa using np
   have nr:n.B6=false:=by simpa using nr
   have e2:decide (i64.wrap n.Frame>=(P:Int))=false:=dN (by rw[wrap_i64];omega)
   refine⟨⟨⟨hn.frame,hn.len,hn.frame,hn.got⟩,λhm=> ?_⟩,aT _⟩
   simp only[Q5a,Qjp,Tree.m,np,nr,e2]at hm⊢
   cases hb:(n.C0 !=0)
   . rw[hb]at hm;exact hm
   . rw[hb]at hm;cases hm
 . refine⟨⟨⟨hn.frame,hn.len,hn.buffer,U_0⟩,λhm=> ?_⟩,aT _⟩
   simp only[Q5a,Qjp,Tree.m]at hm⊢
   revert hm
   cases n.C5<;>cases n.B6<;>cases decide (i64.wrap n.C0>=(P:Int))<;>cases(n.C0 !=0)<;>simp
end
theorem zae(t:Q0h)(v:Int):Q3q (Qjg t v)=true:=by
 simp only[Qjg,Qlh,Q3q,Ql1,Tree.m]
 cases h:(v !=0)
 . have:v=0:=by simpa using h
   subst this;rfl
 . rfl
theorem Qq2{a:Int}(k:Nat)(hk:k<=32):ishr .u32 a k=a/2^k:=by
 unfold ishr
 have e:min (k:Int).toNat u32.bits=k:=by show min (k:Int).toNat 32=k;omega
 have hp:(0:Int)<2^k:=dP (by decide)
 rw[e,dQ _ (dR hp)]
def Zl3(x:Int)(n:Nat):Prop:=x<2^n/\(n=0\/(2:Int)^(n-1)<=x)
theorem Zax{x q:Int}{n k:Nat}(hq:q=x/2^k)(h0:0<q)(h:Zl3 q n):Zl3 x (n+k):=by
 have hp:(0:Int)<2^k:=dP (by decide)
 obtain⟨h1,h2⟩:=h
 have hn:n≠0:=λe=>by subst e;simp at h1;omega
 refine⟨?_, .inr ?_⟩
 . rw[dS]
   have:x<(x/2^k+1)*2^k:=Int.lt_ediv_add_one_mul_self x hp
   have h3:(x/2^k+1)*2^k<=2^n*2^k:=dT (by omega) (dR hp)
   omega
 . have h2:=h2.resolve_left hn
   have e:n+k-1=(n-1)+k:=by omega
   rw[e,dS]
   have h3:(2:Int)^(n-1)*2^k<=q*2^k:=dT h2 (dR hp)
   have h4:q*2^k<=x:=by rw[hq];exact Int.ediv_mul_le x (Int.ne_of_gt hp)
   omega
theorem qG{x:Int}{n p:Nat}(h:Zl3 x n)(hx:x<2^p):n<=p:=by
  obtain⟨h1,h2⟩:=h
  rcases h2 with h2|h2
  . omega
  . rcases Nat.lt_or_ge p n with hlt|hge
    . have:(2:Int)^p<=2^(n-1):=by
        have:=dU (show 0<2 by omega) (show p<=n-1 by omega)
        exact_mod_cast this
      omega
    . exact hge
theorem Zhe{x:Int}{n p:Nat}(h:Zl3 x n)(hn:n<=p):x<2^p:=by
 have:(2:Int)^n<=2^p:=by
   have:=dU (show 0<2 by omega) hn
   exact_mod_cast this
 exact Int.lt_of_lt_of_le h.1 this
def lenChk(i:Nat):Bool:=match(Q1c (i:Int)) with
 | .ofNat n=>decide ((i:Int)<2^n)&&(Nat.beq n 0||decide ((2:Int)^(n-1)<=i))&&decide (n<=8)
 |_=>false
theorem Qsf{q:Int}(h0:0<=q)(h1:q<256): ∃n:Nat,Q1c q=n/\Zl3 q n/\n<=8:=by
 have all:List.all (dE 256) lenChk=true:=by kernel_rfl
 have:=List.all_eq_true.1 all q.toNat (List.mem_range.2 (by omega))
 have hq:((q.toNat:Nat):Int)=q:=by omega
 unfold lenChk at this
 rw[hq]at this
 split at this
 . rename_i n hn
   simp only[aE,aI,decide_eq_true_eq]at this
   refine⟨n,hn,⟨this.1.1,?_⟩,this.2⟩
   rcases this.1.2 with h|h
   . exact .inl (bE h)
   . exact .inr h
 . cases this
theorem qaB{x:Int}(h:U x)(hx:16777216<=x):Q1c x=24+Q1c (x/16777216):=by
 obtain⟨h0,h1⟩:=h
 have s16:ishr .u32 x 16=x/65536:=Qq2 16 (by omega)
 have s24:ishr .u32 (x/65536) 8=x/16777216:=by rw[show((8:Int))=((8:Nat):Int) from rfl,Qq2 8 (by omega)];omega
 have d1:decide (x>=65536)=true:=dY (by omega)
 have d2:decide (x/65536>=256)=true:=dY (by omega)
 have d3:decide (x/16777216>=65536)=false:=dN (by omega)
 have d4:decide (x/16777216>=256)=false:=dN (by omega)
 have u:u8.wrap (x/16777216)=x/16777216:=by rw[wrap_u8];omega
 simp only[Q1c,Q1k,Tree.m,s16,s24,d1,d2,d3,d4,u,cond_true,cond_false]
 generalize(aK _ (dG (x/16777216)) (0:UInt8))=b
 have hb:=dV b
 rw[wrap_i64,wrap_i64,wrap_i64,wrap_i64]
 omega
theorem zaB{x:Int}(h0:65536<=x)(h1:x<16777216):Q1c x=16+Q1c (x/65536):=by
 have s16:ishr .u32 x 16=x/65536:=Qq2 16 (by omega)
 have d1:decide (x>=65536)=true:=dY (by omega)
 have d2:decide (x/65536>=256)=false:=dN (by omega)
 have d3:decide (x/65536>=65536)=false:=dN (by omega)
 have u:u8.wrap (x/65536)=x/65536:=by rw[wrap_u8];omega
 simp only[Q1c,Q1k,Tree.m,s16,d1,d2,d3,u,cond_true,cond_false]
 generalize(aK _ (dG (x/65536)) (0:UInt8))=b
 have hb:=dV b
 rw[wrap_i64,wrap_i64,wrap_i64]
 omega
theorem len_8{x:Int}(h0:256<=x)(h1:x<65536):Q1c x=8+Q1c (x/256):=by
 have s8:ishr .u32 x 8=x/256:=Qq2 8 (by omega)
 have d1:decide (x>=65536)=false:=dN (by omega)
 have d2:decide (x>=256)=true:=dY (by omega)
 have d3:decide (x/256>=65536)=false:=dN (by omega)
 have d4:decide (x/256>=256)=false:=dN (by omega)
 have u:u8.wrap (x/256)=x/256:=by rw[wrap_u8];omega
 simp only[Q1c,Q1k,Tree.m,s8,d1,d2,d3,d4,u,cond_true,cond_false]
 generalize(aK _ (dG (x/256)) (0:UInt8))=b
 have hb:=dV b
 rw[wrap_i64,wrap_i64,wrap_i64,wrap_i64]
 omega
theorem Zl9{x:Int}(h:U x): ∃n:Nat,Q1c x=n/\Zl3 x n:=by
  obtain⟨h0,h1⟩:=h
  rcases dW x 256 with a|a
  . obtain⟨n,e,l,_⟩:=Qsf h0 a
    exact⟨n,e,l⟩
  . rcases dW x 65536 with b|b
    . obtain⟨n,e,l,_⟩:=Qsf (q:=x/256) (by omega) (by omega)
      exact⟨n+8,by rw[len_8 a b,e];omega,Zax (k:=8) rfl (by omega) l⟩
    . rcases dW x 16777216 with c|c
      . obtain⟨n,e,l,_⟩:=Qsf (q:=x/65536) (by omega) (by omega)
        exact⟨n+16,by rw[zaB b c,e];omega,Zax (k:=16) rfl (by omega) l⟩
      . obtain⟨n,e,l,_⟩:=Qsf (q:=x/16777216) (by omega) (by omega)
        exact⟨n+24,by rw[qaB ⟨h0,h1⟩ c,e];omega,Zax (k:=24) rfl (by omega) l⟩
theorem Z07{b:Q07}(h:U b.C2){P:Nat}:Q2c b P=true↔b.C2<2^P:=by
 obtain⟨n,e,l⟩:=Zl9 h
 have hp:(if(0:Int)>(P:Int) then(0:Int) else P)=P:=by rw[if_neg (by omega)]
 simp only[Q2c,Q3l,Tree.m,letv,e,hp,decide_eq_true_eq]
 constructor
 . intro h;exact Zhe l (by omega)
 . intro h;have:=qG l h;omega
theorem Z8u{a:Int}(h:U a){P:Nat}(h1:a<2^P):(dX 32 a).toNat<2^P:=by
 obtain⟨a0,a1⟩:=h
 rw[dZ,dO a0 (by omega)]
 have:((2^P:Nat):Int)=(2:Int)^P:=by exact_mod_cast rfl
 omega
theorem or_lt{a b:Int}(ha:U a)(hb:U b){P:Nat}(hP:P<=32)(h1:a<2^P)(h2:b<2^P):ior .u32 a b<2^P:=by
 have e:(dX 32 a|||dX 32 b).toNat<2^P:=by
   rw[eA]
   exact Nat.or_lt_two_pow (Z8u ha h1) (Z8u hb h2)
 have hc:((2^P:Nat):Int)=(2:Int)^P:=by exact_mod_cast rfl
 have l:=(dX 32 a|||dX 32 b).isLt
 show wrap .u32 ((dX 32 a|||dX 32 b).toNat:Int)<2^P
 rw[wrap_u32]
 omega
theorem xae{a b:Int}(ha:U a){P:Nat}(h1:a<2^P):Qg .u32 a b<2^P:=by
 have e:(dX 32 a&&&~~~dX 32 b).toNat<2^P:=by
   rw[eB]
   exact Nat.lt_of_le_of_lt eC (Z8u ha h1)
 have hc:((2^P:Nat):Int)=(2:Int)^P:=by exact_mod_cast rfl
 have l:=(dX 32 a&&&~~~dX 32 b).isLt
 show wrap .u32 ((dX 32 a&&&~~~dX 32 b).toNat:Int)<2^P
 rw[wrap_u32]
 omega
theorem yg{v:Int}(h0:0<=v)(h1:v<32):ishl .u32 1 v=2^v.toNat:=by
 have e:min v.toNat u32.bits=v.toNat:=by show min v.toNat 32=v.toNat;omega
 obtain⟨n,rfl⟩: ∃n:Nat,v=n:=⟨v.toNat,by omega⟩
 have hn:n<32:=by omega
 have hlt:(2:Nat)^n<4294967296:=by
   have:=eD (show 1<2 by omega) hn
   simpa using this
 have hc:((2^n:Nat):Int)=(2:Int)^n:=by exact_mod_cast rfl
 unfold ishl
 rw[e,wrap_u32,Int.one_mul,eF,<-hc]
 clear hc e
 generalize(2:Nat)^n=z at*
 omega
def keepB(P:Nat)(b b':Q07):Prop:=okB b'/\(Q2c b P=true->Q2c b' P=true)
theorem Zn4{P:Nat}{m:List Int}(h:Q0t P m){b:Q07}(hb:okB b)(port:Int){v:Int}(hv:U v):(Q3i b m port v).w (λr=>keepB P b r.1/\Q0t P r.2):=by
 have hcl:Q03 m=m:=rfl
 have h2:=h.p2
 have hp:=Q33 h
 have keep:(Tree.an (Q06 m) (.lv (Q03 m) λx=> .lf (b,x))).w (λr=>keepB P b r.1/\Q0t P r.2):=w_an (Q8m h) (w_lv λx hx=>by rw[hcl]at hx;subst hx;exact⟨⟨hb,λh=>h⟩,h⟩)
 unfold Q3i
 refine w_br (λ_=>keep) λhlt=>w_cn (dY hv.1) (w_br (λ_=>w_lv λx1 hx=>w_br (λhpg=>w_br (λ_=>w_an ⟨by decide,by decide,by decide⟩ (w_lv λx2 _=>Q0a (Z03 h _ _) λx3 ⟨h3,_⟩=> ?_)) (λ_=>keep)) (λ_=>keep)) (λ_=>w_br (λ_=>w_an (Q8m h) (w_lv λx hx=> ?_)) (λ_=>keep)))
 . have hlt:=oN hlt
   have hpg:=oY hpg
   rw[hx,hp]at hpg
   obtain⟨v0,v1⟩:=hv
   have ev:i64.wrap v=v:=by rw[wrap_i64];omega
   rw[ev]at hpg
   refine⟨⟨⟨hb.1,Q0l _⟩,λhm=> ?_⟩,h3⟩
   rw[Z07 hb.2]at hm
   rw[Z07 (Q0l _)]
   have hs:ishl .u32 1 v<2^P:=by
     rw[yg v0 (by omega)]
     have:=eD (show 1<2 by omega) (show v.toNat<P by omega)
     exact_mod_cast this
   exact or_lt hb.2 (Q0l _) h2 hm hs
 . rw[hcl]at hx;subst hx
   refine⟨⟨⟨hb.1,Q0l _⟩,λhm=> ?_⟩,h⟩
   rw[Z07 hb.2]at hm
   rw[Z07 (Q0l _)]
   exact xae hb.2 hm
structure kept(P:Nat)(m n:Q00):Prop where
 ok:okS P n
 dev:Q0q m=true->Q0q n=true
 cpu:n.B1=m.B1
 cnt:n.A4=m.A4
 wait:n.A3=m.A3
 halt:n.A6=m.A6
theorem Zcv{P:Nat}{m:Q00}(h:okS P m):kept P m m:=⟨h,λh=>h,rfl,rfl,rfl,rfl⟩
theorem Qp1{P:Nat}{m n:Q00}(hm:Q0t P m.Mem)(hn:Q0t P n.Mem)(hc:Q25 m.A2=true->Q25 n.A2=true)(ht:Q3q m.A7=true->Q3q n.A7=true)
   (hd:Q15 m.A9 P=true->Q15 n.A9 P=true) (hk:Q5a m.B9 P=true->Q5a n.B9 P=true) (hb:Q2c m.A1 P=true->Q2c n.A1 P=true) (h:Q0q m=true):Q0q n=true:=by
 rw[qg]at h⊢
 rw[Q33 hm]at h
 rw[Q33 hn]
 simp only[aE]at h⊢
 exact⟨hc h.1,ht h.2.1,hd h.2.2.1,hk h.2.2.2.1,hb h.2.2.2.2⟩
theorem Zh1{P:Nat}{m:Q00}(h:okS P m)(port:Int){v:Int}(hv:U v)(at0:Int):(Q3a m port v at0).w (λr=>kept P m r.1/\r.2.length<=1):=by
 have k:=Zcv h
 obtain⟨h1,h2,h3,h4,h5,h6⟩:=h
 have id: ∀{p:Prop},p->p:=λh=>h
 have D: ∀(x:Q0d×List Q08),(keepD P m.A9 x.1/\x.2.length<=1)->kept P m {B1:=m.B1,Mem:=m.Mem,A2:=m.A2,A7:=m.A7,A9:=x.1,B9:=m.B9,A1:=m.A1,A4:=m.A4,A3:=m.A3,A6:=m.A6}/\x.2.length<=1:=λx hx=>
   ⟨⟨⟨h1,h2,hx.1.1,h4,h5,h6⟩,Qp1 h2 h2 id id hx.1.2 id id,rfl,rfl,rfl,rfl⟩,hx.2⟩
 have N: ∀(x:Q0m×List Q08),(keepN P m.B9 x.1/\x.2.length<=1)->kept P m {B1:=m.B1,Mem:=m.Mem,A2:=m.A2,A7:=m.A7,A9:=m.A9,B9:=x.1,A1:=m.A1,A4:=m.A4,A3:=m.A3,A6:=m.A6}/\x.2.length<=1:=λx hx=>
   ⟨⟨⟨h1,h2,h3,hx.1.1,h5,h6⟩,Qp1 h2 h2 id id id hx.1.2 id,rfl,rfl,rfl,rfl⟩,hx.2⟩
 have B: ∀(x:Q07×List Int),(keepB P m.A1 x.1/\Q0t P x.2)->kept P m {B1:=m.B1,Mem:=x.2,A2:=m.A2,A7:=m.A7,A9:=m.A9,B9:=m.B9,A1:=x.1,A4:=m.A4,A3:=m.A3,A6:=m.A6}/\([]:List Q08).length<=1:=λx hx=>
   ⟨⟨⟨h1,hx.2,h3,h4,hx.1.1.1,hx.1.1.2⟩,Qp1 h2 hx.2 id id id id hx.1.2,rfl,rfl,rfl,rfl⟩,aT _⟩
 unfold Q3a
 repeat'(first
   |exact⟨k,aO _⟩
   |exact⟨k,aT _⟩
   |exact w_lv λx hx=>⟨⟨⟨h1,h2,h3,h4,h5,h6⟩,Qp1 h2 h2 id (λ_=>by rw[hx];exact zae _ _) id id id,rfl,rfl,rfl,rfl⟩,aT _⟩
   |exact Q0a (qae h2 h3 _ hv _) λx hx=>D x hx
   |exact Q0a (xaA h2 h4 _ hv _) λx hx=>N x hx
   |exact Q0a (Zn4 h2 ⟨h5,h6⟩ _ hv) λx hx=>B x hx
   |refine w_br (λ_=> ?_) (λ_=> ?_))
theorem Z62(c:Q0c)(port:Int):(Q8q c port).w (λr=>U r.2/\(Q25 c=true->Q25 r.1=true)):=by
 have u1:U 4294967295:=⟨by omega,by omega⟩
 unfold Q8q
 refine w_br (λ_=>w_br (λ_=>⟨u1,λh=>h⟩) (λhb=>w_cn ?_ (w_cn ?_ ⟨Q0l _,λhm=> ?_⟩))) (λ_=>w_br (λ_=>⟨Q0l _,λh=>h⟩) (λ_=>⟨U_0,λh=>h⟩))
 . have hb:=oN hb
   have:0<c.D0.length:=List.length_pos_iff.2 hb
   simp [bT];omega
 . have hb:=oN hb
   have:0<c.D0.length:=List.length_pos_iff.2 hb
   exact dY (by omega)
 . have hm:decide ((c.D0.length:Int)<=16)=true:=hm
   have hm:=oY hm
   show decide (((dC _ (dD _ c.D0)).length:Int)<=16)=true
   refine dY ?_
   rw[bD,bF];omega
theorem Zli{P:Nat}{m:Q00}(h:okS P m)(port:Int){clock:Int}(hc:U clock):(Q42 m port clock).w (λr=>kept P m r.1/\U r.2):=by
 have k:=Zcv h
 obtain⟨h1,h2,h3,h4,h5,h6⟩:=h
 have id: ∀{p:Prop},p->p:=λh=>h
 have ti: ∀t,U (Qz4 t):=λt=>by
   refine Tree.post (Qot t) (W:=U) ?_
   unfold Qot
   exact w_br (λ_=>⟨by omega,by omega⟩) (λ_=>U_0)
 have di: ∀p,U (Qvj m.A9 p):=λp=>by
   refine Tree.post (Qth m.A9 p) (W:=U) ?_
   unfold Qth
   exact w_br (λ_=>h3.block) (λ_=>w_br (λ_=>h3.frame) (λ_=>w_br (λ_=>Q0l _) (λ_=>U_0)))
 have ni: ∀p,U (Z13 m.B9 p):=λp=>by
   refine Tree.post (Qt3 m.B9 p) (W:=U) ?_
   unfold Qt3
   exact w_br (λ_=>h4.frame) (λ_=>w_br (λ_=>h4.got) (λ_=>w_br (λ_=>w_br (λ_=>w_br (λ_=>Q0l _) (λ_=>Q0l _)) (λ_=>w_br (λ_=>Q0l _) (λ_=>U_0))) (λ_=>U_0)))
 have bi: ∀p,(Qb4 m.A1 p).w U:=λp=>by
   unfold Qb4
   exact w_br (λ_=>h5) (λ_=>w_br (λ_=>Q0a (Zkm h6) λ_ _=>Q0l _) (λ_=>U_0))
 have C: ∀(x:Q0c×Int),(U x.2/\(Q25 m.A2=true->Q25 x.1=true))->kept P m {B1:=m.B1,Mem:=m.Mem,A2:=x.1,A7:=m.A7,A9:=m.A9,B9:=m.B9,A1:=m.A1,A4:=m.A4,A3:=m.A3,A6:=m.A6}/\U x.2:=λx hx=>
   ⟨⟨⟨h1,h2,h3,h4,h5,h6⟩,Qp1 h2 h2 hx.2 id id id id,rfl,rfl,rfl,rfl⟩,hx.1⟩
 unfold Q42
 repeat'(first
   |exact⟨k,hc⟩
   |exact⟨k,U_0⟩
   |exact Q0a (Z62 _ _) λx hx=>C x hx
   |exact Zbc (Z62 _ _) λx hx=>C x hx
   |exact w_lv λx hx=>⟨k,by rw[hx];exact ti _⟩
   |exact w_lv λx hx=>⟨k,by rw[hx];exact di _⟩
   |exact w_lv λx hx=>⟨k,by rw[hx];exact ni _⟩
   |exact Q0a (bi _) λx hx=>⟨k,hx⟩
   |refine w_br (λ_=> ?_) (λ_=> ?_))
structure Q6t(c:Q02):Prop where
 x0:c.X.a0=0
 st:c.B4.a0<=31
 en:c.B4.a7<=31
 rt:c.B4.a6<=255
 ve:dF c.B4.a1 4=0
theorem Q6t.pc{c:Q02}(h:Q6t c)(p:Int):Q6t {X:=c.X,Pc:=p,B4:=c.B4}:=⟨h.x0,h.st,h.en,h.rt,h.ve⟩
theorem and31(a:Int):iand .u32 a 31<=31:=by
 have e:(dX 32 a&&&dX 32 31).toNat<=31:=by
   rw[eB]
   exact bH eG (by decide)
 show wrap .u32 ((dX 32 a&&&dX 32 31).toNat:Int)<=31
 rw[wrap_u32];omega
theorem and255'(a:Int):iand .u32 a 255<=255:=by have:=and255 a;omega
theorem andn3(a:Int):dF (Qg .u32 a 3) 4=0:=by
 have e:(dX 32 a&&&~~~dX 32 3).toNat%4=0:=by
   rw[eB,show(~~~dX 32 3).toNat=4294967292 by decide]
   have:=Nat.and_mod_two_pow (a:=(dX 32 a).toNat) (b:=4294967292) (n:=2)
   simpa using this
 have l:=(dX 32 a&&&~~~dX 32 3).isLt
 show dF (wrap .u32 ((dX 32 a&&&~~~dX 32 3).toNat:Int)) 4=0
 rw[wrap_u32,eH (by omega)]
 omega
theorem fin32{f:Int->Int}(h:(dE 32).all (λn=>decide (f n<=31))=true){s:Int}(h0:0<=s)(h1:s<=31):f s<=31:=by
 have:=List.all_eq_true.1 h s.toNat (List.mem_range.2 (by omega))
 have e:((s.toNat:Nat):Int)=s:=by omega
 rw[e]at this
 exact oY this
theorem Qlf{c:Q02}(h:Q27 c)(m:Q6t c)(k b:Int):Q6t (Q3z c k b):=
 ⟨m.x0,fin32 (f:=λs=>Qg .u32 (ior .u32 (Q83 (Q83 s 1 8) 2 16) 1) 2) (by kernel_rfl) h.a0.1 m.st,m.en,m.rt,m.ve⟩
theorem Zl{c:Q02}(h:Q27 c)(m:Q6t c):Q6t (Qd3 c):=
 ⟨m.x0,fin32 (f:=λs=>Q83 (Q83 s 8 1) 16 2) (by kernel_rfl) h.a0.1 m.st,m.en,m.rt,m.ve⟩
theorem Quj{c:Q02}(m:Q6t c){r:Int}(hr:0<=r/\r<16)(v:Int):(Qc5 c r v).w Q6t:=by
 unfold Qc5
 refine w_br (λhn=>w_cn (rc hr) ?_) (λ_=>m)
 have hn:r≠0:=by simpa using hn
 obtain⟨n,e⟩: ∃n:Nat,r.toNat=n+1:=⟨r.toNat-1,by omega⟩
 refine⟨?_,m.st,m.en,m.rt,m.ve⟩
 show(A16.of 0 (dH (A16.l c.X) r.toNat v)).a0=0
 rw[e]
 exact m.x0
theorem vg{c:Q02}(m:Q6t c)(k v:Int):(Qb2 c k v).w Q6t:=by
 unfold Qb2
 refine w_br (λhk=>w_cn (by rw[eq_of_beq hk];decide) ?_) λ_=>w_br (λhk=>w_cn (by rw[eq_of_beq hk];decide) ?_) λ_=>w_br (λhk=>w_cn (by rw[eq_of_beq hk];decide) ?_) λ_=>w_br (λhk=>w_cn (by rw[eq_of_beq hk];decide) ?_) λ_=>w_br (λhk=>w_cn (by rw[eq_of_beq hk];decide) ?_) λ_=>w_br (λhk=>w_cn (by rw[eq_of_beq hk];decide) ?_) λ_=>w_br (λhk=>w_cn (by rw[eq_of_beq hk];decide) ?_) λ_=>w_br (λhk=>w_cn (by rw[eq_of_beq hk];decide) ?_) (λ_=>m)
 all_goals(have hk:=eq_of_beq hk;subst hk)
 . exact⟨m.x0,and31 _,m.en,m.rt,m.ve⟩
 . exact⟨m.x0,m.st,and31 _,m.rt,m.ve⟩
 . exact⟨m.x0,m.st,m.en,and255' _,m.ve⟩
 . exact⟨m.x0,m.st,m.en,m.rt,andn3 _⟩
 . exact⟨m.x0,m.st,m.en,m.rt,m.ve⟩
 . exact⟨m.x0,m.st,m.en,m.rt,m.ve⟩
 . exact⟨m.x0,m.st,m.en,m.rt,m.ve⟩
 . exact⟨m.x0,m.st,m.en,m.rt,m.ve⟩
section
variable {c:Q02} (h:Q27 c) (m:Q6t c) {i:Q0i} (hi:Qef i)
include h m hi
theorem Zgk:(Q4d c i).w (λr=>Q6t r.1):=by
 unfold Q4d
 refine w_cn (rc hi.a) (w_cn (rc hi.b) ?_)
 repeat'(first
   |refine w_br (λ_=> ?_) (λ_=> ?_)
   |exact Q0a (Quj m hi.a _) λx hx=>hx.pc _
   |exact w_lv λx _=>w_br (λ_=>m.pc _) (λ_=>m.pc _)
   |exact w_lv λx hx=>by rw[hx];exact Qlf h m _ _
   |exact w_lv λx hx=>by rw[hx];exact Zl h m
   |exact w_cn (by have:=hi.csr (by simp_all);simp [bT];omega) (Q0a (Quj m hi.a _) λx hx=>hx.pc _)
   |exact Q0a (vg m _ _) λx hx=>hx.pc _
   |refine w_cn (rc hi.c) ?_
   |exact Q0a (Z5x _ (h.r _) (Q0l _)) λy hy=>Q0a (Quj m hi.a _) λx hx=>hx.pc _
   |exact Q0a (Z5x _ (h.r _) (h.r _)) λy hy=>Q0a (Quj m hi.a _) λx hx=>hx.pc _
   |refine w_lf ?_)
 all_goals exact m.pc _
theorem xG{P:Nat}{mem:List Int}(hm:Q0t P mem):(Qd1 c mem i).w (λr=>Q6t r.1):=by
 have w:=Z9o i.Op
 unfold Qd1
 refine w_cn (rc hi.b) (w_lv λx0 h0=> ?_)
 rw[<-h0]at w
 refine Q0a (Qke hm (Q0l _) w 2) λx1 h1=>w_br (λ_=>w_lv λy hy=>by rw[hy];exact Qlf h m _ _) (λ_=>w_lv λx3 h3=> ?_)
 rw[h0,<-h3]at w
 exact Q0a (Qqo h1.2 h1.1 w) λx4 h4=>w_br (λ_=>Q0a (Qty h4.1 8) λy hy=>Q0a (Quj m hi.a _) λx hx=>hx.pc _) (λ_=>Q0a (Quj m hi.a _) λx hx=>hx.pc _)
theorem qh{P:Nat}{mem:List Int}(hm:Q0t P mem):(Qaz c mem i).w (λr=>Q6t r.1):=by
 have w:=Z9o i.Op
 unfold Qaz
 refine w_cn (rc hi.b) (w_lv λx0 h0=> ?_)
 rw[<-h0]at w
 refine Q0a (Qke hm (Q0l _) w 3) λx1 h1=>w_br (λ_=>w_lv λy hy=>by rw[hy];exact Qlf h m _ _) (λ_=>w_lv λx3 h3=>w_cn (rc hi.a) ?_)
 rw[h0,<-h3]at w
 exact Q0a (Qys h1.2 h1.1 w (h.r _)) λx hx=>m.pc _
end
theorem zG{c:Q02}(h:Q27 c)(m:Q6t c){P:Nat}{mem:List Int}(hm:Q0t P mem):(Q6f c mem).w (λr=>Q6t r.1):=by
 unfold Q6f
 refine Q0a (Zaw hm h) λx0 h0=>w_br (λ_=>w_lv λy hy=>by rw[hy];exact Qlf h m _ _) (λ_=>Q0a (Z16 _) λx2 h2=>w_br (λ_=>w_lv λy hy=>by rw[hy];exact Qlf h m _ _) (λhb=> ?_))
 have hi:=h2 (by simpa using hb)
 refine w_lv λx4 _=> ?_
 repeat'(first
   |refine w_br (λ_=> ?_) (λ_=> ?_)
   |exact Q0a (xG h m hi h0.2) λx hx=>hx
   |exact Q0a (qh h m hi h0.2) λx hx=>hx
   |exact Q0a (Zgk h m hi) λx hx=>hx
   |exact w_lv λy hy=>by rw[hy];exact Qlf h m _ _
   |refine w_lv λ_ _=> ?_)
theorem Zg5{c:Q02}(h:Q27 c){i:Q0i}(hi:Qef i):(Q4d c i).w (λr=>0<=r.2.D7/\r.2.D7<16):=by
 have z:(0:Int)<=0/\(0:Int)<16:=⟨by decide,by decide⟩
 unfold Q4d
 refine w_cn (rc hi.a) (w_cn (rc hi.b) ?_)
 repeat'(first
   |refine w_br (λ_=> ?_) (λ_=> ?_)
   |exact Q0a (Qpx h hi.a (Q0l _)) λx hx=>z
   |exact w_lv λx _=>w_br (λ_=>z) (λ_=>z)
   |exact w_lv λx hx=>z
   |exact w_cn (by have:=hi.csr (by simp_all);simp [bT];omega) (Q0a (Qpx h hi.a (h.a _)) λx hx=>z)
   |exact Q0a (Zil h _ (h.r _)) λx hx=>z
   |refine w_cn (rc hi.c) ?_
   |exact Q0a (Z5x _ (h.r _) (Q0l _)) λy hy=>Q0a (Qpx h hi.a hy) λx hx=>z
   |exact Q0a (Z5x _ (h.r _) (h.r _)) λy hy=>Q0a (Qpx h hi.a hy) λx hx=>z
   |refine w_lf ?_)
 all_goals first|exact z|exact hi.a
theorem Zko{c:Q02}(h:Q27 c){P:Nat}{mem:List Int}(hm:Q0t P mem):(Q6f c mem).w (λr=>0<=r.2.2.D7/\r.2.2.D7<16):=by
 have z:(0:Int)<=0/\(0:Int)<16:=⟨by decide,by decide⟩
 unfold Q6f
 refine Q0a (Zaw hm h) λx0 h0=>w_br (λ_=>w_lv λy hy=>z) (λ_=>Q0a (Z16 _) λx2 h2=>w_br (λ_=>w_lv λy hy=>z) (λhb=> ?_))
 have hi:=h2 (by simpa using hb)
 refine w_lv λx4 _=> ?_
 repeat'(first
   |refine w_br (λ_=> ?_) (λ_=> ?_)
   |exact Q0a (Z0h h hi h0.2) λx hx=>z
   |exact Q0a (Qx8 h hi h0.2) λx hx=>z
   |exact Q0a (Zg5 h hi) λx hx=>hx
   |exact w_lv λy hy=>z
   |refine w_lv λ_ _=> ?_)
theorem cnd2{a x:Bool}:(bif a then false else x)=true↔a=false/\x=true:=by cases a<;>simp
theorem Qu(m:Q00):Q17 m=true↔Q0o m.Mem≠0/\Q6t m.B1/\m.A4<=1152921504606846976/\ ¬(m.A3=true/\m.A6=true)/\Q0q m=true:=by
  rw[vT]
  unfold mayC chain
  rw[cnd2,cnd2,cnd2,cnd2,cnd2,cnd2,cnd2]
  simp only[decide_eq_false_iff_not,Int.not_lt,beq_eq_false_iff_ne,bne_eq_false_iff_eq,gt_iff_lt]
  constructor
  . rintro⟨a1,a2,a3,a4,a5,a6,a7,a8⟩
    refine⟨a1,⟨a2,a3,a4,a5,a6⟩,a7,?_,?_⟩
    . rintro⟨w,h⟩;rw[w,h]at a8;cases a8
    . revert a8;cases m.A3
      . exact λh=>h
      . cases m.A6
        . exact λh=>h
        . intro h;cases h
  . rintro⟨a1,⟨a2,a3,a4,a5,a6⟩,a7,a8,a9⟩
    refine⟨a1,a2,a3,a4,a5,a6,a7,?_⟩
    rw[a9]
    cases hw:m.A3
    . rfl
    . cases hh:m.A6
      . rfl
      . exact absurd ⟨hw,hh⟩ a8
theorem Zkb{m:Q00}(h:Q3r m=true):Q17 m=true/\m.A6=false/\m.A4<1152921504606846976:=by
  simp only[Q3r,Q3m,Tree.m,letv]at h
  cases h1:Q17 m
  . rw[h1]at h;cases h
  . cases h2:m.A6
    . rw[h1,h2]at h
      cases h3:Qev m
      . rw[h3]at h
        have h:decide (m.A4<1152921504606846976)=true:=h
        exact⟨rfl,rfl,oY h⟩
      . rw[h3]at h;cases h
    . rw[h1,h2]at h;cases h
theorem Zds{P:Nat}{m:Q00}(h:okS P m)(g:Q6t m.B1):(Q3x m).w (λr=>Q6t r.B1/\okS P r/\r.Mem=m.Mem/\r.A3=false/\r.A6=m.A6/\r.A4=m.A4/\r.A2=m.A2/\r.A7=m.A7/\r.A9=m.A9/\r.B9=m.B9/\r.A1=m.A1):=by
 obtain⟨h1,h2,h3,h4,h5,h6⟩:=h
 unfold Q3x
 refine w_br (λ_=>⟨g,⟨h1,h2,h3,h4,h5,h6⟩,rfl,rfl,rfl,rfl,rfl,rfl,rfl,rfl,rfl⟩) (λ_=>Q0a (Z65 (m:=⟨_,_,_,_,_,_,m.A1,_,_,_⟩) h6) λx0 _=>w_lp (inv:=λz=>0<=z/\z<=5) (μ:=Qi7 m) ⟨by omega,by omega⟩ (cO _) (λz hz=> ?_))
 obtain⟨z1,z2⟩:=hz
 refine w_br (λhb=>w_cn (dY z1) (w_br (λ_=>w_lv λx1 hx=>⟨by rw[hx];exact Qlf h1 g _ _,⟨by rw[hx];exact Qqs h1 _ U_0,h2,h3,h4,h5,h6⟩,rfl,rfl,rfl,rfl,rfl,rfl,rfl,rfl,rfl⟩) (λ_=>w_nx ?_))) (λ_=>⟨g,⟨h1,h2,h3,h4,h5,h6⟩,rfl,rfl,rfl,rfl,rfl,rfl,rfl,rfl,rfl⟩)
 have hb:=oY hb
 show(0<=i64.wrap (z+1)/\i64.wrap (z+1)<=5)/\(5-i64.wrap (z+1)).toNat<(5-z).toNat
 have ew:i64.wrap (z+1)=z+1:=by rw[wrap_i64];omega
 rw[ew];omega
structure Good(P:Nat)(m r:Q00):Prop where
 ok:okS P r
 cnt:0<=r.A4
 may:Q17 m=true->Q17 r=true
 or:r=m\/r.A4=m.A4+1
theorem qaf{P:Nat}{m:Q00}(h:okS P m)(hc0:0<=m.A4){clock:Int}(hk:U clock):(Qj2 m clock).w (λr=>r.2.length<=1/\Good P m r.1):=by
 have hcl:Q03 m.Mem=m.Mem:=rfl
 unfold Qj2
 refine w_an (Q8m h.mem) (w_lv λl hl=> ?_)
 rw[hcl]at hl;subst hl
 refine w_an (Tree.pp (xau (m:=⟨_,_,_,_,_,_,m.A1,_,_,_⟩) h.given)).1 (w_lv λx1 hx1=>w_br (λ_=>⟨aT _,h,hc0,λh=>h, .inl rfl⟩) (λhb=> ?_))
 have hr:Q3r m=true:=by rw[<-show x1=Q3r m from hx1];simpa using hb
 obtain⟨hm,hh,hct⟩:=Zkb hr
 obtain⟨g1,g2,g3,g4,g5⟩:=(Qu m).1 hm
 have hP:(P:Int)≠0:=by rw[<-Q33 h.mem];exact g1
 have fin: ∀(n:Q00),okS P n->Q6t n.B1->Q0q n=true->n.A4=m.A4-> ¬(n.A3=true/\n.A6=true)->Good P m {B1:=n.B1,Mem:=n.Mem,A2:=n.A2,A7:=n.A7,A9:=n.A9,B9:=n.B9,A1:=n.A1,A4:=wrap .u64 (n.A4+1),A3:=n.A3,A6:=n.A6}:=λn a b c d e=>by
   have ec:wrap .u64 (n.A4+1)=m.A4+1:=by rw[d,wrap_u64];omega
   refine⟨⟨a.cpu,a.mem,a.disk,a.nic,a.target,a.given⟩,?_,λ_=>(Qu _).2 ⟨?_,b,?_,e,c⟩, .inr ec⟩
   . show 0<=wrap .u64 (n.A4+1);omega
   . show Q0o n.Mem≠0;rw[Q33 a.mem];exact hP
   . show wrap .u64 (n.A4+1)<=_;omega
 refine Q0a (Zds (m:=⟨_,_,m.A2,m.A7,m.A9,m.B9,m.A1,m.A4,m.A3,m.A6⟩) ⟨h.cpu,h.mem,h.disk,h.nic,h.target,h.given⟩ g2) λx2 hx2=> ?_
 obtain⟨b1,b2,b3,b4,b5,b6,b7,b8,b9,b10,b11⟩:=hx2
 have ex:=Tree.pp (qau b2.cpu b2.mem)
 have em:=Tree.pp (zG b2.cpu b1 b2.mem)
 have er:=Tree.pp (Zko b2.cpu b2.mem)
 refine w_an ex.1 (w_lv λx3 h3=> ?_)
 obtain⟨e1,e2,e3⟩:Q27 x3.1/\Q0t P x3.2.1/\U x3.2.2.Value:=by rw[h3];exact ex.2
 have f1:Q6t x3.1:=by rw[h3];exact em.2
 have r1:0<=x3.2.2.D7/\x3.2.2.D7<16:=by rw[h3];exact er.2
 have ok3:okS P ⟨x3.1,x3.2.1,x2.A2,x2.A7,x2.A9,x2.B9,x2.A1,x2.A4,x2.A3,x2.A6⟩:=⟨e1,e2,b2.disk,b2.nic,b2.target,b2.given⟩
 have dev: ∀(w h:Bool),Q0q ⟨x3.1,x3.2.1,x2.A2,x2.A7,x2.A9,x2.B9,x2.A1,x2.A4,w,h⟩=true:=λw hh=>by
   have id: ∀{p:Prop},p->p:=λh=>h
   refine Qp1 (m:=m) (P:=P) h.mem e2 ?_ ?_ ?_ ?_ ?_ g5
   . show _->Q25 x2.A2=true;rw[b7];exact id
   . show _->Q3q x2.A7=true;rw[b8];exact id
   . show _->Q15 x2.A9 P=true;rw[b9];exact id
   . show _->Q5a x2.B9 P=true;rw[b10];exact id
   . show _->Q2c x2.A1 P=true;rw[b11];exact id
 have hw:x2.A3=false:=b4
 have hh2:x2.A6=false:=b5.trans hh
 have hct2:x2.A4=m.A4:=b6
 refine w_br (λ_=> ?_) λ_=>w_br (λ_=> ?_) λ_=>w_br (λ_=> ?_) λ_=>w_br (λ_=> ?_) λ_=> ?_
 . refine Q0a (Zli ok3 _ hk) λx4 h4=> ?_
   obtain⟨k,u⟩:=h4
   have kc:x4.1.B1=x3.1:=k.cpu
   have kt:x4.1.A4=m.A4:=k.cnt.trans hct2
   have kw: ¬(x4.1.A3=true/\x4.1.A6=true):=λe=>by have:x4.1.A3=x2.A3:=k.wait;rw[this,hw]at e;cases e.1
   have km:Q6t x4.1.B1:=by rw[kc];exact f1
   refine w_br (λhn=>w_cn (rc r1) ⟨aT _,?_⟩) (λ_=>⟨aT _,fin x4.1 k.ok km (k.dev (dev _ _)) kt kw⟩)
   have hn:x3.2.2.D7≠0:=by simpa using hn
   obtain⟨q,e⟩: ∃q:Nat,x3.2.2.D7.toNat=q+1:=⟨x3.2.2.D7.toNat-1,by omega⟩
   refine fin ⟨⟨A16.of 0 (dH (A16.l x4.1.B1.X) x3.2.2.D7.toNat x4.2),x4.1.B1.Pc,x4.1.B1.B4⟩,x4.1.Mem,x4.1.A2,x4.1.A7,x4.1.A9,x4.1.B9,x4.1.A1,x4.1.A4,x4.1.A3,x4.1.A6⟩ ⟨⟨Z9x k.ok.cpu.x u _,k.ok.cpu.pc,k.ok.cpu.csr⟩,k.ok.mem,k.ok.disk,k.ok.nic,k.ok.target,k.ok.given⟩ ⟨?_,km.st,km.en,km.rt,km.ve⟩ (k.dev (dev _ _)) kt kw
   show(A16.of 0 (dH (A16.l x4.1.B1.X) x3.2.2.D7.toNat x4.2)).a0=0
   rw[e]
   exact km.x0
 . refine Q0a (Zh1 ok3 _ e3 _) λx5 h5=> ?_
   obtain⟨k,u⟩:=h5
   have kc:x5.1.B1=x3.1:=k.cpu
   exact⟨u,fin x5.1 k.ok (by rw[kc];exact f1) (k.dev (dev _ _)) (k.cnt.trans hct2) (λe=>by have:x5.1.A3=x2.A3:=k.wait;rw[this,hw]at e;cases e.1)⟩
 . exact⟨aT _,fin ⟨x3.1,x3.2.1,x2.A2,x2.A7,x2.A9,x2.B9,x2.A1,x2.A4,true,x2.A6⟩ ⟨e1,e2,b2.disk,b2.nic,b2.target,b2.given⟩ f1 (dev _ _) hct2 (λe=>by have e2:x2.A6=true:=e.2;rw[hh2]at e2;cases e2)⟩
 . exact⟨aT _,fin ⟨x3.1,x3.2.1,x2.A2,x2.A7,x2.A9,x2.B9,x2.A1,x2.A4,x2.A3,true⟩ ⟨e1,e2,b2.disk,b2.nic,b2.target,b2.given⟩ f1 (dev _ _) hct2 (λe=>by have e2:x2.A3=true:=e.1;rw[hw]at e2;cases e2)⟩
 . exact⟨aT _,fin ⟨x3.1,x3.2.1,x2.A2,x2.A7,x2.A9,x2.B9,x2.A1,x2.A4,x2.A3,x2.A6⟩ ok3 f1 (dev _ _) hct2 (λe=>by have e2:x2.A3=true:=e.1;rw[hw]at e2;cases e2)⟩
theorem yG{P:Nat}{m:Q00}(h:okM P m){e:Q0e}(he:U e.N):(Qbr m e).w (λr=>(Q17 m=true->Q17 r.1=true)/\r.1.A4=m.A4/\U r.1.A1.C2):=by
 obtain⟨h1,h2,h3,h4,h5,h7⟩:=h
 have hcl:Q03 m.Mem=m.Mem:=rfl
 have pg: ∀{m':List Int},Q0t P m'->Q0o m'=Q0o m.Mem:=λh=>by rw[Q33 h,Q33 h2]
 have keep:(Q17 m=true->Q17 m=true)/\m.A4=m.A4/\U m.A1.C2:=⟨λh=>h,rfl,h5.2⟩
 unfold Qbr
 refine w_an (Q8m h2) (w_lv λl hl=> ?_)
 rw[hcl]at hl;subst hl
 refine Q0a (xX (m:=⟨_,_,_,_,_,_,m.A1,_,_,_⟩) h5.2) λx1 _=>w_br (λ_=>keep) λ_=>w_br (λ_=>keep) λ_=> ?_
 refine w_br (λ_=>w_br (λ_=>w_br (λ_=>w_lv λx hx=> ?_) (λ_=>keep)) (λ_=>keep)) λ_=>w_br (λ_=>w_br (λ_=>w_br (λ_=>Q0a (xad _ _) λx hx=> ?_) (λ_=>keep)) (λ_=>keep)) λ_=>w_br (λhk=>Q0a (Zlc h2 h3 e) λx hx=> ?_) λ_=>w_br (λhk=>w_br (λ_=>Q0a (vf h2 h4 _) λx hx=> ?_) (λ_=>keep)) λ_=>w_br (λ_=>w_br (λ_=> ?_) (λ_=>keep)) (λ_=>keep)
 . exact⟨Qtk rfl rfl rfl rfl rfl (λh=>h) (λh=>by rw[hx];exact vF _ h) (λ_ h=>h) (λ_ h=>h) rfl,rfl,h5.2⟩
 . exact⟨Qtk rfl rfl rfl rfl rfl hx (λh=>h) (λ_ h=>h) (λ_ h=>h) rfl,rfl,h5.2⟩
 . obtain⟨a1,a2,a3,a4,a5⟩:=hx
   exact⟨Qtk (pg a2) rfl rfl rfl rfl (λh=>h) (λh=>h) a5 (λ_ h=>h) rfl,rfl,h5.2⟩
 . obtain⟨a1,a2,a3,a4,a5⟩:=hx
   exact⟨Qtk (pg a2) rfl rfl rfl rfl (λh=>h) (λh=>h) (λ_ h=>h) a5 rfl,rfl,h5.2⟩
 . exact⟨Qtk rfl rfl rfl rfl rfl (λh=>h) (λh=>h) (λ_ h=>h) (λ_ h=>h) rfl,rfl,h5.2⟩
structure okW(m:Q00):Prop where
 cpu:Q27 m.B1
 u: ∀w∈m.Mem,U w
 len:m.Mem.length<=1024
 disk:Q7i m.A9
 nic:Qhl m.B9
 bal:okB m.A1
 cnt:0<=m.A4
theorem Zh{c:Q02}(h:Q27 c){i:Nat}{v:Int}(hv:U v){x:A8 Int}(hx:x=A8.of 0 (dH (A8.l c.B4) i v))(p:Int)(hp:U p):Q27 {X:=c.X,Pc:=p,B4:=x}:=⟨h.x,hp,by rw[hx];exact Qse h.csr hv i⟩
theorem xaB{P:Nat}{m:Q00}(h:okM P m)(hP:1<=P)(hc:0<=m.A4)(where0 what:Int)(hd: ∀k:Int,0<=k->k<=128->Q4f what k):(Qb0 m where0 what).w okW:=by
 unfold Qb0
 refine Q0a (xe h) λx0 ⟨g,hct⟩=>w_an (Q5r (by decide)) (w_lv λx1 _=> ?_)
 have hc:0<=x0.A4:=by rw[hct];exact hc
 obtain⟨h1,h2,h3,h4,h5,_⟩:=g
 have hl:=h2.len
 have hp2:=h2.p2
 have hlen:x0.Mem.length<=1024:=by omega
 have hne:(x0.Mem.length:Int)≠0:=by omega
 have rr: ∀k:Int,0<k->k<=1000000->0<=Q1s what k/\Q1s what k<k:=λk a b=>Qqj a (by omega)
 have rl:=rr x0.Mem.length (by omega) (by omega)
 have C: ∀c,Q27 c->okW {B1:=c,Mem:=x0.Mem,A2:=x0.A2,A7:=x0.A7,A9:=x0.A9,B9:=x0.B9,A1:=x0.A1,A4:=x0.A4,A3:=x0.A3,A6:=x0.A6}:=λc a=>⟨a,h2.u,hlen,h3,h4,h5,hc⟩
 have M: ∀l:List Int,(∀w∈l,U w)->l.length<=1024->okW {B1:=x0.B1,Mem:=l,A2:=x0.A2,A7:=x0.A7,A9:=x0.A9,B9:=x0.B9,A1:=x0.A1,A4:=x0.A4,A3:=x0.A3,A6:=x0.A6}:=λl a b=>⟨h1,a,b,h3,h4,h5,hc⟩
 have D: ∀d,Q7i d->okW {B1:=x0.B1,Mem:=x0.Mem,A2:=x0.A2,A7:=x0.A7,A9:=d,B9:=x0.B9,A1:=x0.A1,A4:=x0.A4,A3:=x0.A3,A6:=x0.A6}:=λd a=>⟨h1,h2.u,hlen,a,h4,h5,hc⟩
 have N: ∀n,Qhl n->okW {B1:=x0.B1,Mem:=x0.Mem,A2:=x0.A2,A7:=x0.A7,A9:=x0.A9,B9:=n,A1:=x0.A1,A4:=x0.A4,A3:=x0.A3,A6:=x0.A6}:=λn a=>⟨h1,h2.u,hlen,h3,a,h5,hc⟩
 refine w_br (λ_=>C _ (h1.pcs (Q0l _))) λ_=> ?_
 refine w_br (λ_=>w_an (Q5r (by decide)) (w_lv λx2 e2=>w_cn (by rw[e2];exact rc (rr 16 (by decide) (by decide))) (C _ ⟨Z9x h1.x (Q0l _) _,h1.pc,h1.csr⟩))) λ_=> ?_
 refine w_br (λ_=>w_an (Q5r (by decide)) (w_lv λx3 e3=>w_cn (by rw[e3];have:=rr 8 (by decide) (by decide);simp [bT];omega) (C _ ⟨h1.x,h1.pc,Qse h1.csr (Qrd (Q0l _) _) _⟩))) λ_=> ?_
 refine w_br (λ_=>C _ (Zh h1 (i:=0) (Qh6 _ _) rfl _ h1.pc)) λ_=> ?_
 refine w_br (λ_=>C _ (Zh h1 (i:=7) (Qh6 _ _) rfl _ h1.pc)) λ_=> ?_
 refine w_br (λ_=>w_an (Q5r hne) (w_lv λx4 e4=>w_cn (by rw[e4];simp [bT];omega) (M _ (Qyh h2.u (Q0l _) _) (by rw[dI];exact hlen)))) λ_=> ?_
 refine w_br (λ_=>w_an (Q5r hne) (w_lv λx5 e5=>w_an (Zk8 _) (w_lv λx6 _=>w_lv λx7 e7=>w_cn (by rw[e5];simp [bT];omega) (M _ (Qyh h2.u (by rw[e7];exact Zk9 _) _) (by rw[dI];exact hlen))))) λ_=> ?_
 refine w_br (λ_=>w_an (Q5r (by decide)) (w_lv λx8 e8=>w_an (hd _ (by rw[e8];exact(rr 18 (by decide) (by decide)).1) (by rw[e8];have:=(rr 18 (by decide) (by decide)).2;omega)) (w_lv λx9 _=>⟨h1,h2.u,hlen,h3,h4,h5,hc⟩))) λ_=> ?_
 refine w_br (λ_=>⟨h1,h2.u,hlen,h3,h4,h5,hc⟩) λ_=> ?_
 refine w_br (λ_=>D _ ⟨h3.block,h3.frame,h3.opBlock,h3.opFrame⟩) λ_=> ?_
 refine w_br (λ_=>w_br (λ_=>w_an (hd _ (by decide) (by decide)) (w_lv λx10 _=>D _ ⟨U_0,U_0,Qh6 _ _,Qh6 _ _⟩)) (λ_=>D _ ⟨U_0,U_0,Qh6 _ _,Qh6 _ _⟩)) λ_=> ?_
 refine w_br (λ_=>D _ ⟨Qh6 _ _,Qh6 _ _,h3.opBlock,h3.opFrame⟩) λ_=> ?_
 refine w_br (λ_=>N _ ⟨Qh6 _ _,Qh6 _ _,Qh6 _ _,U_0⟩) λ_=> ?_
 refine w_br (λ_=>N _ ⟨U_0,U_0,U_0,Qh6 _ _⟩) λ_=> ?_
 refine w_br (λ_=>⟨h1,h2.u,hlen,h3,h4,⟨Qh6 _ _,Qh6 _ _⟩,hc⟩) λ_=> ?_
 refine w_br (λ_=>⟨h1,h2.u,hlen,h3,h4,h5,hc⟩) λ_=> ?_
 refine w_br (λ_=>⟨h1,h2.u,hlen,h3,h4,h5,hc⟩) λ_=> ?_
 refine w_br (λ_=>⟨h1,h2.u,hlen,h3,h4,h5,by show 0<=u64.wrap what;rw[wrap_u64];omega⟩) λ_=> ?_
 refine w_br (λ_=>w_an (Q5r hne) (w_lv λx11 e11=>w_cn (by rw[e11];simp [bT];omega) (M _ (λw hw=>h2.u w (cZ (cY hw))) (by rw[bD,bF];omega)))) λ_=> ?_
 refine w_br (λ_=>⟨h1,h2.u,hlen,h3,h4,h5,by show 0<=u64.wrap _;rw[wrap_u64];omega⟩) λ_=> ?_
 refine w_br (λ_=>C _ (Zh h1 (i:=6) (Qh6 _ _) rfl _ h1.pc)) λ_=> ?_
 exact w_br (λ_=>C _ (h1.pcs (Q0l _))) (λ_=>⟨h1,h2.u,hlen,h3,h4,h5,hc⟩)
theorem Quv{a:Int}(h:U a):(dX 32 a).toNat=a.toNat:=by
 obtain⟨h1,h2⟩:=h
 rw[dZ];omega
theorem Zh4{a b:Int}(ha:U a)(hb:U b):iand .u32 a b=((a.toNat&&&b.toNat:Nat):Int):=by
 have l:=(dX 32 a&&&dX 32 b).isLt
 have e:(dX 32 a&&&dX 32 b).toNat=a.toNat&&&b.toNat:=by rw[eB,Quv ha,Quv hb]
 show wrap .u32 ((dX 32 a&&&dX 32 b).toNat:Int)=_
 rw[wrap_u32,<-e];omega
theorem qaC{a b:Int}(ha:U a)(hb:U b):ior .u32 a b=((a.toNat|||b.toNat:Nat):Int):=by
 have l:=(dX 32 a|||dX 32 b).isLt
 have e:(dX 32 a|||dX 32 b).toNat=a.toNat|||b.toNat:=by rw[eA,Quv ha,Quv hb]
 show wrap .u32 ((dX 32 a|||dX 32 b).toNat:Int)=_
 rw[wrap_u32,<-e];omega
theorem Z9t{a:Int}(ha:U a)(k:Nat)(hk:k<=32){q:Int}(hq:q=((2^k-1:Nat):Int)):iand .u32 a q=a%2^k:=by
 have hp:2^k<=2^32:=dU (by decide) hk
 have h1:(2:Nat)^32=4294967296:=by decide
 have hpos:=eI k
 subst hq
 rw[Zh4 ha ⟨by omega,by omega⟩,eF,Nat.and_two_pow_sub_one_eq_mod]
 have:=ha.1
 rw[Int.natCast_emod,eJ this]
 simp
theorem m15{a:Int}(ha:U a):iand .u32 a 15=a%16:=Z9t ha 4 (by decide) rfl
theorem m255{a:Int}(ha:U a):iand .u32 a 255=a%256:=Z9t ha 8 (by decide) rfl
theorem m65535{a:Int}(ha:U a):iand .u32 a 65535=a%65536:=Z9t ha 16 (by decide) rfl
theorem Qsz(p:Int->Bool)(N:Nat)(h:(dE N).all (λn=>p n)=true){s:Int}(h0:0<=s)(h1:s<N):p s=true:=by
 have:=List.all_eq_true.1 h s.toNat (List.mem_range.2 (by omega))
 rwa [eJ h0]at this
theorem w64{x:Int}(h0: -9223372036854775808<=x)(h1:x<9223372036854775808):wrap .i64 x=x:=by rw[wrap_i64];omega
theorem shr0(a:Int):ishr .u32 a 0=a:=by have:=Qq2 (a:=a) 0 (by decide);simpa using this
theorem fld(w:Int):Q2i w 24 8=iand .u32 (ishr .u32 w 24) 255/\Q2i w 20 4=iand .u32 (ishr .u32 w 20) 15/\Q2i w 16 4=iand .u32 (ishr .u32 w 16) 15/\Q2i w 0 16=iand .u32 (ishr .u32 w 0) 65535/\Q2i w 8 8=iand .u32 (ishr .u32 w 8) 255:=
 ⟨by kernel_rfl,by kernel_rfl,by kernel_rfl,by kernel_rfl,by kernel_rfl⟩
def useOf(f:Int):Q7x×Bool:=
 bif f==1 then(⟨false,false,false,0,0⟩,true) else bif f==2 then(⟨true,true,true,0,0⟩,true) else bif f==3 then(⟨true,true,false,-32768,32767⟩,true)
 else bif f==4 then(⟨true,true,false,0,65535⟩,true) else bif f==5 then(⟨true,true,false,0,31⟩,true) else bif f==6 then(⟨true,false,false,0,65535⟩,true)
 else bif f==7 then(⟨true,false,false,-32768,32767⟩,true) else bif f==8 then(⟨true,false,false,0,7⟩,true) else bif f==9 then(⟨true,false,false,0,11⟩,true) else(⟨false,false,false,0,0⟩,false)
def sameU(x y:Q7x×Bool):Bool:=x.1.a==y.1.a&&x.1.b==y.1.b&&x.1.c==y.1.c&&x.1.low==y.1.low&&x.1.D5==y.1.D5&&x.2==y.2
theorem vG{x y:Q7x×Bool}(h:sameU x y=true):x=y:=by
 obtain⟨⟨a,b,c,d,e⟩,f⟩:=x
 obtain⟨⟨a',b',c',d',e'⟩,f'⟩:=y
 simp only[sameU,aE,beq_iff_eq]at h
 obtain⟨⟨⟨⟨⟨rfl,rfl⟩,rfl⟩,rfl⟩,rfl⟩,rfl⟩:=h
 rfl
theorem qU{op:Int}(h0:0<=op)(h1:op<256):Z1m op=useOf (Q23 op):=by
 exact vG (Qsz (λop=>sameU (Z1m op) (useOf (Q23 op))) 256 (by kernel_rfl) h0 h1)
theorem xh{op:Int}(h0:0<=op)(h1:op<256):Q23 op=0\/Q23 op=1\/Q23 op=2\/Q23 op=3\/Q23 op=4\/Q23 op=5\/Q23 op=6\/Q23 op=7\/Q23 op=8\/Q23 op=9:=by
 have:=oY (Qsz (λop=>decide (0<=Q23 op/\Q23 op<=9)) 256 (by kernel_rfl) h0 h1)
 omega
theorem zaf{op:Int}(h0:0<=op)(h1:op<256):Q7l op=Q4z op:=by
 exact eq_of_beq (Qsz (λop=>Q7l op==Q4z op) 256 (by kernel_rfl) h0 h1)
theorem qH{a x y:Bool}:(cond a x y=true)↔((a=true/\x=true)\/(a=false/\y=true)):=by cases a<;>simp
theorem Zad{i:Q0i}(h0:0<=i.Op)(h1:i.Op<256)(hi:wrap .i64 i.Imm=i.Imm):Qe3 i=Q7k i:=by
 rw[eK]
 simp only[Qe3,Qge,Tree.m,letv,Q7k,Qee,qU h0 h1,hi]
 rcases xh h0 h1 with h|h|h|h|h|h|h|h|h|h<;>rw[h]<;>
 simp [useOf,Q8e,Qdp,Q76,Qcm,Qkj,Ql6,Tree.m,letv,qH]<;>omega
theorem sx16{x:Int}(h0:0<=x)(h1:x<65536):wrap .i32 (Q26 x 16)=wrap .i32 (wrap .i16 x):=by
 have e:Q26 x 16=wrap .u32 (ishr .i32 (wrap .i32 (ishl .u32 x 16)) 16):=by kernel_rfl
 have e2: ∀y,ishr .i32 y 16=y/65536:=λy=>by
   show eM y 65536=_
   rw[dQ _ (by decide)]
 have e3:ishl .u32 x 16=wrap .u32 (x*65536):=rfl
 have e4:wrap .i16 x=(x+32768)%65536-32768:=by
   simp [wrap,IntKind.bits,IntKind.signed]
   split<;>omega
 rw[e,e2,e3,e4]
 simp only[wrap_i32,wrap_u32]
 omega
theorem sx8{x:Int}(h0:0<=x)(h1:x<256):Q26 x 8=Q2w x 8:=by
 exact eq_of_beq (Qsz (λx=>Q26 x 8==Q2w x 8) 256 (by kernel_rfl) h0 h1)
theorem zh{w:Int}(hw:U w):Qg7 w=Q3f w:=by
 obtain⟨f1,f2,f3,f4,_⟩:=fld w
 obtain⟨w0,w1⟩:=hw
 have s24:ishr .u32 w 24=w/16777216:=by have:=Qq2 (a:=w) 24 (by decide);simpa using this
 have s20:U (ishr .u32 w 20):=Qrd ⟨w0,w1⟩ _
 have s16:U (ishr .u32 w 16):=Qrd ⟨w0,w1⟩ _
 rw[m255 (Qrd ⟨w0,w1⟩ _),s24]at f1
 rw[m15 s20]at f2
 rw[m15 s16]at f3
 rw[shr0]at f4
 have g1:w/16777216%256=w/16777216:=by omega
 rw[g1]at f1
 have o0:0<=w/16777216:=by omega
 have o1:w/16777216<256:=by omega
 have eo:wrap .i64 (w/16777216)=w/16777216:=w64 (by omega) (by omega)
 have i32: ∀x,wrap .i64 (wrap .i32 x)=wrap .i32 x:=λx=>by rw[wrap_i64,wrap_i32];omega
 have l0:=m65535 ⟨w0,w1⟩
 have lx:=sx16 (x:=iand .u32 w 65535) (by omega) (by omega)
 simp only[Qg7,Q6u,Q3f,Q92,Tree.m,letv,f1,f2,f3,f4,s24,eo,qU o0 o1,m15 s20,m15 s16,lx]
 generalize w/16777216=op at*
 generalize wrap .i64 (ishr .u32 w 20%16)=a
 generalize wrap .i64 (ishr .u32 w 16%16)=b
 generalize iand .u32 w 65535=l
 rw[Zad (i:=⟨op,a,b,wrap .i64 l,0⟩) o0 o1 rfl,Zad (i:=⟨op,a,b,0,wrap .i32 (wrap .i16 l)⟩) o0 o1 (i32 _),Zad (i:=⟨op,a,b,0,wrap .i32 l⟩) o0 o1 (i32 _)]
 rcases xh o0 o1 with h|h|h|h|h|h|h|h|h|h<;>rw[h]<;>rfl
theorem xaf(x v:BitVec 32)(s:Nat)(hs:s<=24):((x&&&~~~(255#32<<<s))|||((v&&&255#32)<<<s)).toNat=2^(s+8)*(x.toNat/2^(s+8))+(2^s*(v.toNat%256)+x.toNat%2^s):=by
  have hx:=x.isLt
  have h1:x.toNat%2^s<2^s:=eN _ (eI s)
  have h2:2^s*(v.toNat%256)+x.toNat%2^s<2^(s+8):=by
    have:v.toNat%256<256:=eN _ (by decide)
    have h3:2^s*(v.toNat%256)<=2^s*255:=Nat.mul_le_mul_left _ (by omega)
    have:2^(s+8)=2^s*256:=by rw[Nat.pow_add]
    omega
  rw[eO h2,eO h1]
  apply eQ
  intro i
  rw[BitVec.testBit_toNat]
  simp only[BitVec.getLsbD_or,BitVec.getLsbD_and,BitVec.getLsbD_not,BitVec.getLsbD_shiftLeft,Nat.testBit_or,Nat.testBit_two_pow_mul,eR,Nat.testBit_div_two_pow,BitVec.getLsbD_ofNat]
  have e255: ∀j,eS 255 j=decide (j<8):=λj=>by
    rw[show 255=2^8-1 from rfl,Nat.testBit_two_pow_sub_one]
  have e256: ∀n j,eS (n%256) j=(decide (j<8)&&eS n j):=λn j=>by
    rw[show 256=2^8 from rfl,eR]
  rw[e255,e256]
  by_cases hi:i<32
  . by_cases a1:i<s
    . have a2: ¬(s<=i):=by omega
      have a3: ¬(s+8<=i):=by omega
      simp [hi,a1,a2,a3,eT]
    . by_cases a4:s+8<=i
      . have a2: ¬(i-s<8):=by omega
        have a5:i-(s+8)+(s+8)=i:=by omega
        have a6:s<=i:=by omega
        simp [hi,a1,a2,a4,a5,a6,eT]
      . have a2:(i-s<8):=by omega
        have a6:s<=i:=by omega
        have a7:i-s<32:=by omega
        simp [hi,a1,a2,a4,a6,a7,eT]
  . have a0:x.toNat.testBit i=false:=Nat.testBit_lt_two_pow (Nat.lt_of_lt_of_le hx (dU (by decide) (by omega)))
    have a1: ¬(i<s):=by omega
    have a2: ¬(i-s<8):=by omega
    have a4:s+8<=i:=by omega
    have a5:i-(s+8)+(s+8)=i:=by omega
    simp [hi,a0,a1,a2,a4,a5]
theorem Z7h(b:BitVec 32):dX 32 (wrap .u32 (b.toNat:Int))=b:=by
 have:=b.isLt
 rw[wrap_u32]
 apply eU
 rw[dZ];omega
theorem Zm3(x:Int):dX 32 (wrap .u32 x)=dX 32 x:=by
 apply eU
 rw[dZ,dZ,wrap_u32]
 have:((2^32:Nat):Int)=4294967296:=by decide
 rw[this,Int.emod_emod_of_dvd _ (Int.dvd_refl _)]
theorem Zdr{x:Int}(hx:U x)(s:Nat)(hs:s<=32):dX 32 (ishl .u32 x s)=dX 32 x<<<s:=by
 obtain⟨n,rfl⟩: ∃n:Nat,x=n:=⟨x.toNat,by have:=hx.1;omega⟩
 have e:min (dG (s:Int)) u32.bits=s:=by show min (dG (s:Int)) 32=s;omega
 unfold ishl
 rw[e,Zm3]
 have e2:((n:Int)*2^s)=((n*2^s:Nat):Int):=by simp
 have:=hx.2
 rw[e2,eV,eV]
 apply eU
 rw[BitVec.toNat_shiftLeft,eW,eW,Nat.shiftLeft_eq,Nat.mod_mul_mod]
def putW(W v:Int)(s:Nat):Int:=ior .u32 (Qg .u32 W (ishl .u32 255 s)) (ishl .u32 (iand .u32 v 255) s)
theorem qag{W v:Int}(hW:U W)(hv:U v)(s:Nat)(hs:s<=24):putW W v s=2^(s+8)*(W/2^(s+8))+(2^s*(v%256)+W%2^s):=by
 have e:=xaf (dX 32 W) (dX 32 v) s hs
 have l:=((dX 32 W&&&~~~(255#32<<<s))|||((dX 32 v&&&255#32)<<<s)).isLt
 have h1:dX 32 (Qg .u32 W (ishl .u32 255 s))=dX 32 W&&&~~~(255#32<<<s):=by
   show dX 32 (wrap .u32 (dX 32 W&&&~~~dX 32 (ishl .u32 255 s)).toNat)=_
   rw[Z7h,Zdr ⟨by decide,by decide⟩ s (by omega)]
   rfl
 have h2:dX 32 (ishl .u32 (iand .u32 v 255) s)=(dX 32 v&&&255#32)<<<s:=by
   rw[Zdr (Qh6 _ _) s (by omega)]
   congr 1
   show dX 32 (wrap .u32 (dX 32 v&&&dX 32 255).toNat)=_
   rw[Z7h];rfl
 show wrap .u32 ((dX 32 (Qg .u32 W (ishl .u32 255 s))|||dX 32 (ishl .u32 (iand .u32 v 255) s)).toNat:Int)=_
 rw[h1,h2]
 have lw:wrap .u32 ((((dX 32 W&&&~~~(255#32<<<s))|||((dX 32 v&&&255#32)<<<s)).toNat:Nat):Int)=(((dX 32 W&&&~~~(255#32<<<s))|||((dX 32 v&&&255#32)<<<s)).toNat:Nat):=by rw[wrap_u32];omega
 rw[lw,e,Quv hW,Quv hv]
 obtain⟨n,rfl⟩: ∃n:Nat,W=n:=⟨W.toNat,by have:=hW.1;omega⟩
 obtain⟨k,rfl⟩: ∃n:Nat,v=n:=⟨v.toNat,by have:=hv.1;omega⟩
 simp
def dig(w:Int)(k:Nat):Int:=if k=0 then w%256 else if k=1 then w/256%256 else if k=2 then w/65536%256 else w/16777216%256
def byt(m:List Int)(a:Nat):Int:=dig (m.getD (a/4) 0) (a%4)
theorem yh(w:Int)(k:Nat):0<=dig w k/\dig w k<256:=by
 unfold dig
 split
 . omega
 . split
   . omega
   . split<;>omega
theorem zag{w v:Int}(hw:U w)(hv:U v)(h: ∀k,k<4->dig w k=dig v k):w=v:=by
 have h0:=h 0 (by omega)
 have h1:=h 1 (by omega)
 have h2:=h 2 (by omega)
 have h3:=h 3 (by omega)
 simp [dig]at h0 h1 h2 h3
 obtain⟨a,b⟩:=hw
 obtain⟨c,d⟩:=hv
 omega
theorem Zh5{m n:List Int}(hl:m.length=n.length)(hm: ∀w∈m,U w)(hn: ∀w∈n,U w)(h: ∀a,byt m a=byt n a):m=n:=by
 refine bM hl λi h1 h2=> ?_
 have e1:m[i]=m.getD i 0:=by simp [aK,h1]
 have e2:n[i]=n.getD i 0:=by simp [aK,h2]
 rw[e1,e2]
 refine zag (Qka hm i) (Qka hn i) λk hk=> ?_
 have:=h (4*i+k)
 simp only[byt]at this
 rwa [show(4*i+k)/4=i by omega,show(4*i+k)%4=k by omega]at this
theorem Qsx{l:List Int}{i:Nat}(h:i<l.length)(v:Int):(l.set i v).getD i 0=v:=by
 simp [aK,h]
theorem Zhq{m:List Int}{i:Nat}(hi:i<m.length)(v:Int)(a:Nat):byt (m.set i v) a=if a/4=i then dig v (a%4) else byt m a:=by
 unfold byt
 split
 . rename_i h;rw[h,Qsx hi]
 . rename_i h;rw[getDset _ _ _ _ (λe=>h e.symm)]
theorem xag{W v:Int}(hW:U W)(hv:U v){j:Nat}(hj:j<4){k:Nat}(hk:k<4):dig (putW W v (8*j)) k=if k=j then v%256 else dig W k:=by
 have h:=qag hW hv (8*j) (by omega)
 rw[h]
 obtain⟨w0,w1⟩:=hW
 have h0:0<=v%256:=by omega
 have h1:v%256<256:=by omega
 generalize v%256=b at*
 clear h
 have hj:j=0\/j=1\/j=2\/j=3:=by omega
 have hk:k=0\/k=1\/k=2\/k=3:=by omega
 rcases hj with rfl|rfl|rfl|rfl<;>rcases hk with rfl|rfl|rfl|rfl<;>simp [dig]<;>omega
theorem qah{m:List Int}{a v:Int}(ha:U a):Q9j m a 1 v=m.set (a/4).toNat (putW (m.getD (a/4).toNat 0) v (8*(a%4).toNat)):=by
 obtain⟨a0,a1⟩:=ha
 have e1:wrap .u32 (eX a 4)=a/4:=by rw[wrap_u32,eY a0];omega
 have e2:wrap .u32 (8*dF a 4)=((8*(a%4).toNat:Nat):Int):=by rw[wrap_u32,eH a0];omega
 have e3:((1:Int)==4)=false:=rfl
 simp only[Q9j,Qd6,Tree.m,e1,e2,e3,cond_false]
 rfl
theorem vh{P:Nat}{m:List Int}(h:Q0t P m){a v:Int}(ha:U a)(hl:a<128*P)(hv:U v):Q0t P (Q9j m a 1 v)/\ ∀b:Nat,byt (Q9j m a 1 v) b=if(b:Int)=a then v%256 else byt m b:=by
 have hlen:=h.len
 have a0:=ha.1
 rw[qah ha]
 have hi:(a/4).toNat<m.length:=by omega
 refine⟨⟨by rw[dI];exact hlen,h.p1,h.p2,Qyh h.u (U_or _ _) _⟩,λb=> ?_⟩
 rw[Zhq hi]
 by_cases hb:b/4=(a/4).toNat
 . rw[if_pos hb,xag (Qka h.u _) hv (by omega) (by omega)]
   by_cases hc:b%4=(a%4).toNat
   . rw[if_pos hc,if_pos (by omega)]
   . rw[if_neg hc,if_neg (by omega),byt,hb]
 . rw[if_neg hb,if_neg (by omega)]
theorem xU{P:Nat}{m:List Int}(h:Q0t P m){frame:Int}(f0:0<=frame)(f1:frame<P)(s:List UInt8):(Q8v m frame s).w (λr=>Q0t P r/\ ∀b:Nat,byt r b=if frame*128<=b/\(b:Int)<frame*128+min s.length 128 then((s.getD (b-frame*128).toNat 0).toNat:Int) else byt m b):=by
 unfold Q8v
 have h3:=h.p2
 refine w_lp (inv:=λz=>0<=z.1/\z.1<=min s.length 128/\Q0t P z.2/\ ∀b:Nat,byt z.2 b=if frame*128<=b/\(b:Int)<frame*128+z.1 then((s.getD (b-frame*128).toNat 0).toNat:Int) else byt m b) (μ:=Qhy m frame s) ⟨show(0:Int)<=0 by decide,by show(0:Int)<=_;omega,h,λb=>by rw[if_neg];show¬(_/\_<_+(0:Int));omega⟩ (cO _) (λv0 hv0=> ?_)
 obtain⟨i,mm⟩:=v0
 obtain⟨i0,i1,hm,hy⟩:=hv0
 have i0:0<=i:=i0
 have i1:i<=min s.length 128:=i1
 have hm:Q0t P mm:=hm
 have fin: ∀r:List Int,r=mm->i=min s.length 128->Q0t P r/\ ∀b:Nat,byt r b=if frame*128<=b/\(b:Int)<frame*128+min s.length 128 then((s.getD (b-frame*128).toNat 0).toNat:Int) else byt m b:=λr hr hi=>by
   subst hr;refine⟨hm,λb=> ?_⟩
   rw[hy b];simp only[hi]
 refine w_br (λh1=>w_br (λh2=>w_cn ?_ ?_) (λh2=>fin mm rfl ?_)) (λh1=>fin mm rfl ?_)
 . have:=oY h1
   simp [bT];omega
 . have h1:i<s.length:=oY h1
   have h2:i<128:=oY h2
   have e:wrap u32 (wrap i64 (wrap i64 (frame*128)+i))=frame*128+i:=by
     rw[wrap_u32,wrap_i64,wrap_i64];omega
   show(Tree.an (Qe0 mm (wrap u32 (wrap i64 (wrap i64 (frame*128)+i))) 1 _) (Tree.lv _ _)).w _
   rw[e]
   have hu:U (frame*128+i):=⟨by omega,by omega⟩
   have hvU: ∀n:Nat,U (wrap .u32 (n:Int)):=λn=>Q0l _
   obtain⟨g1,_⟩:=Tree.pp (put_w hm (size:=1) (addr:=frame*128+i) hu (by rw[hm.len];omega) (hvU (eZ (s.getD i.toNat 0))))
   obtain⟨g2,g3⟩:=vh hm hu (by omega) (hvU (eZ (s.getD i.toNat 0)))
   refine w_an g1 (w_lv λx0 hx0=> ?_)
   rw[hx0]
   have ew:i64.wrap (i+1)=i+1:=by rw[wrap_i64];omega
   refine w_nx ?_
   show(0<=i64.wrap (i+1)/\i64.wrap (i+1)<=min s.length 128/\Q0t P _/\ ∀b:Nat,byt _ b=if frame*128<=b/\(b:Int)<frame*128+i64.wrap (i+1) then _ else _)/\(128-i64.wrap (i+1)).toNat<(128-i).toNat
   rw[ew]
   refine⟨⟨by omega,by omega,g2,λb=> ?_⟩,by omega⟩
   rw[show Q9j mm (frame*128+i) 1 _=_ from rfl,g3 b]
   by_cases hb:(b:Int)=frame*128+i
   . rw[if_pos hb,if_pos (by omega),wrap_u32]
     have:=(s.getD i.toNat 0).toNat_lt
     rw[show(b-frame*128).toNat=i.toNat by omega];omega
   . rw[if_neg hb,hy b]
     show(if frame*128<=(b:Int)/\(b:Int)<frame*128+i then _ else _)=_
     by_cases hc:frame*128<=(b:Int)/\(b:Int)<frame*128+i
     . rw[if_pos hc,if_pos (by omega)]
     . rw[if_neg hc,if_neg (by omega)]
 . have h1:i<s.length:=oY h1
   have h2: ¬i<128:=oN h2
   omega
 . have h1: ¬i<s.length:=oN h1
   omega
theorem qi{x y:Int}(hx:U x)(hy:U y)(k:Nat)(hk:x<2^k)(h:x+y*2^k<4294967296):ior .u32 x (y*2^k)=x+y*2^k:=by
 obtain⟨n,rfl⟩: ∃n:Nat,x=n:=⟨x.toNat,by have:=hx.1;omega⟩
 obtain⟨z,rfl⟩: ∃n:Nat,y=n:=⟨y.toNat,by have:=hy.1;omega⟩
 have e:((z:Int)*2^k)=((z*2^k:Nat):Int):=by simp
 rw[e]at h⊢
 have hn:n<2^k:=by exact_mod_cast hk
 rw[qaC hx ⟨by omega,by omega⟩,eF,eF,Nat.or_comm,fA,<-eO hn]
 omega
theorem four{a b c d:Int}(ha:0<=a/\a<256)(hb:0<=b/\b<256)(hc:0<=c/\c<256)(hd:0<=d/\d<256):ior .u32 (ior .u32 (ior .u32 (wrap .u32 a) (ishl .u32 (wrap .u32 b) 8)) (ishl .u32 (wrap .u32 c) 16)) (ishl .u32 (wrap .u32 d) 24)=a+b*2^8+c*2^16+d*2^24:=by
 have w: ∀{x:Int},0<=x/\x<256->wrap .u32 x=x:=λhx=>by rw[wrap_u32];omega
 have s8: ∀{x:Int},0<=x/\x<256->ishl .u32 x 8=x*2^8:=fun{x} hx=>by show wrap .u32 (x*2^8)=_;rw[wrap_u32];omega
 have s16: ∀{x:Int},0<=x/\x<256->ishl .u32 x 16=x*2^16:=fun{x} hx=>by show wrap .u32 (x*2^16)=_;rw[wrap_u32];omega
 have s24: ∀{x:Int},0<=x/\x<256->ishl .u32 x 24=x*2^24:=fun{x} hx=>by show wrap .u32 (x*2^24)=_;rw[wrap_u32];omega
 rw[w ha,w hb,w hc,w hd,s8 hb,s16 hc,s24 hd]
 rw[qi ⟨by omega,by omega⟩ ⟨by omega,by omega⟩ 8 (by omega) (by omega),qi ⟨by omega,by omega⟩ ⟨by omega,by omega⟩ 16 (by omega) (by omega),qi ⟨by omega,by omega⟩ ⟨by omega,by omega⟩ 24 (by omega) (by omega)]
theorem xH{a b c d:Int}(ha:0<=a/\a<256)(hb:0<=b/\b<256)(hc:0<=c/\c<256)(hd:0<=d/\d<256)(k:Nat)(hk:k<4):dig (a+b*2^8+c*2^16+d*2^24) k=if k=0 then a else if k=1 then b else if k=2 then c else d:=by
 have hk:k=0\/k=1\/k=2\/k=3:=by omega
 rcases hk with rfl|rfl|rfl|rfl<;>simp [dig]<;>omega
theorem Z7k{P:Nat}{m:List Int}(h:Q0t P m)(f:Int):Q4j m f=decide (0<=f/\f<P):=by
 have hp:=Q33 h
 simp only[Q4j,Q7f,Tree.m,letv,hp]
 by_cases h1:0<=f
 . rw[dY h1];simp [h1]
 . rw[dN h1];simp [h1]
theorem zH(s:List UInt8)(a b k:Nat)(h:k<b):(dC b (dD a s)).getD k 0=s.getD (a+k) 0:=by
 simp [cP,aU,h]
theorem u8I(x:UInt8):0<=(x.toNat:Int)/\(x.toNat:Int)<256:=by have:=x.toNat_lt;omega
theorem Z2y{P:Nat}{m:List Int}(h:Q0t P m){f:Int}(f0:0<=f)(f1:f<P){s:List UInt8}(hs:s.length=128):(Q31 m f s).w (λr=>r.2=true/\Q0t P r.1/\ ∀b:Nat,byt r.1 b=if f*128<=b/\(b:Int)<f*128+128 then((s.getD (b-f*128).toNat 0).toNat:Int) else byt m b):=by
  have hcl:Q03 m=m:=rfl
  have h2:=h.p2
  unfold Q31
  refine w_an (Q8m h) (w_lv λx0 hx0=>w_lv λx1 hx1=> ?_)
  rw[hcl]at hx0;subst hx0
  rw[Z7k h,dY ⟨f0,f1⟩]at hx1
  subst hx1
  refine w_br (λhb=>by cases hb) λ_=>w_br (λhb=>by simp [hs]at hb) λ_=> ?_
  refine w_lp (inv:=λz:Int×List Int=>0<=z.1/\z.1<=32/\Q0t P z.2/\ ∀b:Nat,byt z.2 b=if f*128<=b/\(b:Int)<f*128+4*z.1 then((s.getD (b-f*128).toNat 0).toNat:Int) else byt x0 b) (μ:=Q9t x0 f s) ⟨show(0:Int)<=0 by decide,show(0:Int)<=32 by decide,h,λb=>by rw[if_neg];show¬(_/\_<_+4*(0:Int));omega⟩ (cO _) λz ⟨z1,z2,z3,z4⟩=> ?_
  refine w_br (λhb=> ?_) (λhb=>⟨rfl,z3,λb=> ?_⟩)
  . have hb:=oY hb
    have e1:i64.wrap (4*z.1)=4*z.1:=by rw[wrap_i64];omega
    have e2:i64.wrap (i64.wrap (4*z.1)+4)=4*z.1+4:=by rw[wrap_i64,wrap_i64];omega
    have e3:i64.wrap (i64.wrap (f*32)+z.1)=f*32+z.1:=by rw[wrap_i64,wrap_i64];omega
    have hl:=z3.len
    have cut:dG (i64.wrap (i64.wrap (4*z.1)+4))-dG (i64.wrap (4*z.1))=4:=by rw[e2,e1];omega
    have hlen:(dC (dG (i64.wrap (i64.wrap (4*z.1)+4))-dG (i64.wrap (4*z.1))) (dD (dG (i64.wrap (4*z.1))) s)).length=4:=by
      rw[cut,e1,bD,bF];omega
    refine w_cn (dY (by rw[e2,e1];omega)) ?_
    refine w_cn (dY (by rw[hlen];decide)) (w_cn (dY (by rw[hlen];decide)) (w_cn (dY (by rw[hlen];decide)) (w_cn (dY (by rw[hlen];decide)) (w_cn (by rw[e3];simp [bT];omega) (w_nx ?_)))))
    have ew:i64.wrap (z.1+1)=z.1+1:=by rw[wrap_i64];omega
    rw[cut]
    refine⟨⟨by show 0<=i64.wrap (z.1+1);rw[ew];omega,by show i64.wrap (z.1+1)<=32;rw[ew];omega,?_,?_⟩,by show(32-i64.wrap (z.1+1)).toNat<(32-z.1).toNat;rw[ew];omega⟩
    . show Q0t P (dH _ _ _)
      exact⟨by rw[dI];exact hl,z3.p1,z3.p2,Qyh z3.u (U_or _ _) _⟩
    . intro b
      show byt (dH z.2 (dG (i64.wrap (i64.wrap (f*32)+z.1))) _) b=if f*128<=(b:Int)/\(b:Int)<f*128+4*i64.wrap (z.1+1) then _ else _
      rw[e3,ew,four (u8I _) (u8I _) (u8I _) (u8I _),Zhq (by omega)]
      have g: ∀k:Nat,k<4->(dC 4 (dD (dG (i64.wrap (4*z.1))) s)).getD k 0=s.getD ((4*z.1).toNat+k) 0:=λk hk=>by rw[e1];exact zH _ _ _ _ hk
      by_cases hc:b/4=(f*32+z.1).toNat
      . have hin:f*128<=(b:Int)/\(b:Int)<f*128+4*(z.1+1):=by omega
        rw[if_pos hc,xH (u8I _) (u8I _) (u8I _) (u8I _) _ (by omega),if_pos hin]
        have hb4:b%4=0\/b%4=1\/b%4=2\/b%4=3:=by omega
        have gi:(b-f*128).toNat=(4*z.1).toNat+b%4:=by omega
        rw[gi]
        rcases hb4 with h4|h4|h4|h4<;>rw[h4]
        . rw[if_pos rfl,<-g 0 (by omega)];rfl
        . rw[if_neg (by decide),if_pos rfl,<-g 1 (by omega)];rfl
        . rw[if_neg (by decide),if_neg (by decide),if_pos rfl,<-g 2 (by omega)];rfl
        . rw[if_neg (by decide),if_neg (by decide),if_neg (by decide),<-g 3 (by omega)];rfl
      . rw[if_neg hc,z4 b]
        by_cases hd:f*128<=(b:Int)/\(b:Int)<f*128+4*z.1
        . rw[if_pos hd,if_pos (by omega)]
        . rw[if_neg hd,if_neg (by omega)]
  . have hb:=oN hb
    show byt z.2 b=_
    rw[z4 b,show z.1=32 by omega]
    rfl
theorem Z7s{α:Type}(l l2:List α)(k:Nat)(z:α):(l++l2).getD k z=if k<l.length then l.getD k z else l2.getD (k-l.length) z:=by
 simp only[cP,List.getElem?_append]
 split<;>rfl
theorem u8w{x:Int}:wrap .u8 x=x%256:=wrap_u8 x
theorem shr_c(W:Int):ishr .u32 W 8=W/256/\ishr .u32 W 16=W/65536/\ishr .u32 W 24=W/16777216:=by
 refine⟨?_,?_,?_⟩
 . show eM W 256=_;rw[dQ _ (by decide)]
 . show eM W 65536=_;rw[dQ _ (by decide)]
 . show eM W 16777216=_;rw[dQ _ (by decide)]
theorem b4d(W:Int){k:Nat}(hk:k<4):[wrap .u8 W,wrap .u8 (ishr .u32 W 8),wrap .u8 (ishr .u32 W 16),wrap .u8 (ishr .u32 W 24)].getD k 0=dig W k:=by
 obtain⟨a,b,c⟩:=shr_c W
 have hk:k=0\/k=1\/k=2\/k=3:=by omega
 rcases hk with rfl|rfl|rfl|rfl<;>simp [dig,a,b,c,u8w]
theorem Qmr(l:List Int)(k:Nat)(h:0<=l.getD k 0/\l.getD k 0<256)(hk:k<l.length):(((bytesOf l).getD k 0).toNat:Int)=l.getD k 0:=by
 have e:(bytesOf l).getD k 0=fB (l.getD k 0).toNat:=by
   simp [bytesOf,cP,hk]
 rw[e,fC]
 omega
theorem Zhu(l:List UInt8)(k:Nat)(hk:k<l.length):(Q1p l).getD k 0=((l.getD k 0).toNat:Int):=by
 simp [Q1p,cP,hk]
theorem zaC(w:List Int)(h:w.length<=32):(Q4g w).w (λr=>r.length=4*w.length/\ ∀k:Nat,k<4*w.length->((r.getD k 0).toNat:Int)=dig (w.getD (k/4) 0) (k%4)):=by
 have e0:i64.wrap (4*(w.length:Int))=4*w.length:=by rw[wrap_i64];omega
 unfold Q4g
 refine w_cn (by rw[e0];simp [bT,D.plain];omega) ?_
 refine w_lp (inv:=λz:Int×List Int=>0<=z.1/\z.1<=w.length/\(z.2.length:Int)=4*z.1/\ ∀k:Nat,(k:Int)<4*z.1->z.2.getD k 0=dig (w.getD (k/4) 0) (k%4)) (μ:=Q6j w) ⟨by decide,by show(0:Int)<=w.length;omega,rfl,λk hk=>by have hk:(k:Int)<4*0:=hk;omega⟩ (cO _) λz ⟨z1,z2,z3,z4⟩=> ?_
 refine w_br (λhb=> ?_) (λhb=> ?_)
 . have hb:=oY hb
   have ew:i64.wrap (z.1+1)=z.1+1:=by rw[wrap_i64];omega
   refine w_cn (by simp [bT];omega) (w_cn (dY (by omega)) (w_nx ?_))
   show(_/\_/\_/\ ∀k:Nat,(k:Int)<4*i64.wrap (z.1+1)->(z.2++_).getD k 0=_)/\(_:Nat)<_
   refine⟨⟨by rw[ew];omega,by rw[ew];omega,by rw[ew,lA];simp only[dJ,dK];omega,λk hk=> ?_⟩,by show(w.length-i64.wrap (z.1+1)).toNat<(w.length-z.1).toNat;rw[ew];omega⟩
   rw[ew]at hk
   rw[Z7s]
   split
   . exact z4 k (by omega)
   . rename_i hn
     rw[b4d _ (by omega),show z.1.toNat=k/4 by omega,show k-z.2.length=k%4 by omega]
 . have hb:=oN hb
   show(bytesOf z.2).length=_/\ ∀k:Nat,_->(((bytesOf z.2).getD k 0).toNat:Int)=_
   refine⟨by rw[Qh2];omega,λk hk=> ?_⟩
   have e:=z4 k (by omega)
   have:=yh (w.getD (k/4) 0) (k%4)
   rw[Qmr _ _ (by rw[e];exact this) (by omega),e]
def isPg(m:List Int)(f:Int)(r:List UInt8):Prop:=r.length=128/\ ∀k:Nat,k<128->((r.getD k 0).toNat:Int)=byt m ((f*128).toNat+k)
theorem xaC{m:List Int}{f:Int}{r s:List UInt8}(a:isPg m f r)(b:isPg m f s):r=s:=by
 obtain⟨a1,a2⟩:=a
 obtain⟨b1,b2⟩:=b
 refine bM (by omega) λi h1 h2=> ?_
 have e:=(a2 i (by omega)).trans (b2 i (by omega)).symm
 have e1:r[i]=r.getD i 0:=by simp [aK,h1]
 have e2:s[i]=s.getD i 0:=by simp [aK,h2]
 rw[e1,e2]
 exact UInt8.toNat_inj.1 (by omega)
theorem xi{P:Nat}{m:List Int}(h:Q0t P m){f:Int}(f0:0<=f)(f1:f<P):(Q5y m f).w (λr=>isPg m f r.1/\r.2=true):=by
 have hl:=h.len
 have h2:=h.p2
 unfold Q5y
 refine w_lv λx0 hx0=> ?_
 rw[Z7k h,dY ⟨f0,f1⟩]at hx0
 subst hx0
 refine w_br (λhb=>by cases hb) (λhb=> ?_)
 have e1:i64.wrap (f*32)=f*32:=by rw[wrap_i64];omega
 have e2:i64.wrap (i64.wrap (f*32)+32)=f*32+32:=by rw[wrap_i64,wrap_i64];omega
 have cut:dG (i64.wrap (i64.wrap (f*32)+32))-dG (i64.wrap (f*32))=32:=by rw[e2,e1];omega
 have hlen:(dC 32 (dD (dG (i64.wrap (f*32))) m)).length=32:=by
   rw[e1,bD,bF];omega
 refine w_cn (by rw[e2,e1];simp [bT];omega) ?_
 rw[cut]
 refine w_an (by show dL _<=1000000000000;rw[hlen];decide) (w_lv λx1 h1=> ?_)
 have t:=(Tree.pp (zaC _ (dM hlen))).2
 rw[hlen,show(Q4g (dC 32 (dD (dG (i64.wrap (f*32))) m))).m=x1 from h1.symm]at t
 refine⟨⟨t.1,λk hk=> ?_⟩,rfl⟩
 show((x1.getD k 0).toNat:Int)=_
 rw[t.2 k hk,byt,e1]
 have g:(dC 32 (dD (dG (f*32)) m)).getD (k/4) 0=m.getD ((f*32).toNat+k/4) 0:=by
   simp [cP,aU,show k/4<32 by omega]
 rw[g,show((f*128).toNat+k)/4=(f*32).toNat+k/4 by omega,show((f*128).toNat+k)%4=k%4 by omega]
theorem qaD(x:Int):Z8z x 4=bytesOf [wrap .u8 (ishr .u32 x 0),wrap .u8 (ishr .u32 x 8),wrap .u8 (ishr .u32 x 16),wrap .u8 (ishr .u32 x 24)]:=by kernel_rfl
theorem zah{P:Nat}{m:List Int}(hm:Q0t P m){frame:Int}(f0:0<=frame)(f1:frame<P):(Q8o m frame).w (λr=>isPg m frame r.1/\r.2=true):=by
 have hp:=Qdv hm
 have hl:=hm.len
 have h2:=hm.p2
 unfold Q8o
 refine w_br (λh=>by have:=oY h;omega) (λh=>w_lv λx0 hx=>w_br (λh1=>by have:=oY h1;rw[hx,hp]at this;omega) (λh1=> ?_))
 refine w_lp (inv:=λz:Int×List Int=>0<=z.1/\z.1<=32/\(z.2.length:Int)=4*z.1/\ ∀k:Nat,(k:Int)<4*z.1->z.2.getD k 0=byt m ((frame*128).toNat+k)) (μ:=Qgt m frame) ⟨by decide,by decide,rfl,λk hk=>by have hk:(k:Int)<4*0:=hk;omega⟩ (cO _) (λz hz=> ?_)
 obtain⟨z1,z2,z3,z4⟩:=hz
 refine w_br (λhb=> ?_) (λhb=> ?_)
 . have hb:=oY hb
   have e:wrap i64 (wrap i64 (frame*32)+z.1)=frame*32+z.1:=by rw[wrap_i64,wrap_i64];omega
   refine w_cn (by rw[e];simp [bT];omega) (w_an (show(4:Int)<=1000000000000 by decide) (w_lv λx1 h4=> ?_))
   rw[qaD,shr0,e]at h4
   have l4:x1.length=4:=by rw[h4];rfl
   refine w_cn (dY (by rw[Qoa,l4];omega)) (w_nx ?_)
   show(0<=i64.wrap (z.1+1)/\i64.wrap (z.1+1)<=32/\((z.2++Q1p x1).length:Int)=4*i64.wrap (z.1+1)/\ ∀k:Nat,(k:Int)<4*i64.wrap (z.1+1)->(z.2++Q1p x1).getD k 0=_)/\(32-i64.wrap (z.1+1)).toNat<(32-z.1).toNat
   have ew:i64.wrap (z.1+1)=z.1+1:=by rw[wrap_i64];omega
   rw[ew]
   refine⟨⟨by omega,by omega,by rw[lA,Qoa,l4];omega,λk hk=> ?_⟩,by omega⟩
   rw[Z7s]
   split
   . exact z4 k (by omega)
   . rename_i hn
     have hk4:k-z.2.length<4:=by omega
     rw[Zhu _ _ (by omega),h4]
     have d:=b4d (m.getD (frame*32+z.1).toNat 0) hk4
     rw[Qmr _ _ (by rw[d];exact yh _ _) (by simpa using hk4),d,byt]
     rw[show((frame*128).toNat+k)/4=(frame*32+z.1).toNat by omega,show((frame*128).toNat+k)%4=k-z.2.length by omega]
 . have hb:=oN hb
   refine⟨⟨?_,λk hk=> ?_⟩,rfl⟩
   . show(bytesOf z.2).length=128
     rw[Qh2];omega
   . show(((bytesOf z.2).getD k 0).toNat:Int)=_
     have e:=z4 k (by omega)
     rw[Qmr _ _ (by rw[e];exact yh _ _) (by omega),e]
theorem Zbl{P:Nat}{m:List Int}(h:Q0t P m)(f:Int):Q54 m f=Qi1 m f:=by
 by_cases hf:0<=f/\f<P
 . have a:=(Tree.pp (xi h hf.1 hf.2)).2
   have b:=(Tree.pp (zah h hf.1 hf.2)).2
   exact fD (xaC a.1 b.1) (a.2.trans b.2.symm)
 . have hp:=Qdv h
   have e1:Q54 m f=([],false):=by
     simp only[Q54,Q5y,Tree.m,letv,Z7k h,dN hf];rfl
   have e2:Qi1 m f=([],false):=by
     simp only[Qi1,Q8o,Tree.m,letv,hp]
     by_cases h0:f<0
     . rw[dY h0];rfl
     . rw[dN h0,dY (show f>=P by omega)];rfl
   rw[e1,e2]
section
variable {P:Nat} {m:List Int} (h:Q0t P m)
include h
theorem Zf0{f:Int}(f0:0<=f)(f1:f<P){s:List UInt8}(hs:s.length=128):Q2f m f s=(Qjw m f s,true):=by
 have a:=(Tree.pp (Z2y h f0 f1 hs)).2
 have b:=(Tree.pp (xU h f0 f1 s)).2
 refine fD (Zh5 (a.2.1.len.trans b.1.len.symm) a.2.1.u b.1.u λk=> ?_) a.1
 have e:((min s.length 128:Nat):Int)=128:=by rw[hs];rfl
 have b2:=b.2 k
 have a2:=a.2.2 k
 rw[e]at b2
 exact a2.trans b2.symm
theorem Zd7{f:Int}(f0:0<=f)(f1:f<P){s r:List UInt8}(hs:s.length<=128)(hr:isPg m f r):Q2f m f (s++r.drop s.length)=(Qjw m f s,true):=by
  have hl:(s++r.drop s.length).length=128:=by have:=hr.1;simp;omega
  have a:=(Tree.pp (Z2y h f0 f1 hl)).2
  have b:=(Tree.pp (xU h f0 f1 s)).2
  refine fD (Zh5 (a.2.1.len.trans b.1.len.symm) a.2.1.u b.1.u λk=> ?_) a.1
  have b2:=b.2 k
  have a2:=a.2.2 k
  refine a2.trans (Eq.trans ?_ b2.symm)
  by_cases hc:f*128<=(k:Int)/\(k:Int)<f*128+128
  . rw [if_pos hc,Z7s]
    by_cases hd:(k-f*128).toNat<s.length
    . rw[if_pos hd,if_pos (by omega)]
    . rw[if_neg hd,if_neg (by omega)]
      have e:(r.drop s.length).getD ((k-f*128).toNat-s.length) 0=r.getD (k-f*128).toNat 0:=by
        simp [cP,show s.length+((k-f*128).toNat-s.length)=(k-f*128).toNat by omega]
      rw[e,hr.2 _ (by omega),show(f*128).toNat+(k-f*128).toNat=k by omega]
  . rw[if_neg hc,if_neg (by omega)]
theorem Qju{a:Int}(ha:U a){size:Int}(hs:size=1\/size=4):Q2d m a size=decide (a%size=0/\a<128*P):=by
 have hq:=Qdv h
 have h2:=h.p2
 have a0:=ha.1
 have e:wrap u32 size=size:=by rcases hs with rfl|rfl<;>decide
 have e0:decide (wrap u32 size≠0)=true:=by rcases hs with rfl|rfl<;>decide
 have t:dF a (wrap u32 size)=a%size:=by rw[e,eH a0]
 have l: ∀x,x=Q34 m->a%size=0->decide (a<wrap u32 (wrap i64 (128*x)))=decide (a%size=0/\a<128*P):=λx hx hz=>by
   rw[hx,hq,wrap_u32,wrap_i64]
   exact decide_eq_decide.2 ⟨λh=>⟨hz,by omega⟩,λh=>by omega⟩
 refine Tree.post (Q6w m a size) (W:=λb=>b=decide (a%size=0/\a<128*P)) ?_
 unfold Q6w
 refine w_br (λh1=>w_br (λh4=> ?_) (λ_=> ?_)) (λ_=> ?_)
 . have h1: ¬size=1:=by simpa using h1
   have h4: ¬size=4:=by simpa using h4
   omega
 all_goals
   refine w_cn e0 (w_br (λhb=>w_lv λx hx=>l x hx ?_) (λhb=> ?_))
   . rw[t]at hb;exact eq_of_beq hb
   . rw[t]at hb
     exact(dN (λh=>by rw[h.1]at hb;cases hb)).symm
theorem Z1e{a:Int}(ha:U a){size:Int}(hs:size=1\/size=4):Qfp m a size=Q2d m a size:=by
 rw[Qju h ha hs]
 have hq:=Z30 h
 have h2:=h.p2
 have a0:=ha.1
 have a1:=ha.2
 have e:wrap u32 size=size:=by rcases hs with rfl|rfl<;>decide
 have e0:decide (wrap u32 size≠0)=true:=by rcases hs with rfl|rfl<;>decide
 have t:dF a (wrap u32 size)=a%size:=by rw[e,eH a0]
 have l: ∀x,x=Q0o m->a%size=0->decide (wrap u64 (wrap u64 a+wrap u64 size)<=wrap u64 (wrap u64 x*128))=decide (a%size=0/\a<128*P):=λx hx hz=>by
   rw[hx,hq]
   simp only[wrap_u64]
   refine decide_eq_decide.2 ⟨λh=>⟨hz,?_⟩,λh=> ?_⟩<;>rcases hs with rfl|rfl<;>omega
 refine Tree.post (Q2s m a size) (W:=λb=>b=decide (a%size=0/\a<128*P)) ?_
 unfold Q2s
 refine w_br (λh1=>w_br (λh4=> ?_) (λ_=> ?_)) (λ_=> ?_)
 . have h1: ¬size=1:=by simpa using h1
   have h4: ¬size=4:=by simpa using h4
   omega
 all_goals
   refine w_cn e0 (w_br (λhb=> ?_) (λhb=>w_lv λx hx=>l x hx ?_))
   . rw[t]at hb
     exact(dN (λh=>by rw[h.1]at hb;cases hb)).symm
   . rw[t]at hb;simpa using hb
end
theorem fldj(w:Int):Q2i w 0 8=iand .u32 (ishr .u32 w 0) 255/\Q2i w 8 8=iand .u32 (ishr .u32 w 8) 255/\Q2i w 16 8=iand .u32 (ishr .u32 w 16) 255/\Q2i w 24 8=iand .u32 (ishr .u32 w 24) 255:=
 ⟨by kernel_rfl,by kernel_rfl,by kernel_rfl,by kernel_rfl⟩
theorem setj(w v:Int):Q6y w 0 8 v=putW w v 0/\Q6y w 8 8 v=putW w v 8/\Q6y w 16 8 v=putW w v 16/\Q6y w 24 8 v=putW w v 24:=
 ⟨by kernel_rfl,by kernel_rfl,by kernel_rfl,by kernel_rfl⟩
theorem vi{a:Int}(ha:U a):wrap .i64 (wrap .i64 (dF a 4)*8)=8*(a%4)/\wrap .u32 (8*dF a 4)=8*(a%4):=by
 obtain⟨a0,a1⟩:=ha
 rw[eH a0]
 exact⟨by rw[wrap_i64,wrap_i64];omega,by rw[wrap_u32];omega⟩
section
variable {P:Nat} {m:List Int} (h:Q0t P m)
include h
theorem Qo1{a:Int}(ha:U a){size:Int}(hs:size=1\/size=4):Q47 m a size=Q22 m a size:=by
 have e:=Z1e h ha hs
 obtain⟨s1,s2⟩:=vi ha
 have f:Q2i (m.getD (dG (wrap .u32 (eX a 4))) 0) (8*(a%4)) 8=iand .u32 (ishr .u32 (m.getD (dG (wrap .u32 (eX a 4))) 0) (8*(a%4))) 255:=by
   obtain⟨f0,f1,f2,f3⟩:=fldj (m.getD (dG (wrap .u32 (eX a 4))) 0)
   have:a%4=0\/a%4=1\/a%4=2\/a%4=3:=by omega
   rcases this with h|h|h|h<;>rw[h]
   . exact f0
   . exact f1
   . exact f2
   . exact f3
 simp only[Q47,Q5l,Q22,Q62,Tree.m,letv,e,s1,s2,f]
omit h in
theorem Z7m(a size:Int):(Q22 m a size).2=Q2d m a size:=by
 simp only[Q22,Q62,Tree.m,letv]
 cases Q2d m a size
 . rfl
 . cases size==1<;>rfl
theorem Z6d{a:Int}(ha:U a){size:Int}(hs:size=1\/size=4)(v:Int):Q9 m a size v=bif Q2d m a size then(Q9j m a size v,true) else(m,false):=by
 have hcl:Q03 m=m:=rfl
 have e:=Z1e h ha hs
 obtain⟨s1,s2⟩:=vi ha
 have f: ∀w,Q6y w (8*(a%4)) 8 v=ior .u32 (Qg .u32 w (ishl .u32 255 (8*(a%4)))) (ishl .u32 (iand .u32 v 255) (8*(a%4))):=λw=>by
   obtain⟨f0,f1,f2,f3⟩:=setj w v
   have:a%4=0\/a%4=1\/a%4=2\/a%4=3:=by omega
   rcases this with h|h|h|h<;>rw[h]
   . exact f0
   . exact f1
   . exact f2
   . exact f3
 simp only[Q9,Q7u,Q9j,Qd6,Tree.m,letv,hcl,e,s1,s2,f]
 rcases hs with rfl|rfl<;>cases Q2d m a _<;>rfl
end
section
variable {P:Nat} {m:List Int} (h:Q0t P m)
include h
theorem qj{root va:Int}(hr:U root)(hv:U va){access:Int}(ha:access=1\/access=2\/access=3):Qhm m root va access=Q5i m root va access:=by
 have hp:=Qdv h
 have h2:=h.p2
 have hlen:=h.len
 obtain⟨r1,r2⟩:=hr
 obtain⟨v1,v2⟩:=hv
 have hpg: ∀{f:Int},U f->Q9f m f=decide (f<P):=λhf=>zQ h hf
 have eP:wrap .u32 (P:Int)=P:=by rw[wrap_u32];omega
 have kn:Qga access=true:=by rcases ha with rfl|rfl|rfl<;>rfl
 have ca:Qje access=(Q3 access,true):=by rcases ha with rfl|rfl|rfl<;>rfl
 simp only[Qhm,Q9e,Q5i,Q8t,Tree.m,letv,hp,eP,kn,ca,hpg ⟨r1,r2⟩]
 by_cases c1:va>=4096
 . rw[dY c1];rfl
 by_cases c2:root<P
 . have eE:wrap u32 (wrap u32 (root*128)+wrap u32 (4*wrap u32 (eX va 128)))=root*128+4*(va/128):=by
     rw[eY v1,wrap_u32,wrap_u32,wrap_u32,wrap_u32];omega
   have hE:U (root*128+4*(va/128)):=⟨by omega,by omega⟩
   have wi:Q2d m (root*128+4*(va/128)) 4=true:=by
     rw[Qju h hE (.inr rfl)];exact dY ⟨by omega,by omega⟩
   rw[dN c1,dY c2,dN (show¬root>=P by omega),eE,Qo1 h hE (.inr rfl),Z7m,wi]
   have ld:(Q22 m (root*128+4*(va/128)) 4).1=m.getD (dG (wrap .u32 (eX (root*128+4*(va/128)) 4))) 0:=by
     simp only[Q22,Q62,Tree.m,letv,wi];rfl
   rw[ld]
   generalize m.getD (dG (wrap .u32 (eX (root*128+4*(va/128)) 4))) 0=w
   have fo:Qds w=iand .u32 (ishr .u32 w 8) 255:=(fld w).2.2.2.2
   rw[fo,hpg (Qh6 _ _)]
   have hge:decide (iand .u32 (ishr .u32 w 8) 255>=(P:Int))=!decide (iand .u32 (ishr .u32 w 8) 255<(P:Int)):=by
     by_cases hq:iand .u32 (ishr .u32 w 8) 255<(P:Int)
     . rw[dY hq,dN (by omega)];rfl
     . rw[dN hq,dY (by omega)];rfl
   rw[hge]
   generalize decide (iand .u32 (ishr .u32 w 8) 255<(P:Int))=d
   rcases ha with rfl|rfl|rfl
   . show _=(bif iand .u32 w 1==0 then _ else bif iand .u32 w 4==0 then _ else bif !d then _ else _)
     have:Qa w 1=(bif iand .u32 w 1==0 then false else !(iand .u32 w 4==0)):=rfl
     rw[this]
     cases iand .u32 w 1==0<;>cases iand .u32 w 4==0<;>cases d<;>rfl
   . show _=(bif iand .u32 w 1==0 then _ else bif !d then _ else _)
     have:Qa w 2=(bif iand .u32 w 1==0 then false else true):=rfl
     rw[this]
     cases iand .u32 w 1==0<;>cases d<;>rfl
   . show _=(bif iand .u32 w 1==0 then _ else bif iand .u32 w 2==0 then _ else bif !d then _ else _)
     have:Qa w 3=(bif iand .u32 w 1==0 then false else !(iand .u32 w 2==0)):=rfl
     rw[this]
     cases iand .u32 w 1==0<;>cases iand .u32 w 2==0<;>cases d<;>rfl
 . rw[dN c1,dN c2,dY (show root>=P by omega)];rfl
theorem Zne{a:Int}(ha:U a)(access:Int):Qbh m a access=Qmt m a access:=by
 have hcl:Q03 m=m:=rfl
 have hl:=h.len
 have a0:=ha.1
 simp only[Qbh,Q7r,Qmt,Qdb,Tree.m,letv,Qo1 h ha (.inr rfl),Z7m,Z6d h ha (.inr rfl),hcl]
 cases hw:Q2d m a 4
 . rfl
 . rw[Qju h ha (.inr rfl)]at hw
   have hw:=oY hw
   have wi:Q2d m a 4=true:=by rw[Qju h ha (.inr rfl)];exact dY hw
   have ld:(Q22 m a 4).1=m.getD (dG (wrap .u32 (eX a 4))) 0:=by
     simp only[Q22,Q62,Tree.m,letv,wi];rfl
   have pu: ∀v,Q9j m a 4 v=m.set (dG (wrap .u32 (eX a 4))) v:=λv=>rfl
   rw[ld,pu,pu]
   have hi:dG (wrap .u32 (eX a 4))<m.length:=by
     rw[eY a0,wrap_u32];omega
   generalize dG (wrap .u32 (eX a 4))=i at*
   rw[Qsx hi,List.set_set]
   rfl
end
theorem Qo0{c:Q02}(h0:0<=c.B4.a0)(h:c.B4.a0<=31)(k b:Int):Q3z c k b=Q2g c k b:=by
 have e:=eq_of_beq (Qsz (λs=>Qg .u32 (ior .u32 (Q83 (Q83 s 1 8) 2 16) 1) 2==ior .u32 (Qg .u32 (ior .u32 (ior .u32 (Qg .u32 s 24) (wrap .u32 (8*Qab (iand .u32 s 1 !=0)))) (wrap .u32 (16*Qab (iand .u32 s 2 !=0)))) 2) 1) 32 (by kernel_rfl) h0 (by omega))
 simp only[Q3z,Qjv,Q2g,Qhb,Tree.m,letv,e]
theorem Zfx{c:Q02}(h0:0<=c.B4.a0)(h:c.B4.a0<=31):Qd3 c=Qgz c:=by
 have e:=eq_of_beq (Qsz (λs=>Q83 (Q83 s 8 1) 16 2==ior .u32 (ior .u32 (Qg .u32 s 3) (wrap .u32 (1*Qab (iand .u32 s 8 !=0)))) (wrap .u32 (2*Qab (iand .u32 s 16 !=0)))) 32 (by kernel_rfl) h0 (by omega))
 simp only[Qd3,Qej,Qgz,Qcq,Tree.m,letv,e]
theorem Zn5{c:Q02}(h0:0<=c.B4.a0)(h:c.B4.a0<=31):Qoh c=(!Qb5 c&&(iand .u32 c.B4.a0 4 !=0)):=
 eq_of_beq (Qsz (λs=>(iand .u32 s 5==4)==(!(iand .u32 s 1 !=0)&&(iand .u32 s 4 !=0))) 32 (by kernel_rfl) h0 (by omega))
theorem Qyv(c:Q02){r:Int}(hr:0<=r/\r<16)(v:Int):Q9r c r v=Q1m c r v:=by
 simp only[Q9r,Qc5,Q1m,Qdc,Tree.m]
 by_cases h:r=0
 . subst h;rfl
 . rw[dY (show r>0 by omega),dY hr.2,show(r !=0)=true by simpa using h];rfl
theorem yH{a b:Int}(ha:U a)(hb:U b):Qaq a b=Qan a b:=by
  obtain⟨a0,a1⟩:=ha
  obtain⟨b0,b1⟩:=hb
  have i: ∀x,wrap .i64 (wrap .i32 x)=wrap .i32 x:=λx=>by rw[wrap_i64,wrap_i32];omega
  have r32: ∀x,-2147483648<=wrap .i32 x/\wrap .i32 x<2147483648:=λx=>by rw[wrap_i32];omega
  have q32: ∀x y:Int,-2147483648<=x/\x<2147483648-> -2147483648<=eX x y/\eX x y<=2147483648:=λx y hx=>by
    have h1:(eX x y).natAbs<=x.natAbs:=by rw[Int.natAbs_tdiv];exact Nat.div_le_self _ _
    omega
  simp only[Qaq,Q97,Qan,Q94,Tree.m,i]
  cases hb:b==0
  . have w: ∀z,wrap .u32 (wrap .i32 z)=wrap .u32 z:=λz=>by rw[wrap_i32,wrap_u32,wrap_u32];omega
    have w2:wrap .i64 (eX (wrap .i32 a) (wrap .i32 b))=eX (wrap .i32 a) (wrap .i32 b):=by
      have:=q32 _ (wrap .i32 b) (r32 a)
      rw[wrap_i64];omega
    rw[w,w2]
    cases h1:a==2147483648
    . rfl
    . cases h2:b==4294967295
      . rfl
      . have h1:=eq_of_beq h1
        have h2:=eq_of_beq h2
        subst h1;subst h2
        rfl
  . rfl
theorem vH{op a b:Int}(h0:1<=op)(h1:op<=23)(ha:U a)(hb:U b):Q3v op a b=Qcb op a b:=by
 have sub:wrap .u32 (a+wrap .u32 (0-b))=wrap .u32 (a-b):=by
   rw[wrap_u32,wrap_u32,wrap_u32];omega
 have hop:op=1\/op=2\/op=3\/op=4\/op=5\/op=6\/op=7\/op=8\/op=9\/op=10\/op=11\/op=12\/op=13\/op=14\/op=15\/op=16\/op=17\/op=18\/op=19\/op=20\/op=21\/op=22\/op=23:=by omega
 have d:=yH ha hb
 rcases hop with rfl|rfl|rfl|rfl|rfl|rfl|rfl|rfl|rfl|rfl|rfl|rfl|rfl|rfl|rfl|rfl|rfl|rfl|rfl|rfl|rfl|rfl|rfl
 . rfl
 . show(wrap .u32 (a+wrap .u32 (0-b)),true)=(wrap .u32 (a-b),true)
   rw[sub]
 . rfl
 . rfl
 . rfl
 . rfl
 . rfl
 . rfl
 . rfl
 . show((Qaq a b).1,true)=((Qan a b).1,true)
   rw[d]
 . show((Qaq a b).2,true)=((Qan a b).2,true)
   rw[d]
 all_goals rfl
theorem Qmn{P:Nat}{m:List Int}(h:Q0t P m){c:Q02}(hc:Q27 c)(hst:c.B4.a0<=31){va:Int}(hv:U va){size:Int}(hs:size=1\/size=4){access:Int}(ha:access=1\/access=2\/access=3):Q1u c m va size access=((Q0w c m va size access).1,(Q0w c m va size access).2.2,(Q0w c m va size access).2.1):=by
 have hcl:Q03 m=m:=rfl
 have kn:Qga access=true:=by rcases ha with rfl|rfl|rfl<;>rfl
 have ca:Qqw access=(Q3 access,true):=by rcases ha with rfl|rfl|rfl<;>rfl
 have pg:=Zn5 hc.a0.1 hst
 have wk:=qj h hc.a6 hv ha
 have tc:Qbh m (Q5i m c.B4.a6 va access).F0 access=Qmt m (Q5i m c.B4.a6 va access).F0 access:=Zne h (Tree.pp (vX h hc.a6 hv access)).2.2.1 access
 have sz:(bif size !=1 then bif size !=4 then false else true else true)=true:=by rcases hs with rfl|rfl<;>rfl
 simp only[Q1u,Q5n,Q0w,Q8f,Tree.m,letv,hcl,kn,ca,pg,wk,tc,Qo1 h hv hs,Z7m]
 rcases hs with rfl|rfl<;>
 . show(bif _ then _ else _)=_
   cases dF va _ !=0<;>cases Qb5 c<;>cases iand .u32 c.B4.a0 4 !=0<;>cases(Q5i m c.B4.a6 va access).E0 !=0<;>cases Q2d m va _<;>rfl
theorem Z36{α:Type}{Q:α->Prop}{c:Bool}{x y:α}(hx:Q x)(hy:Q y):Q (cond c x y):=by cases c<;>assumption
theorem xah(m:List Int)(root:Int){va:Int}(hv:U va)(access:Int):(Q5i m root va access).E0=0->(Q5i m root va access).Addr%4=va%4:=by
 have hc:Q3 access≠0:=by
   simp only[Q3,Q7j,Tree.m]
   cases access==1<;>cases access==3<;>simp
 have q :(λt:Q0x=>t.E0=0->t.Addr%4=va%4) (Q5i m root va access):=by
   simp only[Q5i,Q8t,Tree.m,letv]
   repeat'(first
     |exact λe=>absurd e hc
     | (intro _
        show wrap .u32 (wrap .u32 (_*128)+dF va 128)%4=va%4
        rw[eH hv.1,wrap_u32,wrap_u32];omega)
     |refine Z36 (Q:=λt:Q0x=>t.E0=0->t.Addr%4=va%4) ?_ ?_)
 exact q
theorem qI{c:Q02}{m:List Int}{va:Int}(hv:U va){size:Int}(hs:size=1\/size=4){access:Int}(ha:access=1\/access=2\/access=3):(Q0w c m va size access).2.1=0->(Q0w c m va size access).1%size=0:=by
  have kn:Qga access=true:=by rcases ha with rfl|rfl|rfl<;>rfl
  have hc:Q3 access≠0:=by
    simp only[Q3,Q7j,Tree.m]
    cases access==1<;>cases access==3<;>simp
  rcases hs with rfl|rfl
  . intro _;omega
  simp only[Q0w,Q8f,Tree.m,letv,kn]
  show(bif dF va 4 !=0 then((0:Int),(3:Int),m) else _).2.1=0->(bif dF va 4 !=0 then((0:Int),(3:Int),m) else _).1%4=0
  rw[eH hv.1]
  cases hz:va%4 !=0
  . have hz:va%4=0:=by simpa using hz
    have w:=xah m c.B4.a6 hv access
    cases hp:Qoh c
    . cases hw:Q2d m va 4
      . exact λe=>absurd e hc
      . exact λ_=>hz
    . cases hq:(Q5i m c.B4.a6 va access).E0 !=0
      . have hq:(Q5i m c.B4.a6 va access).E0=0:=by simpa using hq
        exact λ_=>(w hq).trans hz
      . have hq: ¬(Q5i m c.B4.a6 va access).E0=0:=by simpa using hq
        exact λe=>absurd e hq
  . intro e;cases e
def eff0:Q0v:={C4:=0,C8:=0,D7:=0,Value:=0}
def Q4w(c:Q02)(m:List Int)(i:Q0i):Q02×List Int×Q0v:=
 bif i.Op==32 then((Q5m c m i).1,(Q5m c m i).2,eff0) else bif i.Op==33 then((Q5m c m i).1,(Q5m c m i).2,eff0) else bif i.Op==34 then((Q5m c m i).1,(Q5m c m i).2,eff0)
 else bif i.Op==35 then((Q7h c m i).1,(Q7h c m i).2,eff0) else bif i.Op==36 then((Q7h c m i).1,(Q7h c m i).2,eff0) else((Qla c i).1,m,(Qla c i).2)
def regX(c:Q02)(r:Int):Int:=aK (A16.l c.X) r.toNat 0
def Qk6(c:Q02)(m:List Int)(i:Q0i):Q02×Q0v×List Int:=
 bif decide (i.Op>=56) then((Ql5 c i).1,(Ql5 c i).2,m) else bif decide (i.Op>=40) then(Z0p c i,eff0,m) else bif decide (i.Op>=32) then((Q4h c m i).1,eff0,(Q4h c m i).2)
 else bif i.Op==24 then({X:=(Q1m c i.A (ishl .u32 (wrap .u32 i.Imm) 16)).X,Pc:=wrap .u32 ((Q1m c i.A (ishl .u32 (wrap .u32 i.Imm) 16)).Pc+4),B4:=(Q1m c i.A (ishl .u32 (wrap .u32 i.Imm) 16)).B4},eff0,m)
 else bif decide (i.Op<=13) then
   ({X:=(Q1m c i.A (Qcb i.Op (regX c i.B) (regX c i.C)).1).X,Pc:=wrap .u32 ((Q1m c i.A (Qcb i.Op (regX c i.B) (regX c i.C)).1).Pc+4),B4:=(Q1m c i.A (Qcb i.Op (regX c i.B) (regX c i.C)).1).B4},eff0,m)
 else({X:=(Q1m c i.A (Qcb i.Op (regX c i.B) (wrap .u32 i.Imm)).1).X,Pc:=wrap .u32 ((Q1m c i.A (Qcb i.Op (regX c i.B) (wrap .u32 i.Imm)).1).Pc+4),B4:=(Q1m c i.A (Qcb i.Op (regX c i.B) (wrap .u32 i.Imm)).1).B4},eff0,m)
def isOp(op:Int):Prop:=op=1\/op=2\/op=3\/op=4\/op=5\/op=6\/op=7\/op=8\/op=9\/op=10\/op=11\/op=12\/op=13\/op=16\/op=17\/op=18\/op=19\/op=20\/op=21\/op=22\/op=23\/op=24\/op=32\/op=33\/op=34\/op=35\/op=36\/op=40\/op=41\/op=42\/op=43\/op=44\/op=45\/op=48\/op=49\/op=56\/op=57\/op=58\/op=59\/op=60\/op=61\/op=62\/op=63\/op=64
theorem zU(c:Q02)(r v:Int):(Q1m c r v).Pc=c.Pc/\(Q1m c r v).B4=c.B4:=by
 simp only[Q1m,Qdc,Tree.m]
 cases decide (r>0)
 . exact⟨rfl,rfl⟩
 . cases decide (r<16)<;>exact⟨rfl,rfl⟩
def adv(c:Q02):Q02:={X:=c.X,Pc:=wrap .u32 (c.Pc+4),B4:=c.B4}
def va(c:Q02)(B Imm:Int):Int:=wrap .u32 (aK (A16.l c.X) B.toNat 0+wrap .u32 Imm)
def ldP(c:Q02)(A v size:Int)(f:Int->Int)(y:Int×List Int×Int):Q02×List Int:=bif y.2.2 !=0 then(Q3z c y.2.2 v,y.2.1) else(adv (Q9r c A (f (Q47 y.2.1 y.1 size).1)),y.2.1)
def ldR(c:Q02)(A v size:Int)(f:Int->Int)(x:Int×Int×List Int):Q02×List Int:=bif x.2.1 !=0 then(Q2g c x.2.1 v,x.2.2) else(adv (Q1m c A (f (Q22 x.2.2 x.1 size).1)),x.2.2)
def stP(c:Q02)(A v size:Int)(y:Int×List Int×Int):Q02×List Int:=bif y.2.2 !=0 then(Q3z c y.2.2 v,y.2.1) else(adv c,(Q9 y.2.1 y.1 size (aK (A16.l c.X) A.toNat 0)).1)
def stR(c:Q02)(A v size:Int)(x:Int×Int×List Int):Q02×List Int:=bif x.2.1 !=0 then(Q2g c x.2.1 v,x.2.2) else(adv c,Q9j x.2.2 x.1 size (aK (A16.l c.X) A.toNat 0))
theorem ld_eq(c:Q02)(m:List Int)(A B C Imm:Int):
   (Q5m c m ⟨32,A,B,C,Imm⟩=ldP c A (va c B Imm) 4 (λv=>v) (Q1u c m (va c B Imm) 4 2)/\Q4h c m ⟨32,A,B,C,Imm⟩=ldR c A (va c B Imm) 4 (λv=>v) (Q0w c m (va c B Imm) 4 2))/\
   (Q5m c m ⟨33,A,B,C,Imm⟩=ldP c A (va c B Imm) 1 (λv=>Q26 v 8) (Q1u c m (va c B Imm) 1 2)/\Q4h c m ⟨33,A,B,C,Imm⟩=ldR c A (va c B Imm) 1 (λv=>Q2w v 8) (Q0w c m (va c B Imm) 1 2))/\
   (Q5m c m ⟨34,A,B,C,Imm⟩=ldP c A (va c B Imm) 1 (λv=>v) (Q1u c m (va c B Imm) 1 2)/\Q4h c m ⟨34,A,B,C,Imm⟩=ldR c A (va c B Imm) 1 (λv=>v) (Q0w c m (va c B Imm) 1 2))/\
   (Q7h c m ⟨35,A,B,C,Imm⟩=stP c A (va c B Imm) 4 (Q1u c m (va c B Imm) 4 3)/\Q4h c m ⟨35,A,B,C,Imm⟩=stR c A (va c B Imm) 4 (Q0w c m (va c B Imm) 4 3))/\
   (Q7h c m ⟨36,A,B,C,Imm⟩=stP c A (va c B Imm) 1 (Q1u c m (va c B Imm) 1 3)/\Q4h c m ⟨36,A,B,C,Imm⟩=stR c A (va c B Imm) 1 (Q0w c m (va c B Imm) 1 3)):=
 ⟨⟨by kernel_rfl,by kernel_rfl⟩,⟨by kernel_rfl,by kernel_rfl⟩,⟨by kernel_rfl,by kernel_rfl⟩,⟨by kernel_rfl,by kernel_rfl⟩,⟨by kernel_rfl,by kernel_rfl⟩⟩
theorem qai{P:Nat}{m:List Int}(h:Q0t P m)(a:Int):Q26 (Q22 m a 1).1 8=Q2w (Q22 m a 1).1 8:=by
 have: ∀x:Int×Bool,(∃w,U w/\x=(iand .u32 w 255,true))\/x=(0,false)->Q26 x.1 8=Q2w x.1 8:=λx hx=>by
   rcases hx with⟨w,hw,rfl⟩|rfl
   . have e:=m255 hw
     exact sx8 (by show 0<=iand .u32 w 255;omega) (by show iand .u32 w 255<256;omega)
   . rfl
 refine this _ ?_
 simp only[Q22,Q62,Tree.m,letv]
 cases Q2d m a 1
 . exact .inr rfl
 . exact .inl ⟨_,Qrd (Qka h.u _) _,rfl⟩
section
variable {P:Nat} {m:List Int} (h:Q0t P m) {c:Q02} (hc:Q27 c) (hst:c.B4.a0<=31)
include h hc hst
omit hst in
theorem Zif{v:Int}(hv:U v){size:Int}(hs:size=1\/size=4)(access:Int):Q0t P (Q0w c m v size access).2.2/\U (Q0w c m v size access).1/\((Q0w c m v size access).2.1=0->(Q0w c m v size access).1<128*P):=(Tree.pp (Zay h hc hv hs access)).2
theorem Zg1{A v:Int}(hA:0<=A/\A<16)(hv:U v){size:Int}(hs:size=1\/size=4){f g:Int->Int}(hf: ∀{m':List Int},Q0t P m'-> ∀a,f (Q22 m' a size).1=g (Q22 m' a size).1):ldP c A v size f (Q1u c m v size 2)=ldR c A v size g (Q0w c m v size 2):=by
 rw[Qmn h hc hst hv hs (.inr (.inl rfl))]
 obtain⟨k,u,_⟩:=Zif h hc hv hs 2
 generalize Q0w c m v size 2=x at*
 simp only[ldP,ldR,Qo1 k u hs,Qo0 hc.a0.1 hst,Qyv c hA,hf k]
theorem xj{A v:Int}(hv:U v){size:Int}(hs:size=1\/size=4):stP c A v size (Q1u c m v size 3)=stR c A v size (Q0w c m v size 3):=by
 rw[Qmn h hc hst hv hs (.inr (.inr rfl))]
 obtain⟨k,u,b⟩:=Zif h hc hv hs 3
 have al:=qI (c:=c) (m:=m) hv hs (access:=3) (.inr (.inr rfl))
 generalize Q0w c m v size 3=x at*
 simp only[stP,stR,Z6d k u hs,Qo0 hc.a0.1 hst,Qju k u hs]
 cases hq:x.2.1 !=0
 . have hq:x.2.1=0:=by simpa using hq
   rw[dY ⟨al hq,b hq⟩];rfl
 . rfl
end
theorem xI(c:Q02)(k v:Int):(Qg6 c k v).Pc=c.Pc:=by
 simp only[Qg6,Qbi,Tree.m]
 repeat'(first|rfl|refine Z36 (Q:=λx:Q02=>x.Pc=c.Pc) ?_ ?_)
def setP(c:Q02)(A v p:Int):Q02:={X:=(Q9r c A v).X,Pc:=p,B4:=(Q9r c A v).B4}
def setR(c:Q02)(A v p:Int):Q02:={X:=(Q1m c A v).X,Pc:=p,B4:=(Q1m c A v).B4}
def nxt(c:Q02):Int:=wrap .u32 (c.Pc+4)
theorem Zdj(c:Q02){A:Int}(hA:0<=A/\A<16)(v p:Int):setP c A v p=setR c A v p:=by
 unfold setP setR;rw[Qyv c hA]
theorem Zhv(c:Q02)(A v:Int):adv (Q1m c A v)=setR c A v (nxt c):=by
 unfold adv setR nxt;rw[(zU c A v).1]
theorem brc(t:Bool)(x y:Q02)(m:List Int):((bif t then(x,eff0) else(y,eff0)).1,m,(bif t then(x,eff0) else(y,eff0)).2)=((bif t then x else y),m,eff0):=by cases t<;>rfl
def isOpB(op:Int):Bool:=decide (op=1)||decide (op=2)||decide (op=3)||decide (op=4)||decide (op=5)||decide (op=6)||decide (op=7)||decide (op=8)||decide (op=9)||decide (op=10)||decide (op=11)||decide (op=12)||decide (op=13)||decide (op=16)||decide (op=17)||decide (op=18)||decide (op=19)||decide (op=20)||decide (op=21)||decide (op=22)||decide (op=23)||decide (op=24)||decide (op=32)||decide (op=33)||decide (op=34)||decide (op=35)||decide (op=36)||decide (op=40)||decide (op=41)||decide (op=42)||decide (op=43)||decide (op=44)||decide (op=45)||decide (op=48)||decide (op=49)||decide (op=56)||decide (op=57)||decide (op=58)||decide (op=59)||decide (op=60)||decide (op=61)||decide (op=62)||decide (op=63)||decide (op=64)
section
variable {P:Nat} {m:List Int} (h:Q0t P m) {c:Q02} (hc:Q27 c) (hst:c.B4.a0<=31) {A B C Imm:Int} (hA:0<=A/\A<16)
include h hc hst hA
theorem zj{op:Int}(hop:isOp op):Q4w c m ⟨op,A,B,C,Imm⟩=((Qk6 c m ⟨op,A,B,C,Imm⟩).1,(Qk6 c m ⟨op,A,B,C,Imm⟩).2.2,(Qk6 c m ⟨op,A,B,C,Imm⟩).2.1):=by
 have alu: ∀{k y:Int},1<=k->k<=23->U y->((setP c A (Q3v k (regX c B) y).1 (nxt c),m,eff0):Q02×List Int×Q0v)=(adv (Q1m c A (Qcb k (regX c B) y).1),m,eff0):=λh1 h2 hy=>by
   rw[vH h1 h2 (show U (regX c B) from hc.r _) hy,Zhv,Zdj c hA]
 have uC:U (regX c C):=hc.r _
 have uI:U (wrap .u32 Imm):=Q0l _
 obtain⟨⟨l1,l2⟩,⟨l3,l4⟩,⟨l5,l6⟩,⟨l7,l8⟩,⟨l9,l10⟩⟩:=ld_eq c m A B C Imm
 have hva:U (va c B Imm):=Q0l _
 rcases hop with rfl|rfl|rfl|rfl|rfl|rfl|rfl|rfl|rfl|rfl|rfl|rfl|rfl|rfl|rfl|rfl|rfl|rfl|rfl|rfl|rfl|rfl|rfl|rfl|rfl|rfl|rfl|rfl|rfl|rfl|rfl|rfl|rfl|rfl|rfl|rfl|rfl|rfl|rfl|rfl|rfl|rfl|rfl|rfl
 . exact(show Q4w c m ⟨1,A,B,C,Imm⟩=(setP c A (Q3v 1 (regX c B) (regX c C)).1 (nxt c),m,eff0) by kernel_rfl).trans ((alu (by decide) (by decide) uC).trans (by kernel_rfl))
 . exact(show Q4w c m ⟨2,A,B,C,Imm⟩=(setP c A (Q3v 2 (regX c B) (regX c C)).1 (nxt c),m,eff0) by kernel_rfl).trans ((alu (by decide) (by decide) uC).trans (by kernel_rfl))
 . exact(show Q4w c m ⟨3,A,B,C,Imm⟩=(setP c A (Q3v 3 (regX c B) (regX c C)).1 (nxt c),m,eff0) by kernel_rfl).trans ((alu (by decide) (by decide) uC).trans (by kernel_rfl))
 . exact(show Q4w c m ⟨4,A,B,C,Imm⟩=(setP c A (Q3v 4 (regX c B) (regX c C)).1 (nxt c),m,eff0) by kernel_rfl).trans ((alu (by decide) (by decide) uC).trans (by kernel_rfl))
 . exact(show Q4w c m ⟨5,A,B,C,Imm⟩=(setP c A (Q3v 5 (regX c B) (regX c C)).1 (nxt c),m,eff0) by kernel_rfl).trans ((alu (by decide) (by decide) uC).trans (by kernel_rfl))
 . exact(show Q4w c m ⟨6,A,B,C,Imm⟩=(setP c A (Q3v 6 (regX c B) (regX c C)).1 (nxt c),m,eff0) by kernel_rfl).trans ((alu (by decide) (by decide) uC).trans (by kernel_rfl))
 . exact(show Q4w c m ⟨7,A,B,C,Imm⟩=(setP c A (Q3v 7 (regX c B) (regX c C)).1 (nxt c),m,eff0) by kernel_rfl).trans ((alu (by decide) (by decide) uC).trans (by kernel_rfl))
 . exact(show Q4w c m ⟨8,A,B,C,Imm⟩=(setP c A (Q3v 8 (regX c B) (regX c C)).1 (nxt c),m,eff0) by kernel_rfl).trans ((alu (by decide) (by decide) uC).trans (by kernel_rfl))
 . exact(show Q4w c m ⟨9,A,B,C,Imm⟩=(setP c A (Q3v 9 (regX c B) (regX c C)).1 (nxt c),m,eff0) by kernel_rfl).trans ((alu (by decide) (by decide) uC).trans (by kernel_rfl))
 . exact(show Q4w c m ⟨10,A,B,C,Imm⟩=(setP c A (Q3v 10 (regX c B) (regX c C)).1 (nxt c),m,eff0) by kernel_rfl).trans ((alu (by decide) (by decide) uC).trans (by kernel_rfl))
 . exact(show Q4w c m ⟨11,A,B,C,Imm⟩=(setP c A (Q3v 11 (regX c B) (regX c C)).1 (nxt c),m,eff0) by kernel_rfl).trans ((alu (by decide) (by decide) uC).trans (by kernel_rfl))
 . exact(show Q4w c m ⟨12,A,B,C,Imm⟩=(setP c A (Q3v 12 (regX c B) (regX c C)).1 (nxt c),m,eff0) by kernel_rfl).trans ((alu (by decide) (by decide) uC).trans (by kernel_rfl))
 . exact(show Q4w c m ⟨13,A,B,C,Imm⟩=(setP c A (Q3v 13 (regX c B) (regX c C)).1 (nxt c),m,eff0) by kernel_rfl).trans ((alu (by decide) (by decide) uC).trans (by kernel_rfl))
 . exact(show Q4w c m ⟨16,A,B,C,Imm⟩=(setP c A (Q3v 16 (regX c B) (wrap .u32 Imm)).1 (nxt c),m,eff0) by kernel_rfl).trans ((alu (by decide) (by decide) uI).trans (by kernel_rfl))
 . exact(show Q4w c m ⟨17,A,B,C,Imm⟩=(setP c A (Q3v 17 (regX c B) (wrap .u32 Imm)).1 (nxt c),m,eff0) by kernel_rfl).trans ((alu (by decide) (by decide) uI).trans (by kernel_rfl))
 . exact(show Q4w c m ⟨18,A,B,C,Imm⟩=(setP c A (Q3v 18 (regX c B) (wrap .u32 Imm)).1 (nxt c),m,eff0) by kernel_rfl).trans ((alu (by decide) (by decide) uI).trans (by kernel_rfl))
 . exact(show Q4w c m ⟨19,A,B,C,Imm⟩=(setP c A (Q3v 19 (regX c B) (wrap .u32 Imm)).1 (nxt c),m,eff0) by kernel_rfl).trans ((alu (by decide) (by decide) uI).trans (by kernel_rfl))
 . exact(show Q4w c m ⟨20,A,B,C,Imm⟩=(setP c A (Q3v 20 (regX c B) (wrap .u32 Imm)).1 (nxt c),m,eff0) by kernel_rfl).trans ((alu (by decide) (by decide) uI).trans (by kernel_rfl))
 . exact(show Q4w c m ⟨21,A,B,C,Imm⟩=(setP c A (Q3v 21 (regX c B) (wrap .u32 Imm)).1 (nxt c),m,eff0) by kernel_rfl).trans ((alu (by decide) (by decide) uI).trans (by kernel_rfl))
 . exact(show Q4w c m ⟨22,A,B,C,Imm⟩=(setP c A (Q3v 22 (regX c B) (wrap .u32 Imm)).1 (nxt c),m,eff0) by kernel_rfl).trans ((alu (by decide) (by decide) uI).trans (by kernel_rfl))
 . exact(show Q4w c m ⟨23,A,B,C,Imm⟩=(setP c A (Q3v 23 (regX c B) (wrap .u32 Imm)).1 (nxt c),m,eff0) by kernel_rfl).trans ((alu (by decide) (by decide) uI).trans (by kernel_rfl))
 . refine(show Q4w c m ⟨24,A,B,C,Imm⟩=(setP c A (ishl .u32 (wrap .u32 Imm) 16) (nxt c),m,eff0) by kernel_rfl).trans ?_
   rw[Zdj c hA,<-Zhv];kernel_rfl
 . have e:=Zg1 h hc hst hA hva (.inr rfl) (f:=λv=>v) (g:=λv=>v) (λ_ _=>rfl)
   rw[<-l1,<-l2]at e
   refine(show Q4w c m ⟨32,A,B,C,Imm⟩=((Q5m c m ⟨32,A,B,C,Imm⟩).1,(Q5m c m ⟨32,A,B,C,Imm⟩).2,eff0) by kernel_rfl).trans ?_
   rw[e];kernel_rfl
 . have e:=Zg1 h hc hst hA hva (.inl rfl) (f:=λv=>Q26 v 8) (g:=λv=>Q2w v 8) (λhm a=>qai hm a)
   rw[<-l3,<-l4]at e
   refine(show Q4w c m ⟨33,A,B,C,Imm⟩=((Q5m c m ⟨33,A,B,C,Imm⟩).1,(Q5m c m ⟨33,A,B,C,Imm⟩).2,eff0) by kernel_rfl).trans ?_
   rw[e];kernel_rfl
 . have e:=Zg1 h hc hst hA hva (.inl rfl) (f:=λv=>v) (g:=λv=>v) (λ_ _=>rfl)
   rw[<-l5,<-l6]at e
   refine(show Q4w c m ⟨34,A,B,C,Imm⟩=((Q5m c m ⟨34,A,B,C,Imm⟩).1,(Q5m c m ⟨34,A,B,C,Imm⟩).2,eff0) by kernel_rfl).trans ?_
   rw[e];kernel_rfl
 . have e:=xj h hc hst (A:=A) hva (.inr rfl)
   rw[<-l7,<-l8]at e
   refine(show Q4w c m ⟨35,A,B,C,Imm⟩=((Q7h c m ⟨35,A,B,C,Imm⟩).1,(Q7h c m ⟨35,A,B,C,Imm⟩).2,eff0) by kernel_rfl).trans ?_
   rw[e];kernel_rfl
 . have e:=xj h hc hst (A:=A) hva (.inl rfl)
   rw[<-l9,<-l10]at e
   refine(show Q4w c m ⟨36,A,B,C,Imm⟩=((Q7h c m ⟨36,A,B,C,Imm⟩).1,(Q7h c m ⟨36,A,B,C,Imm⟩).2,eff0) by kernel_rfl).trans ?_
   rw[e];kernel_rfl
 . exact(show Q4w c m ⟨40,A,B,C,Imm⟩=((bif(Q2 40 (regX c A) (regX c B)) then((⟨c.X,wrap .u32 (c.Pc+wrap .u32 (4*wrap .u32 Imm)),c.B4⟩:Q02),eff0) else(⟨c.X,nxt c,c.B4⟩,eff0)).1,m,(bif(Q2 40 (regX c A) (regX c B)) then((⟨c.X,wrap .u32 (c.Pc+wrap .u32 (4*wrap .u32 Imm)),c.B4⟩:Q02),eff0) else(⟨c.X,nxt c,c.B4⟩,eff0)).2) by kernel_rfl).trans ((brc (Q2 40 (regX c A) (regX c B)) ⟨c.X,wrap .u32 (c.Pc+wrap .u32 (4*wrap .u32 Imm)),c.B4⟩ ⟨c.X,nxt c,c.B4⟩ m).trans (by kernel_rfl))
 . exact(show Q4w c m ⟨41,A,B,C,Imm⟩=((bif(Q2 41 (regX c A) (regX c B)) then((⟨c.X,wrap .u32 (c.Pc+wrap .u32 (4*wrap .u32 Imm)),c.B4⟩:Q02),eff0) else(⟨c.X,nxt c,c.B4⟩,eff0)).1,m,(bif(Q2 41 (regX c A) (regX c B)) then((⟨c.X,wrap .u32 (c.Pc+wrap .u32 (4*wrap .u32 Imm)),c.B4⟩:Q02),eff0) else(⟨c.X,nxt c,c.B4⟩,eff0)).2) by kernel_rfl).trans ((brc (Q2 41 (regX c A) (regX c B)) ⟨c.X,wrap .u32 (c.Pc+wrap .u32 (4*wrap .u32 Imm)),c.B4⟩ ⟨c.X,nxt c,c.B4⟩ m).trans (by kernel_rfl))
 . exact(show Q4w c m ⟨42,A,B,C,Imm⟩=((bif(Q2 42 (regX c A) (regX c B)) then((⟨c.X,wrap .u32 (c.Pc+wrap .u32 (4*wrap .u32 Imm)),c.B4⟩:Q02),eff0) else(⟨c.X,nxt c,c.B4⟩,eff0)).1,m,(bif(Q2 42 (regX c A) (regX c B)) then((⟨c.X,wrap .u32 (c.Pc+wrap .u32 (4*wrap .u32 Imm)),c.B4⟩:Q02),eff0) else(⟨c.X,nxt c,c.B4⟩,eff0)).2) by kernel_rfl).trans ((brc (Q2 42 (regX c A) (regX c B)) ⟨c.X,wrap .u32 (c.Pc+wrap .u32 (4*wrap .u32 Imm)),c.B4⟩ ⟨c.X,nxt c,c.B4⟩ m).trans (by kernel_rfl))
 . exact(show Q4w c m ⟨43,A,B,C,Imm⟩=((bif(Q2 43 (regX c A) (regX c B)) then((⟨c.X,wrap .u32 (c.Pc+wrap .u32 (4*wrap .u32 Imm)),c.B4⟩:Q02),eff0) else(⟨c.X,nxt c,c.B4⟩,eff0)).1,m,(bif(Q2 43 (regX c A) (regX c B)) then((⟨c.X,wrap .u32 (c.Pc+wrap .u32 (4*wrap .u32 Imm)),c.B4⟩:Q02),eff0) else(⟨c.X,nxt c,c.B4⟩,eff0)).2) by kernel_rfl).trans ((brc (Q2 43 (regX c A) (regX c B)) ⟨c.X,wrap .u32 (c.Pc+wrap .u32 (4*wrap .u32 Imm)),c.B4⟩ ⟨c.X,nxt c,c.B4⟩ m).trans (by kernel_rfl))
 . exact(show Q4w c m ⟨44,A,B,C,Imm⟩=((bif(Q2 44 (regX c A) (regX c B)) then((⟨c.X,wrap .u32 (c.Pc+wrap .u32 (4*wrap .u32 Imm)),c.B4⟩:Q02),eff0) else(⟨c.X,nxt c,c.B4⟩,eff0)).1,m,(bif(Q2 44 (regX c A) (regX c B)) then((⟨c.X,wrap .u32 (c.Pc+wrap .u32 (4*wrap .u32 Imm)),c.B4⟩:Q02),eff0) else(⟨c.X,nxt c,c.B4⟩,eff0)).2) by kernel_rfl).trans ((brc (Q2 44 (regX c A) (regX c B)) ⟨c.X,wrap .u32 (c.Pc+wrap .u32 (4*wrap .u32 Imm)),c.B4⟩ ⟨c.X,nxt c,c.B4⟩ m).trans (by kernel_rfl))
 . exact(show Q4w c m ⟨45,A,B,C,Imm⟩=((bif(Q2 45 (regX c A) (regX c B)) then((⟨c.X,wrap .u32 (c.Pc+wrap .u32 (4*wrap .u32 Imm)),c.B4⟩:Q02),eff0) else(⟨c.X,nxt c,c.B4⟩,eff0)).1,m,(bif(Q2 45 (regX c A) (regX c B)) then((⟨c.X,wrap .u32 (c.Pc+wrap .u32 (4*wrap .u32 Imm)),c.B4⟩:Q02),eff0) else(⟨c.X,nxt c,c.B4⟩,eff0)).2) by kernel_rfl).trans ((brc (Q2 45 (regX c A) (regX c B)) ⟨c.X,wrap .u32 (c.Pc+wrap .u32 (4*wrap .u32 Imm)),c.B4⟩ ⟨c.X,nxt c,c.B4⟩ m).trans (by kernel_rfl))
 . refine(show Q4w c m ⟨48,A,B,C,Imm⟩=(setP c A (nxt c) (wrap .u32 ((Q9r c A (nxt c)).Pc+wrap .u32 (4*wrap .u32 Imm))),m,eff0) by kernel_rfl).trans ?_
   rw[Zdj c hA,Qyv c hA,(zU c A (nxt c)).1];kernel_rfl
 . refine(show Q4w c m ⟨49,A,B,C,Imm⟩=(setP c A (nxt c) (va c B Imm),m,eff0) by kernel_rfl).trans ?_
   rw[Zdj c hA];kernel_rfl
 . refine(show Q4w c m ⟨56,A,B,C,Imm⟩=(Q3z c 7 0,m,eff0) by kernel_rfl).trans ?_
   rw[Qo0 hc.a0.1 hst];kernel_rfl
 . refine(show Q4w c m ⟨57,A,B,C,Imm⟩=(Qd3 c,m,eff0) by kernel_rfl).trans ?_
   rw[Zfx hc.a0.1 hst];kernel_rfl
 . refine(show Q4w c m ⟨58,A,B,C,Imm⟩=(setP c A (aK (A8.l c.B4) Imm.toNat 0) (nxt c),m,eff0) by kernel_rfl).trans ?_
   rw[Zdj c hA,<-Zhv];kernel_rfl
 . have e:=xI c (wrap .i64 Imm) (regX c A)
   refine(show Q4w c m ⟨59,A,B,C,Imm⟩=((⟨(Qg6 c (wrap .i64 Imm) (regX c A)).X,wrap .u32 (c.Pc+4),(Qg6 c (wrap .i64 Imm) (regX c A)).B4⟩:Q02),m,eff0) by kernel_rfl).trans ?_
   rw[<-e];kernel_rfl
 . exact(show Q4w c m ⟨60,A,B,C,Imm⟩=((Qk6 c m ⟨60,A,B,C,Imm⟩).1,(Qk6 c m ⟨60,A,B,C,Imm⟩).2.2,(Qk6 c m ⟨60,A,B,C,Imm⟩).2.1) by kernel_rfl)
 . exact(show Q4w c m ⟨61,A,B,C,Imm⟩=((Qk6 c m ⟨61,A,B,C,Imm⟩).1,(Qk6 c m ⟨61,A,B,C,Imm⟩).2.2,(Qk6 c m ⟨61,A,B,C,Imm⟩).2.1) by kernel_rfl)
 . exact(show Q4w c m ⟨62,A,B,C,Imm⟩=((Qk6 c m ⟨62,A,B,C,Imm⟩).1,(Qk6 c m ⟨62,A,B,C,Imm⟩).2.2,(Qk6 c m ⟨62,A,B,C,Imm⟩).2.1) by kernel_rfl)
 . exact(show Q4w c m ⟨63,A,B,C,Imm⟩=((Qk6 c m ⟨63,A,B,C,Imm⟩).1,(Qk6 c m ⟨63,A,B,C,Imm⟩).2.2,(Qk6 c m ⟨63,A,B,C,Imm⟩).2.1) by kernel_rfl)
 . exact(show Q4w c m ⟨64,A,B,C,Imm⟩=((Qk6 c m ⟨64,A,B,C,Imm⟩).1,(Qk6 c m ⟨64,A,B,C,Imm⟩).2.2,(Qk6 c m ⟨64,A,B,C,Imm⟩).2.1) by kernel_rfl)
end
theorem zai{op:Int}(h0:0<=op)(h1:op<256)(h:Q23 op≠0):isOp op:=by
 have e:=oY (Qsz (λop=>decide (Q23 op=0\/isOpB op=true)) 256 (by kernel_rfl) h0 h1)
 rcases e with e|e
 . exact absurd e h
 . simpa only[isOpB,isOp,aI,decide_eq_true_eq,or_assoc] using e
theorem yj{op:Int}(o:isOp op):1<=op/\op<=64:=by
 unfold isOp at o
 rcases o with h|h|h|h|h|h|h|h|h|h|h|h|h|h|h|h|h|h|h|h|h|h|h|h|h|h|h|h|h|h|h|h|h|h|h|h|h|h|h|h|h|h|h|h<;>(rw[h];decide)
theorem vj{w:Int}(hw:U w):(Q3f w).2=true->isOp (Q3f w).1.Op:=by
  have s24:ishr .u32 w 24=w/16777216:=by have:=Qq2 (a:=w) 24 (by decide);simpa using this
  obtain⟨w0,w1⟩:=hw
  have eo:wrap .i64 (w/16777216)=w/16777216:=w64 (by omega) (by omega)
  have q:(λr:Q0i×Bool=>r.2=true->isOp r.1.Op) (Q3f w):=by
    simp only[Q3f,Q92,Tree.m,letv,s24,eo]
    cases hf:Q23 (w/16777216)==0
    . have g:isOp (w/16777216):=zai (by omega) (by omega) (by simpa using hf)
      repeat'(first
        |exact λ_=>g
        |exact λe=>fE (show false=true from e)
        |refine Z36 (Q:=λr:Q0i×Bool=>r.2=true->isOp r.1.Op) ?_ ?_)
    . exact λe=>fE (show false=true from e)
  exact q
section
variable (c:Q02) (m:List Int)
def doR(x:Int×Int×List Int)(w:Int)(d:Q0i×Bool):Q02×Q0v×List Int:=
 bif x.2.1 !=0 then(Q2g c x.2.1 c.Pc,eff0,x.2.2) else bif !d.2 then(Q2g c 1 w,eff0,x.2.2) else bif Q4z d.1.Op then(bif iand .u32 c.B4.a0 1==0 then(Q2g c 2 w,eff0,x.2.2) else Qk6 c x.2.2 d.1) else Qk6 c x.2.2 d.1
def doP(y:Int×List Int×Int)(d:Q0i×Bool):Q02×List Int×Q0v:=
 bif y.2.2 !=0 then(Q3z c y.2.2 c.Pc,y.2.1,eff0) else bif !d.2 then(Q3z c 1 y.1,y.2.1,eff0) else bif Q7l d.1.Op then(bif !Qb5 c then(Q3z c 2 y.1,y.2.1,eff0) else Q4w c y.2.1 d.1) else Q4w c y.2.1 d.1
theorem do_eq:Q6l c m=doR c (Q0w c m c.Pc 4 1) (Q22 (Q0w c m c.Pc 4 1).2.2 (Q0w c m c.Pc 4 1).1 4).1 (Q3f (Q22 (Q0w c m c.Pc 4 1).2.2 (Q0w c m c.Pc 4 1).1 4).1):=by kernel_rfl
theorem xai:Q9h c m=doP c (Qmm c m) (Qg7 (Qmm c m).1):=by kernel_rfl
theorem zI:Qmm c m=bif(Q1u c m c.Pc 4 1).2.2 !=0 then(0,(Q1u c m c.Pc 4 1).2.1,(Q1u c m c.Pc 4 1).2.2) else((Q47 (Q1u c m c.Pc 4 1).2.1 (Q1u c m c.Pc 4 1).1 4).1,(Q1u c m c.Pc 4 1).2.1,0):=by kernel_rfl
end
theorem qk{P:Nat}{m:List Int}(h:Q0t P m){c:Q02}(hc:Q27 c)(hst:c.B4.a0<=31):Q9h c m=((Q6l c m).1,(Q6l c m).2.2,(Q6l c m).2.1):=by
  obtain⟨k,u,b⟩:=Zif h hc hc.pc (.inr rfl) 1
  have tr: ∀k b,Q3z c k b=Q2g c k b:=Qo0 hc.a0.1 hst
  rw[xai,do_eq,zI,Qmn h hc hst hc.pc (.inr rfl) (.inl rfl)]
  generalize Q0w c m c.Pc 4 1=x at*
  cases hx:x.2.1 !=0
  . rw [Qo1 k u (.inr rfl)]
    have hw:U (Q22 x.2.2 x.1 4).1:=(Tree.pp (Zdt k u (.inr rfl))).2
    generalize(Q22 x.2.2 x.1 4).1=w at*
    show doP c (w,x.2.2,0) (Qg7 w)=_
    rw[zh hw]
    have o:=vj hw
    have i:=Tree.post _ (Ziw w)
    change(Q3f w).2=true->Qef (Q3f w).1 at i
    generalize Q3f w=d at*
    obtain⟨⟨op,A,B,C,Imm⟩,ok⟩:=d
    cases ok
    . simp only[doP,doR,hx,tr];rfl
    . have o:isOp op:=o rfl
      have i:=i rfl
      have p:=zj (C:=C) (B:=B) (Imm:=Imm) k hc hst i.a o
      have pv:Q7l op=Q4z op:=zaf (by have:=yj o;omega) (by have:=yj o;omega)
      have kn:(!Qb5 c)=(iand .u32 c.B4.a0 1==0):=by
        show(!(!(iand .u32 c.B4.a0 1==0)))=_
        exact Bool.not_not _
      simp only[doP,doR,hx,tr,pv,kn,p]
      cases Q4z op
      . rfl
      . cases iand .u32 c.B4.a0 1==0<;>rfl
  . simp only[doP,doR,hx,cond_true,tr]
theorem xk{a b:Int}:decide (a>=b)=!decide (a<b):=by
 by_cases h:a<b
 . rw[dY h,dN (by omega)];rfl
 . rw[dN h,dY (by omega)];rfl
def bits(g:Int)(l:List Nat)(s:Int):Int:=l.foldl (λ(a:Int) (i:Nat)=>wrap .i64 (a+wrap .i64 (iand .u32 (ishr .u32 g (i:Int)) 1))) s
theorem yI(b:Q07):Qcz b=bits b.C2 [0,1,2,3,4,5,6,7,8,9,10,11,12,13,14,15,16,17,18,19,20,21,22,23,24,25,26,27,28,29,30,31] 0:=by kernel_rfl
theorem zaD{g:Int}(hg:U g){i:Nat}(hi:i<=32):wrap .i64 (iand .u32 (ishr .u32 g (i:Int)) 1)=g/2^i%2:=by
 rw[and1 (Qrd hg _),Qq2 i hi]
 have:0<=g/2^i%2/\g/2^i%2<2:=by omega
 exact w64 (by omega) (by omega)
theorem vI{g:Int}(hg:U g)(l:List Nat): ∀s:Int,(∀i∈l,i<=32)->0<=s->s+l.length<=1000->bits g l s=s+(l.map λi=>g/2^i%2).sum:=by
 induction l with
 |nil=>intro s _ _ _;simp [bits]
 | cons i l ih=>
   intro s hl h0 h1
   have h1:s+(l.length+1)<=1000:=by simpa using h1
   have hb:0<=g/2^i%2/\g/2^i%2<2:=by omega
   have e:bits g (i::l) s=bits g l (s+g/2^i%2):=by
     show bits g l (wrap .i64 (s+wrap .i64 (iand .u32 (ishr .u32 g (i:Int)) 1)))=_
     rw[zaD hg (hl i (by simp)),w64 (by omega) (by omega)]
   rw[e,ih _ (λj hj=>hl j (by simp [hj])) (by omega) (by omega)]
   simp;omega
theorem Zmk(n:Q0m)(port:Int):Z13 n port=Qg8 n port:=by
 simp only[Z13,Qt3,Qg8,Qem,Tree.m]
 cases n.C5<;>cases n.B6<;>rfl
theorem Z4i(t:Q0h):Q3q t=Qbv t:=by
 simp only[Q3q,Ql1,Qbv,Qhc,Tree.m]
 cases t.D2<;>cases t.D1<;>rfl
theorem Zc3(n:Q0m)(p:Int):Q5a n p=Qi2 n p:=by
 simp only[Q5a,Qjp,Qi2,Qlj,Tree.m]
 cases n.C5<;>cases n.B6<;>rfl
theorem Z7z(d:Q0d)(p:Int):Q15 d p=Qe d p:=by
  simp only[Q15,Q3y,Q6c,Q3c,Qe,Qj1,Tree.m,letv,xk]
  cases decide (d.Blocks>64)
  . by_cases s:d.B7=0\/d.B7=1\/d.B7=2\/d.B7=3
    . rcases s with s|s|s|s<;>rw[s]
      . rfl
      . by_cases c1:d.D4=1
        . rw[c1];cases decide (d.B5<d.Blocks)<;>cases decide (wrap .i64 d.B2<p)<;>cases decide (d.B8=[])<;>rfl
        . by_cases c2:d.D4=2
          . rw[c2];cases decide (d.B5<d.Blocks)<;>cases decide (wrap .i64 d.B2<p)<;>cases(d.B8.length:Int)==128<;>rfl
          . rw[show(d.D4==1)=false by simpa using c1,show(d.D4==2)=false by simpa using c2]
            cases decide (d.B5<d.Blocks)<;>cases decide (wrap .i64 d.B2<p)<;>rfl
      . rfl
      . rfl
    . rw[show(d.B7==0)=false by simp;omega,show(d.B7==1)=false by simp;omega,show(d.B7==2)=false by simp;omega,show(d.B7==3)=false by simp;omega]
      by_cases n:d.B7<0
      . rw[dY n];rfl
      . rw[dN n,dY (show d.B7>3 by omega)];rfl
  . rfl
theorem qJ(c:Q0c):Q84 c=Q4v c:=by
 show(!decide (c.D0=[]))=decide ((c.D0.length:Int)>0)
 cases c.D0 with
 |nil=>rfl
 |cons a l=>rw[dN (by simp),dY (by simp)];rfl
theorem qaj(k:List UInt8):decide (k=[])=((k.length:Int)==0):=by
 cases k with
 |nil=>rfl
 | cons a l=>
   rw[dN (by simp)]
   exact(beq_eq_false_iff_ne.2 (by simp;omega)).symm
theorem Znc(c:Q0c)(port:Int):Qox c port=Q4m c port:=by
 simp only[Qox,Q8q,Q4m,Q2z,Tree.m,qaj]
 cases port==0
 . rfl
 . cases(c.D0.length:Int)==0<;>rfl
theorem xJ(t:Q0h)(v:Int):Qjg t v=Qod v:=by
 simp only[Qjg,Qlh,Qod,Qjs,Tree.m]
 cases h:v==0
 . rw[show(v !=0)=true by simp only[bne,h];rfl];rfl
 . rw[show(v !=0)=false by simp only[bne,h];rfl,eq_of_beq h];rfl
section
variable {P:Nat} {m:List Int} (h:Q0t P m)
include h
theorem Z6t(f:Int):Q8y m f=Q1v m f:=by
 have a:=Q33 h
 have b:=Qdv h
 simp only[Q8y,Qco,Q1v,Qhh,Tree.m,letv,a,b]
theorem Z66(f:Int):Q93 m f=Q1v m f:=by
 have a:=Q33 h
 have b:=Qdv h
 simp only[Q93,Qdz,Q1v,Qhh,Tree.m,letv,a,b]
theorem Zek(d:Q0d)(port v at0:Int):Qz0 d m port v at0=Qba d m port v at0:=by
  have pg:=Z6t h
  have pa:=Zbl h
  have rq: ∀d a,Qis d a=Qih d a:=λ_ _=>rfl
  simp only[Qz0,Qg9,Qvf,Qbj,Qba,Q4i,Tree.m,letv,pg,pa,rq]
  cases port==4
  . cases port==5
    . cases h6:port==6
      . rw[show(port !=6)=true by simp only[bne,h6];rfl];rfl
      . rw [show(port !=6)=false by simp only[bne,h6];rfl]
        by_cases v1:v=1
        . subst v1
          cases hs:d.B7==0
          . rw[show(d.B7 !=0)=true by simp only[bne,hs];rfl];rfl
          . rw[show(d.B7 !=0)=false by simp only[bne,hs];rfl];rfl
        . by_cases v2:v=2
          . subst v2
            cases hs:d.B7==0
            . rw[show(d.B7 !=0)=true by simp only[bne,hs];rfl];rfl
            . rw[show(d.B7 !=0)=false by simp only[bne,hs];rfl];rfl
          . rw[show(v==1)=false by simpa using v1,show(v==2)=false by simpa using v2]
            cases v==0
            . rfl
            . have:Q8s d=(bif d.B7==2 then true else d.B7==3):=rfl
              rw[this]
              cases d.B7==2<;>cases d.B7==3<;>rfl
    . rfl
  . rfl
theorem Zi1(n:Q0m)(port v at0:Int):Zai n m port v at0=Qi6 n m port v at0:=by
  have pg:=Z66 h
  have pa:=Zbl h
  simp only[Zai,Qkd,Z9e,Qg2,Qi6,Q9k,Tree.m,letv,pg,pa]
  have g1:decide (n.D8>=1)=!decide (n.D8<1):=xk
  have g2:decide (n.D8<=128)=!decide (n.D8>128):=by
    by_cases h:n.D8>128
    . rw[dY h,dN (by omega)];rfl
    . rw[dN h,dY (by omega)];rfl
  rw[g1,g2]
  cases port==7
  . cases port==8
    . cases h9:port==9
      . rw[show(port !=9)=true by simp only[bne,h9];rfl];rfl
      . rw [show(port !=9)=false by simp only[bne,h9];rfl]
        by_cases v1:v=1
        . subst v1
          cases decide (n.D8<1)<;>cases decide (n.D8>128)<;>cases Q1v m n.Frame<;>rfl
        . by_cases v2:v=2
          . subst v2;rfl
          . rw[show(v==1)=false by simpa using v1,show(v==2)=false by simpa using v2]
            cases v==0<;>rfl
    . rfl
  . rfl
theorem Z9r{d:Q0d}(hd:Q7i d)(e:Q0e):Ql9 d m e=((Q8n d m e).1,(Q8n d m e).2.2,(Q8n d m e).2.1):=by
  have hcl:Q03 m=m:=rfl
  have pg:=Z6t h d.B2
  have lp:decide ((e.C9.length:Int)>0)=!decide (e.C9=[]):=by
    cases e.C9 with
    |nil=>rfl
    |cons a l=>rw[dY (by simp),dN (by simp)];rfl
  have bad:(e.C9.length:Int)≠128->Q1v m d.B2=true->Q2f m (wrap .i64 d.B2) e.C9=(m,false):=λhl hp=>by
    rw[Ql0 h hd.opFrame]at hp
    have hp:=oY hp
    have h1:=hd.opFrame.1
    have h3:=h.p2
    have ew:i64.wrap d.B2=d.B2:=w64 (by omega) (by omega)
    simp only[Q2f,Q31,Tree.m,letv,hcl,ew,Z7k h,dY (⟨h1,hp⟩:0<=d.B2/\d.B2<P),show((e.C9.length:Int) !=128)=true by simpa using hl]
    rfl
  have good:(e.C9.length:Int)=128->Q1v m d.B2=true->Q2f m (wrap .i64 d.B2) e.C9=(Qjw m (wrap .i64 d.B2) e.C9,true):=λhl hp=>by
    rw[Ql0 h hd.opFrame]at hp
    have hp:=oY hp
    have h1:=hd.opFrame.1
    have h3:=h.p2
    have ew:i64.wrap d.B2=d.B2:=w64 (by omega) (by omega)
    rw[ew];exact Zf0 h h1 hp (by omega)
  simp only[Ql9,Q89,Q8n,Q5z,Tree.m,letv,hcl,pg,lp]
  cases d.B7 !=1
  . cases e.C4 !=4
    . cases decide (e.N>1)
      . cases e.N==1
        . cases decide (e.C9=[])<;>rfl
        . cases hc:d.D4==1
          . cases decide (e.C9=[])<;>rfl
          . by_cases hl:(e.C9.length:Int)=128
            . rw[show((e.C9.length:Int) !=128)=false by simpa using hl]
              cases hp:Q1v m d.B2
              . rfl
              . rw[good hl hp];rfl
            . rw[show((e.C9.length:Int) !=128)=true by simpa using hl]
              cases hp:Q1v m d.B2
              . rfl
              . rw[bad hl hp];rfl
      . rfl
    . rfl
  . rfl
theorem Zbe{n:Q0m}(hn:Qhl n)(frame:List UInt8):Qqt n m frame=((Qay n m frame).1,(Qay n m frame).2.2,(Qay n m frame).2.1):=by
  have hcl:Q03 m=m:=rfl
  have pg:=Z66 h n.C0
  simp only[Qqt,Qbs,Qay,Q96,Tree.m,letv,hcl,pg]
  cases !n.C5
  . cases decide ((frame.length:Int)<1)
    . cases hf:decide ((frame.length:Int)>128)
      . cases hp:Q1v m n.C0
        . rfl
        . rw[Ql0 h hn.buffer]at hp
          have hp:=oY hp
          have h1:=hn.buffer.1
          have h3:=h.p2
          have ew:i64.wrap n.C0=n.C0:=w64 (by omega) (by omega)
          have hf:=oN hf
          obtain⟨b1,b2⟩:=(Tree.pp (xi h h1 hp)).2
          change isPg m n.C0 (Q54 m n.C0).1 at b1
          have tk:dC (dG ((Q54 m n.C0).1.length:Int)-dG (frame.length:Int)) (dD (dG (frame.length:Int)) (Q54 m n.C0).1)=(Q54 m n.C0).1.drop frame.length:=by
            rw[eF,eF]
            exact List.take_of_length_le (by simp)
          rw[ew,tk,Zd7 h h1 hp (by omega) b1]
          rfl
      . rfl
    . rfl
  . rfl
end
def ptab:List UInt8:=(dE 256).map λn=>fB (n%2+n/2%2+n/4%2+n/8%2+n/16%2+n/32%2+n/64%2+n/128%2)
def pt(n:Int):Int:=((eZ (ptab.getD n.toNat 0):Nat):Int)
theorem zJ(x:Int):Q5s x=wrap .i64 (wrap .u8 (wrap .u8 (wrap .u8 (pt (ishr .u32 x 24)+pt (iand .u32 (ishr .u32 x 16) 255))+pt (iand .u32 (ishr .u32 x 8) 255))+pt (iand .u32 x 255))):=by kernel_rfl
theorem pt8{a:Int}(h0:0<=a)(h1:a<256):pt a=a%2+a/2%2+a/4%2+a/8%2+a/16%2+a/32%2+a/64%2+a/128%2:=
 eq_of_beq (Qsz (λa=>pt a==a%2+a/2%2+a/4%2+a/8%2+a/16%2+a/32%2+a/64%2+a/128%2) 256 (by kernel_rfl) h0 h1)
theorem zk{g:Int}(hg:U g):bits g [0,1,2,3,4,5,6,7,8,9,10,11,12,13,14,15,16,17,18,19,20,21,22,23,24,25,26,27,28,29,30,31] 0=pt (g%256)+pt (g/256%256)+pt (g/65536%256)+pt (g/16777216):=by
 rw[vI hg _ 0 (by decide) (by decide) (by decide),pt8 (by omega) (by omega),pt8 (by omega) (by omega),pt8 (by omega) (by omega),pt8 (by have:=hg.1;omega) (by have:=hg.2;omega)]
 obtain⟨g0,g1⟩:=hg
 simp only[List.map_cons,List.map_nil,List.sum_cons,List.sum_nil]
 have e: ∀i j:Nat,∀k:Int,i<8->k=2^j->g/2^(i+j)%2=(g/k%256)/2^i%2:=λi j k hi hk=>by
   subst hk
   rw[Nat.add_comm,dS,<-fF (dR (dP (by decide)))]
   generalize g/2^j=x
   have:i=0\/i=1\/i=2\/i=3\/i=4\/i=5\/i=6\/i=7:=by omega
   rcases this with rfl|rfl|rfl|rfl|rfl|rfl|rfl|rfl<;>simp<;>omega
 have e0: ∀i:Nat,i<8->g/2^i%2=(g%256)/2^i%2:=λi hi=>by have:=e i 0 1 hi rfl;simpa using this
 have e24:g/16777216%256=g/16777216:=by omega
 rw[e0 0 (by decide),e0 1 (by decide),e0 2 (by decide),e0 3 (by decide),e0 4 (by decide),e0 5 (by decide),e0 6 (by decide),e0 7 (by decide)]
 rw[e 0 8 256 (by decide) (by decide),e 1 8 256 (by decide) (by decide),e 2 8 256 (by decide) (by decide),e 3 8 256 (by decide) (by decide),e 4 8 256 (by decide) (by decide),e 5 8 256 (by decide) (by decide),e 6 8 256 (by decide) (by decide),e 7 8 256 (by decide) (by decide)]
 rw[e 0 16 65536 (by decide) (by decide),e 1 16 65536 (by decide) (by decide),e 2 16 65536 (by decide) (by decide),e 3 16 65536 (by decide) (by decide),e 4 16 65536 (by decide) (by decide),e 5 16 65536 (by decide) (by decide),e 6 16 65536 (by decide) (by decide),e 7 16 65536 (by decide) (by decide)]
 rw[e 0 24 16777216 (by decide) (by decide),e 1 24 16777216 (by decide) (by decide),e 2 24 16777216 (by decide) (by decide),e 3 24 16777216 (by decide) (by decide),e 4 24 16777216 (by decide) (by decide),e 5 24 16777216 (by decide) (by decide),e 6 24 16777216 (by decide) (by decide),e 7 24 16777216 (by decide) (by decide),e24]
 generalize g%256=a
 generalize g/256%256=b
 generalize g/65536%256=c
 generalize g/16777216=d
 simp only[show(2:Int)^0=1 from rfl,show(2:Int)^1=2 from rfl,show(2:Int)^2=4 from rfl,show(2:Int)^3=8 from rfl,show(2:Int)^4=16 from rfl,show(2:Int)^5=32 from rfl,show(2:Int)^6=64 from rfl,show(2:Int)^7=128 from rfl,Int.ediv_one]
 omega
theorem pt_le{a:Int}(h0:0<=a)(h1:a<256):0<=pt a/\pt a<=8:=by rw[pt8 h0 h1];omega
theorem Z6v{b:Q07}(hg:U b.C2):Qcr b=Qcz b/\0<=Qcz b/\Qcz b<=32:=by
 obtain⟨s8,s16,s24⟩:=shr_c b.C2
 have u8:U (ishr .u32 b.C2 8):=Qrd hg _
 have u16:U (ishr .u32 b.C2 16):=Qrd hg _
 have e:Qcr b=Q5s b.C2:=rfl
 rw[e,zJ,yI,zk hg,m255 u8,m255 u16,m255 hg,s8,s16,s24]
 obtain⟨g0,g1⟩:=hg
 have p0:=pt_le (a:=b.C2%256) (by omega) (by omega)
 have p1:=pt_le (a:=b.C2/256%256) (by omega) (by omega)
 have p2:=pt_le (a:=b.C2/65536%256) (by omega) (by omega)
 have p3:=pt_le (a:=b.C2/16777216) (by omega) (by omega)
 have w8: ∀x,wrap .u8 x=x%256:=λx=>wrap_u8 x
 rw[w8,w8,w8,wrap_i64]
 omega
theorem Zf2{b:Q07}(h:okB b):Q6q b=Q3b b:=by
 obtain⟨e,l0,l1⟩:=Z6v h.2
 obtain⟨t0,t1⟩:=h.1
 simp only[Q6q,Q4r,Q3b,Q8w,Tree.m,letv,e]
 rw[wrap_u32,wrap_u64,wrap_u64,dO l0 (by omega),dO l0 (by omega),dO t0 (by omega)]
theorem Zm0{b:Q07}(h:okB b)(port:Int):Qoq b port=Q4k b port:=by
 simp only[Qoq,Qb4,Q4k,Q5g,Tree.m,letv,(Z6v h.2).1]
theorem zaj(g:Int)(z:Nat):g%2^(z+1)=g%2^z+2^z*(g/2^z%2):=by
 have hp:(0:Int)<2^z:=dP (by decide)
 have h1:=fG g (2^z)
 have h2:=fG (g/2^z) 2
 have h3:(g/2^z)/2=g/2^(z+1):=by rw[fH,fF (dR hp)]
 have h4:=fG g (2^(z+1))
 rw[h3]at h2
 have h5:(2:Int)^(z+1)*(g/2^(z+1))=2^z*(2*(g/2^(z+1))):=by rw[fH,Int.mul_assoc]
 have h6:(2:Int)^z*(g/2^z)=2^z*(2*(g/2^(z+1)))+2^z*(g/2^z%2):=by rw[<-Int.mul_add,h2]
 omega
theorem xaD{b:Q07}(hg:U b.C2){P:Nat}(hP:P<=32):(Q4s b P).w (λr=>r=decide (b.C2<2^P)):=by
 unfold Q4s
 have fin: ∀v:Int,0<=v->v<=32->wrap .u64 v=(v.toNat:Int):=λv h0 h1=>by rw[wrap_u64];omega
 refine w_lp (inv:=λz:Int=>0<=z/\z<=32/\b.C2%2^z.toNat<2^P) (μ:=Q5v b P) ⟨by decide,by decide,by have:(0:Int)<2^P:=dP (by decide);simpa using this⟩ (cO _) λz ⟨z0,z1,z2⟩=> ?_
 refine w_br (λhb=> ?_) (λhb=> ?_)
 . have hb:=oY hb
   have ew:i64.wrap (z+1)=z+1:=w64 (by omega) (by omega)
   have bt:iand .u32 (ishr .u32 b.C2 (wrap .u64 z)) 1=b.C2/2^z.toNat%2:=by
     rw[fin z z0 z1,and1 (Qrd hg _),Qq2 _ (by omega)]
   have bp:=zaj b.C2 z.toNat
   have zt:(z+1).toNat=z.toNat+1:=by omega
   refine w_cn (dY (by rw[wrap_u64];omega)) ?_
   rw[bt]
   refine w_br (λe=>w_br (λhp=> ?_) (λhp=>w_nx ?_)) (λe=>w_nx ?_)
   . have e:=eq_of_beq e
     have hp:=oY hp
     show false=_
     refine(dN λhlt=> ?_).symm
     have hle:(2:Int)^P<=2^z.toNat:=by exact_mod_cast dU (show 0<2 by decide) (show P<=z.toNat by omega)
     have:b.C2/2^z.toNat=0:=Int.ediv_eq_zero_of_lt hg.1 (by omega)
     rw[this]at e;cases e
   . have e:=eq_of_beq e
     have hp:=oN hp
     show(0<=i64.wrap (z+1)/\i64.wrap (z+1)<=32/\b.C2%2^(i64.wrap (z+1)).toNat<2^P)/\(32-i64.wrap (z+1)).toNat<(32-z).toNat
     rw[ew,zt]
     have hle:(2:Int)^(z.toNat+1)<=2^P:=by exact_mod_cast dU (show 0<2 by decide) (show z.toNat+1<=P by omega)
     have:=Int.emod_lt_of_pos b.C2 (show(0:Int)<2^(z.toNat+1) from dP (by decide))
     exact⟨⟨by omega,by omega,by omega⟩,by omega⟩
   . have e: ¬b.C2/2^z.toNat%2=1:=by simpa using e
     have e:b.C2/2^z.toNat%2=0:=by omega
     rw[e]at bp
     show(0<=i64.wrap (z+1)/\i64.wrap (z+1)<=32/\b.C2%2^(i64.wrap (z+1)).toNat<2^P)/\(32-i64.wrap (z+1)).toNat<(32-z).toNat
     rw[ew,zt,bp]
     exact⟨⟨by omega,by omega,by omega⟩,by omega⟩
 . have hb:=oN hb
   have:z=32:=by omega
   subst this
   show true=_
   refine(dY ?_).symm
   have h2:b.C2%2^(32:Int).toNat=b.C2:=dO hg.1 hg.2
   rwa [h2]at z2
theorem Zgw{b:Q07}(hg:U b.C2){P:Nat}(hP:P<=32):Q2c b P=Q8u b P:=by
 have r:=(Tree.pp (xaD hg hP)).2
 change Q8u b P=_ at r
 rw[r,eK,Z07 hg,decide_eq_true_eq]
theorem zeros:strings_Repeat [(0:UInt8)] 128=cR 128 0:=by kernel_rfl
theorem qaE{P:Nat}{m:List Int}(hm:Q0t P m){b:Q07}{port:Int}{v:Int}(hv:U v)(hp:v<P)(h10:port=10)(hb:(iand .u32 (ishr .u32 b.C2 v) 1==0)=true):(Q46 b m port v).w (λr=>r.1={C6:=b.C6,C2:=ior .u32 b.C2 (ishl .u32 1 v)}/\Q0t P r.2/\ ∀k:Nat,byt r.2 k=if v*128<=k/\(k:Int)<v*128+128 then 0 else byt m k):=by
 have hv0:decide (0<=v)=true:=dY hv.1
 have h2:=hm.p2
 have pg:Q1v m v=true:=by rw[Ql0 hm hv];exact dY hp
 obtain⟨v1,v2⟩:=hv
 subst h10
 unfold Q46
 refine w_br (λ_=>w_lv λx0 hx=>w_br (λ_=>w_cn hv0 (w_br (λ_=>w_cn hv0 ?_) (λh=>by rw[hb]at h;cases h))) (λh=>by rw[hx,pg]at h;cases h)) (λh=>by cases h)
 refine w_lp (inv:=λz=>0<=z.1/\z.1<=32/\Q0t P z.2/\ ∀k:Nat,byt z.2 k=if v*128<=k/\(k:Int)<v*128+4*z.1 then 0 else byt m k) (μ:=Qid b m 10 v) ⟨show(0:Int)<=0 by decide,show(0:Int)<=32 by decide,hm,λk=>by rw[if_neg];show¬(_/\_<_+4*(0:Int));omega⟩ (cO _) (λz hz=> ?_)
 obtain⟨z1,z2,z3,z4⟩:=hz
 have hl:=z3.len
 refine w_br (λh=> ?_) (λh=>⟨rfl,z3,λk=> ?_⟩)
 . have h:=oY h
   have e:wrap i64 (wrap i64 (wrap i64 v*32)+z.1)=v*32+z.1:=by rw[wrap_i64,wrap_i64,wrap_i64];omega
   refine w_cn (by rw[e];simp [bT];omega) (w_nx ?_)
   have ew:i64.wrap (z.1+1)=z.1+1:=by rw[wrap_i64];omega
   show(0<=i64.wrap (z.1+1)/\i64.wrap (z.1+1)<=32/\Q0t P (dH _ _ _)/\ ∀k:Nat,byt (dH z.2 (dG (wrap i64 (wrap i64 (wrap i64 v*32)+z.1))) 0) k=if v*128<=(k:Int)/\(k:Int)<v*128+4*i64.wrap (z.1+1) then 0 else _)/\(32-i64.wrap (z.1+1)).toNat<(32-z.1).toNat
   rw[ew,e]
   refine⟨⟨by omega,by omega,⟨by simp [hl],z3.p1,z3.p2,Qyh z3.u U_0 _⟩,λk=> ?_⟩,by omega⟩
   rw[Zhq (by omega)]
   by_cases hc:k/4=(v*32+z.1).toNat
   . rw[if_pos hc,if_pos (by omega)]
     have:k%4=0\/k%4=1\/k%4=2\/k%4=3:=by omega
     rcases this with h|h|h|h<;>rw[h]<;>rfl
   . rw[if_neg hc,z4 k]
     by_cases hd:v*128<=(k:Int)/\(k:Int)<v*128+4*z.1
     . rw[if_pos hd,if_pos (by omega)]
     . rw[if_neg hd,if_neg (by omega)]
 . have h:=oN h
   show byt z.2 k=_
   rw[z4 k,show z.1=32 by omega];rfl
theorem bitv{g v:Int}(hg:U g)(v0:0<=v)(v1:v<32):(iand .u32 g (ishl .u32 1 v)==0)=(iand .u32 (ishr .u32 g v) 1==0):=by
 obtain⟨z,rfl⟩: ∃z:Nat,v=z:=⟨v.toNat,by omega⟩
 obtain⟨n,rfl⟩: ∃n:Nat,g=n:=⟨g.toNat,by have:=hg.1;omega⟩
 have hz:z<32:=by omega
 have hlt:(2:Nat)^z<4294967296:=by have:=eD (show 1<2 by omega) hz;simpa using this
 rw[and1 (Qrd hg _),Qq2 z (by omega),yg v0 v1,eF]
 have hc:((2:Int)^z)=((2^z:Nat):Int):=by simp
 generalize hq:2^z=q at*
 rw[hc,Zh4 hg ⟨by omega,by omega⟩,eF,eF,<-hq]
 have e1:(n&&&2^z)=0↔n/2^z%2=0:=by
   have t:n.testBit z=decide (n/2^z%2=1):=Nat.testBit_eq_decide_div_mod_eq
   constructor
   . intro h
     have h2:(n&&&2^z).testBit z=false:=by rw[h];exact fI z
     rw[fJ,Nat.testBit_two_pow_self,Bool.and_true,t]at h2
     have:=oN h2
     omega
   . intro h
     have t0:n.testBit z=false:=by rw[t];exact dN (by omega)
     apply eQ
     intro i
     rw[fJ,Nat.testBit_two_pow,fI]
     by_cases hi:z=i
     . subst hi;rw[t0];rfl
     . rw[dN hi,Bool.and_false]
 rw[eK,beq_iff_eq,beq_iff_eq]
 constructor
 . intro h;have:=e1.1 (by omega);omega
 . intro h;have:=e1.2 (by omega);omega
theorem Zgu{P:Nat}{m:List Int}(h:Q0t P m){b:Q07}(hb:okB b)(port:Int){v:Int}(hv:U v):Q7 b m port v=Q5x b m port v:=by
  have hcl:Q03 m=m:=rfl
  have hp:=Q33 h
  have h2:=h.p2
  have ew:i64.wrap v=v:=w64 (by have:=hv.1;omega) (by have:=hv.2;omega)
  have pe:=Ql0 h hv
  by_cases h32:v<32
  . have bv :=bitv hb.2 hv.1 h32
    by_cases h10:port=10
    . by_cases hP:v<P
      . cases hz:iand .u32 (ishr .u32 b.C2 v) 1==0
        . simp only[Q7,Q3i,Q5x,Q46,Tree.m,letv,hcl,hp,ew,pe,bv,hz,h10,dY hP,dN (show¬v>=32 by omega)]
          rfl
        . obtain⟨g1,g2,g3⟩:=(Tree.pp (qaE h hv hP h10 hz)).2
          change(Q5x b m port v).1=_ at g1
          change Q0t P (Q5x b m port v).2 at g2
          change∀k:Nat,byt (Q5x b m port v).2 k=_ at g3
          obtain⟨s1,s2,s3⟩:=(Tree.pp (Z2y h hv.1 hP (s:=cR 128 0) (by simp))).2
          have em:(Q2f m v (cR 128 0)).1=(Q5x b m port v).2:=by
            refine Zh5 (s2.len.trans g2.len.symm) s2.u g2.u λk=> ?_
            rw[g3 k]
            refine(s3 k).trans ?_
            by_cases hk:v*128<=(k:Int)/\(k:Int)<v*128+128
            . rw[if_pos hk,if_pos hk]
              have:(cR 128 (0:UInt8)).getD ((k:Int)-v*128).toNat 0=0:=by
                rw[cP,List.getElem?_replicate]
                split<;>rfl
              rw[this];rfl
            . rw[if_neg hk,if_neg hk]
          have el:Q7 b m port v=({C6:=b.C6,C2:=ior .u32 b.C2 (ishl .u32 1 v)},(Q2f m v (cR 128 0)).1):=by
            simp only[Q7,Q3i,Tree.m,letv,hcl,hp,ew,bv,hz,h10,dY hP,dN (show¬v>=32 by omega),zeros]
            rfl
          rw[el,em,<-g1]
      . simp only[Q7,Q3i,Q5x,Q46,Tree.m,letv,hcl,hp,ew,pe,h10,dN hP,dN (show¬v>=32 by omega)]
        rfl
    . simp only[Q7,Q3i,Q5x,Q46,Tree.m,letv,hcl,dY h32,dN (show¬v>=32 by omega),show(port==10)=false by simpa using h10]
      cases port==11<;>rfl
  . simp only[Q7,Q3i,Q5x,Q46,Tree.m,letv,hcl,pe,dN h32,dY (show v>=32 by omega),dN (show¬v<P by omega)]
    cases port==10<;>cases port==11<;>rfl
structure okV(m:Q00):Prop where
 cpu:Q27 m.B1
 mem: ∀w∈m.Mem,U w
 disk:Q7i m.A9
 nic:Qhl m.B9
 bal:okB m.A1
 cnt:0<=m.A4
theorem Qzu(m:List Int)(hm: ∀w∈m,U w):Q0o m=Q34 m/\(Q0o m=0\/ ∃P:Nat,1<=P/\Q0t P m):=by
 refine⟨rfl,?_⟩
 simp only[Q0o,Q7v,Tree.m]
 cases h1:dF (m.length:Int) 32 !=0
 . cases h2:decide ((m.length:Int)>1024)
   . have h1:dF (m.length:Int) 32=0:=by simpa using h1
     have h2:=oN h2
     rw[eH (by omega)]at h1
     by_cases h0:m.length=0
     . left;rw[h0];rfl
     . right;exact⟨m.length/32,by omega,⟨by omega,by omega,by omega,hm⟩⟩
   . left;rfl
 . left;rfl
theorem rcnd{a x:Bool}:(bif !a then false else x)=true↔a=true/\x=true:=by cases a<;>simp
theorem yJ(m:Q00):Q9a m=true↔ ¬(Q34 m.Mem<1)/\Q6t m.B1/\Qh9 m.A2=true/\Qbv m.A7=true/\Qe m.A9 (Q34 m.Mem)=true/\Qi2 m.B9 (Q34 m.Mem)=true/\Q8u m.A1 (Q34 m.Mem)=true/\m.A4<=1152921504606846976/\ ¬(m.A3=true/\m.A6=true):=by
 simp only[Q9a,Qvl,Tree.m,letv]
 rw[cnd2,cnd2,cnd2,cnd2,cnd2,cnd2,rcnd,rcnd,rcnd,rcnd,rcnd]
 simp only[decide_eq_false_iff_not,Int.not_lt,bne_eq_false_iff_eq,gt_iff_lt]
 have l:((bif decide (m.A4<=1152921504606846976) then(bif m.A3 then !m.A6 else true) else false)=true)↔m.A4<=1152921504606846976/\ ¬(m.A3=true/\m.A6=true):=by
   by_cases hc:m.A4<=1152921504606846976
   . rw[dY hc]
     cases m.A3<;>cases m.A6<;>simp [hc]
   . rw[dN hc];simp [hc]
 rw[l]
 constructor
 . rintro⟨a1,a2,a3,a4,a5,a6,a7⟩
   exact⟨by omega,⟨a2,a3,a4,a5,a6⟩,a7⟩
 . rintro⟨a1,⟨a2,a3,a4,a5,a6⟩,a7⟩
   exact⟨by omega,a2,a3,a4,a5,a6,a7⟩
theorem Zaa{m:Q00}(h:okV m):Q17 m=Q9a m:=by
 rw[eK,Qu,yJ,qg]
 obtain⟨e,c⟩:=Qzu m.Mem h.mem
 simp only[aE,<-e]
 rcases c with c|⟨P,hP,hm⟩
 . constructor
   . rintro⟨a,_⟩;exact absurd c a
   . rintro⟨a,_⟩;omega
 . rw[Q33 hm,Z4i,Z7z,Zc3,Zgw h.bal.2 hm.p2]
   constructor
   . rintro⟨a1,a2,a3,a4,a5,a6,a7,a8,a9⟩;exact⟨by omega,a2,a5,a6,a7,a8,a9,a3,a4⟩
   . rintro⟨a1,a2,a5,a6,a7,a8,a9,a3,a4⟩;exact⟨by omega,a2,a3,a4,a5,a6,a7,a8,a9⟩
def Z8m(a b c d e:Bool):Int:=ior .u32 (ior .u32 (ior .u32 (ior .u32 (Q86 a 0) (Q86 b 1)) (Q86 c 2)) (Q86 d 3)) (Q86 e 4)
theorem mlines(m:Q00):Qck m=Z8m (Qfx m.A7) (Q84 m.A2) (Q8s m.A9) (Qlb m.B9) (Q6q m.A1):=by
 unfold Qck Q6n
 simp only[Tree.m,letv]
 generalize Qfx m.A7=a
 generalize Q84 m.A2=b
 generalize Q8s m.A9=c
 generalize Qlb m.B9=d
 generalize Q6q m.A1=e
 cases a<;>cases b<;>cases c<;>cases d<;>cases e<;>kernel_rfl
theorem Zl2(a b c d e:Bool):0<=Z8m a b c d e/\Z8m a b c d e<32:=by
 cases a<;>cases b<;>cases c<;>cases d<;>cases e<;>decide
theorem rlines(m:Q00):Qgc m=Z8m (Q95 m.A7) (Q4v m.A2) (Qah m.A9) (Qce m.B9) (Q3b m.A1):=rfl
section
variable {m:Q00} (h:okV m)
include h
theorem Zma:Qck m=Qgc m:=by
 rw[mlines,rlines,qJ,Zf2 h.bal];rfl
theorem Qwj:Q4u m=Q2k m:=by
 have e:=Zma h
 simp only[Q4u,Q4t,Q2k,Q7s,Tree.m,letv,e]
theorem yk:Qev m=Qe1 m:=by
 have e:=Qwj h
 simp only[Qev,Q4o,Qe1,Qd2,Tree.m,letv,e]
theorem Zeo:Q3r m=!Q2a m:=by
 have e1:=Zaa h
 have e2:=yk h
 have e3:decide (m.A4>=1152921504606846976)=!decide (m.A4<1152921504606846976):=xk
 simp only[Q3r,Q3m,Q2a,Q8j,Tree.m,letv,e1,e2,e3]
 cases Q9a m<;>cases m.A6<;>cases Qe1 m<;>cases decide (m.A4<1152921504606846976)<;>rfl
theorem Z74:0<=Q2k m/\Q2k m<32:=by
 have e:Q2k m=iand .u32 (Qgc m) m.B1.B4.a7:=rfl
 have l:=Zl2 (Q95 m.A7) (Q4v m.A2) (Qah m.A9) (Qce m.B9) (Q3b m.A1)
 rw[<-rlines]at l
 rw[e,Zh4 ⟨l.1,by omega⟩ h.cpu.a7]
 have:=eC (n:=(Qgc m).toNat) (m:=m.B1.B4.a7.toNat)
 omega
def low(l:Int):Int:=if l%2=1 then 0 else if l/2%2=1 then 1 else if l/4%2=1 then 2 else if l/8%2=1 then 3 else 4
end
theorem cases32{l:Int}(h0:0<=l)(h1:l<32):l=0\/l=1\/l=2\/l=3\/l=4\/l=5\/l=6\/l=7\/l=8\/l=9\/l=10\/l=11\/l=12\/l=13\/l=14\/l=15\/l=16\/l=17\/l=18\/l=19\/l=20\/l=21\/l=22\/l=23\/l=24\/l=25\/l=26\/l=27\/l=28\/l=29\/l=30\/l=31:=by omega
def intr(m:Q00)(l:Int):Q02:=bif iand .u32 m.B1.B4.a0 2==0 then m.B1 else bif l==0 then m.B1 else Q2g m.B1 (wrap .i64 (16+low l)) 0
theorem rintr{m:Q00}(h:okV m):Q0k m=intr m (Q2k m):=by
 obtain⟨l0,l1⟩:=Z74 h
 unfold Q0k Q4
 simp only[Tree.m,letv]
 revert l0 l1
 generalize Q2k m=l
 intro l0 l1
 unfold intr
 cases iand .u32 m.B1.B4.a0 2==0
 . rcases cases32 l0 l1 with rfl|rfl|rfl|rfl|rfl|rfl|rfl|rfl|rfl|rfl|rfl|rfl|rfl|rfl|rfl|rfl|rfl|rfl|rfl|rfl|rfl|rfl|rfl|rfl|rfl|rfl|rfl|rfl|rfl|rfl|rfl|rfl<;>kernel_rfl
 . rfl
def beg(m:Q00)(c:Q02):Q00:={B1:=c,Mem:=m.Mem,A2:=m.A2,A7:=m.A7,A9:=m.A9,B9:=m.B9,A1:=m.A1,A4:=m.A4,A3:=false,A6:=m.A6}
theorem Zmm{m:Q00}(h:okV m)(hst:m.B1.B4.a0<=31):Q0y m=beg m (Q0k m):=by
 obtain⟨l0,l1⟩:=Z74 h
 have tr: ∀k b,Q3z m.B1 k b=Q2g m.B1 k b:=Qo0 h.cpu.a0.1 hst
 have e:Q4u (beg m m.B1)=Q2k m:=Qwj (m:=beg m m.B1) ⟨h.cpu,h.mem,h.disk,h.nic,h.bal,h.cnt⟩
 rw[rintr h]
 unfold Q0y Q3x
 simp only[Tree.m,letv]
 rw[show Q4u {B1:=m.B1,Mem:=m.Mem,A2:=m.A2,A7:=m.A7,A9:=m.A9,B9:=m.B9,A1:=m.A1,A4:=m.A4,A3:=false,A6:=m.A6}=Q2k m from e]
 revert l0 l1
 generalize Q2k m=l
 intro l0 l1
 unfold intr
 simp only[<-tr]
 cases iand .u32 m.B1.B4.a0 2==0
 . rcases cases32 l0 l1 with rfl|rfl|rfl|rfl|rfl|rfl|rfl|rfl|rfl|rfl|rfl|rfl|rfl|rfl|rfl|rfl|rfl|rfl|rfl|rfl|rfl|rfl|rfl|rfl|rfl|rfl|rfl|rfl|rfl|rfl|rfl|rfl<;>(show _=_;kernel_rfl)
 . rfl
theorem ports{p:Int}:p=0\/p=1\/p=2\/p=3\/p=4\/p=5\/p=6\/p=7\/p=8\/p=9\/p=10\/p=11\/p<0\/12<=p:=by omega
theorem xaj{m:Q00}(hb:okB m.A1)(port clock:Int):Q10 m port clock=((Qam m port clock).2,(Qam m port clock).1):=by
 have e1:=Znc m.A2
 have e2: ∀p,Qvj m.A9 p=Qgw m.A9 p:=λ_=>rfl
 have e3:=Zmk m.B9
 have e4:=Zm0 hb
 have e5:Qz4 m.A7=Qep m.A7:=rfl
 simp only[Q10,Q42,Qam,Qeb,Tree.m,letv,e1,e2,e3,e4,e5]
 rcases ports (p:=port) with rfl|rfl|rfl|rfl|rfl|rfl|rfl|rfl|rfl|rfl|rfl|rfl|h|h
 all_goals first|rfl|skip
 . have n: ∀k:Int,0<=k->(port==k)=false:=λk hk=>beq_eq_false_iff_ne.2 (by omega)
   have c:Q4m m.A2 port=(m.A2,0):=by
     simp only[Q4m,Q2z,Tree.m,n 0 (by decide),n 1 (by decide),cond_false]
   simp only[n 0 (by decide),n 1 (by decide),n 2 (by decide),n 3 (by decide),n 4 (by decide),n 5 (by decide),n 6 (by decide),n 7 (by decide),n 8 (by decide),n 9 (by decide),n 10 (by decide),n 11 (by decide),cond_false,dY (show port<=1 by omega),cond_true,c]
 . have n: ∀k:Int,k<12->(port==k)=false:=λk hk=>beq_eq_false_iff_ne.2 (by omega)
   have c:Q4k m.A1 port=0:=by
     simp only[Q4k,Q5g,Tree.m,n 10 (by decide),n 11 (by decide),cond_false]
   simp only[n 0 (by decide),n 1 (by decide),n 2 (by decide),n 3 (by decide),n 4 (by decide),n 5 (by decide),n 6 (by decide),n 7 (by decide),n 8 (by decide),n 9 (by decide),n 10 (by decide),n 11 (by decide),cond_false,dN (show¬port<=1 by omega),dN (show¬port<=6 by omega),dN (show¬port<=9 by omega),c]
theorem vJ{P:Nat}{m:Q00}(hm:Q0t P m.Mem)(hb:okB m.A1)(port:Int){v:Int}(hv:U v):Q1x m port v m.A4=((Q8 m port v).2,(Q8 m port v).1):=by
 have e1:=Zek hm m.A9
 have e2:=Zi1 hm m.B9
 have e3:=Zgu hm hb port hv
 have e4:=xJ m.A7 v
 simp only[Q1x,Q3a,Q8,Q9b,Tree.m,letv,e1,e2,e3,e4]
 rcases ports (p:=port) with rfl|rfl|rfl|rfl|rfl|rfl|rfl|rfl|rfl|rfl|rfl|rfl|h|h
 all_goals first|rfl|skip
 . have n: ∀k:Int,0<=k->(port==k)=false:=λk hk=>beq_eq_false_iff_ne.2 (by omega)
   simp only[n 0 (by decide),n 1 (by decide),n 2 (by decide),n 3 (by decide),n 4 (by decide),n 5 (by decide),n 6 (by decide),n 7 (by decide),n 8 (by decide),n 9 (by decide),n 10 (by decide),n 11 (by decide),cond_false,dY (show port<=2 by omega),cond_true]
 . have n: ∀k:Int,k<12->(port==k)=false:=λk hk=>beq_eq_false_iff_ne.2 (by omega)
   have c:Q5x m.A1 m.Mem port v=(m.A1,m.Mem):=by
     simp only[Q5x,Q46,Tree.m,n 10 (by decide),n 11 (by decide),cond_false]
   simp only[n 0 (by decide),n 1 (by decide),n 2 (by decide),n 3 (by decide),n 4 (by decide),n 5 (by decide),n 6 (by decide),n 7 (by decide),n 8 (by decide),n 9 (by decide),n 10 (by decide),n 11 (by decide),cond_false,dN (show¬port<=2 by omega),dN (show¬port<=6 by omega),dN (show¬port<=9 by omega),c]
def tick(n:Q00)(c:Q02)(w h:Bool):Q00:={B1:=c,Mem:=n.Mem,A2:=n.A2,A7:=n.A7,A9:=n.A9,B9:=n.B9,A1:=n.A1,A4:=wrap .u64 (n.A4+1),A3:=w,A6:=h}
def withX(m:Q00)(c:Q02)(mem:List Int):Q00:={B1:=c,Mem:=mem,A2:=m.A2,A7:=m.A7,A9:=m.A9,B9:=m.B9,A1:=m.A1,A4:=m.A4,A3:=false,A6:=m.A6}
def finP(n:Q00)(e:Q0v)(clock at0:Int):Q00×List Q08:=
 bif e.C4==1 then
   (bif e.D7 !=0 then(tick (Q10 n e.C8 clock).1 {X:=A16.of 0 (dH (A16.l (Q10 n e.C8 clock).1.B1.X) e.D7.toNat (Q10 n e.C8 clock).2),Pc:=(Q10 n e.C8 clock).1.B1.Pc,B4:=(Q10 n e.C8 clock).1.B1.B4} (Q10 n e.C8 clock).1.A3 (Q10 n e.C8 clock).1.A6,[])
   else(tick (Q10 n e.C8 clock).1 (Q10 n e.C8 clock).1.B1 (Q10 n e.C8 clock).1.A3 (Q10 n e.C8 clock).1.A6,[]))
 else bif e.C4==2 then(tick (Q1x n e.C8 e.Value at0).1 (Q1x n e.C8 e.Value at0).1.B1 (Q1x n e.C8 e.Value at0).1.A3 (Q1x n e.C8 e.Value at0).1.A6,(Q1x n e.C8 e.Value at0).2)
 else bif e.C4==3 then(tick n n.B1 true n.A6,[]) else bif e.C4==4 then(tick n n.B1 n.A3 true,[]) else(tick n n.B1 n.A3 n.A6,[])
def finR(n:Q00)(e:Q0v)(clock:Int):List Q08×Q00:=
 bif e.C4==1 then([],tick (Qam n e.C8 clock).2 (Q1m (Qam n e.C8 clock).2.B1 e.D7 (Qam n e.C8 clock).1) (Qam n e.C8 clock).2.A3 (Qam n e.C8 clock).2.A6)
 else bif e.C4==2 then((Q8 n e.C8 e.Value).1,tick (Q8 n e.C8 e.Value).2 (Q8 n e.C8 e.Value).2.B1 (Q8 n e.C8 e.Value).2.A3 (Q8 n e.C8 e.Value).2.A6)
 else bif e.C4==3 then([],tick n n.B1 true n.A6) else bif e.C4==4 then([],tick n n.B1 n.A3 true) else([],tick n n.B1 n.A3 n.A6)
theorem yU(m:Q00)(clock:Int):Q0z m clock=finR (withX m (Q6l (Q0k m) m.Mem).1 (Q6l (Q0k m) m.Mem).2.2) (Q6l (Q0k m) m.Mem).2.1 clock:=by kernel_rfl
theorem qK(m:Q00)(clock:Int):Qip m clock=bif !Q3r m then(m,[]) else finP {B1:=(Q9h (Q0y m).B1 (Q0y m).Mem).1,Mem:=(Q9h (Q0y m).B1 (Q0y m).Mem).2.1,A2:=(Q0y m).A2,A7:=(Q0y m).A7,A9:=(Q0y m).A9,B9:=(Q0y m).B9,A1:=(Q0y m).A1,A4:=(Q0y m).A4,A3:=(Q0y m).A3,A6:=(Q0y m).A6} (Q9h (Q0y m).B1 (Q0y m).Mem).2.2 clock m.A4:=by kernel_rfl
theorem qak(m:List Int):Qtg m=m:=by
 simp [Qtg,Qcy,Tree.m]
theorem Z1x(m:Q00):Qiv m=m:=by
 simp only[Qiv,Qbg,Tree.m,letv,qak]
def Zcw(m:Q00)(clock:Int):Q00×List Q08:=bif Q2a m then(m,[]) else((Q0z m clock).2,(Q0z m clock).1)
def Qo(m:Q00)(e:Q0e):Tree (Q00×Bool):=
 .an (Qbk m) (.lv (Qiv m) λ(x0:Q00)=> .lv (Q9a x0) λ(x1:Bool)=> .br (!x1) (.lf (x0,false)) (.an (Qq0 x0 e) (.lv (Q1n x0 e) λ(x2:Bool×Q00)=> .lf (x2.2,x2.1))))
def Qoe m e:=(Qo m e).m
theorem Zj8(m:Q00)(clock:Int):Zcw m clock=bif Q2a m then(m,[]) else((Q0z m clock).2,(Q0z m clock).1):=rfl
theorem xK{P:Nat}{n:Q00}(hm:Q0t P n.Mem)(hb:okB n.A1){e:Q0v}(hr:0<=e.D7/\e.D7<16)(hv:U e.Value)(clock:Int):finP n e clock n.A4=((finR n e clock).2,(finR n e clock).1):=by
 unfold finP finR
 rw[xaj hb e.C8 clock,vJ hm hb e.C8 hv]
 cases e.C4==1
 . cases e.C4==2
   . cases e.C4==3
     . cases e.C4==4<;>rfl
     . rfl
   . rfl
 . generalize Qam n e.C8 clock=r
   have s:=Qyv r.2.B1 hr r.1
   show(bif e.D7 !=0 then _ else _)=(tick r.2 (Q1m r.2.B1 e.D7 r.1) r.2.A3 r.2.A6,[])
   rw[<-s]
   simp only[Q9r,Qc5,Tree.m]
   cases e.D7 !=0<;>rfl
theorem vk{m:Q00}(h:okV m)(clock:Int):Qip m clock=Zcw m clock:=by
 rw[qK,Zj8,Zeo h]
 cases hs:Q2a m
 . have hr:Q3r m=true:=by rw[Zeo h,hs];rfl
   obtain⟨hm,hh,hct⟩:=Zkb hr
   obtain⟨g1,g2,g3,g4,g5⟩:=(Qu m).1 hm
   rcases(Qzu m.Mem h.mem).2 with c|⟨P,hP,hmem⟩
   . exact absurd c g1
   have okm:okS P m:=⟨h.cpu,hmem,h.disk,h.nic,h.bal.1,h.bal.2⟩
   obtain⟨b1,b2,b3,_⟩:=(Tree.pp (Zds okm g2)).2
   change Q6t (Q0y m).B1 at b1
   change okS P (Q0y m) at b2
   change(Q0y m).Mem=m.Mem at b3
   have be:=Zmm h g2.st
   have b1':Q6t (Q0k m):=by have:=b1;rw[be]at this;exact this
   have b2':Q27 (Q0k m):=by have:=b2.cpu;rw[be]at this;exact this
   have ex:=qk hmem b2' b1'.st
   have er:=(Tree.pp (Zko b2' hmem)).2
   change 0<=(Q9h (Q0k m) m.Mem).2.2.D7/\(Q9h (Q0k m) m.Mem).2.2.D7<16 at er
   obtain⟨d1,d2,d3⟩:=(Tree.pp (do_w b2' hmem)).2
   change U (Q6l (Q0k m) m.Mem).2.1.Value at d2
   change Q0t P (Q6l (Q0k m) m.Mem).2.2 at d3
   rw[ex]at er
   rw[yU,be]
   show finP {B1:=(Q9h (Q0k m) m.Mem).1,Mem:=(Q9h (Q0k m) m.Mem).2.1,A2:=m.A2,A7:=m.A7,A9:=m.A9,B9:=m.B9,A1:=m.A1,A4:=m.A4,A3:=false,A6:=m.A6} (Q9h (Q0k m) m.Mem).2.2 clock m.A4=_
   rw[ex]
   exact xK (n:=withX m (Q6l (Q0k m) m.Mem).1 (Q6l (Q0k m) m.Mem).2.2) d3 h.bal er d2 clock
 . rfl
theorem Zlu{m:Q00}(h:okV m)(e:Q0e):Qfl m e=Qoe m e:=by
 have hcl:Q03 m.Mem=m.Mem:=rfl
 have mm:=Zaa h
 have t1:Qof m.A7=Qmq m.A7:=rfl
 have t2: ∀b,Qw2 m.A2 b=Qrh m.A2 b:=λ_=>rfl
 simp only[Qfl,Qbr,Qoe,Qo,Q1n,Q5u,Tree.m,letv,Z1x,hcl,t1,t2]
 rw[show Q17 {B1:=m.B1,Mem:=m.Mem,A2:=m.A2,A7:=m.A7,A9:=m.A9,B9:=m.B9,A1:=m.A1,A4:=m.A4,A3:=m.A3,A6:=m.A6}=Q9a m from mm]
 cases hM:Q9a m
 . rfl
 have hM':Q17 m=true:=mm.trans hM
 rcases(Qzu m.Mem h.mem).2 with c|⟨P,hP,hmem⟩
 . exact absurd c ((Qu m).1 hM').1
 have cs:=Z9r hmem h.disk e
 have rs:=Zbe hmem h.nic e.C9
 clear mm hM hM' hcl h
 obtain⟨c,mem,con,ti,d,n,b,ct,w,hl⟩:=m
 cases hl
 . by_cases k2:e.C4=2
   . rw[k2];cases e.N==0<;>cases decide (e.C9=[])<;>rfl
   by_cases k3:e.C4=3
   . rw[k3];cases decide (e.N<=255)<;>cases decide (e.C9=[])<;>rfl
   by_cases k4:e.C4=4
   . rw[k4,cs];rfl
   by_cases k5:e.C4=5
   . rw[k5,rs];cases e.N==0<;>rfl
   by_cases k6:e.C4=6
   . rw[k6];cases decide (e.C9=[])<;>rfl
   . rw[show(e.C4==2)=false by simpa using k2,show(e.C4==3)=false by simpa using k3,show(e.C4==4)=false by simpa using k4,show(e.C4==5)=false by simpa using k5,show(e.C4==6)=false by simpa using k6]
     rfl
 . rfl
theorem zak{l acts:List Int}{x0:Bool}(hx0:x0=Qyu l acts)(hb:(!x0)=false):l.length<=40/\acts.length<=30:=by
 have hb:x0=true:=by simpa using hb
 rw[hb]at hx0
 simp only[Qyu,Qu2,Tree.m]at hx0
 cases h1:decide ((l.length:Int)<=40)<;>rw[h1]at hx0
 . cases hx0
 . have:=oY hx0.symm
   have:=oY h1
   omega
section
variable {m:Q00} (h:okV m) (hl:m.Mem.length<=1024)
include h
include hl
omit h hl in
theorem zK{P:Nat}(h:okM P m){e:Q0e}(he:U e.N):(Q5u m e).w (λx=>okM P x.2):=by
 have k:=h
 obtain⟨h1,h2,h3,h4,h5,h7⟩:=h
 unfold Q5u
 repeat'(first
   |exact k
   |exact⟨h1,h2,h3,h4,⟨he,h5.2⟩,h7⟩
   |exact w_lv λ_ _=>⟨h1,h2,h3,h4,h5,h7⟩
   |exact Q0a (yY _ _) λ_ _=>⟨h1,h2,h3,h4,h5,h7⟩
   |exact Q0a (Zjb h2 h3 _) λx hx=>⟨h1,hx.2,hx.1,h4,h5,h7⟩
   |exact Q0a (Zj9 h2 h4 _) λx hx=>⟨h1,hx.2,h3,hx.1,h5,h7⟩
   |refine w_br (λ_=> ?_) (λ_=> ?_))
end
def Tree.V{β:Type}(t:Tree β)(W:β->Prop):Prop:=W t.m
section
variable {α β:Type} {W:β->Prop} {c:Bool} {t e:Tree β}
theorem v_lf{x:β}(h:W x):Tree.V (.lf x) W:=h
theorem v_nx{f:Prop}{x:β}{hf:f}(h:W x):Tree.V (.nx f x hf) W:=h
theorem v_br(h:c=true->Tree.V t W)(g:c=false->Tree.V e W):Tree.V (.br c t e) W:=by
 cases c
 . exact g rfl
 . exact h rfl
theorem v_cn(g:Tree.V t W):Tree.V (.cn c t) W:=g
theorem v_an{p:Prop}(g:Tree.V t W):Tree.V (.an p t) W:=g
theorem v_lv{x:α}{k:α->Tree β}(h: ∀y,y=x->Tree.V (k y) W):Tree.V (.lv x k) W:=h x rfl
theorem v_lp{d:Inhabited β}{n:Nat}{f:Prop}{x:α}{k:α->Tree (α⊕β)}{hf:f}{inv:α->Prop}{μ:α->Nat}(h:inv x)(hn:μ x<n)(g: ∀y,inv y->Tree.V (k y) (Sum.elim (λz=>inv z/\μ z<μ y) W)):Tree.V (.lp d n f x k hf) W:=by
 refine qax (P:=inv) (R:=W) (μ:=μ) (λa ha=> ?_) n x h hn
 have:=g a ha
 unfold Tree.V at this
 revert this
 cases(k a).m with
 |inl z=>exact λh=>h
 |inr b=>exact λh=>h
end
def Z3w(r:Q01)(m:Q00):Q01:={A0:=m,B3:=r.B3,C7:=r.C7,B0:=r.B0}
theorem zaE(r:Q01)(port clock:Int):Qsp r port clock=((Qam r.A0 port clock).1,Z3w r (Qam r.A0 port clock).2):=by
 simp only[Qsp,Qgq,Qam,Qeb,Tree.m,letv]
 cases decide (port<=1)<;>cases port==2<;>cases port==3<;>cases decide (port<=6)<;>cases decide (port<=9)<;>rfl
theorem xak(r:Q01)(port v:Int):Qom r port v=((Q8 r.A0 port v).1,Z3w r (Q8 r.A0 port v).2):=by
 simp only[Qom,Qbc,Q8,Q9b,Tree.m,letv]
 cases port==0<;>cases decide (port<=2)<;>cases port==3<;>cases decide (port<=6)<;>cases decide (port<=9)<;>rfl
theorem xaE{r:Q01}{c:Bool}{x y:Bool×Q01}{x' y':Bool×Q00}(hx:x=(x'.1,Z3w r x'.2))(hy:y=(y'.1,Z3w r y'.2)):cond c x y=((cond c x' y').1,Z3w r (cond c x' y').2):=by cases c<;>assumption
theorem ql(r:Q01)(e:Q0e):Qil r e=((Q1n r.A0 e).1,Z3w r (Q1n r.A0 e).2):=by
 simp only[Qil,Q7t,Q1n,Q5u,Tree.m,letv]
 repeat'(first|rfl|refine xaE ?_ ?_)
theorem Z8k(r:Q01)(clock:Int):Q66 r clock=((Q0z r.A0 clock).1,Z3w r (Q0z r.A0 clock).2):=by
 simp only[Q66,Q5d,Q0z,Q7o,Tree.m,letv,zaE,xak,Z3w]
 cases(Q6l (Q0k r.A0) r.A0.Mem).2.1.C4==1<;>cases(Q6l (Q0k r.A0) r.A0.Mem).2.1.C4==2<;>cases(Q6l (Q0k r.A0) r.A0.Mem).2.1.C4==3<;>cases(Q6l (Q0k r.A0) r.A0.Mem).2.1.C4==4<;>rfl
def Qbf(r:Q01)(e:Q0e):Q01:=
 bif(Q1n r.A0 e).1 then{A0:=(Q1n r.A0 e).2,B3:=r.B3,C7:=r.C7++[{At:=(Q1n r.A0 e).2.A4,Event:=e}],B0:=r.B0} else Z3w r (Q1n r.A0 e).2
theorem Zin(r:Q01)(e:Q0e):Qhe r e=Qbf r e:=by
 have a:Qfy r e=((Q1n r.A0 e).1,Z3w r (Q1n r.A0 e).2):=by
   simp only[Qfy,Q6e,Tree.m,letv,ql]
 simp only[Qhe,Q9c,Tree.m,letv,a,Qbf]
 cases(Q1n r.A0 e).1<;>rfl
def Qcs(r:Q01):Q01:=bif Qko r.A0.A7 r.B3 then Qbf r {C4:=2,N:=0,C9:=[]} else r
def readF(r:Q01):Q01:=bif Qcc r.A0 then{A0:=r.A0,B3:=r.B3,C7:=r.C7++[{At:=r.A0.A4,Event:={C4:=1,N:=r.B3,C9:=[]}}],B0:=r.B0} else r
def Zh7(r:Q01):Q01:={A0:=(Q0z r.A0 r.B3).2,B3:=wrap .u32 (r.B3+1),C7:=(readF r).C7,B0:=r.B0}
def recF:Nat->Q01->List Q08->Q01×List Q08
 |0,r,o=>(r,o)
 |n+1,r,o=>bif Q2a (Qcs r).A0 then(Qcs r,o) else recF n (Zh7 (Qcs r)) (o++(Q0z (Qcs r).A0 (Qcs r).B3).1)
def noQ(r:Q01):Q01:={A0:=r.A0,B3:=r.B3,C7:=r.C7,B0:=[]}
def advF(r:Q01)(steps clock:Int):Q01×List Q08:=
 bif !Q9a r.A0 then(r,[]) else recF (Q19 steps).toNat (noQ (r.B0.foldl Qbf {A0:=r.A0,B3:=if clock>r.B3 then clock else r.B3,C7:=r.C7,B0:=r.B0})) []
theorem Qne(r:Q01)(e:Q0e):(Qbf r e).B0=r.B0:=by
 unfold Qbf;cases(Q1n r.A0 e).1<;>rfl
theorem Zk0(r:Q01):Qnt r=r:=by
 simp only[Qnt,Qdi,Tree.m,letv,Z1x]
theorem Zka(r:Q01)(steps clock:Int)(hq:r.B0.length<=1000000):Qca r steps clock=advF r steps clock:=by
  show Tree.V (Q4y r steps clock) (λx=>x=advF r steps clock)
  obtain⟨lim0,lim⟩:=Z2z steps
  unfold Q4y
  refine v_an (v_lv λx0 e0=>v_lv λx1 e1=> ?_)
  rw[Zk0]at e0
  subst e0
  refine v_br (λhb=>v_lf ?_) λhb=> ?_
  . unfold advF;rw[<-e1,hb];rfl
  generalize hr0:({A0:=x0.A0,B3:=if clock>x0.B3 then clock else x0.B3,C7:=x0.C7,B0:=x0.B0}:Q01)=r0
  have hA:advF x0 steps clock=recF (Q19 steps).toNat (noQ (x0.B0.foldl Qbf r0)) []:=by
    unfold advF;rw[<-e1,hb,hr0];rfl
  have hQ:r0.B0=x0.B0:=by rw[<-hr0]
  refine v_lp (inv:=λz:Int×Q01=>0<=z.1/\z.1<=x0.B0.length/\z.2.B0=x0.B0/\(x0.B0.drop z.1.toNat).foldl Qbf z.2=x0.B0.foldl Qbf r0) (μ:=Qal x0 steps clock) ⟨cX 0,by show(0:Int)<=_;omega,hQ,rfl⟩ (cO _) λz ⟨z0,z1,z2,z3⟩=> ?_
  refine v_br (λhb=> ?_) (λhb=> ?_)
  . have hb:=oY hb
    rw[z2]at hb
    refine v_cn (v_an (v_lv λx2 e2=>v_nx ?_))
    have ew:i64.wrap (z.1+1)=z.1+1:=by rw[wrap_i64];omega
    rw[Zin]at e2
    have q2:x2.B0=x0.B0:=by rw[e2,Qne,z2]
    have hlt:z.1.toNat<x0.B0.length:=by omega
    have ed:z.2.B0.getD z.1.toNat (RK.dflt RK.apiEvent)=x0.B0[z.1.toNat]:=by rw[z2,cP,cG hlt];rfl
    show(0<=i64.wrap (z.1+1)/\i64.wrap (z.1+1)<=x0.B0.length/\x2.B0=x0.B0/\(x0.B0.drop (i64.wrap (z.1+1)).toNat).foldl Qbf x2=_)/\(x2.B0.length-i64.wrap (z.1+1)).toNat<(z.2.B0.length-z.1).toNat
    rw[ew,q2,z2]
    refine⟨⟨by omega,by omega,rfl,?_⟩,by omega⟩
    rw[<-z3,aB hlt,aD,show(z.1+1).toNat=z.1.toNat+1 by omega,e2,ed]
  . have hb:=oN hb
    rw[z2]at hb
    obtain⟨zi,zr⟩:=z
    have hb: ¬zi<x0.B0.length:=hb
    have ze:zr=x0.B0.foldl Qbf r0:=by
      rw[<-z3,aA (by show x0.B0.length<=zi.toNat;omega)];rfl
    rw[<-ze]at hA
    refine v_lp (inv:=λy:Int×Q01×List Q08=>0<=y.1/\y.1<=Q19 steps/\recF (Q19 steps-y.1).toNat y.2.1 y.2.2=advF x0 steps clock) (μ:=Q50 x0 steps clock (zi,zr)) ⟨cX 0,by show(0:Int)<=_;omega,by rw[hA];show recF (Q19 steps-0).toNat _ _=_;rw[Int.sub_zero];rfl⟩ (cO _) λy ⟨y0,y1,y2⟩=> ?_
    obtain⟨yi,yr,yo⟩:=y
    have mu: ∀q,yi<4000->Q50 x0 steps clock (zi,zr) (wrap .i64 (yi+1),q)<Q50 x0 steps clock (zi,zr) (yi,yr,yo):=λq h=>by
      show(4000-wrap .i64 (yi+1)).toNat<(4000-yi).toNat
      have y0:0<=yi:=y0
      rw[wrap_i64];omega
    have y0:0<=yi:=y0
    refine v_lv λx3 e3=>v_br (λhb=> ?_) (λhb=> ?_)
    . have hb:yi<x3:=oY hb
      rw[e3]at hb
      have mu:=λq=>mu q (by omega)
      have ew:i64.wrap (yi+1)=yi+1:=by rw[wrap_i64];omega
      have en:(Q19 steps-yi).toNat=(Q19 steps-(yi+1)).toNat+1:=by omega
      change recF (Q19 steps-yi).toNat yr yo=_ at y2
      rw[en]at y2
      refine v_lv λx4 e4=>v_br (λhd=>v_an (v_lv λx5 e5=> ?_)) (λhd=> ?_)
      . have e5:x5=Qcs yr:=by rw[e5,Zin];unfold Qcs;rw[<-e4,hd];rfl
        refine v_an (v_lv λx6 e6=>v_br (λhs=>v_lf ?_) λhs=>v_an (v_lv λx7 e7=>v_br (λhr=>v_cn (v_an (v_lv λx8 e8=>v_cn (v_nx ?_)))) λhr=>v_an (v_lv λx9 e9=>v_cn (v_nx ?_))))
        . show(_,yo)=_
          rw[<-y2];unfold recF
          rw[<-e5,<-e6,hs];rfl
        . rw[Z8k]at e8
          refine⟨⟨by show 0<=wrap .i64 (yi+1);rw[ew];omega,by show wrap .i64 (yi+1)<=_;rw[ew];omega,?_⟩,mu _⟩
          show recF (Q19 steps-wrap .i64 (yi+1)).toNat _ _=_
          rw[ew,<-y2,e8]
          conv=>rhs;unfold recF
          rw[<-e5,<-e6,hs]
          unfold Zh7 readF
          rw[<-e7,hr];rfl
        . rw[Z8k]at e9
          refine⟨⟨by show 0<=wrap .i64 (yi+1);rw[ew];omega,by show wrap .i64 (yi+1)<=_;rw[ew];omega,?_⟩,mu _⟩
          show recF (Q19 steps-wrap .i64 (yi+1)).toNat _ _=_
          rw[ew,<-y2,e9]
          conv=>rhs;unfold recF
          rw[<-e5,<-e6,hs]
          unfold Zh7 readF
          rw[<-e7,hr];rfl
      . have e5:yr=Qcs yr:=by
          have e4:x4=Qko yr.A0.A7 yr.B3:=e4
          unfold Qcs;rw[<-e4,hd];rfl
        refine v_an (v_lv λx6 e6=>v_br (λhs=>v_lf ?_) λhs=>v_an (v_lv λx7 e7=>v_br (λhr=>v_cn (v_an (v_lv λx8 e8=>v_cn (v_nx ?_)))) λhr=>v_an (v_lv λx9 e9=>v_cn (v_nx ?_))))
        . show(_,yo)=_
          rw[<-y2];unfold recF
          rw[<-e5,<-e6,hs];rfl
        . rw[Z8k]at e8
          refine⟨⟨by show 0<=wrap .i64 (yi+1);rw[ew];omega,by show wrap .i64 (yi+1)<=_;rw[ew];omega,?_⟩,mu _⟩
          show recF (Q19 steps-wrap .i64 (yi+1)).toNat _ _=_
          rw[ew,<-y2,e8]
          conv=>rhs;unfold recF
          rw[<-e5,<-e6,hs]
          unfold Zh7 readF
          rw[<-e7,hr];rfl
        . rw[Z8k]at e9
          refine⟨⟨by show 0<=wrap .i64 (yi+1);rw[ew];omega,by show wrap .i64 (yi+1)<=_;rw[ew];omega,?_⟩,mu _⟩
          show recF (Q19 steps-wrap .i64 (yi+1)).toNat _ _=_
          rw[ew,<-y2,e9]
          conv=>rhs;unfold recF
          rw[<-e5,<-e6,hs]
          unfold Zh7 readF
          rw[<-e7,hr];rfl
    . have hb: ¬yi<x3:=oN hb
      rw[e3]at hb
      refine v_lf ?_
      show(yr,yo)=_
      change recF (Q19 steps-yi).toNat yr yo=_ at y2
      rw[<-y2,show(Q19 steps-yi).toNat=0 by omega];rfl
structure good(P:Nat)(m:Q00):Prop where
 ok:okM P m
 may:Q17 m=true
section
variable {P:Nat} {m:Q00} (h:good P m)
include h
theorem good.v:okV m:=⟨h.ok.cpu,h.ok.mem.u,h.ok.disk,h.ok.nic,h.ok.target,h.ok.cnt⟩
theorem good.s:okS P m:=⟨h.ok.cpu,h.ok.mem,h.ok.disk,h.ok.nic,h.ok.target.1,h.ok.target.2⟩
theorem good.rmay:Q9a m=true:=(Zaa h.v).symm.trans h.may
theorem yK{e:Q0e}(he:U e.N):good P (Q1n m e).2/\(Q1n m e).2.A4=m.A4:=by
 have o:okM P (Q1n m e).2:=Tree.post _ (zK h.ok he)
 have a:=(Tree.pp (yG h.ok he)).2
 change(Q17 m=true->Q17 (Qfl m e).1=true)/\(Qfl m e).1.A4=m.A4/\_ at a
 have e1:Qoe m e=((Q1n m e).2,(Q1n m e).1):=by
   simp only[Qoe,Qo,Tree.m,letv,Z1x,h.rmay];rfl
 rw[Zlu h.v e,e1]at a
 exact⟨⟨o,a.1 h.may⟩,a.2.1⟩
theorem Z0e:Q2a m=false↔m.A6=false/\Qe1 m=false/\m.A4<1152921504606846976:=by
 simp only[Q2a,Q8j,Tree.m,letv,h.rmay]
 cases m.A6<;>cases Qe1 m<;>simp
theorem Z8y(hs:Q2a m=false){clock:Int}(hc:U clock):good P (Q0z m clock).2/\(Q0z m clock).2.A4=m.A4+1/\(Q0z m clock).1.length<=1:=by
 have o:=Tree.post _ (Z75 h.ok hc)
 change(Q0z m clock).1.length<=1/\okM P (Q0z m clock).2/\(Q0z m clock).2.A4=wrap .u64 (m.A4+1) at o
 have s:=(Tree.pp (qaf h.s h.ok.cnt hc)).2
 change _/\Good P m (Qip m clock).1 at s
 have e:Qip m clock=((Q0z m clock).2,(Q0z m clock).1):=by rw[vk h.v,Zj8,hs];rfl
 rw[e]at s
 have hct:=((Z0e h).1 hs).2.2
 have h0:=h.ok.cnt
 refine⟨⟨o.2.1,s.2.may h.may⟩,?_,o.1⟩
 rw[o.2.2,wrap_u64];omega
end
structure Qbl(P:Nat)(k:Int)(r:Q01):Prop where
 m:good P r.A0
 clock:U r.B3
 cnt:r.A0.A4<=k
theorem Z0u{P:Nat}{k:Int}{r:Q01}(h:Qbl P k r){e:Q0e}(he:U e.N):Qbl P k (Qbf r e)/\(Qbf r e).A0.A4=r.A0.A4:=by
 obtain⟨a,b⟩:=yK h.m he
 have hc:=h.cnt
 unfold Qbf
 cases(Q1n r.A0 e).1
 . exact⟨⟨a,h.clock,by show(Q1n r.A0 e).2.A4<=k;omega⟩,b⟩
 . exact⟨⟨a,h.clock,by show(Q1n r.A0 e).2.A4<=k;omega⟩,b⟩
theorem Z5u{P:Nat}{k:Int}{r:Q01}(h:Qbl P k r):Qbl P k (Qcs r)/\(Qcs r).A0.A4=r.A0.A4:=by
 unfold Qcs
 cases Qko r.A0.A7 r.B3
 . exact⟨h,rfl⟩
 . exact Z0u h U_0
theorem Z68{P:Nat}{k:Int}{r:Q01}(h:Qbl P k r)(hs:Q2a r.A0=false):Qbl P (k+1) (Zh7 r):=by
 obtain⟨a,b,_⟩:=Z8y h.m hs h.clock
 have hc:=h.cnt
 exact⟨a,Q0l _,by show(Q0z r.A0 r.B3).2.A4<=k+1;omega⟩
theorem xl{P:Nat}(n:Nat): ∀{k:Int} {r:Q01} {o:List Q08},Qbl P k r->Qbl P (k+n) (recF n r o).1:=by
 induction n with
 |zero=>intro k r o h;exact⟨h.m,h.clock,by have:=h.cnt;show r.A0.A4<=k+(0:Nat);omega⟩
 | succ n ih=>
   intro k r o h
   obtain⟨f,fc⟩:=Z5u h
   unfold recF
   cases hs:Q2a (Qcs r).A0
   . have t:=ih (o:=o++(Q0z (Qcs r).A0 (Qcs r).B3).1) (Z68 f hs)
     exact⟨t.m,t.clock,by have:=t.cnt;show(recF n _ _).1.A0.A4<=_;omega⟩
   . exact⟨f.m,f.clock,by have:=f.cnt;show(Qcs r).A0.A4<=_;omega⟩
theorem Z5h{P:Nat}{k:Int}(l:List Q0e): ∀{r:Q01},Qbl P k r->(∀q∈l,U q.N)->Qbl P k (l.foldl Qbf r)/\(l.foldl Qbf r).B0=r.B0:=by
 induction l with
 |nil=>intro r h _;exact⟨h,rfl⟩
 | cons e l ih=>
   intro r h hu
   obtain⟨a,b⟩:=ih (Z0u h (hu e (by simp))).1 (λq hq=>hu q (by simp [hq]))
   exact⟨a,b.trans (Qne r e)⟩
theorem Zl7(n:Nat): ∀(r:Q01) (o:List Q08),(recF n r o).1.B0=r.B0:=by
 induction n with
 |zero=>intro r o;rfl
 | succ n ih=>
   intro r o
   have f:(Qcs r).B0=r.B0:=by
     unfold Qcs;cases Qko r.A0.A7 r.B3
     . rfl
     . exact Qne _ _
   unfold recF
   cases Q2a (Qcs r).A0
   . exact(ih _ _).trans f
   . exact f
def okQ(l:List Q0e):Prop:=l.length<=16/\ ∀q∈l,U q.N
theorem zl{P:Nat}{k:Int}{r:Q01}(h:Qbl P k r)(hq:okQ r.B0)(steps:Int){clock:Int}(hc:U clock):Qbl P (k+4000) (advF r steps clock).1/\okQ (advF r steps clock).1.B0:=by
 obtain⟨l0,l1⟩:=Z2z steps
 unfold advF
 rw[h.m.rmay]
 have hcl:U (if clock>r.B3 then clock else r.B3):=by split<;>first|exact hc|exact h.clock
 obtain⟨a,b⟩:=Z5h r.B0 (r:={A0:=r.A0,B3:=if clock>r.B3 then clock else r.B3,C7:=r.C7,B0:=r.B0}) ⟨h.m,hcl,h.cnt⟩ hq.2
 have c:=xl (Q19 steps).toNat (o:=[]) (r:=noQ (r.B0.foldl Qbf {A0:=r.A0,B3:=if clock>r.B3 then clock else r.B3,C7:=r.C7,B0:=r.B0})) ⟨a.m,a.clock,a.cnt⟩
 refine⟨⟨c.m,c.clock,?_⟩,?_⟩
 . have:=c.cnt
   show(recF _ _ _).1.A0.A4<=_
   omega
 . show okQ (recF _ _ _).1.B0
   rw[Zl7];exact⟨aT _,λq hq=>by cases hq⟩
theorem qal(n:Int):U (Qg4 n).N:=Tree.post _ (qx n)
theorem Zcq(r:Q01)(e:Q0e):Q4p r e=bif !Qhj e then(r,false) else bif e.C4==1 then(r,false) else bif decide ((r.B0.length:Int)>=16) then(r,false) else({A0:=r.A0,B3:=r.B3,C7:=r.C7,B0:=r.B0++[e]},true):=by
 simp only[Q4p,Q7n,Tree.m,letv,Zk0]
theorem Zfu{P:Nat}{k:Int}{r:Q01}(h:Qbl P k r)(hq:okQ r.B0){e:Q0e}(he:U e.N):Qbl P k (Q4p r e).1/\okQ (Q4p r e).1.B0:=by
  rw[Zcq]
  cases Qhj e
  . exact⟨h,hq⟩
  . cases e.C4==1
    . cases hl:decide ((r.B0.length:Int)>=16)
      . have hl:=oN hl
        refine⟨⟨h.m,h.clock,h.cnt⟩,?_,λq hm=> ?_⟩
        . show(r.B0++[e]).length<=16
          rw[lA,dA];omega
        . have hm:q∈r.B0++[e]:=hm
          rcases List.mem_append.1 hm with hm|hm
          . exact hq.2 q hm
          . rw[List.mem_singleton.1 hm];exact he
      . exact⟨h,hq⟩
    . exact⟨h,hq⟩
theorem Zis{r:Q01}{n:Int}(h:(dF (Q99 n 3) 3==0)=true):Q5t r n=((Q4p r (Qg4 n)).1,[]):=by
 show Tree.V (Q79 r n) (λx=>x=((Q4p r (Qg4 n)).1,[]))
 unfold Q79
 refine v_lv λx0 e0=>v_br (λ_=>v_an (v_lv λx1 e1=>v_an (v_lv λx2 e2=>v_lf ?_))) (λhb=> ?_)
 . rw[e2,e1]
 . rw[e0,h]at hb;cases hb
theorem Zj4{r:Q01}{n:Int}(h:(dF (Q99 n 3) 3==0)=false):Q5t r n=Qca r (Q1s (ishr .i64 (Q99 n 3) 4) 12) (wrap .u32 (iand .i64 (ishr .i64 (Q99 n 3) 12) 255)):=by
 show Tree.V (Q79 r n) (λx=>x=Qca r (Q1s (ishr .i64 (Q99 n 3) 4) 12) (wrap .u32 (iand .i64 (ishr .i64 (Q99 n 3) 12) 255)))
 unfold Q79
 refine v_lv λx0 e0=>v_br (λhb=> ?_) (λ_=>v_an (v_lv λx1 e1=>v_an (v_lv λx2 e2=>v_lf ?_)))
 . rw[e0,h]at hb;cases hb
 . rw[e2,e1,e0]
theorem yl{P:Nat}{k:Int}{A:Q01×Bool}(h:Qbl P k A.1/\okQ A.1.B0):Qbl P (k+4000) (A.1,([]:List Q08)).1/\okQ (A.1,([]:List Q08)).1.B0:=
 ⟨⟨h.1.m,h.1.clock,by have:=h.1.cnt;show A.1.A0.A4<=_;omega⟩,h.2⟩
theorem Z77{P:Nat}{k:Int}{r:Q01}(h:Qbl P k r)(hq:okQ r.B0)(n:Int):Qbl P (k+4000) (Q5t r n).1/\okQ (Q5t r n).1.B0:=by
 cases hm:dF (Q99 n 3) 3==0
 . rw[Zj4 hm,Zka _ _ _ (by have:=hq.1;omega)]
   exact zl h hq _ (Q0l _)
 . rw[Zis hm]
   exact yl (Zfu h hq (qal n))
def Qnb(s:Q01×List Q08)(n:Int):Q01×List Q08:=((Q5t s.1 n).1,s.2++(Q5t s.1 n).2)
theorem zal(m:Q00)(l:List Int)(hl:l.length<=1000000):Z0r m l=l.foldl Qnb (Q35 m,[]):=by
 show Tree.V (Qaw m l) (λx=>x=l.foldl Qnb (Q35 m,[]))
 unfold Qaw
 refine v_an (v_lv λx0 e0=> ?_)
 subst e0
 refine v_lp (inv:=λz:Int×Q01×List Q08=>0<=z.1/\z.1<=l.length/\(l.drop z.1.toNat).foldl Qnb z.2=l.foldl Qnb (Q35 m,[])) (μ:=Qgn m l) ⟨cX 0,by show(0:Int)<=_;omega,rfl⟩ (cO _) λz ⟨z0,z1,z2⟩=> ?_
 obtain⟨i,r,o⟩:=z
 have z0:0<=i:=z0
 have z1:i<=l.length:=z1
 refine v_br (λhb=>v_cn (v_an (v_lv λx1 e1=>v_cn (v_nx ?_)))) (λhb=>v_lf ?_)
 . have hb:i<l.length:=oY hb
   have ew:i64.wrap (i+1)=i+1:=by rw[wrap_i64];omega
   have hlt:i.toNat<l.length:=by omega
   show(0<=i64.wrap (i+1)/\i64.wrap (i+1)<=l.length/\(l.drop (i64.wrap (i+1)).toNat).foldl Qnb (x1.1,o++x1.2)=_)/\(l.length-i64.wrap (i+1)).toNat<(l.length-i).toNat
   rw[ew]
   refine⟨⟨by omega,by omega,?_⟩,by omega⟩
   rw[<-z2]
   show _=(l.drop i.toNat).foldl Qnb (r,o)
   rw[aB hlt,aD,show(i+1).toNat=i.toNat+1 by omega,e1]
   have ed:l.getD i.toNat 0=l[i.toNat]:=by rw[cP,cG hlt];rfl
   rw[show Qnb (r,o) l[i.toNat]=((Q5t r l[i.toNat]).1,o++(Q5t r l[i.toNat]).2) from by unfold Qnb;rfl,<-ed]
 . have hb: ¬i<l.length:=oN hb
   show(r,o)=_
   rw[<-z2]
   show _=(l.drop i.toNat).foldl Qnb (r,o)
   rw[aA (by omega)];rfl
theorem vl{P:Nat}{k:Int}{x:Q01×List Q08}(h:Qbl P k x.1/\okQ x.1.B0)(o:List Q08):Qbl P k (x.1,o++x.2).1/\okQ (x.1,o++x.2).1.B0:=h
theorem Ze2(s:Q01×List Q08)(n:Int):Qnb s n=((Q5t s.1 n).1,s.2++(Q5t s.1 n).2):=by unfold Qnb;rfl
theorem qm{P:Nat}{k:Int}{s:Q01×List Q08}(h:Qbl P k s.1/\okQ s.1.B0)(n:Int):Qbl P (k+4000) (Qnb s n).1/\okQ (Qnb s n).1.B0:=by
 rw[Ze2]
 exact vl (Z77 h.1 h.2 n) s.2
theorem xm{σ:Type}{f:σ->Int->σ}{I:Int->σ->Prop}(hf: ∀k s n,I k s->I (k+4000) (f s n))(l:List Int): ∀k s,I k s->I (k+4000*l.length) (l.foldl f s):=by
 induction l with
 |nil=>intro k s h;simpa using h
 | cons n l ih=>
   intro k s h
   have:=ih _ _ (hf k s n h)
   rw[aD,dJ]
   rwa [show k+4000*((l.length+1:Nat):Int)=k+4000+4000*l.length by omega]
theorem Zkx{P:Nat}(l:List Int){k:Int}{s:Q01×List Q08}(h:Qbl P k s.1/\okQ s.1.B0):Qbl P (k+4000*l.length) (l.foldl Qnb s).1/\okQ (l.foldl Qnb s).1.B0:=
 xm (I:=λk s=>Qbl P k s.1/\okQ s.1.B0) (λk s n h=>qm h n) l k s h
theorem zm(m:Q00):Q35 m={A0:=m,B3:=0,C7:=[],B0:=[]}:=by
 simp only[Q35,Q3e,Tree.m,letv,Z1x]
theorem Z90{i:List Int}(hu: ∀w∈i,U w)(hl:i.length<=256):good 8 (Q1l 8 4 i).1/\(Q1l 8 4 i).1.A4=0:=by
 obtain⟨a,b⟩:=(Tree.pp (new_w i hu hl)).2
 change okM 8 (Q1l 8 4 i).1 at a
 refine⟨⟨a,?_⟩,b⟩
 have e:(Q1l 8 4 i).2=true:=by
   have w:i64.wrap (8*32)=256:=by decide
   simp only[Q1l,Q7p,Tree.m,w,letv,dN (show¬((i.length:Int)>256) by omega)]
   rfl
 obtain⟨a1,a2,a3,a4,a5,a6⟩:=zaK 8 4 i e
 exact(xaK _ 8 4 a1 a2 a3 a4 a5 _ a6).1
theorem ym{m:Q00}(h:good 8 m)(hc:m.A4<=87):Tree.V (Q5p m [] 87) (λx=>x.2.2.2=0->good 8 x.1/\x.1.A4<=87):=by
 have z: ∀{k:Int} {p:Prop},k≠0->k=0->p:=λa b=>absurd b a
 unfold Q5p
 refine v_lv λx0 _=>v_br (λ_=>v_lf (z (by decide))) λ_=>v_br (λ_=>v_lf (z (by decide))) λ_=>v_br (λ_=>v_lf (z (by decide))) λ_=>v_an (v_lv λx1 _=>v_br (λ_=>v_lf (z (by decide))) λ_=>v_an (v_lv λx2 hx=> ?_))
 rw[Z1x]at hx
 refine v_lp (inv:=λv:Q00×List Q08=>good 8 v.1/\v.1.A4<=87) (μ:=Qaf m [] 87) ⟨by rw[hx];exact h,by rw[hx];exact hc⟩ (cO _) λv0 ⟨a1,a3⟩=> ?_
 have a2:=a1.ok.cnt
 refine v_br (λhb=>v_br (λhm=> ?_) (λ_=>v_lf λ_=>⟨a1,a3⟩)) (λ_=>v_lf λ_=>⟨a1,a3⟩)
 have hb:=oY hb
 have hm:=oY hm
 refine v_lp (inv:=λ_=>True) (μ:=Qaa m [] 87 v0) trivial (cO _) λv1 _=> ?_
 refine v_br (λ_=>v_lf λ_=>⟨a1,a3⟩) λhh=>v_an (v_lv λx3 h3=>v_br (λ_=>v_lf λ_=>⟨a1,a3⟩) λhi=>v_an (v_lv λx4 _=>v_br (λ_=>v_lf (z (by decide))) λ_=>v_an (v_lv λx5 h5=>v_cn (v_nx ?_))))
 obtain⟨b1,b2,_⟩:=Z8y a1 ((Z0e a1).2 ⟨hh,h3.symm.trans hi,hm⟩) (clock:=0) U_0
 rw[<-h5]at b1 b2
 show(good 8 x5.2/\x5.2.A4<=87)/\(87-x5.2.A4).toNat<(87-v0.1.A4).toNat
 exact⟨⟨b1,by omega⟩,by omega⟩
theorem Zbj(kind:Int)(l:List Int)(hl:l.length*8<=reachBytes)(h40:l.length<=40):good 8 (Qel kind l)/\(Qel kind l).A4<=87:=by
  show Tree.V (Q3j kind l) (λm=>good 8 m/\m.A4<=87)
  have code:=(Tree.pp (Zir l hl)).2
  change((Qgh l).length:Int)=l.length/\ ∀w∈Qgh l,U w at code
  obtain⟨b1,b2⟩:=code
  unfold Q3j
  refine v_an (v_lv λx0 hx0=>v_br (λ_=>v_an (v_lv λx1 e1=> ?_)) (λhk=> ?_))
  . have eb:x1.1=boot:=by rw[e1];rfl
    obtain⟨q1,q2⟩:boot.length<=160/\ ∀w∈boot,U w:=Zki
    refine v_lp (inv:=λv:List Int=>v.length<=160/\v=boot++cR (v.length-boot.length) 0) (μ:=Q7z kind l) ⟨by rw[eb];exact q1,by rw[eb];simp⟩ (cO _) λv0 ⟨a1,a2⟩=> ?_
    have a3:boot.length<=v0.length:=by rw[a2,lA];omega
    refine v_br (λhb=> ?_) (λhb=> ?_)
    . have hb:=oY hb
      refine v_cn (v_nx ?_)
      show(_/\_)/\(_:Nat)<_
      refine⟨⟨by rw[lA,dA];omega,?_⟩,by show 160-(v0++[0]).length<160-v0.length;rw[lA,dA];omega⟩
      show v0++[0]=boot++cR ((v0++[0]).length-boot.length) 0
      rw[lA,dA,show v0.length+1-boot.length=(v0.length-boot.length)+1 by omega,List.replicate_succ',<-fK,<-a2]
    . have hb:=oN hb
      have hv:v0=Qjd:=by
        unfold Qjd
        rw[show(160:Nat)=v0.length by omega]
        exact a2
      subst hv
      have hp:=zad
      have hu0: ∀w∈Qjd,U w:=λw hw=>(List.mem_append.1 hw).elim (q2 w) (U_all _ w)
      refine v_an (v_lv λx2 e2=>v_cn ?_)
      rw[<-e2]at b1 b2
      have hu: ∀w∈Qjd++x2,U w:=λw hw=>(List.mem_append.1 hw).elim (hu0 w) (b2 w)
      have hlen:(Qjd++x2).length<=256:=by rw[lA];omega
      refine v_br (λhb=> ?_) (λhb=> ?_)
      . have hb:=oY hb;omega
      . obtain⟨c1,c2⟩:=Z90 hu hlen
        refine v_an (v_lv λx3 h3=> ?_)
        rw[<-h3]at c1 c2
        have rn:=ym c1 (by omega)
        refine v_br (λ_=>v_an (v_lv λx4 hx=>v_lf ?_)) (λ_=>v_lf ⟨c1,by omega⟩)
        have e:x3=Q1l 8 4 (Qjd++(x2++cR (96-x2.length) 0)):=by
          rw[h3]
          have hl2:(x2++cR (96-x2.length) (0:Int)).length=96:=by rw[lA,cW];omega
          refine qad _ _ hlen (by rw[lA,hl2];omega) ?_
          rw[lA,lA,hl2,hp,fK,fK,fK,show 256-(160+96)=0 by omega,show 256-(160+x2.length)=96-x2.length by omega]
          simp
        have h0:x4.2.2.2=0:=by
          rw[hx,e]
          exact zaz _ (by rw[lA,cW];omega)
        exact(by rw[hx];exact rn:x4.2.2.2=0->good 8 x4.1/\x4.1.A4<=87) h0
  . have hk:=oN hk
    refine v_an (v_lv λx2 e2=>v_cn ?_)
    rw[<-e2]at b1 b2
    refine v_br (λhb=> ?_) (λhb=> ?_)
    . have hb:=oY hb;omega
    . obtain⟨c1,c2⟩:=Z90 b2 (by omega)
      refine v_an (v_lv λx3 h3=> ?_)
      rw[<-h3]at c1 c2
      exact v_br (λh=>absurd (eq_of_beq h) (by omega)) (λ_=>v_lf ⟨c1,by omega⟩)
structure rngM(m:Q00):Prop where
 dl:U m.A7.C3
 bl:U m.A9.Blocks
 st: -9223372036854775808<=m.A9.B7/\m.A9.B7<9223372036854775808
 cm: -9223372036854775808<=m.A9.D4/\m.A9.D4<9223372036854775808
 ct:0<=m.A4/\m.A4<18446744073709551616
theorem SubL.rfl: ∀{l:List D},SubL l l
 |[]=>trivial
 |_::_=>⟨Sub1.rfl,SubL.rfl⟩
theorem SubL.append: ∀{a b a' b':List D},SubL a a'->SubL b b'->SubL (a++b) (a'++b')
 |[],_,[],_,_,h=>h
 |_::_,_,_::_,_,h,g=>⟨h.1,SubL.append h.2 g⟩
 |[],_,_::_,_,h,_=>h.elim
 |_::_,_,[],_,h,_=>h.elim
def uvL(n:Nat):List Int:=if h:n<128 then [(n:Int)] else((n%128+128:Nat):Int)::uvL (n/128)
termination_by n
decreasing_by omega
theorem Qwr{n:Nat}(h:n<128):uvL n=[(n:Int)]:=by unfold uvL;rw[dif_pos h]
theorem Qzk{n:Nat}(h: ¬n<128):uvL n=((n%128+128:Nat):Int)::uvL (n/128):=by
 conv=>lhs;unfold uvL
 rw[dif_neg h]
theorem Zhr: ∀(k n:Nat),n<128^(k+1)->(uvL n).length<=k+1
 |0,n,h=>by rw[Qwr (by simpa using h)];exact aO _
 | k +1,n,h=>by
   by_cases g:n<128
   . rw[Qwr g];exact Nat.le_add_left _ _
   . rw[Qzk g,dJ]
     have:=Zhr k (n/128) (by rw[Nat.pow_succ]at h;exact Nat.div_lt_of_lt_mul (by rw[fA];exact h))
     omega
theorem Zkk: ∀(n:Nat),∀x∈uvL n,0<=x/\x<256:=λn=>by
 induction n using fL with
 | _ n ih=>
   intro x hx
   by_cases g:n<128
   . rw[Qwr g]at hx
     rw[List.mem_singleton.1 hx];omega
   . rw[Qzk g]at hx
     rcases List.mem_cons.1 hx with e|e
     . rw[e];omega
     . exact ih (n/128) (by omega) x e
def uvB(x:Int):List UInt8:=bytesOf (uvL x.toNat)
theorem Qp: ∀s:List UInt8,bytesOf (Q1p s)=s
 |[]=>rfl
 | b::s=>by
   show fB ((b.toNat:Int)).toNat::bytesOf (Q1p s)=_
   rw[Qp s,eF,UInt8.ofNat_toNat]
theorem or128: ∀n:Fin 256,ior .u8 (n.val:Int) 128=((n.val%128+128:Nat):Int):=by decide
theorem vK{x:Int}(h:0<=x):ior .u8 (wrap .u8 x) 128=((x.toNat%128+128:Nat):Int):=by
 have e:wrap .u8 x=((x.toNat%256:Nat):Int):=by rw[wrap_u8];omega
 rw[e]
 have:=or128 ⟨x.toNat%256,eN _ (by decide)⟩
 rw[this]
 show((x.toNat%256%128+128:Nat):Int)=_
 omega
theorem shr7{x:Int}(h:0<=x):ishr .u64 x 7=((x.toNat/128:Nat):Int):=by
 have:ishr .u64 x 7=x.fdiv 128:=rfl
 rw[this,dQ _ (by decide)];omega
theorem qaF{x:Int}(h0:0<=x)(h1:x<18446744073709551616):(Q6p x).w (λs=>s=uvB x):=by
 have hl:=Zhr 9 x.toNat (by rw[show(128:Nat)^(9+1)=1180591620717411303424 by decide];omega)
 unfold Q6p
 refine w_lp (inv:=λv:Int×List Int=>0<=v.1/\v.2++uvL v.1.toNat=uvL x.toNat) (μ:=Qea x) ⟨h0,rfl⟩ (cO _) λv ⟨a,b⟩=> ?_
 obtain⟨y,o⟩:=v
 have a:0<=y:=a
 have b:o++uvL y.toNat=uvL x.toNat:=b
 have bl:=congrArg dL b
 rw[lA]at bl
 refine w_br (λhb=> ?_) (λhb=> ?_)
 . have hb:y>=128:=oY hb
   have g: ¬y.toNat<128:=by omega
   rw[Qzk g]at b bl
   rw[dJ]at bl
   refine w_cn (dY (by show 1*(o.length+1)<=_;omega)) (w_nx ?_)
   show(0<=ishr .u64 y 7/\(o++[ior .u8 (wrap .u8 y) 128])++uvL (ishr .u64 y 7).toNat=uvL x.toNat)/\(ishr .u64 y 7).toNat<y.toNat
   rw[shr7 a,vK a,eF]
   refine⟨⟨by omega,?_⟩,by omega⟩
   rw[fK];exact b
 . have hb: ¬y>=128:=oN hb
   have g:y.toNat<128:=by omega
   rw[Qwr g]at b bl
   refine w_cn (dY (by show 1*(o.length+1)<=_;rw[dA]at bl;omega)) ?_
   show bytesOf (o++[wrap .u8 y])=uvB x
   unfold uvB
   rw[<-b,show wrap .u8 y=((y.toNat:Nat):Int) by rw[wrap_u8];omega]
theorem Zih{x:Int}(h1:x<18446744073709551616):(uvB x).length<=10:=by
 unfold uvB bytesOf
 rw[fM]
 exact Zhr 9 x.toNat (by rw[show(128:Nat)^(9+1)=1180591620717411303424 by decide];omega)
def uvs(l:List Int):List UInt8:=l.flatMap uvB
theorem Qnk: ∀{l:List Int},(∀x∈l,x<18446744073709551616)->(uvs l).length<=10*l.length
 |[],_=>aO _
 | x::l,h=>by
   have a:=Zih (h x (by simp))
   have b:=Qnk (l:=l) λy hy=>h y (by simp [hy])
   show(uvB x++uvs l).length<=_
   rw[lA,dJ];omega
theorem Qkv(x:Int)(l:List Int):uvs (x::l)=uvB x++uvs l:=rfl
theorem xal(l m:List Int):uvs (l++m)=uvs l++uvs m:=List.flatMap_append
theorem Zip{b:List Int}{s:List UInt8}(h:b.length+s.length<=1000000):(Q2y b s).w (λx=>x.2.2=b++Q1p s):=by
 unfold Q2y
 refine w_lv λx0 e0=> ?_
 have e0:x0=b:=e0
 subst e0
 refine w_cn (dY ?_) rfl
 have:(Q1p s).length=s.length:=fM ..
 omega
theorem Q0u(s:List UInt8):(Q1p s).length=s.length:=fM ..
theorem Qg3(s t:List UInt8):Q1p (s++t)=Q1p s++Q1p t:=bK
theorem Qz8{l:List Int}{i:Nat}(h:i<l.length):l.getD i 0=l[i]:=by rw[cP,cG h];rfl
theorem Qh5{c l:List Int}(hl: ∀x∈l,0<=x/\x<18446744073709551616)(hc:c.length+10*l.length<=1000000):(Q2u c l).w (λx=>x=c++Q1p (uvs l)):=by
 unfold Q2u
 refine w_lp (inv:=λv:Int×List Int=>0<=v.1/\v.1<=l.length/\v.2++Q1p (uvs (l.drop v.1.toNat))=c++Q1p (uvs l)) (μ:=Q8c c l) ⟨cX 0,by show(0:Int)<=_;omega,rfl⟩ (cO _) λv ⟨a1,a2,a3⟩=> ?_
 obtain⟨i,o⟩:=v
 have a1:0<=i:=a1
 have a2:i<=l.length:=a2
 have a3:o++Q1p (uvs (l.drop i.toNat))=c++Q1p (uvs l):=a3
 refine w_br (λhb=> ?_) (λhb=> ?_)
 . have hb:i<l.length:=oY hb
   have hlt:i.toNat<l.length:=by omega
   have ew:i64.wrap (i+1)=i+1:=by rw[wrap_i64];omega
   have ed:=Qz8 hlt
   have hm:=hl _ (cQ hlt)
   rw[aB hlt,Qkv,Qg3,<-ed]at a3
   rw[<-ed]at hm
   have len:=congrArg dL a3
   rw[lA,lA,lA,Q0u,Q0u,Q0u]at len
   have ul:=Qnk λy hy=>(hl y hy).2
   refine w_cn (by simp [bT];omega) (Q0a (qaF hm.1 hm.2) λx0 e0=> ?_)
   rw[e0]
   refine Q0a (Zip (b:=o) (s:=uvB (l.getD i.toNat 0)) (by omega)) λx1 e1=>w_nx ?_
   show(0<=i64.wrap (i+1)/\i64.wrap (i+1)<=l.length/\x1.2.2++Q1p (uvs (l.drop (i64.wrap (i+1)).toNat))=c++Q1p (uvs l))/\(l.length-i64.wrap (i+1)).toNat<(l.length-i).toNat
   rw[ew,e1,show(i+1).toNat=i.toNat+1 by omega,fK]
   exact⟨⟨by omega,by omega,a3⟩,by omega⟩
 . have hb: ¬i<l.length:=oN hb
   rw[aA (by omega)]at a3
   show o=_
   rw[<-a3];exact(cJ o).symm
theorem u64_U{x:Int}(h:U x):wrap .u64 x=x:=by have:=h.1;have:=h.2;rw[wrap_u64];omega
theorem Qha{c l:List Int}(hl: ∀x∈l,U x)(hc:c.length+10*l.length<=900000):(Q3p c l).w (λx=>x=c++Q1p (uvs l)):=by
 unfold Q3p
 refine w_lp (inv:=λv:Int×List Int=>0<=v.1/\v.1<=l.length/\v.2++Q1p (uvs (l.drop v.1.toNat))=c++Q1p (uvs l)) (μ:=Qa2 c l) ⟨cX 0,by show(0:Int)<=_;omega,rfl⟩ (cO _) λv ⟨a1,a2,a3⟩=> ?_
 obtain⟨i,o⟩:=v
 have a1:0<=i:=a1
 have a2:i<=l.length:=a2
 have a3:o++Q1p (uvs (l.drop i.toNat))=c++Q1p (uvs l):=a3
 refine w_br (λhb=> ?_) (λhb=> ?_)
 . have hb:i<l.length:=oY hb
   have hlt:i.toNat<l.length:=by omega
   have ew:i64.wrap (i+1)=i+1:=by rw[wrap_i64];omega
   have ed:=Qz8 hlt
   have hm:=hl _ (cQ hlt)
   rw[aB hlt,Qkv,Qg3,<-ed]at a3
   rw[<-ed]at hm
   have len:=congrArg dL a3
   rw[lA,lA,lA,Q0u,Q0u,Q0u]at len
   have ul:=Qnk (l:=l) λy hy=>by have:=(hl y hy).2;omega
   have h2:=hm.2
   refine w_cn (by simp [bT];omega) (Q0a (Qh5 (c:=o) (λx hx=>by rw[List.mem_singleton.1 hx,u64_U hm];exact⟨hm.1,by omega⟩) (by show o.length+10*1<=_;omega)) λx0 e0=>w_nx ?_)
   have e0:x0=o++Q1p (uvB (l.getD i.toNat 0)):=by
     rw[e0,u64_U hm,Qkv]
     show o++Q1p (uvB _++[])=_
     rw[cJ]
   show(0<=i64.wrap (i+1)/\i64.wrap (i+1)<=l.length/\x0++Q1p (uvs (l.drop (i64.wrap (i+1)).toNat))=c++Q1p (uvs l))/\(l.length-i64.wrap (i+1)).toNat<(l.length-i).toNat
   rw[ew,e0,show(i+1).toNat=i.toNat+1 by omega,fK]
   exact⟨⟨by omega,by omega,a3⟩,by omega⟩
 . have hb: ¬i<l.length:=oN hb
   rw[aA (by omega)]at a3
   show o=_
   rw[<-a3];exact(cJ o).symm
def Qxx(b:Bool):Int:=bif b then 1 else 0
theorem Z59{c:List Int}(b:Bool)(hc:c.length<=999000):(Q4b c b).w (λx=>x=c++Q1p (uvs [Qxx b])):=by
 unfold Q4b
 cases b
 . exact w_br (λh=>by cases h) λ_=>Q0a (Qh5 (c:=c) (l:=[0]) (λx hx=>by rw[List.mem_singleton.1 hx];decide) (by show c.length+10*1<=_;omega)) λx e=>e
 . exact w_br (λ_=>Q0a (Qh5 (c:=c) (l:=[1]) (λx hx=>by rw[List.mem_singleton.1 hx];decide) (by show c.length+10*1<=_;omega)) λx e=>e) λh=>by cases h
def Z9q(s:List UInt8):List UInt8:=uvB s.length++s
theorem Zkf{c:List Int}{s:List UInt8}(hc:c.length+s.length<=900000):(Q3n c s).w (λx=>x=c++Q1p (Z9q s)):=by
 have ew:wrap .u64 ((s.length:Nat):Int)=s.length:=by rw[wrap_u64];omega
 have hu:=Zih (x:=(s.length:Int)) (by omega)
 unfold Q3n
 refine Q0a (Qh5 (c:=c) (λx hx=>by rw[List.mem_singleton.1 hx,ew];omega) (by show c.length+10*1<=_;omega)) λx0 e0=> ?_
 rw[ew]at e0
 have e0:x0=c++Q1p (uvB s.length):=by
   rw[e0,Qkv]
   show c++Q1p (uvB _++[])=_
   rw[cJ]
 refine Q0a (Zip (by rw[e0,lA,Q0u];omega)) λx1 e1=> ?_
 show x1.2.2=_
 rw[e1,e0]
 unfold Z9q
 rw[Qg3,fK]
def enc1(m:Q00):List Int:=A16.l m.B1.X++(m.B1.Pc::A8.l m.B1.B4)++[(m.Mem.length:Int)]
def enc2(m:Q00):List Int:=[Qxx m.A7.D2,m.A7.C3,Qxx m.A7.D1,m.A9.Blocks,m.A9.C1,m.A9.Frame,wrap .u64 m.A9.B7,wrap .u64 m.A9.D4,m.A9.B5,m.A9.B2]
def enc3(m:Q00):List Int:=[m.B9.Frame,m.B9.D8,Qxx m.B9.C5,m.B9.C0,Qxx m.B9.B6,m.B9.D9,m.A1.C6,m.A1.C2,m.A4,Qxx m.A3,Qxx m.A6]
def encM(m:Q00):List UInt8:=uvs (enc1 m)++(uvs m.Mem++(Z9q m.A2.D0++(uvs (enc2 m)++(Z9q m.A9.B8++uvs (enc3 m)))))
theorem Za0{m:Q00}(hv:okV m)(hr:rngM m)(hm:m.Mem.length<=1024)(hk:m.A2.D0.length<=100000)(ho:m.A9.B8.length<=100000):(Q7b m).w (λs=>s=encM m/\s.length<=400000):=by
 obtain⟨c1,c2,c3⟩:=hv.cpu
 obtain⟨d1,d2,d3,d4⟩:=hv.disk
 obtain⟨n1,n2,n3,n4⟩:=hv.nic
 obtain⟨b1,b2⟩:=hv.bal
 obtain⟨r1,r2,r3,r4,r5⟩:=hr
 have one: ∀{x:Int},U x-> ∀y∈[x],U y:=λh y hy=>by rw[List.mem_singleton.1 hy];exact h
 have kl: ∀{s:List UInt8},s.length<=100000->(Z9q s).length<=10+s.length:=fun{s} h=>by
   have:=Zih (x:=(s.length:Int)) (by omega)
   unfold Z9q;rw[lA];omega
 have k1:=kl hk
 have k2:=kl ho
 have ws: ∀{l:List Int},(∀x∈l,U x)->(uvs l).length<=10*l.length:=λh=>Qnk λy hy=>by have:=(h y hy).2;omega
 have W: ∀{x:Int},0<=wrap .u64 x/\wrap .u64 x<18446744073709551616:=fun{x}=>by rw[wrap_u64];omega
 have fl: ∀b:Bool,(uvs [Qxx b]).length<=10:=λb=>Qnk (l:=[Qxx b]) λy hy=>by rw[List.mem_singleton.1 hy];cases b<;>decide
 have ml:=ws hv.mem
 have eL:wrap .u64 ((m.Mem.length:Nat):Int)=m.Mem.length:=by rw[wrap_u64];omega
 have U3: ∀x∈[m.A9.Blocks,m.A9.C1,m.A9.Frame],U x:=λx hx=>by
   simp only[cU,cV,or_false]at hx
   rcases hx with rfl|rfl|rfl<;>assumption
 have U2: ∀{a b:Int},U a->U b-> ∀x∈[a,b],U x:=λha hb x hx=>by
   simp only[cU,cV,or_false]at hx
   rcases hx with rfl|rfl<;>assumption
 have S2: ∀x∈[wrap .u64 m.A9.B7,wrap .u64 m.A9.D4],0<=x/\x<18446744073709551616:=λx hx=>by
   simp only[cU,cV,or_false]at hx
   rcases hx with rfl|rfl<;>exact W
 have sl:=Qnk (l:=[wrap .u64 m.A9.B7,wrap .u64 m.A9.D4]) λx hx=>(S2 x hx).2
 have L16:=ws (l:=A16.l m.B1.X) c1
 have L8:=ws (l:=A8.l m.B1.B4) c3
 have l16:(A16.l m.B1.X).length=16:=rfl
 have l8:(A8.l m.B1.B4).length=8:=rfl
 have p1:=ws (one c2)
 have e1:=Qnk (l:=[(m.Mem.length:Int)]) λx hx=>by rw[List.mem_singleton.1 hx];omega
 have q1:=ws (one r1)
 have q2:=ws U3
 have q3:=ws (U2 d3 d4)
 have q4:=ws (U2 n1 n2)
 have q5:=ws (one n3)
 have q6:=ws (one n4)
 have q7:=ws (U2 b1 b2)
 have q8:=Qnk (l:=[m.A4]) λx hx=>by rw[List.mem_singleton.1 hx];exact r5.2
 have f1:=fl m.A7.D2
 have f2:=fl m.A7.D1
 have f3:=fl m.B9.C5
 have f4:=fl m.B9.B6
 have f5:=fl m.A3
 have f6:=fl m.A6
 simp only[dJ,dK]at sl p1 e1 q1 q2 q3 q4 q5 q6 q7 q8
 unfold Q7b
 refine Q0a (Qha (c:=[]) (l:=A16.l m.B1.X) c1 (by rw[l16];decide)) λx0 g0=> ?_
 have z0:x0.length<=160:=by rw[g0,lA,Q0u];show 0+_<=_;omega
 refine Q0a (Qha (one c2) (by show x0.length+10*1<=_;omega)) λx1 g1=> ?_
 have z1:x1.length<=170:=by rw[g1,lA,Q0u];omega
 refine Q0a (Qha (l:=A8.l m.B1.B4) c3 (by rw[l8];omega)) λx2 g2=> ?_
 have z2:x2.length<=250:=by rw[g2,lA,Q0u];omega
 rw[eL]
 refine Q0a (Qh5 (l:=[(m.Mem.length:Int)]) (λx hx=>by rw[List.mem_singleton.1 hx];omega) (by show x2.length+10*1<=_;omega)) λx3 g3=> ?_
 have z3:x3.length<=260:=by rw[g3,lA,Q0u];omega
 refine Q0a (Qha hv.mem (by omega)) λx4 g4=> ?_
 have z4:x4.length<=10500:=by rw[g4,lA,Q0u];omega
 refine Q0a (Zkf (s:=m.A2.D0) (by omega)) λx5 g5=> ?_
 have z5:x5.length<=110510:=by rw[g5,lA,Q0u];omega
 refine Q0a (Z59 m.A7.D2 (by omega)) λx6 g6=> ?_
 have z6:x6.length<=110520:=by rw[g6,lA,Q0u];omega
 refine Q0a (Qha (one r1) (by show x6.length+10*1<=_;omega)) λx7 g7=> ?_
 have z7:x7.length<=110530:=by rw[g7,lA,Q0u];omega
 refine Q0a (Z59 m.A7.D1 (by omega)) λx8 g8=> ?_
 have z8:x8.length<=110540:=by rw[g8,lA,Q0u];omega
 refine Q0a (Qha U3 (by show x8.length+10*3<=_;omega)) λx9 g9=> ?_
 have z9:x9.length<=110570:=by rw[g9,lA,Q0u];omega
 refine Q0a (Qh5 S2 (by show x9.length+10*2<=_;omega)) λx10 g10=> ?_
 have z10:x10.length<=110590:=by rw[g10,lA,Q0u];omega
 refine Q0a (Qha (U2 d3 d4) (by show x10.length+10*2<=_;omega)) λx11 g11=> ?_
 have z11:x11.length<=110610:=by rw[g11,lA,Q0u];omega
 refine Q0a (Zkf (s:=m.A9.B8) (by omega)) λx12 g12=> ?_
 have z12:x12.length<=210620:=by rw[g12,lA,Q0u];omega
 refine Q0a (Qha (U2 n1 n2) (by show x12.length+10*2<=_;omega)) λx13 g13=> ?_
 have z13:x13.length<=210640:=by rw[g13,lA,Q0u];omega
 refine Q0a (Z59 m.B9.C5 (by omega)) λx14 g14=> ?_
 have z14:x14.length<=210650:=by rw[g14,lA,Q0u];omega
 refine Q0a (Qha (one n3) (by show x14.length+10*1<=_;omega)) λx15 g15=> ?_
 have z15:x15.length<=210660:=by rw[g15,lA,Q0u];omega
 refine Q0a (Z59 m.B9.B6 (by omega)) λx16 g16=> ?_
 have z16:x16.length<=210670:=by rw[g16,lA,Q0u];omega
 refine Q0a (Qha (one n4) (by show x16.length+10*1<=_;omega)) λx17 g17=> ?_
 have z17:x17.length<=210680:=by rw[g17,lA,Q0u];omega
 refine Q0a (Qha (U2 b1 b2) (by show x17.length+10*2<=_;omega)) λx18 g18=> ?_
 have z18:x18.length<=210700:=by rw[g18,lA,Q0u];omega
 refine Q0a (Qh5 (l:=[m.A4]) (λx hx=>by rw[List.mem_singleton.1 hx];exact r5) (by show x18.length+10*1<=_;omega)) λx19 g19=> ?_
 have z19:x19.length<=210710:=by rw[g19,lA,Q0u];omega
 refine Q0a (Z59 m.A3 (by omega)) λx20 g20=> ?_
 have z20:x20.length<=210720:=by rw[g20,lA,Q0u];omega
 refine Q0a (Z59 m.A6 (by omega)) λx21 g21=> ?_
 have z21:x21.length<=210730:=by rw[g21,lA,Q0u];omega
 refine w_lv λx22 e=> ?_
 have e:x22.1=bytesOf x21:=congrArg Prod.fst e
 show x22.1=encM m/\x22.1.length<=400000
 rw[e]
 refine⟨?_,by show(x21.map _).length<=_;rw[fM];omega⟩
 rw[g21,g20,g19,g18,g17,g16,g15,g14,g13,g12,g11,g10,g9,g8,g7,g6,g5,g4,g3,g2,g1,g0]
 simp only[fN,<-Qg3,Qp]
 unfold encM enc1 enc2 enc3
 simp only[xal,Qkv,fK,fN,show uvs []=[] from rfl,cJ]
theorem qam(n:Nat): ∀(k:Nat) (s t:List Int),uvL n++s=uvL k++t->n=k/\s=t:=by
  induction n using fL with
  | _ n ih=>
    intro k s t h
    by_cases a:n<128
    . by_cases b:k<128
      . rw[Qwr a,Qwr b]at h
        have h1:=(List.cons.inj h).1
        have h2:=(List.cons.inj h).2
        exact⟨by omega,h2⟩
      . rw[Qwr a,Qzk b]at h
        have h1:=(List.cons.inj h).1
        omega
    . by_cases b:k<128
      . rw[Qzk a,Qwr b]at h
        have h1:=(List.cons.inj h).1
        omega
      . rw[Qzk a,Qzk b]at h
        have h1:=(List.cons.inj h).1
        obtain⟨h3,h4⟩:=ih (n/128) (by omega) (k/128) s t (List.cons.inj h).2
        exact⟨by omega,h4⟩
theorem Z1g: ∀{l:List Int},(∀x∈l,0<=x/\x<256)->Q1p (bytesOf l)=l
 |[],_=>rfl
 | x::l,h=>by
   have hx:=h x (by simp)
   show((fB x.toNat).toNat:Int)::Q1p (bytesOf l)=_
   rw[Z1g λy hy=>h y (by simp [hy])]
   congr 1
   rw[fC]
   omega
theorem Zmo{s t:List UInt8}(h:Q1p s=Q1p t):s=t:=by rw[<-Qp s,h,Qp]
theorem vm{x y:Int}(hx:0<=x)(hy:0<=y){s t:List UInt8}(h:uvB x++s=uvB y++t):x=y/\s=t:=by
 have h:=congrArg Q1p h
 unfold uvB at h
 rw[Qg3,Qg3,Z1g (Zkk _),Z1g (Zkk _)]at h
 obtain⟨a,b⟩:=qam _ _ _ _ h
 exact⟨by omega,Zmo b⟩
theorem Z0a: ∀{l m:List Int} {s t:List UInt8},l.length=m.length->(∀x∈l,0<=x)->(∀x∈m,0<=x)->uvs l++s=uvs m++t->l=m/\s=t
 |[],[],_,_,_,_,_,h=>⟨rfl,h⟩
 | x::l,y::m,s,t,hl,h1,h2,h=>by
   rw[Qkv,Qkv,fK,fK]at h
   obtain⟨a,b⟩:=vm (h1 x (by simp)) (h2 y (by simp)) h
   obtain⟨c,d⟩:=Z0a (by simpa using hl) (λz hz=>h1 z (by simp [hz])) (λz hz=>h2 z (by simp [hz])) b
   exact⟨by rw[a,c],d⟩
 |[],_::_,_,_,hl,_,_,_=>by simp at hl
 |_::_,[],_,_,hl,_,_,_=>by simp at hl
theorem Zd3{a b s t:List UInt8}(h:Z9q a++s=Z9q b++t):a=b/\s=t:=by
 unfold Z9q at h
 rw[fK,fK]at h
 obtain⟨x,y⟩:=vm (by omega) (by omega) h
 exact fO y (by omega)
theorem Qk: ∀{a b:Bool},Qxx a=Qxx b->a=b:=by decide
theorem Qjl: ∀b:Bool,0<=Qxx b:=by decide
theorem qn{x y:Int}(hx: -9223372036854775808<=x/\x<9223372036854775808)(hy: -9223372036854775808<=y/\y<9223372036854775808)(h:wrap .u64 x=wrap .u64 y):x=y:=by
 rw[wrap_u64,wrap_u64]at h;omega
theorem xn{x y:A16 Int}(h:A16.l x=A16.l y):x=y:=by
 obtain⟨_,_,_,_,_,_,_,_,_,_,_,_,_,_,_,_⟩:=x
 obtain⟨_,_,_,_,_,_,_,_,_,_,_,_,_,_,_,_⟩:=y
 simp only[A16.l,List.cons.injEq,and_true]at h
 simp only[A16.mk.injEq];exact h
theorem vU{x y:A8 Int}(h:A8.l x=A8.l y):x=y:=by
 obtain⟨_,_,_,_,_,_,_,_⟩:=x
 obtain⟨_,_,_,_,_,_,_,_⟩:=y
 simp only[A8.l,List.cons.injEq,and_true]at h
 simp only[A8.mk.injEq];exact h
theorem Qqe{a b:Q00}(h1:a.B1=b.B1)(h2:a.Mem=b.Mem)(h3:a.A2=b.A2)(h4:a.A7=b.A7)(h5:a.A9=b.A9)(h6:a.B9=b.B9)(h7:a.A1=b.A1)(h8:a.A4=b.A4)(h9:a.A3=b.A3)(h10:a.A6=b.A6):a=b:=by
 obtain⟨_,_,_,_,_,_,_,_,_,_⟩:=a
 obtain⟨_,_,_,_,_,_,_,_,_,_⟩:=b
 simp only at h1 h2 h3 h4 h5 h6 h7 h8 h9 h10
 subst h1 h2 h3 h4 h5 h6 h7 h8 h9 h10
 rfl
theorem qL{a b:Q00}(ha:okV a)(ra:rngM a)(hb:okV b)(rb:rngM b)(h:encM a=encM b):a=b:=by
  have P: ∀{m:Q00},okV m->rngM m->(∀x∈enc1 m,0<=x)/\(∀x∈enc2 m,0<=x)/\(∀x∈enc3 m,0<=x):=fun{m} hv hr=>by
    have W: ∀x:Int,0<=wrap .u64 x:=λx=>by rw[wrap_u64];omega
    refine⟨λx hx=> ?_,λx hx=> ?_,λx hx=> ?_⟩
    . unfold enc1 at hx
      rcases List.mem_append.1 hx with hx|hx
      . rcases List.mem_append.1 hx with hx|hx
        . exact(hv.cpu.x x hx).1
        . rcases List.mem_cons.1 hx with hx|hx
          . rw[hx];exact hv.cpu.pc.1
          . exact(hv.cpu.csr x hx).1
      . rw[List.mem_singleton.1 hx];omega
    . simp only[enc2,cU,cV,or_false]at hx
      rcases hx with rfl|rfl|rfl|rfl|rfl|rfl|rfl|rfl|rfl|rfl
      . exact Qjl _
      . exact hr.dl.1
      . exact Qjl _
      . exact hr.bl.1
      . exact hv.disk.block.1
      . exact hv.disk.frame.1
      . exact W _
      . exact W _
      . exact hv.disk.opBlock.1
      . exact hv.disk.opFrame.1
    . simp only[enc3,cU,cV,or_false]at hx
      rcases hx with rfl|rfl|rfl|rfl|rfl|rfl|rfl|rfl|rfl|rfl|rfl
      . exact hv.nic.frame.1
      . exact hv.nic.len.1
      . exact Qjl _
      . exact hv.nic.buffer.1
      . exact Qjl _
      . exact hv.nic.got.1
      . exact hv.bal.1.1
      . exact hv.bal.2.1
      . exact hr.ct.1
      . exact Qjl _
      . exact Qjl _
  obtain⟨pa1,pa2,pa3⟩:=P ha ra
  obtain⟨pb1,pb2,pb3⟩:=P hb rb
  unfold encM at h
  obtain⟨e1,h⟩:=Z0a (by rfl) pa1 pb1 h
  unfold enc1 at e1
  obtain⟨e1,el⟩:=fO e1 rfl
  obtain⟨ex,e1⟩:=fO e1 rfl
  obtain⟨epc,ecsr⟩:=List.cons.inj e1
  have el:=(List.cons.inj el).1
  obtain⟨em,h⟩:=Z0a (by omega) (λx hx=>(ha.mem x hx).1) (λx hx=>(hb.mem x hx).1) h
  obtain⟨ek,h⟩:=Zd3 h
  obtain⟨e2,h⟩:=Z0a (by rfl) pa2 pb2 h
  obtain⟨eo,h⟩:=Zd3 h
  obtain⟨e3,_⟩:=Z0a (s:=[]) (t:=[]) (by rfl) pa3 pb3 (by rw[cJ,cJ];exact h)
  simp only[enc2,List.cons.injEq,and_true]at e2
  obtain⟨t1,t2,t3,d1,d2,d3,d4,d5,d6,d7⟩:=e2
  simp only[enc3,List.cons.injEq,and_true]at e3
  obtain⟨n1,n2,n3,n4,n5,n6,b1,b2,c1,c2,c3⟩:=e3
  have ex:=xn ex
  have ecsr:=vU ecsr
  have t1:=Qk t1
  have t3:=Qk t3
  have d4:=qn ra.st rb.st d4
  have d5:=qn ra.cm rb.cm d5
  have n3:=Qk n3
  have n5:=Qk n5
  have c2:=Qk c2
  have c3:=Qk c3
  refine Qqe ?_ em ?_ ?_ ?_ ?_ ?_ c1 c2 c3
  . revert ex epc ecsr
    obtain⟨_,_,_⟩:=a.B1
    obtain⟨_,_,_⟩:=b.B1
    intro ex epc ecsr
    simp only at ex epc ecsr
    subst ex epc ecsr;rfl
  . revert ek
    obtain⟨_⟩:=a.A2
    obtain⟨_⟩:=b.A2
    intro ek
    simp only at ek
    subst ek;rfl
  . revert t1 t2 t3
    obtain⟨_,_,_⟩:=a.A7
    obtain⟨_,_,_⟩:=b.A7
    intro t1 t2 t3
    simp only at t1 t2 t3
    subst t1 t2 t3;rfl
  . revert d1 d2 d3 d4 d5 d6 d7 eo
    obtain⟨_,_,_,_,_,_,_,_⟩:=a.A9
    obtain⟨_,_,_,_,_,_,_,_⟩:=b.A9
    intro d1 d2 d3 d4 d5 d6 d7 eo
    simp only at d1 d2 d3 d4 d5 d6 d7 eo
    subst d1 d2 d3 d4 d5 d6 d7 eo;rfl
  . revert n1 n2 n3 n4 n5 n6
    obtain⟨_,_,_,_,_,_⟩:=a.B9
    obtain⟨_,_,_,_,_,_⟩:=b.B9
    intro n1 n2 n3 n4 n5 n6
    simp only at n1 n2 n3 n4 n5 n6
    subst n1 n2 n3 n4 n5 n6;rfl
  . revert b1 b2
    obtain⟨_,_⟩:=a.A1
    obtain⟨_,_⟩:=b.A1
    intro b1 b2
    simp only at b1 b2
    subst b1 b2;rfl
theorem zn{a b:List Int}(hl:a.length=b.length)(h: ∀i:Nat,i<a.length->a.getD i 0=b.getD i 0):a=b:=by
 refine bM hl λi h1 h2=> ?_
 have:=h i h1
 rw[Qz8 h1,Qz8 h2]at this
 exact this
theorem zam{a b:List Int}(ha:a.length<=1000000):(Q1o a b).w (λr=>r=true↔a=b):=by
 have no:a.length≠b.length->(false=true↔a=b):=λh=>⟨(λh=>by cases h),λe=>(h (by rw[e])).elim⟩
 unfold Q1o
 refine w_br (λh=>w_lf (no ?_)) λh=> ?_
 . have h:((a.length:Int) !=b.length)=true:=h
   simp only[bne_iff_ne,ne_eq,fP]at h
   exact h
 have hl:a.length=b.length:=by
   have h:((a.length:Int) !=b.length)=false:=h
   simp only[bne_eq_false_iff_eq,fP]at h
   exact h
 refine w_lp (inv:=λv:Int=>0<=v/\v<=a.length/\ ∀i:Nat,(i:Int)<v->a.getD i 0=b.getD i 0) (μ:=Q21 a b) ⟨cX 0,by omega,λi hi=>by omega⟩ (cO _) λv ⟨v0,v1,v2⟩=> ?_
 refine w_br (λhb=> ?_) (λhb=>w_lf ?_)
 . have hb:v<a.length:=oY hb
   have ew:i64.wrap (v+1)=v+1:=by rw[wrap_i64];omega
   refine w_cn (by simp [bT];omega) (w_cn (by simp [bT];omega) (w_br (λh=>w_lf ⟨(λh=>by cases h),λe=> ?_⟩) λh=>w_nx ?_))
   . rw[e,bne_self_eq_false]at h;cases h
   . have h:a.getD v.toNat 0=b.getD v.toNat 0:=by simpa using h
     show(0<=i64.wrap (v+1)/\i64.wrap (v+1)<=a.length/\ ∀i:Nat,(i:Int)<i64.wrap (v+1)->a.getD i 0=b.getD i 0)/\(a.length-i64.wrap (v+1)).toNat<(a.length-v).toNat
     rw[ew]
     refine⟨⟨by omega,by omega,λi hi=> ?_⟩,by omega⟩
     by_cases e:(i:Int)<v
     . exact v2 i e
     . rw[show i=v.toNat by omega];exact h
 . have hb: ¬v<a.length:=oN hb
   exact⟨λ_=>zn hl λi hi=>v2 i (by omega),λ_=>rfl⟩
theorem xam{a b:List Int}(ha:a.length<=1000000):(Q5e a b).w (λr=>r=true↔a=b):=by
 have no:a.length≠b.length->(false=true↔a=b):=λh=>⟨(λh=>by cases h),λe=>(h (by rw[e])).elim⟩
 unfold Q5e
 refine w_br (λh=>w_lf (no ?_)) λh=> ?_
 . have h:((a.length:Int) !=b.length)=true:=h
   simp only[bne_iff_ne,ne_eq,fP]at h
   exact h
 have hl:a.length=b.length:=by
   have h:((a.length:Int) !=b.length)=false:=h
   simp only[bne_eq_false_iff_eq,fP]at h
   exact h
 refine w_lp (inv:=λv:Int=>0<=v/\v<=a.length/\ ∀i:Nat,(i:Int)<v->a.getD i 0=b.getD i 0) (μ:=Q6a a b) ⟨cX 0,by omega,λi hi=>by omega⟩ (cO _) λv ⟨v0,v1,v2⟩=> ?_
 refine w_br (λhb=> ?_) (λhb=>w_lf ?_)
 . have hb:v<a.length:=oY hb
   have ew:i64.wrap (v+1)=v+1:=by rw[wrap_i64];omega
   refine w_cn (by simp [bT];omega) (w_cn (by simp [bT];omega) (w_br (λh=>w_lf ⟨(λh=>by cases h),λe=> ?_⟩) λh=>w_nx ?_))
   . rw[e,bne_self_eq_false]at h;cases h
   . have h:a.getD v.toNat 0=b.getD v.toNat 0:=by simpa using h
     show(0<=i64.wrap (v+1)/\i64.wrap (v+1)<=a.length/\ ∀i:Nat,(i:Int)<i64.wrap (v+1)->a.getD i 0=b.getD i 0)/\(a.length-i64.wrap (v+1)).toNat<(a.length-v).toNat
     rw[ew]
     refine⟨⟨by omega,by omega,λi hi=> ?_⟩,by omega⟩
     by_cases e:(i:Int)<v
     . exact v2 i e
     . rw[show i=v.toNat by omega];exact h
 . have hb: ¬v<a.length:=oN hb
   exact⟨λ_=>zn hl λi hi=>v2 i (by omega),λ_=>rfl⟩
def cpuD(c:Q02):List D:=(A16.l c.X).map (D.int .u32)++(D.int .u32 c.Pc::(A8.l c.B4).map (D.int .u32))
theorem Zio: ∀l:List D,(∀d∈l,eq1 d d=true)->eqs l l=true
 |[],_=>rfl
 | d::l,h=>by
   show(eq1 d d&&eqs l l)=true
   rw[h d (by simp),Zio l λe he=>h e (by simp [he])];rfl
theorem Zk2(k:IntKind): ∀{l m:List Int},l.length=m.length->eqs (l.map (D.int k)) (m.map (D.int k))=true->l=m
 |[],[],_,_=>rfl
 | x::l,y::m,hl,h=>by
   have h:((x==y)&&eqs (l.map (D.int k)) (m.map (D.int k)))=true:=h
   rw[aE]at h
   rw[eq_of_beq h.1,Zk2 k (by simpa using hl) h.2]
 |[],_::_,hl,_=>by simp at hl
 |_::_,[],hl,_=>by simp at hl
theorem Z9z{a b:Q02}:eqs (cpuD a) (cpuD b)=true↔a=b:=by
 constructor
 . intro h
   have e: ∀c:Q02,cpuD c=(A16.l c.X++c.Pc::A8.l c.B4).map (D.int .u32):=λc=>by unfold cpuD;rw[bK];rfl
   rw[e,e]at h
   have h:=Zk2 .u32 (by rfl) h
   obtain⟨h1,h2⟩:=fO h rfl
   obtain⟨h4,h3⟩:=List.cons.inj h2
   have k1:=xn h1
   have k3:=vU h3
   clear h1 h3 h2 h e
   obtain⟨_,_,_⟩:=a
   obtain⟨_,_,_⟩:=b
   simp only at k1 h4 k3
   subst k1 h4 k3;rfl
 . intro h
   subst h
   refine Zio _ λd hd=> ?_
   unfold cpuD at hd
   simp only[bX,List.mem_map,cU]at hd
   rcases hd with⟨x,_,rfl⟩|rfl|⟨x,_,rfl⟩<;>exact beq_self_eq_true _
theorem Qz3{a b:Q0c}:eqs [D.str a.D0] [D.str b.D0]=true↔a=b:=by
 obtain⟨_⟩:=a;obtain⟨_⟩:=b
 simp [eqs,eq1]
theorem Qsr{a b:Q0h}:eqs [D.bool a.D2,D.int .u32 a.C3,D.bool a.D1] [D.bool b.D2,D.int .u32 b.C3,D.bool b.D1]=true↔a=b:=by
 obtain⟨_,_,_⟩:=a;obtain⟨_,_,_⟩:=b
 simp [eqs,eq1]
theorem Qz6{a b:Q0d}:eqs [D.int .u32 a.Blocks,D.int .u32 a.C1,D.int .u32 a.Frame,D.int .i64 a.B7,D.int .i64 a.D4,D.int .u32 a.B5,D.int .u32 a.B2,D.str a.B8] [D.int .u32 b.Blocks,D.int .u32 b.C1,D.int .u32 b.Frame,D.int .i64 b.B7,D.int .i64 b.D4,D.int .u32 b.B5,D.int .u32 b.B2,D.str b.B8]=true↔a=b:=by
 obtain⟨_,_,_,_,_,_,_,_⟩:=a;obtain⟨_,_,_,_,_,_,_,_⟩:=b
 simp [eqs,eq1]
theorem Z95{a b:Q0m}:eqs [D.int .u32 a.Frame,D.int .u32 a.D8,D.bool a.C5,D.int .u32 a.C0,D.bool a.B6,D.int .u32 a.D9] [D.int .u32 b.Frame,D.int .u32 b.D8,D.bool b.C5,D.int .u32 b.C0,D.bool b.B6,D.int .u32 b.D9]=true↔a=b:=by
 obtain⟨_,_,_,_,_,_⟩:=a;obtain⟨_,_,_,_,_,_⟩:=b
 simp [eqs,eq1]
theorem Qr9{a b:Q07}:eqs [D.int .u32 a.C6,D.int .u32 a.C2] [D.int .u32 b.C6,D.int .u32 b.C2]=true↔a=b:=by
 obtain⟨_,_⟩:=a;obtain⟨_,_⟩:=b
 simp [eqs,eq1]
theorem Qcv{c:Bool}{p:Prop}(h:c=false)(g:p->c=true):(false=true↔p):=⟨(λh=>by cases h),λe=>by rw[g e]at h;cases h⟩
theorem qan{a b:Q00}(ha:a.Mem.length<=1000000):(Q64 a b).w (λr=>r=true↔a=b):=by
 unfold Q64
 refine w_br (λh1=>w_br (λh2=>w_br (λh3=>w_br (λh4=>w_br (λh5=>w_br (λh6=>w_br (λh7=>w_br (λh8=>w_br (λh9=>w_an (show a.Mem.length<=1000000000000 by omega) (w_lv λx ex=>w_lf ?_))
   λh=>w_lf (Qcv h λe=>by rw[e];exact beq_self_eq_true _)) λh=>w_lf (Qcv h λe=>by rw[e];exact beq_self_eq_true _)) λh=>w_lf (Qcv h λe=>by rw[e];exact beq_self_eq_true _)) λh=>w_lf (Qcv h λe=>Qr9.2 (by rw[e]))) λh=>w_lf (Qcv h λe=>Z95.2 (by rw[e]))) λh=>w_lf (Qcv h λe=>Qz6.2 (by rw[e]))) λh=>w_lf (Qcv h λe=>Qsr.2 (by rw[e]))) λh=>w_lf (Qcv h λe=>Qz3.2 (by rw[e]))) λh=>w_lf (Qcv h λe=>Z9z.2 (by rw[e]))
 have hx:x=true↔a.Mem=b.Mem:=by rw[ex];exact Tree.post _ (zam ha)
 exact⟨λh=>Qqe (Z9z.1 h1) (hx.1 h) (Qz3.1 h2) (Qsr.1 h3) (Qz6.1 h4) (Z95.1 h5) (Qr9.1 h6) (eq_of_beq h7) (eq_of_beq h8) (eq_of_beq h9),λe=>hx.2 (by rw[e])⟩
theorem xL{a b:Q00}(ha:a.Mem.length<=1000000):(Qi0 a b).w (λr=>r=true↔a=b):=by
 unfold Qi0
 have hx:Qjc a.Mem b.Mem=true↔a.Mem=b.Mem:=Tree.post _ (xam ha)
 refine w_br (λh1=>w_an (show a.Mem.length<=1000000000000 by omega) (w_lv λx ex=>w_br (λh0=>w_br (λh2=>w_br (λh3=>w_br (λh4=>w_br (λh5=>w_br (λh6=>w_br (λh7=>w_br (λh8=>w_lf ?_)
   λh=>w_lf (Qcv h λe=>by rw[e];exact beq_self_eq_true _)) λh=>w_lf (Qcv h λe=>by rw[e];exact beq_self_eq_true _)) λh=>w_lf (Qcv h λe=>Qr9.2 (by rw[e]))) λh=>w_lf (Qcv h λe=>Z95.2 (by rw[e]))) λh=>w_lf (Qcv h λe=>Qz6.2 (by rw[e]))) λh=>w_lf (Qcv h λe=>Qsr.2 (by rw[e]))) λh=>w_lf (Qcv h λe=>Qz3.2 (by rw[e]))) λh=>w_lf (Qcv h λe=>by rw[ex];exact hx.2 (by rw[e])))) λh=>w_lf (Qcv h λe=>Z9z.2 (by rw[e]))
 rw[ex]at h0
 exact⟨λh=>Qqe (Z9z.1 h1) (hx.1 h0) (Qz3.1 h2) (Qsr.1 h3) (Qz6.1 h4) (Z95.1 h5) (Qr9.1 h6) (eq_of_beq h7) (eq_of_beq h8) (eq_of_beq h),λe=>by rw[e];exact beq_self_eq_true _⟩
structure dlU(m:Q00):Prop where
 dl:U m.A7.C3
 bl:U m.A9.Blocks
theorem Zmq(d:Q0d)(m:List Int)(port v at0:Int):(Qba d m port v at0).1.Blocks=d.Blocks:=by
 show Tree.V (Q4i d m port v at0) (λr=>r.1.Blocks=d.Blocks)
 unfold Q4i
 repeat'(first
   |exact v_lf rfl
   |exact v_lv λ_ _=>v_lf rfl
   |refine v_br (λ_=> ?_) (λ_=> ?_)
   |refine v_an ?_
   |refine v_lv λ_ _=> ?_)
theorem yn(d:Q0d)(m:List Int)(e:Q0e):(Q8n d m e).1.Blocks=d.Blocks:=by
 show Tree.V (Q5z d m e) (λr=>r.1.Blocks=d.Blocks)
 unfold Q5z
 repeat'(first
   |exact v_lf rfl
   |refine v_br (λ_=> ?_) (λ_=> ?_)
   |refine v_an ?_
   |refine v_lv λ_ _=> ?_)
theorem zan(t:Q0h):(Qmq t).1.C3=t.C3:=by
 show Tree.V (Qlg t) (λr=>r.1.C3=t.C3)
 unfold Qlg
 exact v_br (λ_=>v_lf rfl) λ_=>v_lf rfl
theorem zaF{v:Int}(hv:U v):U (Qod v).C3:=by
 show Tree.V (Qjs v) (λr=>U r.C3)
 unfold Qjs
 exact v_br (λ_=>v_lf U_0) λ_=>v_lf hv
theorem in_dl{m:Q00}(h:dlU m)(port clock:Int):dlU (Qam m port clock).2:=by
 show Tree.V (Qeb m port clock) (λr=>dlU r.2)
 unfold Qeb
 repeat'(first
   |exact v_lf h
   |exact v_lf ⟨h.dl,h.bl⟩
   |refine v_br (λ_=> ?_) (λ_=> ?_)
   |refine v_lv λ_ _=> ?_)
theorem xaF{m:Q00}(h:dlU m)(port:Int){v:Int}(hv:U v):dlU (Q8 m port v).2:=by
 show Tree.V (Q9b m port v) (λr=>dlU r.2)
 unfold Q9b
 refine v_br (λ_=>v_lf h) λ_=>v_br (λ_=>v_lf h) λ_=>v_br (λ_=>v_lv λx ex=>v_lf ⟨by rw[ex];exact zaF hv,h.bl⟩) λ_=>v_br (λ_=>v_an (v_lv λx ex=>v_lf ⟨h.dl,by show U x.1.Blocks;rw[ex,Zmq];exact h.bl⟩)) λ_=>v_br (λ_=>v_an (v_lv λx ex=>v_lf ⟨h.dl,h.bl⟩)) λ_=>v_an (v_lv λx ex=>v_lf ⟨h.dl,h.bl⟩)
theorem xV{P:Nat}{m:Q00}(g:good P m)(h:dlU m)(clock:Int):dlU (Q0z m clock).2:=by
  have ic:Q27 (Q0k m):=(Tree.pp (Qfm g.ok.cpu)).2
  have dv:U (Q6l (Q0k m) m.Mem).2.1.Value:=(Tree.pp (do_w ic g.ok.mem)).2.2.1
  rw[yU]
  generalize Q6l (Q0k m) m.Mem=D at*
  have w:dlU (withX m D.1 D.2.2):=⟨h.dl,h.bl⟩
  have i:=in_dl w D.2.1.C8 clock
  have o:=xaF w D.2.1.C8 dv
  unfold finR
  cases D.2.1.C4==1
  . cases D.2.1.C4==2
    . cases D.2.1.C4==3
      . cases D.2.1.C4==4
        . exact⟨h.dl,h.bl⟩
        . exact⟨h.dl,h.bl⟩
      . exact⟨h.dl,h.bl⟩
    . exact⟨o.dl,o.bl⟩
  . exact⟨i.dl,i.bl⟩
theorem qaG{m:Q00}(h:dlU m)(e:Q0e):dlU (Q1n m e).2:=by
 show Tree.V (Q5u m e) (λr=>dlU r.2)
 unfold Q5u
 repeat'(first
   |exact v_lf h
   |exact v_lf ⟨h.dl,h.bl⟩
   |exact v_lv λx ex=>v_lf ⟨by rw[ex,zan];exact h.dl,h.bl⟩
   |exact v_an (v_lv λx ex=>v_lf ⟨h.dl,by show U x.1.Blocks;rw[ex,yn];exact h.bl⟩)
   |exact v_an (v_lv λx ex=>v_lf ⟨h.dl,h.bl⟩)
   |refine v_br (λ_=> ?_) (λ_=> ?_))
theorem Zkl{r:Q01}(h:dlU r.A0)(e:Q0e):dlU (Qbf r e).A0:=by
 have a:=qaG h e
 unfold Qbf
 cases(Q1n r.A0 e).1<;>exact a
theorem Zj3{r:Q01}(h:dlU r.A0):dlU (Qcs r).A0:=by
 unfold Qcs
 cases Qko r.A0.A7 r.B3
 . exact h
 . exact Zkl h _
theorem zL{n:Nat}{r:Q01}{o:List Q08}(hs:Q2a (Qcs r).A0=false):recF (n+1) r o=recF n (Zh7 (Qcs r)) (o++(Q0z (Qcs r).A0 (Qcs r).B3).1):=by
 conv=>lhs;unfold recF
 rw[hs];rfl
theorem Zg9{n:Nat}{r:Q01}{o:List Q08}(hs:Q2a (Qcs r).A0=true):recF (n+1) r o=(Qcs r,o):=by
 conv=>lhs;unfold recF
 rw[hs];rfl
theorem zV{P:Nat}: ∀(n:Nat) {k:Int} {r:Q01} (o:List Q08),Qbl P k r->dlU r.A0->dlU (recF n r o).1.A0
 |0,_,_,_,_,h=>h
 | n +1,k,r,o,g,h=>by
   obtain⟨gf,_⟩:=Z5u g
   cases hs:Q2a (Qcs r).A0
   . rw[zL hs]
     exact zV n _ (Z68 gf hs) (xV gf.m (Zj3 h) _)
   . rw[Zg9 hs];exact Zj3 h
theorem vn: ∀(l:List Q0e) {r:Q01},dlU r.A0->dlU (l.foldl Qbf r).A0
 |[],_,h=>h
 |e::l,r,h=>vn l (Zkl h e)
theorem xan{P:Nat}{k:Int}{r:Q01}(g:Qbl P k r)(hq:okQ r.B0)(h:dlU r.A0)(steps:Int){clock:Int}(hc:U clock):dlU (advF r steps clock).1.A0:=by
 have hcl:U (if clock>r.B3 then clock else r.B3):=by split<;>first|exact hc|exact g.clock
 obtain⟨a,b⟩:=Z5h r.B0 (r:={A0:=r.A0,B3:=if clock>r.B3 then clock else r.B3,C7:=r.C7,B0:=r.B0}) ⟨g.m,hcl,g.cnt⟩ hq.2
 unfold advF
 rw[g.m.rmay]
 exact zV _ [] (r:=noQ _) ⟨a.m,a.clock,a.cnt⟩ (vn r.B0 (r:={A0:=r.A0,B3:=if clock>r.B3 then clock else r.B3,C7:=r.C7,B0:=r.B0}) h)
theorem zaG{r:Q01}(h:dlU r.A0)(e:Q0e):dlU (Q4p r e).1.A0:=by
 rw[Zcq]
 cases Qhj e<;>cases e.C4==1<;>cases decide ((r.B0.length:Int)>=16)<;>exact h
theorem ev_dl{A:Q01×Bool}(h:dlU A.1.A0):dlU (A.1,([]:List Q08)).1.A0:=h
theorem yL{P:Nat}{k:Int}{r:Q01}(g:Qbl P k r)(hq:okQ r.B0)(h:dlU r.A0)(n:Int):dlU (Q5t r n).1.A0:=by
 cases hm:dF (Q99 n 3) 3==0
 . rw[Zj4 hm,Zka _ _ _ (by have:=hq.1;omega)]
   exact xan g hq h _ (Q0l _)
 . rw[Zis hm]
   exact ev_dl (A:=Q4p r (Qg4 n)) (zaG h _)
theorem qao{α β:Type}(a:α)(b:β):(a,b).1=a:=rfl
theorem Zmf(s:Q01×List Q08)(n:Int):(Qnb s n).1=(Q5t s.1 n).1:=(congrArg Prod.fst (Ze2 s n)).trans (qao _ _)
theorem qo{P:Nat}: ∀(l:List Int) {k:Int} {s:Q01×List Q08},Qbl P k s.1->okQ s.1.B0->dlU s.1.A0->dlU (l.foldl Qnb s).1.A0
 |[],_,_,_,_,h=>h
 | n::l,k,s,g,hq,h=>by
   rw[aD]
   have a:=Z77 g hq n
   have b:=yL g hq h n
   rw[<-Zmf]at a b
   exact qo l a.1 a.2 b
theorem xaG(i:List Int):dlU (Q1l 8 4 i).1:=by
 show Tree.V (Q7p 8 4 i) (λx=>dlU x.1)
 unfold Q7p
 repeat'(first
   |exact v_lf ⟨U_0,U_0⟩
   |exact v_lf ⟨U_0,Q0l _⟩
   |refine v_br (λ_=> ?_) (λ_=> ?_)
   |refine v_an ?_
   |refine v_lv λ_ _=> ?_)
theorem zao{m:Q00}(h:good 8 m)(d:dlU m):Tree.V (Q5p m [] 87) (λx=>dlU x.1):=by
 have z: ∀{x:Q00},x.A7.C3=0->x.A9.Blocks=0->dlU x:=λa b=>⟨a▸U_0,b▸U_0⟩
 unfold Q5p
 refine v_lv λx0 _=>v_br (λ_=>v_lf (z rfl rfl)) λ_=>v_br (λ_=>v_lf (z rfl rfl)) λ_=>v_br (λ_=>v_lf (z rfl rfl)) λ_=>v_an (v_lv λx1 _=>v_br (λ_=>v_lf (z rfl rfl)) λ_=>v_an (v_lv λx2 hx=> ?_))
 rw[Z1x]at hx
 refine v_lp (inv:=λv:Q00×List Q08=>good 8 v.1/\dlU v.1) (μ:=Qaf m [] 87) ⟨by rw[hx];exact h,by rw[hx];exact d⟩ (cO _) λv0 ⟨a1,a3⟩=> ?_
 have a2:=a1.ok.cnt
 refine v_br (λhb=>v_br (λhm=> ?_) (λ_=>v_lf a3)) (λ_=>v_lf a3)
 have hb:=oY hb
 have hm:=oY hm
 refine v_lp (inv:=λ_=>True) (μ:=Qaa m [] 87 v0) trivial (cO _) λv1 _=> ?_
 refine v_br (λ_=>v_lf a3) λhh=>v_an (v_lv λx3 h3=>v_br (λ_=>v_lf a3) λhi=>v_an (v_lv λx4 _=>v_br (λ_=>v_lf (z rfl rfl)) λ_=>v_an (v_lv λx5 h5=>v_cn (v_nx ?_))))
 obtain⟨b1,b2,_⟩:=Z8y a1 ((Z0e a1).2 ⟨hh,h3.symm.trans hi,hm⟩) (clock:=0) U_0
 have b3:=xV a1 a3 0
 rw[<-h5]at b1 b2 b3
 show(good 8 x5.2/\dlU x5.2)/\(87-x5.2.A4).toNat<(87-v0.1.A4).toNat
 exact⟨⟨b1,b3⟩,by omega⟩
theorem Zmp(kind:Int)(l:List Int)(hl:l.length*8<=reachBytes)(h40:l.length<=40):dlU (Qel kind l):=by
 show Tree.V (Q3j kind l) dlU
 have code:=(Tree.pp (Zir l hl)).2
 change((Qgh l).length:Int)=l.length/\ ∀w∈Qgh l,U w at code
 obtain⟨b1,b2⟩:=code
 unfold Q3j
 have fin: ∀{x3:Q00×Bool} {i:List Int},x3=Q1l 8 4 i->(∀w∈i,U w)->i.length<=256->dlU x3.1/\dlU (Qb3 x3.1 [] 87).1:=fun{x3 i} e hu hlen=>by
   obtain⟨c1,_⟩:=Z90 hu hlen
   have d:=xaG i
   rw[<-e]at c1 d
   exact⟨d,zao c1 d⟩
 refine v_an (v_lv λx0 hx0=>v_br (λ_=>v_an (v_lv λx1 e1=> ?_)) (λhk=> ?_))
 . have eb:x1.1=boot:=by rw[e1];rfl
   obtain⟨q1,q2⟩:boot.length<=160/\ ∀w∈boot,U w:=Zki
   refine v_lp (inv:=λv:List Int=>v.length<=160/\ ∀w∈v,U w) (μ:=Q7z kind l) ⟨by rw[eb];exact q1,by rw[eb];exact q2⟩ (cO _) λv0 ⟨a1,a2⟩=> ?_
   refine v_br (λhb=> ?_) (λhb=> ?_)
   . have hb:=oY hb
     refine v_cn (v_nx ?_)
     show(_/\_)/\(_:Nat)<_
     refine⟨⟨by rw[lA,dA];omega,λw hw=> ?_⟩,by show 160-(v0++[0]).length<160-v0.length;rw[lA,dA];omega⟩
     rcases List.mem_append.1 hw with hw|hw
     . exact a2 w hw
     . rw[List.mem_singleton.1 hw];exact U_0
   . refine v_an (v_lv λx2 e2=>v_cn ?_)
     rw[<-e2]at b1 b2
     have hu: ∀w∈v0++x2,U w:=λw hw=>(List.mem_append.1 hw).elim (a2 w) (b2 w)
     have hlen:(v0++x2).length<=256:=by rw[lA];omega
     refine v_br (λhb=> ?_) (λhb=>v_an (v_lv λx3 h3=>v_br (λ_=>v_an (v_lv λx4 h4=>v_lf (by rw[h4];exact(fin h3 hu hlen).2))) λ_=>v_lf (fin h3 hu hlen).1))
     have hb:=oY hb;omega
 . refine v_an (v_lv λx2 e2=>v_cn ?_)
   rw[<-e2]at b1 b2
   refine v_br (λhb=> ?_) (λhb=>v_an (v_lv λx3 h3=>v_br (λ_=>v_an (v_lv λx4 h4=>v_lf (by rw[h4];exact(fin h3 b2 (by omega)).2))) λ_=>v_lf (fin h3 b2 (by omega)).1))
   have hb:=oY hb;omega
theorem Zkw(kind:Int)(l acts:List Int)(hl:l.length*8<=reachBytes)(f1:l.length<=40)(f2:acts.length<=30):(Qa5 kind l acts).w (λm=>good 8 m/\dlU m):=by
 unfold Qa5
 obtain⟨a,b⟩:=Zbj kind l hl f1
 have d:=Zmp kind l hl f1
 refine w_an (Tree.pp (yf kind l hl)).1 (w_lv λm hm=> ?_)
 rw[<-hm]at a b d
 refine w_an (Tree.pp (qaz a.ok acts f2)).1 (w_lv λx hx=> ?_)
 rw[zal _ _ (by omega),zm]at hx
 have g0:Qbl 8 87 {A0:=m,B3:=0,C7:=[],B0:=[]}:=⟨a,U_0,b⟩
 have q0:okQ ([]:List Q0e):=⟨aT _,λe he=>by cases he⟩
 have k:=Zkx acts (s:=({A0:=m,B3:=0,C7:=[],B0:=[]},[])) ⟨g0,q0⟩
 have e:=qo acts (s:=({A0:=m,B3:=0,C7:=[],B0:=[]},[])) g0 q0 d
 rw[<-hx]at k e
 exact⟨k.1.m,e⟩
theorem Zls(d:Q0d)(pages:Int):Q15 d pages=true->(0<=d.B7/\d.B7<=3)/\(0<=d.D4/\d.D4<=2)/\d.B8.length<=128:=by
 show Tree.V (Q3y d pages) (λb=>b=true->(0<=d.B7/\d.B7<=3)/\(0<=d.D4/\d.D4<=2)/\d.B8.length<=128)
 have no: ∀{p:Prop},(false=true->p):=λh=>by cases h
 have zero: ∀{k:Int},(d.B7==k)=true->(0<=k/\k<=3)->(d.D4==0)=true->decide (d.B8=[])=true->(0<=d.B7/\d.B7<=3)/\(0<=d.D4/\d.D4<=2)/\d.B8.length<=128:=λa b c e=>by
   have a:=eq_of_beq a
   have c:=eq_of_beq c
   have e:=oY e
   exact⟨by omega,by omega,by rw[e];exact aT _⟩
 unfold Q3y
 refine v_br (λ_=>v_lf no) λ_=>v_br (λs=>v_br (λc=>v_br (λ_=>v_br (λ_=>v_lf (zero s (by decide) c)) λ_=>v_lf no) λ_=>v_lf no) λ_=>v_lf no) λ_=>v_br (λs=>v_br (λc=>v_br (λ_=>v_br (λ_=>v_lf (zero s (by decide) c)) λ_=>v_lf no) λ_=>v_lf no) λ_=>v_lf no) λ_=>v_br (λs=>v_br (λc=>v_br (λ_=>v_br (λ_=>v_lf (zero s (by decide) c)) λ_=>v_lf no) λ_=>v_lf no) λ_=>v_lf no) λ_=>v_br (λs=>v_lv λx ex=>v_br (λhx=> ?_) λ_=>v_lf no) λ_=>v_lf no
 have s:=eq_of_beq s
 have cm:Q6c d=true->(0<=d.D4/\d.D4<=2)/\d.B8.length<=128:=by
   show Tree.V (Q3c d) (λb=>b=true->(0<=d.D4/\d.D4<=2)/\d.B8.length<=128)
   unfold Q3c
   refine v_br (λc=>v_lf λe=> ?_) λ_=>v_br (λc=>v_lf λe=> ?_) λ_=>v_lf no
   . have c:=eq_of_beq c
     have e:=oY e
     exact⟨by omega,by rw[e];exact aT _⟩
   . have c:=eq_of_beq c
     have e:=eq_of_beq e
     exact⟨by omega,by omega⟩
 obtain⟨c1,c2⟩:=cm (by rw[<-ex];exact hx)
 exact v_br (λ_=>v_lf λ_=>⟨by omega,c1,c2⟩) λ_=>v_lf no
theorem xo{m:Q00}(h:Q0q m=true):m.A2.D0.length<=16/\(0<=m.A9.B7/\m.A9.B7<=3)/\(0<=m.A9.D4/\m.A9.D4<=2)/\m.A9.B8.length<=128:=by
 have no: ∀{p:Prop},(false=true->p):=λh=>by cases h
 refine(show Tree.V (Q1 m) (λb=>b=true->m.A2.D0.length<=16/\(0<=m.A9.B7/\m.A9.B7<=3)/\(0<=m.A9.D4/\m.A9.D4<=2)/\m.A9.B8.length<=128) from ?_) h
 unfold Q1
 refine v_lv λx0 _=>v_lv λx1 e1=>v_br (λh1=>v_lv λx2 _=>v_br (λ_=>v_lv λx3 e3=>v_br (λh3=> ?_) λ_=>v_lf no) λ_=>v_lf no) λ_=>v_lf no
 have k:m.A2.D0.length<=16:=by
   rw[e1]at h1
   have h1:decide ((m.A2.D0.length:Int)<=16)=true:=h1
   have:=oY h1;omega
 rw[e3]at h3
 have d:=Zls _ _ h3
 exact v_lv λx4 _=>v_br (λ_=>v_an (v_lv λx5 _=>v_lf λ_=>⟨k,d⟩)) λ_=>v_lf no
structure encOK(m:Q00):Prop where
 r:rngM m
 k:m.A2.D0.length<=100000
 o:m.A9.B8.length<=100000
theorem vL{P:Nat}{m:Q00}(g:good P m)(d:dlU m):encOK m:=by
 obtain⟨_,_,c,_,dv⟩:=(Qu m).1 g.may
 obtain⟨k,s,cm,o⟩:=xo dv
 have c0:=g.ok.cnt
 exact⟨⟨d.dl,d.bl,by omega,by omega,by omega⟩,by omega,by omega⟩
theorem and3i(a:Int):0<=iand .i64 a 3/\iand .i64 a 3<=3:=by
 unfold iand
 rw[wrap_i64]
 have:(dX i64.bits a&&&dX i64.bits 3).toNat<=3:=by
   show(dX 64 a&&&dX 64 3).toNat<=3
   rw[eB]
   exact bH eG (by decide)
 omega
theorem wi64(x:Int): -9223372036854775808<=wrap .i64 x/\wrap .i64 x<9223372036854775808:=by rw[wrap_i64];omega
theorem wu64(x:Int):0<=wrap .u64 x/\wrap .u64 x<18446744073709551616:=by rw[wrap_u64];omega
theorem Zc9(n k:Int)(h0:0<=k)(h1:k<=1000):(Qk5 n k).length<=1000:=by
 show Tree.V (Qdj n k) (λs=>s.length<=1000)
 unfold Qdj
 refine v_lp (inv:=λv:Int×List Int=>0<=v.1/\v.1<=k/\v.2.length=v.1.toNat) (μ:=Qc n k) ⟨cX 0,h0,rfl⟩ (cO _) λv ⟨a,b,c⟩=> ?_
 refine v_br (λhb=> ?_) (λhb=> ?_)
 . have hb:=oY hb
   have e:i64.wrap (v.1+1)=v.1+1:=by rw[wrap_i64];omega
   refine v_lv λx _=>v_cn (v_nx ?_)
   show(0<=i64.wrap (v.1+1)/\i64.wrap (v.1+1)<=k/\(v.2++[_]).length=(i64.wrap (v.1+1)).toNat)/\(k-i64.wrap (v.1+1)).toNat<(k-v.1).toNat
   rw[e,lA,dA]
   exact⟨⟨by omega,by omega,by omega⟩,by omega⟩
 . refine v_lf ?_
   show(bytesOf v.2).length<=_
   unfold bytesOf
   rw[fM,c];omega
theorem qM{P:Nat}{m:Q00}(g:good P m)(d:dlU m)(where0 what:Int):encOK (Qhs m where0 what):=by
  obtain⟨⟨r1,r2,r3,r4,r5⟩,k,o⟩:=vL g d
  show Tree.V (Qb0 m where0 what) encOK
  unfold Qb0
  refine v_an (v_lv λx0 e0=>v_an (v_lv λx1 _=> ?_))
  rw[Z1x]at e0
  subst e0
  repeat'(first
    |exact v_lf ⟨⟨r1,r2,r3,r4,r5⟩,k,o⟩
    |exact v_an (v_lv λx ex=>v_an (v_lv λy ey=>v_lf ⟨⟨r1,r2,r3,r4,r5⟩,by
        have:=Qqj (n:=what) (k:=18) (by decide) (by decide)
        rw[<-ex]at this
        show y.length<=100000
        rw[ey]
        have:=Zc9 what x (by omega) (by omega)
        omega,o⟩))
    |exact v_lf ⟨⟨Qh6 _ _,r2,r3,r4,r5⟩,k,o⟩
    |exact v_lf ⟨⟨r1,r2,by have:=and3i what;show-9223372036854775808<=iand .i64 what 3/\iand .i64 what 3<9223372036854775808;omega,r4,r5⟩,k,o⟩
    |exact v_an (v_lv λx ex=>v_lf ⟨⟨r1,by show U 4;exact⟨by decide,by decide⟩,by show-9223372036854775808<=(1:Int)/\(1:Int)<9223372036854775808;decide,wi64 _,r5⟩,k,by show x.length<=100000;rw[ex];have:=Zc9 what 128 (by decide) (by decide);omega⟩)
    |exact v_lf ⟨⟨r1,by show U 4;exact⟨by decide,by decide⟩,by show-9223372036854775808<=(1:Int)/\(1:Int)<9223372036854775808;decide,wi64 _,r5⟩,k,aT _⟩
    |exact v_lf ⟨⟨r1,r2,r3,r4,wu64 _⟩,k,o⟩
    |refine v_br (λ_=> ?_) (λ_=> ?_)
    |refine v_cn ?_
    |refine v_an ?_
    |refine v_lv λ_ _=> ?_)
set_option synthInstance.maxHeartbeats 2000000
set_option synthInstance.maxSize 100000
noncomputable section
instance Qxu (s:List Int):Ck (Q06 s):=let d:Decidable (Q06 s):=(by delta Q06;infer_instance);⟨@decide _ d,@oY _ d⟩
instance Znf (m:List Int) (addr:Int) (size:Int):Ck (Q98 m addr size):=ckT (t:=Q2s m addr size) (by delta Q2s;infer_instance)
instance yV (n:Int):Ck (Qfq n):=ckT (t:=Qap n) (by delta Qap;infer_instance)
instance xM (w:Int) (low:Int) (n:Int):Ck (Q4n w low n):=ckT (t:=Q8g w low n) (by delta Q8g;infer_instance)
instance yM (w:Int):Ck (Qj3 w):=ckT (t:=Q6u w) (by delta Q6u;infer_instance)
instance yB (m:List Int) (addr:Int) (size:Int):Ck (Q2n m addr size):=ckT (t:=Q5l m addr size) (by delta Q5l;infer_instance)
instance vB (c:Q02) (m:List Int) (va:Int) (size:Int) (access:Int):Ck (Q8k c m va size access):=ckT (t:=Q5n c m va size access) (by delta Q5n;infer_instance)
instance vV (c:Q02) (m:List Int):Ck (Qku c m):=ckT (t:=Qas c m) (by delta Qas;infer_instance)
instance xao (c:Q02) (m:List Int):Ck (Qir c m):=ckT (t:=Q6f c m) (by delta Q6f;infer_instance)
instance Zk1 (x:Int):Ck (Qau x):=ckT (t:=Q1k x) (by delta Q1k;infer_instance)
instance qC (b:Q07) (pages:Int):Ck (Qcl b pages):=ckT (t:=Q3l b pages) (by delta Q3l;infer_instance)
instance Ze9 (m:Q00):Ck (Q2e m):=ckT (t:=Q1 m) (by delta Q1;infer_instance)
instance xC (m:Q00):Ck (Q55 m):=ckT (t:=Q4e m) (by delta Q4e;infer_instance)
instance zo (m:Q00):Ck (Qf1 m):=ckT (t:=Q4o m) (by delta Q4o;infer_instance)
instance vo (m:Q00):Ck (Qag m):=ckT (t:=Q3m m) (by delta Q3m;infer_instance)
instance Znh (m:Q00):Ck (Q9l m):=ckT (t:=Q3x m) (by delta Q3x;infer_instance)
instance vM (pages:Int):Ck (Qjb pages):=ckT (t:=Qeu pages) (by delta Qeu;infer_instance)
instance Qye (s1:List Int) (s2:List Int):Ck (Q12 s1 s2):=let d:Decidable (Q12 s1 s2):=(by delta Q12;infer_instance);⟨@decide _ d,@oY _ d⟩
instance qp (a:Q00) (b:Q00):Ck (Qae a b):=ckT (t:=Q64 a b) (by delta Q64;infer_instance)
instance zC (pages:Int) (blocks:Int) (image:List Int):Ck (Qh3 pages blocks image):=ckT (t:=Qbz pages blocks image) (by delta Qbz;infer_instance)
instance Zn3 (m:Q00) (clock:Int):Ck (Qcp m clock):=ckT (t:=Q7e m clock) (by delta Q7e;infer_instance)
theorem Zfv:Q52:=ck (ckT (t:=Qc9) (by delta Qc9;infer_instance)) (by kernel_rfl)
theorem Ze3:Qai=true:=by kernel_rfl
theorem aw12{W:Bool->Prop}(h:W true):(Tree.an Q52 (.lv Qai λx=> .lf x)).w W:=w_an Zfv (w_lv λx e=>by show W x;rw[e,Ze3];exact h)
end
theorem xp{m:Q00}(hv:okV m)(e:encOK m)(hm:m.Mem.length<=1024):(Qa0 m).w (λ_=>True):=by
 unfold Qa0
 exact Q0a (Za0 hv e.r hm e.k e.o) λx hx=>w_an (show x.length<=1000000000000 by have:=hx.2;omega) (w_lv λy _=>trivial)
theorem zp(kind:Int)(l acts:List Int)(where0 what there that:Int)(hl:l.length*8<=reachBytes):Qb6 kind l acts where0 what there that/\Q9p kind l acts where0 what there that=true:=by
 have aw:(Tree.an Q52 (.lv Qai λx=> .lf x)).w (λr=>r=true):=aw12 rfl
 refine Tree.pp (W:=λr=>r=true) ?_
 unfold Q56
 refine w_lv λx0 h0=>w_br (λ_=>aw) λhb=> ?_
 obtain⟨f1,f2⟩:=zak h0 hb
 refine Q0a (Zkw kind l acts hl f1 f2) λm ⟨g,d⟩=> ?_
 have B: ∀w h:Int,Qfv m w h/\okV (Qhs m w h)/\(Qhs m w h).Mem.length<=1024/\encOK (Qhs m w h):=λw h=>by
   obtain⟨p,q⟩:=Tree.pp (xaB g.ok (by decide) g.ok.cnt w h (λk a b=>by show k<=1000000000000;omega))
   exact⟨p,⟨q.cpu,q.u,q.disk,q.nic,q.bal,q.cnt⟩,q.len,qM g d w h⟩
 obtain⟨p1,va,la,ea⟩:=B where0 what
 obtain⟨p2,vb,lb,eb⟩:=B there that
 refine w_an p1 (w_lv λa ha=>w_an p2 (w_lv λb hb'=> ?_))
 rw[<-ha]at va la ea
 rw[<-hb']at vb lb eb
 clear ha hb'
 refine Q0a (xL (by omega)) λx5 s5=>Q0a (qan (by omega)) λx6 s6=> ?_
 have e65:x6=x5:=by
   cases h:x5
   . cases h':x6
     . rfl
     . exact absurd (s5.2 (s6.1 h')) (by rw[h];decide)
   . exact s6.2 (s5.1 h)
 refine w_br (λ_=> ?_) λh=>by rw[e65,beq_self_eq_true]at h;cases h
 refine Q0a (Za0 va ea.r la ea.k ea.o) λx7 ⟨e7,_⟩=>Q0a (Za0 vb eb.r lb eb.k eb.o) λx8 ⟨e8,_⟩=> ?_
 have ed:decide (x7=x8)=x5:=by
   rw[e7,e8]
   cases h:x5
   . exact dN λe=>by have:=s5.2 (qL va ea.r vb eb.r e);rw[h]at this;cases this
   . exact dY (by rw[s5.1 h])
 refine w_br (λ_=> ?_) λh=>by rw[ed,beq_self_eq_true]at h;cases h
 refine w_br (λ_=>aw) λh=> ?_
 have h:x5=true:=by simpa using h
 have ab:=s5.1 h
 subst ab
 exact w_an (Tree.pp (xp va ea la)).1 (w_lv λx10 e10=>w_an (Tree.pp (xp va ea la)).1 (w_lv λx11 e11=>w_br (λ_=>aw) λh=>by rw[e10,e11,beq_self_eq_true]at h;cases h))

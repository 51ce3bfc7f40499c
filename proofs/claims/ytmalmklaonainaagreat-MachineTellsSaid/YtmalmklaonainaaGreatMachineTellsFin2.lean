import Derived.Test.YtmalmklaonainaaGreatMachineTellsLaws2
import Derived.Test.YtmalmklaonainaaGreatMachineTellsNewsB
import Derived.Test.YtmalmklaonainaaGreatMachineTellsZt
open List renaming mem_append->bX, getD_eq_getElem?_getD->cP, getElem?_eq_getElem->cG, getElem_mem->cQ, replicate->cR, append->cS, mem_cons->cU, not_mem_nil->cV, length_replicate->cW, length_take->bD, length_drop->bF, mem_of_mem_take->cY, mem_of_mem_drop->cZ, length_singleton->dA, take->dC, drop->dD, ext_getElem->bM, range->dE, set->dH, length_set->dI, length_cons->dJ, length_nil->dK, length->dL, getD->aK, getElem?_take->aU, drop_eq_getElem_cons->aB, foldl_cons->aD, drop_eq_nil_of_le->aA, append_assoc->fL, length_map->fM, map_append->bK, append_nil->cJ, nil_append->fN
open Nat renaming lt_succ_self->cO, blt->bT, zero_le->aT, le_refl->aO, le_trans->bH, min_le_left->dB, le_of_eq->dM, pow_le_pow_right->dU, and_le_left->eC, pow_lt_pow_right->eD, and_le_right->eG, two_pow_pos->eI, and_two_pow_sub_one_eq_mod->eJ, mod_lt->eO, two_pow_add_eq_or_of_lt->eQ, eq_of_testBit_eq->eR, testBit_mod_two_pow->eS, testBit->eT, mul_comm->fC, zero_testBit->fJ, testBit_and->fK
open Int renaming le_refl->cX, tmod->dF, toNat->dG, emod_eq_of_lt->dO, pow_pos->dP, fdiv_eq_ediv_of_nonneg->dQ, le_of_lt->dR, pow_add->dS, mul_le_mul_of_nonneg_right->dT, lt_or_le->dW, toNat_natCast->eF, tmod_eq_emod_of_nonneg->eH, toNat_of_nonneg->eK, fdiv->eN, tdiv->eZ, tdiv_eq_ediv_of_nonneg->fA, ediv_ediv_of_nonneg->fG, mul_ediv_add_emod->fH, pow_succ->fI, natCast_inj->fO
open Bool renaming or_eq_true->aI, eq_iff_iff->eM, noConfusion->fF
open UInt8 renaming toNat_lt->dV, toNat->fB, ofNat->fD
open BitVec renaming ofInt->dX, toNat_ofInt->dZ, toNat_or->eA, toNat_and->eB, getLsbD->eU, eq_of_toNat_eq->eV, ofInt_natCast->eW, toNat_ofNat->eY
open Prod renaming ext->fE
set_option maxRecDepth 100000
set_option linter.all false
namespace Go.Proofs.YtmalmklaonainaaGreat
open Go Go.GD
open Go.IntKind(wrap i64 u32 u64 u8 wrap_i64 wrap_u32 wrap_u64 wrap_u8 wrap_i32)
theorem Zk1(i:Q0h):U (Q1a i).1:=by
 refine Tree.post (Qgc i) (W:=λr=>U r.1) ?_
 unfold Qgc
 exact w_lv λ_ _=>w_br (λ_=>U_0) (λ_=>U_or _ _)
theorem Zkd(l:List Int)(hl:l.length*8<=reachBytes):(Qhg l).w (λr=>(r.length:Int)=l.length/\ ∀w∈r,U w):=by
 have hl':l.length*8<=140737488351232:=hl
 have app: ∀{r:List Int} {x:Int},(∀w∈r,U w)->U x-> ∀w∈r++[x],U w:=λhr hx w hw=>by
   rw[bX]at hw
   rcases hw with hw|hw
   . exact hr w hw
   . rw[List.mem_singleton.1 hw];exact hx
 unfold Qhg
 refine w_lp (inv:=λz=>Qr9 l z/\ ∀w∈z.2,U w) (μ:=Qc8 l) ⟨⟨by omega,by simp,by simp⟩,by simp⟩ (cO _) (λv0 hv=> ?_)
 obtain⟨⟨h1,h2,h3⟩,h4⟩:=hv
 refine w_br (λh=> ?_) (λh=> ?_)
 . have h:=oY h
   have next: ∀x:Int,U x->(Qr9 l (wrap i64 (v0.1+1),v0.2++[x])/\ ∀w∈v0.2++[x],U w)/\Qc8 l (wrap i64 (v0.1+1),v0.2++[x])<Qc8 l v0:=λx hx=>by
     have hw:i64.wrap (v0.1+1)=v0.1+1:=by rw[wrap_i64];omega
     rw[hw]
     refine⟨⟨⟨?_,?_,?_⟩,app h4 hx⟩,?_⟩
     . show 0<=v0.1+1;omega
     . show v0.1+1<=l.length;omega
     . show((v0.2++[x]).length:Int)=v0.1+1;simp;omega
     . show(l.length-(v0.1+1)).toNat<(l.length-v0.1).toNat;omega
   have hb:(Nat.beq 1 1&&bT 0 1&&decide (0<=v0.1/\v0.1<(l.length:Int)))=true:=by simp [bT];omega
   have hc:decide (4*(v0.2.length+1)<=140737488355328)=true:=dY (by omega)
   exact w_cn hb (w_br (λ_=>w_cn hb (w_cn hc (next _ (Q0m _)))) (λ_=>w_cn hb (w_an (Zkw _) (w_lv λx0 _=>w_lv λx1 hx=>w_cn hc (next _ (by rw[hx];exact Zk1 _))))))
 . have h:=oN h
   exact⟨by show(v0.2.length:Int)=l.length;omega,h4⟩
theorem Z3v(steps:Int):0<=Q1b steps/\Q1b steps<=4000:=by
 refine Tree.post (Qco steps) (W:=λr=>0<=r/\r<=4000) ?_
 unfold Qco
 refine w_lf ?_
 constructor<;>(repeat' split)<;>omega
theorem Zdk{P:Nat}{r:Q01}(h:okR P r)(steps:Int){clock:Int}(hc:U clock)(hl:r.C8.length<=900000)(hq:r.B0.length<=1000)(hu: ∀q∈r.B0,U q.N):
    (Q52 r steps clock).w (λx=>okR P x.1/\x.1.C8.length<=r.C8.length+r.B0.length+8000/\(x.1.B0=r.B0\/x.1.B0=[])/\x.2.length<=4000):=by
  unfold Q52
  refine Q08 (own_w h (by omega) (by omega)) λx0 hx=> ?_
  obtain⟨k1,k2,k3⟩:=hx
  refine w_lv λx1 _=>w_br (λ_=>⟨k1,by rw[k2];omega, .inl k3,aT _⟩) (λ_=> ?_)
  have hcl:U (if clock>x0.B3 then clock else x0.B3):=by split<;>first|exact hc|exact k1.clock
  refine w_lp (inv:=λz=>0<=z.1/\z.1<=r.B0.length/\okR P z.2/\(z.2.C8.length:Int)<=r.C8.length+z.1/\z.2.B0=r.B0) (μ:=Qb4 r steps clock) ⟨by omega,by omega,⟨k1.m,hcl⟩,by rw[k2];omega,k3⟩ (cO _) (λz hz=> ?_)
  obtain⟨z1,z2,z3,z4,z5⟩:=hz
  refine w_br (λhb=> ?_) (λhb=> ?_)
  . have hb:=oY hb
    rw[z5]at hb
    have hm:(z.2.B0.getD z.1.toNat (RK.dflt RK.apiEvent))∈r.B0:=by
      rw[z5]
      have hlt:z.1.toNat<r.B0.length:=by omega
      rw[cP,cG hlt]
      exact cQ hlt
    refine w_cn (by rw[z5];simp [bT];omega) (Q08 (yy z3 (hu _ hm) (by omega)) λx hx=>w_nx ?_)
    obtain⟨a1,a2,a3⟩:=hx
    show(0<=i64.wrap (z.1+1)/\i64.wrap (z.1+1)<=r.B0.length/\okR P x/\(x.C8.length:Int)<=r.C8.length+i64.wrap (z.1+1)/\x.B0=r.B0)/\(x.B0.length-i64.wrap (z.1+1)).toNat<(z.2.B0.length-z.1).toNat
    have ew:i64.wrap (z.1+1)=z.1+1:=by rw[wrap_i64];omega
    rw[ew,a3,z5]
    exact⟨⟨by omega,by omega,a1,by omega,rfl⟩,by omega⟩
  . refine w_lp (inv:=λy=>0<=y.1/\y.1<=4000/\okR P y.2.1/\(y.2.1.C8.length:Int)<=r.C8.length+r.B0.length+2*y.1/\y.2.1.B0=[]/\(y.2.2.length:Int)<=y.1) (μ:=Q5c r steps clock z) ⟨by omega,by omega,⟨z3.m,z3.clock⟩,by simp;omega,rfl,by simp⟩ (cO _) (λy hy=> ?_)
    obtain⟨y1,y2,y3,y4,y5,y6⟩:=hy
    have ew:i64.wrap (y.1+1)=y.1+1:=by rw[wrap_i64];omega
    refine w_lv λx3 hx3=>w_br (λhb=> ?_) (λ_=>⟨y3,by show y.2.1.C8.length<=_;omega, .inr y5,by show y.2.2.length<=_;omega⟩)
    have hb:=oY hb
    have lim:=(Z3v steps).2
    rw[<-hx3]at lim
    refine w_lv λx4 _=>w_br (λ_=>Q08 (yy (e:=⟨_,_,_⟩) y3 U_0 (by omega)) λx5 h5=> ?_) (λ_=> ?_)
    . obtain⟨q1,q2,q3⟩:=h5
      have q3:=q3.trans y5
      refine Q08 (Z9n _) λs1 _=>w_br (λ_=>⟨q1,by show x5.C8.length<=_;omega, .inr q3,by show y.2.2.length<=_;omega⟩) (λ_=>Q08 (Qy0 q1.m.cpu q1.m.mem) λs2 _=>w_br (λ_=>w_cn (dY (by omega)) (Q08 (Qt7 (r:=⟨x5.A0,x5.B3,x5.C8++[_],x5.B0⟩) ⟨q1.m,q1.clock⟩ q1.clock) λo ho=> ?_)) (λ_=>Q08 (Qt7 q1 q1.clock) λo ho=> ?_))
      . obtain⟨a1,⟨⟨a2,a3⟩,a4,a5⟩⟩:=ho
        have e4:o.2.C8.length=x5.C8.length+1:=by rw[a4];simp
        have a5:o.2.B0=[]:=a5.trans q3
        refine w_cn (dY (by omega)) (w_nx ?_)
        show(0<=i64.wrap (y.1+1)/\i64.wrap (y.1+1)<=4000/\okR P _/\(o.2.C8.length:Int)<=r.C8.length+r.B0.length+2*i64.wrap (y.1+1)/\o.2.B0=[]/\((y.2.2++o.1).length:Int)<=i64.wrap (y.1+1))/\(4000-i64.wrap (y.1+1)).toNat<(4000-y.1).toNat
        rw[ew,a5,lA]
        exact⟨⟨by omega,by omega,⟨a2,Q0m _⟩,by omega,rfl,by omega⟩,by omega⟩
      . obtain⟨a1,⟨⟨a2,a3⟩,a4,a5⟩⟩:=ho
        have e4:o.2.C8.length=x5.C8.length:=by rw[a4]
        have a5:o.2.B0=[]:=a5.trans q3
        refine w_cn (dY (by omega)) (w_nx ?_)
        show(0<=i64.wrap (y.1+1)/\i64.wrap (y.1+1)<=4000/\okR P _/\(o.2.C8.length:Int)<=r.C8.length+r.B0.length+2*i64.wrap (y.1+1)/\o.2.B0=[]/\((y.2.2++o.1).length:Int)<=i64.wrap (y.1+1))/\(4000-i64.wrap (y.1+1)).toNat<(4000-y.1).toNat
        rw[ew,a5,lA]
        exact⟨⟨by omega,by omega,⟨a2,Q0m _⟩,by omega,rfl,by omega⟩,by omega⟩
    . refine Q08 (Z9n _) λs1 _=>w_br (λ_=>⟨y3,by show y.2.1.C8.length<=_;omega, .inr y5,by show y.2.2.length<=_;omega⟩) (λ_=>Q08 (Qy0 y3.m.cpu y3.m.mem) λs2 _=>w_br (λ_=>w_cn (dY (by omega)) (Q08 (Qt7 (r:=⟨y.2.1.A0,y.2.1.B3,y.2.1.C8++[_],y.2.1.B0⟩) ⟨y3.m,y3.clock⟩ y3.clock) λo ho=> ?_)) (λ_=>Q08 (Qt7 y3 y3.clock) λo ho=> ?_))
      . obtain⟨a1,⟨⟨a2,a3⟩,a4,a5⟩⟩:=ho
        have e4:o.2.C8.length=y.2.1.C8.length+1:=by rw[a4];simp
        have a5:o.2.B0=[]:=a5.trans y5
        refine w_cn (dY (by omega)) (w_nx ?_)
        show(0<=i64.wrap (y.1+1)/\i64.wrap (y.1+1)<=4000/\okR P _/\(o.2.C8.length:Int)<=r.C8.length+r.B0.length+2*i64.wrap (y.1+1)/\o.2.B0=[]/\((y.2.2++o.1).length:Int)<=i64.wrap (y.1+1))/\(4000-i64.wrap (y.1+1)).toNat<(4000-y.1).toNat
        rw[ew,a5,lA]
        exact⟨⟨by omega,by omega,⟨a2,Q0m _⟩,by omega,rfl,by omega⟩,by omega⟩
      . obtain⟨a1,⟨⟨a2,a3⟩,a4,a5⟩⟩:=ho
        have e4:o.2.C8.length=y.2.1.C8.length:=by rw[a4]
        have a5:o.2.B0=[]:=a5.trans y5
        refine w_cn (dY (by omega)) (w_nx ?_)
        show(0<=i64.wrap (y.1+1)/\i64.wrap (y.1+1)<=4000/\okR P _/\(o.2.C8.length:Int)<=r.C8.length+r.B0.length+2*i64.wrap (y.1+1)/\o.2.B0=[]/\((y.2.2++o.1).length:Int)<=i64.wrap (y.1+1))/\(4000-i64.wrap (y.1+1)).toNat<(4000-y.1).toNat
        rw[ew,a5,lA]
        exact⟨⟨by omega,by omega,⟨a2,Q0m _⟩,by omega,rfl,by omega⟩,by omega⟩
section
variable {P:Nat} {m:Q00} (h:okM P m)
include h
theorem min_w(port:Int){clock:Int}(hc:U clock):(Qf7 m port clock).w (λx=>U x.1/\okM P x.2/\x.2.A4=m.A4):=by
 have k:=(⟨h,rfl⟩:okM P m/\m.A4=m.A4)
 obtain⟨h1,h2,h3,h4,h5,h7⟩:=h
 unfold Qf7
 exact w_br (λ_=>w_lv λx hx=>⟨hx▸Z2z _ _,⟨⟨h1,h2,h3,h4,h5,h7⟩,rfl⟩⟩) (λ_=>w_br (λ_=>⟨hc,k⟩) (λ_=>w_br (λ_=>w_lv λx hx=>⟨hx▸Zfz _,k⟩) (λ_=>w_br (λ_=>w_lv λx hx=>⟨hx▸Zkc h3 _,k⟩) (λ_=>w_br (λ_=>w_lv λx hx=>⟨hx▸zy h4 _,k⟩) (λ_=>w_lv λx hx=>⟨hx▸Z0m h5.1 _,k⟩)))))
theorem xaA(port:Int){v:Int}(hv:U v):(Q9z m port v).w (λx=>x.1.length<=1/\okM P x.2/\x.2.A4=m.A4):=by
 have k:=(⟨h,rfl⟩:okM P m/\m.A4=m.A4)
 obtain⟨h1,h2,h3,h4,h5,h7⟩:=h
 unfold Q9z
 exact w_br (λ_=>⟨aO _,k⟩) (λ_=>w_br (λ_=>⟨aT _,k⟩) (λ_=>w_br (λ_=>w_lv λ_ _=>⟨aT _,⟨⟨h1,h2,h3,h4,h5,h7⟩,rfl⟩⟩) (λ_=>w_br (λ_=>Q08 (Zgi h2 h3 _ hv _) λx hx=>⟨hx.2,⟨⟨h1,h2,hx.1,h4,h5,h7⟩,rfl⟩⟩) (λ_=>w_br (λ_=>Q08 (Zkk h2 h4 _ hv _) λx hx=>⟨hx.2,⟨⟨h1,h2,h3,hx.1,h5,h7⟩,rfl⟩⟩) (λ_=>Q08 (v7 h2 h5 _ hv) λx hx=>⟨aT _,⟨⟨h1,hx.2,h3,h4,hx.1,h7⟩,rfl⟩⟩)))))
theorem Z7g{clock:Int}(hc:U clock):(Q8 m clock).w (λx=>x.1.length<=1/\okM P x.2/\x.2.A4=wrap .u64 (m.A4+1)):=by
 obtain⟨h1,h2,h3,h4,h5,h7⟩:=h
 unfold Q8
 refine Q08 (Qgj h1) λx0 c0=>Q08 (do_w c0 h2) λx1 hx=> ?_
 obtain⟨c1,v1,m1⟩:=hx
 refine w_br (λ_=>Zeg (min_w (m:=⟨_,_,_,_,_,_,_,_,_,_⟩) ⟨c1,m1,h3,h4,h5,h7⟩ _ hc) λx2 hx=> ?_) (λ_=>w_br (λ_=>Q08 (xaA (m:=⟨_,_,_,_,_,_,_,_,_,_⟩) ⟨c1,m1,h3,h4,h5,h7⟩ _ v1) λx4 hx=> ?_) (λ_=> ?_))
 . obtain⟨u,⟨k1,k2,k3,k4,k5,k7⟩,k6⟩:=hx
   exact Q08 (Z4u k1 _ u) λx3 h3=>⟨aT _,⟨h3,k2,k3,k4,k5,w0 _⟩,congrArg (λn=>wrap .u64 (n+1)) k6⟩
 . obtain⟨u,⟨k1,k2,k3,k4,k5,k7⟩,k6⟩:=hx
   exact⟨u,⟨k1,k2,k3,k4,k5,w0 _⟩,congrArg (λn=>wrap .u64 (n+1)) k6⟩
 . repeat'(first
     |exact⟨aT _,⟨c1,m1,h3,h4,h5,w0 _⟩,rfl⟩
     |refine w_br (λ_=> ?_) (λ_=> ?_))
theorem ye:(Q86 m).w (λx=>okM P x/\x.A4=m.A4):=by
 obtain⟨h1,h2,h3,h4,h5,h7⟩:=h
 unfold Q86
 exact Q08 (yZ h2) λx hx=>⟨⟨h1,by rw[hx];exact h2,h3,h4,h5,h7⟩,rfl⟩
end
theorem U_all(n:Nat): ∀w∈cR n (0:Int),U w:=λw hw=>by rw[(List.mem_replicate.1 hw).2];exact U_0
theorem qaf:okM 0 ⟨⟨⟨0,0,0,0,0,0,0,0,0,0,0,0,0,0,0,0⟩,0,⟨0,0,0,0,0,0,0,0⟩⟩,[],⟨[]⟩,⟨false,0,false⟩,⟨0,0,0,0,0,0,0,[]⟩,⟨0,0,false,0,false,0⟩,⟨0,0⟩,0,false,false⟩:=
 ⟨⟨U_all 16,U_0,U_all 8⟩,⟨rfl,by omega,by omega,λw hw=>by cases hw⟩,⟨U_0,U_0,U_0,U_0⟩,⟨U_0,U_0,U_0,U_0⟩,⟨U_0,U_0⟩,by decide⟩
theorem Zkl{P:Nat}{m:Q00}(h:okM P m)(hc:0<=m.A4):(Q63 m [] 87).w (λx=> ∃Q,okM Q x.1):=by
 have z: ∃Q,okM Q _:=⟨0,qaf⟩
 unfold Q63
 refine w_lv λx0 _=>w_br (λ_=>z) λ_=>w_br (λ_=>z) λ_=>w_br (λ_=>z) λ_=>w_an (show Q7v [] by show([]:List Q20).length<=1000000000000;decide) (w_lv λx1 _=>w_br (λ_=>z) λ_=>Q08 (ye h) λx2 hx=> ?_)
 refine w_lp (inv:=λv:Q00×List Q09=>okM P v.1/\0<=v.1.A4/\v.2.length+(87-v.1.A4).toNat<=87) (μ:=Qao m [] 87) ⟨hx.1,by rw[hx.2];exact hc,by rw[hx.2];show 0+_<=87;omega⟩ (cO _) λv0 ⟨a1,a2,a3⟩=> ?_
 refine w_br (λhb=>w_br (λ_=> ?_) (λ_=>⟨P,a1⟩)) (λ_=>⟨P,a1⟩)
 have hb:=oY hb
 refine w_lp (inv:=λ_=>True) (μ:=Qar m [] 87 v0) trivial (cO _) λv1 _=> ?_
 refine w_br (λ_=>⟨P,a1⟩) λ_=>Q08 (xy _) λx3 _=>w_br (λ_=>⟨P,a1⟩) λ_=>Q08 (Zht a1.cpu a1.mem) λx4 _=>w_br (λ_=>z) λ_=>Q08 (Z7g a1 U_0) λx5 h5=> ?_
 obtain⟨b1,b2,b3⟩:=h5
 refine w_cn (dY (by omega)) (w_nx ?_)
 have e:x5.2.A4=v0.1.A4+1:=by rw[b3,wrap_u64];omega
 show(_/\_/\_)/\(_:Nat)<_
 refine⟨⟨b2,by show 0<=x5.2.A4;omega,by show(v0.2++x5.1).length+(87-x5.2.A4).toNat<=87;rw[lA];omega⟩,by show(87-x5.2.A4).toNat<(87-v0.1.A4).toNat;omega⟩
set_option synthInstance.maxHeartbeats 2000000
set_option synthInstance.maxSize 100000
noncomputable section
instance yH (src:List UInt8):Ck (Qjl src):=ckT (t:=Qf0 src) (by delta Qf0;infer_instance)
instance yC (s:List UInt8):Ck (Qip s):=ckT (t:=Qc2 s) (by delta Qc2;infer_instance)
instance vC (n:Int):Ck (Q2y n):=let d:Decidable (Q2y n):=(by delta Q2y;infer_instance);⟨@decide _ d,@oY _ d⟩
instance qf (n:Int):Ck (Qfd n):=ckT (t:=Q66 n) (by delta Q66;infer_instance)
instance zaf (r:Int):Ck (Qp7 r):=ckT (t:=Qd9 r) (by delta Qd9;infer_instance)
instance yV (s:List UInt8):Ck (Qg4 s):=ckT (t:=Qh9 s) (by delta Qh9;infer_instance)
instance Zou (op:Int):Ck (Qd8 op):=ckT (t:=Q8q op) (by delta Q8q;infer_instance)
instance Zo4 (s:List UInt8):Ck (Q30 s):=ckT (t:=Q7p s) (by delta Q7p;infer_instance)
instance xf (what:List UInt8):Ck (Q5i what):=ckT (t:=Qak what) (by delta Qak;infer_instance)
instance qD (s:List UInt8):Ck (Qi s):=ckT (t:=Qd0 s) (by delta Qd0;infer_instance)
instance zf (l:List Q0f) (p:List UInt8):Ck (Q5l l p):=ckT (t:=Qah l p) (by delta Qah;infer_instance)
instance xD (s:List UInt8):Ck (Qhr s):=ckT (t:=Qce s) (by delta Qce;infer_instance)
instance yf (l:List Q21) (label:List UInt8):Ck (Q39 l label):=let d:Decidable (Q39 l label):=(by delta Q39;infer_instance);⟨@decide _ d,@oY _ d⟩
instance vV (src:List UInt8):Ck (Qlt src):=ckT (t:=Qhy src) (by delta Qhy;infer_instance)
instance qW (st:Q0a) (v:Int):Ck (Q9i st v):=ckT (t:=Qh2 st v) (by delta Qh2;infer_instance)
instance Zov (src:List UInt8):Ck (Q9q src):=ckT (t:=Q8w src) (by delta Q8w;infer_instance)
theorem xaf:Q9q ((108:UInt8)::(tblZe0++Z6v++(Z63++Z84)++(Z7d++Z70++(Z6h++Z73))++(Z75++Z6g++(Qws++Qv1)++(Qvi++Qwe++(Qvx++Qvc))))):=ck inferInstance (by kernel_rfl)
def inU(x:Int):Bool:=decide (0<=x)&&decide (x<4294967296)
theorem qag(l:List Int)(h:(Nat.ble l.length 160&&List.all l inU)=true):l.length<=160/\ ∀w∈l,U w:=by
 rw[aE]at h
 refine⟨lE h.1,λw hw=> ?_⟩
 have:=List.all_eq_true.1 h.2 w hw
 simp only[inU,aE,decide_eq_true_eq]at this
 exact this
theorem Zl8:(Q1t (cS (cS (cS (cS Z8o Z6v) (cS Z63 Z84)) (cS (cS Z7d Z70) (cS Z6h Z73))) (cS (cS (cS Z75 Z6g) (cS Qws Qv1)) (cS (cS Qvi Qwe) (cS Qvx Qvc))))).1.length<=160/\ ∀w∈(Q1t (cS (cS (cS (cS Z8o Z6v) (cS Z63 Z84)) (cS (cS Z7d Z70) (cS Z6h Z73))) (cS (cS (cS Z75 Z6g) (cS Qws Qv1)) (cS (cS Qvi Qwe) (cS Qvx Qvc))))).1,U w:=qag _ (by kernel_rfl)
end
theorem new_w(i:List Int)(hu: ∀w∈i,U w)(hl:i.length<=256):(Q88 8 4 i).w (λx=>okM 8 x.1/\x.1.A4=0):=by
 unfold Q88
 refine w_br (λh=>absurd h (by decide)) λ_=>w_br (λh=>absurd h (by decide)) λ_=>w_br (λh=>absurd h (by decide)) λ_=>w_br (λh=>absurd h (by decide)) λ_=>w_br (λh=> ?_) λ_=>w_lv λx0 e0=>w_an (Zci _) (w_lv λx1 e1=> ?_)
 . have h:=oY h
   rw[show i64.wrap (8*32)=256 by decide]at h
   omega
 have hx:x1=cR 256 0:=by rw[e1];kernel_rfl
 have c0:Q29 x0:=by rw[e0];exact⟨by
   intro w hw
   simp only[Qpz,Qjc,Tree.m,A16.l,cU,cV,or_false,or_self]at hw
   rw[hw];exact U_0,U_0,by
   intro w hw
   simp only[Qpz,Qjc,Tree.m,A8.l,cU,cV,or_false,or_self]at hw
   rcases hw with rfl|rfl
   . exact⟨by omega,by omega⟩
   . exact U_0⟩
 have hz: ∀w∈x1,U w:=by rw[hx];exact U_all 256
 have hn:x1.length=256:=by rw[hx,cW]
 refine⟨⟨c0,⟨?_,by omega,by omega,λw hw=> ?_⟩,⟨U_0,U_0,U_0,U_0⟩,⟨U_0,U_0,U_0,U_0⟩,⟨U_0,U_0⟩,cX _⟩,rfl⟩
 . simp only[lA,bD,bF,hn];omega
 . rcases List.mem_append.1 hw with h1|h1
   . exact hu w (cY h1)
   . exact hz w (cZ h1)
theorem vf(kind:Int)(l:List Int)(hl:l.length*8<=reachBytes):(Q3t kind l).w (λx=> ∃Q,okM Q x):=by
  have hl':l.length*8<=140737488351232:=hl
  unfold Q3t
  refine w_an (Q5t (by decide)) (w_lv λx0 _=>w_br (λ_=>w_an xaf (w_lv λx1 e1=> ?_)) (λ_=> ?_))
  . obtain⟨q1,q2⟩:x1.1.length<=160/\ ∀w∈x1.1,U w:=by rw[e1];exact Zl8
    refine w_lp (inv:=λv:List Int=>v.length<=160/\ ∀w∈v,U w) (μ:=Q8d kind l) ⟨q1,q2⟩ (cO _) λv0 ⟨a1,a2⟩=> ?_
    refine w_br (λhb=> ?_) (λ_=> ?_)
    . have hb:=oY hb
      refine w_cn (dY (by omega)) (w_nx ?_)
      show(_/\_)/\(_:Nat)<_
      refine⟨⟨by rw[lA,dA];omega,λw hw=> ?_⟩,by show 160-(v0++[0]).length<160-v0.length;rw[lA,dA];omega⟩
      rcases List.mem_append.1 hw with h1|h1
      . exact a2 w h1
      . rw[List.mem_singleton.1 h1];exact U_0
    . refine Q08 (Zkd l hl) λx2 ⟨b1,b2⟩=>w_cn (dY (by omega)) ?_
      have hu: ∀w∈v0++x2,U w:=λw hw=>(List.mem_append.1 hw).elim (a2 w) (b2 w)
      refine w_br (λhb=> ?_) (λhb=> ?_)
      . have hb:=oY hb
        refine w_cn (by simp [bT];rw[lA]at hb;omega) (Q08 (new_w _ (λw hw=>hu w (cZ (cY hw))) (by rw[bD];exact bH (dB _ _) (by decide))) λx3 ⟨c1,c2⟩=>w_br (λ_=>Q08 (Zkl c1 (by omega)) λx4 hx=>hx) (λ_=>⟨8,c1⟩))
      . have hb:=oN hb
        exact Q08 (new_w _ hu (by omega)) λx3 ⟨c1,c2⟩=>w_br (λ_=>Q08 (Zkl c1 (by omega)) λx4 hx=>hx) (λ_=>⟨8,c1⟩)
  . refine Q08 (Zkd l hl) λx2 ⟨b1,b2⟩=>w_cn (dY (by omega)) ?_
    refine w_br (λhb=> ?_) (λhb=> ?_)
    . have hb:=oY hb
      refine w_cn (by simp [bT];omega) (Q08 (new_w _ (λw hw=>b2 w (cZ (cY hw))) (by rw[bD];exact bH (dB _ _) (by decide))) λx3 ⟨c1,c2⟩=>w_br (λ_=>Q08 (Zkl c1 (by omega)) λx4 hx=>hx) (λ_=>⟨8,c1⟩))
    . have hb:=oN hb
      exact Q08 (new_w _ b2 (by omega)) λx3 ⟨c1,c2⟩=>w_br (λ_=>Q08 (Zkl c1 (by omega)) λx4 hx=>hx) (λ_=>⟨8,c1⟩)
theorem qaB{P:Nat}{r:Q01}(h:okR P r)(n:Int)(hl:r.C8.length<=900000)(hq:r.B0.length<=16)(hu: ∀q∈r.B0,U q.N):
   (Q75 r n).w (λx=>okR P x.1/\x.1.C8.length<=r.C8.length+8016/\(x.1.B0.length<=16/\ ∀q∈x.1.B0,U q.N)/\x.2.length<=4000):=by
 unfold Q75
 refine w_lv λx0 _=>w_br (λ_=>Q08 (qz n) λe he=>Q08 (vT h e (by omega) hq hu he) λx hx=> ?_) (λ_=>w_an (Q5t (by decide)) (w_lv λx3 _=>Q08 (Zdk h _ (Q0m _) hl (by omega) hu) λx hx=> ?_))
 . obtain⟨a1,a2,a3,a4⟩:=hx
   exact⟨a1,by rw[a2];omega,⟨a3,a4⟩,aT _⟩
 . obtain⟨a1,a2,a3,a4⟩:=hx
   refine⟨a1,by show x.1.C8.length<=_;omega,?_,a4⟩
   rcases a3 with a3|a3
   . rw[a3];exact⟨hq,hu⟩
   . rw[a3];exact⟨aT _,λq hq=>by cases hq⟩
theorem zaB{P:Nat}{m:Q00}(h:okM P m)(l:List Int)(hl:l.length<=30):(Qb0 m l).w (λx=>okR P x.1):=by
 unfold Qb0
 have nr:(Q3k m).w (λx=>okR P x/\x.C8=[]/\x.B0=[]):=by
   unfold Q3k
   exact Q08 (ye h) λx hx=>⟨⟨hx.1,U_0⟩,rfl,rfl⟩
 refine Q08 nr λx0 ⟨n1,n2,n3⟩=> ?_
 refine w_lp (inv:=λv:Int×Q01×List Q09=>0<=v.1/\v.1<=l.length/\okR P v.2.1/\(v.2.1.C8.length:Int)<=8016*v.1/\(v.2.1.B0.length<=16/\ ∀q∈v.2.1.B0,U q.N)/\(v.2.2.length:Int)<=4000*v.1) (μ:=Qi8 m l) ⟨cX _,by show(0:Int)<=l.length;omega,n1,by rw[n2];exact cX _,by rw[n3];exact⟨aT _,λq hq=>by cases hq⟩,cX _⟩ (cO _) λv0 ⟨a1,a2,a3,a4,⟨a5,a6⟩,a7⟩=> ?_
 refine w_br (λhb=> ?_) (λ_=>a3)
 have hb:=oY hb
 refine w_cn (by simp [bT];omega) (Q08 (qaB a3 _ (by omega) a5 a6) λx1 ⟨b1,b2,b3,b4⟩=>w_cn (dY (by omega)) (w_nx ?_))
 have e:i64.wrap (v0.1+1)=v0.1+1:=by rw[wrap_i64];omega
 show(_/\_/\_/\_/\_/\_)/\(_:Nat)<_
 refine⟨⟨by rw[e];omega,by rw[e];omega,b1,by rw[e];show(x1.1.C8.length:Int)<=_;omega,b3,by rw[e,lA];omega⟩,by show(l.length-i64.wrap (v0.1+1)).toNat<(l.length-v0.1).toNat;rw[e];omega⟩
noncomputable section
def boot:List Int:=(Q1t (cS (cS (cS (cS Z8o Z6v) (cS Z63 Z84)) (cS (cS Z7d Z70) (cS Z6h Z73))) (cS (cS (cS Z75 Z6g) (cS Qws Qv1)) (cS (cS Qvi Qwe) (cS Qvx Qvc))))).1
def Qjv:List Int:=boot++cR (160-boot.length) 0
theorem run87(t0 t1 t2 t3 t4 t5 t6 t7 t8 t9 t10 t11 t12 t13 t14 t15 t16 t17 t18 t19 t20 t21 t22 t23 t24 t25 t26 t27 t28 t29 t30 t31 t32 t33 t34 t35 t36 t37 t38 t39 t40 t41 t42 t43 t44 t45 t46 t47 t48 t49 t50 t51 t52 t53 t54 t55 t56 t57 t58 t59 t60 t61 t62 t63 t64 t65 t66 t67 t68 t69 t70 t71 t72 t73 t74 t75 t76 t77 t78 t79 t80 t81 t82 t83 t84 t85 t86 t87 t88 t89 t90 t91 t92 t93 t94 t95:Int):(Qbg (Q1o 8 4 (Qjv++[t0,t1,t2,t3,t4,t5,t6,t7,t8,t9,t10,t11,t12,t13,t14,t15,t16,t17,t18,t19,t20,t21,t22,t23,t24,t25,t26,t27,t28,t29,t30,t31,t32,t33,t34,t35,t36,t37,t38,t39,t40,t41,t42,t43,t44,t45,t46,t47,t48,t49,t50,t51,t52,t53,t54,t55,t56,t57,t58,t59,t60,t61,t62,t63,t64,t65,t66,t67,t68,t69,t70,t71,t72,t73,t74,t75,t76,t77,t78,t79,t80,t81,t82,t83,t84,t85,t86,t87,t88,t89,t90,t91,t92,t93,t94,t95])).1 [] 87).2.2.2=0:=by kernel_rfl
end
attribute [local irreducible] Q1t
theorem zag(i j:List Int)(hi:i.length<=256)(hj:j.length<=256)(e:i++cR (256-i.length) 0=j++cR (256-j.length) 0):Q1o 8 4 i=Q1o 8 4 j:=by
 have w:i64.wrap (8*32)=256:=by decide
 have m:Qtg 8=cR 256 0:=by kernel_rfl
 have d: ∀k:List Int,k.length<=256->decide ((k.length:Int)>256)=false:=λk h=>dN (by omega)
 have mem: ∀k:List Int,k.length<=256->dC (min k.length (cR 256 (0:Int)).length) k++dD (min k.length (cR 256 (0:Int)).length) (cR 256 0)=k++cR (256-k.length) 0:=λk h=>by
   rw[cW,Nat.min_eq_left h,List.take_length,List.drop_replicate]
 have r:Qtg 8=cR 256 0:=by kernel_rfl
 simp only[Q1o,Q88,Tree.m,w,letv,r,d i hi,d j hj]
 simp only[mem i hi,mem j hj,e]
theorem list96(t:List Int)(ht:t.length=96):t=[t.getD 0 0,t.getD 1 0,t.getD 2 0,t.getD 3 0,t.getD 4 0,t.getD 5 0,t.getD 6 0,t.getD 7 0,t.getD 8 0,t.getD 9 0,t.getD 10 0,t.getD 11 0,t.getD 12 0,t.getD 13 0,t.getD 14 0,t.getD 15 0,t.getD 16 0,t.getD 17 0,t.getD 18 0,t.getD 19 0,t.getD 20 0,t.getD 21 0,t.getD 22 0,t.getD 23 0,t.getD 24 0,t.getD 25 0,t.getD 26 0,t.getD 27 0,t.getD 28 0,t.getD 29 0,t.getD 30 0,t.getD 31 0,t.getD 32 0,t.getD 33 0,t.getD 34 0,t.getD 35 0,t.getD 36 0,t.getD 37 0,t.getD 38 0,t.getD 39 0,t.getD 40 0,t.getD 41 0,t.getD 42 0,t.getD 43 0,t.getD 44 0,t.getD 45 0,t.getD 46 0,t.getD 47 0,t.getD 48 0,t.getD 49 0,t.getD 50 0,t.getD 51 0,t.getD 52 0,t.getD 53 0,t.getD 54 0,t.getD 55 0,t.getD 56 0,t.getD 57 0,t.getD 58 0,t.getD 59 0,t.getD 60 0,t.getD 61 0,t.getD 62 0,t.getD 63 0,t.getD 64 0,t.getD 65 0,t.getD 66 0,t.getD 67 0,t.getD 68 0,t.getD 69 0,t.getD 70 0,t.getD 71 0,t.getD 72 0,t.getD 73 0,t.getD 74 0,t.getD 75 0,t.getD 76 0,t.getD 77 0,t.getD 78 0,t.getD 79 0,t.getD 80 0,t.getD 81 0,t.getD 82 0,t.getD 83 0,t.getD 84 0,t.getD 85 0,t.getD 86 0,t.getD 87 0,t.getD 88 0,t.getD 89 0,t.getD 90 0,t.getD 91 0,t.getD 92 0,t.getD 93 0,t.getD 94 0,t.getD 95 0]:=by
 apply bM
 . rw[ht];rfl
 . intro i h1 h2
   have e: ∀j (hj:j<96),[t.getD 0 0,t.getD 1 0,t.getD 2 0,t.getD 3 0,t.getD 4 0,t.getD 5 0,t.getD 6 0,t.getD 7 0,t.getD 8 0,t.getD 9 0,t.getD 10 0,t.getD 11 0,t.getD 12 0,t.getD 13 0,t.getD 14 0,t.getD 15 0,t.getD 16 0,t.getD 17 0,t.getD 18 0,t.getD 19 0,t.getD 20 0,t.getD 21 0,t.getD 22 0,t.getD 23 0,t.getD 24 0,t.getD 25 0,t.getD 26 0,t.getD 27 0,t.getD 28 0,t.getD 29 0,t.getD 30 0,t.getD 31 0,t.getD 32 0,t.getD 33 0,t.getD 34 0,t.getD 35 0,t.getD 36 0,t.getD 37 0,t.getD 38 0,t.getD 39 0,t.getD 40 0,t.getD 41 0,t.getD 42 0,t.getD 43 0,t.getD 44 0,t.getD 45 0,t.getD 46 0,t.getD 47 0,t.getD 48 0,t.getD 49 0,t.getD 50 0,t.getD 51 0,t.getD 52 0,t.getD 53 0,t.getD 54 0,t.getD 55 0,t.getD 56 0,t.getD 57 0,t.getD 58 0,t.getD 59 0,t.getD 60 0,t.getD 61 0,t.getD 62 0,t.getD 63 0,t.getD 64 0,t.getD 65 0,t.getD 66 0,t.getD 67 0,t.getD 68 0,t.getD 69 0,t.getD 70 0,t.getD 71 0,t.getD 72 0,t.getD 73 0,t.getD 74 0,t.getD 75 0,t.getD 76 0,t.getD 77 0,t.getD 78 0,t.getD 79 0,t.getD 80 0,t.getD 81 0,t.getD 82 0,t.getD 83 0,t.getD 84 0,t.getD 85 0,t.getD 86 0,t.getD 87 0,t.getD 88 0,t.getD 89 0,t.getD 90 0,t.getD 91 0,t.getD 92 0,t.getD 93 0,t.getD 94 0,t.getD 95 0][j]'hj=t.getD j 0:=by
     intro j hj
     have:[t.getD 0 0,t.getD 1 0,t.getD 2 0,t.getD 3 0,t.getD 4 0,t.getD 5 0,t.getD 6 0,t.getD 7 0,t.getD 8 0,t.getD 9 0,t.getD 10 0,t.getD 11 0,t.getD 12 0,t.getD 13 0,t.getD 14 0,t.getD 15 0,t.getD 16 0,t.getD 17 0,t.getD 18 0,t.getD 19 0,t.getD 20 0,t.getD 21 0,t.getD 22 0,t.getD 23 0,t.getD 24 0,t.getD 25 0,t.getD 26 0,t.getD 27 0,t.getD 28 0,t.getD 29 0,t.getD 30 0,t.getD 31 0,t.getD 32 0,t.getD 33 0,t.getD 34 0,t.getD 35 0,t.getD 36 0,t.getD 37 0,t.getD 38 0,t.getD 39 0,t.getD 40 0,t.getD 41 0,t.getD 42 0,t.getD 43 0,t.getD 44 0,t.getD 45 0,t.getD 46 0,t.getD 47 0,t.getD 48 0,t.getD 49 0,t.getD 50 0,t.getD 51 0,t.getD 52 0,t.getD 53 0,t.getD 54 0,t.getD 55 0,t.getD 56 0,t.getD 57 0,t.getD 58 0,t.getD 59 0,t.getD 60 0,t.getD 61 0,t.getD 62 0,t.getD 63 0,t.getD 64 0,t.getD 65 0,t.getD 66 0,t.getD 67 0,t.getD 68 0,t.getD 69 0,t.getD 70 0,t.getD 71 0,t.getD 72 0,t.getD 73 0,t.getD 74 0,t.getD 75 0,t.getD 76 0,t.getD 77 0,t.getD 78 0,t.getD 79 0,t.getD 80 0,t.getD 81 0,t.getD 82 0,t.getD 83 0,t.getD 84 0,t.getD 85 0,t.getD 86 0,t.getD 87 0,t.getD 88 0,t.getD 89 0,t.getD 90 0,t.getD 91 0,t.getD 92 0,t.getD 93 0,t.getD 94 0,t.getD 95 0]=(dE 96).map (λk=>t.getD k 0):=rfl
     simp only[this,List.getElem_map,List.getElem_range]
   rw[e i (by omega),cP,cG h1]
   rfl
theorem xaB(t:List Int)(ht:t.length=96):(Qbg (Q1o 8 4 (Qjv++t)).1 [] 87).2.2.2=0:=by
 rw[list96 t ht]
 exact run87 _ _ _ _ _ _ _ _ _ _ _ _ _ _ _ _ _ _ _ _ _ _ _ _ _ _ _ _ _ _ _ _ _ _ _ _ _ _ _ _ _ _ _ _ _ _ _ _ _ _ _ _ _ _ _ _ _ _ _ _ _ _ _ _ _ _ _ _ _ _ _ _ _ _ _ _ _ _ _ _ _ _ _ _ _ _ _ _ _ _ _ _ _ _ _ _
theorem xag:Qjv.length=160:=by
 have h:boot.length<=160:=Zl8.1
 unfold Qjv
 rw[lA,cW];omega
def out(f:Int)(m m':List Int):Prop:= ∀j:Nat,¬(f*32<=j/\(j:Int)<f*32+32)->m'.getD j 0=m.getD j 0
theorem Qpr(f:Int)(m:List Int):out f m m:=λ_ _=>rfl
theorem getDset(l:List Int)(i j:Nat)(v:Int)(h:i≠j):(l.set i v).getD j 0=l.getD j 0:=by
 simp only[cP,List.getElem?_set_ne h]
theorem Q3c{P:Nat}{m:List Int}(h:Q0x P m):Q0q m=P:=by
 obtain⟨h1,h2,h3,_⟩:=h
 simp only[Q0q,Q82,Tree.m]
 have e:(m.length:Int)=32*P:=by omega
 rw[e]
 have e1:(dF (32*(P:Int)) 32 !=0)=false:=by simp [Int.mul_tmod_right]
 have e2:decide ((32*(P:Int))>1024)=false:=dN (by omega)
 rw[e1,e2]
 simp only[cond_false]
 rw[Int.mul_tdiv_cancel_left _ (by decide),wrap_i64];omega
theorem xW{P:Nat}{m:List Int}(h:Q0x P m)(f:Int):Q4u m f=true->0<=f/\f<P:=by
 have hp:=Q3c h
 simp only[Q4u,Q7q,Tree.m,letv,hp]
 cases h1:decide (f>=0)
 . intro h;cases h
 . intro h;exact⟨oY h1,oY h⟩
theorem Z27{P:Nat}{m:List Int}(h:Q0x P m)(f:Int)(s:List UInt8):(Q3a m f s).w (λr=>Q0x P r.1/\out f m r.1/\(r.2=false->r.1=m)):=by
 have hcl:Q03 m=m:=rfl
 have h2:=h.p2
 unfold Q3a
 refine w_an (Q9c h) (w_lv λx0 hx0=>w_lv λx1 hx1=> ?_)
 rw[hcl]at hx0;subst hx0
 refine w_br (λ_=>⟨h,Qpr _ _,λ_=>rfl⟩) λhb=>w_br (λ_=>⟨h,Qpr _ _,λ_=>rfl⟩) λhs=> ?_
 have hb:x1=true:=by simpa using hb
 obtain⟨f0,f1⟩:=xW h f (hx1.symm.trans hb)
 have hs:(s.length:Int)=128:=by simpa using hs
 refine w_lp (inv:=λz:Int×List Int=>0<=z.1/\z.1<=32/\Q0x P z.2/\out f x0 z.2) (μ:=Qa6 x0 f s) ⟨show(0:Int)<=0 by decide,show(0:Int)<=32 by decide,h,Qpr _ _⟩ (cO _) λz ⟨z1,z2,z3,z4⟩=> ?_
 refine w_br (λhb=> ?_) (λ_=>⟨z3,z4,λh=>by cases h⟩)
 have hb:=oY hb
 have e1:i64.wrap (4*z.1)=4*z.1:=by rw[wrap_i64];omega
 have e2:i64.wrap (i64.wrap (4*z.1)+4)=4*z.1+4:=by rw[wrap_i64,wrap_i64];omega
 have e3:i64.wrap (i64.wrap (f*32)+z.1)=f*32+z.1:=by rw[wrap_i64,wrap_i64];omega
 have hl:=z3.len
 have hlen:(dC (dG (i64.wrap (i64.wrap (4*z.1)+4))-dG (i64.wrap (4*z.1))) (dD (dG (i64.wrap (4*z.1))) s)).length=4:=by
   rw[e2,e1,bD,bF];omega
 refine w_cn (dY (by rw[e2,e1];omega)) ?_
 refine w_cn (dY (by rw[hlen];decide)) (w_cn (dY (by rw[hlen];decide)) (w_cn (dY (by rw[hlen];decide)) (w_cn (dY (by rw[hlen];decide)) (w_cn (by rw[e3];simp [bT];omega) (w_nx ?_)))))
 show(_/\_/\Q0x P (dH _ _ _)/\out f x0 (dH _ _ _))/\(_:Nat)<_
 have ew:i64.wrap (z.1+1)=z.1+1:=by rw[wrap_i64];omega
 rw[e3]
 refine⟨⟨by rw[ew];omega,by rw[ew];omega,⟨by rw[dI];exact hl,z3.p1,z3.p2,Qzd z3.u (U_or _ _) _⟩,λj hj=> ?_⟩,by show(32-i64.wrap (z.1+1)).toNat<(32-z.1).toNat;rw[ew];omega⟩
 rw[getDset _ _ _ _ (by omega)]
 exact z4 j hj
theorem qaC(w:List Int)(h:w.length<=32):(Q4p w).w (λr=>r.length=4*w.length):=by
 have e0:i64.wrap (4*(w.length:Int))=4*w.length:=by rw[wrap_i64];omega
 unfold Q4p
 refine w_cn (by rw[e0];simp [bT,D.plain];omega) ?_
 refine w_lp (inv:=λz:Int×List Int=>0<=z.1/\z.1<=w.length/\(z.2.length:Int)=4*z.1) (μ:=Q6t w) ⟨by decide,by show(0:Int)<=w.length;omega,rfl⟩ (cO _) λz ⟨z1,z2,z3⟩=> ?_
 refine w_br (λhb=> ?_) (λhb=> ?_)
 . have hb:=oY hb
   have ew:i64.wrap (z.1+1)=z.1+1:=by rw[wrap_i64];omega
   refine w_cn (by simp [bT];omega) (w_cn (dY (by omega)) (w_nx ?_))
   show(_/\_/\_)/\(_:Nat)<_
   refine⟨⟨by rw[ew];omega,by rw[ew];omega,by rw[ew,lA];simp only[dJ,dK];omega⟩,by show(w.length-i64.wrap (z.1+1)).toNat<(w.length-z.1).toNat;rw[ew];omega⟩
 . have hb:=oN hb
   show(bytesOf z.2).length=_
   rw[Qib];omega
theorem Zhy{P:Nat}{m:List Int}(h:Q0x P m)(f:Int):(Q60 m f).w (λr=>0<=f->f<P->r.1.length=128):=by
 have hl:=h.len
 have h2:=h.p2
 unfold Q60
 refine w_lv λx0 hx0=>w_br (λhb=>λf0 f1=> ?_) (λhb=> ?_)
 . have hp:=Q3c h
   have hb:x0=false:=by simpa using hb
   rw[hb]at hx0
   simp only[Q4u,Q7q,Tree.m,letv,hp]at hx0
   rw[dY f0]at hx0
   exact absurd f1 (oN hx0.symm)
 . have hb:x0=true:=by simpa using hb
   obtain⟨f0,f1⟩:=xW h f (hx0.symm.trans hb)
   have e1:i64.wrap (f*32)=f*32:=by rw[wrap_i64];omega
   have e2:i64.wrap (i64.wrap (f*32)+32)=f*32+32:=by rw[wrap_i64,wrap_i64];omega
   have hlen:(dC (dG (i64.wrap (i64.wrap (f*32)+32))-dG (i64.wrap (f*32))) (dD (dG (i64.wrap (f*32))) m)).length=32:=by
     rw[e2,e1,bD,bF];omega
   refine w_cn (by rw[e2,e1];simp [bT];omega) ?_
   refine w_an (by show dL _<=1000000000000;rw[hlen];decide) (w_lv λx1 h1=> ?_)
   have h1:x1.length=4*(dC (dG (i64.wrap (i64.wrap (f*32)+32))-dG (i64.wrap (f*32))) (dD (dG (i64.wrap (f*32))) m)).length:=by rw[h1];exact(Tree.pp (qaC _ (dM hlen))).2
   intro _ _
   show x1.length=128
   rw[h1,hlen]
theorem Zk4{f:Int}(hf:U f){P:Nat}(hP:P<=32)(h:decide (u64.wrap f<u64.wrap (P:Int))=true):0<=f/\f<P:=by
 have h:=oY h
 obtain⟨h1,h2⟩:=hf
 rw[wrap_u64,wrap_u64,dO h1 (by omega),dO (by omega) (by omega)]at h
 exact⟨h1,h⟩
theorem Zmm{P:Nat}{m:List Int}(h:Q0x P m){d:Q0d}(hd:Q7w d)(e:Q0e):(Q8t d m e).w (λr=>Q7w r.1/\Q0x P r.2.1/\out d.B2 m r.2.1/\(r.2.2=false->r.2.1=m)/\(∀p,Q18 d p=true->Q18 r.1 p=true)):=by
 have hcl:Q03 m=m:=rfl
 have keep: ∀b:Bool,Q7w d/\Q0x P m/\out d.B2 m m/\(b=false->m=m)/\(∀p,Q18 d p=true->Q18 d p=true):=λb=>⟨hd,h,Qpr _ _,λ_=>rfl,λ_ h=>h⟩
 have blk: ∀{p:Int},Q18 d p=true->decide (d.Blocks>64)=false:=fun{p} hm=>by
   cases hb:decide (d.Blocks>64)
   . rfl
   . have:Q18 d p=false:=by simp only[Q18,Q4d,Tree.m];rw[hb];rfl
     rw[this]at hm;cases hm
 have m2: ∀p,Q18 d p=true->Q18 {Blocks:=d.Blocks,C1:=d.C1,Frame:=d.Frame,B8:=2,D4:=0,B5:=0,B2:=0,B7:=[]} p=true:=λp hm=>by
   simp only[Q18,Q4d,Tree.m];rw[blk hm];rfl
 have m3: ∀p,Q18 d p=true->Q18 {Blocks:=d.Blocks,C1:=d.C1,Frame:=d.Frame,B8:=3,D4:=0,B5:=0,B2:=0,B7:=[]} p=true:=λp hm=>by
   simp only[Q18,Q4d,Tree.m];rw[blk hm];rfl
 unfold Q8t
 refine w_br (λ_=>w_an (Q9c h) (w_lv λx hx=>by rw[hcl]at hx;subst hx;exact keep _)) λ_=>w_br (λ_=>w_an (Q9c h) (w_lv λx hx=>by rw[hcl]at hx;subst hx;exact keep _)) λ_=>w_br (λ_=>w_an (Q9c h) (w_lv λx hx=>by rw[hcl]at hx;subst hx;exact keep _)) λ_=>w_an (Q9c h) (w_lv λx3 hx3=> ?_)
 rw[hcl]at hx3;subst hx3
 have fin: ∀{m':List Int},Q0x P m'->out d.B2 x3 m'->(Tree.br (e.N==1) (.lf (({Blocks:=d.Blocks,C1:=d.C1,Frame:=d.Frame,B8:=2,D4:=0,B5:=0,B2:=0,B7:=[]}:Q0d),m',true)) (.lf (({Blocks:=d.Blocks,C1:=d.C1,Frame:=d.Frame,B8:=3,D4:=0,B5:=0,B2:=0,B7:=[]}:Q0d),m',true))).w (λr=>Q7w r.1/\Q0x P r.2.1/\out d.B2 x3 r.2.1/\(r.2.2=false->r.2.1=x3)/\(∀p,Q18 d p=true->Q18 r.1 p=true)):=λhm ho=>
   w_br (λ_=>⟨⟨hd.block,hd.frame,U_0,U_0⟩,hm,ho,(λh=>by cases h),m2⟩) (λ_=>⟨⟨hd.block,hd.frame,U_0,U_0⟩,hm,ho,(λh=>by cases h),m3⟩)
 have nod:(Tree.br (!decide (e.C9=[])) (.lf (d,x3,false)) (Tree.br (e.N==1) (.lf (({Blocks:=d.Blocks,C1:=d.C1,Frame:=d.Frame,B8:=2,D4:=0,B5:=0,B2:=0,B7:=[]}:Q0d),x3,true)) (.lf (({Blocks:=d.Blocks,C1:=d.C1,Frame:=d.Frame,B8:=3,D4:=0,B5:=0,B2:=0,B7:=[]}:Q0d),x3,true)))).w (λr=>Q7w r.1/\Q0x P r.2.1/\out d.B2 x3 r.2.1/\(r.2.2=false->r.2.1=x3)/\(∀p,Q18 d p=true->Q18 r.1 p=true)):=
   w_br (λ_=>keep _) (λ_=>fin h (Qpr _ _))
 refine w_br (λ_=>w_br (λ_=>w_lv λx4 hx4=>w_br (λ_=>keep _) λhb=> ?_) (λ_=>nod)) (λ_=>nod)
 have hp:=Q3c h
 have hb:x4=true:=by simpa using hb
 rw[hb]at hx4
 simp only[Q8n,Qc7,Tree.m,letv,hp]at hx4
 obtain⟨f0,f1⟩:=Zk4 hd.opFrame h.p2 hx4.symm
 have ef:i64.wrap d.B2=d.B2:=by have:=h.p2;rw[wrap_i64];omega
 refine Q08 (Z27 h _ _) λx5 ⟨h5,o5,k5⟩=> ?_
 rw[ef]at o5
 exact w_br (λhf=>⟨hd,h5,o5,λ_=>k5 (by simpa using hf),λ_ h=>h⟩) (λ_=>fin h5 o5)
theorem qg{P:Nat}{m:List Int}(h:Q0x P m){n:Q0n}(hn:Qiv n)(frame:List UInt8):(Qbx n m frame).w (λr=>Qiv r.1/\Q0x P r.2.1/\out n.C0 m r.2.1/\(r.2.2=false->r.2.1=m)/\(∀p,Q5g n p=true->Q5g r.1 p=true)):=by
 have hcl:Q03 m=m:=rfl
 have keep:Qiv n/\Q0x P m/\out n.C0 m m/\(false=false->m=m)/\(∀p,Q5g n p=true->Q5g n p=true):=⟨hn,h,Qpr _ _,λ_=>rfl,λ_ h=>h⟩
 unfold Qbx
 refine w_br (λ_=>w_an (Q9c h) (w_lv λx hx=>by rw[hcl]at hx;subst hx;exact keep)) λhpo=>w_br (λ_=>w_an (Q9c h) (w_lv λx hx=>by rw[hcl]at hx;subst hx;exact keep)) λl1=>w_br (λ_=>w_an (Q9c h) (w_lv λx hx=>by rw[hcl]at hx;subst hx;exact keep)) λl2=>w_lv λx3 hx3=>w_br (λ_=>w_an (Q9c h) (w_lv λx hx=>by rw[hcl]at hx;subst hx;exact keep)) λhb=> ?_
 have l1:=oN l1
 have l2:=oN l2
 have hp:=Q3c h
 have hb:x3=true:=by simpa using hb
 rw[hb]at hx3
 simp only[Q9r,Qf3,Tree.m,letv,hp]at hx3
 obtain⟨f0,f1⟩:=Zk4 hn.buffer h.p2 hx3.symm
 have ef:i64.wrap n.C0=n.C0:=by have:=h.p2;rw[wrap_i64];omega
 refine Q08 (Zhy h _) λx5 h5=> ?_
 rw[ef]at h5
 have h5:=h5 f0 f1
 have hmax:(maxLen:Nat)=9223372036854775807:=rfl
 refine w_cn (dY (by omega)) (w_cn (dY (by simp only[bD,bF,hmax];omega)) (Q08 (Z27 h _ _) λx6 ⟨h6,o6,_⟩=> ?_))
 rw[ef]at o6
 have hg:u32.wrap (frame.length:Int)=frame.length:=by rw[wrap_u32];omega
 refine⟨⟨hn.frame,hn.len,U_0,Q0m _⟩,h6,o6,(λh=>by cases h),λp _=> ?_⟩
 simp only[Q5g,Qkj,Tree.m]
 rw[hg,dY (show(frame.length:Int)>=1 by omega),dY (show(frame.length:Int)<=128 by omega)]
 rfl
theorem qah(c:Q0c)(b:Int):(Qe1 c b).w (λr=>Q2c c=true->Q2c r.1=true):=by
 have hmax:(maxLen:Nat)=9223372036854775807:=rfl
 unfold Qe1
 refine w_br (λ_=>λh=>h) (λhb=> ?_)
 have hb:=oN hb
 refine w_cn (dY (by rw[hmax];omega)) ?_
 intro _
 show decide (((c.D0++[_]).length:Int)<=16)=true
 rw[lA,dA]
 exact dY (by omega)
theorem vH(t:Q0i)(h:Q3w t=true):Q3w (Qq3 t).1=true:=by
 simp only[Qq3,Qxa,Tree.m]
 cases ha:t.D2
 . exact h
 . rfl
theorem xg(m:Q00):Q0r m=(Q2c m.A2&&(Q3w m.A7&&(Q18 m.A9 (Q0q m.Mem)&&(Q5g m.B9 (Q0q m.Mem)&&Q2j m.A1 (Q0q m.Mem))))):=by
 simp only[Q0r,Q11,Tree.m,letv]
 cases Q2c m.A2<;>cases Q3w m.A7<;>cases Q18 m.A9 (Q0q m.Mem)<;>cases Q5g m.B9 (Q0q m.Mem)<;>rfl
theorem zaC{b c:Q07}(h:c.C2=b.C2)(p:Int):Q2j c p=Q2j b p:=by
 simp only[Q2j,Q3r,Tree.m,h]
theorem cnd{a x y:Bool}(h:x=true->y=true):(bif a then false else x)=true->(bif a then false else y)=true:=by cases a<;>simp_all
def chain(b1 b2 b3 b4 b5 b6 b7 w h dev:Bool):Bool:=bif b1 then false else bif b2 then false else bif b3 then false else bif b4 then false else bif b5 then false else bif b6 then false else bif b7 then false else bif w then(bif h then false else dev) else dev
theorem Znl{b1 b2 b3 b4 b5 b6 b7 w h d d':Bool}(hd:d=true->d'=true):chain b1 b2 b3 b4 b5 b6 b7 w h d=true->chain b1 b2 b3 b4 b5 b6 b7 w h d'=true:=by
 refine cnd (cnd (cnd (cnd (cnd (cnd (cnd ?_))))))
 cases w
 . exact hd
 . cases h
   . exact hd
   . exact λh=>h
def mayC(p:Int)(c:Q02)(ct:Int)(w h dev:Bool):Bool:=chain (p==0) (c.X.a0 !=0) (decide (c.B4.a0>31)) (decide (c.B4.a7>31)) (decide (c.B4.a6>255)) (dF c.B4.a1 4 !=0) (decide (ct>1152921504606846976)) w h dev
theorem zg{p:Int}{c:Q02}{ct:Int}{w h d d':Bool}(hd:d=true->d'=true)(g:mayC p c ct w h d=true):mayC p c ct w h d'=true:=Znl hd g
theorem zW(m:Q00):Q14 m=mayC (Q0q m.Mem) m.B1 m.A4 m.A3 m.A6 (Q0r m):=rfl
theorem Qt4{m n:Q00}(hp:Q0q n.Mem=Q0q m.Mem)(hcpu:n.B1=m.B1)(hct:n.A4=m.A4)(hw:n.A3=m.A3)(hh:n.A6=m.A6)
   (hc:Q2c m.A2=true->Q2c n.A2=true) (ht:Q3w m.A7=true->Q3w n.A7=true) (hd: ∀p,Q18 m.A9 p=true->Q18 n.A9 p=true) (hn: ∀p,Q5g m.B9 p=true->Q5g n.B9 p=true) (hb:n.A1.C2=m.A1.C2) (h:Q14 m=true):Q14 n=true:=by
 have dev:Q0r m=true->Q0r n=true:=λh=>by
   rw[xg]at h⊢
   simp only[aE]at h⊢
   rw[hp,zaC hb]
   exact⟨hc h.1,ht h.2.1,hd _ h.2.2.1,hn _ h.2.2.2.1,h.2.2.2.2⟩
 rw[zW]at h⊢
 rw[hp,hcpu,hct,hw,hh]
 exact zg dev h
section
variable {P:Nat} {m:List Int} (h:Q0x P m)
include h
theorem dpage{f:Int}(hf:U f){b:Bool}(hx:b=Q8n m f)(hb:b=true):0<=f/\f<P:=by
 have hp:=Q3c h
 rw[hb]at hx
 simp only[Q8n,Qc7,Tree.m,letv,hp]at hx
 exact Zk4 hf h.p2 hx.symm
theorem npage{f:Int}(hf:U f){b:Bool}(hx:b=Q9r m f)(hb:b=true):0<=f/\f<P:=by
 have hp:=Q3c h
 rw[hb]at hx
 simp only[Q9r,Qf3,Tree.m,letv,hp]at hx
 exact Zk4 hf h.p2 hx.symm
def keepD(P:Nat)(d d':Q0d):Prop:=Q7w d'/\(Q18 d P=true->Q18 d' P=true)
theorem yg{d:Q0d}(hd:Q7w d){cmd:Int}(hc:cmd=1\/cmd=2)(at0:Int):(Qbr d m cmd at0).w (λr=>keepD P d r.1/\r.2.length<=1):=by
 have h2:=h.p2
 have st3:(d.B8 !=0)=false->keepD P d {Blocks:=d.Blocks,C1:=d.C1,Frame:=d.Frame,B8:=3,D4:=d.D4,B5:=d.B5,B2:=d.B2,B7:=d.B7}:=λhs=>by
   have hs:d.B8=0:=by simpa using hs
   refine⟨⟨hd.block,hd.frame,hd.opBlock,hd.opFrame⟩,λhm=> ?_⟩
   simp only[Q18,Q4d,Tree.m,hs]at hm⊢
   exact hm
 have blk:Q18 d P=true->decide (d.Blocks>64)=false:=λhm=>by
   cases hb:decide (d.Blocks>64)
   . rfl
   . have:Q18 d P=false:=by simp only[Q18,Q4d,Tree.m];rw[hb];rfl
     rw[this]at hm;cases hm
 unfold Qbr
 refine w_br (λ_=>⟨⟨hd,λh=>h⟩,aT _⟩) λhs=>w_br (λ_=>⟨st3 hs,aT _⟩) λhb=>w_lv λx0 hx=>w_br (λ_=>⟨st3 hs,aT _⟩) λhp=> ?_
 have hb:=oN hb
 obtain⟨f0,f1⟩:=dpage h hd.frame hx (by simpa using hp)
 have ef:i64.wrap d.Frame=d.Frame:=by rw[wrap_i64];omega
 have e1:decide (d.C1<d.Blocks)=true:=dY (by omega)
 have e2:decide (i64.wrap d.Frame<(P:Int))=true:=by rw[ef];exact dY f1
 refine w_br (λhcm=>Q08 (Zhy h _) λx1 h1=> ?_) (λhcm=> ?_)
 . rw[ef]at h1
   have h1:=h1 f0 f1
   have hcm:=eq_of_beq hcm
   subst hcm
   refine w_lv λx2 _=>⟨⟨⟨hd.block,hd.frame,hd.block,hd.frame⟩,λhm=> ?_⟩,aO _⟩
   simp only[Q18,Q4d,Q6u,Q3e,Tree.m,letv,blk hm,e1,e2,h1]
   rfl
 . have hc:cmd=1:=by
     rcases hc with h|h
     . exact h
     . rw[h]at hcm;exact absurd hcm (by decide)
   subst hc
   refine w_lv λx2 _=>⟨⟨⟨hd.block,hd.frame,hd.block,hd.frame⟩,λhm=> ?_⟩,aO _⟩
   simp only[Q18,Q4d,Q6u,Q3e,Tree.m,letv,blk hm,e1,e2]
   rfl
theorem zah{d:Q0d}(hd:Q7w d)(port:Int){v:Int}(hv:U v)(at0:Int):(Qgt d m port v at0).w (λr=>keepD P d r.1/\r.2.length<=1):=by
 have keep:keepD P d d:=⟨hd,λh=>h⟩
 have e1: ∀{k:Int},(v==k)=true->i64.wrap v=k:=λhk=>by
   have:=eq_of_beq hk
   obtain⟨a,b⟩:=hv
   rw[wrap_i64];omega
 unfold Qgt
 refine w_br (λ_=>⟨⟨⟨hv,hd.frame,hd.opBlock,hd.opFrame⟩,λh=>h⟩,aT _⟩) λ_=>w_br (λ_=>⟨⟨⟨hd.block,hv,hd.opBlock,hd.opFrame⟩,λh=>h⟩,aT _⟩) λ_=>w_br (λ_=>w_br (λhk=>Q08 (yg h hd (.inl (e1 hk)) _) λx hx=>hx) λ_=>w_br (λhk=>Q08 (yg h hd (.inr (e1 hk)) _) λx hx=>hx) λ_=>w_br (λ_=>w_lv λx hx=>w_br (λhb=> ?_) (λ_=>⟨keep,aT _⟩)) (λ_=>⟨keep,aT _⟩)) (λ_=>⟨keep,aT _⟩)
 refine⟨⟨⟨hd.block,hd.frame,hd.opBlock,hd.opFrame⟩,λhm=> ?_⟩,aT _⟩
 rw[hb]at hx
 simp only[Q8s,Qjt,Tree.m]at hx
 cases h2:d.B8==2
 . rw[h2]at hx
   have h3:d.B8=3:=eq_of_beq hx.symm
   simp only[Q18,Q4d,Tree.m,h3]at hm⊢
   exact hm
 . have h3:d.B8=2:=eq_of_beq h2
   simp only[Q18,Q4d,Tree.m,h3]at hm⊢
   exact hm
def keepN(P:Nat)(n n':Q0n):Prop:=Qiv n'/\(Q5g n P=true->Q5g n' P=true)
theorem xaC{n:Q0n}(hn:Qiv n)(at0:Int):(Qgm n m at0).w (λr=>r.length<=1):=by
 have h2:=h.p2
 unfold Qgm
 refine w_br (λ_=>aT _) λl1=>w_br (λ_=>aT _) λl2=>w_lv λx0 hx=>w_br (λ_=>aT _) λhp=>Q08 (Zhy h _) λx1 h1=> ?_
 have l1:=oN l1
 have l2:=oN l2
 obtain⟨f0,f1⟩:=npage h hn.frame hx (by simpa using hp)
 have ef:i64.wrap n.Frame=n.Frame:=by rw[wrap_i64];omega
 rw[ef]at h1
 have h1:=h1 f0 f1
 exact w_cn (dY (by omega)) (aO _)
theorem qaD{n:Q0n}(hn:Qiv n)(port:Int){v:Int}(hv:U v)(at0:Int):(Qk6 n m port v at0).w (λr=>keepN P n r.1/\r.2.length<=1):=by
 have h2:=h.p2
 have keep:keepN P n n:=⟨hn,λh=>h⟩
 unfold Qk6
 refine w_br (λ_=>⟨⟨⟨hv,hn.len,hn.buffer,hn.got⟩,λh=>h⟩,aT _⟩) λ_=>w_br (λ_=>⟨⟨⟨hn.frame,hv,hn.buffer,hn.got⟩,λh=>h⟩,aT _⟩) λ_=>w_br (λ_=>w_br (λ_=>Q08 (xaC h hn _) λx hx=>⟨keep,hx⟩) λ_=>w_br (λ_=>w_lv λx hx=>w_br (λhb=>w_br (λnp=>w_br (λnr=> ?_) (λ_=>⟨keep,aT _⟩)) (λ_=>⟨keep,aT _⟩)) (λ_=>⟨keep,aT _⟩)) λ_=>w_br (λ_=> ?_) (λ_=>⟨keep,aT _⟩)) (λ_=>⟨keep,aT _⟩)
 . obtain⟨f0,f1⟩:=npage h hn.frame hx hb
   have np:n.C5=false:=by simpa using np
   have nr:n.B6=false:=by simpa using nr
   have e2:decide (i64.wrap n.Frame>=(P:Int))=false:=dN (by rw[wrap_i64];omega)
   refine⟨⟨⟨hn.frame,hn.len,hn.frame,hn.got⟩,λhm=> ?_⟩,aT _⟩
   simp only[Q5g,Qkj,Tree.m,np,nr,e2]at hm⊢
   cases hb:(n.C0 !=0)
   . rw[hb]at hm;exact hm
   . rw[hb]at hm;cases hm
 . refine⟨⟨⟨hn.frame,hn.len,hn.buffer,U_0⟩,λhm=> ?_⟩,aT _⟩
   simp only[Q5g,Qkj,Tree.m]at hm⊢
   revert hm
   cases n.C5<;>cases n.B6<;>cases decide (i64.wrap n.C0>=(P:Int))<;>cases(n.C0 !=0)<;>simp
end
theorem xah(t:Q0i)(v:Int):Q3w (Ql4 t v)=true:=by
 simp only[Ql4,Qlz,Q3w,Qlu,Tree.m]
 cases h:(v !=0)
 . have:v=0:=by simpa using h
   subst this;rfl
 . rfl
theorem Qrf{a:Int}(k:Nat)(hk:k<=32):ishr .u32 a k=a/2^k:=by
 unfold ishr
 have e:min (k:Int).toNat u32.bits=k:=by show min (k:Int).toNat 32=k;omega
 have hp:(0:Int)<2^k:=dP (by decide)
 rw[e,dQ _ (dR hp)]
def Zog(x:Int)(n:Nat):Prop:=x<2^n/\(n=0\/(2:Int)^(n-1)<=x)
theorem Z8y{x q:Int}{n k:Nat}(hq:q=x/2^k)(h0:0<q)(h:Zog q n):Zog x (n+k):=by
 have hp:(0:Int)<2^k:=dP (by decide)
 obtain⟨h1,h2⟩:=h
 have hn:n≠0:=λe=>by subst e;simp at h1;omega
 refine⟨?_, .inr ?_⟩
 . rw[dS]
   have:x<(x/2^k+1)*2^k:=Int.lt_ediv_add_one_mul_self x hp
   have h3:(x/2^k+1)*2^k<=2^n*2^k:=dT (by omega) (dR hp)
   omega
 . have h2:=h2.resolve_left hn
   have e:n+k-1=(n-1)+k:=by omega
   rw[e,dS]
   have h3:(2:Int)^(n-1)*2^k<=q*2^k:=dT h2 (dR hp)
   have h4:q*2^k<=x:=by rw[hq];exact Int.ediv_mul_le x (Int.ne_of_gt hp)
   omega
theorem qI{x:Int}{n p:Nat}(h:Zog x n)(hx:x<2^p):n<=p:=by
  obtain⟨h1,h2⟩:=h
  rcases h2 with h2|h2
  . omega
  . rcases Nat.lt_or_ge p n with hlt|hge
    . have:(2:Int)^p<=2^(n-1):=by
        have:=dU (show 0<2 by omega) (show p<=n-1 by omega)
        exact_mod_cast this
      omega
    . exact hge
theorem Zh7{x:Int}{n p:Nat}(h:Zog x n)(hn:n<=p):x<2^p:=by
 have:(2:Int)^n<=2^p:=by
   have:=dU (show 0<2 by omega) hn
   exact_mod_cast this
 exact Int.lt_of_lt_of_le h.1 this
def lenChk(i:Nat):Bool:=match(Q1g (i:Int)) with
 | .ofNat n=>decide ((i:Int)<2^n)&&(Nat.beq n 0||decide ((2:Int)^(n-1)<=i))&&decide (n<=8)
 |_=>false
theorem Qtx{q:Int}(h0:0<=q)(h1:q<256): ∃n:Nat,Q1g q=n/\Zog q n/\n<=8:=by
 have all:List.all (dE 256) lenChk=true:=by kernel_rfl
 have:=List.all_eq_true.1 all q.toNat (List.mem_range.2 (by omega))
 have hq:((q.toNat:Nat):Int)=q:=by omega
 unfold lenChk at this
 rw[hq]at this
 split at this
 . rename_i n hn
   simp only[aE,aI,decide_eq_true_eq]at this
   refine⟨n,hn,⟨this.1.1,?_⟩,this.2⟩
   rcases this.1.2 with h|h
   . exact .inl (bE h)
   . exact .inr h
 . cases this
theorem zaD{x:Int}(h:U x)(hx:16777216<=x):Q1g x=24+Q1g (x/16777216):=by
 obtain⟨h0,h1⟩:=h
 have s16:ishr .u32 x 16=x/65536:=Qrf 16 (by omega)
 have s24:ishr .u32 (x/65536) 8=x/16777216:=by rw[show((8:Int))=((8:Nat):Int) from rfl,Qrf 8 (by omega)];omega
 have d1:decide (x>=65536)=true:=dY (by omega)
 have d2:decide (x/65536>=256)=true:=dY (by omega)
 have d3:decide (x/16777216>=65536)=false:=dN (by omega)
 have d4:decide (x/16777216>=256)=false:=dN (by omega)
 have u:u8.wrap (x/16777216)=x/16777216:=by rw[wrap_u8];omega
 simp only[Q1g,Q1n,Tree.m,s16,s24,d1,d2,d3,d4,u,cond_true,cond_false]
 generalize(aK _ (dG (x/16777216)) (0:UInt8))=b
 have hb:=dV b
 rw[wrap_i64,wrap_i64,wrap_i64,wrap_i64]
 omega
theorem xaD{x:Int}(h0:65536<=x)(h1:x<16777216):Q1g x=16+Q1g (x/65536):=by
 have s16:ishr .u32 x 16=x/65536:=Qrf 16 (by omega)
 have d1:decide (x>=65536)=true:=dY (by omega)
 have d2:decide (x/65536>=256)=false:=dN (by omega)
 have d3:decide (x/65536>=65536)=false:=dN (by omega)
 have u:u8.wrap (x/65536)=x/65536:=by rw[wrap_u8];omega
 simp only[Q1g,Q1n,Tree.m,s16,d1,d2,d3,u,cond_true,cond_false]
 generalize(aK _ (dG (x/65536)) (0:UInt8))=b
 have hb:=dV b
 rw[wrap_i64,wrap_i64,wrap_i64]
 omega
theorem len_8{x:Int}(h0:256<=x)(h1:x<65536):Q1g x=8+Q1g (x/256):=by
 have s8:ishr .u32 x 8=x/256:=Qrf 8 (by omega)
 have d1:decide (x>=65536)=false:=dN (by omega)
 have d2:decide (x>=256)=true:=dY (by omega)
 have d3:decide (x/256>=65536)=false:=dN (by omega)
 have d4:decide (x/256>=256)=false:=dN (by omega)
 have u:u8.wrap (x/256)=x/256:=by rw[wrap_u8];omega
 simp only[Q1g,Q1n,Tree.m,s8,d1,d2,d3,d4,u,cond_true,cond_false]
 generalize(aK _ (dG (x/256)) (0:UInt8))=b
 have hb:=dV b
 rw[wrap_i64,wrap_i64,wrap_i64,wrap_i64]
 omega
theorem Znm{x:Int}(h:U x): ∃n:Nat,Q1g x=n/\Zog x n:=by
  obtain⟨h0,h1⟩:=h
  rcases dW x 256 with a|a
  . obtain⟨n,e,l,_⟩:=Qtx h0 a
    exact⟨n,e,l⟩
  . rcases dW x 65536 with b|b
    . obtain⟨n,e,l,_⟩:=Qtx (q:=x/256) (by omega) (by omega)
      exact⟨n+8,by rw[len_8 a b,e];omega,Z8y (k:=8) rfl (by omega) l⟩
    . rcases dW x 16777216 with c|c
      . obtain⟨n,e,l,_⟩:=Qtx (q:=x/65536) (by omega) (by omega)
        exact⟨n+16,by rw[xaD b c,e];omega,Z8y (k:=16) rfl (by omega) l⟩
      . obtain⟨n,e,l,_⟩:=Qtx (q:=x/16777216) (by omega) (by omega)
        exact⟨n+24,by rw[zaD ⟨h0,h1⟩ c,e];omega,Z8y (k:=24) rfl (by omega) l⟩
theorem Z1q{b:Q07}(h:U b.C2){P:Nat}:Q2j b P=true↔b.C2<2^P:=by
 obtain⟨n,e,l⟩:=Znm h
 have hp:(if(0:Int)>(P:Int) then(0:Int) else P)=P:=by rw[if_neg (by omega)]
 simp only[Q2j,Q3r,Tree.m,letv,e,hp,decide_eq_true_eq]
 constructor
 . intro h;exact Zh7 l (by omega)
 . intro h;have:=qI l h;omega
theorem Zc0{a:Int}(h:U a){P:Nat}(h1:a<2^P):(dX 32 a).toNat<2^P:=by
 obtain⟨a0,a1⟩:=h
 rw[dZ,dO a0 (by omega)]
 have:((2^P:Nat):Int)=(2:Int)^P:=by exact_mod_cast rfl
 omega
theorem or_lt{a b:Int}(ha:U a)(hb:U b){P:Nat}(hP:P<=32)(h1:a<2^P)(h2:b<2^P):ior .u32 a b<2^P:=by
 have e:(dX 32 a|||dX 32 b).toNat<2^P:=by
   rw[eA]
   exact Nat.or_lt_two_pow (Zc0 ha h1) (Zc0 hb h2)
 have hc:((2^P:Nat):Int)=(2:Int)^P:=by exact_mod_cast rfl
 have l:=(dX 32 a|||dX 32 b).isLt
 show wrap .u32 ((dX 32 a|||dX 32 b).toNat:Int)<2^P
 rw[wrap_u32]
 omega
theorem qai{a b:Int}(ha:U a){P:Nat}(h1:a<2^P):Qg7 .u32 a b<2^P:=by
 have e:(dX 32 a&&&~~~dX 32 b).toNat<2^P:=by
   rw[eB]
   exact Nat.lt_of_le_of_lt eC (Zc0 ha h1)
 have hc:((2^P:Nat):Int)=(2:Int)^P:=by exact_mod_cast rfl
 have l:=(dX 32 a&&&~~~dX 32 b).isLt
 show wrap .u32 ((dX 32 a&&&~~~dX 32 b).toNat:Int)<2^P
 rw[wrap_u32]
 omega
theorem vg{v:Int}(h0:0<=v)(h1:v<32):ishl .u32 1 v=2^v.toNat:=by
 have e:min v.toNat u32.bits=v.toNat:=by show min v.toNat 32=v.toNat;omega
 obtain⟨n,rfl⟩: ∃n:Nat,v=n:=⟨v.toNat,by omega⟩
 have hn:n<32:=by omega
 have hlt:(2:Nat)^n<4294967296:=by
   have:=eD (show 1<2 by omega) hn
   simpa using this
 have hc:((2^n:Nat):Int)=(2:Int)^n:=by exact_mod_cast rfl
 unfold ishl
 rw[e,wrap_u32,Int.one_mul,eF,<-hc]
 clear hc e
 generalize(2:Nat)^n=z at*
 omega
def keepB(P:Nat)(b b':Q07):Prop:=okB b'/\(Q2j b P=true->Q2j b' P=true)
theorem Zn5{P:Nat}{m:List Int}(h:Q0x P m){b:Q07}(hb:okB b)(port:Int){v:Int}(hv:U v):(Q3u b m port v).w (λr=>keepB P b r.1/\Q0x P r.2):=by
 have hcl:Q03 m=m:=rfl
 have h2:=h.p2
 have hp:=Q3c h
 have keep:(Tree.an (Q06 m) (.lv (Q03 m) λx=> .lf (b,x))).w (λr=>keepB P b r.1/\Q0x P r.2):=w_an (Q9c h) (w_lv λx hx=>by rw[hcl]at hx;subst hx;exact⟨⟨hb,λh=>h⟩,h⟩)
 unfold Q3u
 refine w_br (λ_=>keep) λhlt=>w_cn (dY hv.1) (w_br (λ_=>w_lv λx1 hx=>w_br (λhpg=>w_br (λ_=>w_an ⟨by decide,by decide,by decide⟩ (w_lv λx2 _=>Q08 (Z27 h _ _) λx3 ⟨h3,_⟩=> ?_)) (λ_=>keep)) (λ_=>keep)) (λ_=>w_br (λ_=>w_an (Q9c h) (w_lv λx hx=> ?_)) (λ_=>keep)))
 . have hlt:=oN hlt
   have hpg:=oY hpg
   rw[hx,hp]at hpg
   obtain⟨v0,v1⟩:=hv
   have ev:i64.wrap v=v:=by rw[wrap_i64];omega
   rw[ev]at hpg
   refine⟨⟨⟨hb.1,Q0m _⟩,λhm=> ?_⟩,h3⟩
   rw[Z1q hb.2]at hm
   rw[Z1q (Q0m _)]
   have hs:ishl .u32 1 v<2^P:=by
     rw[vg v0 (by omega)]
     have:=eD (show 1<2 by omega) (show v.toNat<P by omega)
     exact_mod_cast this
   exact or_lt hb.2 (Q0m _) h2 hm hs
 . rw[hcl]at hx;subst hx
   refine⟨⟨⟨hb.1,Q0m _⟩,λhm=> ?_⟩,h⟩
   rw[Z1q hb.2]at hm
   rw[Z1q (Q0m _)]
   exact qai hb.2 hm
structure kept(P:Nat)(m n:Q00):Prop where
 ok:okS P n
 dev:Q0r m=true->Q0r n=true
 cpu:n.B1=m.B1
 cnt:n.A4=m.A4
 wait:n.A3=m.A3
 halt:n.A6=m.A6
theorem Ze5{P:Nat}{m:Q00}(h:okS P m):kept P m m:=⟨h,λh=>h,rfl,rfl,rfl,rfl⟩
theorem Qpd{P:Nat}{m n:Q00}(hm:Q0x P m.Mem)(hn:Q0x P n.Mem)(hc:Q2c m.A2=true->Q2c n.A2=true)(ht:Q3w m.A7=true->Q3w n.A7=true)
   (hd:Q18 m.A9 P=true->Q18 n.A9 P=true) (hk:Q5g m.B9 P=true->Q5g n.B9 P=true) (hb:Q2j m.A1 P=true->Q2j n.A1 P=true) (h:Q0r m=true):Q0r n=true:=by
 rw[xg]at h⊢
 rw[Q3c hm]at h
 rw[Q3c hn]
 simp only[aE]at h⊢
 exact⟨hc h.1,ht h.2.1,hd h.2.2.1,hk h.2.2.2.1,hb h.2.2.2.2⟩
theorem Ziu{P:Nat}{m:Q00}(h:okS P m)(port:Int){v:Int}(hv:U v)(at0:Int):(Q3l m port v at0).w (λr=>kept P m r.1/\r.2.length<=1):=by
 have k:=Ze5 h
 obtain⟨h1,h2,h3,h4,h5,h6⟩:=h
 have id: ∀{p:Prop},p->p:=λh=>h
 have D: ∀(x:Q0d×List Q09),(keepD P m.A9 x.1/\x.2.length<=1)->kept P m {B1:=m.B1,Mem:=m.Mem,A2:=m.A2,A7:=m.A7,A9:=x.1,B9:=m.B9,A1:=m.A1,A4:=m.A4,A3:=m.A3,A6:=m.A6}/\x.2.length<=1:=λx hx=>
   ⟨⟨⟨h1,h2,hx.1.1,h4,h5,h6⟩,Qpd h2 h2 id id hx.1.2 id id,rfl,rfl,rfl,rfl⟩,hx.2⟩
 have N: ∀(x:Q0n×List Q09),(keepN P m.B9 x.1/\x.2.length<=1)->kept P m {B1:=m.B1,Mem:=m.Mem,A2:=m.A2,A7:=m.A7,A9:=m.A9,B9:=x.1,A1:=m.A1,A4:=m.A4,A3:=m.A3,A6:=m.A6}/\x.2.length<=1:=λx hx=>
   ⟨⟨⟨h1,h2,h3,hx.1.1,h5,h6⟩,Qpd h2 h2 id id id hx.1.2 id,rfl,rfl,rfl,rfl⟩,hx.2⟩
 have B: ∀(x:Q07×List Int),(keepB P m.A1 x.1/\Q0x P x.2)->kept P m {B1:=m.B1,Mem:=x.2,A2:=m.A2,A7:=m.A7,A9:=m.A9,B9:=m.B9,A1:=x.1,A4:=m.A4,A3:=m.A3,A6:=m.A6}/\([]:List Q09).length<=1:=λx hx=>
   ⟨⟨⟨h1,hx.2,h3,h4,hx.1.1.1,hx.1.1.2⟩,Qpd h2 hx.2 id id id id hx.1.2,rfl,rfl,rfl,rfl⟩,aT _⟩
 unfold Q3l
 repeat'(first
   |exact⟨k,aO _⟩
   |exact⟨k,aT _⟩
   |exact w_lv λx hx=>⟨⟨⟨h1,h2,h3,h4,h5,h6⟩,Qpd h2 h2 id (λ_=>by rw[hx];exact xah _ _) id id id,rfl,rfl,rfl,rfl⟩,aT _⟩
   |exact Q08 (zah h2 h3 _ hv _) λx hx=>D x hx
   |exact Q08 (qaD h2 h4 _ hv _) λx hx=>N x hx
   |exact Q08 (Zn5 h2 ⟨h5,h6⟩ _ hv) λx hx=>B x hx
   |refine w_br (λ_=> ?_) (λ_=> ?_))
theorem Z8i(c:Q0c)(port:Int):(Q91 c port).w (λr=>U r.2/\(Q2c c=true->Q2c r.1=true)):=by
 have u1:U 4294967295:=⟨by omega,by omega⟩
 unfold Q91
 refine w_br (λ_=>w_br (λ_=>⟨u1,λh=>h⟩) (λhb=>w_cn ?_ (w_cn ?_ ⟨Q0m _,λhm=> ?_⟩))) (λ_=>w_br (λ_=>⟨Q0m _,λh=>h⟩) (λ_=>⟨U_0,λh=>h⟩))
 . have hb:=oN hb
   have:0<c.D0.length:=List.length_pos_iff.2 hb
   simp [bT];omega
 . have hb:=oN hb
   have:0<c.D0.length:=List.length_pos_iff.2 hb
   exact dY (by omega)
 . have hm:decide ((c.D0.length:Int)<=16)=true:=hm
   have hm:=oY hm
   show decide (((dC _ (dD _ c.D0)).length:Int)<=16)=true
   refine dY ?_
   rw[bD,bF];omega
theorem Zoo{P:Nat}{m:Q00}(h:okS P m)(port:Int){clock:Int}(hc:U clock):(Q46 m port clock).w (λr=>kept P m r.1/\U r.2):=by
 have k:=Ze5 h
 obtain⟨h1,h2,h3,h4,h5,h6⟩:=h
 have id: ∀{p:Prop},p->p:=λh=>h
 have ti: ∀t,U (Z02 t):=λt=>by
   refine Tree.post (Qph t) (W:=U) ?_
   unfold Qph
   exact w_br (λ_=>⟨by omega,by omega⟩) (λ_=>U_0)
 have di: ∀p,U (Qvg m.A9 p):=λp=>by
   refine Tree.post (Qtu m.A9 p) (W:=U) ?_
   unfold Qtu
   exact w_br (λ_=>h3.block) (λ_=>w_br (λ_=>h3.frame) (λ_=>w_br (λ_=>Q0m _) (λ_=>U_0)))
 have ni: ∀p,U (Z32 m.B9 p):=λp=>by
   refine Tree.post (Qty m.B9 p) (W:=U) ?_
   unfold Qty
   exact w_br (λ_=>h4.frame) (λ_=>w_br (λ_=>h4.got) (λ_=>w_br (λ_=>w_br (λ_=>w_br (λ_=>Q0m _) (λ_=>Q0m _)) (λ_=>w_br (λ_=>Q0m _) (λ_=>U_0))) (λ_=>U_0)))
 have bi: ∀p,(Qbs m.A1 p).w U:=λp=>by
   unfold Qbs
   exact w_br (λ_=>h5) (λ_=>w_br (λ_=>Q08 (Zl h6) λ_ _=>Q0m _) (λ_=>U_0))
 have C: ∀(x:Q0c×Int),(U x.2/\(Q2c m.A2=true->Q2c x.1=true))->kept P m {B1:=m.B1,Mem:=m.Mem,A2:=x.1,A7:=m.A7,A9:=m.A9,B9:=m.B9,A1:=m.A1,A4:=m.A4,A3:=m.A3,A6:=m.A6}/\U x.2:=λx hx=>
   ⟨⟨⟨h1,h2,h3,h4,h5,h6⟩,Qpd h2 h2 hx.2 id id id id,rfl,rfl,rfl,rfl⟩,hx.1⟩
 unfold Q46
 repeat'(first
   |exact⟨k,hc⟩
   |exact⟨k,U_0⟩
   |exact Q08 (Z8i _ _) λx hx=>C x hx
   |exact Zeg (Z8i _ _) λx hx=>C x hx
   |exact w_lv λx hx=>⟨k,by rw[hx];exact ti _⟩
   |exact w_lv λx hx=>⟨k,by rw[hx];exact di _⟩
   |exact w_lv λx hx=>⟨k,by rw[hx];exact ni _⟩
   |exact Q08 (bi _) λx hx=>⟨k,hx⟩
   |refine w_br (λ_=> ?_) (λ_=> ?_))
structure Q6f(c:Q02):Prop where
 x0:c.X.a0=0
 st:c.B4.a0<=31
 en:c.B4.a7<=31
 rt:c.B4.a6<=255
 ve:dF c.B4.a1 4=0
theorem Q6f.pc{c:Q02}(h:Q6f c)(p:Int):Q6f {X:=c.X,Pc:=p,B4:=c.B4}:=⟨h.x0,h.st,h.en,h.rt,h.ve⟩
theorem and31(a:Int):iand .u32 a 31<=31:=by
 have e:(dX 32 a&&&dX 32 31).toNat<=31:=by
   rw[eB]
   exact bH eG (by decide)
 show wrap .u32 ((dX 32 a&&&dX 32 31).toNat:Int)<=31
 rw[wrap_u32];omega
theorem and255'(a:Int):iand .u32 a 255<=255:=by have:=and255 a;omega
theorem andn3(a:Int):dF (Qg7 .u32 a 3) 4=0:=by
 have e:(dX 32 a&&&~~~dX 32 3).toNat%4=0:=by
   rw[eB,show(~~~dX 32 3).toNat=4294967292 by decide]
   have:=Nat.and_mod_two_pow (a:=(dX 32 a).toNat) (b:=4294967292) (n:=2)
   simpa using this
 have l:=(dX 32 a&&&~~~dX 32 3).isLt
 show dF (wrap .u32 ((dX 32 a&&&~~~dX 32 3).toNat:Int)) 4=0
 rw[wrap_u32,eH (by omega)]
 omega
theorem fin32{f:Int->Int}(h:(dE 32).all (λn=>decide (f n<=31))=true){s:Int}(h0:0<=s)(h1:s<=31):f s<=31:=by
 have:=List.all_eq_true.1 h s.toNat (List.mem_range.2 (by omega))
 have e:((s.toNat:Nat):Int)=s:=by omega
 rw[e]at this
 exact oY this
theorem Qlg{c:Q02}(h:Q29 c)(m:Q6f c)(k b:Int):Q6f (Q47 c k b):=
 ⟨m.x0,fin32 (f:=λs=>Qg7 .u32 (ior .u32 (Q8i (Q8i s 1 8) 2 16) 1) 2) (by kernel_rfl) h.a0.1 m.st,m.en,m.rt,m.ve⟩
theorem Zoi{c:Q02}(h:Q29 c)(m:Q6f c):Q6f (Qdi c):=
 ⟨m.x0,fin32 (f:=λs=>Q8i (Q8i s 8 1) 16 2) (by kernel_rfl) h.a0.1 m.st,m.en,m.rt,m.ve⟩
theorem Qwm{c:Q02}(m:Q6f c){r:Int}(hr:0<=r/\r<16)(v:Int):(Qcy c r v).w Q6f:=by
 unfold Qcy
 refine w_br (λhn=>w_cn (rc hr) ?_) (λ_=>m)
 have hn:r≠0:=by simpa using hn
 obtain⟨n,e⟩: ∃n:Nat,r.toNat=n+1:=⟨r.toNat-1,by omega⟩
 refine⟨?_,m.st,m.en,m.rt,m.ve⟩
 show(A16.of 0 (dH (A16.l c.X) r.toNat v)).a0=0
 rw[e]
 exact m.x0
theorem qh{c:Q02}(m:Q6f c)(k v:Int):(Qb c k v).w Q6f:=by
 unfold Qb
 refine w_br (λhk=>w_cn (by rw[eq_of_beq hk];decide) ?_) λ_=>w_br (λhk=>w_cn (by rw[eq_of_beq hk];decide) ?_) λ_=>w_br (λhk=>w_cn (by rw[eq_of_beq hk];decide) ?_) λ_=>w_br (λhk=>w_cn (by rw[eq_of_beq hk];decide) ?_) λ_=>w_br (λhk=>w_cn (by rw[eq_of_beq hk];decide) ?_) λ_=>w_br (λhk=>w_cn (by rw[eq_of_beq hk];decide) ?_) λ_=>w_br (λhk=>w_cn (by rw[eq_of_beq hk];decide) ?_) λ_=>w_br (λhk=>w_cn (by rw[eq_of_beq hk];decide) ?_) (λ_=>m)
 all_goals(have hk:=eq_of_beq hk;subst hk)
 . exact⟨m.x0,and31 _,m.en,m.rt,m.ve⟩
 . exact⟨m.x0,m.st,and31 _,m.rt,m.ve⟩
 . exact⟨m.x0,m.st,m.en,and255' _,m.ve⟩
 . exact⟨m.x0,m.st,m.en,m.rt,andn3 _⟩
 . exact⟨m.x0,m.st,m.en,m.rt,m.ve⟩
 . exact⟨m.x0,m.st,m.en,m.rt,m.ve⟩
 . exact⟨m.x0,m.st,m.en,m.rt,m.ve⟩
 . exact⟨m.x0,m.st,m.en,m.rt,m.ve⟩
section
variable {c:Q02} (h:Q29 c) (m:Q6f c) {i:Q0h} (hi:Qfa i)
include h m hi
theorem Zhg:(Q4q c i).w (λr=>Q6f r.1):=by
 unfold Q4q
 refine w_cn (rc hi.a) (w_cn (rc hi.b) ?_)
 repeat'(first
   |refine w_br (λ_=> ?_) (λ_=> ?_)
   |exact Q08 (Qwm m hi.a _) λx hx=>hx.pc _
   |exact w_lv λx _=>w_br (λ_=>m.pc _) (λ_=>m.pc _)
   |exact w_lv λx hx=>by rw[hx];exact Qlg h m _ _
   |exact w_lv λx hx=>by rw[hx];exact Zoi h m
   |exact w_cn (by have:=hi.csr (by simp_all);simp [bT];omega) (Q08 (Qwm m hi.a _) λx hx=>hx.pc _)
   |exact Q08 (qh m _ _) λx hx=>hx.pc _
   |refine w_cn (rc hi.c) ?_
   |exact Q08 (Z8h _ (h.r _) (Q0m _)) λy hy=>Q08 (Qwm m hi.a _) λx hx=>hx.pc _
   |exact Q08 (Z8h _ (h.r _) (h.r _)) λy hy=>Q08 (Qwm m hi.a _) λx hx=>hx.pc _
   |refine w_lf ?_)
 all_goals exact m.pc _
theorem xI{P:Nat}{mem:List Int}(hm:Q0x P mem):(Qdb c mem i).w (λr=>Q6f r.1):=by
 have w:=Zac i.Op
 unfold Qdb
 refine w_cn (rc hi.b) (w_lv λx0 h0=> ?_)
 rw[<-h0]at w
 refine Q08 (Qke hm (Q0m _) w 2) λx1 h1=>w_br (λ_=>w_lv λy hy=>by rw[hy];exact Qlg h m _ _) (λ_=>w_lv λx3 h3=> ?_)
 rw[h0,<-h3]at w
 exact Q08 (Qs0 h1.2 h1.1 w) λx4 h4=>w_br (λ_=>Q08 (Qvj h4.1 8) λy hy=>Q08 (Qwm m hi.a _) λx hx=>hx.pc _) (λ_=>Q08 (Qwm m hi.a _) λx hx=>hx.pc _)
theorem xh{P:Nat}{mem:List Int}(hm:Q0x P mem):(Qb9 c mem i).w (λr=>Q6f r.1):=by
 have w:=Zac i.Op
 unfold Qb9
 refine w_cn (rc hi.b) (w_lv λx0 h0=> ?_)
 rw[<-h0]at w
 refine Q08 (Qke hm (Q0m _) w 3) λx1 h1=>w_br (λ_=>w_lv λy hy=>by rw[hy];exact Qlg h m _ _) (λ_=>w_lv λx3 h3=>w_cn (rc hi.a) ?_)
 rw[h0,<-h3]at w
 exact Q08 (Z0 h1.2 h1.1 w (h.r _)) λx hx=>m.pc _
end
theorem zI{c:Q02}(h:Q29 c)(m:Q6f c){P:Nat}{mem:List Int}(hm:Q0x P mem):(Q6p c mem).w (λr=>Q6f r.1):=by
 unfold Q6p
 refine Q08 (Z8l hm h) λx0 h0=>w_br (λ_=>w_lv λy hy=>by rw[hy];exact Qlg h m _ _) (λ_=>Q08 (Z1g _) λx2 h2=>w_br (λ_=>w_lv λy hy=>by rw[hy];exact Qlg h m _ _) (λhb=> ?_))
 have hi:=h2 (by simpa using hb)
 refine w_lv λx4 _=> ?_
 repeat'(first
   |refine w_br (λ_=> ?_) (λ_=> ?_)
   |exact Q08 (xI h m hi h0.2) λx hx=>hx
   |exact Q08 (xh h m hi h0.2) λx hx=>hx
   |exact Q08 (Zhg h m hi) λx hx=>hx
   |exact w_lv λy hy=>by rw[hy];exact Qlg h m _ _
   |refine w_lv λ_ _=> ?_)
theorem Zhx{c:Q02}(h:Q29 c){i:Q0h}(hi:Qfa i):(Q4q c i).w (λr=>0<=r.2.D7/\r.2.D7<16):=by
 have z:(0:Int)<=0/\(0:Int)<16:=⟨by decide,by decide⟩
 unfold Q4q
 refine w_cn (rc hi.a) (w_cn (rc hi.b) ?_)
 repeat'(first
   |refine w_br (λ_=> ?_) (λ_=> ?_)
   |exact Q08 (Qqn h hi.a (Q0m _)) λx hx=>z
   |exact w_lv λx _=>w_br (λ_=>z) (λ_=>z)
   |exact w_lv λx hx=>z
   |exact w_cn (by have:=hi.csr (by simp_all);simp [bT];omega) (Q08 (Qqn h hi.a (h.a _)) λx hx=>z)
   |exact Q08 (Zlw h _ (h.r _)) λx hx=>z
   |refine w_cn (rc hi.c) ?_
   |exact Q08 (Z8h _ (h.r _) (Q0m _)) λy hy=>Q08 (Qqn h hi.a hy) λx hx=>z
   |exact Q08 (Z8h _ (h.r _) (h.r _)) λy hy=>Q08 (Qqn h hi.a hy) λx hx=>z
   |refine w_lf ?_)
 all_goals first|exact z|exact hi.a
theorem Zld{c:Q02}(h:Q29 c){P:Nat}{mem:List Int}(hm:Q0x P mem):(Q6p c mem).w (λr=>0<=r.2.2.D7/\r.2.2.D7<16):=by
 have z:(0:Int)<=0/\(0:Int)<16:=⟨by decide,by decide⟩
 unfold Q6p
 refine Q08 (Z8l hm h) λx0 h0=>w_br (λ_=>w_lv λy hy=>z) (λ_=>Q08 (Z1g _) λx2 h2=>w_br (λ_=>w_lv λy hy=>z) (λhb=> ?_))
 have hi:=h2 (by simpa using hb)
 refine w_lv λx4 _=> ?_
 repeat'(first
   |refine w_br (λ_=> ?_) (λ_=> ?_)
   |exact Q08 (Z1y h hi h0.2) λx hx=>z
   |exact Q08 (Qxo h hi h0.2) λx hx=>z
   |exact Q08 (Zhx h hi) λx hx=>hx
   |exact w_lv λy hy=>z
   |refine w_lv λ_ _=> ?_)
theorem cnd2{a x:Bool}:(bif a then false else x)=true↔a=false/\x=true:=by cases a<;>simp
theorem Qos(m:Q00):Q14 m=true↔Q0q m.Mem≠0/\Q6f m.B1/\m.A4<=1152921504606846976/\ ¬(m.A3=true/\m.A6=true)/\Q0r m=true:=by
  rw[zW]
  unfold mayC chain
  rw[cnd2,cnd2,cnd2,cnd2,cnd2,cnd2,cnd2]
  simp only[decide_eq_false_iff_not,Int.not_lt,beq_eq_false_iff_ne,bne_eq_false_iff_eq,gt_iff_lt]
  constructor
  . rintro⟨a1,a2,a3,a4,a5,a6,a7,a8⟩
    refine⟨a1,⟨a2,a3,a4,a5,a6⟩,a7,?_,?_⟩
    . rintro⟨w,h⟩;rw[w,h]at a8;cases a8
    . revert a8;cases m.A3
      . exact λh=>h
      . cases m.A6
        . exact λh=>h
        . intro h;cases h
  . rintro⟨a1,⟨a2,a3,a4,a5,a6⟩,a7,a8,a9⟩
    refine⟨a1,a2,a3,a4,a5,a6,a7,?_⟩
    rw[a9]
    cases hw:m.A3
    . rfl
    . cases hh:m.A6
      . rfl
      . exact absurd ⟨hw,hh⟩ a8
theorem Qtb{m:Q00}(h:Q25 m=true):Q14 m=true/\m.A6=false/\m.A4<1152921504606846976:=by
  simp only[Q25,Q3s,Tree.m,letv]at h
  cases h1:Q14 m
  . rw[h1]at h;cases h
  . cases h2:m.A6
    . rw[h1,h2]at h
      cases h3:Qbi m
      . rw[h3]at h
        have h:decide (m.A4<1152921504606846976)=true:=h
        exact⟨rfl,rfl,oY h⟩
      . rw[h3]at h;cases h
    . rw[h1,h2]at h;cases h
theorem Z2k{P:Nat}{m:Q00}(h:okS P m)(g:Q6f m.B1):(Q2n m).w (λr=>Q6f r.B1/\okS P r/\r.Mem=m.Mem/\r.A3=false/\r.A6=m.A6/\r.A4=m.A4/\r.A2=m.A2/\r.A7=m.A7/\r.A9=m.A9/\r.B9=m.B9/\r.A1=m.A1):=by
 obtain⟨h1,h2,h3,h4,h5,h6⟩:=h
 unfold Q2n
 refine w_br (λ_=>⟨g,⟨h1,h2,h3,h4,h5,h6⟩,rfl,rfl,rfl,rfl,rfl,rfl,rfl,rfl,rfl⟩) (λ_=>Q08 (Qpk (m:=⟨_,_,_,_,_,_,m.A1,_,_,_⟩) h6) λx0 _=>w_lp (inv:=λz=>0<=z/\z<=5) (μ:=Qba m) ⟨by omega,by omega⟩ (cO _) (λz hz=> ?_))
 obtain⟨z1,z2⟩:=hz
 refine w_br (λhb=>w_cn (dY z1) (w_br (λ_=>w_lv λx1 hx=>⟨by rw[hx];exact Qlg h1 g _ _,⟨by rw[hx];exact Qo8 h1 _ U_0,h2,h3,h4,h5,h6⟩,rfl,rfl,rfl,rfl,rfl,rfl,rfl,rfl,rfl⟩) (λ_=>w_nx ?_))) (λ_=>⟨g,⟨h1,h2,h3,h4,h5,h6⟩,rfl,rfl,rfl,rfl,rfl,rfl,rfl,rfl,rfl⟩)
 have hb:=oY hb
 show(0<=i64.wrap (z+1)/\i64.wrap (z+1)<=5)/\(5-i64.wrap (z+1)).toNat<(5-z).toNat
 have ew:i64.wrap (z+1)=z+1:=by rw[wrap_i64];omega
 rw[ew];omega
structure Good(P:Nat)(m r:Q00):Prop where
 ok:okS P r
 cnt:0<=r.A4
 may:Q14 m=true->Q14 r=true
 or:r=m\/r.A4=m.A4+1
theorem zai{P:Nat}{m:Q00}(h:okS P m)(hc0:0<=m.A4){clock:Int}(hk:U clock):(Qjy m clock).w (λr=>r.2.length<=1/\Good P m r.1):=by
 have hcl:Q03 m.Mem=m.Mem:=rfl
 unfold Qjy
 refine w_an (Q9c h.mem) (w_lv λl hl=> ?_)
 rw[hcl]at hl;subst hl
 refine w_an (Tree.pp (xx (m:=⟨_,_,_,_,_,_,m.A1,_,_,_⟩) h.given)).1 (w_lv λx1 hx1=>w_br (λ_=>⟨aT _,h,hc0,λh=>h, .inl rfl⟩) (λhb=> ?_))
 have hr:Q25 m=true:=by rw[<-show x1=Q25 m from hx1];simpa using hb
 obtain⟨hm,hh,hct⟩:=Qtb hr
 obtain⟨g1,g2,g3,g4,g5⟩:=(Qos m).1 hm
 have hP:(P:Int)≠0:=by rw[<-Q3c h.mem];exact g1
 have fin: ∀(n:Q00),okS P n->Q6f n.B1->Q0r n=true->n.A4=m.A4-> ¬(n.A3=true/\n.A6=true)->Good P m {B1:=n.B1,Mem:=n.Mem,A2:=n.A2,A7:=n.A7,A9:=n.A9,B9:=n.B9,A1:=n.A1,A4:=wrap .u64 (n.A4+1),A3:=n.A3,A6:=n.A6}:=λn a b c d e=>by
   have ec:wrap .u64 (n.A4+1)=m.A4+1:=by rw[d,wrap_u64];omega
   refine⟨⟨a.cpu,a.mem,a.disk,a.nic,a.target,a.given⟩,?_,λ_=>(Qos _).2 ⟨?_,b,?_,e,c⟩, .inr ec⟩
   . show 0<=wrap .u64 (n.A4+1);omega
   . show Q0q n.Mem≠0;rw[Q3c a.mem];exact hP
   . show wrap .u64 (n.A4+1)<=_;omega
 refine Q08 (Z2k (m:=⟨_,_,m.A2,m.A7,m.A9,m.B9,m.A1,m.A4,m.A3,m.A6⟩) ⟨h.cpu,h.mem,h.disk,h.nic,h.target,h.given⟩ g2) λx2 hx2=> ?_
 obtain⟨b1,b2,b3,b4,b5,b6,b7,b8,b9,b10,b11⟩:=hx2
 have ex:=Tree.pp (vw b2.cpu b2.mem)
 have em:=Tree.pp (zI b2.cpu b1 b2.mem)
 have er:=Tree.pp (Zld b2.cpu b2.mem)
 refine w_an ex.1 (w_lv λx3 h3=> ?_)
 obtain⟨e1,e2,e3⟩:Q29 x3.1/\Q0x P x3.2.1/\U x3.2.2.Value:=by rw[h3];exact ex.2
 have f1:Q6f x3.1:=by rw[h3];exact em.2
 have r1:0<=x3.2.2.D7/\x3.2.2.D7<16:=by rw[h3];exact er.2
 have ok3:okS P ⟨x3.1,x3.2.1,x2.A2,x2.A7,x2.A9,x2.B9,x2.A1,x2.A4,x2.A3,x2.A6⟩:=⟨e1,e2,b2.disk,b2.nic,b2.target,b2.given⟩
 have dev: ∀(w h:Bool),Q0r ⟨x3.1,x3.2.1,x2.A2,x2.A7,x2.A9,x2.B9,x2.A1,x2.A4,w,h⟩=true:=λw hh=>by
   have id: ∀{p:Prop},p->p:=λh=>h
   refine Qpd (m:=m) (P:=P) h.mem e2 ?_ ?_ ?_ ?_ ?_ g5
   . show _->Q2c x2.A2=true;rw[b7];exact id
   . show _->Q3w x2.A7=true;rw[b8];exact id
   . show _->Q18 x2.A9 P=true;rw[b9];exact id
   . show _->Q5g x2.B9 P=true;rw[b10];exact id
   . show _->Q2j x2.A1 P=true;rw[b11];exact id
 have hw:x2.A3=false:=b4
 have hh2:x2.A6=false:=b5.trans hh
 have hct2:x2.A4=m.A4:=b6
 refine w_br (λ_=> ?_) λ_=>w_br (λ_=> ?_) λ_=>w_br (λ_=> ?_) λ_=>w_br (λ_=> ?_) λ_=> ?_
 . refine Q08 (Zoo ok3 _ hk) λx4 h4=> ?_
   obtain⟨k,u⟩:=h4
   have kc:x4.1.B1=x3.1:=k.cpu
   have kt:x4.1.A4=m.A4:=k.cnt.trans hct2
   have kw: ¬(x4.1.A3=true/\x4.1.A6=true):=λe=>by have:x4.1.A3=x2.A3:=k.wait;rw[this,hw]at e;cases e.1
   have km:Q6f x4.1.B1:=by rw[kc];exact f1
   refine w_br (λhn=>w_cn (rc r1) ⟨aT _,?_⟩) (λ_=>⟨aT _,fin x4.1 k.ok km (k.dev (dev _ _)) kt kw⟩)
   have hn:x3.2.2.D7≠0:=by simpa using hn
   obtain⟨q,e⟩: ∃q:Nat,x3.2.2.D7.toNat=q+1:=⟨x3.2.2.D7.toNat-1,by omega⟩
   refine fin ⟨⟨A16.of 0 (dH (A16.l x4.1.B1.X) x3.2.2.D7.toNat x4.2),x4.1.B1.Pc,x4.1.B1.B4⟩,x4.1.Mem,x4.1.A2,x4.1.A7,x4.1.A9,x4.1.B9,x4.1.A1,x4.1.A4,x4.1.A3,x4.1.A6⟩ ⟨⟨Z9m k.ok.cpu.x u _,k.ok.cpu.pc,k.ok.cpu.csr⟩,k.ok.mem,k.ok.disk,k.ok.nic,k.ok.target,k.ok.given⟩ ⟨?_,km.st,km.en,km.rt,km.ve⟩ (k.dev (dev _ _)) kt kw
   show(A16.of 0 (dH (A16.l x4.1.B1.X) x3.2.2.D7.toNat x4.2)).a0=0
   rw[e]
   exact km.x0
 . refine Q08 (Ziu ok3 _ e3 _) λx5 h5=> ?_
   obtain⟨k,u⟩:=h5
   have kc:x5.1.B1=x3.1:=k.cpu
   exact⟨u,fin x5.1 k.ok (by rw[kc];exact f1) (k.dev (dev _ _)) (k.cnt.trans hct2) (λe=>by have:x5.1.A3=x2.A3:=k.wait;rw[this,hw]at e;cases e.1)⟩
 . exact⟨aT _,fin ⟨x3.1,x3.2.1,x2.A2,x2.A7,x2.A9,x2.B9,x2.A1,x2.A4,true,x2.A6⟩ ⟨e1,e2,b2.disk,b2.nic,b2.target,b2.given⟩ f1 (dev _ _) hct2 (λe=>by have e2:x2.A6=true:=e.2;rw[hh2]at e2;cases e2)⟩
 . exact⟨aT _,fin ⟨x3.1,x3.2.1,x2.A2,x2.A7,x2.A9,x2.B9,x2.A1,x2.A4,x2.A3,true⟩ ⟨e1,e2,b2.disk,b2.nic,b2.target,b2.given⟩ f1 (dev _ _) hct2 (λe=>by have e2:x2.A3=true:=e.1;rw[hw]at e2;cases e2)⟩
 . exact⟨aT _,fin ⟨x3.1,x3.2.1,x2.A2,x2.A7,x2.A9,x2.B9,x2.A1,x2.A4,x2.A3,x2.A6⟩ ok3 f1 (dev _ _) hct2 (λe=>by have e2:x2.A3=true:=e.1;rw[hw]at e2;cases e2)⟩
theorem yI{P:Nat}{m:Q00}(h:okM P m){e:Q0e}(he:U e.N):(Qc9 m e).w (λr=>(Q14 m=true->Q14 r.1=true)/\r.1.A4=m.A4/\U r.1.A1.C2):=by
 obtain⟨h1,h2,h3,h4,h5,h7⟩:=h
 have hcl:Q03 m.Mem=m.Mem:=rfl
 have pg: ∀{m':List Int},Q0x P m'->Q0q m'=Q0q m.Mem:=λh=>by rw[Q3c h,Q3c h2]
 have keep:(Q14 m=true->Q14 m=true)/\m.A4=m.A4/\U m.A1.C2:=⟨λh=>h,rfl,h5.2⟩
 unfold Qc9
 refine w_an (Q9c h2) (w_lv λl hl=> ?_)
 rw[hcl]at hl;subst hl
 refine Q08 (qx (m:=⟨_,_,_,_,_,_,m.A1,_,_,_⟩) h5.2) λx1 _=>w_br (λ_=>keep) λ_=>w_br (λ_=>keep) λ_=> ?_
 refine w_br (λ_=>w_br (λ_=>w_br (λ_=>w_lv λx hx=> ?_) (λ_=>keep)) (λ_=>keep)) λ_=>w_br (λ_=>w_br (λ_=>w_br (λ_=>Q08 (qah _ _) λx hx=> ?_) (λ_=>keep)) (λ_=>keep)) λ_=>w_br (λhk=>Q08 (Zmm h2 h3 e) λx hx=> ?_) λ_=>w_br (λhk=>w_br (λ_=>Q08 (qg h2 h4 _) λx hx=> ?_) (λ_=>keep)) λ_=>w_br (λ_=>w_br (λ_=> ?_) (λ_=>keep)) (λ_=>keep)
 . exact⟨Qt4 rfl rfl rfl rfl rfl (λh=>h) (λh=>by rw[hx];exact vH _ h) (λ_ h=>h) (λ_ h=>h) rfl,rfl,h5.2⟩
 . exact⟨Qt4 rfl rfl rfl rfl rfl hx (λh=>h) (λ_ h=>h) (λ_ h=>h) rfl,rfl,h5.2⟩
 . obtain⟨a1,a2,a3,a4,a5⟩:=hx
   exact⟨Qt4 (pg a2) rfl rfl rfl rfl (λh=>h) (λh=>h) a5 (λ_ h=>h) rfl,rfl,h5.2⟩
 . obtain⟨a1,a2,a3,a4,a5⟩:=hx
   exact⟨Qt4 (pg a2) rfl rfl rfl rfl (λh=>h) (λh=>h) (λ_ h=>h) a5 rfl,rfl,h5.2⟩
 . exact⟨Qt4 rfl rfl rfl rfl rfl (λh=>h) (λh=>h) (λ_ h=>h) (λ_ h=>h) rfl,rfl,h5.2⟩
structure okW(m:Q00):Prop where
 cpu:Q29 m.B1
 u: ∀w∈m.Mem,U w
 len:m.Mem.length<=1024
 disk:Q7w m.A9
 nic:Qiv m.B9
 bal:okB m.A1
 cnt:0<=m.A4
theorem Zho{c:Q02}(h:Q29 c){i:Nat}{v:Int}(hv:U v){x:A8 Int}(hx:x=A8.of 0 (dH (A8.l c.B4) i v))(p:Int)(hp:U p):Q29 {X:=c.X,Pc:=p,B4:=x}:=⟨h.x,hp,by rw[hx];exact Quo h.csr hv i⟩
theorem qaE{P:Nat}{m:Q00}(h:okM P m)(hP:1<=P)(hc:0<=m.A4)(where0 what:Int)(hd: ∀k:Int,0<=k->k<=128->Q4m what k):(Qbc m where0 what).w okW:=by
 unfold Qbc
 refine Q08 (ye h) λx0 ⟨g,hct⟩=>w_an (Q5t (by decide)) (w_lv λx1 _=> ?_)
 have hc:0<=x0.A4:=by rw[hct];exact hc
 obtain⟨h1,h2,h3,h4,h5,_⟩:=g
 have hl:=h2.len
 have hp2:=h2.p2
 have hlen:x0.Mem.length<=1024:=by omega
 have hne:(x0.Mem.length:Int)≠0:=by omega
 have rr: ∀k:Int,0<k->k<=1000000->0<=Q1y what k/\Q1y what k<k:=λk a b=>Qsa a (by omega)
 have rl:=rr x0.Mem.length (by omega) (by omega)
 have C: ∀c,Q29 c->okW {B1:=c,Mem:=x0.Mem,A2:=x0.A2,A7:=x0.A7,A9:=x0.A9,B9:=x0.B9,A1:=x0.A1,A4:=x0.A4,A3:=x0.A3,A6:=x0.A6}:=λc a=>⟨a,h2.u,hlen,h3,h4,h5,hc⟩
 have M: ∀l:List Int,(∀w∈l,U w)->l.length<=1024->okW {B1:=x0.B1,Mem:=l,A2:=x0.A2,A7:=x0.A7,A9:=x0.A9,B9:=x0.B9,A1:=x0.A1,A4:=x0.A4,A3:=x0.A3,A6:=x0.A6}:=λl a b=>⟨h1,a,b,h3,h4,h5,hc⟩
 have D: ∀d,Q7w d->okW {B1:=x0.B1,Mem:=x0.Mem,A2:=x0.A2,A7:=x0.A7,A9:=d,B9:=x0.B9,A1:=x0.A1,A4:=x0.A4,A3:=x0.A3,A6:=x0.A6}:=λd a=>⟨h1,h2.u,hlen,a,h4,h5,hc⟩
 have N: ∀n,Qiv n->okW {B1:=x0.B1,Mem:=x0.Mem,A2:=x0.A2,A7:=x0.A7,A9:=x0.A9,B9:=n,A1:=x0.A1,A4:=x0.A4,A3:=x0.A3,A6:=x0.A6}:=λn a=>⟨h1,h2.u,hlen,h3,a,h5,hc⟩
 refine w_br (λ_=>C _ (h1.pcs (Q0m _))) λ_=> ?_
 refine w_br (λ_=>w_an (Q5t (by decide)) (w_lv λx2 e2=>w_cn (by rw[e2];exact rc (rr 16 (by decide) (by decide))) (C _ ⟨Z9m h1.x (Q0m _) _,h1.pc,h1.csr⟩))) λ_=> ?_
 refine w_br (λ_=>w_an (Q5t (by decide)) (w_lv λx3 e3=>w_cn (by rw[e3];have:=rr 8 (by decide) (by decide);simp [bT];omega) (C _ ⟨h1.x,h1.pc,Quo h1.csr (Qsp (Q0m _) _) _⟩))) λ_=> ?_
 refine w_br (λ_=>C _ (Zho h1 (i:=0) (Qh5 _ _) rfl _ h1.pc)) λ_=> ?_
 refine w_br (λ_=>C _ (Zho h1 (i:=7) (Qh5 _ _) rfl _ h1.pc)) λ_=> ?_
 refine w_br (λ_=>w_an (Q5t hne) (w_lv λx4 e4=>w_cn (by rw[e4];simp [bT];omega) (M _ (Qzd h2.u (Q0m _) _) (by rw[dI];exact hlen)))) λ_=> ?_
 refine w_br (λ_=>w_an (Q5t hne) (w_lv λx5 e5=>w_an (Zkw _) (w_lv λx6 _=>w_lv λx7 e7=>w_cn (by rw[e5];simp [bT];omega) (M _ (Qzd h2.u (by rw[e7];exact Zk1 _) _) (by rw[dI];exact hlen))))) λ_=> ?_
 refine w_br (λ_=>w_an (Q5t (by decide)) (w_lv λx8 e8=>w_an (hd _ (by rw[e8];exact(rr 18 (by decide) (by decide)).1) (by rw[e8];have:=(rr 18 (by decide) (by decide)).2;omega)) (w_lv λx9 _=>⟨h1,h2.u,hlen,h3,h4,h5,hc⟩))) λ_=> ?_
 refine w_br (λ_=>⟨h1,h2.u,hlen,h3,h4,h5,hc⟩) λ_=> ?_
 refine w_br (λ_=>D _ ⟨h3.block,h3.frame,h3.opBlock,h3.opFrame⟩) λ_=> ?_
 refine w_br (λ_=>w_br (λ_=>w_an (hd _ (by decide) (by decide)) (w_lv λx10 _=>D _ ⟨U_0,U_0,Qh5 _ _,Qh5 _ _⟩)) (λ_=>D _ ⟨U_0,U_0,Qh5 _ _,Qh5 _ _⟩)) λ_=> ?_
 refine w_br (λ_=>D _ ⟨Qh5 _ _,Qh5 _ _,h3.opBlock,h3.opFrame⟩) λ_=> ?_
 refine w_br (λ_=>N _ ⟨Qh5 _ _,Qh5 _ _,Qh5 _ _,U_0⟩) λ_=> ?_
 refine w_br (λ_=>N _ ⟨U_0,U_0,U_0,Qh5 _ _⟩) λ_=> ?_
 refine w_br (λ_=>⟨h1,h2.u,hlen,h3,h4,⟨Qh5 _ _,Qh5 _ _⟩,hc⟩) λ_=> ?_
 refine w_br (λ_=>⟨h1,h2.u,hlen,h3,h4,h5,hc⟩) λ_=> ?_
 refine w_br (λ_=>⟨h1,h2.u,hlen,h3,h4,h5,hc⟩) λ_=> ?_
 refine w_br (λ_=>⟨h1,h2.u,hlen,h3,h4,h5,by show 0<=u64.wrap what;rw[wrap_u64];omega⟩) λ_=> ?_
 refine w_br (λ_=>w_an (Q5t hne) (w_lv λx11 e11=>w_cn (by rw[e11];simp [bT];omega) (M _ (λw hw=>h2.u w (cZ (cY hw))) (by rw[bD,bF];omega)))) λ_=> ?_
 refine w_br (λ_=>⟨h1,h2.u,hlen,h3,h4,h5,by show 0<=u64.wrap _;rw[wrap_u64];omega⟩) λ_=> ?_
 refine w_br (λ_=>C _ (Zho h1 (i:=6) (Qh5 _ _) rfl _ h1.pc)) λ_=> ?_
 exact w_br (λ_=>C _ (h1.pcs (Q0m _))) (λ_=>⟨h1,h2.u,hlen,h3,h4,h5,hc⟩)
theorem Qv0{a:Int}(h:U a):(dX 32 a).toNat=a.toNat:=by
 obtain⟨h1,h2⟩:=h
 rw[dZ];omega
theorem Zjp{a b:Int}(ha:U a)(hb:U b):iand .u32 a b=((a.toNat&&&b.toNat:Nat):Int):=by
 have l:=(dX 32 a&&&dX 32 b).isLt
 have e:(dX 32 a&&&dX 32 b).toNat=a.toNat&&&b.toNat:=by rw[eB,Qv0 ha,Qv0 hb]
 show wrap .u32 ((dX 32 a&&&dX 32 b).toNat:Int)=_
 rw[wrap_u32,<-e];omega
theorem zaE{a b:Int}(ha:U a)(hb:U b):ior .u32 a b=((a.toNat|||b.toNat:Nat):Int):=by
 have l:=(dX 32 a|||dX 32 b).isLt
 have e:(dX 32 a|||dX 32 b).toNat=a.toNat|||b.toNat:=by rw[eA,Qv0 ha,Qv0 hb]
 show wrap .u32 ((dX 32 a|||dX 32 b).toNat:Int)=_
 rw[wrap_u32,<-e];omega
theorem Zaz{a:Int}(ha:U a)(k:Nat)(hk:k<=32){q:Int}(hq:q=((2^k-1:Nat):Int)):iand .u32 a q=a%2^k:=by
 have hp:2^k<=2^32:=dU (by decide) hk
 have h1:(2:Nat)^32=4294967296:=by decide
 have hpos:=eI k
 subst hq
 rw[Zjp ha ⟨by omega,by omega⟩,eF,eJ]
 have:=ha.1
 rw[Int.natCast_emod,eK this]
 simp
theorem m15{a:Int}(ha:U a):iand .u32 a 15=a%16:=Zaz ha 4 (by decide) rfl
theorem m255{a:Int}(ha:U a):iand .u32 a 255=a%256:=Zaz ha 8 (by decide) rfl
theorem m65535{a:Int}(ha:U a):iand .u32 a 65535=a%65536:=Zaz ha 16 (by decide) rfl
theorem Qta(p:Int->Bool)(N:Nat)(h:(dE N).all (λn=>p n)=true){s:Int}(h0:0<=s)(h1:s<N):p s=true:=by
 have:=List.all_eq_true.1 h s.toNat (List.mem_range.2 (by omega))
 rwa [eK h0]at this
theorem w64{x:Int}(h0: -9223372036854775808<=x)(h1:x<9223372036854775808):wrap .i64 x=x:=by rw[wrap_i64];omega
theorem shr0(a:Int):ishr .u32 a 0=a:=by have:=Qrf (a:=a) 0 (by decide);simpa using this
theorem fld(w:Int):Q2q w 24 8=iand .u32 (ishr .u32 w 24) 255/\Q2q w 20 4=iand .u32 (ishr .u32 w 20) 15/\Q2q w 16 4=iand .u32 (ishr .u32 w 16) 15/\Q2q w 0 16=iand .u32 (ishr .u32 w 0) 65535/\Q2q w 8 8=iand .u32 (ishr .u32 w 8) 255:=
 ⟨by kernel_rfl,by kernel_rfl,by kernel_rfl,by kernel_rfl,by kernel_rfl⟩
def useOf(f:Int):Q8h×Bool:=
 bif f==1 then(⟨false,false,false,0,0⟩,true) else bif f==2 then(⟨true,true,true,0,0⟩,true) else bif f==3 then(⟨true,true,false,-32768,32767⟩,true)
 else bif f==4 then(⟨true,true,false,0,65535⟩,true) else bif f==5 then(⟨true,true,false,0,31⟩,true) else bif f==6 then(⟨true,false,false,0,65535⟩,true)
 else bif f==7 then(⟨true,false,false,-32768,32767⟩,true) else bif f==8 then(⟨true,false,false,0,7⟩,true) else bif f==9 then(⟨true,false,false,0,11⟩,true) else(⟨false,false,false,0,0⟩,false)
def sameU(x y:Q8h×Bool):Bool:=x.1.a==y.1.a&&x.1.b==y.1.b&&x.1.c==y.1.c&&x.1.low==y.1.low&&x.1.D5==y.1.D5&&x.2==y.2
theorem vI{x y:Q8h×Bool}(h:sameU x y=true):x=y:=by
 obtain⟨⟨a,b,c,d,e⟩,f⟩:=x
 obtain⟨⟨a',b',c',d',e'⟩,f'⟩:=y
 simp only[sameU,aE,beq_iff_eq]at h
 obtain⟨⟨⟨⟨⟨rfl,rfl⟩,rfl⟩,rfl⟩,rfl⟩,rfl⟩:=h
 rfl
theorem yW{op:Int}(h0:0<=op)(h1:op<256):Z2m op=useOf (Q2d op):=by
 exact vI (Qta (λop=>sameU (Z2m op) (useOf (Q2d op))) 256 (by kernel_rfl) h0 h1)
theorem zh{op:Int}(h0:0<=op)(h1:op<256):Q2d op=0\/Q2d op=1\/Q2d op=2\/Q2d op=3\/Q2d op=4\/Q2d op=5\/Q2d op=6\/Q2d op=7\/Q2d op=8\/Q2d op=9:=by
 have:=oY (Qta (λop=>decide (0<=Q2d op/\Q2d op<=9)) 256 (by kernel_rfl) h0 h1)
 omega
theorem xai{op:Int}(h0:0<=op)(h1:op<256):Q84 op=Q31 op:=by
 exact eq_of_beq (Qta (λop=>Q84 op==Q31 op) 256 (by kernel_rfl) h0 h1)
theorem qJ{a x y:Bool}:(cond a x y=true)↔((a=true/\x=true)\/(a=false/\y=true)):=by cases a<;>simp
theorem Zby{i:Q0h}(h0:0<=i.Op)(h1:i.Op<256)(hi:wrap .i64 i.Imm=i.Imm):Qee i=Q6v i:=by
 rw[eM]
 simp only[Qee,Qgy,Tree.m,letv,Q6v,Qe9,yW h0 h1,hi]
 rcases zh h0 h1 with h|h|h|h|h|h|h|h|h|h<;>rw[h]<;>
 simp [useOf,Q8y,Qe2,Q7b,Qcs,Qld,Qlp,Tree.m,letv,qJ]<;>omega
theorem sx16{x:Int}(h0:0<=x)(h1:x<65536):wrap .i32 (Q2b x 16)=wrap .i32 (wrap .i16 x):=by
 have e:Q2b x 16=wrap .u32 (ishr .i32 (wrap .i32 (ishl .u32 x 16)) 16):=by kernel_rfl
 have e2: ∀y,ishr .i32 y 16=y/65536:=λy=>by
   show eN y 65536=_
   rw[dQ _ (by decide)]
 have e3:ishl .u32 x 16=wrap .u32 (x*65536):=rfl
 have e4:wrap .i16 x=(x+32768)%65536-32768:=by
   simp [wrap,IntKind.bits,IntKind.signed]
   split<;>omega
 rw[e,e2,e3,e4]
 simp only[wrap_i32,wrap_u32]
 omega
theorem sx8{x:Int}(h0:0<=x)(h1:x<256):Q2b x 8=Q36 x 8:=by
 exact eq_of_beq (Qta (λx=>Q2b x 8==Q36 x 8) 256 (by kernel_rfl) h0 h1)
theorem yh{w:Int}(hw:U w):Qgq w=Q1u w:=by
 obtain⟨f1,f2,f3,f4,_⟩:=fld w
 obtain⟨w0,w1⟩:=hw
 have s24:ishr .u32 w 24=w/16777216:=by have:=Qrf (a:=w) 24 (by decide);simpa using this
 have s20:U (ishr .u32 w 20):=Qsp ⟨w0,w1⟩ _
 have s16:U (ishr .u32 w 16):=Qsp ⟨w0,w1⟩ _
 rw[m255 (Qsp ⟨w0,w1⟩ _),s24]at f1
 rw[m15 s20]at f2
 rw[m15 s16]at f3
 rw[shr0]at f4
 have g1:w/16777216%256=w/16777216:=by omega
 rw[g1]at f1
 have o0:0<=w/16777216:=by omega
 have o1:w/16777216<256:=by omega
 have eo:wrap .i64 (w/16777216)=w/16777216:=w64 (by omega) (by omega)
 have i32: ∀x,wrap .i64 (wrap .i32 x)=wrap .i32 x:=λx=>by rw[wrap_i64,wrap_i32];omega
 have l0:=m65535 ⟨w0,w1⟩
 have lx:=sx16 (x:=iand .u32 w 65535) (by omega) (by omega)
 simp only[Qgq,Q73,Q1u,Q5w,Tree.m,letv,f1,f2,f3,f4,s24,eo,yW o0 o1,m15 s20,m15 s16,lx]
 generalize w/16777216=op at*
 generalize wrap .i64 (ishr .u32 w 20%16)=a
 generalize wrap .i64 (ishr .u32 w 16%16)=b
 generalize iand .u32 w 65535=l
 rw[Zby (i:=⟨op,a,b,wrap .i64 l,0⟩) o0 o1 rfl,Zby (i:=⟨op,a,b,0,wrap .i32 (wrap .i16 l)⟩) o0 o1 (i32 _),Zby (i:=⟨op,a,b,0,wrap .i32 l⟩) o0 o1 (i32 _)]
 rcases zh o0 o1 with h|h|h|h|h|h|h|h|h|h<;>rw[h]<;>rfl
theorem qaj(x v:BitVec 32)(s:Nat)(hs:s<=24):((x&&&~~~(255#32<<<s))|||((v&&&255#32)<<<s)).toNat=2^(s+8)*(x.toNat/2^(s+8))+(2^s*(v.toNat%256)+x.toNat%2^s):=by
  have hx:=x.isLt
  have h1:x.toNat%2^s<2^s:=eO _ (eI s)
  have h2:2^s*(v.toNat%256)+x.toNat%2^s<2^(s+8):=by
    have:v.toNat%256<256:=eO _ (by decide)
    have h3:2^s*(v.toNat%256)<=2^s*255:=Nat.mul_le_mul_left _ (by omega)
    have:2^(s+8)=2^s*256:=by rw[Nat.pow_add]
    omega
  rw[eQ h2,eQ h1]
  apply eR
  intro i
  rw[BitVec.testBit_toNat]
  simp only[BitVec.getLsbD_or,BitVec.getLsbD_and,BitVec.getLsbD_not,BitVec.getLsbD_shiftLeft,Nat.testBit_or,Nat.testBit_two_pow_mul,eS,Nat.testBit_div_two_pow,BitVec.getLsbD_ofNat]
  have e255: ∀j,eT 255 j=decide (j<8):=λj=>by
    rw[show 255=2^8-1 from rfl,Nat.testBit_two_pow_sub_one]
  have e256: ∀n j,eT (n%256) j=(decide (j<8)&&eT n j):=λn j=>by
    rw[show 256=2^8 from rfl,eS]
  rw[e255,e256]
  by_cases hi:i<32
  . by_cases a1:i<s
    . have a2: ¬(s<=i):=by omega
      have a3: ¬(s+8<=i):=by omega
      simp [hi,a1,a2,a3,eU]
    . by_cases a4:s+8<=i
      . have a2: ¬(i-s<8):=by omega
        have a5:i-(s+8)+(s+8)=i:=by omega
        have a6:s<=i:=by omega
        simp [hi,a1,a2,a4,a5,a6,eU]
      . have a2:(i-s<8):=by omega
        have a6:s<=i:=by omega
        have a7:i-s<32:=by omega
        simp [hi,a1,a2,a4,a6,a7,eU]
  . have a0:x.toNat.testBit i=false:=Nat.testBit_lt_two_pow (Nat.lt_of_lt_of_le hx (dU (by decide) (by omega)))
    have a1: ¬(i<s):=by omega
    have a2: ¬(i-s<8):=by omega
    have a4:s+8<=i:=by omega
    have a5:i-(s+8)+(s+8)=i:=by omega
    simp [hi,a0,a1,a2,a4,a5]
theorem Z8j(b:BitVec 32):dX 32 (wrap .u32 (b.toNat:Int))=b:=by
 have:=b.isLt
 rw[wrap_u32]
 apply eV
 rw[dZ];omega
theorem Zom(x:Int):dX 32 (wrap .u32 x)=dX 32 x:=by
 apply eV
 rw[dZ,dZ,wrap_u32]
 have:((2^32:Nat):Int)=4294967296:=by decide
 rw[this,Int.emod_emod_of_dvd _ (Int.dvd_refl _)]
theorem Zdd{x:Int}(hx:U x)(s:Nat)(hs:s<=32):dX 32 (ishl .u32 x s)=dX 32 x<<<s:=by
 obtain⟨n,rfl⟩: ∃n:Nat,x=n:=⟨x.toNat,by have:=hx.1;omega⟩
 have e:min (dG (s:Int)) u32.bits=s:=by show min (dG (s:Int)) 32=s;omega
 unfold ishl
 rw[e,Zom]
 have e2:((n:Int)*2^s)=((n*2^s:Nat):Int):=by simp
 have:=hx.2
 rw[e2,eW,eW]
 apply eV
 rw[BitVec.toNat_shiftLeft,eY,eY,Nat.shiftLeft_eq,Nat.mod_mul_mod]
def putW(W v:Int)(s:Nat):Int:=ior .u32 (Qg7 .u32 W (ishl .u32 255 s)) (ishl .u32 (iand .u32 v 255) s)
theorem zaj{W v:Int}(hW:U W)(hv:U v)(s:Nat)(hs:s<=24):putW W v s=2^(s+8)*(W/2^(s+8))+(2^s*(v%256)+W%2^s):=by
 have e:=qaj (dX 32 W) (dX 32 v) s hs
 have l:=((dX 32 W&&&~~~(255#32<<<s))|||((dX 32 v&&&255#32)<<<s)).isLt
 have h1:dX 32 (Qg7 .u32 W (ishl .u32 255 s))=dX 32 W&&&~~~(255#32<<<s):=by
   show dX 32 (wrap .u32 (dX 32 W&&&~~~dX 32 (ishl .u32 255 s)).toNat)=_
   rw[Z8j,Zdd ⟨by decide,by decide⟩ s (by omega)]
   rfl
 have h2:dX 32 (ishl .u32 (iand .u32 v 255) s)=(dX 32 v&&&255#32)<<<s:=by
   rw[Zdd (Qh5 _ _) s (by omega)]
   congr 1
   show dX 32 (wrap .u32 (dX 32 v&&&dX 32 255).toNat)=_
   rw[Z8j];rfl
 show wrap .u32 ((dX 32 (Qg7 .u32 W (ishl .u32 255 s))|||dX 32 (ishl .u32 (iand .u32 v 255) s)).toNat:Int)=_
 rw[h1,h2]
 have lw:wrap .u32 ((((dX 32 W&&&~~~(255#32<<<s))|||((dX 32 v&&&255#32)<<<s)).toNat:Nat):Int)=(((dX 32 W&&&~~~(255#32<<<s))|||((dX 32 v&&&255#32)<<<s)).toNat:Nat):=by rw[wrap_u32];omega
 rw[lw,e,Qv0 hW,Qv0 hv]
 obtain⟨n,rfl⟩: ∃n:Nat,W=n:=⟨W.toNat,by have:=hW.1;omega⟩
 obtain⟨k,rfl⟩: ∃n:Nat,v=n:=⟨v.toNat,by have:=hv.1;omega⟩
 simp
def dig(w:Int)(k:Nat):Int:=if k=0 then w%256 else if k=1 then w/256%256 else if k=2 then w/65536%256 else w/16777216%256
def byt(m:List Int)(a:Nat):Int:=dig (m.getD (a/4) 0) (a%4)
theorem vh(w:Int)(k:Nat):0<=dig w k/\dig w k<256:=by
 unfold dig
 split
 . omega
 . split
   . omega
   . split<;>omega
theorem xaj{w v:Int}(hw:U w)(hv:U v)(h: ∀k,k<4->dig w k=dig v k):w=v:=by
 have h0:=h 0 (by omega)
 have h1:=h 1 (by omega)
 have h2:=h 2 (by omega)
 have h3:=h 3 (by omega)
 simp [dig]at h0 h1 h2 h3
 obtain⟨a,b⟩:=hw
 obtain⟨c,d⟩:=hv
 omega
theorem Zjc{m n:List Int}(hl:m.length=n.length)(hm: ∀w∈m,U w)(hn: ∀w∈n,U w)(h: ∀a,byt m a=byt n a):m=n:=by
 refine bM hl λi h1 h2=> ?_
 have e1:m[i]=m.getD i 0:=by simp [aK,h1]
 have e2:n[i]=n.getD i 0:=by simp [aK,h2]
 rw[e1,e2]
 refine xaj (Qkp hm i) (Qkp hn i) λk hk=> ?_
 have:=h (4*i+k)
 simp only[byt]at this
 rwa [show(4*i+k)/4=i by omega,show(4*i+k)%4=k by omega]at this
theorem Quf{l:List Int}{i:Nat}(h:i<l.length)(v:Int):(l.set i v).getD i 0=v:=by
 simp [aK,h]
theorem Zj2{m:List Int}{i:Nat}(hi:i<m.length)(v:Int)(a:Nat):byt (m.set i v) a=if a/4=i then dig v (a%4) else byt m a:=by
 unfold byt
 split
 . rename_i h;rw[h,Quf hi]
 . rename_i h;rw[getDset _ _ _ _ (λe=>h e.symm)]
theorem qak{W v:Int}(hW:U W)(hv:U v){j:Nat}(hj:j<4){k:Nat}(hk:k<4):dig (putW W v (8*j)) k=if k=j then v%256 else dig W k:=by
 have h:=zaj hW hv (8*j) (by omega)
 rw[h]
 obtain⟨w0,w1⟩:=hW
 have h0:0<=v%256:=by omega
 have h1:v%256<256:=by omega
 generalize v%256=b at*
 clear h
 have hj:j=0\/j=1\/j=2\/j=3:=by omega
 have hk:k=0\/k=1\/k=2\/k=3:=by omega
 rcases hj with rfl|rfl|rfl|rfl<;>rcases hk with rfl|rfl|rfl|rfl<;>simp [dig]<;>omega
theorem zak{m:List Int}{a v:Int}(ha:U a):Q9h m a 1 v=m.set (a/4).toNat (putW (m.getD (a/4).toNat 0) v (8*(a%4).toNat)):=by
 obtain⟨a0,a1⟩:=ha
 have e1:wrap .u32 (eZ a 4)=a/4:=by rw[wrap_u32,fA a0];omega
 have e2:wrap .u32 (8*dF a 4)=((8*(a%4).toNat:Nat):Int):=by rw[wrap_u32,eH a0];omega
 have e3:((1:Int)==4)=false:=rfl
 simp only[Q9h,Qdv,Tree.m,e1,e2,e3,cond_false]
 rfl
theorem qi{P:Nat}{m:List Int}(h:Q0x P m){a v:Int}(ha:U a)(hl:a<128*P)(hv:U v):Q0x P (Q9h m a 1 v)/\ ∀b:Nat,byt (Q9h m a 1 v) b=if(b:Int)=a then v%256 else byt m b:=by
 have hlen:=h.len
 have a0:=ha.1
 rw[zak ha]
 have hi:(a/4).toNat<m.length:=by omega
 refine⟨⟨by rw[dI];exact hlen,h.p1,h.p2,Qzd h.u (U_or _ _) _⟩,λb=> ?_⟩
 rw[Zj2 hi]
 by_cases hb:b/4=(a/4).toNat
 . rw[if_pos hb,qak (Qkp h.u _) hv (by omega) (by omega)]
   by_cases hc:b%4=(a%4).toNat
   . rw[if_pos hc,if_pos (by omega)]
   . rw[if_neg hc,if_neg (by omega),byt,hb]
 . rw[if_neg hb,if_neg (by omega)]
theorem vW{P:Nat}{m:List Int}(h:Q0x P m){frame:Int}(f0:0<=frame)(f1:frame<P)(s:List UInt8):(Q90 m frame s).w (λr=>Q0x P r/\ ∀b:Nat,byt r b=if frame*128<=b/\(b:Int)<frame*128+min s.length 128 then((s.getD (b-frame*128).toNat 0).toNat:Int) else byt m b):=by
 unfold Q90
 have h3:=h.p2
 refine w_lp (inv:=λz=>0<=z.1/\z.1<=min s.length 128/\Q0x P z.2/\ ∀b:Nat,byt z.2 b=if frame*128<=b/\(b:Int)<frame*128+z.1 then((s.getD (b-frame*128).toNat 0).toNat:Int) else byt m b) (μ:=Qi7 m frame s) ⟨show(0:Int)<=0 by decide,by show(0:Int)<=_;omega,h,λb=>by rw[if_neg];show¬(_/\_<_+(0:Int));omega⟩ (cO _) (λv0 hv0=> ?_)
 obtain⟨i,mm⟩:=v0
 obtain⟨i0,i1,hm,hy⟩:=hv0
 have i0:0<=i:=i0
 have i1:i<=min s.length 128:=i1
 have hm:Q0x P mm:=hm
 have fin: ∀r:List Int,r=mm->i=min s.length 128->Q0x P r/\ ∀b:Nat,byt r b=if frame*128<=b/\(b:Int)<frame*128+min s.length 128 then((s.getD (b-frame*128).toNat 0).toNat:Int) else byt m b:=λr hr hi=>by
   subst hr;refine⟨hm,λb=> ?_⟩
   rw[hy b];simp only[hi]
 refine w_br (λh1=>w_br (λh2=>w_cn ?_ ?_) (λh2=>fin mm rfl ?_)) (λh1=>fin mm rfl ?_)
 . have:=oY h1
   simp [bT];omega
 . have h1:i<s.length:=oY h1
   have h2:i<128:=oY h2
   have e:wrap u32 (wrap i64 (wrap i64 (frame*128)+i))=frame*128+i:=by
     rw[wrap_u32,wrap_i64,wrap_i64];omega
   show(Tree.an (Qf2 mm (wrap u32 (wrap i64 (wrap i64 (frame*128)+i))) 1 _) (Tree.lv _ _)).w _
   rw[e]
   have hu:U (frame*128+i):=⟨by omega,by omega⟩
   have hvU: ∀n:Nat,U (wrap .u32 (n:Int)):=λn=>Q0m _
   obtain⟨g1,_⟩:=Tree.pp (put_w hm (size:=1) (addr:=frame*128+i) hu (by rw[hm.len];omega) (hvU (fB (s.getD i.toNat 0))))
   obtain⟨g2,g3⟩:=qi hm hu (by omega) (hvU (fB (s.getD i.toNat 0)))
   refine w_an g1 (w_lv λx0 hx0=> ?_)
   rw[hx0]
   have ew:i64.wrap (i+1)=i+1:=by rw[wrap_i64];omega
   refine w_nx ?_
   show(0<=i64.wrap (i+1)/\i64.wrap (i+1)<=min s.length 128/\Q0x P _/\ ∀b:Nat,byt _ b=if frame*128<=b/\(b:Int)<frame*128+i64.wrap (i+1) then _ else _)/\(128-i64.wrap (i+1)).toNat<(128-i).toNat
   rw[ew]
   refine⟨⟨by omega,by omega,g2,λb=> ?_⟩,by omega⟩
   rw[show Q9h mm (frame*128+i) 1 _=_ from rfl,g3 b]
   by_cases hb:(b:Int)=frame*128+i
   . rw[if_pos hb,if_pos (by omega),wrap_u32]
     have:=(s.getD i.toNat 0).toNat_lt
     rw[show(b-frame*128).toNat=i.toNat by omega];omega
   . rw[if_neg hb,hy b]
     show(if frame*128<=(b:Int)/\(b:Int)<frame*128+i then _ else _)=_
     by_cases hc:frame*128<=(b:Int)/\(b:Int)<frame*128+i
     . rw[if_pos hc,if_pos (by omega)]
     . rw[if_neg hc,if_neg (by omega)]
 . have h1:i<s.length:=oY h1
   have h2: ¬i<128:=oN h2
   omega
 . have h1: ¬i<s.length:=oN h1
   omega
theorem xi{x y:Int}(hx:U x)(hy:U y)(k:Nat)(hk:x<2^k)(h:x+y*2^k<4294967296):ior .u32 x (y*2^k)=x+y*2^k:=by
 obtain⟨n,rfl⟩: ∃n:Nat,x=n:=⟨x.toNat,by have:=hx.1;omega⟩
 obtain⟨z,rfl⟩: ∃n:Nat,y=n:=⟨y.toNat,by have:=hy.1;omega⟩
 have e:((z:Int)*2^k)=((z*2^k:Nat):Int):=by simp
 rw[e]at h⊢
 have hn:n<2^k:=by exact_mod_cast hk
 rw[zaE hx ⟨by omega,by omega⟩,eF,eF,Nat.or_comm,fC,<-eQ hn]
 omega
theorem four{a b c d:Int}(ha:0<=a/\a<256)(hb:0<=b/\b<256)(hc:0<=c/\c<256)(hd:0<=d/\d<256):ior .u32 (ior .u32 (ior .u32 (wrap .u32 a) (ishl .u32 (wrap .u32 b) 8)) (ishl .u32 (wrap .u32 c) 16)) (ishl .u32 (wrap .u32 d) 24)=a+b*2^8+c*2^16+d*2^24:=by
 have w: ∀{x:Int},0<=x/\x<256->wrap .u32 x=x:=λhx=>by rw[wrap_u32];omega
 have s8: ∀{x:Int},0<=x/\x<256->ishl .u32 x 8=x*2^8:=fun{x} hx=>by show wrap .u32 (x*2^8)=_;rw[wrap_u32];omega
 have s16: ∀{x:Int},0<=x/\x<256->ishl .u32 x 16=x*2^16:=fun{x} hx=>by show wrap .u32 (x*2^16)=_;rw[wrap_u32];omega
 have s24: ∀{x:Int},0<=x/\x<256->ishl .u32 x 24=x*2^24:=fun{x} hx=>by show wrap .u32 (x*2^24)=_;rw[wrap_u32];omega
 rw[w ha,w hb,w hc,w hd,s8 hb,s16 hc,s24 hd]
 rw[xi ⟨by omega,by omega⟩ ⟨by omega,by omega⟩ 8 (by omega) (by omega),xi ⟨by omega,by omega⟩ ⟨by omega,by omega⟩ 16 (by omega) (by omega),xi ⟨by omega,by omega⟩ ⟨by omega,by omega⟩ 24 (by omega) (by omega)]
theorem xJ{a b c d:Int}(ha:0<=a/\a<256)(hb:0<=b/\b<256)(hc:0<=c/\c<256)(hd:0<=d/\d<256)(k:Nat)(hk:k<4):dig (a+b*2^8+c*2^16+d*2^24) k=if k=0 then a else if k=1 then b else if k=2 then c else d:=by
 have hk:k=0\/k=1\/k=2\/k=3:=by omega
 rcases hk with rfl|rfl|rfl|rfl<;>simp [dig]<;>omega
theorem Zae{P:Nat}{m:List Int}(h:Q0x P m)(f:Int):Q4u m f=decide (0<=f/\f<P):=by
 have hp:=Q3c h
 simp only[Q4u,Q7q,Tree.m,letv,hp]
 by_cases h1:0<=f
 . rw[dY h1];simp [h1]
 . rw[dN h1];simp [h1]
theorem zJ(s:List UInt8)(a b k:Nat)(h:k<b):(dC b (dD a s)).getD k 0=s.getD (a+k) 0:=by
 simp [cP,aU,h]
theorem u8I(x:UInt8):0<=(x.toNat:Int)/\(x.toNat:Int)<256:=by have:=x.toNat_lt;omega
theorem Z1b{P:Nat}{m:List Int}(h:Q0x P m){f:Int}(f0:0<=f)(f1:f<P){s:List UInt8}(hs:s.length=128):(Q3a m f s).w (λr=>r.2=true/\Q0x P r.1/\ ∀b:Nat,byt r.1 b=if f*128<=b/\(b:Int)<f*128+128 then((s.getD (b-f*128).toNat 0).toNat:Int) else byt m b):=by
  have hcl:Q03 m=m:=rfl
  have h2:=h.p2
  unfold Q3a
  refine w_an (Q9c h) (w_lv λx0 hx0=>w_lv λx1 hx1=> ?_)
  rw[hcl]at hx0;subst hx0
  rw[Zae h,dY ⟨f0,f1⟩]at hx1
  subst hx1
  refine w_br (λhb=>by cases hb) λ_=>w_br (λhb=>by simp [hs]at hb) λ_=> ?_
  refine w_lp (inv:=λz:Int×List Int=>0<=z.1/\z.1<=32/\Q0x P z.2/\ ∀b:Nat,byt z.2 b=if f*128<=b/\(b:Int)<f*128+4*z.1 then((s.getD (b-f*128).toNat 0).toNat:Int) else byt x0 b) (μ:=Qa6 x0 f s) ⟨show(0:Int)<=0 by decide,show(0:Int)<=32 by decide,h,λb=>by rw[if_neg];show¬(_/\_<_+4*(0:Int));omega⟩ (cO _) λz ⟨z1,z2,z3,z4⟩=> ?_
  refine w_br (λhb=> ?_) (λhb=>⟨rfl,z3,λb=> ?_⟩)
  . have hb:=oY hb
    have e1:i64.wrap (4*z.1)=4*z.1:=by rw[wrap_i64];omega
    have e2:i64.wrap (i64.wrap (4*z.1)+4)=4*z.1+4:=by rw[wrap_i64,wrap_i64];omega
    have e3:i64.wrap (i64.wrap (f*32)+z.1)=f*32+z.1:=by rw[wrap_i64,wrap_i64];omega
    have hl:=z3.len
    have cut:dG (i64.wrap (i64.wrap (4*z.1)+4))-dG (i64.wrap (4*z.1))=4:=by rw[e2,e1];omega
    have hlen:(dC (dG (i64.wrap (i64.wrap (4*z.1)+4))-dG (i64.wrap (4*z.1))) (dD (dG (i64.wrap (4*z.1))) s)).length=4:=by
      rw[cut,e1,bD,bF];omega
    refine w_cn (dY (by rw[e2,e1];omega)) ?_
    refine w_cn (dY (by rw[hlen];decide)) (w_cn (dY (by rw[hlen];decide)) (w_cn (dY (by rw[hlen];decide)) (w_cn (dY (by rw[hlen];decide)) (w_cn (by rw[e3];simp [bT];omega) (w_nx ?_)))))
    have ew:i64.wrap (z.1+1)=z.1+1:=by rw[wrap_i64];omega
    rw[cut]
    refine⟨⟨by show 0<=i64.wrap (z.1+1);rw[ew];omega,by show i64.wrap (z.1+1)<=32;rw[ew];omega,?_,?_⟩,by show(32-i64.wrap (z.1+1)).toNat<(32-z.1).toNat;rw[ew];omega⟩
    . show Q0x P (dH _ _ _)
      exact⟨by rw[dI];exact hl,z3.p1,z3.p2,Qzd z3.u (U_or _ _) _⟩
    . intro b
      show byt (dH z.2 (dG (i64.wrap (i64.wrap (f*32)+z.1))) _) b=if f*128<=(b:Int)/\(b:Int)<f*128+4*i64.wrap (z.1+1) then _ else _
      rw[e3,ew,four (u8I _) (u8I _) (u8I _) (u8I _),Zj2 (by omega)]
      have g: ∀k:Nat,k<4->(dC 4 (dD (dG (i64.wrap (4*z.1))) s)).getD k 0=s.getD ((4*z.1).toNat+k) 0:=λk hk=>by rw[e1];exact zJ _ _ _ _ hk
      by_cases hc:b/4=(f*32+z.1).toNat
      . have hin:f*128<=(b:Int)/\(b:Int)<f*128+4*(z.1+1):=by omega
        rw[if_pos hc,xJ (u8I _) (u8I _) (u8I _) (u8I _) _ (by omega),if_pos hin]
        have hb4:b%4=0\/b%4=1\/b%4=2\/b%4=3:=by omega
        have gi:(b-f*128).toNat=(4*z.1).toNat+b%4:=by omega
        rw[gi]
        rcases hb4 with h4|h4|h4|h4<;>rw[h4]
        . rw[if_pos rfl,<-g 0 (by omega)];rfl
        . rw[if_neg (by decide),if_pos rfl,<-g 1 (by omega)];rfl
        . rw[if_neg (by decide),if_neg (by decide),if_pos rfl,<-g 2 (by omega)];rfl
        . rw[if_neg (by decide),if_neg (by decide),if_neg (by decide),<-g 3 (by omega)];rfl
      . rw[if_neg hc,z4 b]
        by_cases hd:f*128<=(b:Int)/\(b:Int)<f*128+4*z.1
        . rw[if_pos hd,if_pos (by omega)]
        . rw[if_neg hd,if_neg (by omega)]
  . have hb:=oN hb
    show byt z.2 b=_
    rw[z4 b,show z.1=32 by omega]
    rfl
theorem Zaw{α:Type}(l l2:List α)(k:Nat)(z:α):(l++l2).getD k z=if k<l.length then l.getD k z else l2.getD (k-l.length) z:=by
 simp only[cP,List.getElem?_append]
 split<;>rfl
theorem u8w{x:Int}:wrap .u8 x=x%256:=wrap_u8 x
theorem shr_c(W:Int):ishr .u32 W 8=W/256/\ishr .u32 W 16=W/65536/\ishr .u32 W 24=W/16777216:=by
 refine⟨?_,?_,?_⟩
 . show eN W 256=_;rw[dQ _ (by decide)]
 . show eN W 65536=_;rw[dQ _ (by decide)]
 . show eN W 16777216=_;rw[dQ _ (by decide)]
theorem b4d(W:Int){k:Nat}(hk:k<4):[wrap .u8 W,wrap .u8 (ishr .u32 W 8),wrap .u8 (ishr .u32 W 16),wrap .u8 (ishr .u32 W 24)].getD k 0=dig W k:=by
 obtain⟨a,b,c⟩:=shr_c W
 have hk:k=0\/k=1\/k=2\/k=3:=by omega
 rcases hk with rfl|rfl|rfl|rfl<;>simp [dig,a,b,c,u8w]
theorem Qp1(l:List Int)(k:Nat)(h:0<=l.getD k 0/\l.getD k 0<256)(hk:k<l.length):(((bytesOf l).getD k 0).toNat:Int)=l.getD k 0:=by
 have e:(bytesOf l).getD k 0=fD (l.getD k 0).toNat:=by
   simp [bytesOf,cP,hk]
 rw[e,UInt8.toNat_ofNat']
 omega
theorem Zhc(l:List UInt8)(k:Nat)(hk:k<l.length):(Q1f l).getD k 0=((l.getD k 0).toNat:Int):=by
 simp [Q1f,cP,hk]
theorem xaE(w:List Int)(h:w.length<=32):(Q4p w).w (λr=>r.length=4*w.length/\ ∀k:Nat,k<4*w.length->((r.getD k 0).toNat:Int)=dig (w.getD (k/4) 0) (k%4)):=by
 have e0:i64.wrap (4*(w.length:Int))=4*w.length:=by rw[wrap_i64];omega
 unfold Q4p
 refine w_cn (by rw[e0];simp [bT,D.plain];omega) ?_
 refine w_lp (inv:=λz:Int×List Int=>0<=z.1/\z.1<=w.length/\(z.2.length:Int)=4*z.1/\ ∀k:Nat,(k:Int)<4*z.1->z.2.getD k 0=dig (w.getD (k/4) 0) (k%4)) (μ:=Q6t w) ⟨by decide,by show(0:Int)<=w.length;omega,rfl,λk hk=>by have hk:(k:Int)<4*0:=hk;omega⟩ (cO _) λz ⟨z1,z2,z3,z4⟩=> ?_
 refine w_br (λhb=> ?_) (λhb=> ?_)
 . have hb:=oY hb
   have ew:i64.wrap (z.1+1)=z.1+1:=by rw[wrap_i64];omega
   refine w_cn (by simp [bT];omega) (w_cn (dY (by omega)) (w_nx ?_))
   show(_/\_/\_/\ ∀k:Nat,(k:Int)<4*i64.wrap (z.1+1)->(z.2++_).getD k 0=_)/\(_:Nat)<_
   refine⟨⟨by rw[ew];omega,by rw[ew];omega,by rw[ew,lA];simp only[dJ,dK];omega,λk hk=> ?_⟩,by show(w.length-i64.wrap (z.1+1)).toNat<(w.length-z.1).toNat;rw[ew];omega⟩
   rw[ew]at hk
   rw[Zaw]
   split
   . exact z4 k (by omega)
   . rename_i hn
     rw[b4d _ (by omega),show z.1.toNat=k/4 by omega,show k-z.2.length=k%4 by omega]
 . have hb:=oN hb
   show(bytesOf z.2).length=_/\ ∀k:Nat,_->(((bytesOf z.2).getD k 0).toNat:Int)=_
   refine⟨by rw[Qib];omega,λk hk=> ?_⟩
   have e:=z4 k (by omega)
   have:=vh (w.getD (k/4) 0) (k%4)
   rw[Qp1 _ _ (by rw[e];exact this) (by omega),e]
def isPg(m:List Int)(f:Int)(r:List UInt8):Prop:=r.length=128/\ ∀k:Nat,k<128->((r.getD k 0).toNat:Int)=byt m ((f*128).toNat+k)
theorem qaF{m:List Int}{f:Int}{r s:List UInt8}(a:isPg m f r)(b:isPg m f s):r=s:=by
 obtain⟨a1,a2⟩:=a
 obtain⟨b1,b2⟩:=b
 refine bM (by omega) λi h1 h2=> ?_
 have e:=(a2 i (by omega)).trans (b2 i (by omega)).symm
 have e1:r[i]=r.getD i 0:=by simp [aK,h1]
 have e2:s[i]=s.getD i 0:=by simp [aK,h2]
 rw[e1,e2]
 exact UInt8.toNat_inj.1 (by omega)
theorem vi{P:Nat}{m:List Int}(h:Q0x P m){f:Int}(f0:0<=f)(f1:f<P):(Q60 m f).w (λr=>isPg m f r.1/\r.2=true):=by
 have hl:=h.len
 have h2:=h.p2
 unfold Q60
 refine w_lv λx0 hx0=> ?_
 rw[Zae h,dY ⟨f0,f1⟩]at hx0
 subst hx0
 refine w_br (λhb=>by cases hb) (λhb=> ?_)
 have e1:i64.wrap (f*32)=f*32:=by rw[wrap_i64];omega
 have e2:i64.wrap (i64.wrap (f*32)+32)=f*32+32:=by rw[wrap_i64,wrap_i64];omega
 have cut:dG (i64.wrap (i64.wrap (f*32)+32))-dG (i64.wrap (f*32))=32:=by rw[e2,e1];omega
 have hlen:(dC 32 (dD (dG (i64.wrap (f*32))) m)).length=32:=by
   rw[e1,bD,bF];omega
 refine w_cn (by rw[e2,e1];simp [bT];omega) ?_
 rw[cut]
 refine w_an (by show dL _<=1000000000000;rw[hlen];decide) (w_lv λx1 h1=> ?_)
 have t:=(Tree.pp (xaE _ (dM hlen))).2
 rw[hlen,show(Q4p (dC 32 (dD (dG (i64.wrap (f*32))) m))).m=x1 from h1.symm]at t
 refine⟨⟨t.1,λk hk=> ?_⟩,rfl⟩
 show((x1.getD k 0).toNat:Int)=_
 rw[t.2 k hk,byt,e1]
 have g:(dC 32 (dD (dG (f*32)) m)).getD (k/4) 0=m.getD ((f*32).toNat+k/4) 0:=by
   simp [cP,aU,show k/4<32 by omega]
 rw[g,show((f*128).toNat+k)/4=(f*32).toNat+k/4 by omega,show((f*128).toNat+k)%4=k%4 by omega]
theorem zaF(x:Int):Z90 x 4=bytesOf [wrap .u8 (ishr .u32 x 0),wrap .u8 (ishr .u32 x 8),wrap .u8 (ishr .u32 x 16),wrap .u8 (ishr .u32 x 24)]:=by kernel_rfl
theorem xak{P:Nat}{m:List Int}(hm:Q0x P m){frame:Int}(f0:0<=frame)(f1:frame<P):(Q8r m frame).w (λr=>isPg m frame r.1/\r.2=true):=by
 have hp:=Qdz hm
 have hl:=hm.len
 have h2:=hm.p2
 unfold Q8r
 refine w_br (λh=>by have:=oY h;omega) (λh=>w_lv λx0 hx=>w_br (λh1=>by have:=oY h1;rw[hx,hp]at this;omega) (λh1=> ?_))
 refine w_lp (inv:=λz:Int×List Int=>0<=z.1/\z.1<=32/\(z.2.length:Int)=4*z.1/\ ∀k:Nat,(k:Int)<4*z.1->z.2.getD k 0=byt m ((frame*128).toNat+k)) (μ:=Qik m frame) ⟨by decide,by decide,rfl,λk hk=>by have hk:(k:Int)<4*0:=hk;omega⟩ (cO _) (λz hz=> ?_)
 obtain⟨z1,z2,z3,z4⟩:=hz
 refine w_br (λhb=> ?_) (λhb=> ?_)
 . have hb:=oY hb
   have e:wrap i64 (wrap i64 (frame*32)+z.1)=frame*32+z.1:=by rw[wrap_i64,wrap_i64];omega
   refine w_cn (by rw[e];simp [bT];omega) (w_an (show(4:Int)<=1000000000000 by decide) (w_lv λx1 h4=> ?_))
   rw[zaF,shr0,e]at h4
   have l4:x1.length=4:=by rw[h4];rfl
   refine w_cn (dY (by rw[Qq4,l4];omega)) (w_nx ?_)
   show(0<=i64.wrap (z.1+1)/\i64.wrap (z.1+1)<=32/\((z.2++Q1f x1).length:Int)=4*i64.wrap (z.1+1)/\ ∀k:Nat,(k:Int)<4*i64.wrap (z.1+1)->(z.2++Q1f x1).getD k 0=_)/\(32-i64.wrap (z.1+1)).toNat<(32-z.1).toNat
   have ew:i64.wrap (z.1+1)=z.1+1:=by rw[wrap_i64];omega
   rw[ew]
   refine⟨⟨by omega,by omega,by rw[lA,Qq4,l4];omega,λk hk=> ?_⟩,by omega⟩
   rw[Zaw]
   split
   . exact z4 k (by omega)
   . rename_i hn
     have hk4:k-z.2.length<4:=by omega
     rw[Zhc _ _ (by omega),h4]
     have d:=b4d (m.getD (frame*32+z.1).toNat 0) hk4
     rw[Qp1 _ _ (by rw[d];exact vh _ _) (by simpa using hk4),d,byt]
     rw[show((frame*128).toNat+k)/4=(frame*32+z.1).toNat by omega,show((frame*128).toNat+k)%4=k-z.2.length by omega]
 . have hb:=oN hb
   refine⟨⟨?_,λk hk=> ?_⟩,rfl⟩
   . show(bytesOf z.2).length=128
     rw[Qib];omega
   . show(((bytesOf z.2).getD k 0).toNat:Int)=_
     have e:=z4 k (by omega)
     rw[Qp1 _ _ (by rw[e];exact vh _ _) (by omega),e]
theorem Zcl{P:Nat}{m:List Int}(h:Q0x P m)(f:Int):Q56 m f=Qig m f:=by
 by_cases hf:0<=f/\f<P
 . have a:=(Tree.pp (vi h hf.1 hf.2)).2
   have b:=(Tree.pp (xak h hf.1 hf.2)).2
   exact fE (qaF a.1 b.1) (a.2.trans b.2.symm)
 . have hp:=Qdz h
   have e1:Q56 m f=([],false):=by
     simp only[Q56,Q60,Tree.m,letv,Zae h,dN hf];rfl
   have e2:Qig m f=([],false):=by
     simp only[Qig,Q8r,Tree.m,letv,hp]
     by_cases h0:f<0
     . rw[dY h0];rfl
     . rw[dN h0,dY (show f>=P by omega)];rfl
   rw[e1,e2]
section
variable {P:Nat} {m:List Int} (h:Q0x P m)
include h
theorem Zdf{f:Int}(f0:0<=f)(f1:f<P){s:List UInt8}(hs:s.length=128):Q2m m f s=(Qkw m f s,true):=by
 have a:=(Tree.pp (Z1b h f0 f1 hs)).2
 have b:=(Tree.pp (vW h f0 f1 s)).2
 refine fE (Zjc (a.2.1.len.trans b.1.len.symm) a.2.1.u b.1.u λk=> ?_) a.1
 have e:((min s.length 128:Nat):Int)=128:=by rw[hs];rfl
 have b2:=b.2 k
 have a2:=a.2.2 k
 rw[e]at b2
 exact a2.trans b2.symm
theorem Zga{f:Int}(f0:0<=f)(f1:f<P){s r:List UInt8}(hs:s.length<=128)(hr:isPg m f r):Q2m m f (s++r.drop s.length)=(Qkw m f s,true):=by
  have hl:(s++r.drop s.length).length=128:=by have:=hr.1;simp;omega
  have a:=(Tree.pp (Z1b h f0 f1 hl)).2
  have b:=(Tree.pp (vW h f0 f1 s)).2
  refine fE (Zjc (a.2.1.len.trans b.1.len.symm) a.2.1.u b.1.u λk=> ?_) a.1
  have b2:=b.2 k
  have a2:=a.2.2 k
  refine a2.trans (Eq.trans ?_ b2.symm)
  by_cases hc:f*128<=(k:Int)/\(k:Int)<f*128+128
  . rw [if_pos hc,Zaw]
    by_cases hd:(k-f*128).toNat<s.length
    . rw[if_pos hd,if_pos (by omega)]
    . rw[if_neg hd,if_neg (by omega)]
      have e:(r.drop s.length).getD ((k-f*128).toNat-s.length) 0=r.getD (k-f*128).toNat 0:=by
        simp [cP,show s.length+((k-f*128).toNat-s.length)=(k-f*128).toNat by omega]
      rw[e,hr.2 _ (by omega),show(f*128).toNat+(k-f*128).toNat=k by omega]
  . rw[if_neg hc,if_neg (by omega)]
theorem Qgn{a:Int}(ha:U a){size:Int}(hs:size=1\/size=4):Q2 m a size=decide (a%size=0/\a<128*P):=by
 have hq:=Qdz h
 have h2:=h.p2
 have a0:=ha.1
 have e:wrap u32 size=size:=by rcases hs with rfl|rfl<;>decide
 have e0:decide (wrap u32 size≠0)=true:=by rcases hs with rfl|rfl<;>decide
 have t:dF a (wrap u32 size)=a%size:=by rw[e,eH a0]
 have l: ∀x,x=Q3o m->a%size=0->decide (a<wrap u32 (wrap i64 (128*x)))=decide (a%size=0/\a<128*P):=λx hx hz=>by
   rw[hx,hq,wrap_u32,wrap_i64]
   exact decide_eq_decide.2 ⟨λh=>⟨hz,by omega⟩,λh=>by omega⟩
 refine Tree.post (Q7l m a size) (W:=λb=>b=decide (a%size=0/\a<128*P)) ?_
 unfold Q7l
 refine w_br (λh1=>w_br (λh4=> ?_) (λ_=> ?_)) (λ_=> ?_)
 . have h1: ¬size=1:=by simpa using h1
   have h4: ¬size=4:=by simpa using h4
   omega
 all_goals
   refine w_cn e0 (w_br (λhb=>w_lv λx hx=>l x hx ?_) (λhb=> ?_))
   . rw[t]at hb;exact eq_of_beq hb
   . rw[t]at hb
     exact(dN (λh=>by rw[h.1]at hb;cases hb)).symm
theorem Z2o{a:Int}(ha:U a){size:Int}(hs:size=1\/size=4):Qg m a size=Q2 m a size:=by
 rw[Qgn h ha hs]
 have hq:=Z3y h
 have h2:=h.p2
 have a0:=ha.1
 have a1:=ha.2
 have e:wrap u32 size=size:=by rcases hs with rfl|rfl<;>decide
 have e0:decide (wrap u32 size≠0)=true:=by rcases hs with rfl|rfl<;>decide
 have t:dF a (wrap u32 size)=a%size:=by rw[e,eH a0]
 have l: ∀x,x=Q0q m->a%size=0->decide (wrap u64 (wrap u64 a+wrap u64 size)<=wrap u64 (wrap u64 x*128))=decide (a%size=0/\a<128*P):=λx hx hz=>by
   rw[hx,hq]
   simp only[wrap_u64]
   refine decide_eq_decide.2 ⟨λh=>⟨hz,?_⟩,λh=> ?_⟩<;>rcases hs with rfl|rfl<;>omega
 refine Tree.post (Q2w m a size) (W:=λb=>b=decide (a%size=0/\a<128*P)) ?_
 unfold Q2w
 refine w_br (λh1=>w_br (λh4=> ?_) (λ_=> ?_)) (λ_=> ?_)
 . have h1: ¬size=1:=by simpa using h1
   have h4: ¬size=4:=by simpa using h4
   omega
 all_goals
   refine w_cn e0 (w_br (λhb=> ?_) (λhb=>w_lv λx hx=>l x hx ?_))
   . rw[t]at hb
     exact(dN (λh=>by rw[h.1]at hb;cases hb)).symm
   . rw[t]at hb;simpa using hb
end
theorem fldj(w:Int):Q2q w 0 8=iand .u32 (ishr .u32 w 0) 255/\Q2q w 8 8=iand .u32 (ishr .u32 w 8) 255/\Q2q w 16 8=iand .u32 (ishr .u32 w 16) 255/\Q2q w 24 8=iand .u32 (ishr .u32 w 24) 255:=
 ⟨by kernel_rfl,by kernel_rfl,by kernel_rfl,by kernel_rfl⟩
theorem setj(w v:Int):Q7d w 0 8 v=putW w v 0/\Q7d w 8 8 v=putW w v 8/\Q7d w 16 8 v=putW w v 16/\Q7d w 24 8 v=putW w v 24:=
 ⟨by kernel_rfl,by kernel_rfl,by kernel_rfl,by kernel_rfl⟩
theorem qj{a:Int}(ha:U a):wrap .i64 (wrap .i64 (dF a 4)*8)=8*(a%4)/\wrap .u32 (8*dF a 4)=8*(a%4):=by
 obtain⟨a0,a1⟩:=ha
 rw[eH a0]
 exact⟨by rw[wrap_i64,wrap_i64];omega,by rw[wrap_u32];omega⟩
section
variable {P:Nat} {m:List Int} (h:Q0x P m)
include h
theorem Qod{a:Int}(ha:U a){size:Int}(hs:size=1\/size=4):Q4g m a size=Q1 m a size:=by
 have e:=Z2o h ha hs
 obtain⟨s1,s2⟩:=qj ha
 have f:Q2q (m.getD (dG (wrap .u32 (eZ a 4))) 0) (8*(a%4)) 8=iand .u32 (ishr .u32 (m.getD (dG (wrap .u32 (eZ a 4))) 0) (8*(a%4))) 255:=by
   obtain⟨f0,f1,f2,f3⟩:=fldj (m.getD (dG (wrap .u32 (eZ a 4))) 0)
   have:a%4=0\/a%4=1\/a%4=2\/a%4=3:=by omega
   rcases this with h|h|h|h<;>rw[h]
   . exact f0
   . exact f1
   . exact f2
   . exact f3
 simp only[Q4g,Q5x,Q1,Q3d,Tree.m,letv,e,s1,s2,f]
omit h in
theorem Zat(a size:Int):(Q1 m a size).2=Q2 m a size:=by
 simp only[Q1,Q3d,Tree.m,letv]
 cases Q2 m a size
 . rfl
 . cases size==1<;>rfl
theorem Z7r{a:Int}(ha:U a){size:Int}(hs:size=1\/size=4)(v:Int):Q8o m a size v=bif Q2 m a size then(Q9h m a size v,true) else(m,false):=by
 have hcl:Q03 m=m:=rfl
 have e:=Z2o h ha hs
 obtain⟨s1,s2⟩:=qj ha
 have f: ∀w,Q7d w (8*(a%4)) 8 v=ior .u32 (Qg7 .u32 w (ishl .u32 255 (8*(a%4)))) (ishl .u32 (iand .u32 v 255) (8*(a%4))):=λw=>by
   obtain⟨f0,f1,f2,f3⟩:=setj w v
   have:a%4=0\/a%4=1\/a%4=2\/a%4=3:=by omega
   rcases this with h|h|h|h<;>rw[h]
   . exact f0
   . exact f1
   . exact f2
   . exact f3
 simp only[Q8o,Q7z,Q9h,Qdv,Tree.m,letv,hcl,e,s1,s2,f]
 rcases hs with rfl|rfl<;>cases Q2 m a _<;>rfl
end
section
variable {P:Nat} {m:List Int} (h:Q0x P m)
include h
theorem xj{root va:Int}(hr:U root)(hv:U va){access:Int}(ha:access=1\/access=2\/access=3):Qin m root va access=Q62 m root va access:=by
 have hp:=Qdz h
 have h2:=h.p2
 have hlen:=h.len
 obtain⟨r1,r2⟩:=hr
 obtain⟨v1,v2⟩:=hv
 have hpg: ∀{f:Int},U f->Qa0 m f=decide (f<P):=λhf=>yS h hf
 have eP:wrap .u32 (P:Int)=P:=by rw[wrap_u32];omega
 have kn:Qds access=true:=by rcases ha with rfl|rfl|rfl<;>rfl
 have ca:Qjx access=(Q1w access,true):=by rcases ha with rfl|rfl|rfl<;>rfl
 simp only[Qin,Q9y,Q62,Q99,Tree.m,letv,hp,eP,kn,ca,hpg ⟨r1,r2⟩]
 by_cases c1:va>=4096
 . rw[dY c1];rfl
 by_cases c2:root<P
 . have eE:wrap u32 (wrap u32 (root*128)+wrap u32 (4*wrap u32 (eZ va 128)))=root*128+4*(va/128):=by
     rw[fA v1,wrap_u32,wrap_u32,wrap_u32,wrap_u32];omega
   have hE:U (root*128+4*(va/128)):=⟨by omega,by omega⟩
   have wi:Q2 m (root*128+4*(va/128)) 4=true:=by
     rw[Qgn h hE (.inr rfl)];exact dY ⟨by omega,by omega⟩
   rw[dN c1,dY c2,dN (show¬root>=P by omega),eE,Qod h hE (.inr rfl),Zat,wi]
   have ld:(Q1 m (root*128+4*(va/128)) 4).1=m.getD (dG (wrap .u32 (eZ (root*128+4*(va/128)) 4))) 0:=by
     simp only[Q1,Q3d,Tree.m,letv,wi];rfl
   rw[ld]
   generalize m.getD (dG (wrap .u32 (eZ (root*128+4*(va/128)) 4))) 0=w
   have fo:Qe7 w=iand .u32 (ishr .u32 w 8) 255:=(fld w).2.2.2.2
   rw[fo,hpg (Qh5 _ _)]
   have hge:decide (iand .u32 (ishr .u32 w 8) 255>=(P:Int))=!decide (iand .u32 (ishr .u32 w 8) 255<(P:Int)):=by
     by_cases hq:iand .u32 (ishr .u32 w 8) 255<(P:Int)
     . rw[dY hq,dN (by omega)];rfl
     . rw[dN hq,dY (by omega)];rfl
   rw[hge]
   generalize decide (iand .u32 (ishr .u32 w 8) 255<(P:Int))=d
   rcases ha with rfl|rfl|rfl
   . show _=(bif iand .u32 w 1==0 then _ else bif iand .u32 w 4==0 then _ else bif !d then _ else _)
     have:Qai w 1=(bif iand .u32 w 1==0 then false else !(iand .u32 w 4==0)):=rfl
     rw[this]
     cases iand .u32 w 1==0<;>cases iand .u32 w 4==0<;>cases d<;>rfl
   . show _=(bif iand .u32 w 1==0 then _ else bif !d then _ else _)
     have:Qai w 2=(bif iand .u32 w 1==0 then false else true):=rfl
     rw[this]
     cases iand .u32 w 1==0<;>cases d<;>rfl
   . show _=(bif iand .u32 w 1==0 then _ else bif iand .u32 w 2==0 then _ else bif !d then _ else _)
     have:Qai w 3=(bif iand .u32 w 1==0 then false else !(iand .u32 w 2==0)):=rfl
     rw[this]
     cases iand .u32 w 1==0<;>cases iand .u32 w 2==0<;>cases d<;>rfl
 . rw[dN c1,dN c2,dY (show root>=P by omega)];rfl
theorem Zn6{a:Int}(ha:U a)(access:Int):Qbk m a access=Qp0 m a access:=by
 have hcl:Q03 m=m:=rfl
 have hl:=h.len
 have a0:=ha.1
 simp only[Qbk,Q7y,Qp0,Qde,Tree.m,letv,Qod h ha (.inr rfl),Zat,Z7r h ha (.inr rfl),hcl]
 cases hw:Q2 m a 4
 . rfl
 . rw[Qgn h ha (.inr rfl)]at hw
   have hw:=oY hw
   have wi:Q2 m a 4=true:=by rw[Qgn h ha (.inr rfl)];exact dY hw
   have ld:(Q1 m a 4).1=m.getD (dG (wrap .u32 (eZ a 4))) 0:=by
     simp only[Q1,Q3d,Tree.m,letv,wi];rfl
   have pu: ∀v,Q9h m a 4 v=m.set (dG (wrap .u32 (eZ a 4))) v:=λv=>rfl
   rw[ld,pu,pu]
   have hi:dG (wrap .u32 (eZ a 4))<m.length:=by
     rw[fA a0,wrap_u32];omega
   generalize dG (wrap .u32 (eZ a 4))=i at*
   rw[Quf hi,List.set_set]
   rfl
end
theorem Qoz{c:Q02}(h0:0<=c.B4.a0)(h:c.B4.a0<=31)(k b:Int):Q47 c k b=Q2l c k b:=by
 have e:=eq_of_beq (Qta (λs=>Qg7 .u32 (ior .u32 (Q8i (Q8i s 1 8) 2 16) 1) 2==ior .u32 (Qg7 .u32 (ior .u32 (ior .u32 (Qg7 .u32 s 24) (wrap .u32 (8*Qam (iand .u32 s 1 !=0)))) (wrap .u32 (16*Qam (iand .u32 s 2 !=0)))) 2) 1) 32 (by kernel_rfl) h0 (by omega))
 simp only[Q47,Ql1,Q2l,Qhh,Tree.m,letv,e]
theorem Zhq{c:Q02}(h0:0<=c.B4.a0)(h:c.B4.a0<=31):Qdi c=Qic c:=by
 have e:=eq_of_beq (Qta (λs=>Q8i (Q8i s 8 1) 16 2==ior .u32 (ior .u32 (Qg7 .u32 s 3) (wrap .u32 (1*Qam (iand .u32 s 8 !=0)))) (wrap .u32 (2*Qam (iand .u32 s 16 !=0)))) 32 (by kernel_rfl) h0 (by omega))
 simp only[Qdi,Qf4,Qic,Qcm,Tree.m,letv,e]
theorem Z6c{c:Q02}(h0:0<=c.B4.a0)(h:c.B4.a0<=31):Qkc c=(!Q9p c&&(iand .u32 c.B4.a0 4 !=0)):=
 eq_of_beq (Qta (λs=>(iand .u32 s 5==4)==(!(iand .u32 s 1 !=0)&&(iand .u32 s 4 !=0))) 32 (by kernel_rfl) h0 (by omega))
theorem Qzz(c:Q02){r:Int}(hr:0<=r/\r<16)(v:Int):Qa7 c r v=Q1q c r v:=by
 simp only[Qa7,Qcy,Q1q,Qdu,Tree.m]
 by_cases h:r=0
 . subst h;rfl
 . rw[dY (show r>0 by omega),dY hr.2,show(r !=0)=true by simpa using h];rfl
theorem yJ{a b:Int}(ha:U a)(hb:U b):Qaz a b=Qb8 a b:=by
  obtain⟨a0,a1⟩:=ha
  obtain⟨b0,b1⟩:=hb
  have i: ∀x,wrap .i64 (wrap .i32 x)=wrap .i32 x:=λx=>by rw[wrap_i64,wrap_i32];omega
  have r32: ∀x,-2147483648<=wrap .i32 x/\wrap .i32 x<2147483648:=λx=>by rw[wrap_i32];omega
  have q32: ∀x y:Int,-2147483648<=x/\x<2147483648-> -2147483648<=eZ x y/\eZ x y<=2147483648:=λx y hx=>by
    have h1:(eZ x y).natAbs<=x.natAbs:=by rw[Int.natAbs_tdiv];exact Nat.div_le_self _ _
    omega
  simp only[Qaz,Q9s,Qb8,Q9x,Tree.m,i]
  cases hb:b==0
  . have w: ∀z,wrap .u32 (wrap .i32 z)=wrap .u32 z:=λz=>by rw[wrap_i32,wrap_u32,wrap_u32];omega
    have w2:wrap .i64 (eZ (wrap .i32 a) (wrap .i32 b))=eZ (wrap .i32 a) (wrap .i32 b):=by
      have:=q32 _ (wrap .i32 b) (r32 a)
      rw[wrap_i64];omega
    rw[w,w2]
    cases h1:a==2147483648
    . rfl
    . cases h2:b==4294967295
      . rfl
      . have h1:=eq_of_beq h1
        have h2:=eq_of_beq h2
        subst h1;subst h2
        rfl
  . rfl
theorem vJ{op a b:Int}(h0:1<=op)(h1:op<=23)(ha:U a)(hb:U b):Q42 op a b=Qcr op a b:=by
 have sub:wrap .u32 (a+wrap .u32 (0-b))=wrap .u32 (a-b):=by
   rw[wrap_u32,wrap_u32,wrap_u32];omega
 have hop:op=1\/op=2\/op=3\/op=4\/op=5\/op=6\/op=7\/op=8\/op=9\/op=10\/op=11\/op=12\/op=13\/op=14\/op=15\/op=16\/op=17\/op=18\/op=19\/op=20\/op=21\/op=22\/op=23:=by omega
 have d:=yJ ha hb
 rcases hop with rfl|rfl|rfl|rfl|rfl|rfl|rfl|rfl|rfl|rfl|rfl|rfl|rfl|rfl|rfl|rfl|rfl|rfl|rfl|rfl|rfl|rfl|rfl
 . rfl
 . show(wrap .u32 (a+wrap .u32 (0-b)),true)=(wrap .u32 (a-b),true)
   rw[sub]
 . rfl
 . rfl
 . rfl
 . rfl
 . rfl
 . rfl
 . rfl
 . show((Qaz a b).1,true)=((Qb8 a b).1,true)
   rw[d]
 . show((Qaz a b).2,true)=((Qb8 a b).2,true)
   rw[d]
 all_goals rfl
theorem Qoc{P:Nat}{m:List Int}(h:Q0x P m){c:Q02}(hc:Q29 c)(hst:c.B4.a0<=31){va:Int}(hv:U va){size:Int}(hs:size=1\/size=4){access:Int}(ha:access=1\/access=2\/access=3):Q1z c m va size access=((Q0y c m va size access).1,(Q0y c m va size access).2.2,(Q0y c m va size access).2.1):=by
 have hcl:Q03 m=m:=rfl
 have kn:Qds access=true:=by rcases ha with rfl|rfl|rfl<;>rfl
 have ca:Qs8 access=(Q1w access,true):=by rcases ha with rfl|rfl|rfl<;>rfl
 have pg:=Z6c hc.a0.1 hst
 have wk:=xj h hc.a6 hv ha
 have tc:Qbk m (Q62 m c.B4.a6 va access).F0 access=Qp0 m (Q62 m c.B4.a6 va access).F0 access:=Zn6 h (Tree.pp (v6 h hc.a6 hv access)).2.2.1 access
 have sz:(bif size !=1 then bif size !=4 then false else true else true)=true:=by rcases hs with rfl|rfl<;>rfl
 simp only[Q1z,Q5y,Q0y,Q74,Tree.m,letv,hcl,kn,ca,pg,wk,tc,Qod h hv hs,Zat]
 rcases hs with rfl|rfl<;>
 . show(bif _ then _ else _)=_
   cases dF va _ !=0<;>cases Q9p c<;>cases iand .u32 c.B4.a0 4 !=0<;>cases(Q62 m c.B4.a6 va access).E0 !=0<;>cases Q2 m va _<;>rfl
theorem Z0r{α:Type}{Q:α->Prop}{c:Bool}{x y:α}(hx:Q x)(hy:Q y):Q (cond c x y):=by cases c<;>assumption
theorem qal(m:List Int)(root:Int){va:Int}(hv:U va)(access:Int):(Q62 m root va access).E0=0->(Q62 m root va access).Addr%4=va%4:=by
 have hc:Q1w access≠0:=by
   simp only[Q1w,Q85,Tree.m]
   cases access==1<;>cases access==3<;>simp
 have q :(λt:Q0z=>t.E0=0->t.Addr%4=va%4) (Q62 m root va access):=by
   simp only[Q62,Q99,Tree.m,letv]
   repeat'(first
     |exact λe=>absurd e hc
     | (intro _
        show wrap .u32 (wrap .u32 (_*128)+dF va 128)%4=va%4
        rw[eH hv.1,wrap_u32,wrap_u32];omega)
     |refine Z0r (Q:=λt:Q0z=>t.E0=0->t.Addr%4=va%4) ?_ ?_)
 exact q
theorem qK{c:Q02}{m:List Int}{va:Int}(hv:U va){size:Int}(hs:size=1\/size=4){access:Int}(ha:access=1\/access=2\/access=3):(Q0y c m va size access).2.1=0->(Q0y c m va size access).1%size=0:=by
  have kn:Qds access=true:=by rcases ha with rfl|rfl|rfl<;>rfl
  have hc:Q1w access≠0:=by
    simp only[Q1w,Q85,Tree.m]
    cases access==1<;>cases access==3<;>simp
  rcases hs with rfl|rfl
  . intro _;omega
  simp only[Q0y,Q74,Tree.m,letv,kn]
  show(bif dF va 4 !=0 then((0:Int),(3:Int),m) else _).2.1=0->(bif dF va 4 !=0 then((0:Int),(3:Int),m) else _).1%4=0
  rw[eH hv.1]
  cases hz:va%4 !=0
  . have hz:va%4=0:=by simpa using hz
    have w:=qal m c.B4.a6 hv access
    cases hp:Qkc c
    . cases hw:Q2 m va 4
      . exact λe=>absurd e hc
      . exact λ_=>hz
    . cases hq:(Q62 m c.B4.a6 va access).E0 !=0
      . have hq:(Q62 m c.B4.a6 va access).E0=0:=by simpa using hq
        exact λ_=>(w hq).trans hz
      . have hq: ¬(Q62 m c.B4.a6 va access).E0=0:=by simpa using hq
        exact λe=>absurd e hq
  . intro e;cases e
def eff0:Q0w:={C3:=0,C7:=0,D7:=0,Value:=0}
def Q53(c:Q02)(m:List Int)(i:Q0h):Q02×List Int×Q0w:=
 bif i.Op==32 then((Q5n c m i).1,(Q5n c m i).2,eff0) else bif i.Op==33 then((Q5n c m i).1,(Q5n c m i).2,eff0) else bif i.Op==34 then((Q5n c m i).1,(Q5n c m i).2,eff0)
 else bif i.Op==35 then((Q7r c m i).1,(Q7r c m i).2,eff0) else bif i.Op==36 then((Q7r c m i).1,(Q7r c m i).2,eff0) else((Qm5 c i).1,m,(Qm5 c i).2)
def regX(c:Q02)(r:Int):Int:=aK (A16.l c.X) r.toNat 0
def Qiw(c:Q02)(m:List Int)(i:Q0h):Q02×Q0w×List Int:=
 bif decide (i.Op>=56) then((Qhj c i).1,(Qhj c i).2,m) else bif decide (i.Op>=40) then(Z2 c i,eff0,m) else bif decide (i.Op>=32) then((Q4l c m i).1,eff0,(Q4l c m i).2)
 else bif i.Op==24 then({X:=(Q1q c i.A (ishl .u32 (wrap .u32 i.Imm) 16)).X,Pc:=wrap .u32 ((Q1q c i.A (ishl .u32 (wrap .u32 i.Imm) 16)).Pc+4),B4:=(Q1q c i.A (ishl .u32 (wrap .u32 i.Imm) 16)).B4},eff0,m)
 else bif decide (i.Op<=13) then
   ({X:=(Q1q c i.A (Qcr i.Op (regX c i.B) (regX c i.C)).1).X,Pc:=wrap .u32 ((Q1q c i.A (Qcr i.Op (regX c i.B) (regX c i.C)).1).Pc+4),B4:=(Q1q c i.A (Qcr i.Op (regX c i.B) (regX c i.C)).1).B4},eff0,m)
 else({X:=(Q1q c i.A (Qcr i.Op (regX c i.B) (wrap .u32 i.Imm)).1).X,Pc:=wrap .u32 ((Q1q c i.A (Qcr i.Op (regX c i.B) (wrap .u32 i.Imm)).1).Pc+4),B4:=(Q1q c i.A (Qcr i.Op (regX c i.B) (wrap .u32 i.Imm)).1).B4},eff0,m)
def isOp(op:Int):Prop:=op=1\/op=2\/op=3\/op=4\/op=5\/op=6\/op=7\/op=8\/op=9\/op=10\/op=11\/op=12\/op=13\/op=16\/op=17\/op=18\/op=19\/op=20\/op=21\/op=22\/op=23\/op=24\/op=32\/op=33\/op=34\/op=35\/op=36\/op=40\/op=41\/op=42\/op=43\/op=44\/op=45\/op=48\/op=49\/op=56\/op=57\/op=58\/op=59\/op=60\/op=61\/op=62\/op=63\/op=64
theorem qX(c:Q02)(r v:Int):(Q1q c r v).Pc=c.Pc/\(Q1q c r v).B4=c.B4:=by
 simp only[Q1q,Qdu,Tree.m]
 cases decide (r>0)
 . exact⟨rfl,rfl⟩
 . cases decide (r<16)<;>exact⟨rfl,rfl⟩
def adv(c:Q02):Q02:={X:=c.X,Pc:=wrap .u32 (c.Pc+4),B4:=c.B4}
def va(c:Q02)(B Imm:Int):Int:=wrap .u32 (aK (A16.l c.X) B.toNat 0+wrap .u32 Imm)
def ldP(c:Q02)(A v size:Int)(f:Int->Int)(y:Int×List Int×Int):Q02×List Int:=bif y.2.2 !=0 then(Q47 c y.2.2 v,y.2.1) else(adv (Qa7 c A (f (Q4g y.2.1 y.1 size).1)),y.2.1)
def ldR(c:Q02)(A v size:Int)(f:Int->Int)(x:Int×Int×List Int):Q02×List Int:=bif x.2.1 !=0 then(Q2l c x.2.1 v,x.2.2) else(adv (Q1q c A (f (Q1 x.2.2 x.1 size).1)),x.2.2)
def stP(c:Q02)(A v size:Int)(y:Int×List Int×Int):Q02×List Int:=bif y.2.2 !=0 then(Q47 c y.2.2 v,y.2.1) else(adv c,(Q8o y.2.1 y.1 size (aK (A16.l c.X) A.toNat 0)).1)
def stR(c:Q02)(A v size:Int)(x:Int×Int×List Int):Q02×List Int:=bif x.2.1 !=0 then(Q2l c x.2.1 v,x.2.2) else(adv c,Q9h x.2.2 x.1 size (aK (A16.l c.X) A.toNat 0))
theorem ld_eq(c:Q02)(m:List Int)(A B C Imm:Int):
   (Q5n c m ⟨32,A,B,C,Imm⟩=ldP c A (va c B Imm) 4 (λv=>v) (Q1z c m (va c B Imm) 4 2)/\Q4l c m ⟨32,A,B,C,Imm⟩=ldR c A (va c B Imm) 4 (λv=>v) (Q0y c m (va c B Imm) 4 2))/\
   (Q5n c m ⟨33,A,B,C,Imm⟩=ldP c A (va c B Imm) 1 (λv=>Q2b v 8) (Q1z c m (va c B Imm) 1 2)/\Q4l c m ⟨33,A,B,C,Imm⟩=ldR c A (va c B Imm) 1 (λv=>Q36 v 8) (Q0y c m (va c B Imm) 1 2))/\
   (Q5n c m ⟨34,A,B,C,Imm⟩=ldP c A (va c B Imm) 1 (λv=>v) (Q1z c m (va c B Imm) 1 2)/\Q4l c m ⟨34,A,B,C,Imm⟩=ldR c A (va c B Imm) 1 (λv=>v) (Q0y c m (va c B Imm) 1 2))/\
   (Q7r c m ⟨35,A,B,C,Imm⟩=stP c A (va c B Imm) 4 (Q1z c m (va c B Imm) 4 3)/\Q4l c m ⟨35,A,B,C,Imm⟩=stR c A (va c B Imm) 4 (Q0y c m (va c B Imm) 4 3))/\
   (Q7r c m ⟨36,A,B,C,Imm⟩=stP c A (va c B Imm) 1 (Q1z c m (va c B Imm) 1 3)/\Q4l c m ⟨36,A,B,C,Imm⟩=stR c A (va c B Imm) 1 (Q0y c m (va c B Imm) 1 3)):=
 ⟨⟨by kernel_rfl,by kernel_rfl⟩,⟨by kernel_rfl,by kernel_rfl⟩,⟨by kernel_rfl,by kernel_rfl⟩,⟨by kernel_rfl,by kernel_rfl⟩,⟨by kernel_rfl,by kernel_rfl⟩⟩
theorem zal{P:Nat}{m:List Int}(h:Q0x P m)(a:Int):Q2b (Q1 m a 1).1 8=Q36 (Q1 m a 1).1 8:=by
 have: ∀x:Int×Bool,(∃w,U w/\x=(iand .u32 w 255,true))\/x=(0,false)->Q2b x.1 8=Q36 x.1 8:=λx hx=>by
   rcases hx with⟨w,hw,rfl⟩|rfl
   . have e:=m255 hw
     exact sx8 (by show 0<=iand .u32 w 255;omega) (by show iand .u32 w 255<256;omega)
   . rfl
 refine this _ ?_
 simp only[Q1,Q3d,Tree.m,letv]
 cases Q2 m a 1
 . exact .inr rfl
 . exact .inl ⟨_,Qsp (Qkp h.u _) _,rfl⟩
section
variable {P:Nat} {m:List Int} (h:Q0x P m) {c:Q02} (hc:Q29 c) (hst:c.B4.a0<=31)
include h hc hst
omit hst in
theorem Zhf{v:Int}(hv:U v){size:Int}(hs:size=1\/size=4)(access:Int):Q0x P (Q0y c m v size access).2.2/\U (Q0y c m v size access).1/\((Q0y c m v size access).2.1=0->(Q0y c m v size access).1<128*P):=(Tree.pp (Z95 h hc hv hs access)).2
theorem Zij{A v:Int}(hA:0<=A/\A<16)(hv:U v){size:Int}(hs:size=1\/size=4){f g:Int->Int}(hf: ∀{m':List Int},Q0x P m'-> ∀a,f (Q1 m' a size).1=g (Q1 m' a size).1):ldP c A v size f (Q1z c m v size 2)=ldR c A v size g (Q0y c m v size 2):=by
 rw[Qoc h hc hst hv hs (.inr (.inl rfl))]
 obtain⟨k,u,_⟩:=Zhf h hc hv hs 2
 generalize Q0y c m v size 2=x at*
 simp only[ldP,ldR,Qod k u hs,Qoz hc.a0.1 hst,Qzz c hA,hf k]
theorem zj{A v:Int}(hv:U v){size:Int}(hs:size=1\/size=4):stP c A v size (Q1z c m v size 3)=stR c A v size (Q0y c m v size 3):=by
 rw[Qoc h hc hst hv hs (.inr (.inr rfl))]
 obtain⟨k,u,b⟩:=Zhf h hc hv hs 3
 have al:=qK (c:=c) (m:=m) hv hs (access:=3) (.inr (.inr rfl))
 generalize Q0y c m v size 3=x at*
 simp only[stP,stR,Z7r k u hs,Qoz hc.a0.1 hst,Qgn k u hs]
 cases hq:x.2.1 !=0
 . have hq:x.2.1=0:=by simpa using hq
   rw[dY ⟨al hq,b hq⟩];rfl
 . rfl
end
theorem xK(c:Q02)(k v:Int):(Qgp c k v).Pc=c.Pc:=by
 simp only[Qgp,Qbt,Tree.m]
 repeat'(first|rfl|refine Z0r (Q:=λx:Q02=>x.Pc=c.Pc) ?_ ?_)
def setP(c:Q02)(A v p:Int):Q02:={X:=(Qa7 c A v).X,Pc:=p,B4:=(Qa7 c A v).B4}
def setR(c:Q02)(A v p:Int):Q02:={X:=(Q1q c A v).X,Pc:=p,B4:=(Q1q c A v).B4}
def nxt(c:Q02):Int:=wrap .u32 (c.Pc+4)
theorem Zcz(c:Q02){A:Int}(hA:0<=A/\A<16)(v p:Int):setP c A v p=setR c A v p:=by
 unfold setP setR;rw[Qzz c hA]
theorem Zjo(c:Q02)(A v:Int):adv (Q1q c A v)=setR c A v (nxt c):=by
 unfold adv setR nxt;rw[(qX c A v).1]
theorem brc(t:Bool)(x y:Q02)(m:List Int):((bif t then(x,eff0) else(y,eff0)).1,m,(bif t then(x,eff0) else(y,eff0)).2)=((bif t then x else y),m,eff0):=by cases t<;>rfl
def isOpB(op:Int):Bool:=decide (op=1)||decide (op=2)||decide (op=3)||decide (op=4)||decide (op=5)||decide (op=6)||decide (op=7)||decide (op=8)||decide (op=9)||decide (op=10)||decide (op=11)||decide (op=12)||decide (op=13)||decide (op=16)||decide (op=17)||decide (op=18)||decide (op=19)||decide (op=20)||decide (op=21)||decide (op=22)||decide (op=23)||decide (op=24)||decide (op=32)||decide (op=33)||decide (op=34)||decide (op=35)||decide (op=36)||decide (op=40)||decide (op=41)||decide (op=42)||decide (op=43)||decide (op=44)||decide (op=45)||decide (op=48)||decide (op=49)||decide (op=56)||decide (op=57)||decide (op=58)||decide (op=59)||decide (op=60)||decide (op=61)||decide (op=62)||decide (op=63)||decide (op=64)
section
variable {P:Nat} {m:List Int} (h:Q0x P m) {c:Q02} (hc:Q29 c) (hst:c.B4.a0<=31) {A B C Imm:Int} (hA:0<=A/\A<16)
include h hc hst hA
theorem yj{op:Int}(hop:isOp op):Q53 c m ⟨op,A,B,C,Imm⟩=((Qiw c m ⟨op,A,B,C,Imm⟩).1,(Qiw c m ⟨op,A,B,C,Imm⟩).2.2,(Qiw c m ⟨op,A,B,C,Imm⟩).2.1):=by
 have alu: ∀{k y:Int},1<=k->k<=23->U y->((setP c A (Q42 k (regX c B) y).1 (nxt c),m,eff0):Q02×List Int×Q0w)=(adv (Q1q c A (Qcr k (regX c B) y).1),m,eff0):=λh1 h2 hy=>by
   rw[vJ h1 h2 (show U (regX c B) from hc.r _) hy,Zjo,Zcz c hA]
 have uC:U (regX c C):=hc.r _
 have uI:U (wrap .u32 Imm):=Q0m _
 obtain⟨⟨l1,l2⟩,⟨l3,l4⟩,⟨l5,l6⟩,⟨l7,l8⟩,⟨l9,l10⟩⟩:=ld_eq c m A B C Imm
 have hva:U (va c B Imm):=Q0m _
 rcases hop with rfl|rfl|rfl|rfl|rfl|rfl|rfl|rfl|rfl|rfl|rfl|rfl|rfl|rfl|rfl|rfl|rfl|rfl|rfl|rfl|rfl|rfl|rfl|rfl|rfl|rfl|rfl|rfl|rfl|rfl|rfl|rfl|rfl|rfl|rfl|rfl|rfl|rfl|rfl|rfl|rfl|rfl|rfl|rfl
 . exact(show Q53 c m ⟨1,A,B,C,Imm⟩=(setP c A (Q42 1 (regX c B) (regX c C)).1 (nxt c),m,eff0) by kernel_rfl).trans ((alu (by decide) (by decide) uC).trans (by kernel_rfl))
 . exact(show Q53 c m ⟨2,A,B,C,Imm⟩=(setP c A (Q42 2 (regX c B) (regX c C)).1 (nxt c),m,eff0) by kernel_rfl).trans ((alu (by decide) (by decide) uC).trans (by kernel_rfl))
 . exact(show Q53 c m ⟨3,A,B,C,Imm⟩=(setP c A (Q42 3 (regX c B) (regX c C)).1 (nxt c),m,eff0) by kernel_rfl).trans ((alu (by decide) (by decide) uC).trans (by kernel_rfl))
 . exact(show Q53 c m ⟨4,A,B,C,Imm⟩=(setP c A (Q42 4 (regX c B) (regX c C)).1 (nxt c),m,eff0) by kernel_rfl).trans ((alu (by decide) (by decide) uC).trans (by kernel_rfl))
 . exact(show Q53 c m ⟨5,A,B,C,Imm⟩=(setP c A (Q42 5 (regX c B) (regX c C)).1 (nxt c),m,eff0) by kernel_rfl).trans ((alu (by decide) (by decide) uC).trans (by kernel_rfl))
 . exact(show Q53 c m ⟨6,A,B,C,Imm⟩=(setP c A (Q42 6 (regX c B) (regX c C)).1 (nxt c),m,eff0) by kernel_rfl).trans ((alu (by decide) (by decide) uC).trans (by kernel_rfl))
 . exact(show Q53 c m ⟨7,A,B,C,Imm⟩=(setP c A (Q42 7 (regX c B) (regX c C)).1 (nxt c),m,eff0) by kernel_rfl).trans ((alu (by decide) (by decide) uC).trans (by kernel_rfl))
 . exact(show Q53 c m ⟨8,A,B,C,Imm⟩=(setP c A (Q42 8 (regX c B) (regX c C)).1 (nxt c),m,eff0) by kernel_rfl).trans ((alu (by decide) (by decide) uC).trans (by kernel_rfl))
 . exact(show Q53 c m ⟨9,A,B,C,Imm⟩=(setP c A (Q42 9 (regX c B) (regX c C)).1 (nxt c),m,eff0) by kernel_rfl).trans ((alu (by decide) (by decide) uC).trans (by kernel_rfl))
 . exact(show Q53 c m ⟨10,A,B,C,Imm⟩=(setP c A (Q42 10 (regX c B) (regX c C)).1 (nxt c),m,eff0) by kernel_rfl).trans ((alu (by decide) (by decide) uC).trans (by kernel_rfl))
 . exact(show Q53 c m ⟨11,A,B,C,Imm⟩=(setP c A (Q42 11 (regX c B) (regX c C)).1 (nxt c),m,eff0) by kernel_rfl).trans ((alu (by decide) (by decide) uC).trans (by kernel_rfl))
 . exact(show Q53 c m ⟨12,A,B,C,Imm⟩=(setP c A (Q42 12 (regX c B) (regX c C)).1 (nxt c),m,eff0) by kernel_rfl).trans ((alu (by decide) (by decide) uC).trans (by kernel_rfl))
 . exact(show Q53 c m ⟨13,A,B,C,Imm⟩=(setP c A (Q42 13 (regX c B) (regX c C)).1 (nxt c),m,eff0) by kernel_rfl).trans ((alu (by decide) (by decide) uC).trans (by kernel_rfl))
 . exact(show Q53 c m ⟨16,A,B,C,Imm⟩=(setP c A (Q42 16 (regX c B) (wrap .u32 Imm)).1 (nxt c),m,eff0) by kernel_rfl).trans ((alu (by decide) (by decide) uI).trans (by kernel_rfl))
 . exact(show Q53 c m ⟨17,A,B,C,Imm⟩=(setP c A (Q42 17 (regX c B) (wrap .u32 Imm)).1 (nxt c),m,eff0) by kernel_rfl).trans ((alu (by decide) (by decide) uI).trans (by kernel_rfl))
 . exact(show Q53 c m ⟨18,A,B,C,Imm⟩=(setP c A (Q42 18 (regX c B) (wrap .u32 Imm)).1 (nxt c),m,eff0) by kernel_rfl).trans ((alu (by decide) (by decide) uI).trans (by kernel_rfl))
 . exact(show Q53 c m ⟨19,A,B,C,Imm⟩=(setP c A (Q42 19 (regX c B) (wrap .u32 Imm)).1 (nxt c),m,eff0) by kernel_rfl).trans ((alu (by decide) (by decide) uI).trans (by kernel_rfl))
 . exact(show Q53 c m ⟨20,A,B,C,Imm⟩=(setP c A (Q42 20 (regX c B) (wrap .u32 Imm)).1 (nxt c),m,eff0) by kernel_rfl).trans ((alu (by decide) (by decide) uI).trans (by kernel_rfl))
 . exact(show Q53 c m ⟨21,A,B,C,Imm⟩=(setP c A (Q42 21 (regX c B) (wrap .u32 Imm)).1 (nxt c),m,eff0) by kernel_rfl).trans ((alu (by decide) (by decide) uI).trans (by kernel_rfl))
 . exact(show Q53 c m ⟨22,A,B,C,Imm⟩=(setP c A (Q42 22 (regX c B) (wrap .u32 Imm)).1 (nxt c),m,eff0) by kernel_rfl).trans ((alu (by decide) (by decide) uI).trans (by kernel_rfl))
 . exact(show Q53 c m ⟨23,A,B,C,Imm⟩=(setP c A (Q42 23 (regX c B) (wrap .u32 Imm)).1 (nxt c),m,eff0) by kernel_rfl).trans ((alu (by decide) (by decide) uI).trans (by kernel_rfl))
 . refine(show Q53 c m ⟨24,A,B,C,Imm⟩=(setP c A (ishl .u32 (wrap .u32 Imm) 16) (nxt c),m,eff0) by kernel_rfl).trans ?_
   rw[Zcz c hA,<-Zjo];kernel_rfl
 . have e:=Zij h hc hst hA hva (.inr rfl) (f:=λv=>v) (g:=λv=>v) (λ_ _=>rfl)
   rw[<-l1,<-l2]at e
   refine(show Q53 c m ⟨32,A,B,C,Imm⟩=((Q5n c m ⟨32,A,B,C,Imm⟩).1,(Q5n c m ⟨32,A,B,C,Imm⟩).2,eff0) by kernel_rfl).trans ?_
   rw[e];kernel_rfl
 . have e:=Zij h hc hst hA hva (.inl rfl) (f:=λv=>Q2b v 8) (g:=λv=>Q36 v 8) (λhm a=>zal hm a)
   rw[<-l3,<-l4]at e
   refine(show Q53 c m ⟨33,A,B,C,Imm⟩=((Q5n c m ⟨33,A,B,C,Imm⟩).1,(Q5n c m ⟨33,A,B,C,Imm⟩).2,eff0) by kernel_rfl).trans ?_
   rw[e];kernel_rfl
 . have e:=Zij h hc hst hA hva (.inl rfl) (f:=λv=>v) (g:=λv=>v) (λ_ _=>rfl)
   rw[<-l5,<-l6]at e
   refine(show Q53 c m ⟨34,A,B,C,Imm⟩=((Q5n c m ⟨34,A,B,C,Imm⟩).1,(Q5n c m ⟨34,A,B,C,Imm⟩).2,eff0) by kernel_rfl).trans ?_
   rw[e];kernel_rfl
 . have e:=zj h hc hst (A:=A) hva (.inr rfl)
   rw[<-l7,<-l8]at e
   refine(show Q53 c m ⟨35,A,B,C,Imm⟩=((Q7r c m ⟨35,A,B,C,Imm⟩).1,(Q7r c m ⟨35,A,B,C,Imm⟩).2,eff0) by kernel_rfl).trans ?_
   rw[e];kernel_rfl
 . have e:=zj h hc hst (A:=A) hva (.inl rfl)
   rw[<-l9,<-l10]at e
   refine(show Q53 c m ⟨36,A,B,C,Imm⟩=((Q7r c m ⟨36,A,B,C,Imm⟩).1,(Q7r c m ⟨36,A,B,C,Imm⟩).2,eff0) by kernel_rfl).trans ?_
   rw[e];kernel_rfl
 . exact(show Q53 c m ⟨40,A,B,C,Imm⟩=((bif(Q28 40 (regX c A) (regX c B)) then((⟨c.X,wrap .u32 (c.Pc+wrap .u32 (4*wrap .u32 Imm)),c.B4⟩:Q02),eff0) else(⟨c.X,nxt c,c.B4⟩,eff0)).1,m,(bif(Q28 40 (regX c A) (regX c B)) then((⟨c.X,wrap .u32 (c.Pc+wrap .u32 (4*wrap .u32 Imm)),c.B4⟩:Q02),eff0) else(⟨c.X,nxt c,c.B4⟩,eff0)).2) by kernel_rfl).trans ((brc (Q28 40 (regX c A) (regX c B)) ⟨c.X,wrap .u32 (c.Pc+wrap .u32 (4*wrap .u32 Imm)),c.B4⟩ ⟨c.X,nxt c,c.B4⟩ m).trans (by kernel_rfl))
 . exact(show Q53 c m ⟨41,A,B,C,Imm⟩=((bif(Q28 41 (regX c A) (regX c B)) then((⟨c.X,wrap .u32 (c.Pc+wrap .u32 (4*wrap .u32 Imm)),c.B4⟩:Q02),eff0) else(⟨c.X,nxt c,c.B4⟩,eff0)).1,m,(bif(Q28 41 (regX c A) (regX c B)) then((⟨c.X,wrap .u32 (c.Pc+wrap .u32 (4*wrap .u32 Imm)),c.B4⟩:Q02),eff0) else(⟨c.X,nxt c,c.B4⟩,eff0)).2) by kernel_rfl).trans ((brc (Q28 41 (regX c A) (regX c B)) ⟨c.X,wrap .u32 (c.Pc+wrap .u32 (4*wrap .u32 Imm)),c.B4⟩ ⟨c.X,nxt c,c.B4⟩ m).trans (by kernel_rfl))
 . exact(show Q53 c m ⟨42,A,B,C,Imm⟩=((bif(Q28 42 (regX c A) (regX c B)) then((⟨c.X,wrap .u32 (c.Pc+wrap .u32 (4*wrap .u32 Imm)),c.B4⟩:Q02),eff0) else(⟨c.X,nxt c,c.B4⟩,eff0)).1,m,(bif(Q28 42 (regX c A) (regX c B)) then((⟨c.X,wrap .u32 (c.Pc+wrap .u32 (4*wrap .u32 Imm)),c.B4⟩:Q02),eff0) else(⟨c.X,nxt c,c.B4⟩,eff0)).2) by kernel_rfl).trans ((brc (Q28 42 (regX c A) (regX c B)) ⟨c.X,wrap .u32 (c.Pc+wrap .u32 (4*wrap .u32 Imm)),c.B4⟩ ⟨c.X,nxt c,c.B4⟩ m).trans (by kernel_rfl))
 . exact(show Q53 c m ⟨43,A,B,C,Imm⟩=((bif(Q28 43 (regX c A) (regX c B)) then((⟨c.X,wrap .u32 (c.Pc+wrap .u32 (4*wrap .u32 Imm)),c.B4⟩:Q02),eff0) else(⟨c.X,nxt c,c.B4⟩,eff0)).1,m,(bif(Q28 43 (regX c A) (regX c B)) then((⟨c.X,wrap .u32 (c.Pc+wrap .u32 (4*wrap .u32 Imm)),c.B4⟩:Q02),eff0) else(⟨c.X,nxt c,c.B4⟩,eff0)).2) by kernel_rfl).trans ((brc (Q28 43 (regX c A) (regX c B)) ⟨c.X,wrap .u32 (c.Pc+wrap .u32 (4*wrap .u32 Imm)),c.B4⟩ ⟨c.X,nxt c,c.B4⟩ m).trans (by kernel_rfl))
 . exact(show Q53 c m ⟨44,A,B,C,Imm⟩=((bif(Q28 44 (regX c A) (regX c B)) then((⟨c.X,wrap .u32 (c.Pc+wrap .u32 (4*wrap .u32 Imm)),c.B4⟩:Q02),eff0) else(⟨c.X,nxt c,c.B4⟩,eff0)).1,m,(bif(Q28 44 (regX c A) (regX c B)) then((⟨c.X,wrap .u32 (c.Pc+wrap .u32 (4*wrap .u32 Imm)),c.B4⟩:Q02),eff0) else(⟨c.X,nxt c,c.B4⟩,eff0)).2) by kernel_rfl).trans ((brc (Q28 44 (regX c A) (regX c B)) ⟨c.X,wrap .u32 (c.Pc+wrap .u32 (4*wrap .u32 Imm)),c.B4⟩ ⟨c.X,nxt c,c.B4⟩ m).trans (by kernel_rfl))
 . exact(show Q53 c m ⟨45,A,B,C,Imm⟩=((bif(Q28 45 (regX c A) (regX c B)) then((⟨c.X,wrap .u32 (c.Pc+wrap .u32 (4*wrap .u32 Imm)),c.B4⟩:Q02),eff0) else(⟨c.X,nxt c,c.B4⟩,eff0)).1,m,(bif(Q28 45 (regX c A) (regX c B)) then((⟨c.X,wrap .u32 (c.Pc+wrap .u32 (4*wrap .u32 Imm)),c.B4⟩:Q02),eff0) else(⟨c.X,nxt c,c.B4⟩,eff0)).2) by kernel_rfl).trans ((brc (Q28 45 (regX c A) (regX c B)) ⟨c.X,wrap .u32 (c.Pc+wrap .u32 (4*wrap .u32 Imm)),c.B4⟩ ⟨c.X,nxt c,c.B4⟩ m).trans (by kernel_rfl))
 . refine(show Q53 c m ⟨48,A,B,C,Imm⟩=(setP c A (nxt c) (wrap .u32 ((Qa7 c A (nxt c)).Pc+wrap .u32 (4*wrap .u32 Imm))),m,eff0) by kernel_rfl).trans ?_
   rw[Zcz c hA,Qzz c hA,(qX c A (nxt c)).1];kernel_rfl
 . refine(show Q53 c m ⟨49,A,B,C,Imm⟩=(setP c A (nxt c) (va c B Imm),m,eff0) by kernel_rfl).trans ?_
   rw[Zcz c hA];kernel_rfl
 . refine(show Q53 c m ⟨56,A,B,C,Imm⟩=(Q47 c 7 0,m,eff0) by kernel_rfl).trans ?_
   rw[Qoz hc.a0.1 hst];kernel_rfl
 . refine(show Q53 c m ⟨57,A,B,C,Imm⟩=(Qdi c,m,eff0) by kernel_rfl).trans ?_
   rw[Zhq hc.a0.1 hst];kernel_rfl
 . refine(show Q53 c m ⟨58,A,B,C,Imm⟩=(setP c A (aK (A8.l c.B4) Imm.toNat 0) (nxt c),m,eff0) by kernel_rfl).trans ?_
   rw[Zcz c hA,<-Zjo];kernel_rfl
 . have e:=xK c (wrap .i64 Imm) (regX c A)
   refine(show Q53 c m ⟨59,A,B,C,Imm⟩=((⟨(Qgp c (wrap .i64 Imm) (regX c A)).X,wrap .u32 (c.Pc+4),(Qgp c (wrap .i64 Imm) (regX c A)).B4⟩:Q02),m,eff0) by kernel_rfl).trans ?_
   rw[<-e];kernel_rfl
 . exact(show Q53 c m ⟨60,A,B,C,Imm⟩=((Qiw c m ⟨60,A,B,C,Imm⟩).1,(Qiw c m ⟨60,A,B,C,Imm⟩).2.2,(Qiw c m ⟨60,A,B,C,Imm⟩).2.1) by kernel_rfl)
 . exact(show Q53 c m ⟨61,A,B,C,Imm⟩=((Qiw c m ⟨61,A,B,C,Imm⟩).1,(Qiw c m ⟨61,A,B,C,Imm⟩).2.2,(Qiw c m ⟨61,A,B,C,Imm⟩).2.1) by kernel_rfl)
 . exact(show Q53 c m ⟨62,A,B,C,Imm⟩=((Qiw c m ⟨62,A,B,C,Imm⟩).1,(Qiw c m ⟨62,A,B,C,Imm⟩).2.2,(Qiw c m ⟨62,A,B,C,Imm⟩).2.1) by kernel_rfl)
 . exact(show Q53 c m ⟨63,A,B,C,Imm⟩=((Qiw c m ⟨63,A,B,C,Imm⟩).1,(Qiw c m ⟨63,A,B,C,Imm⟩).2.2,(Qiw c m ⟨63,A,B,C,Imm⟩).2.1) by kernel_rfl)
 . exact(show Q53 c m ⟨64,A,B,C,Imm⟩=((Qiw c m ⟨64,A,B,C,Imm⟩).1,(Qiw c m ⟨64,A,B,C,Imm⟩).2.2,(Qiw c m ⟨64,A,B,C,Imm⟩).2.1) by kernel_rfl)
end
theorem xal{op:Int}(h0:0<=op)(h1:op<256)(h:Q2d op≠0):isOp op:=by
 have e:=oY (Qta (λop=>decide (Q2d op=0\/isOpB op=true)) 256 (by kernel_rfl) h0 h1)
 rcases e with e|e
 . exact absurd e h
 . simpa only[isOpB,isOp,aI,decide_eq_true_eq,or_assoc] using e
theorem vj{op:Int}(o:isOp op):1<=op/\op<=64:=by
 unfold isOp at o
 rcases o with h|h|h|h|h|h|h|h|h|h|h|h|h|h|h|h|h|h|h|h|h|h|h|h|h|h|h|h|h|h|h|h|h|h|h|h|h|h|h|h|h|h|h|h<;>(rw[h];decide)
theorem qk{w:Int}(hw:U w):(Q1u w).2=true->isOp (Q1u w).1.Op:=by
  have s24:ishr .u32 w 24=w/16777216:=by have:=Qrf (a:=w) 24 (by decide);simpa using this
  obtain⟨w0,w1⟩:=hw
  have eo:wrap .i64 (w/16777216)=w/16777216:=w64 (by omega) (by omega)
  have q:(λr:Q0h×Bool=>r.2=true->isOp r.1.Op) (Q1u w):=by
    simp only[Q1u,Q5w,Tree.m,letv,s24,eo]
    cases hf:Q2d (w/16777216)==0
    . have g:isOp (w/16777216):=xal (by omega) (by omega) (by simpa using hf)
      repeat'(first
        |exact λ_=>g
        |exact λe=>fF (show false=true from e)
        |refine Z0r (Q:=λr:Q0h×Bool=>r.2=true->isOp r.1.Op) ?_ ?_)
    . exact λe=>fF (show false=true from e)
  exact q
section
variable (c:Q02) (m:List Int)
def doR(x:Int×Int×List Int)(w:Int)(d:Q0h×Bool):Q02×Q0w×List Int:=
 bif x.2.1 !=0 then(Q2l c x.2.1 c.Pc,eff0,x.2.2) else bif !d.2 then(Q2l c 1 w,eff0,x.2.2) else bif Q31 d.1.Op then(bif iand .u32 c.B4.a0 1==0 then(Q2l c 2 w,eff0,x.2.2) else Qiw c x.2.2 d.1) else Qiw c x.2.2 d.1
def doP(y:Int×List Int×Int)(d:Q0h×Bool):Q02×List Int×Q0w:=
 bif y.2.2 !=0 then(Q47 c y.2.2 c.Pc,y.2.1,eff0) else bif !d.2 then(Q47 c 1 y.1,y.2.1,eff0) else bif Q84 d.1.Op then(bif !Q9p c then(Q47 c 2 y.1,y.2.1,eff0) else Q53 c y.2.1 d.1) else Q53 c y.2.1 d.1
theorem do_eq:Q68 c m=doR c (Q0y c m c.Pc 4 1) (Q1 (Q0y c m c.Pc 4 1).2.2 (Q0y c m c.Pc 4 1).1 4).1 (Q1u (Q1 (Q0y c m c.Pc 4 1).2.2 (Q0y c m c.Pc 4 1).1 4).1):=by kernel_rfl
theorem qam:Q6j c m=doP c (Qnw c m) (Qgq (Qnw c m).1):=by kernel_rfl
theorem zK:Qnw c m=bif(Q1z c m c.Pc 4 1).2.2 !=0 then(0,(Q1z c m c.Pc 4 1).2.1,(Q1z c m c.Pc 4 1).2.2) else((Q4g (Q1z c m c.Pc 4 1).2.1 (Q1z c m c.Pc 4 1).1 4).1,(Q1z c m c.Pc 4 1).2.1,0):=by kernel_rfl
end
theorem Ze0{P:Nat}{m:List Int}(h:Q0x P m){c:Q02}(hc:Q29 c)(hst:c.B4.a0<=31):Q6j c m=((Q68 c m).1,(Q68 c m).2.2,(Q68 c m).2.1):=by
  obtain⟨k,u,b⟩:=Zhf h hc hc.pc (.inr rfl) 1
  have tr: ∀k b,Q47 c k b=Q2l c k b:=Qoz hc.a0.1 hst
  rw[qam,do_eq,zK,Qoc h hc hst hc.pc (.inr rfl) (.inl rfl)]
  generalize Q0y c m c.Pc 4 1=x at*
  cases hx:x.2.1 !=0
  . rw [Qod k u (.inr rfl)]
    have hw:U (Q1 x.2.2 x.1 4).1:=(Tree.pp (Zd k u (.inr rfl))).2
    generalize(Q1 x.2.2 x.1 4).1=w at*
    show doP c (w,x.2.2,0) (Qgq w)=_
    rw[yh hw]
    have o:=qk hw
    have i:=Tree.post _ (Zm3 w)
    change(Q1u w).2=true->Qfa (Q1u w).1 at i
    generalize Q1u w=d at*
    obtain⟨⟨op,A,B,C,Imm⟩,ok⟩:=d
    cases ok
    . simp only[doP,doR,hx,tr];rfl
    . have o:isOp op:=o rfl
      have i:=i rfl
      have p:=yj (C:=C) (B:=B) (Imm:=Imm) k hc hst i.a o
      have pv:Q84 op=Q31 op:=xai (by have:=vj o;omega) (by have:=vj o;omega)
      have kn:(!Q9p c)=(iand .u32 c.B4.a0 1==0):=by
        show(!(!(iand .u32 c.B4.a0 1==0)))=_
        exact Bool.not_not _
      simp only[doP,doR,hx,tr,pv,kn,p]
      cases Q31 op
      . rfl
      . cases iand .u32 c.B4.a0 1==0<;>rfl
  . simp only[doP,doR,hx,cond_true,tr]
theorem xk{a b:Int}:decide (a>=b)=!decide (a<b):=by
 by_cases h:a<b
 . rw[dY h,dN (by omega)];rfl
 . rw[dN h,dY (by omega)];rfl
def bits(g:Int)(l:List Nat)(s:Int):Int:=l.foldl (λ(a:Int) (i:Nat)=>wrap .i64 (a+wrap .i64 (iand .u32 (ishr .u32 g (i:Int)) 1))) s
theorem yK(b:Q07):Qdq b=bits b.C2 [0,1,2,3,4,5,6,7,8,9,10,11,12,13,14,15,16,17,18,19,20,21,22,23,24,25,26,27,28,29,30,31] 0:=by kernel_rfl
theorem xaF{g:Int}(hg:U g){i:Nat}(hi:i<=32):wrap .i64 (iand .u32 (ishr .u32 g (i:Int)) 1)=g/2^i%2:=by
 rw[and1 (Qsp hg _),Qrf i hi]
 have:0<=g/2^i%2/\g/2^i%2<2:=by omega
 exact w64 (by omega) (by omega)
theorem vK{g:Int}(hg:U g)(l:List Nat): ∀s:Int,(∀i∈l,i<=32)->0<=s->s+l.length<=1000->bits g l s=s+(l.map λi=>g/2^i%2).sum:=by
 induction l with
 |nil=>intro s _ _ _;simp [bits]
 | cons i l ih=>
   intro s hl h0 h1
   have h1:s+(l.length+1)<=1000:=by simpa using h1
   have hb:0<=g/2^i%2/\g/2^i%2<2:=by omega
   have e:bits g (i::l) s=bits g l (s+g/2^i%2):=by
     show bits g l (wrap .i64 (s+wrap .i64 (iand .u32 (ishr .u32 g (i:Int)) 1)))=_
     rw[xaF hg (hl i (by simp)),w64 (by omega) (by omega)]
   rw[e,ih _ (λj hj=>hl j (by simp [hj])) (by omega) (by omega)]
   simp;omega
theorem Zmb(n:Q0n)(port:Int):Z32 n port=Qgl n port:=by
 simp only[Z32,Qty,Qgl,Qet,Tree.m]
 cases n.C5<;>cases n.B6<;>rfl
theorem Z4b(t:Q0i):Q3w t=Qcb t:=by
 simp only[Q3w,Qlu,Qcb,Qhe,Tree.m]
 cases t.D2<;>cases t.D1<;>rfl
theorem Zgf(n:Q0n)(p:Int):Q5g n p=Qhc n p:=by
 simp only[Q5g,Qkj,Qhc,Qlf,Tree.m]
 cases n.C5<;>cases n.B6<;>rfl
theorem Zbu(d:Q0d)(p:Int):Q18 d p=Qes d p:=by
  simp only[Q18,Q4d,Q6u,Q3e,Qes,Qjr,Tree.m,letv,xk]
  cases decide (d.Blocks>64)
  . by_cases s:d.B8=0\/d.B8=1\/d.B8=2\/d.B8=3
    . rcases s with s|s|s|s<;>rw[s]
      . rfl
      . by_cases c1:d.D4=1
        . rw[c1];cases decide (d.B5<d.Blocks)<;>cases decide (wrap .i64 d.B2<p)<;>cases decide (d.B7=[])<;>rfl
        . by_cases c2:d.D4=2
          . rw[c2];cases decide (d.B5<d.Blocks)<;>cases decide (wrap .i64 d.B2<p)<;>cases(d.B7.length:Int)==128<;>rfl
          . rw[show(d.D4==1)=false by simpa using c1,show(d.D4==2)=false by simpa using c2]
            cases decide (d.B5<d.Blocks)<;>cases decide (wrap .i64 d.B2<p)<;>rfl
      . rfl
      . rfl
    . rw[show(d.B8==0)=false by simp;omega,show(d.B8==1)=false by simp;omega,show(d.B8==2)=false by simp;omega,show(d.B8==3)=false by simp;omega]
      by_cases n:d.B8<0
      . rw[dY n];rfl
      . rw[dN n,dY (show d.B8>3 by omega)];rfl
  . rfl
theorem qL(c:Q0c):Q9e c=Q57 c:=by
 show(!decide (c.D0=[]))=decide ((c.D0.length:Int)>0)
 cases c.D0 with
 |nil=>rfl
 |cons a l=>rw[dN (by simp),dY (by simp)];rfl
theorem zam(k:List UInt8):decide (k=[])=((k.length:Int)==0):=by
 cases k with
 |nil=>rfl
 | cons a l=>
   rw[dN (by simp)]
   exact(beq_eq_false_iff_ne.2 (by simp;omega)).symm
theorem Zoq(c:Q0c)(port:Int):Qpj c port=Q4t c port:=by
 simp only[Qpj,Q91,Q4t,Q38,Tree.m,zam]
 cases port==0
 . rfl
 . cases(c.D0.length:Int)==0<;>rfl
theorem xL(t:Q0i)(v:Int):Ql4 t v=Qpl v:=by
 simp only[Ql4,Qlz,Qpl,Qk2,Tree.m]
 cases h:v==0
 . rw[show(v !=0)=true by simp only[bne,h];rfl];rfl
 . rw[show(v !=0)=false by simp only[bne,h];rfl,eq_of_beq h];rfl
section
variable {P:Nat} {m:List Int} (h:Q0x P m)
include h
theorem Z6f(f:Int):Q8n m f=Q22 m f:=by
 have a:=Q3c h
 have b:=Qdz h
 simp only[Q8n,Qc7,Q22,Qhp,Tree.m,letv,a,b]
theorem Z6s(f:Int):Q9r m f=Q22 m f:=by
 have a:=Q3c h
 have b:=Qdz h
 simp only[Q9r,Qf3,Q22,Qhp,Tree.m,letv,a,b]
theorem Zf1(d:Q0d)(port v at0:Int):Qzq d m port v at0=Qbo d m port v at0:=by
  have pg:=Z6f h
  have pa:=Zcl h
  have rq: ∀d a,Qjf d a=Qj4 d a:=λ_ _=>rfl
  simp only[Qzq,Qgt,Qv3,Qbr,Qbo,Q4s,Tree.m,letv,pg,pa,rq]
  cases port==4
  . cases port==5
    . cases h6:port==6
      . rw[show(port !=6)=true by simp only[bne,h6];rfl];rfl
      . rw [show(port !=6)=false by simp only[bne,h6];rfl]
        by_cases v1:v=1
        . subst v1
          cases hs:d.B8==0
          . rw[show(d.B8 !=0)=true by simp only[bne,hs];rfl];rfl
          . rw[show(d.B8 !=0)=false by simp only[bne,hs];rfl];rfl
        . by_cases v2:v=2
          . subst v2
            cases hs:d.B8==0
            . rw[show(d.B8 !=0)=true by simp only[bne,hs];rfl];rfl
            . rw[show(d.B8 !=0)=false by simp only[bne,hs];rfl];rfl
          . rw[show(v==1)=false by simpa using v1,show(v==2)=false by simpa using v2]
            cases v==0
            . rfl
            . have:Q8s d=(bif d.B8==2 then true else d.B8==3):=rfl
              rw[this]
              cases d.B8==2<;>cases d.B8==3<;>rfl
    . rfl
  . rfl
theorem Zj6(n:Q0n)(port v at0:Int):Zbz n m port v at0=Qhx n m port v at0:=by
  have pg:=Z6s h
  have pa:=Zcl h
  simp only[Zbz,Qk6,Z8v,Qgm,Qhx,Q9k,Tree.m,letv,pg,pa]
  have g1:decide (n.D8>=1)=!decide (n.D8<1):=xk
  have g2:decide (n.D8<=128)=!decide (n.D8>128):=by
    by_cases h:n.D8>128
    . rw[dY h,dN (by omega)];rfl
    . rw[dN h,dY (by omega)];rfl
  rw[g1,g2]
  cases port==7
  . cases port==8
    . cases h9:port==9
      . rw[show(port !=9)=true by simp only[bne,h9];rfl];rfl
      . rw [show(port !=9)=false by simp only[bne,h9];rfl]
        by_cases v1:v=1
        . subst v1
          cases decide (n.D8<1)<;>cases decide (n.D8>128)<;>cases Q22 m n.Frame<;>rfl
        . by_cases v2:v=2
          . subst v2;rfl
          . rw[show(v==1)=false by simpa using v1,show(v==2)=false by simpa using v2]
            cases v==0<;>rfl
    . rfl
  . rfl
theorem Z9v{d:Q0d}(hd:Q7w d)(e:Q0e):Qll d m e=((Q8v d m e).1,(Q8v d m e).2.2,(Q8v d m e).2.1):=by
  have hcl:Q03 m=m:=rfl
  have pg:=Z6f h d.B2
  have lp:decide ((e.C9.length:Int)>0)=!decide (e.C9=[]):=by
    cases e.C9 with
    |nil=>rfl
    |cons a l=>rw[dY (by simp),dN (by simp)];rfl
  have bad:(e.C9.length:Int)≠128->Q22 m d.B2=true->Q2m m (wrap .i64 d.B2) e.C9=(m,false):=λhl hp=>by
    rw[Qm2 h hd.opFrame]at hp
    have hp:=oY hp
    have h1:=hd.opFrame.1
    have h3:=h.p2
    have ew:i64.wrap d.B2=d.B2:=w64 (by omega) (by omega)
    simp only[Q2m,Q3a,Tree.m,letv,hcl,ew,Zae h,dY (⟨h1,hp⟩:0<=d.B2/\d.B2<P),show((e.C9.length:Int) !=128)=true by simpa using hl]
    rfl
  have good:(e.C9.length:Int)=128->Q22 m d.B2=true->Q2m m (wrap .i64 d.B2) e.C9=(Qkw m (wrap .i64 d.B2) e.C9,true):=λhl hp=>by
    rw[Qm2 h hd.opFrame]at hp
    have hp:=oY hp
    have h1:=hd.opFrame.1
    have h3:=h.p2
    have ew:i64.wrap d.B2=d.B2:=w64 (by omega) (by omega)
    rw[ew];exact Zdf h h1 hp (by omega)
  simp only[Qll,Q8t,Q8v,Q5v,Tree.m,letv,hcl,pg,lp]
  cases d.B8 !=1
  . cases e.C3 !=4
    . cases decide (e.N>1)
      . cases e.N==1
        . cases decide (e.C9=[])<;>rfl
        . cases hc:d.D4==1
          . cases decide (e.C9=[])<;>rfl
          . by_cases hl:(e.C9.length:Int)=128
            . rw[show((e.C9.length:Int) !=128)=false by simpa using hl]
              cases hp:Q22 m d.B2
              . rfl
              . rw[good hl hp];rfl
            . rw[show((e.C9.length:Int) !=128)=true by simpa using hl]
              cases hp:Q22 m d.B2
              . rfl
              . rw[bad hl hp];rfl
      . rfl
    . rfl
  . rfl
theorem Zd6{n:Q0n}(hn:Qiv n)(frame:List UInt8):Qs9 n m frame=((Qbe n m frame).1,(Qbe n m frame).2.2,(Qbe n m frame).2.1):=by
  have hcl:Q03 m=m:=rfl
  have pg:=Z6s h n.C0
  simp only[Qs9,Qbx,Qbe,Q9u,Tree.m,letv,hcl,pg]
  cases !n.C5
  . cases decide ((frame.length:Int)<1)
    . cases hf:decide ((frame.length:Int)>128)
      . cases hp:Q22 m n.C0
        . rfl
        . rw[Qm2 h hn.buffer]at hp
          have hp:=oY hp
          have h1:=hn.buffer.1
          have h3:=h.p2
          have ew:i64.wrap n.C0=n.C0:=w64 (by omega) (by omega)
          have hf:=oN hf
          obtain⟨b1,b2⟩:=(Tree.pp (vi h h1 hp)).2
          change isPg m n.C0 (Q56 m n.C0).1 at b1
          have tk:dC (dG ((Q56 m n.C0).1.length:Int)-dG (frame.length:Int)) (dD (dG (frame.length:Int)) (Q56 m n.C0).1)=(Q56 m n.C0).1.drop frame.length:=by
            rw[eF,eF]
            exact List.take_of_length_le (by simp)
          rw[ew,tk,Zga h h1 hp (by omega) b1]
          rfl
      . rfl
    . rfl
  . rfl
end
def ptab:List UInt8:=(dE 256).map λn=>fD (n%2+n/2%2+n/4%2+n/8%2+n/16%2+n/32%2+n/64%2+n/128%2)
def pt(n:Int):Int:=((fB (ptab.getD n.toNat 0):Nat):Int)
theorem zL(x:Int):Q61 x=wrap .i64 (wrap .u8 (wrap .u8 (wrap .u8 (pt (ishr .u32 x 24)+pt (iand .u32 (ishr .u32 x 16) 255))+pt (iand .u32 (ishr .u32 x 8) 255))+pt (iand .u32 x 255))):=by kernel_rfl
theorem pt8{a:Int}(h0:0<=a)(h1:a<256):pt a=a%2+a/2%2+a/4%2+a/8%2+a/16%2+a/32%2+a/64%2+a/128%2:=
 eq_of_beq (Qta (λa=>pt a==a%2+a/2%2+a/4%2+a/8%2+a/16%2+a/32%2+a/64%2+a/128%2) 256 (by kernel_rfl) h0 h1)
theorem zk{g:Int}(hg:U g):bits g [0,1,2,3,4,5,6,7,8,9,10,11,12,13,14,15,16,17,18,19,20,21,22,23,24,25,26,27,28,29,30,31] 0=pt (g%256)+pt (g/256%256)+pt (g/65536%256)+pt (g/16777216):=by
 rw[vK hg _ 0 (by decide) (by decide) (by decide),pt8 (by omega) (by omega),pt8 (by omega) (by omega),pt8 (by omega) (by omega),pt8 (by have:=hg.1;omega) (by have:=hg.2;omega)]
 obtain⟨g0,g1⟩:=hg
 simp only[List.map_cons,List.map_nil,List.sum_cons,List.sum_nil]
 have e: ∀i j:Nat,∀k:Int,i<8->k=2^j->g/2^(i+j)%2=(g/k%256)/2^i%2:=λi j k hi hk=>by
   subst hk
   rw[Nat.add_comm,dS,<-fG (dR (dP (by decide)))]
   generalize g/2^j=x
   have:i=0\/i=1\/i=2\/i=3\/i=4\/i=5\/i=6\/i=7:=by omega
   rcases this with rfl|rfl|rfl|rfl|rfl|rfl|rfl|rfl<;>simp<;>omega
 have e0: ∀i:Nat,i<8->g/2^i%2=(g%256)/2^i%2:=λi hi=>by have:=e i 0 1 hi rfl;simpa using this
 have e24:g/16777216%256=g/16777216:=by omega
 rw[e0 0 (by decide),e0 1 (by decide),e0 2 (by decide),e0 3 (by decide),e0 4 (by decide),e0 5 (by decide),e0 6 (by decide),e0 7 (by decide)]
 rw[e 0 8 256 (by decide) (by decide),e 1 8 256 (by decide) (by decide),e 2 8 256 (by decide) (by decide),e 3 8 256 (by decide) (by decide),e 4 8 256 (by decide) (by decide),e 5 8 256 (by decide) (by decide),e 6 8 256 (by decide) (by decide),e 7 8 256 (by decide) (by decide)]
 rw[e 0 16 65536 (by decide) (by decide),e 1 16 65536 (by decide) (by decide),e 2 16 65536 (by decide) (by decide),e 3 16 65536 (by decide) (by decide),e 4 16 65536 (by decide) (by decide),e 5 16 65536 (by decide) (by decide),e 6 16 65536 (by decide) (by decide),e 7 16 65536 (by decide) (by decide)]
 rw[e 0 24 16777216 (by decide) (by decide),e 1 24 16777216 (by decide) (by decide),e 2 24 16777216 (by decide) (by decide),e 3 24 16777216 (by decide) (by decide),e 4 24 16777216 (by decide) (by decide),e 5 24 16777216 (by decide) (by decide),e 6 24 16777216 (by decide) (by decide),e 7 24 16777216 (by decide) (by decide),e24]
 generalize g%256=a
 generalize g/256%256=b
 generalize g/65536%256=c
 generalize g/16777216=d
 simp only[show(2:Int)^0=1 from rfl,show(2:Int)^1=2 from rfl,show(2:Int)^2=4 from rfl,show(2:Int)^3=8 from rfl,show(2:Int)^4=16 from rfl,show(2:Int)^5=32 from rfl,show(2:Int)^6=64 from rfl,show(2:Int)^7=128 from rfl,Int.ediv_one]
 omega
theorem pt_le{a:Int}(h0:0<=a)(h1:a<256):0<=pt a/\pt a<=8:=by rw[pt8 h0 h1];omega
theorem Z6r{b:Q07}(hg:U b.C2):Qcc b=Qdq b/\0<=Qdq b/\Qdq b<=32:=by
 obtain⟨s8,s16,s24⟩:=shr_c b.C2
 have u8:U (ishr .u32 b.C2 8):=Qsp hg _
 have u16:U (ishr .u32 b.C2 16):=Qsp hg _
 have e:Qcc b=Q61 b.C2:=rfl
 rw[e,zL,yK,zk hg,m255 u8,m255 u16,m255 hg,s8,s16,s24]
 obtain⟨g0,g1⟩:=hg
 have p0:=pt_le (a:=b.C2%256) (by omega) (by omega)
 have p1:=pt_le (a:=b.C2/256%256) (by omega) (by omega)
 have p2:=pt_le (a:=b.C2/65536%256) (by omega) (by omega)
 have p3:=pt_le (a:=b.C2/16777216) (by omega) (by omega)
 have w8: ∀x,wrap .u8 x=x%256:=λx=>wrap_u8 x
 rw[w8,w8,w8,wrap_i64]
 omega
theorem Zg1{b:Q07}(h:okB b):Q6l b=Q3j b:=by
 obtain⟨e,l0,l1⟩:=Z6r h.2
 obtain⟨t0,t1⟩:=h.1
 simp only[Q6l,Q4y,Q3j,Q95,Tree.m,letv,e]
 rw[wrap_u32,wrap_u64,wrap_u64,dO l0 (by omega),dO l0 (by omega),dO t0 (by omega)]
theorem Zmx{b:Q07}(h:okB b)(port:Int):Qps b port=Q4v b port:=by
 simp only[Qps,Qbs,Q4v,Q5j,Tree.m,letv,(Z6r h.2).1]
theorem xam(g:Int)(z:Nat):g%2^(z+1)=g%2^z+2^z*(g/2^z%2):=by
 have hp:(0:Int)<2^z:=dP (by decide)
 have h1:=fH g (2^z)
 have h2:=fH (g/2^z) 2
 have h3:(g/2^z)/2=g/2^(z+1):=by rw[fI,fG (dR hp)]
 have h4:=fH g (2^(z+1))
 rw[h3]at h2
 have h5:(2:Int)^(z+1)*(g/2^(z+1))=2^z*(2*(g/2^(z+1))):=by rw[fI,Int.mul_assoc]
 have h6:(2:Int)^z*(g/2^z)=2^z*(2*(g/2^(z+1)))+2^z*(g/2^z%2):=by rw[<-Int.mul_add,h2]
 omega
theorem qaG{b:Q07}(hg:U b.C2){P:Nat}(hP:P<=32):(Q50 b P).w (λr=>r=decide (b.C2<2^P)):=by
 unfold Q50
 have fin: ∀v:Int,0<=v->v<=32->wrap .u64 v=(v.toNat:Int):=λv h0 h1=>by rw[wrap_u64];omega
 refine w_lp (inv:=λz:Int=>0<=z/\z<=32/\b.C2%2^z.toNat<2^P) (μ:=Q5u b P) ⟨by decide,by decide,by have:(0:Int)<2^P:=dP (by decide);simpa using this⟩ (cO _) λz ⟨z0,z1,z2⟩=> ?_
 refine w_br (λhb=> ?_) (λhb=> ?_)
 . have hb:=oY hb
   have ew:i64.wrap (z+1)=z+1:=w64 (by omega) (by omega)
   have bt:iand .u32 (ishr .u32 b.C2 (wrap .u64 z)) 1=b.C2/2^z.toNat%2:=by
     rw[fin z z0 z1,and1 (Qsp hg _),Qrf _ (by omega)]
   have bp:=xam b.C2 z.toNat
   have zt:(z+1).toNat=z.toNat+1:=by omega
   refine w_cn (dY (by rw[wrap_u64];omega)) ?_
   rw[bt]
   refine w_br (λe=>w_br (λhp=> ?_) (λhp=>w_nx ?_)) (λe=>w_nx ?_)
   . have e:=eq_of_beq e
     have hp:=oY hp
     show false=_
     refine(dN λhlt=> ?_).symm
     have hle:(2:Int)^P<=2^z.toNat:=by exact_mod_cast dU (show 0<2 by decide) (show P<=z.toNat by omega)
     have:b.C2/2^z.toNat=0:=Int.ediv_eq_zero_of_lt hg.1 (by omega)
     rw[this]at e;cases e
   . have e:=eq_of_beq e
     have hp:=oN hp
     show(0<=i64.wrap (z+1)/\i64.wrap (z+1)<=32/\b.C2%2^(i64.wrap (z+1)).toNat<2^P)/\(32-i64.wrap (z+1)).toNat<(32-z).toNat
     rw[ew,zt]
     have hle:(2:Int)^(z.toNat+1)<=2^P:=by exact_mod_cast dU (show 0<2 by decide) (show z.toNat+1<=P by omega)
     have:=Int.emod_lt_of_pos b.C2 (show(0:Int)<2^(z.toNat+1) from dP (by decide))
     exact⟨⟨by omega,by omega,by omega⟩,by omega⟩
   . have e: ¬b.C2/2^z.toNat%2=1:=by simpa using e
     have e:b.C2/2^z.toNat%2=0:=by omega
     rw[e]at bp
     show(0<=i64.wrap (z+1)/\i64.wrap (z+1)<=32/\b.C2%2^(i64.wrap (z+1)).toNat<2^P)/\(32-i64.wrap (z+1)).toNat<(32-z).toNat
     rw[ew,zt,bp]
     exact⟨⟨by omega,by omega,by omega⟩,by omega⟩
 . have hb:=oN hb
   have:z=32:=by omega
   subst this
   show true=_
   refine(dY ?_).symm
   have h2:b.C2%2^(32:Int).toNat=b.C2:=dO hg.1 hg.2
   rwa [h2]at z2
theorem Zjn{b:Q07}(hg:U b.C2){P:Nat}(hP:P<=32):Q2j b P=Q8z b P:=by
 have r:=(Tree.pp (qaG hg hP)).2
 change Q8z b P=_ at r
 rw[r,eM,Z1q hg,decide_eq_true_eq]
theorem zeros:strings_Repeat [(0:UInt8)] 128=cR 128 0:=by kernel_rfl
theorem zaG{P:Nat}{m:List Int}(hm:Q0x P m){b:Q07}{port:Int}{v:Int}(hv:U v)(hp:v<P)(h10:port=10)(hb:(iand .u32 (ishr .u32 b.C2 v) 1==0)=true):(Q4e b m port v).w (λr=>r.1={C6:=b.C6,C2:=ior .u32 b.C2 (ishl .u32 1 v)}/\Q0x P r.2/\ ∀k:Nat,byt r.2 k=if v*128<=k/\(k:Int)<v*128+128 then 0 else byt m k):=by
 have hv0:decide (0<=v)=true:=dY hv.1
 have h2:=hm.p2
 have pg:Q22 m v=true:=by rw[Qm2 hm hv];exact dY hp
 obtain⟨v1,v2⟩:=hv
 subst h10
 unfold Q4e
 refine w_br (λ_=>w_lv λx0 hx=>w_br (λ_=>w_cn hv0 (w_br (λ_=>w_cn hv0 ?_) (λh=>by rw[hb]at h;cases h))) (λh=>by rw[hx,pg]at h;cases h)) (λh=>by cases h)
 refine w_lp (inv:=λz=>0<=z.1/\z.1<=32/\Q0x P z.2/\ ∀k:Nat,byt z.2 k=if v*128<=k/\(k:Int)<v*128+4*z.1 then 0 else byt m k) (μ:=Qh8 b m 10 v) ⟨show(0:Int)<=0 by decide,show(0:Int)<=32 by decide,hm,λk=>by rw[if_neg];show¬(_/\_<_+4*(0:Int));omega⟩ (cO _) (λz hz=> ?_)
 obtain⟨z1,z2,z3,z4⟩:=hz
 have hl:=z3.len
 refine w_br (λh=> ?_) (λh=>⟨rfl,z3,λk=> ?_⟩)
 . have h:=oY h
   have e:wrap i64 (wrap i64 (wrap i64 v*32)+z.1)=v*32+z.1:=by rw[wrap_i64,wrap_i64,wrap_i64];omega
   refine w_cn (by rw[e];simp [bT];omega) (w_nx ?_)
   have ew:i64.wrap (z.1+1)=z.1+1:=by rw[wrap_i64];omega
   show(0<=i64.wrap (z.1+1)/\i64.wrap (z.1+1)<=32/\Q0x P (dH _ _ _)/\ ∀k:Nat,byt (dH z.2 (dG (wrap i64 (wrap i64 (wrap i64 v*32)+z.1))) 0) k=if v*128<=(k:Int)/\(k:Int)<v*128+4*i64.wrap (z.1+1) then 0 else _)/\(32-i64.wrap (z.1+1)).toNat<(32-z.1).toNat
   rw[ew,e]
   refine⟨⟨by omega,by omega,⟨by simp [hl],z3.p1,z3.p2,Qzd z3.u U_0 _⟩,λk=> ?_⟩,by omega⟩
   rw[Zj2 (by omega)]
   by_cases hc:k/4=(v*32+z.1).toNat
   . rw[if_pos hc,if_pos (by omega)]
     have:k%4=0\/k%4=1\/k%4=2\/k%4=3:=by omega
     rcases this with h|h|h|h<;>rw[h]<;>rfl
   . rw[if_neg hc,z4 k]
     by_cases hd:v*128<=(k:Int)/\(k:Int)<v*128+4*z.1
     . rw[if_pos hd,if_pos (by omega)]
     . rw[if_neg hd,if_neg (by omega)]
 . have h:=oN h
   show byt z.2 k=_
   rw[z4 k,show z.1=32 by omega];rfl
theorem bitv{g v:Int}(hg:U g)(v0:0<=v)(v1:v<32):(iand .u32 g (ishl .u32 1 v)==0)=(iand .u32 (ishr .u32 g v) 1==0):=by
 obtain⟨z,rfl⟩: ∃z:Nat,v=z:=⟨v.toNat,by omega⟩
 obtain⟨n,rfl⟩: ∃n:Nat,g=n:=⟨g.toNat,by have:=hg.1;omega⟩
 have hz:z<32:=by omega
 have hlt:(2:Nat)^z<4294967296:=by have:=eD (show 1<2 by omega) hz;simpa using this
 rw[and1 (Qsp hg _),Qrf z (by omega),vg v0 v1,eF]
 have hc:((2:Int)^z)=((2^z:Nat):Int):=by simp
 generalize hq:2^z=q at*
 rw[hc,Zjp hg ⟨by omega,by omega⟩,eF,eF,<-hq]
 have e1:(n&&&2^z)=0↔n/2^z%2=0:=by
   have t:n.testBit z=decide (n/2^z%2=1):=Nat.testBit_eq_decide_div_mod_eq
   constructor
   . intro h
     have h2:(n&&&2^z).testBit z=false:=by rw[h];exact fJ z
     rw[fK,Nat.testBit_two_pow_self,Bool.and_true,t]at h2
     have:=oN h2
     omega
   . intro h
     have t0:n.testBit z=false:=by rw[t];exact dN (by omega)
     apply eR
     intro i
     rw[fK,Nat.testBit_two_pow,fJ]
     by_cases hi:z=i
     . subst hi;rw[t0];rfl
     . rw[dN hi,Bool.and_false]
 rw[eM,beq_iff_eq,beq_iff_eq]
 constructor
 . intro h;have:=e1.1 (by omega);omega
 . intro h;have:=e1.2 (by omega);omega
theorem Zhi{P:Nat}{m:List Int}(h:Q0x P m){b:Q07}(hb:okB b)(port:Int){v:Int}(hv:U v):Q7i b m port v=Q6 b m port v:=by
  have hcl:Q03 m=m:=rfl
  have hp:=Q3c h
  have h2:=h.p2
  have ew:i64.wrap v=v:=w64 (by have:=hv.1;omega) (by have:=hv.2;omega)
  have pe:=Qm2 h hv
  by_cases h32:v<32
  . have bv :=bitv hb.2 hv.1 h32
    by_cases h10:port=10
    . by_cases hP:v<P
      . cases hz:iand .u32 (ishr .u32 b.C2 v) 1==0
        . simp only[Q7i,Q3u,Q6,Q4e,Tree.m,letv,hcl,hp,ew,pe,bv,hz,h10,dY hP,dN (show¬v>=32 by omega)]
          rfl
        . obtain⟨g1,g2,g3⟩:=(Tree.pp (zaG h hv hP h10 hz)).2
          change(Q6 b m port v).1=_ at g1
          change Q0x P (Q6 b m port v).2 at g2
          change∀k:Nat,byt (Q6 b m port v).2 k=_ at g3
          obtain⟨s1,s2,s3⟩:=(Tree.pp (Z1b h hv.1 hP (s:=cR 128 0) (by simp))).2
          have em:(Q2m m v (cR 128 0)).1=(Q6 b m port v).2:=by
            refine Zjc (s2.len.trans g2.len.symm) s2.u g2.u λk=> ?_
            rw[g3 k]
            refine(s3 k).trans ?_
            by_cases hk:v*128<=(k:Int)/\(k:Int)<v*128+128
            . rw[if_pos hk,if_pos hk]
              have:(cR 128 (0:UInt8)).getD ((k:Int)-v*128).toNat 0=0:=by
                rw[cP,List.getElem?_replicate]
                split<;>rfl
              rw[this];rfl
            . rw[if_neg hk,if_neg hk]
          have el:Q7i b m port v=({C6:=b.C6,C2:=ior .u32 b.C2 (ishl .u32 1 v)},(Q2m m v (cR 128 0)).1):=by
            simp only[Q7i,Q3u,Tree.m,letv,hcl,hp,ew,bv,hz,h10,dY hP,dN (show¬v>=32 by omega),zeros]
            rfl
          rw[el,em,<-g1]
      . simp only[Q7i,Q3u,Q6,Q4e,Tree.m,letv,hcl,hp,ew,pe,h10,dN hP,dN (show¬v>=32 by omega)]
        rfl
    . simp only[Q7i,Q3u,Q6,Q4e,Tree.m,letv,hcl,dY h32,dN (show¬v>=32 by omega),show(port==10)=false by simpa using h10]
      cases port==11<;>rfl
  . simp only[Q7i,Q3u,Q6,Q4e,Tree.m,letv,hcl,pe,dN h32,dY (show v>=32 by omega),dN (show¬v<P by omega)]
    cases port==10<;>cases port==11<;>rfl
structure okV(m:Q00):Prop where
 cpu:Q29 m.B1
 mem: ∀w∈m.Mem,U w
 disk:Q7w m.A9
 nic:Qiv m.B9
 bal:okB m.A1
 cnt:0<=m.A4
theorem Qo6(m:List Int)(hm: ∀w∈m,U w):Q0q m=Q3o m/\(Q0q m=0\/ ∃P:Nat,1<=P/\Q0x P m):=by
 refine⟨rfl,?_⟩
 simp only[Q0q,Q82,Tree.m]
 cases h1:dF (m.length:Int) 32 !=0
 . cases h2:decide ((m.length:Int)>1024)
   . have h1:dF (m.length:Int) 32=0:=by simpa using h1
     have h2:=oN h2
     rw[eH (by omega)]at h1
     by_cases h0:m.length=0
     . left;rw[h0];rfl
     . right;exact⟨m.length/32,by omega,⟨by omega,by omega,by omega,hm⟩⟩
   . left;rfl
 . left;rfl
theorem rcnd{a x:Bool}:(bif !a then false else x)=true↔a=true/\x=true:=by cases a<;>simp
theorem yL(m:Q00):Q8e m=true↔ ¬(Q3o m.Mem<1)/\Q6f m.B1/\Qhv m.A2=true/\Qcb m.A7=true/\Qes m.A9 (Q3o m.Mem)=true/\Qhc m.B9 (Q3o m.Mem)=true/\Q8z m.A1 (Q3o m.Mem)=true/\m.A4<=1152921504606846976/\ ¬(m.A3=true/\m.A6=true):=by
 simp only[Q8e,Qw2,Tree.m,letv]
 rw[cnd2,cnd2,cnd2,cnd2,cnd2,cnd2,rcnd,rcnd,rcnd,rcnd,rcnd]
 simp only[decide_eq_false_iff_not,Int.not_lt,bne_eq_false_iff_eq,gt_iff_lt]
 have l:((bif decide (m.A4<=1152921504606846976) then(bif m.A3 then !m.A6 else true) else false)=true)↔m.A4<=1152921504606846976/\ ¬(m.A3=true/\m.A6=true):=by
   by_cases hc:m.A4<=1152921504606846976
   . rw[dY hc]
     cases m.A3<;>cases m.A6<;>simp [hc]
   . rw[dN hc];simp [hc]
 rw[l]
 constructor
 . rintro⟨a1,a2,a3,a4,a5,a6,a7⟩
   exact⟨by omega,⟨a2,a3,a4,a5,a6⟩,a7⟩
 . rintro⟨a1,⟨a2,a3,a4,a5,a6⟩,a7⟩
   exact⟨by omega,a2,a3,a4,a5,a6,a7⟩
theorem Qzw{m:Q00}(h:okV m):Q14 m=Q8e m:=by
 rw[eM,Qos,yL,xg]
 obtain⟨e,c⟩:=Qo6 m.Mem h.mem
 simp only[aE,<-e]
 rcases c with c|⟨P,hP,hm⟩
 . constructor
   . rintro⟨a,_⟩;exact absurd c a
   . rintro⟨a,_⟩;omega
 . rw[Q3c hm,Z4b,Zbu,Zgf,Zjn h.bal.2 hm.p2]
   constructor
   . rintro⟨a1,a2,a3,a4,a5,a6,a7,a8,a9⟩;exact⟨by omega,a2,a5,a6,a7,a8,a9,a3,a4⟩
   . rintro⟨a1,a2,a5,a6,a7,a8,a9,a3,a4⟩;exact⟨by omega,a2,a3,a4,a5,a6,a7,a8,a9⟩
def Zag(a b c d e:Bool):Int:=ior .u32 (ior .u32 (ior .u32 (ior .u32 (Q98 a 0) (Q98 b 1)) (Q98 c 2)) (Q98 d 3)) (Q98 e 4)
theorem mlines(m:Q00):Q9t m=Zag (Qg6 m.A7) (Q9e m.A2) (Q8s m.A9) (Qmd m.B9) (Q6l m.A1):=by
 unfold Q9t Q6x
 simp only[Tree.m,letv]
 generalize Qg6 m.A7=a
 generalize Q9e m.A2=b
 generalize Q8s m.A9=c
 generalize Qmd m.B9=d
 generalize Q6l m.A1=e
 cases a<;>cases b<;>cases c<;>cases d<;>cases e<;>kernel_rfl
theorem Znc(a b c d e:Bool):0<=Zag a b c d e/\Zag a b c d e<32:=by
 cases a<;>cases b<;>cases c<;>cases d<;>cases e<;>decide
theorem rlines(m:Q00):Qdj m=Zag (Q9j m.A7) (Q57 m.A2) (Qaq m.A9) (Qd2 m.B9) (Q3j m.A1):=rfl
section
variable {m:Q00} (h:okV m)
include h
theorem Z6w:Q9t m=Qdj m:=by
 rw[mlines,rlines,qL,Zg1 h.bal];rfl
theorem Qx4:Q55 m=Q2r m:=by
 have e:=Z6w h
 simp only[Q55,Q4z,Q2r,Q80,Tree.m,letv,e]
theorem Zd9:Qbi m=Qcw m:=by
 have e:=Qx4 h
 simp only[Qbi,Q2u,Qcw,Qdc,Tree.m,letv,e]
theorem Qny:Q25 m=!Q24 m:=by
 have e1:=Qzw h
 have e2:=Zd9 h
 have e3:decide (m.A4>=1152921504606846976)=!decide (m.A4<1152921504606846976):=xk
 simp only[Q25,Q3s,Q24,Q92,Tree.m,letv,e1,e2,e3]
 cases Q8e m<;>cases m.A6<;>cases Qcw m<;>cases decide (m.A4<1152921504606846976)<;>rfl
theorem Z6x:0<=Q2r m/\Q2r m<32:=by
 have e:Q2r m=iand .u32 (Qdj m) m.B1.B4.a7:=rfl
 have l:=Znc (Q9j m.A7) (Q57 m.A2) (Qaq m.A9) (Qd2 m.B9) (Q3j m.A1)
 rw[<-rlines]at l
 rw[e,Zjp ⟨l.1,by omega⟩ h.cpu.a7]
 have:=eC (n:=(Qdj m).toNat) (m:=m.B1.B4.a7.toNat)
 omega
def low(l:Int):Int:=if l%2=1 then 0 else if l/2%2=1 then 1 else if l/4%2=1 then 2 else if l/8%2=1 then 3 else 4
end
theorem cases32{l:Int}(h0:0<=l)(h1:l<32):l=0\/l=1\/l=2\/l=3\/l=4\/l=5\/l=6\/l=7\/l=8\/l=9\/l=10\/l=11\/l=12\/l=13\/l=14\/l=15\/l=16\/l=17\/l=18\/l=19\/l=20\/l=21\/l=22\/l=23\/l=24\/l=25\/l=26\/l=27\/l=28\/l=29\/l=30\/l=31:=by omega
def intr(m:Q00)(l:Int):Q02:=bif iand .u32 m.B1.B4.a0 2==0 then m.B1 else bif l==0 then m.B1 else Q2l m.B1 (wrap .i64 (16+low l)) 0
theorem rintr{m:Q00}(h:okV m):Q0j m=intr m (Q2r m):=by
 obtain⟨l0,l1⟩:=Z6x h
 unfold Q0j Q45
 simp only[Tree.m,letv]
 revert l0 l1
 generalize Q2r m=l
 intro l0 l1
 unfold intr
 cases iand .u32 m.B1.B4.a0 2==0
 . rcases cases32 l0 l1 with rfl|rfl|rfl|rfl|rfl|rfl|rfl|rfl|rfl|rfl|rfl|rfl|rfl|rfl|rfl|rfl|rfl|rfl|rfl|rfl|rfl|rfl|rfl|rfl|rfl|rfl|rfl|rfl|rfl|rfl|rfl|rfl<;>kernel_rfl
 . rfl
def beg(m:Q00)(c:Q02):Q00:={B1:=c,Mem:=m.Mem,A2:=m.A2,A7:=m.A7,A9:=m.A9,B9:=m.B9,A1:=m.A1,A4:=m.A4,A3:=false,A6:=m.A6}
theorem Z66{m:Q00}(h:okV m)(hst:m.B1.B4.a0<=31):Q0s m=beg m (Q0j m):=by
 obtain⟨l0,l1⟩:=Z6x h
 have tr: ∀k b,Q47 m.B1 k b=Q2l m.B1 k b:=Qoz h.cpu.a0.1 hst
 have e:Q55 (beg m m.B1)=Q2r m:=Qx4 (m:=beg m m.B1) ⟨h.cpu,h.mem,h.disk,h.nic,h.bal,h.cnt⟩
 rw[rintr h]
 unfold Q0s Q2n
 simp only[Tree.m,letv]
 rw[show Q55 {B1:=m.B1,Mem:=m.Mem,A2:=m.A2,A7:=m.A7,A9:=m.A9,B9:=m.B9,A1:=m.A1,A4:=m.A4,A3:=false,A6:=m.A6}=Q2r m from e]
 revert l0 l1
 generalize Q2r m=l
 intro l0 l1
 unfold intr
 simp only[<-tr]
 cases iand .u32 m.B1.B4.a0 2==0
 . rcases cases32 l0 l1 with rfl|rfl|rfl|rfl|rfl|rfl|rfl|rfl|rfl|rfl|rfl|rfl|rfl|rfl|rfl|rfl|rfl|rfl|rfl|rfl|rfl|rfl|rfl|rfl|rfl|rfl|rfl|rfl|rfl|rfl|rfl|rfl<;>(show _=_;kernel_rfl)
 . rfl
theorem ports{p:Int}:p=0\/p=1\/p=2\/p=3\/p=4\/p=5\/p=6\/p=7\/p=8\/p=9\/p=10\/p=11\/p<0\/12<=p:=by omega
theorem qan{m:Q00}(hb:okB m.A1)(port clock:Int):Q12 m port clock=((Qb1 m port clock).2,(Qb1 m port clock).1):=by
 have e1:=Zoq m.A2
 have e2: ∀p,Qvg m.A9 p=Qhf m.A9 p:=λ_=>rfl
 have e3:=Zmb m.B9
 have e4:=Zmx hb
 have e5:Z02 m.A7=Qer m.A7:=rfl
 simp only[Q12,Q46,Qb1,Qf7,Tree.m,letv,e1,e2,e3,e4,e5]
 rcases ports (p:=port) with rfl|rfl|rfl|rfl|rfl|rfl|rfl|rfl|rfl|rfl|rfl|rfl|h|h
 all_goals first|rfl|skip
 . have n: ∀k:Int,0<=k->(port==k)=false:=λk hk=>beq_eq_false_iff_ne.2 (by omega)
   have c:Q4t m.A2 port=(m.A2,0):=by
     simp only[Q4t,Q38,Tree.m,n 0 (by decide),n 1 (by decide),cond_false]
   simp only[n 0 (by decide),n 1 (by decide),n 2 (by decide),n 3 (by decide),n 4 (by decide),n 5 (by decide),n 6 (by decide),n 7 (by decide),n 8 (by decide),n 9 (by decide),n 10 (by decide),n 11 (by decide),cond_false,dY (show port<=1 by omega),cond_true,c]
 . have n: ∀k:Int,k<12->(port==k)=false:=λk hk=>beq_eq_false_iff_ne.2 (by omega)
   have c:Q4v m.A1 port=0:=by
     simp only[Q4v,Q5j,Tree.m,n 10 (by decide),n 11 (by decide),cond_false]
   simp only[n 0 (by decide),n 1 (by decide),n 2 (by decide),n 3 (by decide),n 4 (by decide),n 5 (by decide),n 6 (by decide),n 7 (by decide),n 8 (by decide),n 9 (by decide),n 10 (by decide),n 11 (by decide),cond_false,dN (show¬port<=1 by omega),dN (show¬port<=6 by omega),dN (show¬port<=9 by omega),c]
theorem vL{P:Nat}{m:Q00}(hm:Q0x P m.Mem)(hb:okB m.A1)(port:Int){v:Int}(hv:U v):Q23 m port v m.A4=((Q8j m port v).2,(Q8j m port v).1):=by
 have e1:=Zf1 hm m.A9
 have e2:=Zj6 hm m.B9
 have e3:=Zhi hm hb port hv
 have e4:=xL m.A7 v
 simp only[Q23,Q3l,Q8j,Q9z,Tree.m,letv,e1,e2,e3,e4]
 rcases ports (p:=port) with rfl|rfl|rfl|rfl|rfl|rfl|rfl|rfl|rfl|rfl|rfl|rfl|h|h
 all_goals first|rfl|skip
 . have n: ∀k:Int,0<=k->(port==k)=false:=λk hk=>beq_eq_false_iff_ne.2 (by omega)
   simp only[n 0 (by decide),n 1 (by decide),n 2 (by decide),n 3 (by decide),n 4 (by decide),n 5 (by decide),n 6 (by decide),n 7 (by decide),n 8 (by decide),n 9 (by decide),n 10 (by decide),n 11 (by decide),cond_false,dY (show port<=2 by omega),cond_true]
 . have n: ∀k:Int,k<12->(port==k)=false:=λk hk=>beq_eq_false_iff_ne.2 (by omega)
   have c:Q6 m.A1 m.Mem port v=(m.A1,m.Mem):=by
     simp only[Q6,Q4e,Tree.m,n 10 (by decide),n 11 (by decide),cond_false]
   simp only[n 0 (by decide),n 1 (by decide),n 2 (by decide),n 3 (by decide),n 4 (by decide),n 5 (by decide),n 6 (by decide),n 7 (by decide),n 8 (by decide),n 9 (by decide),n 10 (by decide),n 11 (by decide),cond_false,dN (show¬port<=2 by omega),dN (show¬port<=6 by omega),dN (show¬port<=9 by omega),c]
def tick(n:Q00)(c:Q02)(w h:Bool):Q00:={B1:=c,Mem:=n.Mem,A2:=n.A2,A7:=n.A7,A9:=n.A9,B9:=n.B9,A1:=n.A1,A4:=wrap .u64 (n.A4+1),A3:=w,A6:=h}
def withX(m:Q00)(c:Q02)(mem:List Int):Q00:={B1:=c,Mem:=mem,A2:=m.A2,A7:=m.A7,A9:=m.A9,B9:=m.B9,A1:=m.A1,A4:=m.A4,A3:=false,A6:=m.A6}
def finP(n:Q00)(e:Q0w)(clock at0:Int):Q00×List Q09:=
 bif e.C3==1 then
   (bif e.D7 !=0 then(tick (Q12 n e.C7 clock).1 {X:=A16.of 0 (dH (A16.l (Q12 n e.C7 clock).1.B1.X) e.D7.toNat (Q12 n e.C7 clock).2),Pc:=(Q12 n e.C7 clock).1.B1.Pc,B4:=(Q12 n e.C7 clock).1.B1.B4} (Q12 n e.C7 clock).1.A3 (Q12 n e.C7 clock).1.A6,[])
   else(tick (Q12 n e.C7 clock).1 (Q12 n e.C7 clock).1.B1 (Q12 n e.C7 clock).1.A3 (Q12 n e.C7 clock).1.A6,[]))
 else bif e.C3==2 then(tick (Q23 n e.C7 e.Value at0).1 (Q23 n e.C7 e.Value at0).1.B1 (Q23 n e.C7 e.Value at0).1.A3 (Q23 n e.C7 e.Value at0).1.A6,(Q23 n e.C7 e.Value at0).2)
 else bif e.C3==3 then(tick n n.B1 true n.A6,[]) else bif e.C3==4 then(tick n n.B1 n.A3 true,[]) else(tick n n.B1 n.A3 n.A6,[])
def finR(n:Q00)(e:Q0w)(clock:Int):List Q09×Q00:=
 bif e.C3==1 then([],tick (Qb1 n e.C7 clock).2 (Q1q (Qb1 n e.C7 clock).2.B1 e.D7 (Qb1 n e.C7 clock).1) (Qb1 n e.C7 clock).2.A3 (Qb1 n e.C7 clock).2.A6)
 else bif e.C3==2 then((Q8j n e.C7 e.Value).1,tick (Q8j n e.C7 e.Value).2 (Q8j n e.C7 e.Value).2.B1 (Q8j n e.C7 e.Value).2.A3 (Q8j n e.C7 e.Value).2.A6)
 else bif e.C3==3 then([],tick n n.B1 true n.A6) else bif e.C3==4 then([],tick n n.B1 n.A3 true) else([],tick n n.B1 n.A3 n.A6)
theorem xX(m:Q00)(clock:Int):Q10 m clock=finR (withX m (Q68 (Q0j m) m.Mem).1 (Q68 (Q0j m) m.Mem).2.2) (Q68 (Q0j m) m.Mem).2.1 clock:=by kernel_rfl
theorem qM(m:Q00)(clock:Int):Qj0 m clock=bif !Q25 m then(m,[]) else finP {B1:=(Q6j (Q0s m).B1 (Q0s m).Mem).1,Mem:=(Q6j (Q0s m).B1 (Q0s m).Mem).2.1,A2:=(Q0s m).A2,A7:=(Q0s m).A7,A9:=(Q0s m).A9,B9:=(Q0s m).B9,A1:=(Q0s m).A1,A4:=(Q0s m).A4,A3:=(Q0s m).A3,A6:=(Q0s m).A6} (Q6j (Q0s m).B1 (Q0s m).Mem).2.2 clock m.A4:=by kernel_rfl
theorem zan(m:List Int):Qp4 m=m:=by
 simp [Qp4,Q9f,Tree.m]
theorem Z3z(m:Q00):Qg9 m=m:=by
 simp only[Qg9,Q86,Tree.m,letv,zan]
def Zfv(m:Q00)(clock:Int):Q00×List Q09:=bif Q24 m then(m,[]) else((Q10 m clock).2,(Q10 m clock).1)
def Qnu(m:Q00)(e:Q0e):Tree (Q00×Bool):=
 .an (Q8u m) (.lv (Qg9 m) λ(x0:Q00)=> .lv (Q8e x0) λ(x1:Bool)=> .br (!x1) (.lf (x0,false)) (.an (Qr6 x0 e) (.lv (Q1s x0 e) λ(x2:Bool×Q00)=> .lf (x2.2,x2.1))))
def Qq5 m e:=(Qnu m e).m
theorem Zlz(m:Q00)(clock:Int):Zfv m clock=bif Q24 m then(m,[]) else((Q10 m clock).2,(Q10 m clock).1):=rfl
theorem xM{P:Nat}{n:Q00}(hm:Q0x P n.Mem)(hb:okB n.A1){e:Q0w}(hr:0<=e.D7/\e.D7<16)(hv:U e.Value)(clock:Int):finP n e clock n.A4=((finR n e clock).2,(finR n e clock).1):=by
 unfold finP finR
 rw[qan hb e.C7 clock,vL hm hb e.C7 hv]
 cases e.C3==1
 . cases e.C3==2
   . cases e.C3==3
     . cases e.C3==4<;>rfl
     . rfl
   . rfl
 . generalize Qb1 n e.C7 clock=r
   have s:=Qzz r.2.B1 hr r.1
   show(bif e.D7 !=0 then _ else _)=(tick r.2 (Q1q r.2.B1 e.D7 r.1) r.2.A3 r.2.A6,[])
   rw[<-s]
   simp only[Qa7,Qcy,Tree.m]
   cases e.D7 !=0<;>rfl
theorem yk{m:Q00}(h:okV m)(clock:Int):Qj0 m clock=Zfv m clock:=by
 rw[qM,Zlz,Qny h]
 cases hs:Q24 m
 . have hr:Q25 m=true:=by rw[Qny h,hs];rfl
   obtain⟨hm,hh,hct⟩:=Qtb hr
   obtain⟨g1,g2,g3,g4,g5⟩:=(Qos m).1 hm
   rcases(Qo6 m.Mem h.mem).2 with c|⟨P,hP,hmem⟩
   . exact absurd c g1
   have okm:okS P m:=⟨h.cpu,hmem,h.disk,h.nic,h.bal.1,h.bal.2⟩
   obtain⟨b1,b2,b3,_⟩:=(Tree.pp (Z2k okm g2)).2
   change Q6f (Q0s m).B1 at b1
   change okS P (Q0s m) at b2
   change(Q0s m).Mem=m.Mem at b3
   have be:=Z66 h g2.st
   have b1':Q6f (Q0j m):=by have:=b1;rw[be]at this;exact this
   have b2':Q29 (Q0j m):=by have:=b2.cpu;rw[be]at this;exact this
   have ex:=Ze0 hmem b2' b1'.st
   have er:=(Tree.pp (Zld b2' hmem)).2
   change 0<=(Q6j (Q0j m) m.Mem).2.2.D7/\(Q6j (Q0j m) m.Mem).2.2.D7<16 at er
   obtain⟨d1,d2,d3⟩:=(Tree.pp (do_w b2' hmem)).2
   change U (Q68 (Q0j m) m.Mem).2.1.Value at d2
   change Q0x P (Q68 (Q0j m) m.Mem).2.2 at d3
   rw[ex]at er
   rw[xX,be]
   show finP {B1:=(Q6j (Q0j m) m.Mem).1,Mem:=(Q6j (Q0j m) m.Mem).2.1,A2:=m.A2,A7:=m.A7,A9:=m.A9,B9:=m.B9,A1:=m.A1,A4:=m.A4,A3:=false,A6:=m.A6} (Q6j (Q0j m) m.Mem).2.2 clock m.A4=_
   rw[ex]
   exact xM (n:=withX m (Q68 (Q0j m) m.Mem).1 (Q68 (Q0j m) m.Mem).2.2) d3 h.bal er d2 clock
 . rfl
theorem Zmd{m:Q00}(h:okV m)(e:Q0e):Qgd m e=Qq5 m e:=by
 have hcl:Q03 m.Mem=m.Mem:=rfl
 have mm:=Qzw h
 have t1:Qq3 m.A7=Qot m.A7:=rfl
 have t2: ∀b,Qy4 m.A2 b=Qtt m.A2 b:=λ_=>rfl
 simp only[Qgd,Qc9,Qq5,Qnu,Q1s,Q64,Tree.m,letv,Z3z,hcl,t1,t2]
 rw[show Q14 {B1:=m.B1,Mem:=m.Mem,A2:=m.A2,A7:=m.A7,A9:=m.A9,B9:=m.B9,A1:=m.A1,A4:=m.A4,A3:=m.A3,A6:=m.A6}=Q8e m from mm]
 cases hM:Q8e m
 . rfl
 have hM':Q14 m=true:=mm.trans hM
 rcases(Qo6 m.Mem h.mem).2 with c|⟨P,hP,hmem⟩
 . exact absurd c ((Qos m).1 hM').1
 have cs:=Z9v hmem h.disk e
 have rs:=Zd6 hmem h.nic e.C9
 clear mm hM hM' hcl h
 obtain⟨c,mem,con,ti,d,n,b,ct,w,hl⟩:=m
 cases hl
 . by_cases k2:e.C3=2
   . rw[k2];cases e.N==0<;>cases decide (e.C9=[])<;>rfl
   by_cases k3:e.C3=3
   . rw[k3];cases decide (e.N<=255)<;>cases decide (e.C9=[])<;>rfl
   by_cases k4:e.C3=4
   . rw[k4,cs];rfl
   by_cases k5:e.C3=5
   . rw[k5,rs];cases e.N==0<;>rfl
   by_cases k6:e.C3=6
   . rw[k6];cases decide (e.C9=[])<;>rfl
   . rw[show(e.C3==2)=false by simpa using k2,show(e.C3==3)=false by simpa using k3,show(e.C3==4)=false by simpa using k4,show(e.C3==5)=false by simpa using k5,show(e.C3==6)=false by simpa using k6]
     rfl
 . rfl
theorem xan{l acts:List Int}{x0:Bool}(hx0:x0=Z00 l acts)(hb:(!x0)=false):l.length<=40/\acts.length<=30:=by
 have hb:x0=true:=by simpa using hb
 rw[hb]at hx0
 simp only[Z00,Qvw,Tree.m]at hx0
 cases h1:decide ((l.length:Int)<=40)<;>rw[h1]at hx0
 . cases hx0
 . have:=oY hx0.symm
   have:=oY h1
   omega
section
variable {m:Q00} (h:okV m) (hl:m.Mem.length<=1024)
include h
theorem may_P(hm:Q14 m=true): ∃P,okS P m/\okM P m:=by
 rcases(Qo6 m.Mem h.mem).2 with c|⟨P,hP,hmem⟩
 . exact absurd c ((Qos m).1 hm).1
 . exact⟨P,⟨h.cpu,hmem,h.disk,h.nic,h.bal.1,h.bal.2⟩,⟨h.cpu,hmem,h.disk,h.nic,h.bal,h.cnt⟩⟩
include hl
omit h in
theorem ownV:(Q86 m).w (λx=>x=m):=by
 unfold Q86 Qp4
 have c:(Q9f m.Mem).w (λr=>r=m.Mem):=by
   unfold Q9f
   refine w_cn ?_ ?_
   . simp [bT,D.plain];omega
   . show _=_;simp
 exact Q08 c λx hx=>by rw[hx];rfl
omit h hl in
theorem yM{P:Nat}(h:okM P m){e:Q0e}(he:U e.N):(Q64 m e).w (λx=>okM P x.2):=by
 have k:=h
 obtain⟨h1,h2,h3,h4,h5,h7⟩:=h
 unfold Q64
 repeat'(first
   |exact k
   |exact⟨h1,h2,h3,h4,⟨he,h5.2⟩,h7⟩
   |exact w_lv λ_ _=>⟨h1,h2,h3,h4,h5,h7⟩
   |exact Q08 (y8 _ _) λ_ _=>⟨h1,h2,h3,h4,h5,h7⟩
   |exact Q08 (Zju h2 h3 _) λx hx=>⟨h1,hx.2,hx.1,h4,h5,h7⟩
   |exact Q08 (Zkj h2 h4 _) λx hx=>⟨h1,hx.2,h3,hx.1,h5,h7⟩
   |refine w_br (λ_=> ?_) (λ_=> ?_))
end
def Tree.V{β:Type}(t:Tree β)(W:β->Prop):Prop:=W t.m
section
variable {α β:Type} {W:β->Prop} {c:Bool} {t e:Tree β}
theorem v_lf{x:β}(h:W x):Tree.V (.lf x) W:=h
theorem v_nx{f:Prop}{x:β}{hf:f}(h:W x):Tree.V (.nx f x hf) W:=h
theorem v_br(h:c=true->Tree.V t W)(g:c=false->Tree.V e W):Tree.V (.br c t e) W:=by
 cases c
 . exact g rfl
 . exact h rfl
theorem v_cn(g:Tree.V t W):Tree.V (.cn c t) W:=g
theorem v_an{p:Prop}(g:Tree.V t W):Tree.V (.an p t) W:=g
theorem v_lv{x:α}{k:α->Tree β}(h: ∀y,y=x->Tree.V (k y) W):Tree.V (.lv x k) W:=h x rfl
theorem v_lp{d:Inhabited β}{n:Nat}{f:Prop}{x:α}{k:α->Tree (α⊕β)}{hf:f}{inv:α->Prop}{μ:α->Nat}(h:inv x)(hn:μ x<n)(g: ∀y,inv y->Tree.V (k y) (Sum.elim (λz=>inv z/\μ z<μ y) W)):Tree.V (.lp d n f x k hf) W:=by
 refine zaz (P:=inv) (R:=W) (μ:=μ) (λa ha=> ?_) n x h hn
 have:=g a ha
 unfold Tree.V at this
 revert this
 cases(k a).m with
 |inl z=>exact λh=>h
 |inr b=>exact λh=>h
end
def Z4k(r:Q01)(m:Q00):Q01:={A0:=m,B3:=r.B3,C8:=r.C8,B0:=r.B0}
theorem xaG(r:Q01)(port clock:Int):Qt8 r port clock=((Qb1 r.A0 port clock).1,Z4k r (Qb1 r.A0 port clock).2):=by
 simp only[Qt8,Qhi,Qb1,Qf7,Tree.m,letv]
 cases decide (port<=1)<;>cases port==2<;>cases port==3<;>cases decide (port<=6)<;>cases decide (port<=9)<;>rfl
theorem qao(r:Q01)(port v:Int):Qpv r port v=((Q8j r.A0 port v).1,Z4k r (Q8j r.A0 port v).2):=by
 simp only[Qpv,Qbh,Q8j,Q9z,Tree.m,letv]
 cases port==0<;>cases decide (port<=2)<;>cases port==3<;>cases decide (port<=6)<;>cases decide (port<=9)<;>rfl
theorem qaH{r:Q01}{c:Bool}{x y:Bool×Q01}{x' y':Bool×Q00}(hx:x=(x'.1,Z4k r x'.2))(hy:y=(y'.1,Z4k r y'.2)):cond c x y=((cond c x' y').1,Z4k r (cond c x' y').2):=by cases c<;>assumption
theorem vk(r:Q01)(e:Q0e):Qiz r e=((Q1s r.A0 e).1,Z4k r (Q1s r.A0 e).2):=by
 simp only[Qiz,Q81,Q1s,Q64,Tree.m,letv]
 repeat'(first|rfl|refine qaH ?_ ?_)
theorem Za4(r:Q01)(clock:Int):Q6c r clock=((Q10 r.A0 clock).1,Z4k r (Q10 r.A0 clock).2):=by
 simp only[Q6c,Q5m,Q10,Q8,Tree.m,letv,xaG,qao,Z4k]
 cases(Q68 (Q0j r.A0) r.A0.Mem).2.1.C3==1<;>cases(Q68 (Q0j r.A0) r.A0.Mem).2.1.C3==2<;>cases(Q68 (Q0j r.A0) r.A0.Mem).2.1.C3==3<;>cases(Q68 (Q0j r.A0) r.A0.Mem).2.1.C3==4<;>rfl
def Qbq(r:Q01)(e:Q0e):Q01:=
 bif(Q1s r.A0 e).1 then{A0:=(Q1s r.A0 e).2,B3:=r.B3,C8:=r.C8++[{At:=(Q1s r.A0 e).2.A4,Event:=e}],B0:=r.B0} else Z4k r (Q1s r.A0 e).2
theorem Zjv(r:Q01)(e:Q0e):Qgu r e=Qbq r e:=by
 have a:Qgh r e=((Q1s r.A0 e).1,Z4k r (Q1s r.A0 e).2):=by
   simp only[Qgh,Q70,Tree.m,letv,vk]
 simp only[Qgu,Qa,Tree.m,letv,a,Qbq]
 cases(Q1s r.A0 e).1<;>rfl
def Qd3(r:Q01):Q01:=bif Qm7 r.A0.A7 r.B3 then Qbq r {C3:=2,N:=0,C9:=[]} else r
def readF(r:Q01):Q01:=bif Q54 r.A0 then{A0:=r.A0,B3:=r.B3,C8:=r.C8++[{At:=r.A0.A4,Event:={C3:=1,N:=r.B3,C9:=[]}}],B0:=r.B0} else r
def Zi9(r:Q01):Q01:={A0:=(Q10 r.A0 r.B3).2,B3:=wrap .u32 (r.B3+1),C8:=(readF r).C8,B0:=r.B0}
def recF:Nat->Q01->List Q09->Q01×List Q09
 |0,r,o=>(r,o)
 |n+1,r,o=>bif Q24 (Qd3 r).A0 then(Qd3 r,o) else recF n (Zi9 (Qd3 r)) (o++(Q10 (Qd3 r).A0 (Qd3 r).B3).1)
def noQ(r:Q01):Q01:={A0:=r.A0,B3:=r.B3,C8:=r.C8,B0:=[]}
def advF(r:Q01)(steps clock:Int):Q01×List Q09:=
 bif !Q8e r.A0 then(r,[]) else recF (Q1b steps).toNat (noQ (r.B0.foldl Qbq {A0:=r.A0,B3:=if clock>r.B3 then clock else r.B3,C8:=r.C8,B0:=r.B0})) []
theorem Qp(r:Q01)(e:Q0e):(Qbq r e).B0=r.B0:=by
 unfold Qbq;cases(Q1s r.A0 e).1<;>rfl
theorem Zks(r:Q01):Qo0 r=r:=by
 simp only[Qo0,Qdd,Tree.m,letv,Z3z]
theorem Zm4(r:Q01)(steps clock:Int)(hq:r.B0.length<=1000000):Qbz r steps clock=advF r steps clock:=by
  show Tree.V (Q52 r steps clock) (λx=>x=advF r steps clock)
  obtain⟨lim0,lim⟩:=Z3v steps
  unfold Q52
  refine v_an (v_lv λx0 e0=>v_lv λx1 e1=> ?_)
  rw[Zks]at e0
  subst e0
  refine v_br (λhb=>v_lf ?_) λhb=> ?_
  . unfold advF;rw[<-e1,hb];rfl
  generalize hr0:({A0:=x0.A0,B3:=if clock>x0.B3 then clock else x0.B3,C8:=x0.C8,B0:=x0.B0}:Q01)=r0
  have hA:advF x0 steps clock=recF (Q1b steps).toNat (noQ (x0.B0.foldl Qbq r0)) []:=by
    unfold advF;rw[<-e1,hb,hr0];rfl
  have hQ:r0.B0=x0.B0:=by rw[<-hr0]
  refine v_lp (inv:=λz:Int×Q01=>0<=z.1/\z.1<=x0.B0.length/\z.2.B0=x0.B0/\(x0.B0.drop z.1.toNat).foldl Qbq z.2=x0.B0.foldl Qbq r0) (μ:=Qb4 x0 steps clock) ⟨cX 0,by show(0:Int)<=_;omega,hQ,rfl⟩ (cO _) λz ⟨z0,z1,z2,z3⟩=> ?_
  refine v_br (λhb=> ?_) (λhb=> ?_)
  . have hb:=oY hb
    rw[z2]at hb
    refine v_cn (v_an (v_lv λx2 e2=>v_nx ?_))
    have ew:i64.wrap (z.1+1)=z.1+1:=by rw[wrap_i64];omega
    rw[Zjv]at e2
    have q2:x2.B0=x0.B0:=by rw[e2,Qp,z2]
    have hlt:z.1.toNat<x0.B0.length:=by omega
    have ed:z.2.B0.getD z.1.toNat (RK.dflt RK.apiEvent)=x0.B0[z.1.toNat]:=by rw[z2,cP,cG hlt];rfl
    show(0<=i64.wrap (z.1+1)/\i64.wrap (z.1+1)<=x0.B0.length/\x2.B0=x0.B0/\(x0.B0.drop (i64.wrap (z.1+1)).toNat).foldl Qbq x2=_)/\(x2.B0.length-i64.wrap (z.1+1)).toNat<(z.2.B0.length-z.1).toNat
    rw[ew,q2,z2]
    refine⟨⟨by omega,by omega,rfl,?_⟩,by omega⟩
    rw[<-z3,aB hlt,aD,show(z.1+1).toNat=z.1.toNat+1 by omega,e2,ed]
  . have hb:=oN hb
    rw[z2]at hb
    obtain⟨zi,zr⟩:=z
    have hb: ¬zi<x0.B0.length:=hb
    have ze:zr=x0.B0.foldl Qbq r0:=by
      rw[<-z3,aA (by show x0.B0.length<=zi.toNat;omega)];rfl
    rw[<-ze]at hA
    refine v_lp (inv:=λy:Int×Q01×List Q09=>0<=y.1/\y.1<=Q1b steps/\recF (Q1b steps-y.1).toNat y.2.1 y.2.2=advF x0 steps clock) (μ:=Q5c x0 steps clock (zi,zr)) ⟨cX 0,by show(0:Int)<=_;omega,by rw[hA];show recF (Q1b steps-0).toNat _ _=_;rw[Int.sub_zero];rfl⟩ (cO _) λy ⟨y0,y1,y2⟩=> ?_
    obtain⟨yi,yr,yo⟩:=y
    have mu: ∀q,yi<4000->Q5c x0 steps clock (zi,zr) (wrap .i64 (yi+1),q)<Q5c x0 steps clock (zi,zr) (yi,yr,yo):=λq h=>by
      show(4000-wrap .i64 (yi+1)).toNat<(4000-yi).toNat
      have y0:0<=yi:=y0
      rw[wrap_i64];omega
    have y0:0<=yi:=y0
    refine v_lv λx3 e3=>v_br (λhb=> ?_) (λhb=> ?_)
    . have hb:yi<x3:=oY hb
      rw[e3]at hb
      have mu:=λq=>mu q (by omega)
      have ew:i64.wrap (yi+1)=yi+1:=by rw[wrap_i64];omega
      have en:(Q1b steps-yi).toNat=(Q1b steps-(yi+1)).toNat+1:=by omega
      change recF (Q1b steps-yi).toNat yr yo=_ at y2
      rw[en]at y2
      refine v_lv λx4 e4=>v_br (λhd=>v_an (v_lv λx5 e5=> ?_)) (λhd=> ?_)
      . have e5:x5=Qd3 yr:=by rw[e5,Zjv];unfold Qd3;rw[<-e4,hd];rfl
        refine v_an (v_lv λx6 e6=>v_br (λhs=>v_lf ?_) λhs=>v_an (v_lv λx7 e7=>v_br (λhr=>v_cn (v_an (v_lv λx8 e8=>v_cn (v_nx ?_)))) λhr=>v_an (v_lv λx9 e9=>v_cn (v_nx ?_))))
        . show(_,yo)=_
          rw[<-y2];unfold recF
          rw[<-e5,<-e6,hs];rfl
        . rw[Za4]at e8
          refine⟨⟨by show 0<=wrap .i64 (yi+1);rw[ew];omega,by show wrap .i64 (yi+1)<=_;rw[ew];omega,?_⟩,mu _⟩
          show recF (Q1b steps-wrap .i64 (yi+1)).toNat _ _=_
          rw[ew,<-y2,e8]
          conv=>rhs;unfold recF
          rw[<-e5,<-e6,hs]
          unfold Zi9 readF
          rw[<-e7,hr];rfl
        . rw[Za4]at e9
          refine⟨⟨by show 0<=wrap .i64 (yi+1);rw[ew];omega,by show wrap .i64 (yi+1)<=_;rw[ew];omega,?_⟩,mu _⟩
          show recF (Q1b steps-wrap .i64 (yi+1)).toNat _ _=_
          rw[ew,<-y2,e9]
          conv=>rhs;unfold recF
          rw[<-e5,<-e6,hs]
          unfold Zi9 readF
          rw[<-e7,hr];rfl
      . have e5:yr=Qd3 yr:=by
          have e4:x4=Qm7 yr.A0.A7 yr.B3:=e4
          unfold Qd3;rw[<-e4,hd];rfl
        refine v_an (v_lv λx6 e6=>v_br (λhs=>v_lf ?_) λhs=>v_an (v_lv λx7 e7=>v_br (λhr=>v_cn (v_an (v_lv λx8 e8=>v_cn (v_nx ?_)))) λhr=>v_an (v_lv λx9 e9=>v_cn (v_nx ?_))))
        . show(_,yo)=_
          rw[<-y2];unfold recF
          rw[<-e5,<-e6,hs];rfl
        . rw[Za4]at e8
          refine⟨⟨by show 0<=wrap .i64 (yi+1);rw[ew];omega,by show wrap .i64 (yi+1)<=_;rw[ew];omega,?_⟩,mu _⟩
          show recF (Q1b steps-wrap .i64 (yi+1)).toNat _ _=_
          rw[ew,<-y2,e8]
          conv=>rhs;unfold recF
          rw[<-e5,<-e6,hs]
          unfold Zi9 readF
          rw[<-e7,hr];rfl
        . rw[Za4]at e9
          refine⟨⟨by show 0<=wrap .i64 (yi+1);rw[ew];omega,by show wrap .i64 (yi+1)<=_;rw[ew];omega,?_⟩,mu _⟩
          show recF (Q1b steps-wrap .i64 (yi+1)).toNat _ _=_
          rw[ew,<-y2,e9]
          conv=>rhs;unfold recF
          rw[<-e5,<-e6,hs]
          unfold Zi9 readF
          rw[<-e7,hr];rfl
    . have hb: ¬yi<x3:=oN hb
      rw[e3]at hb
      refine v_lf ?_
      show(yr,yo)=_
      change recF (Q1b steps-yi).toNat yr yo=_ at y2
      rw[<-y2,show(Q1b steps-yi).toNat=0 by omega];rfl
structure good(P:Nat)(m:Q00):Prop where
 ok:okM P m
 may:Q14 m=true
section
variable {P:Nat} {m:Q00} (h:good P m)
include h
theorem good.v:okV m:=⟨h.ok.cpu,h.ok.mem.u,h.ok.disk,h.ok.nic,h.ok.target,h.ok.cnt⟩
theorem good.s:okS P m:=⟨h.ok.cpu,h.ok.mem,h.ok.disk,h.ok.nic,h.ok.target.1,h.ok.target.2⟩
theorem good.rmay:Q8e m=true:=(Qzw h.v).symm.trans h.may
theorem vM{e:Q0e}(he:U e.N):good P (Q1s m e).2/\(Q1s m e).2.A4=m.A4:=by
 have o:okM P (Q1s m e).2:=Tree.post _ (yM h.ok he)
 have a:=(Tree.pp (yI h.ok he)).2
 change(Q14 m=true->Q14 (Qgd m e).1=true)/\(Qgd m e).1.A4=m.A4/\_ at a
 have e1:Qq5 m e=((Q1s m e).2,(Q1s m e).1):=by
   simp only[Qq5,Qnu,Tree.m,letv,Z3z,h.rmay];rfl
 rw[Zmd h.v e,e1]at a
 exact⟨⟨o,a.1 h.may⟩,a.2.1⟩
theorem Z3t:Q24 m=false↔m.A6=false/\Qcw m=false/\m.A4<1152921504606846976:=by
 simp only[Q24,Q92,Tree.m,letv,h.rmay]
 cases m.A6<;>cases Qcw m<;>simp
theorem Zbi(hs:Q24 m=false){clock:Int}(hc:U clock):good P (Q10 m clock).2/\(Q10 m clock).2.A4=m.A4+1/\(Q10 m clock).1.length<=1:=by
 have o:=Tree.post _ (Z7g h.ok hc)
 change(Q10 m clock).1.length<=1/\okM P (Q10 m clock).2/\(Q10 m clock).2.A4=wrap .u64 (m.A4+1) at o
 have s:=(Tree.pp (zai h.s h.ok.cnt hc)).2
 change _/\Good P m (Qj0 m clock).1 at s
 have e:Qj0 m clock=((Q10 m clock).2,(Q10 m clock).1):=by rw[yk h.v,Zlz,hs];rfl
 rw[e]at s
 have hct:=((Z3t h).1 hs).2.2
 have h0:=h.ok.cnt
 refine⟨⟨o.2.1,s.2.may h.may⟩,?_,o.1⟩
 rw[o.2.2,wrap_u64];omega
end
structure Qbw(P:Nat)(k:Int)(r:Q01):Prop where
 m:good P r.A0
 clock:U r.B3
 cnt:r.A0.A4<=k
theorem Z0e{P:Nat}{k:Int}{r:Q01}(h:Qbw P k r){e:Q0e}(he:U e.N):Qbw P k (Qbq r e)/\(Qbq r e).A0.A4=r.A0.A4:=by
 obtain⟨a,b⟩:=vM h.m he
 have hc:=h.cnt
 unfold Qbq
 cases(Q1s r.A0 e).1
 . exact⟨⟨a,h.clock,by show(Q1s r.A0 e).2.A4<=k;omega⟩,b⟩
 . exact⟨⟨a,h.clock,by show(Q1s r.A0 e).2.A4<=k;omega⟩,b⟩
theorem Z7m{P:Nat}{k:Int}{r:Q01}(h:Qbw P k r):Qbw P k (Qd3 r)/\(Qd3 r).A0.A4=r.A0.A4:=by
 unfold Qd3
 cases Qm7 r.A0.A7 r.B3
 . exact⟨h,rfl⟩
 . exact Z0e h U_0
theorem Z6l{P:Nat}{k:Int}{r:Q01}(h:Qbw P k r)(hs:Q24 r.A0=false):Qbw P (k+1) (Zi9 r):=by
 obtain⟨a,b,_⟩:=Zbi h.m hs h.clock
 have hc:=h.cnt
 exact⟨a,Q0m _,by show(Q10 r.A0 r.B3).2.A4<=k+1;omega⟩
theorem ql{P:Nat}(n:Nat): ∀{k:Int} {r:Q01} {o:List Q09},Qbw P k r->Qbw P (k+n) (recF n r o).1:=by
 induction n with
 |zero=>intro k r o h;exact⟨h.m,h.clock,by have:=h.cnt;show r.A0.A4<=k+(0:Nat);omega⟩
 | succ n ih=>
   intro k r o h
   obtain⟨f,fc⟩:=Z7m h
   unfold recF
   cases hs:Q24 (Qd3 r).A0
   . have t:=ih (o:=o++(Q10 (Qd3 r).A0 (Qd3 r).B3).1) (Z6l f hs)
     exact⟨t.m,t.clock,by have:=t.cnt;show(recF n _ _).1.A0.A4<=_;omega⟩
   . exact⟨f.m,f.clock,by have:=f.cnt;show(Qd3 r).A0.A4<=_;omega⟩
theorem Z7p{P:Nat}{k:Int}(l:List Q0e): ∀{r:Q01},Qbw P k r->(∀q∈l,U q.N)->Qbw P k (l.foldl Qbq r)/\(l.foldl Qbq r).B0=r.B0:=by
 induction l with
 |nil=>intro r h _;exact⟨h,rfl⟩
 | cons e l ih=>
   intro r h hu
   obtain⟨a,b⟩:=ih (Z0e h (hu e (by simp))).1 (λq hq=>hu q (by simp [hq]))
   exact⟨a,b.trans (Qp r e)⟩
theorem Zn2(n:Nat): ∀(r:Q01) (o:List Q09),(recF n r o).1.B0=r.B0:=by
 induction n with
 |zero=>intro r o;rfl
 | succ n ih=>
   intro r o
   have f:(Qd3 r).B0=r.B0:=by
     unfold Qd3;cases Qm7 r.A0.A7 r.B3
     . rfl
     . exact Qp _ _
   unfold recF
   cases Q24 (Qd3 r).A0
   . exact(ih _ _).trans f
   . exact f
def okQ(l:List Q0e):Prop:=l.length<=16/\ ∀q∈l,U q.N
theorem xl{P:Nat}{k:Int}{r:Q01}(h:Qbw P k r)(hq:okQ r.B0)(steps:Int){clock:Int}(hc:U clock):Qbw P (k+4000) (advF r steps clock).1/\okQ (advF r steps clock).1.B0:=by
 obtain⟨l0,l1⟩:=Z3v steps
 unfold advF
 rw[h.m.rmay]
 have hcl:U (if clock>r.B3 then clock else r.B3):=by split<;>first|exact hc|exact h.clock
 obtain⟨a,b⟩:=Z7p r.B0 (r:={A0:=r.A0,B3:=if clock>r.B3 then clock else r.B3,C8:=r.C8,B0:=r.B0}) ⟨h.m,hcl,h.cnt⟩ hq.2
 have c:=ql (Q1b steps).toNat (o:=[]) (r:=noQ (r.B0.foldl Qbq {A0:=r.A0,B3:=if clock>r.B3 then clock else r.B3,C8:=r.C8,B0:=r.B0})) ⟨a.m,a.clock,a.cnt⟩
 refine⟨⟨c.m,c.clock,?_⟩,?_⟩
 . have:=c.cnt
   show(recF _ _ _).1.A0.A4<=_
   omega
 . show okQ (recF _ _ _).1.B0
   rw[Zn2];exact⟨aT _,λq hq=>by cases hq⟩
theorem zao(n:Int):U (Qgo n).N:=Tree.post _ (qz n)
theorem Zej(r:Q01)(e:Q0e):Q4x r e=bif !Qie e then(r,false) else bif e.C3==1 then(r,false) else bif decide ((r.B0.length:Int)>=16) then(r,false) else({A0:=r.A0,B3:=r.B3,C8:=r.C8,B0:=r.B0++[e]},true):=by
 simp only[Q4x,Q87,Tree.m,letv,Zks]
theorem Zhl{P:Nat}{k:Int}{r:Q01}(h:Qbw P k r)(hq:okQ r.B0){e:Q0e}(he:U e.N):Qbw P k (Q4x r e).1/\okQ (Q4x r e).1.B0:=by
  rw[Zej]
  cases Qie e
  . exact⟨h,hq⟩
  . cases e.C3==1
    . cases hl:decide ((r.B0.length:Int)>=16)
      . have hl:=oN hl
        refine⟨⟨h.m,h.clock,h.cnt⟩,?_,λq hm=> ?_⟩
        . show(r.B0++[e]).length<=16
          rw[lA,dA];omega
        . have hm:q∈r.B0++[e]:=hm
          rcases List.mem_append.1 hm with hm|hm
          . exact hq.2 q hm
          . rw[List.mem_singleton.1 hm];exact he
      . exact⟨h,hq⟩
    . exact⟨h,hq⟩
theorem Zls{r:Q01}{n:Int}(h:(dF (Qa1 n 3) 3==0)=true):Q5p r n=((Q4x r (Qgo n)).1,[]):=by
 show Tree.V (Q75 r n) (λx=>x=((Q4x r (Qgo n)).1,[]))
 unfold Q75
 refine v_lv λx0 e0=>v_br (λ_=>v_an (v_lv λx1 e1=>v_an (v_lv λx2 e2=>v_lf ?_))) (λhb=> ?_)
 . rw[e2,e1]
 . rw[e0,h]at hb;cases hb
theorem Zki{r:Q01}{n:Int}(h:(dF (Qa1 n 3) 3==0)=false):Q5p r n=Qbz r (Q1y (ishr .i64 (Qa1 n 3) 4) 12) (wrap .u32 (iand .i64 (ishr .i64 (Qa1 n 3) 12) 255)):=by
 show Tree.V (Q75 r n) (λx=>x=Qbz r (Q1y (ishr .i64 (Qa1 n 3) 4) 12) (wrap .u32 (iand .i64 (ishr .i64 (Qa1 n 3) 12) 255)))
 unfold Q75
 refine v_lv λx0 e0=>v_br (λhb=> ?_) (λ_=>v_an (v_lv λx1 e1=>v_an (v_lv λx2 e2=>v_lf ?_)))
 . rw[e0,h]at hb;cases hb
 . rw[e2,e1,e0]
theorem zl{P:Nat}{k:Int}{A:Q01×Bool}(h:Qbw P k A.1/\okQ A.1.B0):Qbw P (k+4000) (A.1,([]:List Q09)).1/\okQ (A.1,([]:List Q09)).1.B0:=
 ⟨⟨h.1.m,h.1.clock,by have:=h.1.cnt;show A.1.A0.A4<=_;omega⟩,h.2⟩
theorem Z6u{P:Nat}{k:Int}{r:Q01}(h:Qbw P k r)(hq:okQ r.B0)(n:Int):Qbw P (k+4000) (Q5p r n).1/\okQ (Q5p r n).1.B0:=by
 cases hm:dF (Qa1 n 3) 3==0
 . rw[Zki hm,Zm4 _ _ _ (by have:=hq.1;omega)]
   exact xl h hq _ (Q0m _)
 . rw[Zls hm]
   exact zl (Zhl h hq (zao n))
def Qoo(s:Q01×List Q09)(n:Int):Q01×List Q09:=((Q5p s.1 n).1,s.2++(Q5p s.1 n).2)
theorem xao(m:Q00)(l:List Int)(hl:l.length<=1000000):Z0h m l=l.foldl Qoo (Q3p m,[]):=by
 show Tree.V (Qb0 m l) (λx=>x=l.foldl Qoo (Q3p m,[]))
 unfold Qb0
 refine v_an (v_lv λx0 e0=> ?_)
 subst e0
 refine v_lp (inv:=λz:Int×Q01×List Q09=>0<=z.1/\z.1<=l.length/\(l.drop z.1.toNat).foldl Qoo z.2=l.foldl Qoo (Q3p m,[])) (μ:=Qi8 m l) ⟨cX 0,by show(0:Int)<=_;omega,rfl⟩ (cO _) λz ⟨z0,z1,z2⟩=> ?_
 obtain⟨i,r,o⟩:=z
 have z0:0<=i:=z0
 have z1:i<=l.length:=z1
 refine v_br (λhb=>v_cn (v_an (v_lv λx1 e1=>v_cn (v_nx ?_)))) (λhb=>v_lf ?_)
 . have hb:i<l.length:=oY hb
   have ew:i64.wrap (i+1)=i+1:=by rw[wrap_i64];omega
   have hlt:i.toNat<l.length:=by omega
   show(0<=i64.wrap (i+1)/\i64.wrap (i+1)<=l.length/\(l.drop (i64.wrap (i+1)).toNat).foldl Qoo (x1.1,o++x1.2)=_)/\(l.length-i64.wrap (i+1)).toNat<(l.length-i).toNat
   rw[ew]
   refine⟨⟨by omega,by omega,?_⟩,by omega⟩
   rw[<-z2]
   show _=(l.drop i.toNat).foldl Qoo (r,o)
   rw[aB hlt,aD,show(i+1).toNat=i.toNat+1 by omega,e1]
   have ed:l.getD i.toNat 0=l[i.toNat]:=by rw[cP,cG hlt];rfl
   rw[show Qoo (r,o) l[i.toNat]=((Q5p r l[i.toNat]).1,o++(Q5p r l[i.toNat]).2) from by unfold Qoo;rfl,<-ed]
 . have hb: ¬i<l.length:=oN hb
   show(r,o)=_
   rw[<-z2]
   show _=(l.drop i.toNat).foldl Qoo (r,o)
   rw[aA (by omega)];rfl
theorem yl{P:Nat}{k:Int}{x:Q01×List Q09}(h:Qbw P k x.1/\okQ x.1.B0)(o:List Q09):Qbw P k (x.1,o++x.2).1/\okQ (x.1,o++x.2).1.B0:=h
theorem Zd7(s:Q01×List Q09)(n:Int):Qoo s n=((Q5p s.1 n).1,s.2++(Q5p s.1 n).2):=by unfold Qoo;rfl
theorem vl{P:Nat}{k:Int}{s:Q01×List Q09}(h:Qbw P k s.1/\okQ s.1.B0)(n:Int):Qbw P (k+4000) (Qoo s n).1/\okQ (Qoo s n).1.B0:=by
 rw[Zd7]
 exact yl (Z6u h.1 h.2 n) s.2
theorem qm{σ:Type}{f:σ->Int->σ}{I:Int->σ->Prop}(hf: ∀k s n,I k s->I (k+4000) (f s n))(l:List Int): ∀k s,I k s->I (k+4000*l.length) (l.foldl f s):=by
 induction l with
 |nil=>intro k s h;simpa using h
 | cons n l ih=>
   intro k s h
   have:=ih _ _ (hf k s n h)
   rw[aD,dJ]
   rwa [show k+4000*((l.length+1:Nat):Int)=k+4000+4000*l.length by omega]
theorem Zmz{P:Nat}(l:List Int){k:Int}{s:Q01×List Q09}(h:Qbw P k s.1/\okQ s.1.B0):Qbw P (k+4000*l.length) (l.foldl Qoo s).1/\okQ (l.foldl Qoo s).1.B0:=
 qm (I:=λk s=>Qbw P k s.1/\okQ s.1.B0) (λk s n h=>vl h n) l k s h
theorem xm(m:Q00):Q3p m={A0:=m,B3:=0,C8:=[],B0:=[]}:=by
 simp only[Q3p,Q3k,Tree.m,letv,Z3z]
theorem Za9{i:List Int}(hu: ∀w∈i,U w)(hl:i.length<=256):good 8 (Q1o 8 4 i).1/\(Q1o 8 4 i).1.A4=0:=by
 obtain⟨a,b⟩:=(Tree.pp (new_w i hu hl)).2
 change okM 8 (Q1o 8 4 i).1 at a
 refine⟨⟨a,?_⟩,b⟩
 have e:(Q1o 8 4 i).2=true:=by
   have w:i64.wrap (8*32)=256:=by decide
   simp only[Q1o,Q88,Tree.m,w,letv,dN (show¬((i.length:Int)>256) by omega)]
   rfl
 obtain⟨a1,a2,a3,a4,a5,a6⟩:=xaN 8 4 i e
 exact(qaO _ 8 4 a1 a2 a3 a4 a5 _ a6).1
theorem zm{m:Q00}(h:good 8 m)(hc:m.A4<=87):Tree.V (Q63 m [] 87) (λx=>x.2.2.2=0->good 8 x.1/\x.1.A4<=87):=by
 have z: ∀{k:Int} {p:Prop},k≠0->k=0->p:=λa b=>absurd b a
 unfold Q63
 refine v_lv λx0 _=>v_br (λ_=>v_lf (z (by decide))) λ_=>v_br (λ_=>v_lf (z (by decide))) λ_=>v_br (λ_=>v_lf (z (by decide))) λ_=>v_an (v_lv λx1 _=>v_br (λ_=>v_lf (z (by decide))) λ_=>v_an (v_lv λx2 hx=> ?_))
 rw[Z3z]at hx
 refine v_lp (inv:=λv:Q00×List Q09=>good 8 v.1/\v.1.A4<=87) (μ:=Qao m [] 87) ⟨by rw[hx];exact h,by rw[hx];exact hc⟩ (cO _) λv0 ⟨a1,a3⟩=> ?_
 have a2:=a1.ok.cnt
 refine v_br (λhb=>v_br (λhm=> ?_) (λ_=>v_lf λ_=>⟨a1,a3⟩)) (λ_=>v_lf λ_=>⟨a1,a3⟩)
 have hb:=oY hb
 have hm:=oY hm
 refine v_lp (inv:=λ_=>True) (μ:=Qar m [] 87 v0) trivial (cO _) λv1 _=> ?_
 refine v_br (λ_=>v_lf λ_=>⟨a1,a3⟩) λhh=>v_an (v_lv λx3 h3=>v_br (λ_=>v_lf λ_=>⟨a1,a3⟩) λhi=>v_an (v_lv λx4 _=>v_br (λ_=>v_lf (z (by decide))) λ_=>v_an (v_lv λx5 h5=>v_cn (v_nx ?_))))
 obtain⟨b1,b2,_⟩:=Zbi a1 ((Z3t a1).2 ⟨hh,h3.symm.trans hi,hm⟩) (clock:=0) U_0
 rw[<-h5]at b1 b2
 show(good 8 x5.2/\x5.2.A4<=87)/\(87-x5.2.A4).toNat<(87-v0.1.A4).toNat
 exact⟨⟨b1,by omega⟩,by omega⟩
theorem Zfs(kind:Int)(l:List Int)(hl:l.length*8<=reachBytes)(h40:l.length<=40):good 8 (Qej kind l)/\(Qej kind l).A4<=87:=by
  show Tree.V (Q3t kind l) (λm=>good 8 m/\m.A4<=87)
  have code:=(Tree.pp (Zkd l hl)).2
  change((Qia l).length:Int)=l.length/\ ∀w∈Qia l,U w at code
  obtain⟨b1,b2⟩:=code
  unfold Q3t
  refine v_an (v_lv λx0 hx0=>v_br (λ_=>v_an (v_lv λx1 e1=> ?_)) (λhk=> ?_))
  . have eb:x1.1=boot:=by rw[e1];rfl
    obtain⟨q1,q2⟩:boot.length<=160/\ ∀w∈boot,U w:=Zl8
    refine v_lp (inv:=λv:List Int=>v.length<=160/\v=boot++cR (v.length-boot.length) 0) (μ:=Q8d kind l) ⟨by rw[eb];exact q1,by rw[eb];simp⟩ (cO _) λv0 ⟨a1,a2⟩=> ?_
    have a3:boot.length<=v0.length:=by rw[a2,lA];omega
    refine v_br (λhb=> ?_) (λhb=> ?_)
    . have hb:=oY hb
      refine v_cn (v_nx ?_)
      show(_/\_)/\(_:Nat)<_
      refine⟨⟨by rw[lA,dA];omega,?_⟩,by show 160-(v0++[0]).length<160-v0.length;rw[lA,dA];omega⟩
      show v0++[0]=boot++cR ((v0++[0]).length-boot.length) 0
      rw[lA,dA,show v0.length+1-boot.length=(v0.length-boot.length)+1 by omega,List.replicate_succ',<-fL,<-a2]
    . have hb:=oN hb
      have hv:v0=Qjv:=by
        unfold Qjv
        rw[show(160:Nat)=v0.length by omega]
        exact a2
      subst hv
      have hp:=xag
      have hu0: ∀w∈Qjv,U w:=λw hw=>(List.mem_append.1 hw).elim (q2 w) (U_all _ w)
      refine v_an (v_lv λx2 e2=>v_cn ?_)
      rw[<-e2]at b1 b2
      have hu: ∀w∈Qjv++x2,U w:=λw hw=>(List.mem_append.1 hw).elim (hu0 w) (b2 w)
      have hlen:(Qjv++x2).length<=256:=by rw[lA];omega
      refine v_br (λhb=> ?_) (λhb=> ?_)
      . have hb:=oY hb;omega
      . obtain⟨c1,c2⟩:=Za9 hu hlen
        refine v_an (v_lv λx3 h3=> ?_)
        rw[<-h3]at c1 c2
        have rn:=zm c1 (by omega)
        refine v_br (λ_=>v_an (v_lv λx4 hx=>v_lf ?_)) (λ_=>v_lf ⟨c1,by omega⟩)
        have e:x3=Q1o 8 4 (Qjv++(x2++cR (96-x2.length) 0)):=by
          rw[h3]
          have hl2:(x2++cR (96-x2.length) (0:Int)).length=96:=by rw[lA,cW];omega
          refine zag _ _ hlen (by rw[lA,hl2];omega) ?_
          rw[lA,lA,hl2,hp,fL,fL,fL,show 256-(160+96)=0 by omega,show 256-(160+x2.length)=96-x2.length by omega]
          simp
        have h0:x4.2.2.2=0:=by
          rw[hx,e]
          exact xaB _ (by rw[lA,cW];omega)
        exact(by rw[hx];exact rn:x4.2.2.2=0->good 8 x4.1/\x4.1.A4<=87) h0
  . have hk:=oN hk
    refine v_an (v_lv λx2 e2=>v_cn ?_)
    rw[<-e2]at b1 b2
    refine v_br (λhb=> ?_) (λhb=> ?_)
    . have hb:=oY hb;omega
    . obtain⟨c1,c2⟩:=Za9 b2 (by omega)
      refine v_an (v_lv λx3 h3=> ?_)
      rw[<-h3]at c1 c2
      exact v_br (λh=>absurd (eq_of_beq h) (by omega)) (λ_=>v_lf ⟨c1,by omega⟩)
theorem Zmr(w:Int):wrap .i64 (Q1u w).1.Imm=(Q1u w).1.Imm:=by
 show Tree.V (Q5w w) (λr=>wrap .i64 r.1.Imm=r.1.Imm)
 have e: ∀x,wrap .i64 (wrap .i32 x)=wrap .i32 x:=λx=>by rw[wrap_i64,wrap_i32];omega
 unfold Q5w
 refine v_lv λx0 _=> ?_
 have l: ∀i:Q0h,wrap .i64 i.Imm=i.Imm->Tree.V (Tree.lv (Q6v i) λx=> .br (!x) (.lf ((⟨0,0,0,0,0⟩:Q0h),false)) (.lf (i,true))) (λr=>wrap .i64 r.1.Imm=r.1.Imm):=λi hi=>v_lv λx hx=>v_br (λ_=>v_lf rfl) (λhb=>v_lf hi)
 exact v_br (λ_=>v_lf rfl) (λ_=>v_br (λ_=>l _ rfl) (λ_=>v_br (λ_=>l _ (e _)) (λ_=>v_br (λ_=>l _ (e _)) (λ_=>l _ (e _)))))
def ioP(e:Q0w):Bool:=bif e.C3==1 then e.C7==2 else false
def readsC(c:Q02)(m:List Int):Bool:=
 bif iand .u32 c.B4.a0 1==0 then false else bif(Q1 m c.Pc 4).2 then bif(Q1u (Q1 m c.Pc 4).1).2 then bif(Q1u (Q1 m c.Pc 4).1).1.Op==60 then(Q1u (Q1 m c.Pc 4).1).1.Imm==2 else false else false else false
theorem ym(m:Q00):Qkd m=readsC (Q0j m) m.Mem:=rfl
theorem zaH(c:Q02)(i:Q0h):ioP (Qhj c i).2=(bif i.Op==60 then wrap .i64 i.Imm==2 else false):=by
 show Tree.V (Q7f c i) (λr=>ioP r.2=_)
 have no: ∀{k:Int},i.Op=k->k≠60-> ∀e:Q0w,e.C3≠1->ioP e=(bif i.Op==60 then wrap .i64 i.Imm==2 else false):=λh g e he=>by
   unfold ioP
   rw[h,show(_==(60:Int))=false from beq_false_of_ne g,show(e.C3==1)=false from beq_false_of_ne he];rfl
 have eq: ∀{k:Int},(i.Op==k)=true->i.Op=k:=λh=>eq_of_beq h
 unfold Q7f
 refine v_br (λh=>v_lv λ_ _=>v_lf (no (eq h) (by decide) _ (show(0:Int)≠1 by decide))) λ_=>v_br (λh=>v_lv λ_ _=>v_lf (no (eq h) (by decide) _ (show(0:Int)≠1 by decide))) λ_=>v_br (λh=>v_cn (v_an (v_lv λ_ _=>v_lf (no (eq h) (by decide) _ (show(0:Int)≠1 by decide))))) λ_=>v_br (λh=>v_cn (v_an (v_lv λ_ _=>v_lf (no (eq h) (by decide) _ (show(0:Int)≠1 by decide))))) λ_=>v_br (λh=>v_lf ?_) λh60=> ?_
 . show(bif(1:Int)==1 then wrap .i64 i.Imm==2 else false)=_
   rw[h];rfl
 . have n60:i.Op≠60:=λe=>by rw[e]at h60;cases h60
   refine v_br (λh=>v_cn (v_lf (no (eq h) (by decide) _ (by show(2:Int)≠1;decide)))) λ_=>v_br (λh=>v_lf (no (eq h) (by decide) _ (show(3:Int)≠1 by decide))) λ_=>v_br (λh=>v_lf (no (eq h) (by decide) _ (show(5:Int)≠1 by decide))) λ_=>v_br (λh=>v_lf (no (eq h) (by decide) _ (show(4:Int)≠1 by decide))) λ_=>v_lf (no rfl n60 _ (show(0:Int)≠1 by decide))
theorem vm(c:Q02)(m:List Int)(i:Q0h):ioP (Qiw c m i).2.1=(bif i.Op==60 then wrap .i64 i.Imm==2 else false):=by
 unfold Qiw
 cases h:decide (i.Op>=56)
 . have h:=oN h
   rw[show(i.Op==60)=false from beq_false_of_ne (by omega)]
   cases decide (i.Op>=40)<;>cases decide (i.Op>=32)<;>cases i.Op==24<;>cases decide (i.Op<=13)<;>rfl
 . exact zaH c i
theorem qN{P:Nat}{m:List Int}(h:Q0x P m){c:Q02}(hc:Q29 c)(hst:c.B4.a0<=31):ioP (Q68 c m).2.1=readsC c m:=by
  rw[do_eq]
  unfold readsC
  cases hk:iand .u32 c.B4.a0 1==0
  . have hp:Qkc c=false:=by
      rw[Z6c hc.a0.1 hst,show Q9p c=true from by show(iand .u32 c.B4.a0 1 !=0)=true;rw[bne,hk];rfl]
      rfl
    have wi:=Qgn h hc.pc (size:=4) (.inr rfl)
    have kn:Qds 1=true:=rfl
    have p0:=hc.pc.1
    have tm:dF c.Pc (wrap .u32 4)=c.Pc%4:=by
      rw[show wrap .u32 4=4 from rfl,eH p0]
    have rc:Q0y c m c.Pc 4 1=bif c.Pc%4 !=0 then(0,3,m) else bif !Q2 m c.Pc 4 then(0,Q1w 1,m) else(c.Pc,0,m):=by
      simp only[Q0y,Q74,Tree.m,letv,kn,hp,tm]
      rfl
    rw[rc]
    cases h4:(c.Pc%4 !=0)
    . cases hw:Q2 m c.Pc 4
      . have l2:(Q1 m c.Pc 4).2=false:=by
          simp only[Q1,Q3d,Tree.m,letv,hw];rfl
        rw[l2]
        show ioP (doR c (0,Q1w 1,m) _ _).2.1=false
        unfold doR
        rw[show((0,Q1w 1,m):Int×Int×List Int).2.1=Q1w 1 from rfl,show(Q1w 1 !=0)=true by decide]
        rfl
      . have l2:(Q1 m c.Pc 4).2=true:=by
          simp only[Q1,Q3d,Tree.m,letv,hw];rfl
        rw[l2]
        show ioP (doR c (c.Pc,0,m) (Q1 m c.Pc 4).1 (Q1u (Q1 m c.Pc 4).1)).2.1=_
        have im:=Zmr (Q1 m c.Pc 4).1
        generalize Q1 m c.Pc 4=x at*
        generalize Q1u x.1=d at*
        unfold doR
        cases d.2
        . rfl
        . rw[hk]
          have:=vm c m d.1
          rw[im]at this
          cases Q31 d.1.Op<;>exact this
    . have hw:Q2 m c.Pc 4=false:=by
        rw[wi]
        refine dN λe=> ?_
        rw[e.1]at h4;cases h4
      have l2:(Q1 m c.Pc 4).2=false:=by
        simp only[Q1,Q3d,Tree.m,letv,hw];rfl
      rw[l2];rfl
  . have us : ∀x w d,ioP (doR c x w d).2.1=false:=λx w d=>by
      unfold doR
      cases x.2.1 !=0
      . cases d.2
        . rfl
        . cases hp:Q31 d.1.Op
          . have:=vm c x.2.2 d.1
            rw[show(d.1.Op==60)=false from beq_false_of_ne λe=>by rw[e]at hp;cases hp]at this
            exact this
          . rw[hk];rfl
      . rfl
    exact us _ _ _
theorem Zni{m:Q00}(h:okV m):Q8f m=Q54 m:=by
 have rd:Q54 m=bif Q24 m then false else Qkd m:=rfl
 have pd:Q8f m=bif !Q25 m then false else ioP (Q6j (Q0s m).B1 (Q0s m).Mem).2.2:=rfl
 rw[rd,pd,Qny h]
 cases hs:Q24 m
 . have hr:Q25 m=true:=by rw[Qny h,hs];rfl
   obtain⟨hm,hh,hct⟩:=Qtb hr
   obtain⟨g1,g2,g3,g4,g5⟩:=(Qos m).1 hm
   rcases(Qo6 m.Mem h.mem).2 with c|⟨P,hP,hmem⟩
   . exact absurd c g1
   have okm:okS P m:=⟨h.cpu,hmem,h.disk,h.nic,h.bal.1,h.bal.2⟩
   obtain⟨b1,b2,b3,_⟩:=(Tree.pp (Z2k okm g2)).2
   change Q6f (Q0s m).B1 at b1
   change okS P (Q0s m) at b2
   have be:=Z66 h g2.st
   have b1':Q6f (Q0j m):=by have:=b1;rw[be]at this;exact this
   have b2':Q29 (Q0j m):=by have:=b2.cpu;rw[be]at this;exact this
   have ex:=Ze0 hmem b2' b1'.st
   rw[be,ym,<-qN hmem b2' b1'.st]
   show ioP (Q6j (Q0j m) m.Mem).2.2=_
   rw[ex];rfl
 . rfl
theorem Q0o{t:STy}{ts:List STy}{es:List D}(h:Fits (t::ts) es): ∃d ds,es=d::ds/\Fit t d/\Fits ts ds:=by
 cases es with
 |nil=>exact absurd h (by simp [Fits])
 |cons d ds=>unfold Fits at h;exact⟨d,ds,rfl,h.1,h.2⟩
theorem xN{es:List D}(h:Fits [] es):es=[]:=by
 cases es with
 |nil=>rfl
 |cons d ds=>exact absurd h (by simp [Fits])
theorem u_of{x:Int}(h:u32.min<=x/\x<=u32.max):U x:=⟨h.1,by have:u32.max=4294967295:=rfl;have:=h.2;omega⟩
structure rngM(m:Q00):Prop where
 dl:U m.A7.C4
 bl:U m.A9.Blocks
 st: -9223372036854775808<=m.A9.B8/\m.A9.B8<9223372036854775808
 cm: -9223372036854775808<=m.A9.D4/\m.A9.D4<9223372036854775808
 ct:0<=m.A4/\m.A4<18446744073709551616
theorem i_of{x:Int}(h:i64.min<=x/\x<=i64.max): -9223372036854775808<=x/\x<9223372036854775808:=by
 have h1:i64.min= -9223372036854775808:=rfl
 have h2:i64.max=9223372036854775807:=rfl
 omega
theorem Zg9{es:List D}(h:Fits [.int .u32, .int .u32, .int .u32, .int .u32, .int .u32, .int .u32, .int .u32, .int .u32, .int .u32, .int .u32, .int .u32, .int .u32, .int .u32, .int .u32, .int .u32, .int .u32, .int .u32, .int .u32, .int .u32, .int .u32, .int .u32, .int .u32, .int .u32, .int .u32, .int .u32, .sl [.int .u32], .str, .bool, .int .u32, .bool, .int .u32, .int .u32, .int .u32, .int .i64, .int .i64, .int .u32, .int .u32, .str, .int .u32, .int .u32, .bool, .int .u32, .bool, .int .u32, .int .u32, .int .u32, .int .u64, .bool, .bool] es): ∃m:Q00,es=m.cells/\okV m/\m.Mem.length*4<=reachBytes/\rngM m:=by
 obtain⟨d0,e0,rfl,h0,H0⟩:=Q0o h
 obtain⟨x0,rfl,b0⟩:=Q1p h0
 obtain⟨d1,e1,rfl,h1,H1⟩:=Q0o H0
 obtain⟨x1,rfl,b1⟩:=Q1p h1
 obtain⟨d2,e2,rfl,h2,H2⟩:=Q0o H1
 obtain⟨x2,rfl,b2⟩:=Q1p h2
 obtain⟨d3,e3,rfl,h3,H3⟩:=Q0o H2
 obtain⟨x3,rfl,b3⟩:=Q1p h3
 obtain⟨d4,e4,rfl,h4,H4⟩:=Q0o H3
 obtain⟨x4,rfl,b4⟩:=Q1p h4
 obtain⟨d5,e5,rfl,h5,H5⟩:=Q0o H4
 obtain⟨x5,rfl,b5⟩:=Q1p h5
 obtain⟨d6,e6,rfl,h6,H6⟩:=Q0o H5
 obtain⟨x6,rfl,b6⟩:=Q1p h6
 obtain⟨d7,e7,rfl,h7,H7⟩:=Q0o H6
 obtain⟨x7,rfl,b7⟩:=Q1p h7
 obtain⟨d8,e8,rfl,h8,H8⟩:=Q0o H7
 obtain⟨x8,rfl,b8⟩:=Q1p h8
 obtain⟨d9,e9,rfl,h9,H9⟩:=Q0o H8
 obtain⟨x9,rfl,b9⟩:=Q1p h9
 obtain⟨d10,e10,rfl,h10,H10⟩:=Q0o H9
 obtain⟨x10,rfl,b10⟩:=Q1p h10
 obtain⟨d11,e11,rfl,h11,H11⟩:=Q0o H10
 obtain⟨x11,rfl,b11⟩:=Q1p h11
 obtain⟨d12,e12,rfl,h12,H12⟩:=Q0o H11
 obtain⟨x12,rfl,b12⟩:=Q1p h12
 obtain⟨d13,e13,rfl,h13,H13⟩:=Q0o H12
 obtain⟨x13,rfl,b13⟩:=Q1p h13
 obtain⟨d14,e14,rfl,h14,H14⟩:=Q0o H13
 obtain⟨x14,rfl,b14⟩:=Q1p h14
 obtain⟨d15,e15,rfl,h15,H15⟩:=Q0o H14
 obtain⟨x15,rfl,b15⟩:=Q1p h15
 obtain⟨d16,e16,rfl,h16,H16⟩:=Q0o H15
 obtain⟨x16,rfl,b16⟩:=Q1p h16
 obtain⟨d17,e17,rfl,h17,H17⟩:=Q0o H16
 obtain⟨x17,rfl,b17⟩:=Q1p h17
 obtain⟨d18,e18,rfl,h18,H18⟩:=Q0o H17
 obtain⟨x18,rfl,b18⟩:=Q1p h18
 obtain⟨d19,e19,rfl,h19,H19⟩:=Q0o H18
 obtain⟨x19,rfl,b19⟩:=Q1p h19
 obtain⟨d20,e20,rfl,h20,H20⟩:=Q0o H19
 obtain⟨x20,rfl,b20⟩:=Q1p h20
 obtain⟨d21,e21,rfl,h21,H21⟩:=Q0o H20
 obtain⟨x21,rfl,b21⟩:=Q1p h21
 obtain⟨d22,e22,rfl,h22,H22⟩:=Q0o H21
 obtain⟨x22,rfl,b22⟩:=Q1p h22
 obtain⟨d23,e23,rfl,h23,H23⟩:=Q0o H22
 obtain⟨x23,rfl,b23⟩:=Q1p h23
 obtain⟨d24,e24,rfl,h24,H24⟩:=Q0o H23
 obtain⟨x24,rfl,b24⟩:=Q1p h24
 obtain⟨d25,e25,rfl,h25,H25⟩:=Q0o H24
 obtain⟨x25,rfl,r25,b25⟩:=Zal h25
 obtain⟨d26,e26,rfl,h26,H26⟩:=Q0o H25
 obtain⟨x26,rfl,b26⟩:=qd h26
 obtain⟨d27,e27,rfl,h27,H27⟩:=Q0o H26
 obtain⟨x27,rfl⟩:=Qm0 h27
 obtain⟨d28,e28,rfl,h28,H28⟩:=Q0o H27
 obtain⟨x28,rfl,b28⟩:=Q1p h28
 obtain⟨d29,e29,rfl,h29,H29⟩:=Q0o H28
 obtain⟨x29,rfl⟩:=Qm0 h29
 obtain⟨d30,e30,rfl,h30,H30⟩:=Q0o H29
 obtain⟨x30,rfl,b30⟩:=Q1p h30
 obtain⟨d31,e31,rfl,h31,H31⟩:=Q0o H30
 obtain⟨x31,rfl,b31⟩:=Q1p h31
 obtain⟨d32,e32,rfl,h32,H32⟩:=Q0o H31
 obtain⟨x32,rfl,b32⟩:=Q1p h32
 obtain⟨d33,e33,rfl,h33,H33⟩:=Q0o H32
 obtain⟨x33,rfl,b33⟩:=Q1p h33
 obtain⟨d34,e34,rfl,h34,H34⟩:=Q0o H33
 obtain⟨x34,rfl,b34⟩:=Q1p h34
 obtain⟨d35,e35,rfl,h35,H35⟩:=Q0o H34
 obtain⟨x35,rfl,b35⟩:=Q1p h35
 obtain⟨d36,e36,rfl,h36,H36⟩:=Q0o H35
 obtain⟨x36,rfl,b36⟩:=Q1p h36
 obtain⟨d37,e37,rfl,h37,H37⟩:=Q0o H36
 obtain⟨x37,rfl,b37⟩:=qd h37
 obtain⟨d38,e38,rfl,h38,H38⟩:=Q0o H37
 obtain⟨x38,rfl,b38⟩:=Q1p h38
 obtain⟨d39,e39,rfl,h39,H39⟩:=Q0o H38
 obtain⟨x39,rfl,b39⟩:=Q1p h39
 obtain⟨d40,e40,rfl,h40,H40⟩:=Q0o H39
 obtain⟨x40,rfl⟩:=Qm0 h40
 obtain⟨d41,e41,rfl,h41,H41⟩:=Q0o H40
 obtain⟨x41,rfl,b41⟩:=Q1p h41
 obtain⟨d42,e42,rfl,h42,H42⟩:=Q0o H41
 obtain⟨x42,rfl⟩:=Qm0 h42
 obtain⟨d43,e43,rfl,h43,H43⟩:=Q0o H42
 obtain⟨x43,rfl,b43⟩:=Q1p h43
 obtain⟨d44,e44,rfl,h44,H44⟩:=Q0o H43
 obtain⟨x44,rfl,b44⟩:=Q1p h44
 obtain⟨d45,e45,rfl,h45,H45⟩:=Q0o H44
 obtain⟨x45,rfl,b45⟩:=Q1p h45
 obtain⟨d46,e46,rfl,h46,H46⟩:=Q0o H45
 obtain⟨x46,rfl,b46⟩:=Q1p h46
 obtain⟨d47,e47,rfl,h47,H47⟩:=Q0o H46
 obtain⟨x47,rfl⟩:=Qm0 h47
 obtain⟨d48,e48,rfl,h48,H48⟩:=Q0o H47
 obtain⟨x48,rfl⟩:=Qm0 h48
 obtain rfl:=xN H48
 refine⟨⟨⟨⟨x0,x1,x2,x3,x4,x5,x6,x7,x8,x9,x10,x11,x12,x13,x14,x15⟩,x16,⟨x17,x18,x19,x20,x21,x22,x23,x24⟩⟩,x25,⟨x26⟩,⟨x27,x28,x29⟩,⟨x30,x31,x32,x33,x34,x35,x36,x37⟩,⟨x38,x39,x40,x41,x42,x43⟩,⟨x44,x45⟩,x46,x47,x48⟩,rfl,⟨⟨?_,u_of b16,?_⟩,λw hw=>u_of (b25 w hw),⟨u_of b31,u_of b32,u_of b35,u_of b36⟩,⟨u_of b38,u_of b39,u_of b41,u_of b43⟩,⟨u_of b44,u_of b45⟩,b46.1⟩,r25,⟨u_of b28,u_of b30,i_of b33,i_of b34,b46.1,by have h:u64.max=18446744073709551615:=rfl;have:=b46.2;show x46<_;omega⟩⟩
 . intro w hw
   have hw:w∈[x0,x1,x2,x3,x4,x5,x6,x7,x8,x9,x10,x11,x12,x13,x14,x15]:=hw
   simp only[cU,cV,or_false]at hw
   rcases hw with rfl|rfl|rfl|rfl|rfl|rfl|rfl|rfl|rfl|rfl|rfl|rfl|rfl|rfl|rfl|rfl
   . exact u_of b0
   . exact u_of b1
   . exact u_of b2
   . exact u_of b3
   . exact u_of b4
   . exact u_of b5
   . exact u_of b6
   . exact u_of b7
   . exact u_of b8
   . exact u_of b9
   . exact u_of b10
   . exact u_of b11
   . exact u_of b12
   . exact u_of b13
   . exact u_of b14
   . exact u_of b15
 . intro w hw
   have hw:w∈[x17,x18,x19,x20,x21,x22,x23,x24]:=hw
   simp only[cU,cV,or_false]at hw
   rcases hw with rfl|rfl|rfl|rfl|rfl|rfl|rfl|rfl
   . exact u_of b17
   . exact u_of b18
   . exact u_of b19
   . exact u_of b20
   . exact u_of b21
   . exact u_of b22
   . exact u_of b23
   . exact u_of b24
theorem SubL.rfl: ∀{l:List D},SubL l l
 |[]=>trivial
 |_::_=>⟨Sub1.rfl,SubL.rfl⟩
theorem SubL.append: ∀{a b a' b':List D},SubL a a'->SubL b b'->SubL (a++b) (a'++b')
 |[],_,[],_,_,h=>h
 |_::_,_,_::_,_,h,g=>⟨h.1,SubL.append h.2 g⟩
 |[],_,_::_,_,h,_=>h.elim
 |_::_,_,[],_,h,_=>h.elim
def uvL(n:Nat):List Int:=if h:n<128 then [(n:Int)] else((n%128+128:Nat):Int)::uvL (n/128)
termination_by n
decreasing_by omega
theorem Z72{n:Nat}(h:n<128):uvL n=[(n:Int)]:=by unfold uvL;rw[dif_pos h]
theorem qn{n:Nat}(h: ¬n<128):uvL n=((n%128+128:Nat):Int)::uvL (n/128):=by
 conv=>lhs;unfold uvL
 rw[dif_neg h]
theorem Zb1: ∀(k n:Nat),n<128^(k+1)->(uvL n).length<=k+1
 |0,n,h=>by rw[Z72 (by simpa using h)];exact aO _
 | k +1,n,h=>by
   by_cases g:n<128
   . rw[Z72 g];exact Nat.le_add_left _ _
   . rw[qn g,dJ]
     have:=Zb1 k (n/128) (by rw[Nat.pow_succ]at h;exact Nat.div_lt_of_lt_mul (by rw[fC];exact h))
     omega
def uvB(x:Int):List UInt8:=bytesOf (uvL x.toNat)
theorem Qw0: ∀s:List UInt8,bytesOf (Q1f s)=s
 |[]=>rfl
 | b::s=>by
   show fD ((b.toNat:Int)).toNat::bytesOf (Q1f s)=_
   rw[Qw0 s,eF,UInt8.ofNat_toNat]
theorem or128: ∀n:Fin 256,ior .u8 (n.val:Int) 128=((n.val%128+128:Nat):Int):=by decide
theorem Zlv{x:Int}(h:0<=x):ior .u8 (wrap .u8 x) 128=((x.toNat%128+128:Nat):Int):=by
 have e:wrap .u8 x=((x.toNat%256:Nat):Int):=by rw[wrap_u8];omega
 rw[e]
 have:=or128 ⟨x.toNat%256,eO _ (by decide)⟩
 rw[this]
 show((x.toNat%256%128+128:Nat):Int)=_
 omega
theorem shr7{x:Int}(h:0<=x):ishr .u64 x 7=((x.toNat/128:Nat):Int):=by
 have:ishr .u64 x 7=x.fdiv 128:=rfl
 rw[this,dQ _ (by decide)];omega
theorem xaH{x:Int}(h0:0<=x)(h1:x<18446744073709551616):(Q6o x).w (λs=>s=uvB x):=by
 have hl:=Zb1 9 x.toNat (by rw[show(128:Nat)^(9+1)=1180591620717411303424 by decide];omega)
 unfold Q6o
 refine w_lp (inv:=λv:Int×List Int=>0<=v.1/\v.2++uvL v.1.toNat=uvL x.toNat) (μ:=Qei x) ⟨h0,rfl⟩ (cO _) λv ⟨a,b⟩=> ?_
 obtain⟨y,o⟩:=v
 have a:0<=y:=a
 have b:o++uvL y.toNat=uvL x.toNat:=b
 have bl:=congrArg dL b
 rw[lA]at bl
 refine w_br (λhb=> ?_) (λhb=> ?_)
 . have hb:y>=128:=oY hb
   have g: ¬y.toNat<128:=by omega
   rw[qn g]at b bl
   rw[dJ]at bl
   refine w_cn (dY (by show 1*(o.length+1)<=_;omega)) (w_nx ?_)
   show(0<=ishr .u64 y 7/\(o++[ior .u8 (wrap .u8 y) 128])++uvL (ishr .u64 y 7).toNat=uvL x.toNat)/\(ishr .u64 y 7).toNat<y.toNat
   rw[shr7 a,Zlv a,eF]
   refine⟨⟨by omega,?_⟩,by omega⟩
   rw[fL];exact b
 . have hb: ¬y>=128:=oN hb
   have g:y.toNat<128:=by omega
   rw[Z72 g]at b bl
   refine w_cn (dY (by show 1*(o.length+1)<=_;rw[dA]at bl;omega)) ?_
   show bytesOf (o++[wrap .u8 y])=uvB x
   unfold uvB
   rw[<-b,show wrap .u8 y=((y.toNat:Nat):Int) by rw[wrap_u8];omega]
theorem Q6q{x:Int}(h1:x<18446744073709551616):(uvB x).length<=10:=by
 unfold uvB bytesOf
 rw[fM]
 exact Zb1 9 x.toNat (by rw[show(128:Nat)^(9+1)=1180591620717411303424 by decide];omega)
def uvs(l:List Int):List UInt8:=l.flatMap uvB
theorem Qjo: ∀{l:List Int},(∀x∈l,x<18446744073709551616)->(uvs l).length<=10*l.length
 |[],_=>aO _
 | x::l,h=>by
   have a:=Q6q (h x (by simp))
   have b:=Qjo (l:=l) λy hy=>h y (by simp [hy])
   show(uvB x++uvs l).length<=_
   rw[lA,dJ];omega
theorem Qm6(x:Int)(l:List Int):uvs (x::l)=uvB x++uvs l:=rfl
theorem xn(l m:List Int):uvs (l++m)=uvs l++uvs m:=List.flatMap_append
theorem Zk0{b:List Int}{s:List UInt8}(h:b.length+s.length<=1000000):(Q32 b s).w (λx=>x.2.2=b++Q1f s):=by
 unfold Q32
 refine w_lv λx0 e0=> ?_
 have e0:x0=b:=e0
 subst e0
 refine w_cn (dY ?_) rfl
 have:(Q1f s).length=s.length:=fM ..
 omega
theorem Q0t(s:List UInt8):(Q1f s).length=s.length:=fM ..
theorem Qkx(s t:List UInt8):Q1f (s++t)=Q1f s++Q1f t:=bK
theorem Qln{l:List Int}{i:Nat}(h:i<l.length):l.getD i 0=l[i]:=by rw[cP,cG h];rfl
theorem Qgv{c l:List Int}(hl: ∀x∈l,0<=x/\x<18446744073709551616)(hc:c.length+10*l.length<=1000000):(Q3 c l).w (λx=>x=c++Q1f (uvs l)):=by
 unfold Q3
 refine w_lp (inv:=λv:Int×List Int=>0<=v.1/\v.1<=l.length/\v.2++Q1f (uvs (l.drop v.1.toNat))=c++Q1f (uvs l)) (μ:=Q8l c l) ⟨cX 0,by show(0:Int)<=_;omega,rfl⟩ (cO _) λv ⟨a1,a2,a3⟩=> ?_
 obtain⟨i,o⟩:=v
 have a1:0<=i:=a1
 have a2:i<=l.length:=a2
 have a3:o++Q1f (uvs (l.drop i.toNat))=c++Q1f (uvs l):=a3
 refine w_br (λhb=> ?_) (λhb=> ?_)
 . have hb:i<l.length:=oY hb
   have hlt:i.toNat<l.length:=by omega
   have ew:i64.wrap (i+1)=i+1:=by rw[wrap_i64];omega
   have ed:=Qln hlt
   have hm:=hl _ (cQ hlt)
   rw[aB hlt,Qm6,Qkx,<-ed]at a3
   rw[<-ed]at hm
   have len:=congrArg dL a3
   rw[lA,lA,lA,Q0t,Q0t,Q0t]at len
   have ul:=Qjo λy hy=>(hl y hy).2
   refine w_cn (by simp [bT];omega) (Q08 (xaH hm.1 hm.2) λx0 e0=> ?_)
   rw[e0]
   refine Q08 (Zk0 (b:=o) (s:=uvB (l.getD i.toNat 0)) (by omega)) λx1 e1=>w_nx ?_
   show(0<=i64.wrap (i+1)/\i64.wrap (i+1)<=l.length/\x1.2.2++Q1f (uvs (l.drop (i64.wrap (i+1)).toNat))=c++Q1f (uvs l))/\(l.length-i64.wrap (i+1)).toNat<(l.length-i).toNat
   rw[ew,e1,show(i+1).toNat=i.toNat+1 by omega,fL]
   exact⟨⟨by omega,by omega,a3⟩,by omega⟩
 . have hb: ¬i<l.length:=oN hb
   rw[aA (by omega)]at a3
   show o=_
   rw[<-a3];exact(cJ o).symm
theorem Qqa{x:Int}(h:U x):wrap .u64 x=x:=by have:=h.1;have:=h.2;rw[wrap_u64];omega
theorem Qio{c l:List Int}(hl: ∀x∈l,U x)(hc:c.length+10*l.length<=900000):(Q3x c l).w (λx=>x=c++Q1f (uvs l)):=by
 unfold Q3x
 refine w_lp (inv:=λv:Int×List Int=>0<=v.1/\v.1<=l.length/\v.2++Q1f (uvs (l.drop v.1.toNat))=c++Q1f (uvs l)) (μ:=Qa8 c l) ⟨cX 0,by show(0:Int)<=_;omega,rfl⟩ (cO _) λv ⟨a1,a2,a3⟩=> ?_
 obtain⟨i,o⟩:=v
 have a1:0<=i:=a1
 have a2:i<=l.length:=a2
 have a3:o++Q1f (uvs (l.drop i.toNat))=c++Q1f (uvs l):=a3
 refine w_br (λhb=> ?_) (λhb=> ?_)
 . have hb:i<l.length:=oY hb
   have hlt:i.toNat<l.length:=by omega
   have ew:i64.wrap (i+1)=i+1:=by rw[wrap_i64];omega
   have ed:=Qln hlt
   have hm:=hl _ (cQ hlt)
   rw[aB hlt,Qm6,Qkx,<-ed]at a3
   rw[<-ed]at hm
   have len:=congrArg dL a3
   rw[lA,lA,lA,Q0t,Q0t,Q0t]at len
   have ul:=Qjo (l:=l) λy hy=>by have:=(hl y hy).2;omega
   have h2:=hm.2
   refine w_cn (by simp [bT];omega) (Q08 (Qgv (c:=o) (λx hx=>by rw[List.mem_singleton.1 hx,Qqa hm];exact⟨hm.1,by omega⟩) (by show o.length+10*1<=_;omega)) λx0 e0=>w_nx ?_)
   have e0:x0=o++Q1f (uvB (l.getD i.toNat 0)):=by
     rw[e0,Qqa hm,Qm6]
     show o++Q1f (uvB _++[])=_
     rw[cJ]
   show(0<=i64.wrap (i+1)/\i64.wrap (i+1)<=l.length/\x0++Q1f (uvs (l.drop (i64.wrap (i+1)).toNat))=c++Q1f (uvs l))/\(l.length-i64.wrap (i+1)).toNat<(l.length-i).toNat
   rw[ew,e0,show(i+1).toNat=i.toNat+1 by omega,fL]
   exact⟨⟨by omega,by omega,a3⟩,by omega⟩
 . have hb: ¬i<l.length:=oN hb
   rw[aA (by omega)]at a3
   show o=_
   rw[<-a3];exact(cJ o).symm
def Qn(b:Bool):Int:=bif b then 1 else 0
theorem Z68{c:List Int}(b:Bool)(hc:c.length<=999000):(Q4j c b).w (λx=>x=c++Q1f (uvs [Qn b])):=by
 unfold Q4j
 cases b
 . exact w_br (λh=>by cases h) λ_=>Q08 (Qgv (c:=c) (l:=[0]) (λx hx=>by rw[List.mem_singleton.1 hx];decide) (by show c.length+10*1<=_;omega)) λx e=>e
 . exact w_br (λ_=>Q08 (Qgv (c:=c) (l:=[1]) (λx hx=>by rw[List.mem_singleton.1 hx];decide) (by show c.length+10*1<=_;omega)) λx e=>e) λh=>by cases h
def Za7(s:List UInt8):List UInt8:=uvB s.length++s
theorem Zkf{c:List Int}{s:List UInt8}(hc:c.length+s.length<=900000):(Q41 c s).w (λx=>x=c++Q1f (Za7 s)):=by
 have ew:wrap .u64 ((s.length:Nat):Int)=s.length:=by rw[wrap_u64];omega
 have hu:=Q6q (x:=(s.length:Int)) (by omega)
 unfold Q41
 refine Q08 (Qgv (c:=c) (λx hx=>by rw[List.mem_singleton.1 hx,ew];omega) (by show c.length+10*1<=_;omega)) λx0 e0=> ?_
 rw[ew]at e0
 have e0:x0=c++Q1f (uvB s.length):=by
   rw[e0,Qm6]
   show c++Q1f (uvB _++[])=_
   rw[cJ]
 refine Q08 (Zk0 (by rw[e0,lA,Q0t];omega)) λx1 e1=> ?_
 show x1.2.2=_
 rw[e1,e0]
 unfold Za7
 rw[Qkx,fL]
def enc1(m:Q00):List Int:=A16.l m.B1.X++(m.B1.Pc::A8.l m.B1.B4)++[(m.Mem.length:Int)]
def enc2(m:Q00):List Int:=[Qn m.A7.D2,m.A7.C4,Qn m.A7.D1,m.A9.Blocks,m.A9.C1,m.A9.Frame,wrap .u64 m.A9.B8,wrap .u64 m.A9.D4,m.A9.B5,m.A9.B2]
def enc3(m:Q00):List Int:=[m.B9.Frame,m.B9.D8,Qn m.B9.C5,m.B9.C0,Qn m.B9.B6,m.B9.D9,m.A1.C6,m.A1.C2,m.A4,Qn m.A3,Qn m.A6]
def encM(m:Q00):List UInt8:=uvs (enc1 m)++(uvs m.Mem++(Za7 m.A2.D0++(uvs (enc2 m)++(Za7 m.A9.B7++uvs (enc3 m)))))
theorem Zkn{m:Q00}(hv:okV m)(hr:rngM m)(hm:m.Mem.length<=1024)(hk:m.A2.D0.length<=100000)(ho:m.A9.B7.length<=100000):(Q7t m).w (λs=>s=encM m/\s.length<=400000):=by
 obtain⟨c1,c2,c3⟩:=hv.cpu
 obtain⟨d1,d2,d3,d4⟩:=hv.disk
 obtain⟨n1,n2,n3,n4⟩:=hv.nic
 obtain⟨b1,b2⟩:=hv.bal
 obtain⟨r1,r2,r3,r4,r5⟩:=hr
 have one: ∀{x:Int},U x-> ∀y∈[x],U y:=λh y hy=>by rw[List.mem_singleton.1 hy];exact h
 have kl: ∀{s:List UInt8},s.length<=100000->(Za7 s).length<=10+s.length:=fun{s} h=>by
   have:=Q6q (x:=(s.length:Int)) (by omega)
   unfold Za7;rw[lA];omega
 have k1:=kl hk
 have k2:=kl ho
 have ws: ∀{l:List Int},(∀x∈l,U x)->(uvs l).length<=10*l.length:=λh=>Qjo λy hy=>by have:=(h y hy).2;omega
 have W: ∀{x:Int},0<=wrap .u64 x/\wrap .u64 x<18446744073709551616:=fun{x}=>by rw[wrap_u64];omega
 have fl: ∀b:Bool,(uvs [Qn b]).length<=10:=λb=>Qjo (l:=[Qn b]) λy hy=>by rw[List.mem_singleton.1 hy];cases b<;>decide
 have ml:=ws hv.mem
 have eL:wrap .u64 ((m.Mem.length:Nat):Int)=m.Mem.length:=by rw[wrap_u64];omega
 have U3: ∀x∈[m.A9.Blocks,m.A9.C1,m.A9.Frame],U x:=λx hx=>by
   simp only[cU,cV,or_false]at hx
   rcases hx with rfl|rfl|rfl<;>assumption
 have U2: ∀{a b:Int},U a->U b-> ∀x∈[a,b],U x:=λha hb x hx=>by
   simp only[cU,cV,or_false]at hx
   rcases hx with rfl|rfl<;>assumption
 have S2: ∀x∈[wrap .u64 m.A9.B8,wrap .u64 m.A9.D4],0<=x/\x<18446744073709551616:=λx hx=>by
   simp only[cU,cV,or_false]at hx
   rcases hx with rfl|rfl<;>exact W
 have sl:=Qjo (l:=[wrap .u64 m.A9.B8,wrap .u64 m.A9.D4]) λx hx=>(S2 x hx).2
 have L16:=ws (l:=A16.l m.B1.X) c1
 have L8:=ws (l:=A8.l m.B1.B4) c3
 have l16:(A16.l m.B1.X).length=16:=rfl
 have l8:(A8.l m.B1.B4).length=8:=rfl
 have p1:=ws (one c2)
 have e1:=Qjo (l:=[(m.Mem.length:Int)]) λx hx=>by rw[List.mem_singleton.1 hx];omega
 have q1:=ws (one r1)
 have q2:=ws U3
 have q3:=ws (U2 d3 d4)
 have q4:=ws (U2 n1 n2)
 have q5:=ws (one n3)
 have q6:=ws (one n4)
 have q7:=ws (U2 b1 b2)
 have q8:=Qjo (l:=[m.A4]) λx hx=>by rw[List.mem_singleton.1 hx];exact r5.2
 have f1:=fl m.A7.D2
 have f2:=fl m.A7.D1
 have f3:=fl m.B9.C5
 have f4:=fl m.B9.B6
 have f5:=fl m.A3
 have f6:=fl m.A6
 simp only[dJ,dK]at sl p1 e1 q1 q2 q3 q4 q5 q6 q7 q8
 unfold Q7t
 refine Q08 (Qio (c:=[]) (l:=A16.l m.B1.X) c1 (by rw[l16];decide)) λx0 g0=> ?_
 have z0:x0.length<=160:=by rw[g0,lA,Q0t];show 0+_<=_;omega
 refine Q08 (Qio (one c2) (by show x0.length+10*1<=_;omega)) λx1 g1=> ?_
 have z1:x1.length<=170:=by rw[g1,lA,Q0t];omega
 refine Q08 (Qio (l:=A8.l m.B1.B4) c3 (by rw[l8];omega)) λx2 g2=> ?_
 have z2:x2.length<=250:=by rw[g2,lA,Q0t];omega
 rw[eL]
 refine Q08 (Qgv (l:=[(m.Mem.length:Int)]) (λx hx=>by rw[List.mem_singleton.1 hx];omega) (by show x2.length+10*1<=_;omega)) λx3 g3=> ?_
 have z3:x3.length<=260:=by rw[g3,lA,Q0t];omega
 refine Q08 (Qio hv.mem (by omega)) λx4 g4=> ?_
 have z4:x4.length<=10500:=by rw[g4,lA,Q0t];omega
 refine Q08 (Zkf (s:=m.A2.D0) (by omega)) λx5 g5=> ?_
 have z5:x5.length<=110510:=by rw[g5,lA,Q0t];omega
 refine Q08 (Z68 m.A7.D2 (by omega)) λx6 g6=> ?_
 have z6:x6.length<=110520:=by rw[g6,lA,Q0t];omega
 refine Q08 (Qio (one r1) (by show x6.length+10*1<=_;omega)) λx7 g7=> ?_
 have z7:x7.length<=110530:=by rw[g7,lA,Q0t];omega
 refine Q08 (Z68 m.A7.D1 (by omega)) λx8 g8=> ?_
 have z8:x8.length<=110540:=by rw[g8,lA,Q0t];omega
 refine Q08 (Qio U3 (by show x8.length+10*3<=_;omega)) λx9 g9=> ?_
 have z9:x9.length<=110570:=by rw[g9,lA,Q0t];omega
 refine Q08 (Qgv S2 (by show x9.length+10*2<=_;omega)) λx10 g10=> ?_
 have z10:x10.length<=110590:=by rw[g10,lA,Q0t];omega
 refine Q08 (Qio (U2 d3 d4) (by show x10.length+10*2<=_;omega)) λx11 g11=> ?_
 have z11:x11.length<=110610:=by rw[g11,lA,Q0t];omega
 refine Q08 (Zkf (s:=m.A9.B7) (by omega)) λx12 g12=> ?_
 have z12:x12.length<=210620:=by rw[g12,lA,Q0t];omega
 refine Q08 (Qio (U2 n1 n2) (by show x12.length+10*2<=_;omega)) λx13 g13=> ?_
 have z13:x13.length<=210640:=by rw[g13,lA,Q0t];omega
 refine Q08 (Z68 m.B9.C5 (by omega)) λx14 g14=> ?_
 have z14:x14.length<=210650:=by rw[g14,lA,Q0t];omega
 refine Q08 (Qio (one n3) (by show x14.length+10*1<=_;omega)) λx15 g15=> ?_
 have z15:x15.length<=210660:=by rw[g15,lA,Q0t];omega
 refine Q08 (Z68 m.B9.B6 (by omega)) λx16 g16=> ?_
 have z16:x16.length<=210670:=by rw[g16,lA,Q0t];omega
 refine Q08 (Qio (one n4) (by show x16.length+10*1<=_;omega)) λx17 g17=> ?_
 have z17:x17.length<=210680:=by rw[g17,lA,Q0t];omega
 refine Q08 (Qio (U2 b1 b2) (by show x17.length+10*2<=_;omega)) λx18 g18=> ?_
 have z18:x18.length<=210700:=by rw[g18,lA,Q0t];omega
 refine Q08 (Qgv (l:=[m.A4]) (λx hx=>by rw[List.mem_singleton.1 hx];exact r5) (by show x18.length+10*1<=_;omega)) λx19 g19=> ?_
 have z19:x19.length<=210710:=by rw[g19,lA,Q0t];omega
 refine Q08 (Z68 m.A3 (by omega)) λx20 g20=> ?_
 have z20:x20.length<=210720:=by rw[g20,lA,Q0t];omega
 refine Q08 (Z68 m.A6 (by omega)) λx21 g21=> ?_
 have z21:x21.length<=210730:=by rw[g21,lA,Q0t];omega
 refine w_lv λx22 e=> ?_
 have e:x22.1=bytesOf x21:=congrArg Prod.fst e
 show x22.1=encM m/\x22.1.length<=400000
 rw[e]
 refine⟨?_,by show(x21.map _).length<=_;rw[fM];omega⟩
 rw[g21,g20,g19,g18,g17,g16,g15,g14,g13,g12,g11,g10,g9,g8,g7,g6,g5,g4,g3,g2,g1,g0]
 simp only[fN,<-Qkx,Qw0]
 unfold encM enc1 enc2 enc3
 simp only[xn,Qm6,fL,fN,show uvs []=[] from rfl,cJ]
theorem qap{x y:A16 Int}(h:A16.l x=A16.l y):x=y:=by
 obtain⟨_,_,_,_,_,_,_,_,_,_,_,_,_,_,_,_⟩:=x
 obtain⟨_,_,_,_,_,_,_,_,_,_,_,_,_,_,_,_⟩:=y
 simp only[A16.l,List.cons.injEq,and_true]at h
 simp only[A16.mk.injEq];exact h
theorem qaI{x y:A8 Int}(h:A8.l x=A8.l y):x=y:=by
 obtain⟨_,_,_,_,_,_,_,_⟩:=x
 obtain⟨_,_,_,_,_,_,_,_⟩:=y
 simp only[A8.l,List.cons.injEq,and_true]at h
 simp only[A8.mk.injEq];exact h
theorem Zjk{a b:Q00}(h1:a.B1=b.B1)(h2:a.Mem=b.Mem)(h3:a.A2=b.A2)(h4:a.A7=b.A7)(h5:a.A9=b.A9)(h6:a.B9=b.B9)(h7:a.A1=b.A1)(h8:a.A4=b.A4)(h9:a.A3=b.A3)(h10:a.A6=b.A6):a=b:=by
 obtain⟨_,_,_,_,_,_,_,_,_,_⟩:=a
 obtain⟨_,_,_,_,_,_,_,_,_,_⟩:=b
 simp only at h1 h2 h3 h4 h5 h6 h7 h8 h9 h10
 subst h1 h2 h3 h4 h5 h6 h7 h8 h9 h10
 rfl
theorem zap{a b:List Int}(hl:a.length=b.length)(h: ∀i:Nat,i<a.length->a.getD i 0=b.getD i 0):a=b:=by
 refine bM hl λi h1 h2=> ?_
 have:=h i h1
 rw[Qln h1,Qln h2]at this
 exact this
theorem xap{a b:List Int}(ha:a.length<=1000000):(Q1r a b).w (λr=>r=true↔a=b):=by
 have no:a.length≠b.length->(false=true↔a=b):=λh=>⟨(λh=>by cases h),λe=>(h (by rw[e])).elim⟩
 unfold Q1r
 refine w_br (λh=>w_lf (no ?_)) λh=> ?_
 . have h:((a.length:Int) !=b.length)=true:=h
   simp only[bne_iff_ne,ne_eq,fO]at h
   exact h
 have hl:a.length=b.length:=by
   have h:((a.length:Int) !=b.length)=false:=h
   simp only[bne_eq_false_iff_eq,fO]at h
   exact h
 refine w_lp (inv:=λv:Int=>0<=v/\v<=a.length/\ ∀i:Nat,(i:Int)<v->a.getD i 0=b.getD i 0) (μ:=Q2a a b) ⟨cX 0,by omega,λi hi=>by omega⟩ (cO _) λv ⟨v0,v1,v2⟩=> ?_
 refine w_br (λhb=> ?_) (λhb=>w_lf ?_)
 . have hb:v<a.length:=oY hb
   have ew:i64.wrap (v+1)=v+1:=by rw[wrap_i64];omega
   refine w_cn (by simp [bT];omega) (w_cn (by simp [bT];omega) (w_br (λh=>w_lf ⟨(λh=>by cases h),λe=> ?_⟩) λh=>w_nx ?_))
   . rw[e,bne_self_eq_false]at h;cases h
   . have h:a.getD v.toNat 0=b.getD v.toNat 0:=by simpa using h
     show(0<=i64.wrap (v+1)/\i64.wrap (v+1)<=a.length/\ ∀i:Nat,(i:Int)<i64.wrap (v+1)->a.getD i 0=b.getD i 0)/\(a.length-i64.wrap (v+1)).toNat<(a.length-v).toNat
     rw[ew]
     refine⟨⟨by omega,by omega,λi hi=> ?_⟩,by omega⟩
     by_cases e:(i:Int)<v
     . exact v2 i e
     . rw[show i=v.toNat by omega];exact h
 . have hb: ¬v<a.length:=oN hb
   exact⟨λ_=>zap hl λi hi=>v2 i (by omega),λ_=>rfl⟩
def cpuD(c:Q02):List D:=(A16.l c.X).map (D.int .u32)++(D.int .u32 c.Pc::(A8.l c.B4).map (D.int .u32))
theorem Zl9: ∀l:List D,(∀d∈l,eq1 d d=true)->eqs l l=true
 |[],_=>rfl
 | d::l,h=>by
   show(eq1 d d&&eqs l l)=true
   rw[h d (by simp),Zl9 l λe he=>h e (by simp [he])];rfl
theorem Zlb(k:IntKind): ∀{l m:List Int},l.length=m.length->eqs (l.map (D.int k)) (m.map (D.int k))=true->l=m
 |[],[],_,_=>rfl
 | x::l,y::m,hl,h=>by
   have h:((x==y)&&eqs (l.map (D.int k)) (m.map (D.int k)))=true:=h
   rw[aE]at h
   rw[eq_of_beq h.1,Zlb k (by simpa using hl) h.2]
 |[],_::_,hl,_=>by simp at hl
 |_::_,[],hl,_=>by simp at hl
theorem zn{a b:Q02}:eqs (cpuD a) (cpuD b)=true↔a=b:=by
 constructor
 . intro h
   have e: ∀c:Q02,cpuD c=(A16.l c.X++c.Pc::A8.l c.B4).map (D.int .u32):=λc=>by unfold cpuD;rw[bK];rfl
   rw[e,e]at h
   have h:=Zlb .u32 (by rfl) h
   obtain⟨h1,h2⟩:=List.append_inj h rfl
   obtain⟨h4,h3⟩:=List.cons.inj h2
   have k1:=qap h1
   have k3:=qaI h3
   clear h1 h3 h2 h e
   obtain⟨_,_,_⟩:=a
   obtain⟨_,_,_⟩:=b
   simp only at k1 h4 k3
   subst k1 h4 k3;rfl
 . intro h
   subst h
   refine Zl9 _ λd hd=> ?_
   unfold cpuD at hd
   simp only[bX,List.mem_map,cU]at hd
   rcases hd with⟨x,_,rfl⟩|rfl|⟨x,_,rfl⟩<;>exact beq_self_eq_true _
theorem Zlf{a b:Q0c}:eqs [D.str a.D0] [D.str b.D0]=true↔a=b:=by
 obtain⟨_⟩:=a;obtain⟨_⟩:=b
 simp [eqs,eq1]
theorem Zdo{a b:Q0i}:eqs [D.bool a.D2,D.int .u32 a.C4,D.bool a.D1] [D.bool b.D2,D.int .u32 b.C4,D.bool b.D1]=true↔a=b:=by
 obtain⟨_,_,_⟩:=a;obtain⟨_,_,_⟩:=b
 simp [eqs,eq1]
theorem Zli{a b:Q0d}:eqs [D.int .u32 a.Blocks,D.int .u32 a.C1,D.int .u32 a.Frame,D.int .i64 a.B8,D.int .i64 a.D4,D.int .u32 a.B5,D.int .u32 a.B2,D.str a.B7] [D.int .u32 b.Blocks,D.int .u32 b.C1,D.int .u32 b.Frame,D.int .i64 b.B8,D.int .i64 b.D4,D.int .u32 b.B5,D.int .u32 b.B2,D.str b.B7]=true↔a=b:=by
 obtain⟨_,_,_,_,_,_,_,_⟩:=a;obtain⟨_,_,_,_,_,_,_,_⟩:=b
 simp [eqs,eq1]
theorem yn{a b:Q0n}:eqs [D.int .u32 a.Frame,D.int .u32 a.D8,D.bool a.C5,D.int .u32 a.C0,D.bool a.B6,D.int .u32 a.D9] [D.int .u32 b.Frame,D.int .u32 b.D8,D.bool b.C5,D.int .u32 b.C0,D.bool b.B6,D.int .u32 b.D9]=true↔a=b:=by
 obtain⟨_,_,_,_,_,_⟩:=a;obtain⟨_,_,_,_,_,_⟩:=b
 simp [eqs,eq1]
theorem Zg5{a b:Q07}:eqs [D.int .u32 a.C6,D.int .u32 a.C2] [D.int .u32 b.C6,D.int .u32 b.C2]=true↔a=b:=by
 obtain⟨_,_⟩:=a;obtain⟨_,_⟩:=b
 simp [eqs,eq1]
theorem Qst{c:Bool}{p:Prop}(h:c=false)(g:p->c=true):(false=true↔p):=⟨(λh=>by cases h),λe=>by rw[g e]at h;cases h⟩
theorem qaq{a b:Q00}(ha:a.Mem.length<=1000000):(Q6b a b).w (λr=>r=true↔a=b):=by
 unfold Q6b
 refine w_br (λh1=>w_br (λh2=>w_br (λh3=>w_br (λh4=>w_br (λh5=>w_br (λh6=>w_br (λh7=>w_br (λh8=>w_br (λh9=>w_an (show a.Mem.length<=1000000000000 by omega) (w_lv λx ex=>w_lf ?_))
   λh=>w_lf (Qst h λe=>by rw[e];exact beq_self_eq_true _)) λh=>w_lf (Qst h λe=>by rw[e];exact beq_self_eq_true _)) λh=>w_lf (Qst h λe=>by rw[e];exact beq_self_eq_true _)) λh=>w_lf (Qst h λe=>Zg5.2 (by rw[e]))) λh=>w_lf (Qst h λe=>yn.2 (by rw[e]))) λh=>w_lf (Qst h λe=>Zli.2 (by rw[e]))) λh=>w_lf (Qst h λe=>Zdo.2 (by rw[e]))) λh=>w_lf (Qst h λe=>Zlf.2 (by rw[e]))) λh=>w_lf (Qst h λe=>zn.2 (by rw[e]))
 have hx:x=true↔a.Mem=b.Mem:=by rw[ex];exact Tree.post _ (xap ha)
 exact⟨λh=>Zjk (zn.1 h1) (hx.1 h) (Zlf.1 h2) (Zdo.1 h3) (Zli.1 h4) (yn.1 h5) (Zg5.1 h6) (eq_of_beq h7) (eq_of_beq h8) (eq_of_beq h9),λe=>hx.2 (by rw[e])⟩
structure dlU(m:Q00):Prop where
 dl:U m.A7.C4
 bl:U m.A9.Blocks
theorem Zm5(d:Q0d)(m:List Int)(port v at0:Int):(Qbo d m port v at0).1.Blocks=d.Blocks:=by
 show Tree.V (Q4s d m port v at0) (λr=>r.1.Blocks=d.Blocks)
 unfold Q4s
 repeat'(first
   |exact v_lf rfl
   |exact v_lv λ_ _=>v_lf rfl
   |refine v_br (λ_=> ?_) (λ_=> ?_)
   |refine v_an ?_
   |refine v_lv λ_ _=> ?_)
theorem vn(d:Q0d)(m:List Int)(e:Q0e):(Q8v d m e).1.Blocks=d.Blocks:=by
 show Tree.V (Q5v d m e) (λr=>r.1.Blocks=d.Blocks)
 unfold Q5v
 repeat'(first
   |exact v_lf rfl
   |refine v_br (λ_=> ?_) (λ_=> ?_)
   |refine v_an ?_
   |refine v_lv λ_ _=> ?_)
theorem zaq(t:Q0i):(Qot t).1.C4=t.C4:=by
 show Tree.V (Qm t) (λr=>r.1.C4=t.C4)
 unfold Qm
 exact v_br (λ_=>v_lf rfl) λ_=>v_lf rfl
theorem zaI{v:Int}(hv:U v):U (Qpl v).C4:=by
 show Tree.V (Qk2 v) (λr=>U r.C4)
 unfold Qk2
 exact v_br (λ_=>v_lf U_0) λ_=>v_lf hv
theorem in_dl{m:Q00}(h:dlU m)(port clock:Int):dlU (Qb1 m port clock).2:=by
 show Tree.V (Qf7 m port clock) (λr=>dlU r.2)
 unfold Qf7
 repeat'(first
   |exact v_lf h
   |exact v_lf ⟨h.dl,h.bl⟩
   |refine v_br (λ_=> ?_) (λ_=> ?_)
   |refine v_lv λ_ _=> ?_)
theorem xaI{m:Q00}(h:dlU m)(port:Int){v:Int}(hv:U v):dlU (Q8j m port v).2:=by
 show Tree.V (Q9z m port v) (λr=>dlU r.2)
 unfold Q9z
 refine v_br (λ_=>v_lf h) λ_=>v_br (λ_=>v_lf h) λ_=>v_br (λ_=>v_lv λx ex=>v_lf ⟨by rw[ex];exact zaI hv,h.bl⟩) λ_=>v_br (λ_=>v_an (v_lv λx ex=>v_lf ⟨h.dl,by show U x.1.Blocks;rw[ex,Zm5];exact h.bl⟩)) λ_=>v_br (λ_=>v_an (v_lv λx ex=>v_lf ⟨h.dl,h.bl⟩)) λ_=>v_an (v_lv λx ex=>v_lf ⟨h.dl,h.bl⟩)
theorem yX{P:Nat}{m:Q00}(g:good P m)(h:dlU m)(clock:Int):dlU (Q10 m clock).2:=by
  have ic:Q29 (Q0j m):=(Tree.pp (Qgj g.ok.cpu)).2
  have dv:U (Q68 (Q0j m) m.Mem).2.1.Value:=(Tree.pp (do_w ic g.ok.mem)).2.2.1
  rw[xX]
  generalize Q68 (Q0j m) m.Mem=D at*
  have w:dlU (withX m D.1 D.2.2):=⟨h.dl,h.bl⟩
  have i:=in_dl w D.2.1.C7 clock
  have o:=xaI w D.2.1.C7 dv
  unfold finR
  cases D.2.1.C3==1
  . cases D.2.1.C3==2
    . cases D.2.1.C3==3
      . cases D.2.1.C3==4
        . exact⟨h.dl,h.bl⟩
        . exact⟨h.dl,h.bl⟩
      . exact⟨h.dl,h.bl⟩
    . exact⟨o.dl,o.bl⟩
  . exact⟨i.dl,i.bl⟩
theorem qaJ{m:Q00}(h:dlU m)(e:Q0e):dlU (Q1s m e).2:=by
 show Tree.V (Q64 m e) (λr=>dlU r.2)
 unfold Q64
 repeat'(first
   |exact v_lf h
   |exact v_lf ⟨h.dl,h.bl⟩
   |exact v_lv λx ex=>v_lf ⟨by rw[ex,zaq];exact h.dl,h.bl⟩
   |exact v_an (v_lv λx ex=>v_lf ⟨h.dl,by show U x.1.Blocks;rw[ex,vn];exact h.bl⟩)
   |exact v_an (v_lv λx ex=>v_lf ⟨h.dl,h.bl⟩)
   |refine v_br (λ_=> ?_) (λ_=> ?_))
theorem Zko{r:Q01}(h:dlU r.A0)(e:Q0e):dlU (Qbq r e).A0:=by
 have a:=qaJ h e
 unfold Qbq
 cases(Q1s r.A0 e).1<;>exact a
theorem Zkv{r:Q01}(h:dlU r.A0):dlU (Qd3 r).A0:=by
 unfold Qd3
 cases Qm7 r.A0.A7 r.B3
 . exact h
 . exact Zko h _
theorem zN{n:Nat}{r:Q01}{o:List Q09}(hs:Q24 (Qd3 r).A0=false):recF (n+1) r o=recF n (Zi9 (Qd3 r)) (o++(Q10 (Qd3 r).A0 (Qd3 r).B3).1):=by
 conv=>lhs;unfold recF
 rw[hs];rfl
theorem Zgs{n:Nat}{r:Q01}{o:List Q09}(hs:Q24 (Qd3 r).A0=true):recF (n+1) r o=(Qd3 r,o):=by
 conv=>lhs;unfold recF
 rw[hs];rfl
theorem vX{P:Nat}: ∀(n:Nat) {k:Int} {r:Q01} (o:List Q09),Qbw P k r->dlU r.A0->dlU (recF n r o).1.A0
 |0,_,_,_,_,h=>h
 | n +1,k,r,o,g,h=>by
   obtain⟨gf,_⟩:=Z7m g
   cases hs:Q24 (Qd3 r).A0
   . rw[zN hs]
     exact vX n _ (Z6l gf hs) (yX gf.m (Zkv h) _)
   . rw[Zgs hs];exact Zkv h
theorem qo: ∀(l:List Q0e) {r:Q01},dlU r.A0->dlU (l.foldl Qbq r).A0
 |[],_,h=>h
 |e::l,r,h=>qo l (Zko h e)
theorem xaq{P:Nat}{k:Int}{r:Q01}(g:Qbw P k r)(hq:okQ r.B0)(h:dlU r.A0)(steps:Int){clock:Int}(hc:U clock):dlU (advF r steps clock).1.A0:=by
 have hcl:U (if clock>r.B3 then clock else r.B3):=by split<;>first|exact hc|exact g.clock
 obtain⟨a,b⟩:=Z7p r.B0 (r:={A0:=r.A0,B3:=if clock>r.B3 then clock else r.B3,C8:=r.C8,B0:=r.B0}) ⟨g.m,hcl,g.cnt⟩ hq.2
 unfold advF
 rw[g.m.rmay]
 exact vX _ [] (r:=noQ _) ⟨a.m,a.clock,a.cnt⟩ (qo r.B0 (r:={A0:=r.A0,B3:=if clock>r.B3 then clock else r.B3,C8:=r.C8,B0:=r.B0}) h)
theorem zaJ{r:Q01}(h:dlU r.A0)(e:Q0e):dlU (Q4x r e).1.A0:=by
 rw[Zej]
 cases Qie e<;>cases e.C3==1<;>cases decide ((r.B0.length:Int)>=16)<;>exact h
theorem ev_dl{A:Q01×Bool}(h:dlU A.1.A0):dlU (A.1,([]:List Q09)).1.A0:=h
theorem yN{P:Nat}{k:Int}{r:Q01}(g:Qbw P k r)(hq:okQ r.B0)(h:dlU r.A0)(n:Int):dlU (Q5p r n).1.A0:=by
 cases hm:dF (Qa1 n 3) 3==0
 . rw[Zki hm,Zm4 _ _ _ (by have:=hq.1;omega)]
   exact xaq g hq h _ (Q0m _)
 . rw[Zls hm]
   exact ev_dl (A:=Q4x r (Qgo n)) (zaJ h _)
theorem qar{α β:Type}(a:α)(b:β):(a,b).1=a:=rfl
theorem Zok(s:Q01×List Q09)(n:Int):(Qoo s n).1=(Q5p s.1 n).1:=(congrArg Prod.fst (Zd7 s n)).trans (qar _ _)
theorem xo{P:Nat}: ∀(l:List Int) {k:Int} {s:Q01×List Q09},Qbw P k s.1->okQ s.1.B0->dlU s.1.A0->dlU (l.foldl Qoo s).1.A0
 |[],_,_,_,_,h=>h
 | n::l,k,s,g,hq,h=>by
   rw[aD]
   have a:=Z6u g hq n
   have b:=yN g hq h n
   rw[<-Zok]at a b
   exact xo l a.1 a.2 b
theorem xaJ(i:List Int):dlU (Q1o 8 4 i).1:=by
 show Tree.V (Q88 8 4 i) (λx=>dlU x.1)
 unfold Q88
 repeat'(first
   |exact v_lf ⟨U_0,U_0⟩
   |exact v_lf ⟨U_0,Q0m _⟩
   |refine v_br (λ_=> ?_) (λ_=> ?_)
   |refine v_an ?_
   |refine v_lv λ_ _=> ?_)
theorem zar{m:Q00}(h:good 8 m)(d:dlU m):Tree.V (Q63 m [] 87) (λx=>dlU x.1):=by
 have z: ∀{x:Q00},x.A7.C4=0->x.A9.Blocks=0->dlU x:=λa b=>⟨a▸U_0,b▸U_0⟩
 unfold Q63
 refine v_lv λx0 _=>v_br (λ_=>v_lf (z rfl rfl)) λ_=>v_br (λ_=>v_lf (z rfl rfl)) λ_=>v_br (λ_=>v_lf (z rfl rfl)) λ_=>v_an (v_lv λx1 _=>v_br (λ_=>v_lf (z rfl rfl)) λ_=>v_an (v_lv λx2 hx=> ?_))
 rw[Z3z]at hx
 refine v_lp (inv:=λv:Q00×List Q09=>good 8 v.1/\dlU v.1) (μ:=Qao m [] 87) ⟨by rw[hx];exact h,by rw[hx];exact d⟩ (cO _) λv0 ⟨a1,a3⟩=> ?_
 have a2:=a1.ok.cnt
 refine v_br (λhb=>v_br (λhm=> ?_) (λ_=>v_lf a3)) (λ_=>v_lf a3)
 have hb:=oY hb
 have hm:=oY hm
 refine v_lp (inv:=λ_=>True) (μ:=Qar m [] 87 v0) trivial (cO _) λv1 _=> ?_
 refine v_br (λ_=>v_lf a3) λhh=>v_an (v_lv λx3 h3=>v_br (λ_=>v_lf a3) λhi=>v_an (v_lv λx4 _=>v_br (λ_=>v_lf (z rfl rfl)) λ_=>v_an (v_lv λx5 h5=>v_cn (v_nx ?_))))
 obtain⟨b1,b2,_⟩:=Zbi a1 ((Z3t a1).2 ⟨hh,h3.symm.trans hi,hm⟩) (clock:=0) U_0
 have b3:=yX a1 a3 0
 rw[<-h5]at b1 b2 b3
 show(good 8 x5.2/\dlU x5.2)/\(87-x5.2.A4).toNat<(87-v0.1.A4).toNat
 exact⟨⟨b1,b3⟩,by omega⟩
theorem Znd(kind:Int)(l:List Int)(hl:l.length*8<=reachBytes)(h40:l.length<=40):dlU (Qej kind l):=by
 show Tree.V (Q3t kind l) dlU
 have code:=(Tree.pp (Zkd l hl)).2
 change((Qia l).length:Int)=l.length/\ ∀w∈Qia l,U w at code
 obtain⟨b1,b2⟩:=code
 unfold Q3t
 have fin: ∀{x3:Q00×Bool} {i:List Int},x3=Q1o 8 4 i->(∀w∈i,U w)->i.length<=256->dlU x3.1/\dlU (Qbg x3.1 [] 87).1:=fun{x3 i} e hu hlen=>by
   obtain⟨c1,_⟩:=Za9 hu hlen
   have d:=xaJ i
   rw[<-e]at c1 d
   exact⟨d,zar c1 d⟩
 refine v_an (v_lv λx0 hx0=>v_br (λ_=>v_an (v_lv λx1 e1=> ?_)) (λhk=> ?_))
 . have eb:x1.1=boot:=by rw[e1];rfl
   obtain⟨q1,q2⟩:boot.length<=160/\ ∀w∈boot,U w:=Zl8
   refine v_lp (inv:=λv:List Int=>v.length<=160/\ ∀w∈v,U w) (μ:=Q8d kind l) ⟨by rw[eb];exact q1,by rw[eb];exact q2⟩ (cO _) λv0 ⟨a1,a2⟩=> ?_
   refine v_br (λhb=> ?_) (λhb=> ?_)
   . have hb:=oY hb
     refine v_cn (v_nx ?_)
     show(_/\_)/\(_:Nat)<_
     refine⟨⟨by rw[lA,dA];omega,λw hw=> ?_⟩,by show 160-(v0++[0]).length<160-v0.length;rw[lA,dA];omega⟩
     rcases List.mem_append.1 hw with hw|hw
     . exact a2 w hw
     . rw[List.mem_singleton.1 hw];exact U_0
   . refine v_an (v_lv λx2 e2=>v_cn ?_)
     rw[<-e2]at b1 b2
     have hu: ∀w∈v0++x2,U w:=λw hw=>(List.mem_append.1 hw).elim (a2 w) (b2 w)
     have hlen:(v0++x2).length<=256:=by rw[lA];omega
     refine v_br (λhb=> ?_) (λhb=>v_an (v_lv λx3 h3=>v_br (λ_=>v_an (v_lv λx4 h4=>v_lf (by rw[h4];exact(fin h3 hu hlen).2))) λ_=>v_lf (fin h3 hu hlen).1))
     have hb:=oY hb;omega
 . refine v_an (v_lv λx2 e2=>v_cn ?_)
   rw[<-e2]at b1 b2
   refine v_br (λhb=> ?_) (λhb=>v_an (v_lv λx3 h3=>v_br (λ_=>v_an (v_lv λx4 h4=>v_lf (by rw[h4];exact(fin h3 b2 (by omega)).2))) λ_=>v_lf (fin h3 b2 (by omega)).1))
   have hb:=oY hb;omega
theorem Znt(kind:Int)(l acts:List Int)(hl:l.length*8<=reachBytes)(f1:l.length<=40)(f2:acts.length<=30):(Qac kind l acts).w (λm=>good 8 m/\dlU m):=by
 unfold Qac
 obtain⟨a,b⟩:=Zfs kind l hl f1
 have d:=Znd kind l hl f1
 refine w_an (Tree.pp (vf kind l hl)).1 (w_lv λm hm=> ?_)
 rw[<-hm]at a b d
 refine w_an (Tree.pp (zaB a.ok acts f2)).1 (w_lv λx hx=> ?_)
 rw[xao _ _ (by omega),xm]at hx
 have g0:Qbw 8 87 {A0:=m,B3:=0,C8:=[],B0:=[]}:=⟨a,U_0,b⟩
 have q0:okQ ([]:List Q0e):=⟨aT _,λe he=>by cases he⟩
 have k:=Zmz acts (s:=({A0:=m,B3:=0,C8:=[],B0:=[]},[])) ⟨g0,q0⟩
 have e:=xo acts (s:=({A0:=m,B3:=0,C8:=[],B0:=[]},[])) g0 q0 d
 rw[<-hx]at k e
 exact⟨k.1.m,e⟩
theorem Zo9(d:Q0d)(pages:Int):Q18 d pages=true->(0<=d.B8/\d.B8<=3)/\(0<=d.D4/\d.D4<=2)/\d.B7.length<=128:=by
 show Tree.V (Q4d d pages) (λb=>b=true->(0<=d.B8/\d.B8<=3)/\(0<=d.D4/\d.D4<=2)/\d.B7.length<=128)
 have no: ∀{p:Prop},(false=true->p):=λh=>by cases h
 have zero: ∀{k:Int},(d.B8==k)=true->(0<=k/\k<=3)->(d.D4==0)=true->decide (d.B7=[])=true->(0<=d.B8/\d.B8<=3)/\(0<=d.D4/\d.D4<=2)/\d.B7.length<=128:=λa b c e=>by
   have a:=eq_of_beq a
   have c:=eq_of_beq c
   have e:=oY e
   exact⟨by omega,by omega,by rw[e];exact aT _⟩
 unfold Q4d
 refine v_br (λ_=>v_lf no) λ_=>v_br (λs=>v_br (λc=>v_br (λ_=>v_br (λ_=>v_lf (zero s (by decide) c)) λ_=>v_lf no) λ_=>v_lf no) λ_=>v_lf no) λ_=>v_br (λs=>v_br (λc=>v_br (λ_=>v_br (λ_=>v_lf (zero s (by decide) c)) λ_=>v_lf no) λ_=>v_lf no) λ_=>v_lf no) λ_=>v_br (λs=>v_br (λc=>v_br (λ_=>v_br (λ_=>v_lf (zero s (by decide) c)) λ_=>v_lf no) λ_=>v_lf no) λ_=>v_lf no) λ_=>v_br (λs=>v_lv λx ex=>v_br (λhx=> ?_) λ_=>v_lf no) λ_=>v_lf no
 have s:=eq_of_beq s
 have cm:Q6u d=true->(0<=d.D4/\d.D4<=2)/\d.B7.length<=128:=by
   show Tree.V (Q3e d) (λb=>b=true->(0<=d.D4/\d.D4<=2)/\d.B7.length<=128)
   unfold Q3e
   refine v_br (λc=>v_lf λe=> ?_) λ_=>v_br (λc=>v_lf λe=> ?_) λ_=>v_lf no
   . have c:=eq_of_beq c
     have e:=oY e
     exact⟨by omega,by rw[e];exact aT _⟩
   . have c:=eq_of_beq c
     have e:=eq_of_beq e
     exact⟨by omega,by omega⟩
 obtain⟨c1,c2⟩:=cm (by rw[<-ex];exact hx)
 exact v_br (λ_=>v_lf λ_=>⟨by omega,c1,c2⟩) λ_=>v_lf no
theorem zo{m:Q00}(h:Q0r m=true):m.A2.D0.length<=16/\(0<=m.A9.B8/\m.A9.B8<=3)/\(0<=m.A9.D4/\m.A9.D4<=2)/\m.A9.B7.length<=128:=by
 have no: ∀{p:Prop},(false=true->p):=λh=>by cases h
 refine(show Tree.V (Q11 m) (λb=>b=true->m.A2.D0.length<=16/\(0<=m.A9.B8/\m.A9.B8<=3)/\(0<=m.A9.D4/\m.A9.D4<=2)/\m.A9.B7.length<=128) from ?_) h
 unfold Q11
 refine v_lv λx0 _=>v_lv λx1 e1=>v_br (λh1=>v_lv λx2 _=>v_br (λ_=>v_lv λx3 e3=>v_br (λh3=> ?_) λ_=>v_lf no) λ_=>v_lf no) λ_=>v_lf no
 have k:m.A2.D0.length<=16:=by
   rw[e1]at h1
   have h1:decide ((m.A2.D0.length:Int)<=16)=true:=h1
   have:=oY h1;omega
 rw[e3]at h3
 have d:=Zo9 _ _ h3
 exact v_lv λx4 _=>v_br (λ_=>v_an (v_lv λx5 _=>v_lf λ_=>⟨k,d⟩)) λ_=>v_lf no
structure Zny(m:Q00):Prop where
 r:rngM m
 k:m.A2.D0.length<=100000
 o:m.A9.B7.length<=100000
theorem vN{P:Nat}{m:Q00}(g:good P m)(d:dlU m):Zny m:=by
 obtain⟨_,_,c,_,dv⟩:=(Qos m).1 g.may
 obtain⟨k,s,cm,o⟩:=zo dv
 have c0:=g.ok.cnt
 exact⟨⟨d.dl,d.bl,by omega,by omega,by omega⟩,by omega,by omega⟩
theorem and3i(a:Int):0<=iand .i64 a 3/\iand .i64 a 3<=3:=by
 unfold iand
 rw[wrap_i64]
 have:(dX i64.bits a&&&dX i64.bits 3).toNat<=3:=by
   show(dX 64 a&&&dX 64 3).toNat<=3
   rw[eB]
   exact bH eG (by decide)
 omega
theorem wi64(x:Int): -9223372036854775808<=wrap .i64 x/\wrap .i64 x<9223372036854775808:=by rw[wrap_i64];omega
theorem wu64(x:Int):0<=wrap .u64 x/\wrap .u64 x<18446744073709551616:=by rw[wrap_u64];omega
theorem Zd1(n k:Int)(h0:0<=k)(h1:k<=1000):(Ql5 n k).length<=1000:=by
 show Tree.V (Qdf n k) (λs=>s.length<=1000)
 unfold Qdf
 refine v_lp (inv:=λv:Int×List Int=>0<=v.1/\v.1<=k/\v.2.length=v.1.toNat) (μ:=Qcu n k) ⟨cX 0,h0,rfl⟩ (cO _) λv ⟨a,b,c⟩=> ?_
 refine v_br (λhb=> ?_) (λhb=> ?_)
 . have hb:=oY hb
   have e:i64.wrap (v.1+1)=v.1+1:=by rw[wrap_i64];omega
   refine v_lv λx _=>v_cn (v_nx ?_)
   show(0<=i64.wrap (v.1+1)/\i64.wrap (v.1+1)<=k/\(v.2++[_]).length=(i64.wrap (v.1+1)).toNat)/\(k-i64.wrap (v.1+1)).toNat<(k-v.1).toNat
   rw[e,lA,dA]
   exact⟨⟨by omega,by omega,by omega⟩,by omega⟩
 . refine v_lf ?_
   show(bytesOf v.2).length<=_
   unfold bytesOf
   rw[fM,c];omega
theorem qO{P:Nat}{m:Q00}(g:good P m)(d:dlU m)(where0 what:Int):Zny (Qtr m where0 what):=by
  obtain⟨⟨r1,r2,r3,r4,r5⟩,k,o⟩:=vN g d
  show Tree.V (Qbc m where0 what) Zny
  unfold Qbc
  refine v_an (v_lv λx0 e0=>v_an (v_lv λx1 _=> ?_))
  rw[Z3z]at e0
  subst e0
  repeat'(first
    |exact v_lf ⟨⟨r1,r2,r3,r4,r5⟩,k,o⟩
    |exact v_an (v_lv λx ex=>v_an (v_lv λy ey=>v_lf ⟨⟨r1,r2,r3,r4,r5⟩,by
        have:=Qsa (n:=what) (k:=18) (by decide) (by decide)
        rw[<-ex]at this
        show y.length<=100000
        rw[ey]
        have:=Zd1 what x (by omega) (by omega)
        omega,o⟩))
    |exact v_lf ⟨⟨Qh5 _ _,r2,r3,r4,r5⟩,k,o⟩
    |exact v_lf ⟨⟨r1,r2,by have:=and3i what;show-9223372036854775808<=iand .i64 what 3/\iand .i64 what 3<9223372036854775808;omega,r4,r5⟩,k,o⟩
    |exact v_an (v_lv λx ex=>v_lf ⟨⟨r1,by show U 4;exact⟨by decide,by decide⟩,by show-9223372036854775808<=(1:Int)/\(1:Int)<9223372036854775808;decide,wi64 _,r5⟩,k,by show x.length<=100000;rw[ex];have:=Zd1 what 128 (by decide) (by decide);omega⟩)
    |exact v_lf ⟨⟨r1,by show U 4;exact⟨by decide,by decide⟩,by show-9223372036854775808<=(1:Int)/\(1:Int)<9223372036854775808;decide,wi64 _,r5⟩,k,aT _⟩
    |exact v_lf ⟨⟨r1,r2,r3,r4,wu64 _⟩,k,o⟩
    |refine v_br (λ_=> ?_) (λ_=> ?_)
    |refine v_cn ?_
    |refine v_an ?_
    |refine v_lv λ_ _=> ?_)
set_option synthInstance.maxHeartbeats 2000000
set_option synthInstance.maxSize 100000
noncomputable section
instance Qzh (s:List Int):Ck (Q06 s):=let d:Decidable (Q06 s):=(by delta Q06;infer_instance);⟨@decide _ d,@oY _ d⟩
instance Zow (m:List Int) (addr:Int) (size:Int):Ck (Q9v m addr size):=ckT (t:=Q2w m addr size) (by delta Q2w;infer_instance)
instance qY (n:Int):Ck (Qgb n):=ckT (t:=Qay n) (by delta Qay;infer_instance)
instance xO (w:Int) (low:Int) (n:Int):Ck (Q4w w low n):=ckT (t:=Q8p w low n) (by delta Q8p;infer_instance)
instance zO (w:Int):Ck (Qjz w):=ckT (t:=Q73 w) (by delta Q73;infer_instance)
instance zD (m:List Int) (addr:Int) (size:Int):Ck (Q35 m addr size):=ckT (t:=Q5x m addr size) (by delta Q5x;infer_instance)
instance yD (c:Q02) (m:List Int) (va:Int) (size:Int) (access:Int):Ck (Q8m c m va size access):=ckT (t:=Q5y c m va size access) (by delta Q5y;infer_instance)
instance xY (c:Q02) (m:List Int):Ck (Qlx c m):=ckT (t:=Qb6 c m) (by delta Qb6;infer_instance)
instance xar (c:Q02) (m:List Int):Ck (Qeb c m):=ckT (t:=Q6p c m) (by delta Q6p;infer_instance)
instance Zl6 (x:Int):Ck (Qbd x):=ckT (t:=Q1n x) (by delta Q1n;infer_instance)
instance vD (b:Q07) (pages:Int):Ck (Qcv b pages):=ckT (t:=Q3r b pages) (by delta Q3r;infer_instance)
instance Zez (m:Q00):Ck (Q2k m):=ckT (t:=Q11 m) (by delta Q11;infer_instance)
instance qE (m:Q00):Ck (Q40 m):=ckT (t:=Q4n m) (by delta Q4n;infer_instance)
instance vo (m:Q00):Ck (Q7x m):=ckT (t:=Q2u m) (by delta Q2u;infer_instance)
instance qp (m:Q00):Ck (Q7s m):=ckT (t:=Q3s m) (by delta Q3s;infer_instance)
instance Zot (m:Q00):Ck (Q7 m):=ckT (t:=Q2n m) (by delta Q2n;infer_instance)
instance yO (pages:Int):Ck (Qjm pages):=ckT (t:=Qf6 pages) (by delta Qf6;infer_instance)
instance Qz4 (s1:List Int) (s2:List Int):Ck (Q15 s1 s2):=let d:Decidable (Q15 s1 s2):=(by delta Q15;infer_instance);⟨@decide _ d,@oY _ d⟩
instance xp (a:Q00) (b:Q00):Ck (Qan a b):=ckT (t:=Q6b a b) (by delta Q6b;infer_instance)
instance xE (pages:Int) (blocks:Int) (image:List Int):Ck (Qh3 pages blocks image):=ckT (t:=Qd pages blocks image) (by delta Qd;infer_instance)
instance Zmj (m:Q00) (clock:Int):Ck (Qby m clock):=ckT (t:=Q7n m clock) (by delta Q7n;infer_instance)
theorem Zhe:Q6n:=ck (ckT (t:=Qcf) (by delta Qcf;infer_instance)) (by kernel_rfl)
theorem Zef:Qdm=true:=by kernel_rfl
theorem aw12{W:Bool->Prop}(h:W true):(Tree.an Q6n (.lv Qdm λx=> .lf x)).w W:=w_an Zhe (w_lv λx e=>by show W x;rw[e,Zef];exact h)
end
theorem and127{y:Int}(h0:0<=y)(h1:y<18446744073709551616):iand .u64 y 127=((y.toNat%128:Nat):Int):=by
 unfold iand
 rw[wrap_u64]
 have e:(dX u64.bits y&&&dX u64.bits 127).toNat=y.toNat%128:=by
   show(dX 64 y&&&dX 64 127).toNat=_
   rw[eB,show(dX 64 127).toNat=2^7-1 from rfl,eJ,dZ]
   omega
 rw[e];omega
theorem Zj5{x:Int}(h0:0<=x)(h1:x<18446744073709551616):(Q6z x).w (λs=>s=uvB x):=by
 have hl:=Zb1 9 x.toNat (by rw[show(128:Nat)^(9+1)=1180591620717411303424 by decide];omega)
 unfold Q6z
 refine w_lp (inv:=λv:Int×List Int=>0<=v.1/\v.1<18446744073709551616/\v.2++uvL v.1.toNat=uvL x.toNat) (μ:=Qen x) ⟨h0,h1,rfl⟩ (cO _) λv ⟨a,a2,b⟩=> ?_
 obtain⟨y,o⟩:=v
 have a:0<=y:=a
 have a2:y<18446744073709551616:=a2
 have b:o++uvL y.toNat=uvL x.toNat:=b
 have bl:=congrArg dL b
 rw[lA]at bl
 refine w_br (λhb=> ?_) (λhb=> ?_)
 . have hb:y>=128:=oY hb
   have g: ¬y.toNat<128:=by omega
   rw[qn g]at b bl
   rw[dJ]at bl
   refine w_cn (dY (by show 1*(o.length+1)<=_;omega)) (w_nx ?_)
   show(0<=ishr .u64 y 7/\ishr .u64 y 7<18446744073709551616/\(o++[ior .u8 (wrap .u8 (iand .u64 y 127)) 128])++uvL (ishr .u64 y 7).toNat=uvL x.toNat)/\(ishr .u64 y 7).toNat<y.toNat
   rw[shr7 a,and127 a a2,Zlv (by omega),eF,eF,Nat.mod_mod]
   refine⟨⟨by omega,by omega,?_⟩,by omega⟩
   rw[fL];exact b
 . have hb: ¬y>=128:=oN hb
   have g:y.toNat<128:=by omega
   rw[Z72 g]at b bl
   refine w_cn (dY (by show 1*(o.length+1)<=_;rw[dA]at bl;omega)) ?_
   show bytesOf (o++[wrap .u8 y])=uvB x
   unfold uvB
   rw[<-b,show wrap .u8 y=((y.toNat:Nat):Int) by rw[wrap_u8];omega]
theorem Qrt{x:Int}(h0:0<=x)(h1:x<18446744073709551616):(Qtn x).w (λs=>s=uvB x):=by
 unfold Qtn
 exact Q08 (Zj5 h0 h1) λy hy=>hy
theorem Zk5{s:List UInt8}(h:s.length<=1000000):(Qi1 s).w (λx=>x=Za7 s):=by
 have ew:wrap .u64 ((s.length:Nat):Int)=s.length:=by rw[wrap_u64];omega
 have hu:=Q6q (x:=(s.length:Int)) (by omega)
 unfold Qi1
 rw[ew]
 refine Q08 (Zj5 (by omega) (by omega)) λx e=> ?_
 subst e
 exact w_cn (dY (by unfold maxLen;omega)) rfl
theorem Z6q(b:Bool):Qez b=uvs [Qn b]:=by
 cases b
 . show [(0:UInt8)]=bytesOf (uvL 0)++[]
   rw[Z72 (by decide)];rfl
 . show [(1:UInt8)]=bytesOf (uvL 1)++[]
   rw[Z72 (by decide)];rfl
theorem join3{o L:List Int}{i:Int}(h0:0<=i)(h:i<L.length){p:List Int}(e:o++L.drop i.toNat=p++L):(o++[L.getD i.toNat 0])++L.drop (i+1).toNat=p++L:=by
 have hlt:i.toNat<L.length:=by omega
 rw[aB hlt,<-Qln hlt]at e
 rw[show(i+1).toNat=i.toNat+1 by omega,fL]
 exact e
set_option maxHeartbeats 1000000 in
theorem Z80{m:Q00}(hv:okV m)(hr:rngM m)(hm:m.Mem.length<=1024)(hk:m.A2.D0.length<=100000)(ho:m.A9.B7.length<=100000):(Qcx m).w (λs=>s=encM m/\s.length<=400000):=by
  obtain⟨c1,c2,c3⟩:=hv.cpu
  obtain⟨d1,d2,d3,d4⟩:=hv.disk
  obtain⟨n1,n2,n3,n4⟩:=hv.nic
  obtain⟨b1,b2⟩:=hv.bal
  have W: ∀x:Int,0<=wrap .u64 x/\wrap .u64 x<18446744073709551616:=λx=>by rw[wrap_u64];omega
  have uu: ∀{x:Int},U x->0<=wrap .u64 x/\wrap .u64 x<18446744073709551616:=λ_=>W _
  have kl: ∀{s:List UInt8},s.length<=100000->(Za7 s).length<=100010:=fun{s} h=>by
    have:=Q6q (x:=(s.length:Int)) (by omega)
    unfold Za7;rw[lA];omega
  have fl: ∀b:Bool,(uvs [Qn b]).length<=10:=λb=>Qjo (l:=[Qn b]) λy hy=>by rw[List.mem_singleton.1 hy];cases b<;>decide
  have l16:(A16.l m.B1.X).length=16:=rfl
  have l8:(A8.l m.B1.B4).length=8:=rfl
  have eL:wrap .u64 ((m.Mem.length:Nat):Int)=m.Mem.length:=by rw[wrap_u64];omega
  have gu: ∀{L:List Int} {i:Int},(∀x∈L,U x)->0<=i->i<L.length->wrap .u64 (L.getD i.toNat 0)=L.getD i.toNat 0:=fun{L i} h h0 h1=>by
    have hlt:i.toNat<L.length:=by omega
    rw[Qln hlt];exact Qqa (h _ (cQ hlt))
  have ew: ∀{i:Int},0<=i->i<1000000->i64.wrap (i+1)=i+1:=λh0 h1=>by rw[wrap_i64];omega
  unfold Qcx
  refine w_lp (inv:=λv:Int×List Int=>0<=v.1/\v.1<=16/\v.2++(A16.l m.B1.X).drop v.1.toNat=[]++A16.l m.B1.X) (μ:=Qk m) ⟨cX 0,by decide,rfl⟩ (cO _) λv ⟨a1,a2,a3⟩=> ?_
  obtain⟨i,o⟩:=v
  have a1:0<=i:=a1
  have a2:i<=16:=a2
  have a3:o++(A16.l m.B1.X).drop i.toNat=[]++A16.l m.B1.X:=a3
  have len:=congrArg dL a3
  rw[lA,lA]at len
  refine w_br (λhb=> ?_) (λhb=> ?_)
  . have hb:i<16:=oY hb
    refine w_cn (by simp [bT];omega) (w_cn (dY (by show 8*(o.length+1)<=_;simp only[dK]at len;omega)) (w_nx ?_))
    show(0<=i64.wrap (i+1)/\i64.wrap (i+1)<=16/\(o++[wrap .u64 ((A16.l m.B1.X).getD i.toNat 0)])++(A16.l m.B1.X).drop (i64.wrap (i+1)).toNat=[]++A16.l m.B1.X)/\(16-i64.wrap (i+1)).toNat<(16-i).toNat
    rw[ew a1 (by omega),gu c1 a1 (by rw[l16];exact hb)]
    exact⟨⟨by omega,by omega,join3 a1 (by rw[l16];exact hb) a3⟩,by omega⟩
  have hb: ¬i<16:=oN hb
  have o1:o=A16.l m.B1.X:=by
    rw[aA (by rw[l16];omega),cJ,fN]at a3;exact a3
  clear len a3
  subst o1
  refine w_cn (dY (by show 8*((A16.l m.B1.X).length+1)<=_;rw[l16];decide)) ?_
  refine w_lp (inv:=λv:Int×List Int=>0<=v.1/\v.1<=8/\v.2++(A8.l m.B1.B4).drop v.1.toNat=(A16.l m.B1.X++[m.B1.Pc])++A8.l m.B1.B4) (μ:=Qki m) ⟨cX 0,by show(0:Int)<=8;decide,by show(A16.l m.B1.X++[wrap .u64 m.B1.Pc])++A8.l m.B1.B4=_;rw[Qqa c2]⟩ (cO _) λv ⟨a1,a2,a3⟩=> ?_
  obtain⟨i,o⟩:=v
  have a1:0<=i:=a1
  have a2:i<=8:=a2
  have a3:o++(A8.l m.B1.B4).drop i.toNat=(A16.l m.B1.X++[m.B1.Pc])++A8.l m.B1.B4:=a3
  have len:=congrArg dL a3
  simp only[lA,l16,l8,dA]at len
  refine w_br (λhb=> ?_) (λhb=> ?_)
  . have hb:i<8:=oY hb
    refine w_cn (by simp [bT];omega) (w_cn (dY (by show 8*(o.length+1)<=_;omega)) (w_nx ?_))
    show(0<=i64.wrap (i+1)/\i64.wrap (i+1)<=8/\(o++[wrap .u64 ((A8.l m.B1.B4).getD i.toNat 0)])++(A8.l m.B1.B4).drop (i64.wrap (i+1)).toNat=(A16.l m.B1.X++[m.B1.Pc])++A8.l m.B1.B4)/\(8-i64.wrap (i+1)).toNat<(8-i).toNat
    rw[ew a1 (by omega),gu c3 a1 (by rw[l8];exact hb)]
    exact⟨⟨by omega,by omega,join3 a1 (by rw[l8];exact hb) a3⟩,by omega⟩
  have hb: ¬i<8:=oN hb
  have o1:o=(A16.l m.B1.X++[m.B1.Pc])++A8.l m.B1.B4:=by
    rw[aA (by rw[l8];omega),cJ]at a3;exact a3
  clear a3
  refine w_cn (dY (by show 8*(o.length+1)<=_;omega)) ?_
  have e1:o++[(m.Mem.length:Int)]=enc1 m:=by
    rw[o1];unfold enc1
    rw[fL (A16.l m.B1.X)];rfl
  have z1:(enc1 m).length=26:=by rfl
  refine w_lp (inv:=λv:Int×List Int=>0<=v.1/\v.1<=m.Mem.length/\v.2++m.Mem.drop v.1.toNat=enc1 m++m.Mem) (μ:=Qk9 m) ⟨cX 0,by show(0:Int)<=_;omega,by show(o++[wrap .u64 ((m.Mem.length:Nat):Int)])++m.Mem=_;rw[eL,e1]⟩ (cO _) λv ⟨a1,a2,a3⟩=> ?_
  obtain⟨i,o⟩:=v
  have a1:0<=i:=a1
  have a2:i<=m.Mem.length:=a2
  have a3:o++m.Mem.drop i.toNat=enc1 m++m.Mem:=a3
  have len:=congrArg dL a3
  rw[lA,lA,z1]at len
  refine w_br (λhb=> ?_) (λhb=> ?_)
  . have hb:i<m.Mem.length:=oY hb
    refine w_cn (by simp [bT];omega) (w_cn (dY (by show 8*(o.length+1)<=_;omega)) (w_nx ?_))
    show(0<=i64.wrap (i+1)/\i64.wrap (i+1)<=m.Mem.length/\(o++[wrap .u64 (m.Mem.getD i.toNat 0)])++m.Mem.drop (i64.wrap (i+1)).toNat=enc1 m++m.Mem)/\(m.Mem.length-i64.wrap (i+1)).toNat<(m.Mem.length-i).toNat
    rw[ew a1 (by omega),gu hv.mem a1 hb]
    exact⟨⟨by omega,by omega,join3 a1 hb a3⟩,by omega⟩
  have hb: ¬i<m.Mem.length:=oN hb
  have o1:o=enc1 m++m.Mem:=by
    rw[aA (by omega),cJ]at a3;exact a3
  have ol:o.length<=1050:=by rw[o1,lA,z1];omega
  have ox : ∀x∈o,0<=x/\x<18446744073709551616:=λx hx=>by
    rw[o1]at hx
    have q:U x\/x=(m.Mem.length:Int):=by
      unfold enc1 at hx
      rcases List.mem_append.1 hx with hx|hx
      . rcases List.mem_append.1 hx with hx|hx
        . rcases List.mem_append.1 hx with hx|hx
          . exact .inl (c1 x hx)
          . rcases List.mem_cons.1 hx with hx|hx
            . rw[hx];exact .inl c2
            . exact .inl (c3 x hx)
        . exact .inr (List.mem_singleton.1 hx)
      . exact .inl (hv.mem x hx)
    rcases q with q|q
    . exact⟨q.1,by have:=q.2;omega⟩
    . rw[q];omega
  have ul:=Qjo λy hy=>(ox y hy).2
  clear a3 len
  refine w_lp (inv:=λv:Int×List Int=>0<=v.1/\v.1<=o.length/\v.2++Q1f (uvs (o.drop v.1.toNat))=Q1f (uvs o)) (μ:=Qkb m) ⟨cX 0,by show(0:Int)<=_;omega,rfl⟩ (cO _) λv ⟨a1,a2,a3⟩=> ?_
  obtain⟨i,q⟩:=v
  have a1:0<=i:=a1
  have a2:i<=o.length:=a2
  have a3:q++Q1f (uvs (o.drop i.toNat))=Q1f (uvs o):=a3
  refine w_br (λhb=> ?_) (λhb=> ?_)
  . have hb:i<o.length:=oY hb
    have hlt:i.toNat<o.length:=by omega
    have ed:=Qln hlt
    have hmm:=ox _ (cQ hlt)
    rw[aB hlt,Qm6,Qkx,<-ed]at a3
    rw[<-ed]at hmm
    have len:=congrArg dL a3
    rw[lA,lA,Q0t,Q0t,Q0t]at len
    refine w_cn (by simp [bT];omega) (Q08 (Zj5 hmm.1 hmm.2) λx0 e0=> ?_)
    have e0:x0=uvB (o.getD i.toNat 0):=e0
    rw[e0]
    refine w_cn (dY (by show 1*(q.length+(Q1f (uvB (o.getD i.toNat 0))).length)<=_;rw[Q0t];omega)) (w_nx ?_)
    show(0<=i64.wrap (i+1)/\i64.wrap (i+1)<=o.length/\(q++Q1f (uvB (o.getD i.toNat 0)))++Q1f (uvs (o.drop (i64.wrap (i+1)).toNat))=Q1f (uvs o))/\(1000000000000-i64.wrap (i+1)).toNat<(1000000000000-i).toNat
    rw[ew a1 (by omega),show(i+1).toNat=i.toNat+1 by omega,fL]
    exact⟨⟨by omega,by omega,a3⟩,by omega⟩
  have hb: ¬i<o.length:=oN hb
  have q1:q=Q1f (uvs o):=by
    rw[aA (by omega)]at a3
    rw[<-a3];exact(cJ q).symm
  clear a3
  have qb:bytesOf q=uvs o:=by rw[q1,Qw0]
  have zq:(bytesOf q).length<=10500:=by rw[qb];omega
  refine Q08 (Zk5 (s:=m.A2.D0) (by omega)) λx1 g1=> ?_
  have z1:x1.length<=100010:=by rw[g1];exact kl hk
  refine w_lv λx2 g2=> ?_
  have g2:x2=uvs [Qn m.A7.D2]:=g2.trans (Z6q _)
  have z2:x2.length<=10:=by rw[g2];exact fl _
  refine w_cn (dY (by(try simp only[lA]);unfold maxLen;omega)) ?_
  refine Q08 (Qrt (uu hr.dl).1 (uu hr.dl).2) λx3 g3=> ?_
  rw[Qqa hr.dl]at g3
  have z3:x3.length<=10:=by rw[g3];exact Q6q (by have:=hr.dl.2;omega)
  refine w_cn (dY (by(try simp only[lA]);unfold maxLen;omega)) ?_
  refine w_lv λx4 g4=> ?_
  have g4:x4=uvs [Qn m.A7.D1]:=g4.trans (Z6q _)
  have z4:x4.length<=10:=by rw[g4];exact fl _
  refine w_cn (dY (by(try simp only[lA]);unfold maxLen;omega)) ?_
  refine Q08 (Qrt (uu hr.bl).1 (uu hr.bl).2) λx5 g5=> ?_
  rw[Qqa hr.bl]at g5
  have z5:x5.length<=10:=by rw[g5];exact Q6q (by have:=hr.bl.2;omega)
  refine w_cn (dY (by(try simp only[lA]);unfold maxLen;omega)) ?_
  refine Q08 (Qrt (uu d1).1 (uu d1).2) λx6 g6=> ?_
  rw[Qqa d1]at g6
  have z6:x6.length<=10:=by rw[g6];exact Q6q (by have:=d1.2;omega)
  refine w_cn (dY (by(try simp only[lA]);unfold maxLen;omega)) ?_
  refine Q08 (Qrt (uu d2).1 (uu d2).2) λx7 g7=> ?_
  rw[Qqa d2]at g7
  have z7:x7.length<=10:=by rw[g7];exact Q6q (by have:=d2.2;omega)
  refine w_cn (dY (by(try simp only[lA]);unfold maxLen;omega)) ?_
  refine Q08 (Qrt (W _).1 (W _).2) λx8 g8=> ?_
  have z8:x8.length<=10:=by rw[g8];exact Q6q (W _).2
  refine w_cn (dY (by(try simp only[lA]);unfold maxLen;omega)) ?_
  refine Q08 (Qrt (W _).1 (W _).2) λx9 g9=> ?_
  have z9:x9.length<=10:=by rw[g9];exact Q6q (W _).2
  refine w_cn (dY (by(try simp only[lA]);unfold maxLen;omega)) ?_
  refine Q08 (Qrt (uu d3).1 (uu d3).2) λx10 g10=> ?_
  rw[Qqa d3]at g10
  have z10:x10.length<=10:=by rw[g10];exact Q6q (by have:=d3.2;omega)
  refine w_cn (dY (by(try simp only[lA]);unfold maxLen;omega)) ?_
  refine Q08 (Qrt (uu d4).1 (uu d4).2) λx11 g11=> ?_
  rw[Qqa d4]at g11
  have z11:x11.length<=10:=by rw[g11];exact Q6q (by have:=d4.2;omega)
  refine w_cn (dY (by(try simp only[lA]);unfold maxLen;omega)) ?_
  refine Q08 (Zk5 (s:=m.A9.B7) (by omega)) λx12 g12=> ?_
  have z12:x12.length<=100010:=by rw[g12];exact kl ho
  refine w_cn (dY (by(try simp only[lA]);unfold maxLen;omega)) ?_
  refine Q08 (Qrt (uu n1).1 (uu n1).2) λx13 g13=> ?_
  rw[Qqa n1]at g13
  have z13:x13.length<=10:=by rw[g13];exact Q6q (by have:=n1.2;omega)
  refine w_cn (dY (by(try simp only[lA]);unfold maxLen;omega)) ?_
  refine Q08 (Qrt (uu n2).1 (uu n2).2) λx14 g14=> ?_
  rw[Qqa n2]at g14
  have z14:x14.length<=10:=by rw[g14];exact Q6q (by have:=n2.2;omega)
  refine w_cn (dY (by(try simp only[lA]);unfold maxLen;omega)) ?_
  refine w_lv λx15 g15=> ?_
  have g15:x15=uvs [Qn m.B9.C5]:=g15.trans (Z6q _)
  have z15:x15.length<=10:=by rw[g15];exact fl _
  refine w_cn (dY (by(try simp only[lA]);unfold maxLen;omega)) ?_
  refine Q08 (Qrt (uu n3).1 (uu n3).2) λx16 g16=> ?_
  rw[Qqa n3]at g16
  have z16:x16.length<=10:=by rw[g16];exact Q6q (by have:=n3.2;omega)
  refine w_cn (dY (by(try simp only[lA]);unfold maxLen;omega)) ?_
  refine w_lv λx17 g17=> ?_
  have g17:x17=uvs [Qn m.B9.B6]:=g17.trans (Z6q _)
  have z17:x17.length<=10:=by rw[g17];exact fl _
  refine w_cn (dY (by(try simp only[lA]);unfold maxLen;omega)) ?_
  refine Q08 (Qrt (uu n4).1 (uu n4).2) λx18 g18=> ?_
  rw[Qqa n4]at g18
  have z18:x18.length<=10:=by rw[g18];exact Q6q (by have:=n4.2;omega)
  refine w_cn (dY (by(try simp only[lA]);unfold maxLen;omega)) ?_
  refine Q08 (Qrt (uu b1).1 (uu b1).2) λx19 g19=> ?_
  rw[Qqa b1]at g19
  have z19:x19.length<=10:=by rw[g19];exact Q6q (by have:=b1.2;omega)
  refine w_cn (dY (by(try simp only[lA]);unfold maxLen;omega)) ?_
  refine Q08 (Qrt (uu b2).1 (uu b2).2) λx20 g20=> ?_
  rw[Qqa b2]at g20
  have z20:x20.length<=10:=by rw[g20];exact Q6q (by have:=b2.2;omega)
  refine w_cn (dY (by(try simp only[lA]);unfold maxLen;omega)) ?_
  refine Q08 (Qrt hr.ct.1 hr.ct.2) λx21 g21=> ?_
  have z21:x21.length<=10:=by rw[g21];exact Q6q hr.ct.2
  refine w_cn (dY (by(try simp only[lA]);unfold maxLen;omega)) ?_
  refine w_lv λx22 g22=> ?_
  have g22:x22=uvs [Qn m.A3]:=g22.trans (Z6q _)
  have z22:x22.length<=10:=by rw[g22];exact fl _
  refine w_cn (dY (by(try simp only[lA]);unfold maxLen;omega)) ?_
  refine w_lv λx23 g23=> ?_
  have g23:x23=uvs [Qn m.A6]:=g23.trans (Z6q _)
  have z23:x23.length<=10:=by rw[g23];exact fl _
  refine w_cn (dY (by(try simp only[lA]);unfold maxLen;omega)) ?_
  generalize eX:x1++x2++x3++x4++x5++x6++x7++x8++x9++x10++x11++x12++x13++x14++x15++x16++x17++x18++x19++x20++x21++x22++x23=X
  have zX:X.length<=300400:=by rw[<-eX];simp only[lA];omega
  refine w_cn (dY (by(try simp only[lA]);unfold maxLen;omega)) ?_
  refine(show _/\_ from⟨?_,?_⟩)
  . show bytesOf q++_=_
    rw[<-eX,qb,o1,g1,g2,g3,g4,g5,g6,g7,g8,g9,g10,g11,g12,g13,g14,g15,g16,g17,g18,g19,g20,g21,g22,g23]
    unfold encM enc2 enc3
    simp only[xn,Qm6,fL,fN,show uvs []=[] from rfl,cJ]
  . show(bytesOf q++_).length<=_
    simp only[lA];omega
theorem zp(h0:Int)(s:List UInt8):Qo5 h0 s=Qo1 h0 s:=rfl
theorem yp{m:Q00}(hv:okV m)(e:Zny m)(hm:m.Mem.length<=1024):Qlo m/\Z1e m=Qo1 14695981039346656037 (encM m):=by
 refine Tree.pp (t:=Qhw m) (W:=λr=>r=Qo1 14695981039346656037 (encM m)) ?_
 unfold Qhw
 exact Q08 (Z80 hv e.r hm e.k e.o) λx hx=>w_an (show x.length<=1000000000000 by have:=hx.2;omega) (w_lv λy hy=>w_lf (by rw[hy,hx.1]))
theorem qas{m:Q00}(hv:okV m)(e:Zny m)(hm:m.Mem.length<=1024):Qfl m/\Qn9 m=Qo5 14695981039346656037 (encM m):=by
 refine Tree.pp (t:=Qal m) (W:=λr=>r=Qo5 14695981039346656037 (encM m)) ?_
 unfold Qal
 exact Q08 (Zkn hv e.r hm e.k e.o) λx hx=>w_an (show x.length<=1000000000000 by have:=hx.2;omega) (w_lv λy hy=>w_lf (by rw[hy,hx.1]))
structure rawOK(m:Q00):Prop where
 v:okV m
 l:m.Mem.length<=1024
 e:Zny m
theorem qaK{w:Q00}(hw:okV w)(hr:rngM w)(raw:Bool)(kind:Int)(l acts:List Int)(hl:l.length*8<=reachBytes)(f1:l.length<=40)(f2:acts.length<=30)(where0 what:Int):(Qkn w raw kind l acts where0 what).w rawOK:=by
 have rb:(Tree.an (Qfm kind l acts) (.lv (Qnd kind l acts) λ(x0:Q00)=> .an (Qlk x0 where0 what) (.lv (Qtr x0 where0 what) λ(x1:Q00)=> .lf x1))).w rawOK:=by
   refine Q08 (Znt kind l acts hl f1 f2) λm ⟨g,d⟩=> ?_
   obtain⟨p,q⟩:=Tree.pp (qaE g.ok (by decide) g.ok.cnt where0 what (λk a b=>by show k<=1000000000000;omega))
   exact w_an p (w_lv λx ex=>w_lf (by rw[ex];exact⟨⟨q.cpu,q.u,q.disk,q.nic,q.bal,q.cnt⟩,q.len,qO g d where0 what⟩))
 unfold Qkn
 refine w_br (λ_=>w_br (λh1=>w_br (λh2=>w_br (λh3=>w_lf ?_) λ_=>rb) λ_=>rb) λ_=>rb) λ_=>rb
 have h1:=oY h1
 have h2:=oY h2
 have h3:=oY h3
 exact⟨hw,by omega,hr,by omega,by omega⟩
theorem vO{m:Q00}(h:okV m):Q8a m:=by
 show(Q4k m).p
 unfold Tree.p Q4k
 refine w_an (Tree.pp (xx h.bal.2)).1 (w_lv λx ex=>w_br (λ_=>trivial) λhb=> ?_)
 have hx:Q25 m=true:=by rw[<-ex];simpa using hb
 obtain⟨P,s,_⟩:=may_P h (Qtb hx).1
 exact Q08 (qT s) λx1 h1=>Q08 (vw h1.cpu h1.mem) λx2 _=>w_br (λ_=>trivial) (λ_=>trivial)
theorem qP{m:Q00}(h:okV m):Q59 m:=by
 show(Q3f m).p
 unfold Tree.p Q3f
 refine w_an (Tree.pp (Z9n m)).1 (w_lv λx ex=>w_br (λ_=>trivial) λhb=> ?_)
 have hx:Q25 m=true:=by rw[Qny h,<-ex,hb];rfl
 obtain⟨P,s,_⟩:=may_P h (Qtb hx).1
 exact Q08 (Zht s.cpu s.mem) λ_ _=>trivial
theorem vp{m:Q00}(h:U m.A1.C2):Q7x m:=by
 show(Q2u m).p
 unfold Tree.p Q2u
 exact w_br (λ_=>Q08 (Qpk h) λ_ _=>trivial) (λ_=>trivial)
theorem qq(kind:Int)(l acts:List Int)(where0 what:Int){w:Q00}(hw:okV w)(hr:rngM w)(raw:Bool)(hl:l.length*8<=reachBytes):Qd7 kind l acts where0 what w raw/\Qci kind l acts where0 what w raw=true:=by
 have aw:(Tree.an Q6n (.lv Qdm λx=> .lf x)).w (λr=>r=true):=aw12 rfl
 have no: ∀{α:Type} [BEq α] [ReflBEq α] {a b:α},(a==b)=false->a=b->False:=λh e=>by rw[e,beq_self_eq_true]at h;cases h
 refine Tree.pp (W:=λr=>r=true) ?_
 unfold Q6h
 refine w_lv λx0 h0=>w_br (λ_=>aw) λhb=> ?_
 obtain⟨f1,f2⟩:=xan h0 hb
 refine Q08 (qaK hw hr raw kind l acts hl f1 f2 where0 what) λm ⟨hv,hm,he⟩=> ?_
 refine w_an (Tree.pp (qx hv.bal.2)).1 (w_lv λx1 e1=>w_lv λx2 e2=>w_br (λ_=> ?_) λh=>(no h (e1.trans ((Qzw hv).trans e2.symm))).elim)
 refine w_an (Tree.pp (Zkx hv.bal.2)).1 (w_lv λx3 e3=>w_an (Tree.pp (qy m)).1 (w_lv λx4 e4=>w_br (λ_=> ?_) λh=>(no h (e3.trans ((Z6w hv).trans e4.symm))).elim))
 refine w_an (vp hv.bal.2) (w_lv λx5 e5=>w_an (Tree.pp (xy m)).1 (w_lv λx6 e6=>w_br (λ_=> ?_) λh=>(no h (e5.trans ((Zd9 hv).trans e6.symm))).elim))
 refine w_an (vO hv) (w_lv λx7 e7=>w_an (qP hv) (w_lv λx8 e8=>w_br (λ_=> ?_) λh=>(no h (e7.trans ((Zni hv).trans e8.symm))).elim))
 refine Q08 (Zkn hv he.r hm he.k he.o) λx9 e9=>Q08 (Z80 hv he.r hm he.k he.o) λx10 e10=>w_br (λ_=> ?_) λh=>absurd (e9.1.trans e10.1.symm) (oN h)
 obtain⟨p1,q1⟩:=qas hv he hm
 obtain⟨p2,q2⟩:=yp hv he hm
 refine w_an p1 (w_lv λx11 e11=>w_an p2 (w_lv λx12 e12=>w_br (λ_=> ?_) λh=>(no h (e11.trans (q1.trans ((zp _ _).trans (e12.trans q2).symm)))).elim))
 refine Q08 (ownV hm) λx13 e13=>Q08 (qaq (by omega)) λx14 s14=>w_br (λ_=>aw) λh=> ?_
 have:=s14.2 e13.symm
 rw[this]at h;cases h

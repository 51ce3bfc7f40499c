import Derived.Test.YthjfindbamdacaaGreatDoorAuditAcceptsLaws2
import Derived.Test.YthjfindbamdacaaGreatDoorAuditAcceptsNewsB
import Derived.Test.YthjfindbamdacaaGreatDoorAuditAcceptsZt
open Nat renaming lt_succ_self->cO,blt->bJ,zero_le->aT,le_refl->aO,le_trans->bH,min_le_left->dA,le_of_eq->dL,pow_le_pow_right->dT,and_le_left->eB,pow_lt_pow_right->eC,two_pow_pos->eG,two_pow_add_eq_or_of_lt->eK,eq_of_testBit_eq->eM,testBit_mod_two_pow->eN,testBit->eO,zero_testBit->fE,testBit_and->fF
open List renaming getD_eq_getElem?_getD->cP,getElem?_eq_getElem->cG,replicate->cQ,append->cR,mem_cons->cS,not_mem_nil->cU,length_replicate->cV,length_take->bD,length_drop->bF,mem_of_mem_take->cX,mem_of_mem_drop->cY,length_singleton->cZ,take->dB,drop->dC,ext_getElem->bN,range->dD,set->dG,length_set->dH,length_cons->dI,length_nil->dJ,length->dK,getD->aK,getElem?_take->aU
open Int renaming le_refl->cW,tmod->dE,toNat->dF,emod_eq_of_lt->dM,pow_pos->dO,fdiv_eq_ediv_of_nonneg->dP,le_of_lt->dQ,pow_add->dR,mul_le_mul_of_nonneg_right->dS,lt_or_le->dV,toNat_natCast->eD,tmod_eq_emod_of_nonneg->eF,toNat_of_nonneg->eH,fdiv->eJ,tdiv->eU,tdiv_eq_ediv_of_nonneg->eV,ediv_ediv_of_nonneg->fB,mul_ediv_add_emod->fC,pow_succ->fD
open Bool renaming or_eq_true->aI,eq_iff_iff->eI,noConfusion->fA
open UInt8 renaming toNat_lt->dU,toNat->eW,ofNat->eY
open BitVec renaming ofInt->dW,toNat_ofInt->dX,toNat_or->dZ,toNat_and->eA,getLsbD->eQ,eq_of_toNat_eq->eR,ofInt_natCast->eS,toNat_ofNat->eT
open Prod renaming ext->eZ
set_option maxRecDepth 100000
set_option linter.all false
namespace Go.Proofs.YthjfindbamdacaaGreatDoor
open Go Go.GD
open Go.IntKind(wrap i64 u32 u64 u8 wrap_i64 wrap_u32 wrap_u64 wrap_u8 wrap_i32)
variable {A W a access clock f frame g op p q size v w x:Int}{P k:Nat}{b:iu}{c:bm}{d:fv}{e:ib}{mem:List Int}{n:ik}{r s:List UInt8}
theorem vJ(i:gw):U (o4 i).1:=by
 refine Tree.post (Ts i) (W:=λr=>U r.1) ?_
 unfold Ts
 exact aq λ_ _=>aa (λ_=>ey) (λ_=>nm _ _)
theorem Tt(l:List Int)(hl:l.length*8<=reachBytes):(N1 l).w (λr=>(r.length:Int)=l.length/\∀w∈r,U w):=by
 have tM:l.length*8<=140737488351232:=hl
 have app:∀{r:List Int} {x:Int},(∀w∈r,U w)->U x->∀w∈r++[x],U w:=λhr hx w hw=>by
  rw[List.mem_append]at hw
  rcases hw with hw|hw
  ·exact hr w hw
  ·rw[List.mem_singleton.1 hw];exact hx
 unfold N1
 refine fi (inv:=λz=>Qtk l z/\∀w∈z.2,U w) (μ:=Tu l) ⟨⟨by omega,by simp,by simp⟩,by simp⟩ (cO _) (λv0 hv=>?_)
 obtain⟨⟨h1,h2,h3⟩,h4⟩:=hv
 refine aa (λh=>?_) (λh=>?_)
 ·have h:=oY h
  have next:∀x:Int,U x->(Qtk l (wrap i64 (v0.1+1),v0.2++[x])/\∀w∈v0.2++[x],U w)/\Tu l (wrap i64 (v0.1+1),v0.2++[x])<Tu l v0:=λx hx=>by
   have hw:i64.wrap (v0.1+1)=v0.1+1:=by rw[wrap_i64];omega
   rw[hw]
   refine⟨⟨⟨?_,?_,?_⟩,app h4 hx⟩,?_⟩
   ·show 0<=v0.1+1;omega
   ·show v0.1+1<=l.length;omega
   ·show((v0.2++[x]).length:Int)=v0.1+1;simp;omega
   ·show(l.length-(v0.1+1)).toNat<(l.length-v0.1).toNat;omega
  have hb:(Nat.beq 1 1&&bJ 0 1&&decide (0<=v0.1/\v0.1<(l.length:Int)))=true:=by simp[bJ];omega
  have hc:decide (4*(v0.2.length+1)<=140737488355328)=true:=dY (by omega)
  exact au hb (aa (λ_=>au hb (au hc (next _ (fm _)))) (λ_=>au hb (cj (xW _) (aq λx0 _=>aq λx1 hx=>au hc (next _ (by rw[hx];exact vJ _))))))
 ·have h:=oN h
  exact⟨by show(v0.2.length:Int)=l.length;omega,h4⟩
theorem Tv(steps:Int):0<=ra steps/\ra steps<=4000:=by
 refine Tree.post (Tw steps) (W:=λr=>0<=r/\r<=4000) ?_
 unfold Tw
 refine dc ?_
 constructor<;>(repeat' split)<;>omega
theorem Zhl{r:dj}(h:pA P r)(steps:Int)(hc:U clock)(hl:r.C8.length<=900000)(hq:r.B1.length<=1000)(hu:∀q∈r.B1,U q.N):
 (I3 r steps clock).w (λx=>pA P x.1/\x.1.C8.length<=r.C8.length+r.B1.length+8000/\(x.1.B1=r.B1\/x.1.B1=[])/\x.2.length<=4000):=by
 unfold I3
 refine bh (GS h (by omega) (by omega)) λx0 hx=>?_
 obtain⟨k1,k2,k3⟩:=hx
 refine aq λx1 _=>aa (λ_=>⟨k1,by rw[k2];omega,.inl k3,aT _⟩) (λ_=>?_)
 have gl:U (if clock>x0.B4 then clock else x0.B4):=by split<;>first|exact hc|exact k1.clock
 refine fi (inv:=λz=>0<=z.1/\z.1<=r.B1.length/\pA P z.2/\(z.2.C8.length:Int)<=r.C8.length+z.1/\z.2.B1=r.B1) (μ:=Xs r steps clock) ⟨by omega,by omega,⟨k1.m,gl⟩,by rw[k2];omega,k3⟩ (cO _) (λz hz=>?_)
 obtain⟨z1,z2,z3,z4,z5⟩:=hz
 refine aa (λhb=>?_) (λhb=>?_)
 ·have hb:=oY hb
  rw[z5]at hb
  have hm:(z.2.B1.getD z.1.toNat (RK.cw RK.bc))∈r.B1:=by
   rw[z5]
   have bz:z.1.toNat<r.B1.length:=by omega
   rw[cP,cG bz]
   exact List.getElem_mem bz
  refine au (by rw[z5];simp[bJ];omega) (bh (xC z3 (hu _ hm) (by omega)) λx hx=>ea ?_)
  obtain⟨a1,a2,a3⟩:=hx
  show(0<=i64.wrap (z.1+1)/\i64.wrap (z.1+1)<=r.B1.length/\pA P x/\(x.C8.length:Int)<=r.C8.length+i64.wrap (z.1+1)/\x.B1=r.B1)/\(x.B1.length-i64.wrap (z.1+1)).toNat<(z.2.B1.length-z.1).toNat
  have ew:i64.wrap (z.1+1)=z.1+1:=by rw[wrap_i64];omega
  rw[ew,a3,z5]
  exact⟨⟨by omega,by omega,a1,by omega,rfl⟩,by omega⟩
 ·refine fi (inv:=λy=>0<=y.1/\y.1<=4000/\pA P y.2.1/\(y.2.1.C8.length:Int)<=r.C8.length+r.B1.length+2*y.1/\y.2.1.B1=[]/\(y.2.2.length:Int)<=y.1) (μ:=N2 r steps clock z) ⟨by omega,by omega,⟨z3.m,z3.clock⟩,by simp;omega,rfl,by simp⟩ (cO _) (λy hy=>?_)
  obtain⟨y1,y2,y3,y4,y5,y6⟩:=hy
  have ew:i64.wrap (y.1+1)=y.1+1:=by rw[wrap_i64];omega
  refine aq λx3 Eg=>aa (λhb=>?_) (λ_=>⟨y3,by show y.2.1.C8.length<=_;omega,.inr y5,by show y.2.2.length<=_;omega⟩)
  have hb:=oY hb
  have lim:=(Tv steps).2
  rw[<-Eg]at lim
  refine aq λx4 _=>aa (λ_=>bh (xC (e:=⟨_,_,_⟩) y3 ey (by omega)) λx5 h5=>?_) (λ_=>?_)
  ·obtain⟨q1,q2,q3⟩:=h5
   have q3:=q3.trans y5
   refine bh (Xt _) λs1 _=>aa (λ_=>⟨q1,by show x5.C8.length<=_;omega,.inr q3,by show y.2.2.length<=_;omega⟩) (λ_=>bh (Z0u q1.m.lK q1.m.mem) λs2 _=>aa (λ_=>au (dY (by omega)) (bh (Tx (r:=⟨x5.A0,x5.B4,x5.C8++[_],x5.B1⟩) ⟨q1.m,q1.clock⟩ q1.clock) λo ho=>?_)) (λ_=>bh (Tx q1 q1.clock) λo ho=>?_))
   ·obtain⟨a1,⟨⟨a2,a3⟩,a4,a5⟩⟩:=ho
    have e4:o.2.C8.length=x5.C8.length+1:=by rw[a4];simp
    have a5:o.2.B1=[]:=a5.trans q3
    refine au (dY (by omega)) (ea ?_)
    show(0<=i64.wrap (y.1+1)/\i64.wrap (y.1+1)<=4000/\pA P _/\(o.2.C8.length:Int)<=r.C8.length+r.B1.length+2*i64.wrap (y.1+1)/\o.2.B1=[]/\((y.2.2++o.1).length:Int)<=i64.wrap (y.1+1))/\(4000-i64.wrap (y.1+1)).toNat<(4000-y.1).toNat
    rw[ew,a5,lA]
    exact⟨⟨by omega,by omega,⟨a2,fm _⟩,by omega,rfl,by omega⟩,by omega⟩
   ·obtain⟨a1,⟨⟨a2,a3⟩,a4,a5⟩⟩:=ho
    have e4:o.2.C8.length=x5.C8.length:=by rw[a4]
    have a5:o.2.B1=[]:=a5.trans q3
    refine au (dY (by omega)) (ea ?_)
    show(0<=i64.wrap (y.1+1)/\i64.wrap (y.1+1)<=4000/\pA P _/\(o.2.C8.length:Int)<=r.C8.length+r.B1.length+2*i64.wrap (y.1+1)/\o.2.B1=[]/\((y.2.2++o.1).length:Int)<=i64.wrap (y.1+1))/\(4000-i64.wrap (y.1+1)).toNat<(4000-y.1).toNat
    rw[ew,a5,lA]
    exact⟨⟨by omega,by omega,⟨a2,fm _⟩,by omega,rfl,by omega⟩,by omega⟩
  ·refine bh (Xt _) λs1 _=>aa (λ_=>⟨y3,by show y.2.1.C8.length<=_;omega,.inr y5,by show y.2.2.length<=_;omega⟩) (λ_=>bh (Z0u y3.m.lK y3.m.mem) λs2 _=>aa (λ_=>au (dY (by omega)) (bh (Tx (r:=⟨y.2.1.A0,y.2.1.B4,y.2.1.C8++[_],y.2.1.B1⟩) ⟨y3.m,y3.clock⟩ y3.clock) λo ho=>?_)) (λ_=>bh (Tx y3 y3.clock) λo ho=>?_))
   ·obtain⟨a1,⟨⟨a2,a3⟩,a4,a5⟩⟩:=ho
    have e4:o.2.C8.length=y.2.1.C8.length+1:=by rw[a4];simp
    have a5:o.2.B1=[]:=a5.trans y5
    refine au (dY (by omega)) (ea ?_)
    show(0<=i64.wrap (y.1+1)/\i64.wrap (y.1+1)<=4000/\pA P _/\(o.2.C8.length:Int)<=r.C8.length+r.B1.length+2*i64.wrap (y.1+1)/\o.2.B1=[]/\((y.2.2++o.1).length:Int)<=i64.wrap (y.1+1))/\(4000-i64.wrap (y.1+1)).toNat<(4000-y.1).toNat
    rw[ew,a5,lA]
    exact⟨⟨by omega,by omega,⟨a2,fm _⟩,by omega,rfl,by omega⟩,by omega⟩
   ·obtain⟨a1,⟨⟨a2,a3⟩,a4,a5⟩⟩:=ho
    have e4:o.2.C8.length=y.2.1.C8.length:=by rw[a4]
    have a5:o.2.B1=[]:=a5.trans y5
    refine au (dY (by omega)) (ea ?_)
    show(0<=i64.wrap (y.1+1)/\i64.wrap (y.1+1)<=4000/\pA P _/\(o.2.C8.length:Int)<=r.C8.length+r.B1.length+2*i64.wrap (y.1+1)/\o.2.B1=[]/\((y.2.2++o.1).length:Int)<=i64.wrap (y.1+1))/\(4000-i64.wrap (y.1+1)).toNat<(4000-y.1).toNat
    rw[ew,a5,lA]
    exact⟨⟨by omega,by omega,⟨a2,fm _⟩,by omega,rfl,by omega⟩,by omega⟩
section
variable {P:Nat} {m:av} (h:nN P m)
include h
theorem N3(port:Int)(hc:U clock):(Qf m port clock).w (λx=>U x.1/\nN P x.2/\x.2.A1=m.A1):=by
 have k:=(⟨h,rfl⟩:nN P m/\m.A1=m.A1)
 obtain⟨h1,h2,h3,h4,h5,h7⟩:=h
 unfold Qf
 exact aa (λ_=>aq λx hx=>⟨hx▸Z5l _ _,⟨⟨h1,h2,h3,h4,h5,h7⟩,rfl⟩⟩) (λ_=>aa (λ_=>⟨hc,k⟩) (λ_=>aa (λ_=>aq λx hx=>⟨hx▸Zhe _,k⟩) (λ_=>aa (λ_=>aq λx hx=>⟨hx▸Zp8 h3 _,k⟩) (λ_=>aa (λ_=>aq λx hx=>⟨hx▸qC h4 _,k⟩) (λ_=>aq λx hx=>⟨hx▸Z4u h5.1 _,k⟩)))))
theorem qaF(port:Int)(hv:U v):(Fy m port v).w (λx=>x.1.length<=1/\nN P x.2/\x.2.A1=m.A1):=by
 have k:=(⟨h,rfl⟩:nN P m/\m.A1=m.A1)
 obtain⟨h1,h2,h3,h4,h5,h7⟩:=h
 unfold Fy
 exact aa (λ_=>⟨aO _,k⟩) (λ_=>aa (λ_=>⟨aT _,k⟩) (λ_=>aa (λ_=>aq λ_ _=>⟨aT _,⟨⟨h1,h2,h3,h4,h5,h7⟩,rfl⟩⟩) (λ_=>aa (λ_=>bh (Zhd h2 h3 _ hv _) λx hx=>⟨hx.2,⟨⟨h1,h2,hx.1,h4,h5,h7⟩,rfl⟩⟩) (λ_=>aa (λ_=>bh (Zq1 h2 h4 _ hv _) λx hx=>⟨hx.2,⟨⟨h1,h2,h3,hx.1,h5,h7⟩,rfl⟩⟩) (λ_=>bh (zad h2 h5 _ hv) λx hx=>⟨aT _,⟨⟨h1,hx.2,h3,h4,hx.1,h7⟩,rfl⟩⟩)))))
theorem Xu(hc:U clock):(K8 m clock).w (λx=>x.1.length<=1/\nN P x.2/\x.2.A1=wrap .u64 (m.A1+1)):=by
 obtain⟨h1,h2,h3,h4,h5,h7⟩:=h
 unfold K8
 refine bh (Ty h1) λx0 c0=>bh (Fz c0 h2) λx1 hx=>?_
 obtain⟨c1,v1,m1⟩:=hx
 refine aa (λ_=>N4 (N3 (m:=⟨_,_,_,_,_,_,_,_,_,_⟩) ⟨c1,m1,h3,h4,h5,h7⟩ _ hc) λx2 hx=>?_) (λ_=>aa (λ_=>bh (qaF (m:=⟨_,_,_,_,_,_,_,_,_,_⟩) ⟨c1,m1,h3,h4,h5,h7⟩ _ v1) λx4 hx=>?_) (λ_=>?_))
 ·obtain⟨u,⟨k1,k2,k3,k4,k5,k7⟩,k6⟩:=hx
  exact bh (Eh k1 _ u) λx3 h3=>⟨aT _,⟨h3,k2,k3,k4,k5,w0 _⟩,congrArg (λn=>wrap .u64 (n+1)) k6⟩
 ·obtain⟨u,⟨k1,k2,k3,k4,k5,k7⟩,k6⟩:=hx
  exact⟨u,⟨k1,k2,k3,k4,k5,w0 _⟩,congrArg (λn=>wrap .u64 (n+1)) k6⟩
 ·repeat'(first
   |exact⟨aT _,⟨c1,m1,h3,h4,h5,w0 _⟩,rfl⟩
   |refine aa (λ_=>?_) (λ_=>?_))
theorem zf:(GU m).w (λx=>nN P x/\x.A1=m.A1):=by
 obtain⟨h1,h2,h3,h4,h5,h7⟩:=h
 unfold GU
 exact bh (qac h2) λx hx=>⟨⟨h1,by rw[hx];exact h2,h3,h4,h5,h7⟩,rfl⟩
end
theorem wT(n:Nat):∀w∈cQ n (0:Int),U w:=λw hw=>by rw[(List.mem_replicate.1 hw).2];exact ey
theorem qak:nN 0 ⟨⟨⟨0,0,0,0,0,0,0,0,0,0,0,0,0,0,0,0⟩,0,⟨0,0,0,0,0,0,0,0⟩⟩,[],⟨[]⟩,⟨false,0,false⟩,⟨0,0,0,0,0,0,0,[]⟩,⟨0,0,false,0,false,0⟩,⟨0,0⟩,0,false,false⟩:=
 ⟨⟨wT 16,ey,wT 8⟩,⟨rfl,by omega,by omega,λw hw=>by cases hw⟩,⟨ey,ey,ey,ey⟩,⟨ey,ey,ey,ey⟩,⟨ey,ey⟩,by decide⟩
theorem Tz{m:av}(h:nN P m)(hc:0<=m.A1):(FA m [] 87).w (λx=>∃Q,nN Q x.1):=by
 have z:∃Q,nN Q _:=⟨0,qak⟩
 unfold FA
 refine aq λx0 _=>aa (λ_=>z) λ_=>aa (λ_=>z) λ_=>aa (λ_=>z) λ_=>cj (show K9 [] by show([]:List ep).length<=1000000000000;decide) (aq λx1 _=>aa (λ_=>z) λ_=>bh (zf h) λx2 hx=>?_)
 refine fi (inv:=λv:av×List dk=>nN P v.1/\0<=v.1.A1/\v.2.length+(87-v.1.A1).toNat<=87) (μ:=TA m [] 87) ⟨hx.1,by rw[hx.2];exact hc,by rw[hx.2];show 0+_<=87;omega⟩ (cO _) λv0 ⟨a1,a2,a3⟩=>?_
 refine aa (λhb=>aa (λ_=>?_) (λ_=>⟨P,a1⟩)) (λ_=>⟨P,a1⟩)
 have hb:=oY hb
 refine fi (inv:=λ_=>True) (μ:=TB m [] 87 v0) trivial (cO _) λv1 _=>?_
 refine aa (λ_=>⟨P,a1⟩) λ_=>bh (vB _) λx3 _=>aa (λ_=>⟨P,a1⟩) λ_=>bh (TC a1.lK a1.mem) λx4 _=>aa (λ_=>z) λ_=>bh (Xu a1 ey) λx5 h5=>?_
 obtain⟨b1,b2,b3⟩:=h5
 refine au (dY (by omega)) (ea ?_)
 have e:x5.2.A1=v0.1.A1+1:=by rw[b3,wrap_u64];omega
 show(_/\_/\_)/\(_:Nat)<_
 refine⟨⟨b2,by show 0<=x5.2.A1;omega,by show(v0.2++x5.1).length+(87-x5.2.A1).toNat<=87;rw[lA];omega⟩,by show(87-x5.2.A1).toNat<(87-v0.1.A1).toNat;omega⟩
set_option synthInstance.maxHeartbeats 2000000
set_option synthInstance.maxSize 100000
noncomputable section
instance qK (src:List UInt8):Ck (Qkr src):=rV (t:=N5 src) (by delta N5;infer_instance)
instance qG (s:List UInt8):Ck (Qi7 s):=rV (t:=N6 s) (by delta N6;infer_instance)
instance xG (n:Int):Ck (FB n):=let d:Decidable (FB n):=(by delta FB;infer_instance);⟨@decide _ d,@oY _ d⟩
instance yf (n:Int):Ck (Qg9 n):=rV (t:=I4 n) (by delta I4;infer_instance)
instance zak (r:Int):Ck (Qpw r):=rV (t:=I5 r) (by delta I5;infer_instance)
instance qY (s:List UInt8):Ck (Xv s):=rV (t:=N7 s) (by delta N7;infer_instance)
instance Ztb (op:Int):Ck (Qdt op):=rV (t:=N8 op) (by delta N8;infer_instance)
instance Zqy (s:List UInt8):Ck (La s):=rV (t:=N9 s) (by delta N9;infer_instance)
instance qg (ej:List UInt8):Ck (Oa ej):=rV (t:=Ob ej) (by delta Ob;infer_instance)
instance zG (s:List UInt8):Ck (Qj0 s):=rV (t:=Oc s) (by delta Oc;infer_instance)
instance xg (l:List lJ) (p:List UInt8):Ck (Od l p):=rV (t:=Qb l p) (by delta Qb;infer_instance)
instance yG (s:List UInt8):Ck (Qj3 s):=rV (t:=Oe s) (by delta Oe;infer_instance)
instance zg (l:List oq) (label:List UInt8):Ck (GV l label):=let d:Decidable (GV l label):=(by delta GV;infer_instance);⟨@decide _ d,@oY _ d⟩
instance xY (src:List UInt8):Ck (Qn2 src):=rV (t:=Of src) (by delta Of;infer_instance)
instance zY (st:kH) (v:Int):Ck (Qa st v):=rV (t:=Og st v) (by delta Og;infer_instance)
instance Zta (src:List UInt8):Ck (Xw src):=rV (t:=Oh src) (by delta Oh;infer_instance)
theorem xak:Xw ((108:UInt8)::(Cw++Lb++(Lc++Ld)++(Le++Lf++(Lg++Lh))++(Li++Lj++(Lk++Ll)++(Lm++Qy++(Ln++Lo))))):=ck inferInstance (by kernel_rfl)
def inU(x:Int):Bool:=decide (0<=x)&&decide (x<4294967296)
theorem qal(l:List Int)(h:(Nat.ble l.length 160&&List.all l inU)=true):l.length<=160/\∀w∈l,U w:=by
 rw[aE]at h
 refine⟨lE h.1,λw hw=>?_⟩
 have:=List.all_eq_true.1 h.2 w hw
 simp only[inU,aE,decide_eq_true_eq]at this
 exact this
theorem TE:(Lp (cR (cR (cR (cR TF Lb) (cR Lc Ld)) (cR (cR Le Lf) (cR Lg Lh))) (cR (cR (cR Li Lj) (cR Lk Ll)) (cR (cR Lm Qy) (cR Ln Lo))))).1.length<=160/\∀w∈(Lp (cR (cR (cR (cR TF Lb) (cR Lc Ld)) (cR (cR Le Lf) (cR Lg Lh))) (cR (cR (cR Li Lj) (cR Lk Ll)) (cR (cR Lm Qy) (cR Ln Lo))))).1,U w:=qal _ (by kernel_rfl)
end
theorem sW(i:List Int)(hu:∀w∈i,U w)(hl:i.length<=256):(Ei 8 4 i).w (λx=>nN 8 x.1/\x.1.A1=0):=by
 unfold Ei
 refine aa (λh=>absurd h (by decide)) λ_=>aa (λh=>absurd h (by decide)) λ_=>aa (λh=>absurd h (by decide)) λ_=>aa (λh=>absurd h (by decide)) λ_=>aa (λh=>?_) λ_=>aq λx0 e0=>cj (Zjh _) (aq λx1 e1=>?_)
 ·have h:=oY h
  rw[show i64.wrap (8*32)=256 by decide]at h
  omega
 have hx:x1=cQ 256 0:=by rw[e1];kernel_rfl
 have c0:iz x0:=by rw[e0];exact⟨by
  intro w hw
  simp only[Xx,TG,Tree.m,gn.l,cS,cU,or_false,or_self]at hw
  rw[hw];exact ey,ey,by
  intro w hw
  simp only[Xx,TG,Tree.m,A8.l,cS,cU,or_false,or_self]at hw
  rcases hw with rfl|rfl
  ·exact⟨by omega,by omega⟩
  ·exact ey⟩
 have hz:∀w∈x1,U w:=by rw[hx];exact wT 256
 have hn:x1.length=256:=by rw[hx,cV]
 refine⟨⟨c0,⟨?_,by omega,by omega,λw hw=>?_⟩,⟨ey,ey,ey,ey⟩,⟨ey,ey,ey,ey⟩,⟨ey,ey⟩,cW _⟩,rfl⟩
 ·simp only[lA,bD,bF,hn];omega
 ·rcases List.mem_append.1 hw with h1|h1
  ·exact hu w (cX h1)
  ·exact hz w (cY h1)
theorem Zgk(kind:Int)(l:List Int)(hl:l.length*8<=reachBytes):(FC kind l).w (λx=>∃Q,nN Q x):=by
 have tM:l.length*8<=140737488351232:=hl
 unfold FC
 refine cj (GW (by decide)) (aq λx0 _=>aa (λ_=>cj xak (aq λx1 e1=>?_)) (λ_=>?_))
 ·obtain⟨q1,q2⟩:x1.1.length<=160/\∀w∈x1.1,U w:=by rw[e1];exact TE
  refine fi (inv:=λv:List Int=>v.length<=160/\∀w∈v,U w) (μ:=TH kind l) ⟨q1,q2⟩ (cO _) λv0 ⟨a1,a2⟩=>?_
  refine aa (λhb=>?_) (λ_=>?_)
  ·have hb:=oY hb
   refine au (dY (by omega)) (ea ?_)
   show(_/\_)/\(_:Nat)<_
   refine⟨⟨by rw[lA,cZ];omega,λw hw=>?_⟩,by show 160-(v0++[0]).length<160-v0.length;rw[lA,cZ];omega⟩
   rcases List.mem_append.1 hw with h1|h1
   ·exact a2 w h1
   ·rw[List.mem_singleton.1 h1];exact ey
  ·refine bh (Tt l hl) λx2 ⟨b1,b2⟩=>au (dY (by omega)) ?_
   have hu:∀w∈v0++x2,U w:=λw hw=>(List.mem_append.1 hw).elim (a2 w) (b2 w)
   refine aa (λhb=>?_) (λhb=>?_)
   ·have hb:=oY hb
    refine au (by simp[bJ];rw[lA]at hb;omega) (bh (sW _ (λw hw=>hu w (cY (cX hw))) (by rw[bD];exact bH (dA _ _) (by decide))) λx3 ⟨c1,c2⟩=>aa (λ_=>bh (Tz c1 (by omega)) λx4 hx=>hx) (λ_=>⟨8,c1⟩))
   ·have hb:=oN hb
    exact bh (sW _ hu (by omega)) λx3 ⟨c1,c2⟩=>aa (λ_=>bh (Tz c1 (by omega)) λx4 hx=>hx) (λ_=>⟨8,c1⟩)
 ·refine bh (Tt l hl) λx2 ⟨b1,b2⟩=>au (dY (by omega)) ?_
  refine aa (λhb=>?_) (λhb=>?_)
  ·have hb:=oY hb
   refine au (by simp[bJ];omega) (bh (sW _ (λw hw=>b2 w (cY (cX hw))) (by rw[bD];exact bH (dA _ _) (by decide))) λx3 ⟨c1,c2⟩=>aa (λ_=>bh (Tz c1 (by omega)) λx4 hx=>hx) (λ_=>⟨8,c1⟩))
  ·have hb:=oN hb
   exact bh (sW _ b2 (by omega)) λx3 ⟨c1,c2⟩=>aa (λ_=>bh (Tz c1 (by omega)) λx4 hx=>hx) (λ_=>⟨8,c1⟩)
theorem zaF{r:dj}(h:pA P r)(n:Int)(hl:r.C8.length<=900000)(hq:r.B1.length<=16)(hu:∀q∈r.B1,U q.N):
 (FD r n).w (λx=>pA P x.1/\x.1.C8.length<=r.C8.length+8016/\(x.1.B1.length<=16/\∀q∈x.1.B1,U q.N)/\x.2.length<=4000):=by
 unfold FD
 refine aq λx0 _=>aa (λ_=>bh (zC n) λe he=>bh (vV h e (by omega) hq hu he) λx hx=>?_) (λ_=>cj (GW (by decide)) (aq λx3 _=>bh (Zhl h _ (fm _) hl (by omega) hu) λx hx=>?_))
 ·obtain⟨a1,a2,a3,a4⟩:=hx
  exact⟨a1,by rw[a2];omega,⟨a3,a4⟩,aT _⟩
 ·obtain⟨a1,a2,a3,a4⟩:=hx
  refine⟨a1,by show x.1.C8.length<=_;omega,?_,a4⟩
  rcases a3 with a3|a3
  ·rw[a3];exact⟨hq,hu⟩
  ·rw[a3];exact⟨aT _,λq hq=>by cases hq⟩
theorem xaF{m:av}(h:nN P m)(l:List Int)(hl:l.length<=30):(I6 m l).w (λx=>pA P x.1):=by
 unfold I6
 have nr:(Lq m).w (λx=>pA P x/\x.C8=[]/\x.B1=[]):=by
  unfold Lq
  exact bh (zf h) λx hx=>⟨⟨hx.1,ey⟩,rfl,rfl⟩
 refine bh nr λx0 ⟨n1,n2,n3⟩=>?_
 refine fi (inv:=λv:Int×dj×List dk=>0<=v.1/\v.1<=l.length/\pA P v.2.1/\(v.2.1.C8.length:Int)<=8016*v.1/\(v.2.1.B1.length<=16/\∀q∈v.2.1.B1,U q.N)/\(v.2.2.length:Int)<=4000*v.1) (μ:=Xy m l) ⟨cW _,by show(0:Int)<=l.length;omega,n1,by rw[n2];exact cW _,by rw[n3];exact⟨aT _,λq hq=>by cases hq⟩,cW _⟩ (cO _) λv0 ⟨a1,a2,a3,a4,⟨a5,a6⟩,a7⟩=>?_
 refine aa (λhb=>?_) (λ_=>a3)
 have hb:=oY hb
 refine au (by simp[bJ];omega) (bh (zaF a3 _ (by omega) a5 a6) λx1 ⟨b1,b2,b3,b4⟩=>au (dY (by omega)) (ea ?_))
 have e:i64.wrap (v0.1+1)=v0.1+1:=by rw[wrap_i64];omega
 show(_/\_/\_/\_/\_/\_)/\(_:Nat)<_
 refine⟨⟨by rw[e];omega,by rw[e];omega,b1,by rw[e];show(x1.1.C8.length:Int)<=_;omega,b3,by rw[e,lA];omega⟩,by show(l.length-i64.wrap (v0.1+1)).toNat<(l.length-v0.1).toNat;rw[e];omega⟩
noncomputable section
def lL:List Int:=(Lp (cR (cR (cR (cR TF Lb) (cR Lc Ld)) (cR (cR Le Lf) (cR Lg Lh))) (cR (cR (cR Li Lj) (cR Lk Ll)) (cR (cR Lm Qy) (cR Ln Lo))))).1
def Ej:List Int:=lL++cQ (160-lL.length) 0
theorem Oi(t0 t1 t2 t3 t4 t5 t6 t7 t8 t9 t10 t11 t12 t13 t14 t15 t16 t17 t18 t19 t20 t21 t22 t23 t24 t25 t26 t27 t28 t29 t30 t31 t32 t33 t34 t35 t36 t37 t38 t39 t40 t41 t42 t43 t44 t45 t46 t47 t48 t49 t50 t51 t52 t53 t54 t55 t56 t57 t58 t59 t60 t61 t62 t63 t64 t65 t66 t67 t68 t69 t70 t71 t72 t73 t74 t75 t76 t77 t78 t79 t80 t81 t82 t83 t84 t85 t86 t87 t88 t89 t90 t91 t92 t93 t94 t95:Int):(I7 (lz 8 4 (Ej++[t0,t1,t2,t3,t4,t5,t6,t7,t8,t9,t10,t11,t12,t13,t14,t15,t16,t17,t18,t19,t20,t21,t22,t23,t24,t25,t26,t27,t28,t29,t30,t31,t32,t33,t34,t35,t36,t37,t38,t39,t40,t41,t42,t43,t44,t45,t46,t47,t48,t49,t50,t51,t52,t53,t54,t55,t56,t57,t58,t59,t60,t61,t62,t63,t64,t65,t66,t67,t68,t69,t70,t71,t72,t73,t74,t75,t76,t77,t78,t79,t80,t81,t82,t83,t84,t85,t86,t87,t88,t89,t90,t91,t92,t93,t94,t95])).1 [] 87).2.2.2=0:=by kernel_rfl
end
attribute [local irreducible] Lp
theorem zal(i j:List Int)(hi:i.length<=256)(hj:j.length<=256)(e:i++cQ (256-i.length) 0=j++cQ (256-j.length) 0):lz 8 4 i=lz 8 4 j:=by
 have w:i64.wrap (8*32)=256:=by decide
 have m:TJ 8=cQ 256 0:=by kernel_rfl
 have d:∀k:List Int,k.length<=256->decide ((k.length:Int)>256)=false:=λk h=>dN (by omega)
 have mem:∀k:List Int,k.length<=256->dB (min k.length (cQ 256 (0:Int)).length) k++dC (min k.length (cQ 256 (0:Int)).length) (cQ 256 0)=k++cQ (256-k.length) 0:=λk h=>by
  rw[cV,Nat.min_eq_left h,List.take_length,List.drop_replicate]
 have r:TJ 8=cQ 256 0:=by kernel_rfl
 simp only[lz,Ei,Tree.m,w,df,r,d i hi,d j hj]
 simp only[mem i hi,mem j hj,e]
theorem I8(t:List Int)(ht:t.length=96):t=[t.getD 0 0,t.getD 1 0,t.getD 2 0,t.getD 3 0,t.getD 4 0,t.getD 5 0,t.getD 6 0,t.getD 7 0,t.getD 8 0,t.getD 9 0,t.getD 10 0,t.getD 11 0,t.getD 12 0,t.getD 13 0,t.getD 14 0,t.getD 15 0,t.getD 16 0,t.getD 17 0,t.getD 18 0,t.getD 19 0,t.getD 20 0,t.getD 21 0,t.getD 22 0,t.getD 23 0,t.getD 24 0,t.getD 25 0,t.getD 26 0,t.getD 27 0,t.getD 28 0,t.getD 29 0,t.getD 30 0,t.getD 31 0,t.getD 32 0,t.getD 33 0,t.getD 34 0,t.getD 35 0,t.getD 36 0,t.getD 37 0,t.getD 38 0,t.getD 39 0,t.getD 40 0,t.getD 41 0,t.getD 42 0,t.getD 43 0,t.getD 44 0,t.getD 45 0,t.getD 46 0,t.getD 47 0,t.getD 48 0,t.getD 49 0,t.getD 50 0,t.getD 51 0,t.getD 52 0,t.getD 53 0,t.getD 54 0,t.getD 55 0,t.getD 56 0,t.getD 57 0,t.getD 58 0,t.getD 59 0,t.getD 60 0,t.getD 61 0,t.getD 62 0,t.getD 63 0,t.getD 64 0,t.getD 65 0,t.getD 66 0,t.getD 67 0,t.getD 68 0,t.getD 69 0,t.getD 70 0,t.getD 71 0,t.getD 72 0,t.getD 73 0,t.getD 74 0,t.getD 75 0,t.getD 76 0,t.getD 77 0,t.getD 78 0,t.getD 79 0,t.getD 80 0,t.getD 81 0,t.getD 82 0,t.getD 83 0,t.getD 84 0,t.getD 85 0,t.getD 86 0,t.getD 87 0,t.getD 88 0,t.getD 89 0,t.getD 90 0,t.getD 91 0,t.getD 92 0,t.getD 93 0,t.getD 94 0,t.getD 95 0]:=by
 apply bN
 ·rw[ht];rfl
 ·intro i h1 h2
  have e:∀j (hj:j<96),[t.getD 0 0,t.getD 1 0,t.getD 2 0,t.getD 3 0,t.getD 4 0,t.getD 5 0,t.getD 6 0,t.getD 7 0,t.getD 8 0,t.getD 9 0,t.getD 10 0,t.getD 11 0,t.getD 12 0,t.getD 13 0,t.getD 14 0,t.getD 15 0,t.getD 16 0,t.getD 17 0,t.getD 18 0,t.getD 19 0,t.getD 20 0,t.getD 21 0,t.getD 22 0,t.getD 23 0,t.getD 24 0,t.getD 25 0,t.getD 26 0,t.getD 27 0,t.getD 28 0,t.getD 29 0,t.getD 30 0,t.getD 31 0,t.getD 32 0,t.getD 33 0,t.getD 34 0,t.getD 35 0,t.getD 36 0,t.getD 37 0,t.getD 38 0,t.getD 39 0,t.getD 40 0,t.getD 41 0,t.getD 42 0,t.getD 43 0,t.getD 44 0,t.getD 45 0,t.getD 46 0,t.getD 47 0,t.getD 48 0,t.getD 49 0,t.getD 50 0,t.getD 51 0,t.getD 52 0,t.getD 53 0,t.getD 54 0,t.getD 55 0,t.getD 56 0,t.getD 57 0,t.getD 58 0,t.getD 59 0,t.getD 60 0,t.getD 61 0,t.getD 62 0,t.getD 63 0,t.getD 64 0,t.getD 65 0,t.getD 66 0,t.getD 67 0,t.getD 68 0,t.getD 69 0,t.getD 70 0,t.getD 71 0,t.getD 72 0,t.getD 73 0,t.getD 74 0,t.getD 75 0,t.getD 76 0,t.getD 77 0,t.getD 78 0,t.getD 79 0,t.getD 80 0,t.getD 81 0,t.getD 82 0,t.getD 83 0,t.getD 84 0,t.getD 85 0,t.getD 86 0,t.getD 87 0,t.getD 88 0,t.getD 89 0,t.getD 90 0,t.getD 91 0,t.getD 92 0,t.getD 93 0,t.getD 94 0,t.getD 95 0][j]'hj=t.getD j 0:=by
   intro j hj
   have:[t.getD 0 0,t.getD 1 0,t.getD 2 0,t.getD 3 0,t.getD 4 0,t.getD 5 0,t.getD 6 0,t.getD 7 0,t.getD 8 0,t.getD 9 0,t.getD 10 0,t.getD 11 0,t.getD 12 0,t.getD 13 0,t.getD 14 0,t.getD 15 0,t.getD 16 0,t.getD 17 0,t.getD 18 0,t.getD 19 0,t.getD 20 0,t.getD 21 0,t.getD 22 0,t.getD 23 0,t.getD 24 0,t.getD 25 0,t.getD 26 0,t.getD 27 0,t.getD 28 0,t.getD 29 0,t.getD 30 0,t.getD 31 0,t.getD 32 0,t.getD 33 0,t.getD 34 0,t.getD 35 0,t.getD 36 0,t.getD 37 0,t.getD 38 0,t.getD 39 0,t.getD 40 0,t.getD 41 0,t.getD 42 0,t.getD 43 0,t.getD 44 0,t.getD 45 0,t.getD 46 0,t.getD 47 0,t.getD 48 0,t.getD 49 0,t.getD 50 0,t.getD 51 0,t.getD 52 0,t.getD 53 0,t.getD 54 0,t.getD 55 0,t.getD 56 0,t.getD 57 0,t.getD 58 0,t.getD 59 0,t.getD 60 0,t.getD 61 0,t.getD 62 0,t.getD 63 0,t.getD 64 0,t.getD 65 0,t.getD 66 0,t.getD 67 0,t.getD 68 0,t.getD 69 0,t.getD 70 0,t.getD 71 0,t.getD 72 0,t.getD 73 0,t.getD 74 0,t.getD 75 0,t.getD 76 0,t.getD 77 0,t.getD 78 0,t.getD 79 0,t.getD 80 0,t.getD 81 0,t.getD 82 0,t.getD 83 0,t.getD 84 0,t.getD 85 0,t.getD 86 0,t.getD 87 0,t.getD 88 0,t.getD 89 0,t.getD 90 0,t.getD 91 0,t.getD 92 0,t.getD 93 0,t.getD 94 0,t.getD 95 0]=(dD 96).map (λk=>t.getD k 0):=rfl
   simp only[this,List.getElem_map,List.getElem_range]
  rw[e i (by omega),cP,cG h1]
  rfl
theorem qaG(t:List Int)(ht:t.length=96):(I7 (lz 8 4 (Ej++t)).1 [] 87).2.2.2=0:=by
 rw[I8 t ht]
 exact Oi _ _ _ _ _ _ _ _ _ _ _ _ _ _ _ _ _ _ _ _ _ _ _ _ _ _ _ _ _ _ _ _ _ _ _ _ _ _ _ _ _ _ _ _ _ _ _ _ _ _ _ _ _ _ _ _ _ _ _ _ _ _ _ _ _ _ _ _ _ _ _ _ _ _ _ _ _ _ _ _ _ _ _ _ _ _ _ _ _ _ _ _ _ _ _ _
theorem xal:Ej.length=160:=by
 have h:lL.length<=160:=TE.1
 unfold Ej
 rw[lA,cV];omega
def out(f:Int)(m m':List Int):Prop:=∀j:Nat,¬(f*32<=j/\(j:Int)<f*32+32)->m'.getD j 0=m.getD j 0
theorem Lr(f:Int)(m:List Int):out f m m:=λ_ _=>rfl
theorem wU(l:List Int)(i j:Nat)(v:Int)(h:i≠j):(l.set i v).getD j 0=l.getD j 0:=by
 simp only[cP,List.getElem?_set_ne h]
theorem sf{m:List Int}(h:fg P m):me m=P:=by
 obtain⟨h1,h2,h3,_⟩:=h
 simp only[me,Ls,Tree.m]
 have e:(m.length:Int)=32*P:=by omega
 rw[e]
 have e1:(dE (32*(P:Int)) 32 !=0)=false:=by simp[Int.mul_tmod_right]
 have e2:decide ((32*(P:Int))>1024)=false:=dN (by omega)
 rw[e1,e2]
 simp only[cond_false]
 rw[Int.mul_tdiv_cancel_left _ (by decide),wrap_i64];omega
theorem yY{m:List Int}(h:fg P m)(f:Int):I9 m f=true->0<=f/\f<P:=by
 have hp:=sf h
 simp only[I9,Oj,Tree.m,df,hp]
 cases h1:decide (f>=0)
 ·intro h;cases h
 ·intro h;exact⟨oY h1,oY h⟩
theorem Xz{m:List Int}(h:fg P m)(f:Int)(s:List UInt8):(GX m f s).w (λr=>fg P r.1/\out f m r.1/\(r.2=false->r.1=m)):=by
 have gl:jH m=m:=rfl
 have h2:=h.p2
 unfold GX
 refine cj (sg h) (aq λx0 nO=>aq λx1 nP=>?_)
 rw[gl]at nO;subst nO
 refine aa (λ_=>⟨h,Lr _ _,λ_=>rfl⟩) λhb=>aa (λ_=>⟨h,Lr _ _,λ_=>rfl⟩) λhs=>?_
 have hb:x1=true:=by simpa using hb
 obtain⟨f0,f1⟩:=yY h f (nP.symm.trans hb)
 have hs:(s.length:Int)=128:=by simpa using hs
 refine fi (inv:=λz:Int×List Int=>0<=z.1/\z.1<=32/\fg P z.2/\out f x0 z.2) (μ:=XA x0 f s) ⟨show(0:Int)<=0 by decide,show(0:Int)<=32 by decide,h,Lr _ _⟩ (cO _) λz ⟨z1,z2,z3,z4⟩=>?_
 refine aa (λhb=>?_) (λ_=>⟨z3,z4,λh=>by cases h⟩)
 have hb:=oY hb
 have e1:i64.wrap (4*z.1)=4*z.1:=by rw[wrap_i64];omega
 have e2:i64.wrap (i64.wrap (4*z.1)+4)=4*z.1+4:=by rw[wrap_i64,wrap_i64];omega
 have e3:i64.wrap (i64.wrap (f*32)+z.1)=f*32+z.1:=by rw[wrap_i64,wrap_i64];omega
 have hl:=z3.len
 have hlen:(dB (dF (i64.wrap (i64.wrap (4*z.1)+4))-dF (i64.wrap (4*z.1))) (dC (dF (i64.wrap (4*z.1))) s)).length=4:=by
  rw[e2,e1,bD,bF];omega
 refine au (dY (by rw[e2,e1];omega)) ?_
 refine au (dY (by rw[hlen];decide)) (au (dY (by rw[hlen];decide)) (au (dY (by rw[hlen];decide)) (au (dY (by rw[hlen];decide)) (au (by rw[e3];simp[bJ];omega) (ea ?_)))))
 show(_/\_/\fg P (dG _ _ _)/\out f x0 (dG _ _ _))/\(_:Nat)<_
 have ew:i64.wrap (z.1+1)=z.1+1:=by rw[wrap_i64];omega
 rw[e3]
 refine⟨⟨by rw[ew];omega,by rw[ew];omega,⟨by rw[dH];exact hl,z3.p1,z3.p2,Ek z3.u (nm _ _) _⟩,λj hj=>?_⟩,by show(32-i64.wrap (z.1+1)).toNat<(32-z.1).toNat;rw[ew];omega⟩
 rw[wU _ _ _ _ (by omega)]
 exact z4 j hj
theorem zaG(w:List Int)(h:w.length<=32):(FE w).w (λr=>r.length=4*w.length):=by
 have e0:i64.wrap (4*(w.length:Int))=4*w.length:=by rw[wrap_i64];omega
 unfold FE
 refine au (by rw[e0];simp[bJ,D.plain];omega) ?_
 refine fi (inv:=λz:Int×List Int=>0<=z.1/\z.1<=w.length/\(z.2.length:Int)=4*z.1) (μ:=Ok w) ⟨by decide,by show(0:Int)<=w.length;omega,rfl⟩ (cO _) λz ⟨z1,z2,z3⟩=>?_
 refine aa (λhb=>?_) (λhb=>?_)
 ·have hb:=oY hb
  have ew:i64.wrap (z.1+1)=z.1+1:=by rw[wrap_i64];omega
  refine au (by simp[bJ];omega) (au (dY (by omega)) (ea ?_))
  show(_/\_/\_)/\(_:Nat)<_
  refine⟨⟨by rw[ew];omega,by rw[ew];omega,by rw[ew,lA];simp only[dI,dJ];omega⟩,by show(w.length-i64.wrap (z.1+1)).toNat<(w.length-z.1).toNat;rw[ew];omega⟩
 ·have hb:=oN hb
  show(bytesOf z.2).length=_
  rw[Ol];omega
theorem XB{m:List Int}(h:fg P m)(f:Int):(GY m f).w (λr=>0<=f->f<P->r.1.length=128):=by
 have hl:=h.len
 have h2:=h.p2
 unfold GY
 refine aq λx0 nO=>aa (λhb=>λf0 f1=>?_) (λhb=>?_)
 ·have hp:=sf h
  have hb:x0=false:=by simpa using hb
  rw[hb]at nO
  simp only[I9,Oj,Tree.m,df,hp]at nO
  rw[dY f0]at nO
  exact absurd f1 (oN nO.symm)
 ·have hb:x0=true:=by simpa using hb
  obtain⟨f0,f1⟩:=yY h f (nO.symm.trans hb)
  have e1:i64.wrap (f*32)=f*32:=by rw[wrap_i64];omega
  have e2:i64.wrap (i64.wrap (f*32)+32)=f*32+32:=by rw[wrap_i64,wrap_i64];omega
  have hlen:(dB (dF (i64.wrap (i64.wrap (f*32)+32))-dF (i64.wrap (f*32))) (dC (dF (i64.wrap (f*32))) m)).length=32:=by
   rw[e2,e1,bD,bF];omega
  refine au (by rw[e2,e1];simp[bJ];omega) ?_
  refine cj (by show dK _<=1000000000000;rw[hlen];decide) (aq λx1 h1=>?_)
  have h1:x1.length=4*(dB (dF (i64.wrap (i64.wrap (f*32)+32))-dF (i64.wrap (f*32))) (dC (dF (i64.wrap (f*32))) m)).length:=by rw[h1];exact(Tree.pp (zaG _ (dL hlen))).2
  intro _ _
  show x1.length=128
  rw[h1,hlen]
theorem TL(hf:U f)(hP:P<=32)(h:decide (u64.wrap f<u64.wrap (P:Int))=true):0<=f/\f<P:=by
 have h:=oY h
 obtain⟨h1,h2⟩:=hf
 rw[wrap_u64,wrap_u64,dM h1 (by omega),dM (by omega) (by omega)]at h
 exact⟨h1,h⟩
theorem Zsk{m:List Int}(h:fg P m)(hd:oG d)(e:ib):(Lt d m e).w (λr=>oG r.1/\fg P r.2.1/\out d.B2 m r.2.1/\(r.2.2=false->r.2.1=m)/\(∀p,kD d p=true->kD r.1 p=true)):=by
 have gl:jH m=m:=rfl
 have cy:∀b:Bool,oG d/\fg P m/\out d.B2 m m/\(b=false->m=m)/\(∀p,kD d p=true->kD d p=true):=λb=>⟨hd,h,Lr _ _,λ_=>rfl,λ_ h=>h⟩
 have GZ:∀{p:Int},kD d p=true->decide (d.ag>64)=false:=fun{p} hm=>by
  cases hb:decide (d.ag>64)
  ·rfl
  ·have:kD d p=false:=by simp only[kD,wV,Tree.m];rw[hb];rfl
   rw[this]at hm;cases hm
 have m2:∀p,kD d p=true->kD {ag:=d.ag,C2:=d.C2,Frame:=d.Frame,B8:=2,D5:=0,B6:=0,B2:=0,B7:=[]} p=true:=λp hm=>by
  simp only[kD,wV,Tree.m];rw[GZ hm];rfl
 have m3:∀p,kD d p=true->kD {ag:=d.ag,C2:=d.C2,Frame:=d.Frame,B8:=3,D5:=0,B6:=0,B2:=0,B7:=[]} p=true:=λp hm=>by
  simp only[kD,wV,Tree.m];rw[GZ hm];rfl
 unfold Lt
 refine aa (λ_=>cj (sg h) (aq λx hx=>by rw[gl]at hx;subst hx;exact cy _)) λ_=>aa (λ_=>cj (sg h) (aq λx hx=>by rw[gl]at hx;subst hx;exact cy _)) λ_=>aa (λ_=>cj (sg h) (aq λx hx=>by rw[gl]at hx;subst hx;exact cy _)) λ_=>cj (sg h) (aq λx3 Eg=>?_)
 rw[gl]at Eg;subst Eg
 have fin:∀{m':List Int},fg P m'->out d.B2 x3 m'->(Tree.br (e.N==1) (.lf (({ag:=d.ag,C2:=d.C2,Frame:=d.Frame,B8:=2,D5:=0,B6:=0,B2:=0,B7:=[]}:fv),m',true)) (.lf (({ag:=d.ag,C2:=d.C2,Frame:=d.Frame,B8:=3,D5:=0,B6:=0,B2:=0,B7:=[]}:fv),m',true))).w (λr=>oG r.1/\fg P r.2.1/\out d.B2 x3 r.2.1/\(r.2.2=false->r.2.1=x3)/\(∀p,kD d p=true->kD r.1 p=true)):=λhm ho=>
  aa (λ_=>⟨⟨hd.block,hd.frame,ey,ey⟩,hm,ho,(λh=>by cases h),m2⟩) (λ_=>⟨⟨hd.block,hd.frame,ey,ey⟩,hm,ho,(λh=>by cases h),m3⟩)
 have nod:(Tree.br (!decide (e.D0=[])) (.lf (d,x3,false)) (Tree.br (e.N==1) (.lf (({ag:=d.ag,C2:=d.C2,Frame:=d.Frame,B8:=2,D5:=0,B6:=0,B2:=0,B7:=[]}:fv),x3,true)) (.lf (({ag:=d.ag,C2:=d.C2,Frame:=d.Frame,B8:=3,D5:=0,B6:=0,B2:=0,B7:=[]}:fv),x3,true)))).w (λr=>oG r.1/\fg P r.2.1/\out d.B2 x3 r.2.1/\(r.2.2=false->r.2.1=x3)/\(∀p,kD d p=true->kD r.1 p=true)):=
  aa (λ_=>cy _) (λ_=>fin h (Lr _ _))
 refine aa (λ_=>aa (λ_=>aq λx4 Om=>aa (λ_=>cy _) λhb=>?_) (λ_=>nod)) (λ_=>nod)
 have hp:=sf h
 have hb:x4=true:=by simpa using hb
 rw[hb]at Om
 simp only[Ja,On,Tree.m,df,hp]at Om
 obtain⟨f0,f1⟩:=TL hd.ie h.p2 Om.symm
 have ef:i64.wrap d.B2=d.B2:=by have:=h.p2;rw[wrap_i64];omega
 refine bh (Xz h _ _) λx5 ⟨h5,o5,k5⟩=>?_
 rw[ef]at o5
 exact aa (λhf=>⟨hd,h5,o5,λ_=>k5 (by simpa using hf),λ_ h=>h⟩) (λ_=>fin h5 o5)
theorem yg{m:List Int}(h:fg P m)(hn:pB n)(frame:List UInt8):(Lu n m frame).w (λr=>pB r.1/\fg P r.2.1/\out n.B9 m r.2.1/\(r.2.2=false->r.2.1=m)/\(∀p,pC n p=true->pC r.1 p=true)):=by
 have gl:jH m=m:=rfl
 have cy:pB n/\fg P m/\out n.B9 m m/\(false=false->m=m)/\(∀p,pC n p=true->pC n p=true):=⟨hn,h,Lr _ _,λ_=>rfl,λ_ h=>h⟩
 unfold Lu
 refine aa (λ_=>cj (sg h) (aq λx hx=>by rw[gl]at hx;subst hx;exact cy)) λhpo=>aa (λ_=>cj (sg h) (aq λx hx=>by rw[gl]at hx;subst hx;exact cy)) λl1=>aa (λ_=>cj (sg h) (aq λx hx=>by rw[gl]at hx;subst hx;exact cy)) λl2=>aq λx3 Eg=>aa (λ_=>cj (sg h) (aq λx hx=>by rw[gl]at hx;subst hx;exact cy)) λhb=>?_
 have l1:=oN l1
 have l2:=oN l2
 have hp:=sf h
 have hb:x3=true:=by simpa using hb
 rw[hb]at Eg
 simp only[G0,Oo,Tree.m,df,hp]at Eg
 obtain⟨f0,f1⟩:=TL hn.buffer h.p2 Eg.symm
 have ef:i64.wrap n.B9=n.B9:=by have:=h.p2;rw[wrap_i64];omega
 refine bh (XB h _) λx5 h5=>?_
 rw[ef]at h5
 have h5:=h5 f0 f1
 have Ct:(maxLen:Nat)=9223372036854775807:=rfl
 refine au (dY (by omega)) (au (dY (by simp only[bD,bF,Ct];omega)) (bh (Xz h _ _) λx6 ⟨h6,o6,_⟩=>?_))
 rw[ef]at o6
 have hg:u32.wrap (frame.length:Int)=frame.length:=by rw[wrap_u32];omega
 refine⟨⟨hn.frame,hn.len,ey,fm _⟩,h6,o6,(λh=>by cases h),λp _=>?_⟩
 simp only[pC,Lv,Tree.m]
 rw[hg,dY (show(frame.length:Int)>=1 by omega),dY (show(frame.length:Int)<=128 by omega)]
 rfl
theorem qam(c:iY)(b:Int):(Oq c b).w (λr=>tR c=true->tR r.1=true):=by
 have Ct:(maxLen:Nat)=9223372036854775807:=rfl
 unfold Oq
 refine aa (λ_=>λh=>h) (λhb=>?_)
 have hb:=oN hb
 refine au (dY (by rw[Ct];omega)) ?_
 intro _
 show decide (((c.C9++[_]).length:Int)<=16)=true
 rw[lA,cZ]
 exact dY (by omega)
theorem xK(t:iZ)(h:tS t=true):tS (TM t).1=true:=by
 simp only[TM,XC,Tree.m]
 cases ha:t.D3
 ·exact h
 ·rfl
theorem vg(m:av):sX m=(tR m.A3&&(tS m.A9&&(kD m.A7 (me m.Mem)&&(pC m.C1 (me m.Mem)&&uM m.A2 (me m.Mem))))):=by
 simp only[sX,El,Tree.m,df]
 cases tR m.A3<;>cases tS m.A9<;>cases kD m.A7 (me m.Mem)<;>cases pC m.C1 (me m.Mem)<;>rfl
theorem xaG{b c:iu}(h:c.C4=b.C4)(p:Int):uM c p=uM b p:=by
 simp only[uM,G1,Tree.m,h]
theorem Jb{a x y:Bool}(h:x=true->y=true):(bif a then false else x)=true->(bif a then false else y)=true:=by cases a<;>simp_all
def chain(b1 b2 b3 b4 b5 b6 b7 w h dev:Bool):Bool:=bif b1 then false else bif b2 then false else bif b3 then false else bif b4 then false else bif b5 then false else bif b6 then false else bif b7 then false else bif w then(bif h then false else dev)else dev
theorem Zrl{b1 b2 b3 b4 b5 b6 b7 w h d d':Bool}(hd:d=true->d'=true):chain b1 b2 b3 b4 b5 b6 b7 w h d=true->chain b1 b2 b3 b4 b5 b6 b7 w h d'=true:=by
 refine Jb (Jb (Jb (Jb (Jb (Jb (Jb ?_))))))
 cases w
 ·exact hd
 ·cases h
  ·exact hd
  ·exactλh=>h
def FG(p:Int)(c:bm)(ct:Int)(w h dev:Bool):Bool:=chain (p==0) (c.X.a0 !=0) (decide (c.B3.a0>31)) (decide (c.B3.a7>31)) (decide (c.B3.a6>255)) (dE c.B3.a1 4 !=0) (decide (ct>1152921504606846976)) w h dev
theorem qh{ct:Int}{w h d d':Bool}(hd:d=true->d'=true)(g:FG p c ct w h d=true):FG p c ct w h d'=true:=Zrl hd g
theorem vY(m:av):mX m=FG (me m.Mem) m.B0 m.A1 m.A4 m.A6 (sX m):=rfl
theorem Ot{m n:av}(hp:me n.Mem=me m.Mem)(XD:n.B0=m.B0)(Ou:n.A1=m.A1)(hw:n.A4=m.A4)(hh:n.A6=m.A6)
 (hc:tR m.A3=true->tR n.A3=true) (ht:tS m.A9=true->tS n.A9=true) (hd:∀p,kD m.A7 p=true->kD n.A7 p=true) (hn:∀p,pC m.C1 p=true->pC n.C1 p=true) (hb:n.A2.C4=m.A2.C4) (h:mX m=true):mX n=true:=by
 have dev:sX m=true->sX n=true:=λh=>by
  rw[vg]at h⊢
  simp only[aE]at h⊢
  rw[hp,xaG hb]
  exact⟨hc h.1,ht h.2.1,hd _ h.2.2.1,hn _ h.2.2.2.1,h.2.2.2.2⟩
 rw[vY]at h⊢
 rw[hp,XD,Ou,hw,hh]
 exact qh dev h
section
variable {P:Nat} {m:List Int} (h:fg P m)
include h
theorem Ov(hf:U f){b:Bool}(hx:b=Ja m f)(hb:b=true):0<=f/\f<P:=by
 have hp:=sf h
 rw[hb]at hx
 simp only[Ja,On,Tree.m,df,hp]at hx
 exact TL hf h.p2 hx.symm
theorem G2(hf:U f){b:Bool}(hx:b=G0 m f)(hb:b=true):0<=f/\f<P:=by
 have hp:=sf h
 rw[hb]at hx
 simp only[G0,Oo,Tree.m,df,hp]at hx
 exact TL hf h.p2 hx.symm
def sY(P:Nat)(d d':fv):Prop:=oG d'/\(kD d P=true->kD d' P=true)
theorem xh(hd:oG d){cmd:Int}(hc:cmd=1\/cmd=2)(cr:Int):(Lw d m cmd cr).w (λr=>sY P d r.1/\r.2.length<=1):=by
 have h2:=h.p2
 have st3:(d.B8 !=0)=false->sY P d {ag:=d.ag,C2:=d.C2,Frame:=d.Frame,B8:=3,D5:=d.D5,B6:=d.B6,B2:=d.B2,B7:=d.B7}:=λhs=>by
  have hs:d.B8=0:=by simpa using hs
  refine⟨⟨hd.block,hd.frame,hd.kE,hd.ie⟩,λhm=>?_⟩
  simp only[kD,wV,Tree.m,hs]at hm⊢
  exact hm
 have GZ:kD d P=true->decide (d.ag>64)=false:=λhm=>by
  cases hb:decide (d.ag>64)
  ·rfl
  ·have:kD d P=false:=by simp only[kD,wV,Tree.m];rw[hb];rfl
   rw[this]at hm;cases hm
 unfold Lw
 refine aa (λ_=>⟨⟨hd,λh=>h⟩,aT _⟩) λhs=>aa (λ_=>⟨st3 hs,aT _⟩) λhb=>aq λx0 hx=>aa (λ_=>⟨st3 hs,aT _⟩) λhp=>?_
 have hb:=oN hb
 obtain⟨f0,f1⟩:=Ov h hd.frame hx (by simpa using hp)
 have ef:i64.wrap d.Frame=d.Frame:=by rw[wrap_i64];omega
 have e1:decide (d.C2<d.ag)=true:=dY (by omega)
 have e2:decide (i64.wrap d.Frame<(P:Int))=true:=by rw[ef];exact dY f1
 refine aa (λAO=>bh (XB h _) λx1 h1=>?_) (λAO=>?_)
 ·rw[ef]at h1
  have h1:=h1 f0 f1
  have AO:=eq_of_beq AO
  subst AO
  refine aq λx2 _=>⟨⟨⟨hd.block,hd.frame,hd.block,hd.frame⟩,λhm=>?_⟩,aO _⟩
  simp only[kD,wV,Ow,Jc,Tree.m,df,GZ hm,e1,e2,h1]
  rfl
 ·have hc:cmd=1:=by
   rcases hc with h|h
   ·exact h
   ·rw[h]at AO;exact absurd AO (by decide)
  subst hc
  refine aq λx2 _=>⟨⟨⟨hd.block,hd.frame,hd.block,hd.frame⟩,λhm=>?_⟩,aO _⟩
  simp only[kD,wV,Ow,Jc,Tree.m,df,GZ hm,e1,e2]
  rfl
theorem zam(hd:oG d)(port:Int)(hv:U v)(cr:Int):(Lx d m port v cr).w (λr=>sY P d r.1/\r.2.length<=1):=by
 have cy:sY P d d:=⟨hd,λh=>h⟩
 have e1:∀{k:Int},(v==k)=true->i64.wrap v=k:=λhk=>by
  have:=eq_of_beq hk
  obtain⟨a,b⟩:=hv
  rw[wrap_i64];omega
 unfold Lx
 refine aa (λ_=>⟨⟨⟨hv,hd.frame,hd.kE,hd.ie⟩,λh=>h⟩,aT _⟩) λ_=>aa (λ_=>⟨⟨⟨hd.block,hv,hd.kE,hd.ie⟩,λh=>h⟩,aT _⟩) λ_=>aa (λ_=>aa (λhk=>bh (xh h hd (.inl (e1 hk)) _) λx hx=>hx) λ_=>aa (λhk=>bh (xh h hd (.inr (e1 hk)) _) λx hx=>hx) λ_=>aa (λ_=>aq λx hx=>aa (λhb=>?_) (λ_=>⟨cy,aT _⟩)) (λ_=>⟨cy,aT _⟩)) (λ_=>⟨cy,aT _⟩)
 refine⟨⟨⟨hd.block,hd.frame,hd.kE,hd.ie⟩,λhm=>?_⟩,aT _⟩
 rw[hb]at hx
 simp only[Ly,XE,Tree.m]at hx
 cases h2:d.B8==2
 ·rw[h2]at hx
  have h3:d.B8=3:=eq_of_beq hx.symm
  simp only[kD,wV,Tree.m,h3]at hm⊢
  exact hm
 ·have h3:d.B8=2:=eq_of_beq h2
  simp only[kD,wV,Tree.m,h3]at hm⊢
  exact hm
def Cx(P:Nat)(n n':ik):Prop:=pB n'/\(pC n P=true->pC n' P=true)
theorem qaH(hn:pB n)(cr:Int):(Lz n m cr).w (λr=>r.length<=1):=by
 have h2:=h.p2
 unfold Lz
 refine aa (λ_=>aT _) λl1=>aa (λ_=>aT _) λl2=>aq λx0 hx=>aa (λ_=>aT _) λhp=>bh (XB h _) λx1 h1=>?_
 have l1:=oN l1
 have l2:=oN l2
 obtain⟨f0,f1⟩:=G2 h hn.frame hx (by simpa using hp)
 have ef:i64.wrap n.Frame=n.Frame:=by rw[wrap_i64];omega
 rw[ef]at h1
 have h1:=h1 f0 f1
 exact au (dY (by omega)) (aO _)
theorem zaH{n:ik}(hn:pB n)(port:Int){v:Int}(hv:U v)(cr:Int):(LA n m port v cr).w (λr=>Cx P n r.1/\r.2.length<=1):=by
 have h2:=h.p2
 have cy:Cx P n n:=⟨hn,λh=>h⟩
 unfold LA
 refine aa (λ_=>⟨⟨⟨hv,hn.len,hn.buffer,hn.G3⟩,λh=>h⟩,aT _⟩) λ_=>aa (λ_=>⟨⟨⟨hn.frame,hv,hn.buffer,hn.G3⟩,λh=>h⟩,aT _⟩) λ_=>aa (λ_=>aa (λ_=>bh (qaH h hn _) λx hx=>⟨cy,hx⟩) λ_=>aa (λ_=>aq λx hx=>aa (λhb=>aa (λnp=>aa (λnr=>?_) (λ_=>⟨cy,aT _⟩)) (λ_=>⟨cy,aT _⟩)) (λ_=>⟨cy,aT _⟩)) λ_=>aa (λ_=>?_) (λ_=>⟨cy,aT _⟩)) (λ_=>⟨cy,aT _⟩)
 ·obtain⟨f0,f1⟩:=G2 h hn.frame hx hb
  have np:n.C5=false:=by simpa using np
  have nr:n.B5=false:=by simpa using nr
  have e2:decide (i64.wrap n.Frame>=(P:Int))=false:=dN (by rw[wrap_i64];omega)
  refine⟨⟨⟨hn.frame,hn.len,hn.frame,hn.G3⟩,λhm=>?_⟩,aT _⟩
  simp only[pC,Lv,Tree.m,np,nr,e2]at hm⊢
  cases hb:(n.B9 !=0)
  ·rw[hb]at hm;exact hm
  ·rw[hb]at hm;cases hm
 ·refine⟨⟨⟨hn.frame,hn.len,hn.buffer,ey⟩,λhm=>?_⟩,aT _⟩
  simp only[pC,Lv,Tree.m]at hm⊢
  revert hm
  cases n.C5<;>cases n.B5<;>cases decide (i64.wrap n.B9>=(P:Int))<;>cases(n.B9 !=0)<;>simp
end
theorem xam(t:iZ)(v:Int):tS (Ox t v)=true:=by
 simp only[Ox,TN,tS,TO,Tree.m]
 cases h:(v !=0)
 ·have:v=0:=by simpa using h
  subst this;rfl
 ·rfl
theorem Em(k:Nat)(hk:k<=32):bg .u32 a k=a/2^k:=by
 unfold bg
 have e:min (k:Int).toNat u32.bits=k:=by show min (k:Int).toNat 32=k;omega
 have hp:(0:Int)<2^k:=dO (by decide)
 rw[e,dP _ (dQ hp)]
def LB(x:Int)(n:Nat):Prop:=x<2^n/\(n=0\/(2:Int)^(n-1)<=x)
theorem XF{n k:Nat}(hq:q=x/2^k)(h0:0<q)(h:LB q n):LB x (n+k):=by
 have hp:(0:Int)<2^k:=dO (by decide)
 obtain⟨h1,h2⟩:=h
 have hn:n≠0:=λe=>by subst e;simp at h1;omega
 refine⟨?_,.inr ?_⟩
 ·rw[dR]
  have:x<(x/2^k+1)*2^k:=Int.lt_ediv_add_one_mul_self x hp
  have h3:(x/2^k+1)*2^k<=2^n*2^k:=dS (by omega) (dQ hp)
  omega
 ·have h2:=h2.resolve_left hn
  have e:n+k-1=(n-1)+k:=by omega
  rw[e,dR]
  have h3:(2:Int)^(n-1)*2^k<=q*2^k:=dS h2 (dQ hp)
  have h4:q*2^k<=x:=by rw[hq];exact Int.ediv_mul_le x (Int.ne_of_gt hp)
  omega
theorem zK{n p:Nat}(h:LB x n)(hx:x<2^p):n<=p:=by
 obtain⟨h1,h2⟩:=h
 rcases h2 with h2|h2
 ·omega
 ·rcases Nat.lt_or_ge p n with bz|pV
  ·have:(2:Int)^p<=2^(n-1):=by
    have:=dT (show 0<2 by omega) (show p<=n-1 by omega)
    exact_mod_cast this
   omega
  ·exact pV
theorem Zn{n p:Nat}(h:LB x n)(hn:n<=p):x<2^p:=by
 have:(2:Int)^n<=2^p:=by
  have:=dT (show 0<2 by omega) hn
  exact_mod_cast this
 exact Int.lt_of_lt_of_le h.1 this
def Cy(i:Nat):Bool:=match(wW (i:Int))with
 |.ofNat n=>decide ((i:Int)<2^n)&&(Nat.beq n 0||decide ((2:Int)^(n-1)<=i))&&decide (n<=8)
 |_=>false
theorem TP(h0:0<=q)(h1:q<256):∃n:Nat,wW q=n/\LB q n/\n<=8:=by
 have all:List.all (dD 256) Cy=true:=by kernel_rfl
 have:=List.all_eq_true.1 all q.toNat (List.mem_range.2 (by omega))
 have hq:((q.toNat:Nat):Int)=q:=by omega
 unfold Cy at this
 rw[hq]at this
 split at this
 ·rename_i n hn
  simp only[aE,aI,decide_eq_true_eq]at this
  refine⟨n,hn,⟨this.1.1,?_⟩,this.2⟩
  rcases this.1.2 with h|h
  ·exact .inl (bE h)
  ·exact .inr h
 ·cases this
theorem xaH(h:U x)(hx:16777216<=x):wW x=24+wW (x/16777216):=by
 obtain⟨h0,h1⟩:=h
 have BB:bg .u32 x 16=x/65536:=Em 16 (by omega)
 have uO:bg .u32 (x/65536) 8=x/16777216:=by rw[show((8:Int))=((8:Nat):Int) from rfl,Em 8 (by omega)];omega
 have d1:decide (x>=65536)=true:=dY (by omega)
 have d2:decide (x/65536>=256)=true:=dY (by omega)
 have d3:decide (x/16777216>=65536)=false:=dN (by omega)
 have d4:decide (x/16777216>=256)=false:=dN (by omega)
 have u:u8.wrap (x/16777216)=x/16777216:=by rw[wrap_u8];omega
 simp only[wW,En,Tree.m,BB,uO,d1,d2,d3,d4,u,cond_true,cond_false]
 generalize(aK _ (dF (x/16777216)) (0:UInt8))=b
 have hb:=dU b
 rw[wrap_i64,wrap_i64,wrap_i64,wrap_i64]
 omega
theorem qaI(h0:65536<=x)(h1:x<16777216):wW x=16+wW (x/65536):=by
 have BB:bg .u32 x 16=x/65536:=Em 16 (by omega)
 have d1:decide (x>=65536)=true:=dY (by omega)
 have d2:decide (x/65536>=256)=false:=dN (by omega)
 have d3:decide (x/65536>=65536)=false:=dN (by omega)
 have u:u8.wrap (x/65536)=x/65536:=by rw[wrap_u8];omega
 simp only[wW,En,Tree.m,BB,d1,d2,d3,u,cond_true,cond_false]
 generalize(aK _ (dF (x/65536)) (0:UInt8))=b
 have hb:=dU b
 rw[wrap_i64,wrap_i64,wrap_i64]
 omega
theorem Oy(h0:256<=x)(h1:x<65536):wW x=8+wW (x/256):=by
 have s8:bg .u32 x 8=x/256:=Em 8 (by omega)
 have d1:decide (x>=65536)=false:=dN (by omega)
 have d2:decide (x>=256)=true:=dY (by omega)
 have d3:decide (x/256>=65536)=false:=dN (by omega)
 have d4:decide (x/256>=256)=false:=dN (by omega)
 have u:u8.wrap (x/256)=x/256:=by rw[wrap_u8];omega
 simp only[wW,En,Tree.m,s8,d1,d2,d3,d4,u,cond_true,cond_false]
 generalize(aK _ (dF (x/256)) (0:UInt8))=b
 have hb:=dU b
 rw[wrap_i64,wrap_i64,wrap_i64,wrap_i64]
 omega
theorem Zs1(h:U x):∃n:Nat,wW x=n/\LB x n:=by
 obtain⟨h0,h1⟩:=h
 rcases dV x 256 with a|a
 ·obtain⟨n,e,l,_⟩:=TP h0 a
  exact⟨n,e,l⟩
 ·rcases dV x 65536 with b|b
  ·obtain⟨n,e,l,_⟩:=TP (q:=x/256) (by omega) (by omega)
   exact⟨n+8,by rw[Oy a b,e];omega,XF (k:=8) rfl (by omega) l⟩
  ·rcases dV x 16777216 with c|c
   ·obtain⟨n,e,l,_⟩:=TP (q:=x/65536) (by omega) (by omega)
    exact⟨n+16,by rw[qaI b c,e];omega,XF (k:=16) rfl (by omega) l⟩
   ·obtain⟨n,e,l,_⟩:=TP (q:=x/16777216) (by omega) (by omega)
    exact⟨n+24,by rw[xaH ⟨h0,h1⟩ c,e];omega,XF (k:=24) rfl (by omega) l⟩
theorem Oz(h:U b.C4):uM b P=true↔b.C4<2^P:=by
 obtain⟨n,e,l⟩:=Zs1 h
 have hp:(if(0:Int)>(P:Int)then(0:Int)else P)=P:=by rw[if_neg (by omega)]
 simp only[uM,G1,Tree.m,df,e,hp,decide_eq_true_eq]
 constructor
 ·intro h;exact Zn l (by omega)
 ·intro h;have:=zK l h;omega
theorem XG(h:U a)(h1:a<2^P):(dW 32 a).toNat<2^P:=by
 obtain⟨a0,a1⟩:=h
 rw[dX,dM a0 (by omega)]
 have:((2^P:Nat):Int)=(2:Int)^P:=by exact_mod_cast rfl
 omega
theorem OA{a b:Int}(ha:U a)(hb:U b)(hP:P<=32)(h1:a<2^P)(h2:b<2^P):ij .u32 a b<2^P:=by
 have e:(dW 32 a|||dW 32 b).toNat<2^P:=by
  rw[dZ]
  exact Nat.or_lt_two_pow (XG ha h1) (XG hb h2)
 have hc:((2^P:Nat):Int)=(2:Int)^P:=by exact_mod_cast rfl
 have l:=(dW 32 a|||dW 32 b).isLt
 show wrap .u32 ((dW 32 a|||dW 32 b).toNat:Int)<2^P
 rw[wrap_u32]
 omega
theorem qan{a b:Int}(ha:U a)(h1:a<2^P):oa .u32 a b<2^P:=by
 have e:(dW 32 a&&&~~~dW 32 b).toNat<2^P:=by
  rw[eA]
  exact Nat.lt_of_le_of_lt eB (XG ha h1)
 have hc:((2^P:Nat):Int)=(2:Int)^P:=by exact_mod_cast rfl
 have l:=(dW 32 a&&&~~~dW 32 b).isLt
 show wrap .u32 ((dW 32 a&&&~~~dW 32 b).toNat:Int)<2^P
 rw[wrap_u32]
 omega
theorem zh(h0:0<=v)(h1:v<32):ek .u32 1 v=2^v.toNat:=by
 have e:min v.toNat u32.bits=v.toNat:=by show min v.toNat 32=v.toNat;omega
 obtain⟨n,rfl⟩:∃n:Nat,v=n:=⟨v.toNat,by omega⟩
 have hn:n<32:=by omega
 have bz:(2:Nat)^n<4294967296:=by
  have:=eC (show 1<2 by omega) hn
  simpa using this
 have hc:((2^n:Nat):Int)=(2:Int)^n:=by exact_mod_cast rfl
 unfold ek
 rw[e,wrap_u32,Int.one_mul,eD,<-hc]
 clear hc e
 generalize(2:Nat)^n=z at*
 omega
def Cz(P:Nat)(b b':iu):Prop:=okB b'/\(uM b P=true->uM b' P=true)
theorem Zqw{m:List Int}(h:fg P m)(hb:okB b)(port:Int)(hv:U v):(Eo b m port v).w (λr=>Cz P b r.1/\fg P r.2):=by
 have gl:jH m=m:=rfl
 have h2:=h.p2
 have hp:=sf h
 have cy:(Tree.an (mY m) (.lv (jH m) λx=>.lf (b,x))).w (λr=>Cz P b r.1/\fg P r.2):=cj (sg h) (aq λx hx=>by rw[gl]at hx;subst hx;exact⟨⟨hb,λh=>h⟩,h⟩)
 unfold Eo
 refine aa (λ_=>cy) λbz=>au (dY hv.1) (aa (λ_=>aq λx1 hx=>aa (λJd=>aa (λ_=>cj ⟨by decide,by decide,by decide⟩ (aq λx2 _=>bh (Xz h _ _) λx3 ⟨h3,_⟩=>?_)) (λ_=>cy)) (λ_=>cy)) (λ_=>aa (λ_=>cj (sg h) (aq λx hx=>?_)) (λ_=>cy)))
 ·have bz:=oN bz
  have Jd:=oY Jd
  rw[hx,hp]at Jd
  obtain⟨v0,v1⟩:=hv
  have ev:i64.wrap v=v:=by rw[wrap_i64];omega
  rw[ev]at Jd
  refine⟨⟨⟨hb.1,fm _⟩,λhm=>?_⟩,h3⟩
  rw[Oz hb.2]at hm
  rw[Oz (fm _)]
  have hs:ek .u32 1 v<2^P:=by
   rw[zh v0 (by omega)]
   have:=eC (show 1<2 by omega) (show v.toNat<P by omega)
   exact_mod_cast this
  exact OA hb.2 (fm _) h2 hm hs
 ·rw[gl]at hx;subst hx
  refine⟨⟨⟨hb.1,fm _⟩,λhm=>?_⟩,h⟩
  rw[Oz hb.2]at hm
  rw[Oz (fm _)]
  exact qan hb.2 hm
structure kept(P:Nat)(m n:av):Prop where
 ok:rG P n
 dev:sX m=true->sX n=true
 lK:n.B0=m.B0
 lM:n.A1=m.A1
 wait:n.A4=m.A4
 halt:n.A6=m.A6
theorem Zkr{m:av}(h:rG P m):kept P m m:=⟨h,λh=>h,rfl,rfl,rfl,rfl⟩
theorem LC{m n:av}(hm:fg P m.Mem)(hn:fg P n.Mem)(hc:tR m.A3=true->tR n.A3=true)(ht:tS m.A9=true->tS n.A9=true)
 (hd:kD m.A7 P=true->kD n.A7 P=true) (hk:pC m.C1 P=true->pC n.C1 P=true) (hb:uM m.A2 P=true->uM n.A2 P=true) (h:sX m=true):sX n=true:=by
 rw[vg]at h⊢
 rw[sf hm]at h
 rw[sf hn]
 simp only[aE]at h⊢
 exact⟨hc h.1,ht h.2.1,hd h.2.2.1,hk h.2.2.2.1,hb h.2.2.2.2⟩
theorem Zn1{m:av}(h:rG P m)(port:Int)(hv:U v)(cr:Int):(LD m port v cr).w (λr=>kept P m r.1/\r.2.length<=1):=by
 have k:=Zkr h
 obtain⟨h1,h2,h3,h4,h5,h6⟩:=h
 have id:∀{p:Prop},p->p:=λh=>h
 have D:∀(x:fv×List dk),(sY P m.A7 x.1/\x.2.length<=1)->kept P m {B0:=m.B0,Mem:=m.Mem,A3:=m.A3,A9:=m.A9,A7:=x.1,C1:=m.C1,A2:=m.A2,A1:=m.A1,A4:=m.A4,A6:=m.A6}/\x.2.length<=1:=λx hx=>
  ⟨⟨⟨h1,h2,hx.1.1,h4,h5,h6⟩,LC h2 h2 id id hx.1.2 id id,rfl,rfl,rfl,rfl⟩,hx.2⟩
 have N:∀(x:ik×List dk),(Cx P m.C1 x.1/\x.2.length<=1)->kept P m {B0:=m.B0,Mem:=m.Mem,A3:=m.A3,A9:=m.A9,A7:=m.A7,C1:=x.1,A2:=m.A2,A1:=m.A1,A4:=m.A4,A6:=m.A6}/\x.2.length<=1:=λx hx=>
  ⟨⟨⟨h1,h2,h3,hx.1.1,h5,h6⟩,LC h2 h2 id id id hx.1.2 id,rfl,rfl,rfl,rfl⟩,hx.2⟩
 have B:∀(x:iu×List Int),(Cz P m.A2 x.1/\fg P x.2)->kept P m {B0:=m.B0,Mem:=x.2,A3:=m.A3,A9:=m.A9,A7:=m.A7,C1:=m.C1,A2:=x.1,A1:=m.A1,A4:=m.A4,A6:=m.A6}/\([]:List dk).length<=1:=λx hx=>
  ⟨⟨⟨h1,hx.2,h3,h4,hx.1.1.1,hx.1.1.2⟩,LC h2 hx.2 id id id id hx.1.2,rfl,rfl,rfl,rfl⟩,aT _⟩
 unfold LD
 repeat'(first
  |exact⟨k,aO _⟩
  |exact⟨k,aT _⟩
  |exact aq λx hx=>⟨⟨⟨h1,h2,h3,h4,h5,h6⟩,LC h2 h2 id (λ_=>by rw[hx];exact xam _ _) id id id,rfl,rfl,rfl,rfl⟩,aT _⟩
  |exact bh (zam h2 h3 _ hv _) λx hx=>D x hx
  |exact bh (zaH h2 h4 _ hv _) λx hx=>N x hx
  |exact bh (Zqw h2 ⟨h5,h6⟩ _ hv) λx hx=>B x hx
  |refine aa (λ_=>?_) (λ_=>?_))
theorem Zcf(c:iY)(port:Int):(Je c port).w (λr=>U r.2/\(tR c=true->tR r.1=true)):=by
 have u1:U 4294967295:=⟨by omega,by omega⟩
 unfold Je
 refine aa (λ_=>aa (λ_=>⟨u1,λh=>h⟩) (λhb=>au ?_ (au ?_ ⟨fm _,λhm=>?_⟩))) (λ_=>aa (λ_=>⟨fm _,λh=>h⟩) (λ_=>⟨ey,λh=>h⟩))
 ·have hb:=oN hb
  have:0<c.C9.length:=List.length_pos_iff.2 hb
  simp[bJ];omega
 ·have hb:=oN hb
  have:0<c.C9.length:=List.length_pos_iff.2 hb
  exact dY (by omega)
 ·have hm:decide ((c.C9.length:Int)<=16)=true:=hm
  have hm:=oY hm
  show decide (((dB _ (dC _ c.C9)).length:Int)<=16)=true
  refine dY ?_
  rw[bD,bF];omega
theorem Zr1{m:av}(h:rG P m)(port:Int)(hc:U clock):(LF m port clock).w (λr=>kept P m r.1/\U r.2):=by
 have k:=Zkr h
 obtain⟨h1,h2,h3,h4,h5,h6⟩:=h
 have id:∀{p:Prop},p->p:=λh=>h
 have ti:∀t,U (XH t):=λt=>by
  refine Tree.post (TQ t) (W:=U) ?_
  unfold TQ
  exact aa (λ_=>⟨by omega,by omega⟩) (λ_=>ey)
 have di:∀p,U (OB m.A7 p):=λp=>by
  refine Tree.post (TR m.A7 p) (W:=U) ?_
  unfold TR
  exact aa (λ_=>h3.block) (λ_=>aa (λ_=>h3.frame) (λ_=>aa (λ_=>fm _) (λ_=>ey)))
 have ni:∀p,U (LG m.C1 p):=λp=>by
  refine Tree.post (OC m.C1 p) (W:=U) ?_
  unfold OC
  exact aa (λ_=>h4.frame) (λ_=>aa (λ_=>h4.G3) (λ_=>aa (λ_=>aa (λ_=>aa (λ_=>fm _) (λ_=>fm _)) (λ_=>aa (λ_=>fm _) (λ_=>ey))) (λ_=>ey)))
 have bi:∀p,(LH m.A2 p).w U:=λp=>by
  unfold LH
  exact aa (λ_=>h5) (λ_=>aa (λ_=>bh (Zp4 h6) λ_ _=>fm _) (λ_=>ey))
 have C:∀(x:iY×Int),(U x.2/\(tR m.A3=true->tR x.1=true))->kept P m {B0:=m.B0,Mem:=m.Mem,A3:=x.1,A9:=m.A9,A7:=m.A7,C1:=m.C1,A2:=m.A2,A1:=m.A1,A4:=m.A4,A6:=m.A6}/\U x.2:=λx hx=>
  ⟨⟨⟨h1,h2,h3,h4,h5,h6⟩,LC h2 h2 hx.2 id id id id,rfl,rfl,rfl,rfl⟩,hx.1⟩
 unfold LF
 repeat'(first
  |exact⟨k,hc⟩
  |exact⟨k,ey⟩
  |exact bh (Zcf _ _) λx hx=>C x hx
  |exact N4 (Zcf _ _) λx hx=>C x hx
  |exact aq λx hx=>⟨k,by rw[hx];exact ti _⟩
  |exact aq λx hx=>⟨k,by rw[hx];exact di _⟩
  |exact aq λx hx=>⟨k,by rw[hx];exact ni _⟩
  |exact bh (bi _) λx hx=>⟨k,hx⟩
  |refine aa (λ_=>?_) (λ_=>?_))
structure mZ(c:bm):Prop where
 x0:c.X.a0=0
 st:c.B3.a0<=31
 en:c.B3.a7<=31
 rt:c.B3.a6<=255
 ve:dE c.B3.a1 4=0
theorem mZ.pc(h:mZ c)(p:Int):mZ {X:=c.X,Pc:=p,B3:=c.B3}:=⟨h.x0,h.st,h.en,h.rt,h.ve⟩
theorem G4(a:Int):bd .u32 a 31<=31:=by
 have e:(dW 32 a&&&dW 32 31).toNat<=31:=by
  rw[eA]
  exact bH Nat.and_le_right (by decide)
 show wrap .u32 ((dW 32 a&&&dW 32 31).toNat:Int)<=31
 rw[wrap_u32];omega
theorem FH(a:Int):bd .u32 a 255<=255:=by have:=CA a;omega
theorem OD(a:Int):dE (oa .u32 a 3) 4=0:=by
 have e:(dW 32 a&&&~~~dW 32 3).toNat%4=0:=by
  rw[eA,show(~~~dW 32 3).toNat=4294967292 by decide]
  have:=Nat.and_mod_two_pow (a:=(dW 32 a).toNat) (b:=4294967292) (n:=2)
  simpa using this
 have l:=(dW 32 a&&&~~~dW 32 3).isLt
 show dE (wrap .u32 ((dW 32 a&&&~~~dW 32 3).toNat:Int)) 4=0
 rw[wrap_u32,eF (by omega)]
 omega
theorem G5{f:Int->Int}(h:(dD 32).all (λn=>decide (f n<=31))=true){s:Int}(h0:0<=s)(h1:s<=31):f s<=31:=by
 have:=List.all_eq_true.1 h s.toNat (List.mem_range.2 (by omega))
 have e:((s.toNat:Nat):Int)=s:=by omega
 rw[e]at this
 exact oY this
theorem Jf(h:iz c)(m:mZ c)(k b:Int):mZ (rH c k b):=
 ⟨m.x0,G5 (f:=λs=>oa .u32 (ij .u32 (AS (AS s 1 8) 2 16) 1) 2) (by kernel_rfl) h.a0.1 m.st,m.en,m.rt,m.ve⟩
theorem Zrc(h:iz c)(m:mZ c):mZ (LI c):=
 ⟨m.x0,G5 (f:=λs=>AS (AS s 8 1) 16 2) (by kernel_rfl) h.a0.1 m.st,m.en,m.rt,m.ve⟩
theorem LJ(m:mZ c){r:Int}(hr:0<=r/\r<16)(v:Int):(FI c r v).w mZ:=by
 unfold FI
 refine aa (λhn=>au (rc hr) ?_) (λ_=>m)
 have hn:r≠0:=by simpa using hn
 obtain⟨n,e⟩:∃n:Nat,r.toNat=n+1:=⟨r.toNat-1,by omega⟩
 refine⟨?_,m.st,m.en,m.rt,m.ve⟩
 show(gn.of 0 (dG (gn.l c.X) r.toNat v)).a0=0
 rw[e]
 exact m.x0
theorem yh(m:mZ c)(k v:Int):(Jg c k v).w mZ:=by
 unfold Jg
 refine aa (λhk=>au (by rw[eq_of_beq hk];decide) ?_) λ_=>aa (λhk=>au (by rw[eq_of_beq hk];decide) ?_) λ_=>aa (λhk=>au (by rw[eq_of_beq hk];decide) ?_) λ_=>aa (λhk=>au (by rw[eq_of_beq hk];decide) ?_) λ_=>aa (λhk=>au (by rw[eq_of_beq hk];decide) ?_) λ_=>aa (λhk=>au (by rw[eq_of_beq hk];decide) ?_) λ_=>aa (λhk=>au (by rw[eq_of_beq hk];decide) ?_) λ_=>aa (λhk=>au (by rw[eq_of_beq hk];decide) ?_) (λ_=>m)
 all_goals(have hk:=eq_of_beq hk;subst hk)
 ·exact⟨m.x0,G4 _,m.en,m.rt,m.ve⟩
 ·exact⟨m.x0,m.st,G4 _,m.rt,m.ve⟩
 ·exact⟨m.x0,m.st,m.en,FH _,m.ve⟩
 ·exact⟨m.x0,m.st,m.en,m.rt,OD _⟩
 ·exact⟨m.x0,m.st,m.en,m.rt,m.ve⟩
 ·exact⟨m.x0,m.st,m.en,m.rt,m.ve⟩
 ·exact⟨m.x0,m.st,m.en,m.rt,m.ve⟩
 ·exact⟨m.x0,m.st,m.en,m.rt,m.ve⟩
section
variable {c:bm} (h:iz c) (m:mZ c) {i:gw} (hi:sZ i)
include h m hi
theorem Zle:(FJ c i).w (λr=>mZ r.1):=by
 unfold FJ
 refine au (rc hi.a) (au (rc hi.b) ?_)
 repeat'(first
  |refine aa (λ_=>?_) (λ_=>?_)
  |exact bh (LJ m hi.a _) λx hx=>hx.pc _
  |exact aq λx _=>aa (λ_=>m.pc _) (λ_=>m.pc _)
  |exact aq λx hx=>by rw[hx];exact Jf h m _ _
  |exact aq λx hx=>by rw[hx];exact Zrc h m
  |exact au (by have:=hi.jt (by simp_all);simp[bJ];omega) (bh (LJ m hi.a _) λx hx=>hx.pc _)
  |exact bh (yh m _ _) λx hx=>hx.pc _
  |refine au (rc hi.c) ?_
  |exact bh (Zb _ (h.r _) (fm _)) λy hy=>bh (LJ m hi.a _) λx hx=>hx.pc _
  |exact bh (Zb _ (h.r _) (h.r _)) λy hy=>bh (LJ m hi.a _) λx hx=>hx.pc _
  |refine dc ?_)
 all_goals exact m.pc _
theorem yK(hm:fg P mem):(Jh c mem i).w (λr=>mZ r.1):=by
 have w:=TS i.Op
 unfold Jh
 refine au (rc hi.b) (aq λx0 h0=>?_)
 rw[<-h0]at w
 refine bh (OE hm (fm _) w 2) λx1 h1=>aa (λ_=>aq λy hy=>by rw[hy];exact Jf h m _ _) (λ_=>aq λx3 h3=>?_)
 rw[h0,<-h3]at w
 exact bh (Ji h1.2 h1.1 w) λx4 h4=>aa (λ_=>bh (XI h4.1 8) λy hy=>bh (LJ m hi.a _) λx hx=>hx.pc _) (λ_=>bh (LJ m hi.a _) λx hx=>hx.pc _)
theorem vh(hm:fg P mem):(Jj c mem i).w (λr=>mZ r.1):=by
 have w:=TS i.Op
 unfold Jj
 refine au (rc hi.b) (aq λx0 h0=>?_)
 rw[<-h0]at w
 refine bh (OE hm (fm _) w 3) λx1 h1=>aa (λ_=>aq λy hy=>by rw[hy];exact Jf h m _ _) (λ_=>aq λx3 h3=>au (rc hi.a) ?_)
 rw[h0,<-h3]at w
 exact bh (TT h1.2 h1.1 w (h.r _)) λx hx=>m.pc _
end
theorem vK(h:iz c)(m:mZ c)(hm:fg P mem):(FK c mem).w (λr=>mZ r.1):=by
 unfold FK
 refine bh (XJ hm h) λx0 h0=>aa (λ_=>aq λy hy=>by rw[hy];exact Jf h m _ _) (λ_=>bh (XK _) λx2 h2=>aa (λ_=>aq λy hy=>by rw[hy];exact Jf h m _ _) (λhb=>?_))
 have hi:=h2 (by simpa using hb)
 refine aq λx4 _=>?_
 repeat'(first
  |refine aa (λ_=>?_) (λ_=>?_)
  |exact bh (yK h m hi h0.2) λx hx=>hx
  |exact bh (vh h m hi h0.2) λx hx=>hx
  |exact bh (Zle h m hi) λx hx=>hx
  |exact aq λy hy=>by rw[hy];exact Jf h m _ _
  |refine aq λ_ _=>?_)
theorem Zmr(h:iz c){i:gw}(hi:sZ i):(FJ c i).w (λr=>0<=r.2.E0/\r.2.E0<16):=by
 have z:(0:Int)<=0/\(0:Int)<16:=⟨by decide,by decide⟩
 unfold FJ
 refine au (rc hi.a) (au (rc hi.b) ?_)
 repeat'(first
  |refine aa (λ_=>?_) (λ_=>?_)
  |exact bh (Ep h hi.a (fm _)) λx hx=>z
  |exact aq λx _=>aa (λ_=>z) (λ_=>z)
  |exact aq λx hx=>z
  |exact au (by have:=hi.jt (by simp_all);simp[bJ];omega) (bh (Ep h hi.a (h.a _)) λx hx=>z)
  |exact bh (Zpa h _ (h.r _)) λx hx=>z
  |refine au (rc hi.c) ?_
  |exact bh (Zb _ (h.r _) (fm _)) λy hy=>bh (Ep h hi.a hy) λx hx=>z
  |exact bh (Zb _ (h.r _) (h.r _)) λy hy=>bh (Ep h hi.a hy) λx hx=>z
  |refine dc ?_)
 all_goals first|exact z|exact hi.a
theorem Zph(h:iz c)(hm:fg P mem):(FK c mem).w (λr=>0<=r.2.2.E0/\r.2.2.E0<16):=by
 have z:(0:Int)<=0/\(0:Int)<16:=⟨by decide,by decide⟩
 unfold FK
 refine bh (XJ hm h) λx0 h0=>aa (λ_=>aq λy hy=>z) (λ_=>bh (XK _) λx2 h2=>aa (λ_=>aq λy hy=>z) (λhb=>?_))
 have hi:=h2 (by simpa using hb)
 refine aq λx4 _=>?_
 repeat'(first
  |refine aa (λ_=>?_) (λ_=>?_)
  |exact bh (Z5k h hi h0.2) λx hx=>z
  |exact bh (Z19 h hi h0.2) λx hx=>z
  |exact bh (Zmr h hi) λx hx=>hx
  |exact aq λy hy=>z
  |refine aq λ_ _=>?_)
theorem nn{a x:Bool}:(bif a then false else x)=true↔a=false/\x=true:=by cases a<;>simp
theorem G6(m:av):mX m=true↔me m.Mem≠0/\mZ m.B0/\m.A1<=1152921504606846976/\¬(m.A4=true/\m.A6=true)/\sX m=true:=by
 rw[vY]
 unfold FG chain
 rw[nn,nn,nn,nn,nn,nn,nn]
 simp only[decide_eq_false_iff_not,Int.not_lt,beq_eq_false_iff_ne,bne_eq_false_iff_eq,gt_iff_lt]
 constructor
 ·rintro⟨a1,a2,a3,a4,a5,a6,a7,a8⟩
  refine⟨a1,⟨a2,a3,a4,a5,a6⟩,a7,?_,?_⟩
  ·rintro⟨w,h⟩;rw[w,h]at a8;cases a8
  ·revert a8;cases m.A4
   ·exactλh=>h
   ·cases m.A6
    ·exactλh=>h
    ·intro h;cases h
 ·rintro⟨a1,⟨a2,a3,a4,a5,a6⟩,a7,a8,a9⟩
  refine⟨a1,a2,a3,a4,a5,a6,a7,?_⟩
  rw[a9]
  cases hw:m.A4
  ·rfl
  ·cases hh:m.A6
   ·rfl
   ·exact absurd ⟨hw,hh⟩ a8
theorem TU{m:av}(h:AT m=true):mX m=true/\m.A6=false/\m.A1<1152921504606846976:=by
 simp only[AT,Jk,Tree.m,df]at h
 cases h1:mX m
 ·rw[h1]at h;cases h
 ·cases h2:m.A6
  ·rw[h1,h2]at h
   cases h3:LK m
   ·rw[h3]at h
    have h:decide (m.A1<1152921504606846976)=true:=h
    exact⟨rfl,rfl,oY h⟩
   ·rw[h3]at h;cases h
  ·rw[h1,h2]at h;cases h
theorem XL{m:av}(h:rG P m)(g:mZ m.B0):(G7 m).w (λr=>mZ r.B0/\rG P r/\r.Mem=m.Mem/\r.A4=false/\r.A6=m.A6/\r.A1=m.A1/\r.A3=m.A3/\r.A9=m.A9/\r.A7=m.A7/\r.C1=m.C1/\r.A2=m.A2):=by
 obtain⟨h1,h2,h3,h4,h5,h6⟩:=h
 unfold G7
 refine aa (λ_=>⟨g,⟨h1,h2,h3,h4,h5,h6⟩,rfl,rfl,rfl,rfl,rfl,rfl,rfl,rfl,rfl⟩) (λ_=>bh (XM (m:=⟨_,_,_,_,_,_,m.A2,_,_,_⟩) h6) λx0 _=>fi (inv:=λz=>0<=z/\z<=5) (μ:=XN m) ⟨by omega,by omega⟩ (cO _) (λz hz=>?_))
 obtain⟨z1,z2⟩:=hz
 refine aa (λhb=>au (dY z1) (aa (λ_=>aq λx1 hx=>⟨by rw[hx];exact Jf h1 g _ _,⟨by rw[hx];exact G8 h1 _ ey,h2,h3,h4,h5,h6⟩,rfl,rfl,rfl,rfl,rfl,rfl,rfl,rfl,rfl⟩) (λ_=>ea ?_))) (λ_=>⟨g,⟨h1,h2,h3,h4,h5,h6⟩,rfl,rfl,rfl,rfl,rfl,rfl,rfl,rfl,rfl⟩)
 have hb:=oY hb
 show(0<=i64.wrap (z+1)/\i64.wrap (z+1)<=5)/\(5-i64.wrap (z+1)).toNat<(5-z).toNat
 have ew:i64.wrap (z+1)=z+1:=by rw[wrap_i64];omega
 rw[ew];omega
structure Good(P:Nat)(m r:av):Prop where
 ok:rG P r
 lM:0<=r.A1
 may:mX m=true->mX r=true
 or:r=m\/r.A1=m.A1+1
theorem qi{m:av}(h:rG P m)(GO:0<=m.A1)(hk:U clock):(G9 m clock).w (λr=>r.2.length<=1/\Good P m r.1):=by
 have gl:jH m.Mem=m.Mem:=rfl
 unfold G9
 refine cj (sg h.mem) (aq λl hl=>?_)
 rw[gl]at hl;subst hl
 refine cj (Tree.pp (XO (m:=⟨_,_,_,_,_,_,m.A2,_,_,_⟩) h.given)).1 (aq λx1 nP=>aa (λ_=>⟨aT _,h,GO,λh=>h,.inl rfl⟩) (λhb=>?_))
 have hr:AT m=true:=by rw[<-show x1=AT m from nP];simpa using hb
 obtain⟨hm,hh,Ou⟩:=TU hr
 obtain⟨g1,g2,g3,g4,g5⟩:=(G6 m).1 hm
 have hP:(P:Int)≠0:=by rw[<-sf h.mem];exact g1
 have fin:∀(n:av),rG P n->mZ n.B0->sX n=true->n.A1=m.A1->¬(n.A4=true/\n.A6=true)->Good P m {B0:=n.B0,Mem:=n.Mem,A3:=n.A3,A9:=n.A9,A7:=n.A7,C1:=n.C1,A2:=n.A2,A1:=wrap .u64 (n.A1+1),A4:=n.A4,A6:=n.A6}:=λn a b c d e=>by
  have ec:wrap .u64 (n.A1+1)=m.A1+1:=by rw[d,wrap_u64];omega
  refine⟨⟨a.lK,a.mem,a.kQ,a.si,a.target,a.given⟩,?_,λ_=>(G6 _).2 ⟨?_,b,?_,e,c⟩,.inr ec⟩
  ·show 0<=wrap .u64 (n.A1+1);omega
  ·show me n.Mem≠0;rw[sf a.mem];exact hP
  ·show wrap .u64 (n.A1+1)<=_;omega
 refine bh (XL (m:=⟨_,_,m.A3,m.A9,m.A7,m.C1,m.A2,m.A1,m.A4,m.A6⟩) ⟨h.lK,h.mem,h.kQ,h.si,h.target,h.given⟩ g2) λx2 Jl=>?_
 obtain⟨b1,b2,b3,b4,b5,b6,b7,b8,b9,b10,b11⟩:=Jl
 have ex:=Tree.pp (xB b2.lK b2.mem)
 have em:=Tree.pp (vK b2.lK b1 b2.mem)
 have er:=Tree.pp (Zph b2.lK b2.mem)
 refine cj ex.1 (aq λx3 h3=>?_)
 obtain⟨e1,e2,e3⟩:iz x3.1/\fg P x3.2.1/\U x3.2.2.Value:=by rw[h3];exact ex.2
 have f1:mZ x3.1:=by rw[h3];exact em.2
 have r1:0<=x3.2.2.E0/\x3.2.2.E0<16:=by rw[h3];exact er.2
 have XP:rG P ⟨x3.1,x3.2.1,x2.A3,x2.A9,x2.A7,x2.C1,x2.A2,x2.A1,x2.A4,x2.A6⟩:=⟨e1,e2,b2.kQ,b2.si,b2.target,b2.given⟩
 have dev:∀(w h:Bool),sX ⟨x3.1,x3.2.1,x2.A3,x2.A9,x2.A7,x2.C1,x2.A2,x2.A1,w,h⟩=true:=λw hh=>by
  have id:∀{p:Prop},p->p:=λh=>h
  refine LC (m:=m) (P:=P) h.mem e2 ?_ ?_ ?_ ?_ ?_ g5
  ·show _->tR x2.A3=true;rw[b7];exact id
  ·show _->tS x2.A9=true;rw[b8];exact id
  ·show _->kD x2.A7 P=true;rw[b9];exact id
  ·show _->pC x2.C1 P=true;rw[b10];exact id
  ·show _->uM x2.A2 P=true;rw[b11];exact id
 have hw:x2.A4=false:=b4
 have hh2:x2.A6=false:=b5.trans hh
 have CB:x2.A1=m.A1:=b6
 refine aa (λ_=>?_) λ_=>aa (λ_=>?_) λ_=>aa (λ_=>?_) λ_=>aa (λ_=>?_) λ_=>?_
 ·refine bh (Zr1 XP _ hk) λx4 h4=>?_
  obtain⟨k,u⟩:=h4
  have kc:x4.1.B0=x3.1:=k.lK
  have kt:x4.1.A1=m.A1:=k.lM.trans CB
  have kw:¬(x4.1.A4=true/\x4.1.A6=true):=λe=>by have:x4.1.A4=x2.A4:=k.wait;rw[this,hw]at e;cases e.1
  have km:mZ x4.1.B0:=by rw[kc];exact f1
  refine aa (λhn=>au (rc r1) ⟨aT _,?_⟩) (λ_=>⟨aT _,fin x4.1 k.ok km (k.dev (dev _ _)) kt kw⟩)
  have hn:x3.2.2.E0≠0:=by simpa using hn
  obtain⟨q,e⟩:∃q:Nat,x3.2.2.E0.toNat=q+1:=⟨x3.2.2.E0.toNat-1,by omega⟩
  refine fin ⟨⟨gn.of 0 (dG (gn.l x4.1.B0.X) x3.2.2.E0.toNat x4.2),x4.1.B0.Pc,x4.1.B0.B3⟩,x4.1.Mem,x4.1.A3,x4.1.A9,x4.1.A7,x4.1.C1,x4.1.A2,x4.1.A1,x4.1.A4,x4.1.A6⟩ ⟨⟨XQ k.ok.lK.x u _,k.ok.lK.pc,k.ok.lK.jt⟩,k.ok.mem,k.ok.kQ,k.ok.si,k.ok.target,k.ok.given⟩ ⟨?_,km.st,km.en,km.rt,km.ve⟩ (k.dev (dev _ _)) kt kw
  show(gn.of 0 (dG (gn.l x4.1.B0.X) x3.2.2.E0.toNat x4.2)).a0=0
  rw[e]
  exact km.x0
 ·refine bh (Zn1 XP _ e3 _) λx5 h5=>?_
  obtain⟨k,u⟩:=h5
  have kc:x5.1.B0=x3.1:=k.lK
  exact⟨u,fin x5.1 k.ok (by rw[kc];exact f1) (k.dev (dev _ _)) (k.lM.trans CB) (λe=>by have:x5.1.A4=x2.A4:=k.wait;rw[this,hw]at e;cases e.1)⟩
 ·exact⟨aT _,fin ⟨x3.1,x3.2.1,x2.A3,x2.A9,x2.A7,x2.C1,x2.A2,x2.A1,true,x2.A6⟩ ⟨e1,e2,b2.kQ,b2.si,b2.target,b2.given⟩ f1 (dev _ _) CB (λe=>by have e2:x2.A6=true:=e.2;rw[hh2]at e2;cases e2)⟩
 ·exact⟨aT _,fin ⟨x3.1,x3.2.1,x2.A3,x2.A9,x2.A7,x2.C1,x2.A2,x2.A1,x2.A4,true⟩ ⟨e1,e2,b2.kQ,b2.si,b2.target,b2.given⟩ f1 (dev _ _) CB (λe=>by have e2:x2.A4=true:=e.1;rw[hw]at e2;cases e2)⟩
 ·exact⟨aT _,fin ⟨x3.1,x3.2.1,x2.A3,x2.A9,x2.A7,x2.C1,x2.A2,x2.A1,x2.A4,x2.A6⟩ XP f1 (dev _ _) CB (λe=>by have e2:x2.A4=true:=e.1;rw[hw]at e2;cases e2)⟩
theorem Zob{m:av}(h:nN P m)(he:U e.N):(Ha m e).w (λr=>(mX m=true->mX r.1=true)/\r.1.A1=m.A1/\U r.1.A2.C4):=by
 obtain⟨h1,h2,h3,h4,h5,h7⟩:=h
 have gl:jH m.Mem=m.Mem:=rfl
 have pg:∀{m':List Int},fg P m'->me m'=me m.Mem:=λh=>by rw[sf h,sf h2]
 have cy:(mX m=true->mX m=true)/\m.A1=m.A1/\U m.A2.C4:=⟨λh=>h,rfl,h5.2⟩
 unfold Ha
 refine cj (sg h2) (aq λl hl=>?_)
 rw[gl]at hl;subst hl
 refine bh (TV (m:=⟨_,_,_,_,_,_,m.A2,_,_,_⟩) h5.2) λx1 _=>aa (λ_=>cy) λ_=>aa (λ_=>cy) λ_=>?_
 refine aa (λ_=>aa (λ_=>aa (λ_=>aq λx hx=>?_) (λ_=>cy)) (λ_=>cy)) λ_=>aa (λ_=>aa (λ_=>aa (λ_=>bh (qam _ _) λx hx=>?_) (λ_=>cy)) (λ_=>cy)) λ_=>aa (λhk=>bh (Zsk h2 h3 e) λx hx=>?_) λ_=>aa (λhk=>aa (λ_=>bh (yg h2 h4 _) λx hx=>?_) (λ_=>cy)) λ_=>aa (λ_=>aa (λ_=>?_) (λ_=>cy)) (λ_=>cy)
 ·exact⟨Ot rfl rfl rfl rfl rfl (λh=>h) (λh=>by rw[hx];exact xK _ h) (λ_ h=>h) (λ_ h=>h) rfl,rfl,h5.2⟩
 ·exact⟨Ot rfl rfl rfl rfl rfl hx (λh=>h) (λ_ h=>h) (λ_ h=>h) rfl,rfl,h5.2⟩
 ·obtain⟨a1,a2,a3,a4,a5⟩:=hx
  exact⟨Ot (pg a2) rfl rfl rfl rfl (λh=>h) (λh=>h) a5 (λ_ h=>h) rfl,rfl,h5.2⟩
 ·obtain⟨a1,a2,a3,a4,a5⟩:=hx
  exact⟨Ot (pg a2) rfl rfl rfl rfl (λh=>h) (λh=>h) (λ_ h=>h) a5 rfl,rfl,h5.2⟩
 ·exact⟨Ot rfl rfl rfl rfl rfl (λh=>h) (λh=>h) (λ_ h=>h) (λ_ h=>h) rfl,rfl,h5.2⟩
theorem LM(h:U a):(dW 32 a).toNat=a.toNat:=by
 obtain⟨h1,h2⟩:=h
 rw[dX];omega
theorem XR{a b:Int}(ha:U a)(hb:U b):bd .u32 a b=((a.toNat&&&b.toNat:Nat):Int):=by
 have l:=(dW 32 a&&&dW 32 b).isLt
 have e:(dW 32 a&&&dW 32 b).toNat=a.toNat&&&b.toNat:=by rw[eA,LM ha,LM hb]
 show wrap .u32 ((dW 32 a&&&dW 32 b).toNat:Int)=_
 rw[wrap_u32,<-e];omega
theorem zaI{a b:Int}(ha:U a)(hb:U b):ij .u32 a b=((a.toNat|||b.toNat:Nat):Int):=by
 have l:=(dW 32 a|||dW 32 b).isLt
 have e:(dW 32 a|||dW 32 b).toNat=a.toNat|||b.toNat:=by rw[dZ,LM ha,LM hb]
 show wrap .u32 ((dW 32 a|||dW 32 b).toNat:Int)=_
 rw[wrap_u32,<-e];omega
theorem XS(ha:U a)(k:Nat)(hk:k<=32)(hq:q=((2^k-1:Nat):Int)):bd .u32 a q=a%2^k:=by
 have hp:2^k<=2^32:=dT (by decide) hk
 have h1:(2:Nat)^32=4294967296:=by decide
 have uP:=eG k
 subst hq
 rw[XR ha ⟨by omega,by omega⟩,eD,Nat.and_two_pow_sub_one_eq_mod]
 have:=ha.1
 rw[Int.natCast_emod,eH this]
 simp
theorem m15(ha:U a):bd .u32 a 15=a%16:=XS ha 4 (by decide) rfl
theorem CC(ha:U a):bd .u32 a 255=a%256:=XS ha 8 (by decide) rfl
theorem Jm(ha:U a):bd .u32 a 65535=a%65536:=XS ha 16 (by decide) rfl
theorem FL(p:Int->Bool)(N:Nat)(h:(dD N).all (λn=>p n)=true){s:Int}(h0:0<=s)(h1:s<N):p s=true:=by
 have:=List.all_eq_true.1 h s.toNat (List.mem_range.2 (by omega))
 rwa [eH h0]at this
theorem Ef(h0: -9223372036854775808<=x)(h1:x<9223372036854775808):wrap .i64 x=x:=by rw[wrap_i64];omega
theorem OF(a:Int):bg .u32 a 0=a:=by have:=Em (a:=a) 0 (by decide);simpa using this
theorem fld(w:Int):tT w 24 8=bd .u32 (bg .u32 w 24) 255/\tT w 20 4=bd .u32 (bg .u32 w 20) 15/\tT w 16 4=bd .u32 (bg .u32 w 16) 15/\tT w 0 16=bd .u32 (bg .u32 w 0) 65535/\tT w 8 8=bd .u32 (bg .u32 w 8) 255:=
 ⟨by kernel_rfl,by kernel_rfl,by kernel_rfl,by kernel_rfl,by kernel_rfl⟩
def CD(f:Int):Az×Bool:=
 bif f==1 then(⟨false,false,false,0,0⟩,true)else bif f==2 then(⟨true,true,true,0,0⟩,true)else bif f==3 then(⟨true,true,false,-32768,32767⟩,true)
 else bif f==4 then(⟨true,true,false,0,65535⟩,true)else bif f==5 then(⟨true,true,false,0,31⟩,true)else bif f==6 then(⟨true,false,false,0,65535⟩,true)
 else bif f==7 then(⟨true,false,false,-32768,32767⟩,true)else bif f==8 then(⟨true,false,false,0,7⟩,true)else bif f==9 then(⟨true,false,false,0,11⟩,true)else(⟨false,false,false,0,0⟩,false)
def CE(x y:Az×Bool):Bool:=x.1.a==y.1.a&&x.1.b==y.1.b&&x.1.c==y.1.c&&x.1.low==y.1.low&&x.1.D6==y.1.D6&&x.2==y.2
theorem qL{x y:Az×Bool}(h:CE x y=true):x=y:=by
 obtain⟨⟨a,b,c,d,e⟩,f⟩:=x
 obtain⟨⟨a',b',c',d',e'⟩,f'⟩:=y
 simp only[CE,aE,beq_iff_eq]at h
 obtain⟨⟨⟨⟨⟨rfl,rfl⟩,rfl⟩,rfl⟩,rfl⟩,rfl⟩:=h
 rfl
theorem qZ(h0:0<=op)(h1:op<256):TW op=CD (o7 op):=by
 exact qL (FL (λop=>CE (TW op) (CD (o7 op))) 256 (by kernel_rfl) h0 h1)
theorem xi(h0:0<=op)(h1:op<256):o7 op=0\/o7 op=1\/o7 op=2\/o7 op=3\/o7 op=4\/o7 op=5\/o7 op=6\/o7 op=7\/o7 op=8\/o7 op=9:=by
 have:=oY (FL (λop=>decide (0<=o7 op/\o7 op<=9)) 256 (by kernel_rfl) h0 h1)
 omega
theorem zan(h0:0<=op)(h1:op<256):OG op=Hb op:=by
 exact eq_of_beq (FL (λop=>OG op==Hb op) 256 (by kernel_rfl) h0 h1)
theorem xL{a x y:Bool}:(cond a x y=true)↔((a=true/\x=true)\/(a=false/\y=true)):=by cases a<;>simp
theorem XT{i:gw}(h0:0<=i.Op)(h1:i.Op<256)(hi:wrap .i64 i.bo=i.bo):Jn i=Er i:=by
 rw[eI]
 simp only[Jn,OH,Tree.m,df,Er,OI,qZ h0 h1,hi]
 rcases xi h0 h1 with h|h|h|h|h|h|h|h|h|h<;>rw[h]<;>
 simp[CD,LN,TX,LO,TY,XU,XV,Tree.m,df,xL]<;>omega
theorem XW(h0:0<=x)(h1:x<65536):wrap .i32 (Es x 16)=wrap .i32 (wrap .i16 x):=by
 have e:Es x 16=wrap .u32 (bg .i32 (wrap .i32 (ek .u32 x 16)) 16):=by kernel_rfl
 have e2:∀y,bg .i32 y 16=y/65536:=λy=>by
  show eJ y 65536=_
  rw[dP _ (by decide)]
 have e3:ek .u32 x 16=wrap .u32 (x*65536):=rfl
 have e4:wrap .i16 x=(x+32768)%65536-32768:=by
  simp[wrap,IntKind.bits,IntKind.signed]
  split<;>omega
 rw[e,e2,e3,e4]
 simp only[wrap_i32,wrap_u32]
 omega
theorem sx8(h0:0<=x)(h1:x<256):Es x 8=Hc x 8:=by
 exact eq_of_beq (FL (λx=>Es x 8==Hc x 8) 256 (by kernel_rfl) h0 h1)
theorem vi(hw:U w):OJ w=rI w:=by
 obtain⟨f1,f2,f3,f4,_⟩:=fld w
 obtain⟨w0,w1⟩:=hw
 have uO:bg .u32 w 24=w/16777216:=by have:=Em (a:=w) 24 (by decide);simpa using this
 have s20:U (bg .u32 w 20):=AU ⟨w0,w1⟩ _
 have BB:U (bg .u32 w 16):=AU ⟨w0,w1⟩ _
 rw[CC (AU ⟨w0,w1⟩ _),uO]at f1
 rw[m15 s20]at f2
 rw[m15 BB]at f3
 rw[OF]at f4
 have g1:w/16777216%256=w/16777216:=by omega
 rw[g1]at f1
 have o0:0<=w/16777216:=by omega
 have o1:w/16777216<256:=by omega
 have eo:wrap .i64 (w/16777216)=w/16777216:=Ef (by omega) (by omega)
 have i32:∀x,wrap .i64 (wrap .i32 x)=wrap .i32 x:=λx=>by rw[wrap_i64,wrap_i32];omega
 have l0:=Jm ⟨w0,w1⟩
 have lx:=XW (x:=bd .u32 w 65535) (by omega) (by omega)
 simp only[OJ,LP,rI,Hd,Tree.m,df,f1,f2,f3,f4,uO,eo,qZ o0 o1,m15 s20,m15 BB,lx]
 generalize w/16777216=op at*
 generalize wrap .i64 (bg .u32 w 20%16)=a
 generalize wrap .i64 (bg .u32 w 16%16)=b
 generalize bd .u32 w 65535=l
 rw[XT (i:=⟨op,a,b,wrap .i64 l,0⟩) o0 o1 rfl,XT (i:=⟨op,a,b,0,wrap .i32 (wrap .i16 l)⟩) o0 o1 (i32 _),XT (i:=⟨op,a,b,0,wrap .i32 l⟩) o0 o1 (i32 _)]
 rcases xi o0 o1 with h|h|h|h|h|h|h|h|h|h<;>rw[h]<;>rfl
theorem xan(x v:BitVec 32)(s:Nat)(hs:s<=24):((x&&&~~~(255#32<<<s))|||((v&&&255#32)<<<s)).toNat=2^(s+8)*(x.toNat/2^(s+8))+(2^s*(v.toNat%256)+x.toNat%2^s):=by
 have hx:=x.isLt
 have h1:x.toNat%2^s<2^s:=Nat.mod_lt _ (eG s)
 have h2:2^s*(v.toNat%256)+x.toNat%2^s<2^(s+8):=by
  have:v.toNat%256<256:=Nat.mod_lt _ (by decide)
  have h3:2^s*(v.toNat%256)<=2^s*255:=Nat.mul_le_mul_left _ (by omega)
  have:2^(s+8)=2^s*256:=by rw[Nat.pow_add]
  omega
 rw[eK h2,eK h1]
 apply eM
 intro i
 rw[BitVec.testBit_toNat]
 simp only[BitVec.getLsbD_or,BitVec.getLsbD_and,BitVec.getLsbD_not,BitVec.getLsbD_shiftLeft,Nat.testBit_or,Nat.testBit_two_pow_mul,eN,Nat.testBit_div_two_pow,BitVec.getLsbD_ofNat]
 have XX:∀j,eO 255 j=decide (j<8):=λj=>by
  rw[show 255=2^8-1 from rfl,Nat.testBit_two_pow_sub_one]
 have XY:∀n j,eO (n%256) j=(decide (j<8)&&eO n j):=λn j=>by
  rw[show 256=2^8 from rfl,eN]
 rw[XX,XY]
 by_cases hi:i<32
 ·by_cases a1:i<s
  ·have a2:¬(s<=i):=by omega
   have a3:¬(s+8<=i):=by omega
   simp[hi,a1,a2,a3,eQ]
  ·by_cases a4:s+8<=i
   ·have a2:¬(i-s<8):=by omega
    have a5:i-(s+8)+(s+8)=i:=by omega
    have a6:s<=i:=by omega
    simp[hi,a1,a2,a4,a5,a6,eQ]
   ·have a2:(i-s<8):=by omega
    have a6:s<=i:=by omega
    have a7:i-s<32:=by omega
    simp[hi,a1,a2,a4,a6,a7,eQ]
 ·have a0:x.toNat.testBit i=false:=Nat.testBit_lt_two_pow (Nat.lt_of_lt_of_le hx (dT (by decide) (by omega)))
  have a1:¬(i<s):=by omega
  have a2:¬(i-s<8):=by omega
  have a4:s+8<=i:=by omega
  have a5:i-(s+8)+(s+8)=i:=by omega
  simp[hi,a0,a1,a2,a4,a5]
theorem Zas(b:BitVec 32):dW 32 (wrap .u32 (b.toNat:Int))=b:=by
 have:=b.isLt
 rw[wrap_u32]
 apply eR
 rw[dX];omega
theorem Zt5(x:Int):dW 32 (wrap .u32 x)=dW 32 x:=by
 apply eR
 rw[dX,dX,wrap_u32]
 have:((2^32:Nat):Int)=4294967296:=by decide
 rw[this,Int.emod_emod_of_dvd _ (Int.dvd_refl _)]
theorem Zki(hx:U x)(s:Nat)(hs:s<=32):dW 32 (ek .u32 x s)=dW 32 x<<<s:=by
 obtain⟨n,rfl⟩:∃n:Nat,x=n:=⟨x.toNat,by have:=hx.1;omega⟩
 have e:min (dF (s:Int)) u32.bits=s:=by show min (dF (s:Int)) 32=s;omega
 unfold ek
 rw[e,Zt5]
 have e2:((n:Int)*2^s)=((n*2^s:Nat):Int):=by simp
 have:=hx.2
 rw[e2,eS,eS]
 apply eR
 rw[BitVec.toNat_shiftLeft,eT,eT,Nat.shiftLeft_eq,Nat.mod_mul_mod]
def uQ(W v:Int)(s:Nat):Int:=ij .u32 (oa .u32 W (ek .u32 255 s)) (ek .u32 (bd .u32 v 255) s)
theorem qao(hW:U W)(hv:U v)(s:Nat)(hs:s<=24):uQ W v s=2^(s+8)*(W/2^(s+8))+(2^s*(v%256)+W%2^s):=by
 have e:=xan (dW 32 W) (dW 32 v) s hs
 have l:=((dW 32 W&&&~~~(255#32<<<s))|||((dW 32 v&&&255#32)<<<s)).isLt
 have h1:dW 32 (oa .u32 W (ek .u32 255 s))=dW 32 W&&&~~~(255#32<<<s):=by
  show dW 32 (wrap .u32 (dW 32 W&&&~~~dW 32 (ek .u32 255 s)).toNat)=_
  rw[Zas,Zki ⟨by decide,by decide⟩ s (by omega)]
  rfl
 have h2:dW 32 (ek .u32 (bd .u32 v 255) s)=(dW 32 v&&&255#32)<<<s:=by
  rw[Zki (Jo _ _) s (by omega)]
  congr 1
  show dW 32 (wrap .u32 (dW 32 v&&&dW 32 255).toNat)=_
  rw[Zas];rfl
 show wrap .u32 ((dW 32 (oa .u32 W (ek .u32 255 s))|||dW 32 (ek .u32 (bd .u32 v 255) s)).toNat:Int)=_
 rw[h1,h2]
 have lw:wrap .u32 ((((dW 32 W&&&~~~(255#32<<<s))|||((dW 32 v&&&255#32)<<<s)).toNat:Nat):Int)=(((dW 32 W&&&~~~(255#32<<<s))|||((dW 32 v&&&255#32)<<<s)).toNat:Nat):=by rw[wrap_u32];omega
 rw[lw,e,LM hW,LM hv]
 obtain⟨n,rfl⟩:∃n:Nat,W=n:=⟨W.toNat,by have:=hW.1;omega⟩
 obtain⟨k,rfl⟩:∃n:Nat,v=n:=⟨v.toNat,by have:=hv.1;omega⟩
 simp
def s7(w:Int)(k:Nat):Int:=if k=0 then w%256 else if k=1 then w/256%256 else if k=2 then w/65536%256 else w/16777216%256
def lN(m:List Int)(a:Nat):Int:=s7 (m.getD (a/4) 0) (a%4)
theorem qj(w:Int)(k:Nat):0<=s7 w k/\s7 w k<256:=by
 unfold s7
 split
 ·omega
 ·split
  ·omega
  ·split<;>omega
theorem zao(hw:U w)(hv:U v)(h:∀k,k<4->s7 w k=s7 v k):w=v:=by
 have h0:=h 0 (by omega)
 have h1:=h 1 (by omega)
 have h2:=h 2 (by omega)
 have h3:=h 3 (by omega)
 simp[s7]at h0 h1 h2 h3
 obtain⟨a,b⟩:=hw
 obtain⟨c,d⟩:=hv
 omega
theorem Zo{m n:List Int}(hl:m.length=n.length)(hm:∀w∈m,U w)(hn:∀w∈n,U w)(h:∀a,lN m a=lN n a):m=n:=by
 refine bN hl λi h1 h2=>?_
 have e1:m[i]=m.getD i 0:=by simp[aK,h1]
 have e2:n[i]=n.getD i 0:=by simp[aK,h2]
 rw[e1,e2]
 refine zao (AV hm i) (AV hn i) λk hk=>?_
 have:=h (4*i+k)
 simp only[lN]at this
 rwa [show(4*i+k)/4=i by omega,show(4*i+k)%4=k by omega]at this
theorem Qw1{l:List Int}{i:Nat}(h:i<l.length)(v:Int):(l.set i v).getD i 0=v:=by
 simp[aK,h]
theorem XZ{m:List Int}{i:Nat}(hi:i<m.length)(v:Int)(a:Nat):lN (m.set i v) a=if a/4=i then s7 v (a%4)else lN m a:=by
 unfold lN
 split
 ·rename_i h;rw[h,Qw1 hi]
 ·rename_i h;rw[wU _ _ _ _ (λe=>h e.symm)]
theorem xao(hW:U W)(hv:U v){j:Nat}(hj:j<4)(hk:k<4):s7 (uQ W v (8*j)) k=if k=j then v%256 else s7 W k:=by
 have h:=qao hW hv (8*j) (by omega)
 rw[h]
 obtain⟨w0,w1⟩:=hW
 have h0:0<=v%256:=by omega
 have h1:v%256<256:=by omega
 generalize v%256=b at*
 clear h
 have hj:j=0\/j=1\/j=2\/j=3:=by omega
 have hk:k=0\/k=1\/k=2\/k=3:=by omega
 rcases hj with rfl|rfl|rfl|rfl<;>rcases hk with rfl|rfl|rfl|rfl<;>simp[s7]<;>omega
theorem qap{m:List Int}(ha:U a):BC m a 1 v=m.set (a/4).toNat (uQ (m.getD (a/4).toNat 0) v (8*(a%4).toNat)):=by
 obtain⟨a0,a1⟩:=ha
 have e1:wrap .u32 (eU a 4)=a/4:=by rw[wrap_u32,eV a0];omega
 have e2:wrap .u32 (8*dE a 4)=((8*(a%4).toNat:Nat):Int):=by rw[wrap_u32,eF a0];omega
 have e3:((1:Int)==4)=false:=rfl
 simp only[BC,Jp,Tree.m,e1,e2,e3,cond_false]
 rfl
theorem xj{m:List Int}(h:fg P m)(ha:U a)(hl:a<128*P)(hv:U v):fg P (BC m a 1 v)/\∀b:Nat,lN (BC m a 1 v) b=if(b:Int)=a then v%256 else lN m b:=by
 have hlen:=h.len
 have a0:=ha.1
 rw[qap ha]
 have hi:(a/4).toNat<m.length:=by omega
 refine⟨⟨by rw[dH];exact hlen,h.p1,h.p2,Ek h.u (nm _ _) _⟩,λb=>?_⟩
 rw[XZ hi]
 by_cases hb:b/4=(a/4).toNat
 ·rw[if_pos hb,xao (AV h.u _) hv (by omega) (by omega)]
  by_cases hc:b%4=(a%4).toNat
  ·rw[if_pos hc,if_pos (by omega)]
  ·rw[if_neg hc,if_neg (by omega),lN,hb]
 ·rw[if_neg hb,if_neg (by omega)]
theorem xZ{m:List Int}(h:fg P m)(f0:0<=frame)(f1:frame<P)(s:List UInt8):(He m frame s).w (λr=>fg P r/\∀b:Nat,lN r b=if frame*128<=b/\(b:Int)<frame*128+min s.length 128 then((s.getD (b-frame*128).toNat 0).toNat:Int)else lN m b):=by
 unfold He
 have h3:=h.p2
 refine fi (inv:=λz=>0<=z.1/\z.1<=min s.length 128/\fg P z.2/\∀b:Nat,lN z.2 b=if frame*128<=b/\(b:Int)<frame*128+z.1 then((s.getD (b-frame*128).toNat 0).toNat:Int)else lN m b) (μ:=X0 m frame s) ⟨show(0:Int)<=0 by decide,by show(0:Int)<=_;omega,h,λb=>by rw[if_neg];show¬(_/\_<_+(0:Int));omega⟩ (cO _) (λv0 wR=>?_)
 obtain⟨i,mm⟩:=v0
 obtain⟨i0,i1,hm,hy⟩:=wR
 have i0:0<=i:=i0
 have i1:i<=min s.length 128:=i1
 have hm:fg P mm:=hm
 have fin:∀r:List Int,r=mm->i=min s.length 128->fg P r/\∀b:Nat,lN r b=if frame*128<=b/\(b:Int)<frame*128+min s.length 128 then((s.getD (b-frame*128).toNat 0).toNat:Int)else lN m b:=λr hr hi=>by
  subst hr;refine⟨hm,λb=>?_⟩
  rw[hy b];simp only[hi]
 refine aa (λh1=>aa (λh2=>au ?_ ?_) (λh2=>fin mm rfl ?_)) (λh1=>fin mm rfl ?_)
 ·have:=oY h1
  simp[bJ];omega
 ·have h1:i<s.length:=oY h1
  have h2:i<128:=oY h2
  have e:wrap u32 (wrap i64 (wrap i64 (frame*128)+i))=frame*128+i:=by
   rw[wrap_u32,wrap_i64,wrap_i64];omega
  show(Tree.an (TZ mm (wrap u32 (wrap i64 (wrap i64 (frame*128)+i))) 1 _) (Tree.lv _ _)).w _
  rw[e]
  have hu:U (frame*128+i):=⟨by omega,by omega⟩
  have hvU:∀n:Nat,U (wrap .u32 (n:Int)):=λn=>fm _
  obtain⟨g1,_⟩:=Tree.pp (CF hm (size:=1) (addr:=frame*128+i) hu (by rw[hm.len];omega) (hvU (eW (s.getD i.toNat 0))))
  obtain⟨g2,g3⟩:=xj hm hu (by omega) (hvU (eW (s.getD i.toNat 0)))
  refine cj g1 (aq λx0 nO=>?_)
  rw[nO]
  have ew:i64.wrap (i+1)=i+1:=by rw[wrap_i64];omega
  refine ea ?_
  show(0<=i64.wrap (i+1)/\i64.wrap (i+1)<=min s.length 128/\fg P _/\∀b:Nat,lN _ b=if frame*128<=b/\(b:Int)<frame*128+i64.wrap (i+1)then _ else _)/\(128-i64.wrap (i+1)).toNat<(128-i).toNat
  rw[ew]
  refine⟨⟨by omega,by omega,g2,λb=>?_⟩,by omega⟩
  rw[show BC mm (frame*128+i) 1 _=_ from rfl,g3 b]
  by_cases hb:(b:Int)=frame*128+i
  ·rw[if_pos hb,if_pos (by omega),wrap_u32]
   have:=(s.getD i.toNat 0).toNat_lt
   rw[show(b-frame*128).toNat=i.toNat by omega];omega
  ·rw[if_neg hb,hy b]
   show(if frame*128<=(b:Int)/\(b:Int)<frame*128+i then _ else _)=_
   by_cases hc:frame*128<=(b:Int)/\(b:Int)<frame*128+i
   ·rw[if_pos hc,if_pos (by omega)]
   ·rw[if_neg hc,if_neg (by omega)]
 ·have h1:i<s.length:=oY h1
  have h2:¬i<128:=oN h2
  omega
 ·have h1:¬i<s.length:=oN h1
  omega
theorem zj{x y:Int}(hx:U x)(hy:U y)(k:Nat)(hk:x<2^k)(h:x+y*2^k<4294967296):ij .u32 x (y*2^k)=x+y*2^k:=by
 obtain⟨n,rfl⟩:∃n:Nat,x=n:=⟨x.toNat,by have:=hx.1;omega⟩
 obtain⟨z,rfl⟩:∃n:Nat,y=n:=⟨y.toNat,by have:=hy.1;omega⟩
 have e:((z:Int)*2^k)=((z*2^k:Nat):Int):=by simp
 rw[e]at h⊢
 have hn:n<2^k:=by exact_mod_cast hk
 rw[zaI hx ⟨by omega,by omega⟩,eD,eD,Nat.or_comm,Nat.mul_comm,<-eK hn]
 omega
theorem four{a b c d:Int}(ha:0<=a/\a<256)(hb:0<=b/\b<256)(hc:0<=c/\c<256)(hd:0<=d/\d<256):ij .u32 (ij .u32 (ij .u32 (wrap .u32 a) (ek .u32 (wrap .u32 b) 8)) (ek .u32 (wrap .u32 c) 16)) (ek .u32 (wrap .u32 d) 24)=a+b*2^8+c*2^16+d*2^24:=by
 have w:∀{x:Int},0<=x/\x<256->wrap .u32 x=x:=λhx=>by rw[wrap_u32];omega
 have s8:∀{x:Int},0<=x/\x<256->ek .u32 x 8=x*2^8:=fun{x} hx=>by show wrap .u32 (x*2^8)=_;rw[wrap_u32];omega
 have BB:∀{x:Int},0<=x/\x<256->ek .u32 x 16=x*2^16:=fun{x} hx=>by show wrap .u32 (x*2^16)=_;rw[wrap_u32];omega
 have uO:∀{x:Int},0<=x/\x<256->ek .u32 x 24=x*2^24:=fun{x} hx=>by show wrap .u32 (x*2^24)=_;rw[wrap_u32];omega
 rw[w ha,w hb,w hc,w hd,s8 hb,BB hc,uO hd]
 rw[zj ⟨by omega,by omega⟩ ⟨by omega,by omega⟩ 8 (by omega) (by omega),zj ⟨by omega,by omega⟩ ⟨by omega,by omega⟩ 16 (by omega) (by omega),zj ⟨by omega,by omega⟩ ⟨by omega,by omega⟩ 24 (by omega) (by omega)]
theorem zL{a b c d:Int}(ha:0<=a/\a<256)(hb:0<=b/\b<256)(hc:0<=c/\c<256)(hd:0<=d/\d<256)(k:Nat)(hk:k<4):s7 (a+b*2^8+c*2^16+d*2^24) k=if k=0 then a else if k=1 then b else if k=2 then c else d:=by
 have hk:k=0\/k=1\/k=2\/k=3:=by omega
 rcases hk with rfl|rfl|rfl|rfl<;>simp[s7]<;>omega
theorem T0{m:List Int}(h:fg P m)(f:Int):I9 m f=decide (0<=f/\f<P):=by
 have hp:=sf h
 simp only[I9,Oj,Tree.m,df,hp]
 by_cases h1:0<=f
 ·rw[dY h1];simp[h1]
 ·rw[dN h1];simp[h1]
theorem yL(s:List UInt8)(a b k:Nat)(h:k<b):(dB b (dC a s)).getD k 0=s.getD (a+k) 0:=by
 simp[cP,aU,h]
theorem Hf(x:UInt8):0<=(x.toNat:Int)/\(x.toNat:Int)<256:=by have:=x.toNat_lt;omega
theorem X1{m:List Int}(h:fg P m)(f0:0<=f)(f1:f<P)(hs:s.length=128):(GX m f s).w (λr=>r.2=true/\fg P r.1/\∀b:Nat,lN r.1 b=if f*128<=b/\(b:Int)<f*128+128 then((s.getD (b-f*128).toNat 0).toNat:Int)else lN m b):=by
 have gl:jH m=m:=rfl
 have h2:=h.p2
 unfold GX
 refine cj (sg h) (aq λx0 nO=>aq λx1 nP=>?_)
 rw[gl]at nO;subst nO
 rw[T0 h,dY ⟨f0,f1⟩]at nP
 subst nP
 refine aa (λhb=>by cases hb) λ_=>aa (λhb=>by simp[hs]at hb) λ_=>?_
 refine fi (inv:=λz:Int×List Int=>0<=z.1/\z.1<=32/\fg P z.2/\∀b:Nat,lN z.2 b=if f*128<=b/\(b:Int)<f*128+4*z.1 then((s.getD (b-f*128).toNat 0).toNat:Int)else lN x0 b) (μ:=XA x0 f s) ⟨show(0:Int)<=0 by decide,show(0:Int)<=32 by decide,h,λb=>by rw[if_neg];show¬(_/\_<_+4*(0:Int));omega⟩ (cO _) λz ⟨z1,z2,z3,z4⟩=>?_
 refine aa (λhb=>?_) (λhb=>⟨rfl,z3,λb=>?_⟩)
 ·have hb:=oY hb
  have e1:i64.wrap (4*z.1)=4*z.1:=by rw[wrap_i64];omega
  have e2:i64.wrap (i64.wrap (4*z.1)+4)=4*z.1+4:=by rw[wrap_i64,wrap_i64];omega
  have e3:i64.wrap (i64.wrap (f*32)+z.1)=f*32+z.1:=by rw[wrap_i64,wrap_i64];omega
  have hl:=z3.len
  have cut:dF (i64.wrap (i64.wrap (4*z.1)+4))-dF (i64.wrap (4*z.1))=4:=by rw[e2,e1];omega
  have hlen:(dB (dF (i64.wrap (i64.wrap (4*z.1)+4))-dF (i64.wrap (4*z.1))) (dC (dF (i64.wrap (4*z.1))) s)).length=4:=by
   rw[cut,e1,bD,bF];omega
  refine au (dY (by rw[e2,e1];omega)) ?_
  refine au (dY (by rw[hlen];decide)) (au (dY (by rw[hlen];decide)) (au (dY (by rw[hlen];decide)) (au (dY (by rw[hlen];decide)) (au (by rw[e3];simp[bJ];omega) (ea ?_)))))
  have ew:i64.wrap (z.1+1)=z.1+1:=by rw[wrap_i64];omega
  rw[cut]
  refine⟨⟨by show 0<=i64.wrap (z.1+1);rw[ew];omega,by show i64.wrap (z.1+1)<=32;rw[ew];omega,?_,?_⟩,by show(32-i64.wrap (z.1+1)).toNat<(32-z.1).toNat;rw[ew];omega⟩
  ·show fg P (dG _ _ _)
   exact⟨by rw[dH];exact hl,z3.p1,z3.p2,Ek z3.u (nm _ _) _⟩
  ·intro b
   show lN (dG z.2 (dF (i64.wrap (i64.wrap (f*32)+z.1))) _) b=if f*128<=(b:Int)/\(b:Int)<f*128+4*i64.wrap (z.1+1)then _ else _
   rw[e3,ew,four (Hf _) (Hf _) (Hf _) (Hf _),XZ (by omega)]
   have g:∀k:Nat,k<4->(dB 4 (dC (dF (i64.wrap (4*z.1))) s)).getD k 0=s.getD ((4*z.1).toNat+k) 0:=λk hk=>by rw[e1];exact yL _ _ _ _ hk
   by_cases hc:b/4=(f*32+z.1).toNat
   ·have T8:f*128<=(b:Int)/\(b:Int)<f*128+4*(z.1+1):=by omega
    rw[if_pos hc,zL (Hf _) (Hf _) (Hf _) (Hf _) _ (by omega),if_pos T8]
    have hb4:b%4=0\/b%4=1\/b%4=2\/b%4=3:=by omega
    have gi:(b-f*128).toNat=(4*z.1).toNat+b%4:=by omega
    rw[gi]
    rcases hb4 with h4|h4|h4|h4<;>rw[h4]
    ·rw[if_pos rfl,<-g 0 (by omega)];rfl
    ·rw[if_neg (by decide),if_pos rfl,<-g 1 (by omega)];rfl
    ·rw[if_neg (by decide),if_neg (by decide),if_pos rfl,<-g 2 (by omega)];rfl
    ·rw[if_neg (by decide),if_neg (by decide),if_neg (by decide),<-g 3 (by omega)];rfl
   ·rw[if_neg hc,z4 b]
    by_cases hd:f*128<=(b:Int)/\(b:Int)<f*128+4*z.1
    ·rw[if_pos hd,if_pos (by omega)]
    ·rw[if_neg hd,if_neg (by omega)]
 ·have hb:=oN hb
  show lN z.2 b=_
  rw[z4 b,show z.1=32 by omega]
  rfl
theorem X2{α:Type}(l l2:List α)(k:Nat)(z:α):(l++l2).getD k z=if k<l.length then l.getD k z else l2.getD (k-l.length) z:=by
 simp only[cP,List.getElem?_append]
 split<;>rfl
theorem u8w:wrap .u8 x=x%256:=wrap_u8 x
theorem Hg(W:Int):bg .u32 W 8=W/256/\bg .u32 W 16=W/65536/\bg .u32 W 24=W/16777216:=by
 refine⟨?_,?_,?_⟩
 ·show eJ W 256=_;rw[dP _ (by decide)]
 ·show eJ W 65536=_;rw[dP _ (by decide)]
 ·show eJ W 16777216=_;rw[dP _ (by decide)]
theorem b4d(W:Int)(hk:k<4):[wrap .u8 W,wrap .u8 (bg .u32 W 8),wrap .u8 (bg .u32 W 16),wrap .u8 (bg .u32 W 24)].getD k 0=s7 W k:=by
 obtain⟨a,b,c⟩:=Hg W
 have hk:k=0\/k=1\/k=2\/k=3:=by omega
 rcases hk with rfl|rfl|rfl|rfl<;>simp[s7,a,b,c,u8w]
theorem X3(l:List Int)(k:Nat)(h:0<=l.getD k 0/\l.getD k 0<256)(hk:k<l.length):(((bytesOf l).getD k 0).toNat:Int)=l.getD k 0:=by
 have e:(bytesOf l).getD k 0=eY (l.getD k 0).toNat:=by
  simp[bytesOf,cP,hk]
 rw[e,UInt8.toNat_ofNat']
 omega
theorem Zlv(l:List UInt8)(k:Nat)(hk:k<l.length):(iW l).getD k 0=((l.getD k 0).toNat:Int):=by
 simp[iW,cP,hk]
theorem xaI(w:List Int)(h:w.length<=32):(FE w).w (λr=>r.length=4*w.length/\∀k:Nat,k<4*w.length->((r.getD k 0).toNat:Int)=s7 (w.getD (k/4) 0) (k%4)):=by
 have e0:i64.wrap (4*(w.length:Int))=4*w.length:=by rw[wrap_i64];omega
 unfold FE
 refine au (by rw[e0];simp[bJ,D.plain];omega) ?_
 refine fi (inv:=λz:Int×List Int=>0<=z.1/\z.1<=w.length/\(z.2.length:Int)=4*z.1/\∀k:Nat,(k:Int)<4*z.1->z.2.getD k 0=s7 (w.getD (k/4) 0) (k%4)) (μ:=Ok w) ⟨by decide,by show(0:Int)<=w.length;omega,rfl,λk hk=>by have hk:(k:Int)<4*0:=hk;omega⟩ (cO _) λz ⟨z1,z2,z3,z4⟩=>?_
 refine aa (λhb=>?_) (λhb=>?_)
 ·have hb:=oY hb
  have ew:i64.wrap (z.1+1)=z.1+1:=by rw[wrap_i64];omega
  refine au (by simp[bJ];omega) (au (dY (by omega)) (ea ?_))
  show(_/\_/\_/\∀k:Nat,(k:Int)<4*i64.wrap (z.1+1)->(z.2++_).getD k 0=_)/\(_:Nat)<_
  refine⟨⟨by rw[ew];omega,by rw[ew];omega,by rw[ew,lA];simp only[dI,dJ];omega,λk hk=>?_⟩,by show(w.length-i64.wrap (z.1+1)).toNat<(w.length-z.1).toNat;rw[ew];omega⟩
  rw[ew]at hk
  rw[X2]
  split
  ·exact z4 k (by omega)
  ·rename_i hn
   rw[b4d _ (by omega),show z.1.toNat=k/4 by omega,show k-z.2.length=k%4 by omega]
 ·have hb:=oN hb
  show(bytesOf z.2).length=_/\∀k:Nat,_->(((bytesOf z.2).getD k 0).toNat:Int)=_
  refine⟨by rw[Ol];omega,λk hk=>?_⟩
  have e:=z4 k (by omega)
  have:=qj (w.getD (k/4) 0) (k%4)
  rw[X3 _ _ (by rw[e];exact this) (by omega),e]
def AW(m:List Int)(f:Int)(r:List UInt8):Prop:=r.length=128/\∀k:Nat,k<128->((r.getD k 0).toNat:Int)=lN m ((f*128).toNat+k)
theorem qaJ{m:List Int}(a:AW m f r)(b:AW m f s):r=s:=by
 obtain⟨a1,a2⟩:=a
 obtain⟨b1,b2⟩:=b
 refine bN (by omega) λi h1 h2=>?_
 have e:=(a2 i (by omega)).trans (b2 i (by omega)).symm
 have e1:r[i]=r.getD i 0:=by simp[aK,h1]
 have e2:s[i]=s.getD i 0:=by simp[aK,h2]
 rw[e1,e2]
 exact UInt8.toNat_inj.1 (by omega)
theorem yj{m:List Int}(h:fg P m)(f0:0<=f)(f1:f<P):(GY m f).w (λr=>AW m f r.1/\r.2=true):=by
 have hl:=h.len
 have h2:=h.p2
 unfold GY
 refine aq λx0 nO=>?_
 rw[T0 h,dY ⟨f0,f1⟩]at nO
 subst nO
 refine aa (λhb=>by cases hb) (λhb=>?_)
 have e1:i64.wrap (f*32)=f*32:=by rw[wrap_i64];omega
 have e2:i64.wrap (i64.wrap (f*32)+32)=f*32+32:=by rw[wrap_i64,wrap_i64];omega
 have cut:dF (i64.wrap (i64.wrap (f*32)+32))-dF (i64.wrap (f*32))=32:=by rw[e2,e1];omega
 have hlen:(dB 32 (dC (dF (i64.wrap (f*32))) m)).length=32:=by
  rw[e1,bD,bF];omega
 refine au (by rw[e2,e1];simp[bJ];omega) ?_
 rw[cut]
 refine cj (by show dK _<=1000000000000;rw[hlen];decide) (aq λx1 h1=>?_)
 have t:=(Tree.pp (xaI _ (dL hlen))).2
 rw[hlen,show(FE (dB 32 (dC (dF (i64.wrap (f*32))) m))).m=x1 from h1.symm]at t
 refine⟨⟨t.1,λk hk=>?_⟩,rfl⟩
 show((x1.getD k 0).toNat:Int)=_
 rw[t.2 k hk,lN,e1]
 have g:(dB 32 (dC (dF (f*32)) m)).getD (k/4) 0=m.getD ((f*32).toNat+k/4) 0:=by
  simp[cP,aU,show k/4<32 by omega]
 rw[g,show((f*128).toNat+k)/4=(f*32).toNat+k/4 by omega,show((f*128).toNat+k)%4=k%4 by omega]
theorem zaJ(x:Int):X4 x 4=bytesOf [wrap .u8 (bg .u32 x 0),wrap .u8 (bg .u32 x 8),wrap .u8 (bg .u32 x 16),wrap .u8 (bg .u32 x 24)]:=by kernel_rfl
theorem zap{m:List Int}(hm:fg P m)(f0:0<=frame)(f1:frame<P):(Hh m frame).w (λr=>AW m frame r.1/\r.2=true):=by
 have hp:=Et hm
 have hl:=hm.len
 have h2:=hm.p2
 unfold Hh
 refine aa (λh=>by have:=oY h;omega) (λh=>aq λx0 hx=>aa (λh1=>by have:=oY h1;rw[hx,hp]at this;omega) (λh1=>?_))
 refine fi (inv:=λz:Int×List Int=>0<=z.1/\z.1<=32/\(z.2.length:Int)=4*z.1/\∀k:Nat,(k:Int)<4*z.1->z.2.getD k 0=lN m ((frame*128).toNat+k)) (μ:=X5 m frame) ⟨by decide,by decide,rfl,λk hk=>by have hk:(k:Int)<4*0:=hk;omega⟩ (cO _) (λz hz=>?_)
 obtain⟨z1,z2,z3,z4⟩:=hz
 refine aa (λhb=>?_) (λhb=>?_)
 ·have hb:=oY hb
  have e:wrap i64 (wrap i64 (frame*32)+z.1)=frame*32+z.1:=by rw[wrap_i64,wrap_i64];omega
  refine au (by rw[e];simp[bJ];omega) (cj (show(4:Int)<=1000000000000 by decide) (aq λx1 h4=>?_))
  rw[zaJ,OF,e]at h4
  have l4:x1.length=4:=by rw[h4];rfl
  refine au (dY (by rw[T9,l4];omega)) (ea ?_)
  show(0<=i64.wrap (z.1+1)/\i64.wrap (z.1+1)<=32/\((z.2++iW x1).length:Int)=4*i64.wrap (z.1+1)/\∀k:Nat,(k:Int)<4*i64.wrap (z.1+1)->(z.2++iW x1).getD k 0=_)/\(32-i64.wrap (z.1+1)).toNat<(32-z.1).toNat
  have ew:i64.wrap (z.1+1)=z.1+1:=by rw[wrap_i64];omega
  rw[ew]
  refine⟨⟨by omega,by omega,by rw[lA,T9,l4];omega,λk hk=>?_⟩,by omega⟩
  rw[X2]
  split
  ·exact z4 k (by omega)
  ·rename_i hn
   have Eu:k-z.2.length<4:=by omega
   rw[Zlv _ _ (by omega),h4]
   have d:=b4d (m.getD (frame*32+z.1).toNat 0) Eu
   rw[X3 _ _ (by rw[d];exact qj _ _) (by simpa using Eu),d,lN]
   rw[show((frame*128).toNat+k)/4=(frame*32+z.1).toNat by omega,show((frame*128).toNat+k)%4=k-z.2.length by omega]
 ·have hb:=oN hb
  refine⟨⟨?_,λk hk=>?_⟩,rfl⟩
  ·show(bytesOf z.2).length=128
   rw[Ol];omega
  ·show(((bytesOf z.2).getD k 0).toNat:Int)=_
   have e:=z4 k (by omega)
   rw[X3 _ _ (by rw[e];exact qj _ _) (by omega),e]
theorem Zgz{m:List Int}(h:fg P m)(f:Int):Ev m f=LQ m f:=by
 by_cases hf:0<=f/\f<P
 ·have a:=(Tree.pp (yj h hf.1 hf.2)).2
  have b:=(Tree.pp (zap h hf.1 hf.2)).2
  exact eZ (qaJ a.1 b.1) (a.2.trans b.2.symm)
 ·have hp:=Et h
  have e1:Ev m f=([],false):=by
   simp only[Ev,GY,Tree.m,df,T0 h,dN hf];rfl
  have e2:LQ m f=([],false):=by
   simp only[LQ,Hh,Tree.m,df,hp]
   by_cases h0:f<0
   ·rw[dY h0];rfl
   ·rw[dN h0,dY (show f>=P by omega)];rfl
  rw[e1,e2]
section
variable {P:Nat} {m:List Int} (h:fg P m)
include h
theorem Zh1(f0:0<=f)(f1:f<P)(hs:s.length=128):Ew m f s=(OK m f s,true):=by
 have a:=(Tree.pp (X1 h f0 f1 hs)).2
 have b:=(Tree.pp (xZ h f0 f1 s)).2
 refine eZ (Zo (a.2.1.len.trans b.1.len.symm) a.2.1.u b.1.u λk=>?_) a.1
 have e:((min s.length 128:Nat):Int)=128:=by rw[hs];rfl
 have b2:=b.2 k
 have a2:=a.2.2 k
 rw[e]at b2
 exact a2.trans b2.symm
theorem Zj7(f0:0<=f)(f1:f<P)(hs:s.length<=128)(hr:AW m f r):Ew m f (s++r.drop s.length)=(OK m f s,true):=by
 have hl:(s++r.drop s.length).length=128:=by have:=hr.1;simp;omega
 have a:=(Tree.pp (X1 h f0 f1 hl)).2
 have b:=(Tree.pp (xZ h f0 f1 s)).2
 refine eZ (Zo (a.2.1.len.trans b.1.len.symm) a.2.1.u b.1.u λk=>?_) a.1
 have b2:=b.2 k
 have a2:=a.2.2 k
 refine a2.trans (Eq.trans ?_ b2.symm)
 by_cases hc:f*128<=(k:Int)/\(k:Int)<f*128+128
 ·rw [if_pos hc,X2]
  by_cases hd:(k-f*128).toNat<s.length
  ·rw[if_pos hd,if_pos (by omega)]
  ·rw[if_neg hd,if_neg (by omega)]
   have e:(r.drop s.length).getD ((k-f*128).toNat-s.length) 0=r.getD (k-f*128).toNat 0:=by
    simp[cP,show s.length+((k-f*128).toNat-s.length)=(k-f*128).toNat by omega]
   rw[e,hr.2 _ (by omega),show(f*128).toNat+(k-f*128).toNat=k by omega]
 ·rw[if_neg hc,if_neg (by omega)]
theorem LR(ha:U a)(hs:size=1\/size=4):sj m a size=decide (a%size=0/\a<128*P):=by
 have hq:=Et h
 have h2:=h.p2
 have a0:=ha.1
 have e:wrap u32 size=size:=by rcases hs with rfl|rfl<;>decide
 have e0:decide (wrap u32 size≠0)=true:=by rcases hs with rfl|rfl<;>decide
 have t:dE a (wrap u32 size)=a%size:=by rw[e,eF a0]
 have l:∀x,x=wX m->a%size=0->decide (a<wrap u32 (wrap i64 (128*x)))=decide (a%size=0/\a<128*P):=λx hx hz=>by
  rw[hx,hq,wrap_u32,wrap_i64]
  exact decide_eq_decide.2 ⟨λh=>⟨hz,by omega⟩,λh=>by omega⟩
 refine Tree.post (Jq m a size) (W:=λb=>b=decide (a%size=0/\a<128*P)) ?_
 unfold Jq
 refine aa (λh1=>aa (λh4=>?_) (λ_=>?_)) (λ_=>?_)
 ·have h1:¬size=1:=by simpa using h1
  have h4:¬size=4:=by simpa using h4
  omega
 all_goals
  refine au e0 (aa (λhb=>aq λx hx=>l x hx ?_) (λhb=>?_))
  ·rw[t]at hb;exact eq_of_beq hb
  ·rw[t]at hb
   exact(dN (λh=>by rw[h.1]at hb;cases hb)).symm
theorem Z7b(ha:U a)(hs:size=1\/size=4):X6 m a size=sj m a size:=by
 rw[LR h ha hs]
 have hq:=X7 h
 have h2:=h.p2
 have a0:=ha.1
 have a1:=ha.2
 have e:wrap u32 size=size:=by rcases hs with rfl|rfl<;>decide
 have e0:decide (wrap u32 size≠0)=true:=by rcases hs with rfl|rfl<;>decide
 have t:dE a (wrap u32 size)=a%size:=by rw[e,eF a0]
 have l:∀x,x=me m->a%size=0->decide (wrap u64 (wrap u64 a+wrap u64 size)<=wrap u64 (wrap u64 x*128))=decide (a%size=0/\a<128*P):=λx hx hz=>by
  rw[hx,hq]
  simp only[wrap_u64]
  refine decide_eq_decide.2 ⟨λh=>⟨hz,?_⟩,λh=>?_⟩<;>rcases hs with rfl|rfl<;>omega
 refine Tree.post (Jr m a size) (W:=λb=>b=decide (a%size=0/\a<128*P)) ?_
 unfold Jr
 refine aa (λh1=>aa (λh4=>?_) (λ_=>?_)) (λ_=>?_)
 ·have h1:¬size=1:=by simpa using h1
  have h4:¬size=4:=by simpa using h4
  omega
 all_goals
  refine au e0 (aa (λhb=>?_) (λhb=>aq λx hx=>l x hx ?_))
  ·rw[t]at hb
   exact(dN (λh=>by rw[h.1]at hb;cases hb)).symm
  ·rw[t]at hb;simpa using hb
end
theorem X8(w:Int):tT w 0 8=bd .u32 (bg .u32 w 0) 255/\tT w 8 8=bd .u32 (bg .u32 w 8) 255/\tT w 16 8=bd .u32 (bg .u32 w 16) 255/\tT w 24 8=bd .u32 (bg .u32 w 24) 255:=
 ⟨by kernel_rfl,by kernel_rfl,by kernel_rfl,by kernel_rfl⟩
theorem X9(w v:Int):LS w 0 8 v=uQ w v 0/\LS w 8 8 v=uQ w v 8/\LS w 16 8 v=uQ w v 16/\LS w 24 8 v=uQ w v 24:=
 ⟨by kernel_rfl,by kernel_rfl,by kernel_rfl,by kernel_rfl⟩
theorem vj(ha:U a):wrap .i64 (wrap .i64 (dE a 4)*8)=8*(a%4)/\wrap .u32 (8*dE a 4)=8*(a%4):=by
 obtain⟨a0,a1⟩:=ha
 rw[eF a0]
 exact⟨by rw[wrap_i64,wrap_i64];omega,by rw[wrap_u32];omega⟩
section
variable {P:Nat} {m:List Int} (h:fg P m)
include h
theorem OL(ha:U a)(hs:size=1\/size=4):CG m a size=kW m a size:=by
 have e:=Z7b h ha hs
 obtain⟨s1,s2⟩:=vj ha
 have f:tT (m.getD (dF (wrap .u32 (eU a 4))) 0) (8*(a%4)) 8=bd .u32 (bg .u32 (m.getD (dF (wrap .u32 (eU a 4))) 0) (8*(a%4))) 255:=by
  obtain⟨f0,f1,f2,f3⟩:=X8 (m.getD (dF (wrap .u32 (eU a 4))) 0)
  have:a%4=0\/a%4=1\/a%4=2\/a%4=3:=by omega
  rcases this with h|h|h|h<;>rw[h]
  ·exact f0
  ·exact f1
  ·exact f2
  ·exact f3
 simp only[CG,LU,kW,AX,Tree.m,df,e,s1,s2,f]
omit h in
theorem Ya(a size:Int):(kW m a size).2=sj m a size:=by
 simp only[kW,AX,Tree.m,df]
 cases sj m a size
 ·rfl
 ·cases size==1<;>rfl
theorem Za1(ha:U a)(hs:size=1\/size=4)(v:Int):LV m a size v=bif sj m a size then(BC m a size v,true)else(m,false):=by
 have gl:jH m=m:=rfl
 have e:=Z7b h ha hs
 obtain⟨s1,s2⟩:=vj ha
 have f:∀w,LS w (8*(a%4)) 8 v=ij .u32 (oa .u32 w (ek .u32 255 (8*(a%4)))) (ek .u32 (bd .u32 v 255) (8*(a%4))):=λw=>by
  obtain⟨f0,f1,f2,f3⟩:=X9 w v
  have:a%4=0\/a%4=1\/a%4=2\/a%4=3:=by omega
  rcases this with h|h|h|h<;>rw[h]
  ·exact f0
  ·exact f1
  ·exact f2
  ·exact f3
 simp only[LV,LW,BC,Jp,Tree.m,df,gl,e,s1,s2,f]
 rcases hs with rfl|rfl<;>cases sj m a _<;>rfl
end
section
variable {P:Nat} {m:List Int} (h:fg P m)
include h
theorem qk{root va:Int}(hr:U root)(hv:U va)(ha:access=1\/access=2\/access=3):Ua m root va access=AY m root va access:=by
 have hp:=Et h
 have h2:=h.p2
 have hlen:=h.len
 obtain⟨r1,r2⟩:=hr
 obtain⟨v1,v2⟩:=hv
 have Jd:∀{f:Int},U f->OM m f=decide (f<P):=λhf=>zU h hf
 have eP:wrap .u32 (P:Int)=P:=by rw[wrap_u32];omega
 have kn:LX access=true:=by rcases ha with rfl|rfl|rfl<;>rfl
 have ca:Qky access=(tU access,true):=by rcases ha with rfl|rfl|rfl<;>rfl
 simp only[Ua,LY,AY,Hi,Tree.m,df,hp,eP,kn,ca,Jd ⟨r1,r2⟩]
 by_cases c1:va>=4096
 ·rw[dY c1];rfl
 by_cases c2:root<P
 ·have eE:wrap u32 (wrap u32 (root*128)+wrap u32 (4*wrap u32 (eU va 128)))=root*128+4*(va/128):=by
   rw[eV v1,wrap_u32,wrap_u32,wrap_u32,wrap_u32];omega
  have hE:U (root*128+4*(va/128)):=⟨by omega,by omega⟩
  have wi:sj m (root*128+4*(va/128)) 4=true:=by
   rw[LR h hE (.inr rfl)];exact dY ⟨by omega,by omega⟩
  rw[dN c1,dY c2,dN (show¬root>=P by omega),eE,OL h hE (.inr rfl),Ya,wi]
  have ld:(kW m (root*128+4*(va/128)) 4).1=m.getD (dF (wrap .u32 (eU (root*128+4*(va/128)) 4))) 0:=by
   simp only[kW,AX,Tree.m,df,wi];rfl
  rw[ld]
  generalize m.getD (dF (wrap .u32 (eU (root*128+4*(va/128)) 4))) 0=w
  have fo:Yb w=bd .u32 (bg .u32 w 8) 255:=(fld w).2.2.2.2
  rw[fo,Jd (Jo _ _)]
  have pV:decide (bd .u32 (bg .u32 w 8) 255>=(P:Int))=!decide (bd .u32 (bg .u32 w 8) 255<(P:Int)):=by
   by_cases hq:bd .u32 (bg .u32 w 8) 255<(P:Int)
   ·rw[dY hq,dN (by omega)];rfl
   ·rw[dN hq,dY (by omega)];rfl
  rw[pV]
  generalize decide (bd .u32 (bg .u32 w 8) 255<(P:Int))=d
  rcases ha with rfl|rfl|rfl
  ·show _=(bif bd .u32 w 1==0 then _ else bif bd .u32 w 4==0 then _ else bif !d then _ else _)
   have:Ub w 1=(bif bd .u32 w 1==0 then false else !(bd .u32 w 4==0)):=rfl
   rw[this]
   cases bd .u32 w 1==0<;>cases bd .u32 w 4==0<;>cases d<;>rfl
  ·show _=(bif bd .u32 w 1==0 then _ else bif !d then _ else _)
   have:Ub w 2=(bif bd .u32 w 1==0 then false else true):=rfl
   rw[this]
   cases bd .u32 w 1==0<;>cases d<;>rfl
  ·show _=(bif bd .u32 w 1==0 then _ else bif bd .u32 w 2==0 then _ else bif !d then _ else _)
   have:Ub w 3=(bif bd .u32 w 1==0 then false else !(bd .u32 w 2==0)):=rfl
   rw[this]
   cases bd .u32 w 1==0<;>cases bd .u32 w 2==0<;>cases d<;>rfl
 ·rw[dN c1,dN c2,dY (show root>=P by omega)];rfl
theorem Zsm(ha:U a)(access:Int):ON m a access=Uc m a access:=by
 have gl:jH m=m:=rfl
 have hl:=h.len
 have a0:=ha.1
 simp only[ON,LZ,Uc,L0,Tree.m,df,OL h ha (.inr rfl),Ya,Za1 h ha (.inr rfl),gl]
 cases hw:sj m a 4
 ·rfl
 ·rw[LR h ha (.inr rfl)]at hw
  have hw:=oY hw
  have wi:sj m a 4=true:=by rw[LR h ha (.inr rfl)];exact dY hw
  have ld:(kW m a 4).1=m.getD (dF (wrap .u32 (eU a 4))) 0:=by
   simp only[kW,AX,Tree.m,df,wi];rfl
  have pu:∀v,BC m a 4 v=m.set (dF (wrap .u32 (eU a 4))) v:=λv=>rfl
  rw[ld,pu,pu]
  have hi:dF (wrap .u32 (eU a 4))<m.length:=by
   rw[eV a0,wrap_u32];omega
  generalize dF (wrap .u32 (eU a 4))=i at*
  rw[Qw1 hi,List.set_set]
  rfl
end
theorem OO(h0:0<=c.B3.a0)(h:c.B3.a0<=31)(k b:Int):rH c k b=rb c k b:=by
 have e:=eq_of_beq (FL (λs=>oa .u32 (ij .u32 (AS (AS s 1 8) 2 16) 1) 2==ij .u32 (oa .u32 (ij .u32 (ij .u32 (oa .u32 s 24) (wrap .u32 (8*CH (bd .u32 s 1 !=0)))) (wrap .u32 (16*CH (bd .u32 s 2 !=0)))) 2) 1) 32 (by kernel_rfl) h0 (by omega))
 simp only[rH,Ql,rb,OP,Tree.m,df,e]
theorem Zmb(h0:0<=c.B3.a0)(h:c.B3.a0<=31):LI c=Ud c:=by
 have e:=eq_of_beq (FL (λs=>AS (AS s 8 1) 16 2==ij .u32 (ij .u32 (oa .u32 s 3) (wrap .u32 (1*CH (bd .u32 s 8 !=0)))) (wrap .u32 (2*CH (bd .u32 s 16 !=0)))) 32 (by kernel_rfl) h0 (by omega))
 simp only[LI,OQ,Ud,OR,Tree.m,df,e]
theorem Zbc(h0:0<=c.B3.a0)(h:c.B3.a0<=31):Ue c=(!Hj c&&(bd .u32 c.B3.a0 4 !=0)):=
 eq_of_beq (FL (λs=>(bd .u32 s 5==4)==(!(bd .u32 s 1 !=0)&&(bd .u32 s 4 !=0))) 32 (by kernel_rfl) h0 (by omega))
theorem Uf(c:bm){r:Int}(hr:0<=r/\r<16)(v:Int):uR c r v=lO c r v:=by
 simp only[uR,FI,lO,Js,Tree.m]
 by_cases h:r=0
 ·subst h;rfl
 ·rw[dY (show r>0 by omega),dY hr.2,show(r !=0)=true by simpa using h];rfl
theorem vL{a b:Int}(ha:U a)(hb:U b):L1 a b=L2 a b:=by
 obtain⟨a0,a1⟩:=ha
 obtain⟨b0,b1⟩:=hb
 have i:∀x,wrap .i64 (wrap .i32 x)=wrap .i32 x:=λx=>by rw[wrap_i64,wrap_i32];omega
 have r32:∀x,-2147483648<=wrap .i32 x/\wrap .i32 x<2147483648:=λx=>by rw[wrap_i32];omega
 have q32:∀x y:Int,-2147483648<=x/\x<2147483648-> -2147483648<=eU x y/\eU x y<=2147483648:=λx y hx=>by
  have h1:(eU x y).natAbs<=x.natAbs:=by rw[Int.natAbs_tdiv];exact Nat.div_le_self _ _
  omega
 simp only[L1,L3,L2,L4,Tree.m,i]
 cases hb:b==0
 ·have w:∀z,wrap .u32 (wrap .i32 z)=wrap .u32 z:=λz=>by rw[wrap_i32,wrap_u32,wrap_u32];omega
  have w2:wrap .i64 (eU (wrap .i32 a) (wrap .i32 b))=eU (wrap .i32 a) (wrap .i32 b):=by
   have:=q32 _ (wrap .i32 b) (r32 a)
   rw[wrap_i64];omega
  rw[w,w2]
  cases h1:a==2147483648
  ·rfl
  ·cases h2:b==4294967295
   ·rfl
   ·have h1:=eq_of_beq h1
    have h2:=eq_of_beq h2
    subst h1;subst h2
    rfl
 ·rfl
theorem qM{op a b:Int}(h0:1<=op)(h1:op<=23)(ha:U a)(hb:U b):nQ op a b=Ey op a b:=by
 have sub:wrap .u32 (a+wrap .u32 (0-b))=wrap .u32 (a-b):=by
  rw[wrap_u32,wrap_u32,wrap_u32];omega
 have r8:op=1\/op=2\/op=3\/op=4\/op=5\/op=6\/op=7\/op=8\/op=9\/op=10\/op=11\/op=12\/op=13\/op=14\/op=15\/op=16\/op=17\/op=18\/op=19\/op=20\/op=21\/op=22\/op=23:=by omega
 have d:=vL ha hb
 rcases r8 with rfl|rfl|rfl|rfl|rfl|rfl|rfl|rfl|rfl|rfl|rfl|rfl|rfl|rfl|rfl|rfl|rfl|rfl|rfl|rfl|rfl|rfl|rfl
 ·rfl
 ·show(wrap .u32 (a+wrap .u32 (0-b)),true)=(wrap .u32 (a-b),true)
  rw[sub]
 ·rfl
 ·rfl
 ·rfl
 ·rfl
 ·rfl
 ·rfl
 ·rfl
 ·show((L1 a b).1,true)=((L2 a b).1,true)
  rw[d]
 ·show((L1 a b).2,true)=((L2 a b).2,true)
  rw[d]
 all_goals rfl
theorem Yc{m:List Int}(h:fg P m)(hc:iz c)(jZ:c.B3.a0<=31){va:Int}(hv:U va)(hs:size=1\/size=4)(ha:access=1\/access=2\/access=3):Q2 c m va size access=((lP c m va size access).1,(lP c m va size access).2.2,(lP c m va size access).2.1):=by
 have gl:jH m=m:=rfl
 have kn:LX access=true:=by rcases ha with rfl|rfl|rfl<;>rfl
 have ca:Qu1 access=(tU access,true):=by rcases ha with rfl|rfl|rfl<;>rfl
 have pg:=Zbc hc.a0.1 jZ
 have wk:=qk h hc.a6 hv ha
 have tc:ON m (AY m c.B3.a6 va access).F3 access=Uc m (AY m c.B3.a6 va access).F3 access:=Zsm h (Tree.pp (xac h hc.a6 hv access)).2.2.1 access
 have sz:(bif size !=1 then bif size !=4 then false else true else true)=true:=by rcases hs with rfl|rfl<;>rfl
 simp only[Q2,L5,lP,Hk,Tree.m,df,gl,kn,ca,pg,wk,tc,OL h hv hs,Ya]
 rcases hs with rfl|rfl<;>
 ·show(bif _ then _ else _)=_
  cases dE va _ !=0<;>cases Hj c<;>cases bd .u32 c.B3.a0 4 !=0<;>cases(AY m c.B3.a6 va access).F1 !=0<;>cases sj m va _<;>rfl
theorem Yd{α:Type}{Q:α->Prop}{c:Bool}{x y:α}(hx:Q x)(hy:Q y):Q (cond c x y):=by cases c<;>assumption
theorem xap(m:List Int)(root:Int){va:Int}(hv:U va)(access:Int):(AY m root va access).F1=0->(AY m root va access).Addr%4=va%4:=by
 have hc:tU access≠0:=by
   simp only[tU,L6,Tree.m]
   cases access==1<;>cases access==3<;>simp
 have q :(λt:rY=>t.F1=0->t.Addr%4=va%4) (AY m root va access):=by
   simp only[AY,Hi,Tree.m,df]
   repeat'(first
     |exact λe=>absurd e hc
     | (intro _
        show wrap .u32 (wrap .u32 (_*128)+dE va 128)%4=va%4
        rw[eF hv.1,wrap_u32,wrap_u32];omega)
     |refine Yd (Q:=λt:rY=>t.F1=0->t.Addr%4=va%4) ?_ ?_)
 exact q
theorem xM{m:List Int}{va:Int}(hv:U va)(hs:size=1\/size=4)(ha:access=1\/access=2\/access=3):(lP c m va size access).2.1=0->(lP c m va size access).1%size=0:=by
 have kn:LX access=true:=by rcases ha with rfl|rfl|rfl<;>rfl
 have hc:tU access≠0:=by
  simp only[tU,L6,Tree.m]
  cases access==1<;>cases access==3<;>simp
 rcases hs with rfl|rfl
 ·intro _;omega
 simp only[lP,Hk,Tree.m,df,kn]
 show(bif dE va 4 !=0 then((0:Int),(3:Int),m)else _).2.1=0->(bif dE va 4 !=0 then((0:Int),(3:Int),m)else _).1%4=0
 rw[eF hv.1]
 cases hz:va%4 !=0
 ·have hz:va%4=0:=by simpa using hz
  have w:=xap m c.B3.a6 hv access
  cases hp:Ue c
  ·cases hw:sj m va 4
   ·exactλe=>absurd e hc
   ·exactλ_=>hz
  ·cases hq:(AY m c.B3.a6 va access).F1 !=0
   ·have hq:(AY m c.B3.a6 va access).F1=0:=by simpa using hq
    exactλ_=>(w hq).trans hz
   ·have hq:¬(AY m c.B3.a6 va access).F1=0:=by simpa using hq
    exactλe=>absurd e hq
 ·intro e;cases e
def dm:kT:={C0:=0,D1:=0,E0:=0,Value:=0}
def jR(c:bm)(m:List Int)(i:gw):bm×List Int×kT:=
 bif i.Op==32 then((tV c m i).1,(tV c m i).2,dm)else bif i.Op==33 then((tV c m i).1,(tV c m i).2,dm)else bif i.Op==34 then((tV c m i).1,(tV c m i).2,dm)
 else bif i.Op==35 then((CI c m i).1,(CI c m i).2,dm)else bif i.Op==36 then((CI c m i).1,(CI c m i).2,dm)else((Ye c i).1,m,(Ye c i).2)
def dd(c:bm)(r:Int):Int:=aK (gn.l c.X) r.toNat 0
def o8(c:bm)(m:List Int)(i:gw):bm×kT×List Int:=
 bif decide (i.Op>=56)then((Ug c i).1,(Ug c i).2,m)else bif decide (i.Op>=40)then(Z3r c i,dm,m)else bif decide (i.Op>=32)then((Hl c m i).1,dm,(Hl c m i).2)
 else bif i.Op==24 then({X:=(lO c i.A (ek .u32 (wrap .u32 i.bo) 16)).X,Pc:=wrap .u32 ((lO c i.A (ek .u32 (wrap .u32 i.bo) 16)).Pc+4),B3:=(lO c i.A (ek .u32 (wrap .u32 i.bo) 16)).B3},dm,m)
 else bif decide (i.Op<=13)then
  ({X:=(lO c i.A (Ey i.Op (dd c i.B) (dd c i.C)).1).X,Pc:=wrap .u32 ((lO c i.A (Ey i.Op (dd c i.B) (dd c i.C)).1).Pc+4),B3:=(lO c i.A (Ey i.Op (dd c i.B) (dd c i.C)).1).B3},dm,m)
 else({X:=(lO c i.A (Ey i.Op (dd c i.B) (wrap .u32 i.bo)).1).X,Pc:=wrap .u32 ((lO c i.A (Ey i.Op (dd c i.B) (wrap .u32 i.bo)).1).Pc+4),B3:=(lO c i.A (Ey i.Op (dd c i.B) (wrap .u32 i.bo)).1).B3},dm,m)
def pD(op:Int):Prop:=op=1\/op=2\/op=3\/op=4\/op=5\/op=6\/op=7\/op=8\/op=9\/op=10\/op=11\/op=12\/op=13\/op=16\/op=17\/op=18\/op=19\/op=20\/op=21\/op=22\/op=23\/op=24\/op=32\/op=33\/op=34\/op=35\/op=36\/op=40\/op=41\/op=42\/op=43\/op=44\/op=45\/op=48\/op=49\/op=56\/op=57\/op=58\/op=59\/op=60\/op=61\/op=62\/op=63\/op=64
theorem zZ(c:bm)(r v:Int):(lO c r v).Pc=c.Pc/\(lO c r v).B3=c.B3:=by
 simp only[lO,Js,Tree.m]
 cases decide (r>0)
 ·exact⟨rfl,rfl⟩
 ·cases decide (r<16)<;>exact⟨rfl,rfl⟩
def Jt(c:bm):bm:={X:=c.X,Pc:=wrap .u32 (c.Pc+4),B3:=c.B3}
def va(c:bm)(B bo:Int):Int:=wrap .u32 (aK (gn.l c.X) B.toNat 0+wrap .u32 bo)
def OS(c:bm)(A v size:Int)(f:Int->Int)(y:Int×List Int×Int):bm×List Int:=bif y.2.2 !=0 then(rH c y.2.2 v,y.2.1)else(Jt (uR c A (f (CG y.2.1 y.1 size).1)),y.2.1)
def OT(c:bm)(A v size:Int)(f:Int->Int)(x:Int×Int×List Int):bm×List Int:=bif x.2.1 !=0 then(rb c x.2.1 v,x.2.2)else(Jt (lO c A (f (kW x.2.2 x.1 size).1)),x.2.2)
def Uh(c:bm)(A v size:Int)(y:Int×List Int×Int):bm×List Int:=bif y.2.2 !=0 then(rH c y.2.2 v,y.2.1)else(Jt c,(LV y.2.1 y.1 size (aK (gn.l c.X) A.toNat 0)).1)
def Ui(c:bm)(A v size:Int)(x:Int×Int×List Int):bm×List Int:=bif x.2.1 !=0 then(rb c x.2.1 v,x.2.2)else(Jt c,BC x.2.2 x.1 size (aK (gn.l c.X) A.toNat 0))
theorem OU(c:bm)(m:List Int)(A B C bo:Int):
 (tV c m ⟨32,A,B,C,bo⟩=OS c A (va c B bo) 4 (λv=>v) (Q2 c m (va c B bo) 4 2)/\Hl c m ⟨32,A,B,C,bo⟩=OT c A (va c B bo) 4 (λv=>v) (lP c m (va c B bo) 4 2))/\
 (tV c m ⟨33,A,B,C,bo⟩=OS c A (va c B bo) 1 (λv=>Es v 8) (Q2 c m (va c B bo) 1 2)/\Hl c m ⟨33,A,B,C,bo⟩=OT c A (va c B bo) 1 (λv=>Hc v 8) (lP c m (va c B bo) 1 2))/\
 (tV c m ⟨34,A,B,C,bo⟩=OS c A (va c B bo) 1 (λv=>v) (Q2 c m (va c B bo) 1 2)/\Hl c m ⟨34,A,B,C,bo⟩=OT c A (va c B bo) 1 (λv=>v) (lP c m (va c B bo) 1 2))/\
 (CI c m ⟨35,A,B,C,bo⟩=Uh c A (va c B bo) 4 (Q2 c m (va c B bo) 4 3)/\Hl c m ⟨35,A,B,C,bo⟩=Ui c A (va c B bo) 4 (lP c m (va c B bo) 4 3))/\
 (CI c m ⟨36,A,B,C,bo⟩=Uh c A (va c B bo) 1 (Q2 c m (va c B bo) 1 3)/\Hl c m ⟨36,A,B,C,bo⟩=Ui c A (va c B bo) 1 (lP c m (va c B bo) 1 3)):=
 ⟨⟨by kernel_rfl,by kernel_rfl⟩,⟨by kernel_rfl,by kernel_rfl⟩,⟨by kernel_rfl,by kernel_rfl⟩,⟨by kernel_rfl,by kernel_rfl⟩,⟨by kernel_rfl,by kernel_rfl⟩⟩
theorem qaq{m:List Int}(h:fg P m)(a:Int):Es (kW m a 1).1 8=Hc (kW m a 1).1 8:=by
 have:∀x:Int×Bool,(∃w,U w/\x=(bd .u32 w 255,true))\/x=(0,false)->Es x.1 8=Hc x.1 8:=λx hx=>by
  rcases hx with⟨w,hw,rfl⟩|rfl
  ·have e:=CC hw
   exact sx8 (by show 0<=bd .u32 w 255;omega) (by show bd .u32 w 255<256;omega)
  ·rfl
 refine this _ ?_
 simp only[kW,AX,Tree.m,df]
 cases sj m a 1
 ·exact .inr rfl
 ·exact .inl ⟨_,AU (AV h.u _) _,rfl⟩
section
variable {P:Nat} {m:List Int} (h:fg P m) {c:bm} (hc:iz c) (jZ:c.B3.a0<=31)
include h hc jZ
omit jZ in
theorem Yf(hv:U v)(hs:size=1\/size=4)(access:Int):fg P (lP c m v size access).2.2/\U (lP c m v size access).1/\((lP c m v size access).2.1=0->(lP c m v size access).1<128*P):=(Tree.pp (Uj h hc hv hs access)).2
theorem Yg(hA:0<=A/\A<16)(hv:U v)(hs:size=1\/size=4){f g:Int->Int}(hf:∀{m':List Int},fg P m'->∀a,f (kW m' a size).1=g (kW m' a size).1):OS c A v size f (Q2 c m v size 2)=OT c A v size g (lP c m v size 2):=by
 rw[Yc h hc jZ hv hs (.inr (.inl rfl))]
 obtain⟨k,u,_⟩:=Yf h hc hv hs 2
 generalize lP c m v size 2=x at*
 simp only[OS,OT,OL k u hs,OO hc.a0.1 jZ,Uf c hA,hf k]
theorem xk(hv:U v)(hs:size=1\/size=4):Uh c A v size (Q2 c m v size 3)=Ui c A v size (lP c m v size 3):=by
 rw[Yc h hc jZ hv hs (.inr (.inr rfl))]
 obtain⟨k,u,b⟩:=Yf h hc hv hs 3
 have al:=xM (c:=c) (m:=m) hv hs (access:=3) (.inr (.inr rfl))
 generalize lP c m v size 3=x at*
 simp only[Uh,Ui,Za1 k u hs,OO hc.a0.1 jZ,LR k u hs]
 cases hq:x.2.1 !=0
 ·have hq:x.2.1=0:=by simpa using hq
  rw[dY ⟨al hq,b hq⟩];rfl
 ·rfl
end
theorem yM(c:bm)(k v:Int):(OV c k v).Pc=c.Pc:=by
 simp only[OV,L7,Tree.m]
 repeat'(first|rfl|refine Yd (Q:=λx:bm=>x.Pc=c.Pc) ?_ ?_)
def jj(c:bm)(A v p:Int):bm:={X:=(uR c A v).X,Pc:=p,B3:=(uR c A v).B3}
def FM(c:bm)(A v p:Int):bm:={X:=(lO c A v).X,Pc:=p,B3:=(lO c A v).B3}
def jL(c:bm):Int:=wrap .u32 (c.Pc+4)
theorem OW(c:bm)(hA:0<=A/\A<16)(v p:Int):jj c A v p=FM c A v p:=by
 unfold jj FM;rw[Uf c hA]
theorem Yh(c:bm)(A v:Int):Jt (lO c A v)=FM c A v (jL c):=by
 unfold Jt FM jL;rw[(zZ c A v).1]
theorem L9(t:Bool)(x y:bm)(m:List Int):((bif t then(x,dm)else(y,dm)).1,m,(bif t then(x,dm)else(y,dm)).2)=((bif t then x else y),m,dm):=by cases t<;>rfl
def Hm(op:Int):Bool:=decide (op=1)||decide (op=2)||decide (op=3)||decide (op=4)||decide (op=5)||decide (op=6)||decide (op=7)||decide (op=8)||decide (op=9)||decide (op=10)||decide (op=11)||decide (op=12)||decide (op=13)||decide (op=16)||decide (op=17)||decide (op=18)||decide (op=19)||decide (op=20)||decide (op=21)||decide (op=22)||decide (op=23)||decide (op=24)||decide (op=32)||decide (op=33)||decide (op=34)||decide (op=35)||decide (op=36)||decide (op=40)||decide (op=41)||decide (op=42)||decide (op=43)||decide (op=44)||decide (op=45)||decide (op=48)||decide (op=49)||decide (op=56)||decide (op=57)||decide (op=58)||decide (op=59)||decide (op=60)||decide (op=61)||decide (op=62)||decide (op=63)||decide (op=64)
section
variable {P:Nat} {m:List Int} (h:fg P m) {c:bm} (hc:iz c) (jZ:c.B3.a0<=31) {A B C bo:Int} (hA:0<=A/\A<16)
include h hc jZ hA
theorem zk(r8:pD op):jR c m ⟨op,A,B,C,bo⟩=((o8 c m ⟨op,A,B,C,bo⟩).1,(o8 c m ⟨op,A,B,C,bo⟩).2.2,(o8 c m ⟨op,A,B,C,bo⟩).2.1):=by
 have pE:∀{k y:Int},1<=k->k<=23->U y->((jj c A (nQ k (dd c B) y).1 (jL c),m,dm):bm×List Int×kT)=(Jt (lO c A (Ey k (dd c B) y).1),m,dm):=λh1 h2 hy=>by
  rw[qM h1 h2 (show U (dd c B) from hc.r _) hy,Yh,OW c hA]
 have uC:U (dd c C):=hc.r _
 have uI:U (wrap .u32 bo):=fm _
 obtain⟨⟨l1,l2⟩,⟨l3,l4⟩,⟨l5,l6⟩,⟨l7,l8⟩,⟨l9,l10⟩⟩:=OU c m A B C bo
 have Ez:U (va c B bo):=fm _
 rcases r8 with rfl|rfl|rfl|rfl|rfl|rfl|rfl|rfl|rfl|rfl|rfl|rfl|rfl|rfl|rfl|rfl|rfl|rfl|rfl|rfl|rfl|rfl|rfl|rfl|rfl|rfl|rfl|rfl|rfl|rfl|rfl|rfl|rfl|rfl|rfl|rfl|rfl|rfl|rfl|rfl|rfl|rfl|rfl|rfl
 ·exact(show jR c m ⟨1,A,B,C,bo⟩=(jj c A (nQ 1 (dd c B) (dd c C)).1 (jL c),m,dm) by kernel_rfl).trans ((pE (by decide) (by decide) uC).trans (by kernel_rfl))
 ·exact(show jR c m ⟨2,A,B,C,bo⟩=(jj c A (nQ 2 (dd c B) (dd c C)).1 (jL c),m,dm) by kernel_rfl).trans ((pE (by decide) (by decide) uC).trans (by kernel_rfl))
 ·exact(show jR c m ⟨3,A,B,C,bo⟩=(jj c A (nQ 3 (dd c B) (dd c C)).1 (jL c),m,dm) by kernel_rfl).trans ((pE (by decide) (by decide) uC).trans (by kernel_rfl))
 ·exact(show jR c m ⟨4,A,B,C,bo⟩=(jj c A (nQ 4 (dd c B) (dd c C)).1 (jL c),m,dm) by kernel_rfl).trans ((pE (by decide) (by decide) uC).trans (by kernel_rfl))
 ·exact(show jR c m ⟨5,A,B,C,bo⟩=(jj c A (nQ 5 (dd c B) (dd c C)).1 (jL c),m,dm) by kernel_rfl).trans ((pE (by decide) (by decide) uC).trans (by kernel_rfl))
 ·exact(show jR c m ⟨6,A,B,C,bo⟩=(jj c A (nQ 6 (dd c B) (dd c C)).1 (jL c),m,dm) by kernel_rfl).trans ((pE (by decide) (by decide) uC).trans (by kernel_rfl))
 ·exact(show jR c m ⟨7,A,B,C,bo⟩=(jj c A (nQ 7 (dd c B) (dd c C)).1 (jL c),m,dm) by kernel_rfl).trans ((pE (by decide) (by decide) uC).trans (by kernel_rfl))
 ·exact(show jR c m ⟨8,A,B,C,bo⟩=(jj c A (nQ 8 (dd c B) (dd c C)).1 (jL c),m,dm) by kernel_rfl).trans ((pE (by decide) (by decide) uC).trans (by kernel_rfl))
 ·exact(show jR c m ⟨9,A,B,C,bo⟩=(jj c A (nQ 9 (dd c B) (dd c C)).1 (jL c),m,dm) by kernel_rfl).trans ((pE (by decide) (by decide) uC).trans (by kernel_rfl))
 ·exact(show jR c m ⟨10,A,B,C,bo⟩=(jj c A (nQ 10 (dd c B) (dd c C)).1 (jL c),m,dm) by kernel_rfl).trans ((pE (by decide) (by decide) uC).trans (by kernel_rfl))
 ·exact(show jR c m ⟨11,A,B,C,bo⟩=(jj c A (nQ 11 (dd c B) (dd c C)).1 (jL c),m,dm) by kernel_rfl).trans ((pE (by decide) (by decide) uC).trans (by kernel_rfl))
 ·exact(show jR c m ⟨12,A,B,C,bo⟩=(jj c A (nQ 12 (dd c B) (dd c C)).1 (jL c),m,dm) by kernel_rfl).trans ((pE (by decide) (by decide) uC).trans (by kernel_rfl))
 ·exact(show jR c m ⟨13,A,B,C,bo⟩=(jj c A (nQ 13 (dd c B) (dd c C)).1 (jL c),m,dm) by kernel_rfl).trans ((pE (by decide) (by decide) uC).trans (by kernel_rfl))
 ·exact(show jR c m ⟨16,A,B,C,bo⟩=(jj c A (nQ 16 (dd c B) (wrap .u32 bo)).1 (jL c),m,dm) by kernel_rfl).trans ((pE (by decide) (by decide) uI).trans (by kernel_rfl))
 ·exact(show jR c m ⟨17,A,B,C,bo⟩=(jj c A (nQ 17 (dd c B) (wrap .u32 bo)).1 (jL c),m,dm) by kernel_rfl).trans ((pE (by decide) (by decide) uI).trans (by kernel_rfl))
 ·exact(show jR c m ⟨18,A,B,C,bo⟩=(jj c A (nQ 18 (dd c B) (wrap .u32 bo)).1 (jL c),m,dm) by kernel_rfl).trans ((pE (by decide) (by decide) uI).trans (by kernel_rfl))
 ·exact(show jR c m ⟨19,A,B,C,bo⟩=(jj c A (nQ 19 (dd c B) (wrap .u32 bo)).1 (jL c),m,dm) by kernel_rfl).trans ((pE (by decide) (by decide) uI).trans (by kernel_rfl))
 ·exact(show jR c m ⟨20,A,B,C,bo⟩=(jj c A (nQ 20 (dd c B) (wrap .u32 bo)).1 (jL c),m,dm) by kernel_rfl).trans ((pE (by decide) (by decide) uI).trans (by kernel_rfl))
 ·exact(show jR c m ⟨21,A,B,C,bo⟩=(jj c A (nQ 21 (dd c B) (wrap .u32 bo)).1 (jL c),m,dm) by kernel_rfl).trans ((pE (by decide) (by decide) uI).trans (by kernel_rfl))
 ·exact(show jR c m ⟨22,A,B,C,bo⟩=(jj c A (nQ 22 (dd c B) (wrap .u32 bo)).1 (jL c),m,dm) by kernel_rfl).trans ((pE (by decide) (by decide) uI).trans (by kernel_rfl))
 ·exact(show jR c m ⟨23,A,B,C,bo⟩=(jj c A (nQ 23 (dd c B) (wrap .u32 bo)).1 (jL c),m,dm) by kernel_rfl).trans ((pE (by decide) (by decide) uI).trans (by kernel_rfl))
 ·refine(show jR c m ⟨24,A,B,C,bo⟩=(jj c A (ek .u32 (wrap .u32 bo) 16) (jL c),m,dm) by kernel_rfl).trans ?_
  rw[OW c hA,<-Yh];kernel_rfl
 ·have e:=Yg h hc jZ hA Ez (.inr rfl) (f:=λv=>v) (g:=λv=>v) (λ_ _=>rfl)
  rw[<-l1,<-l2]at e
  refine(show jR c m ⟨32,A,B,C,bo⟩=((tV c m ⟨32,A,B,C,bo⟩).1,(tV c m ⟨32,A,B,C,bo⟩).2,dm) by kernel_rfl).trans ?_
  rw[e];kernel_rfl
 ·have e:=Yg h hc jZ hA Ez (.inl rfl) (f:=λv=>Es v 8) (g:=λv=>Hc v 8) (λhm a=>qaq hm a)
  rw[<-l3,<-l4]at e
  refine(show jR c m ⟨33,A,B,C,bo⟩=((tV c m ⟨33,A,B,C,bo⟩).1,(tV c m ⟨33,A,B,C,bo⟩).2,dm) by kernel_rfl).trans ?_
  rw[e];kernel_rfl
 ·have e:=Yg h hc jZ hA Ez (.inl rfl) (f:=λv=>v) (g:=λv=>v) (λ_ _=>rfl)
  rw[<-l5,<-l6]at e
  refine(show jR c m ⟨34,A,B,C,bo⟩=((tV c m ⟨34,A,B,C,bo⟩).1,(tV c m ⟨34,A,B,C,bo⟩).2,dm) by kernel_rfl).trans ?_
  rw[e];kernel_rfl
 ·have e:=xk h hc jZ (A:=A) Ez (.inr rfl)
  rw[<-l7,<-l8]at e
  refine(show jR c m ⟨35,A,B,C,bo⟩=((CI c m ⟨35,A,B,C,bo⟩).1,(CI c m ⟨35,A,B,C,bo⟩).2,dm) by kernel_rfl).trans ?_
  rw[e];kernel_rfl
 ·have e:=xk h hc jZ (A:=A) Ez (.inl rfl)
  rw[<-l9,<-l10]at e
  refine(show jR c m ⟨36,A,B,C,bo⟩=((CI c m ⟨36,A,B,C,bo⟩).1,(CI c m ⟨36,A,B,C,bo⟩).2,dm) by kernel_rfl).trans ?_
  rw[e];kernel_rfl
 ·exact(show jR c m ⟨40,A,B,C,bo⟩=((bif(rJ 40 (dd c A) (dd c B))then((⟨c.X,wrap .u32 (c.Pc+wrap .u32 (4*wrap .u32 bo)),c.B3⟩:bm),dm)else(⟨c.X,jL c,c.B3⟩,dm)).1,m,(bif(rJ 40 (dd c A) (dd c B))then((⟨c.X,wrap .u32 (c.Pc+wrap .u32 (4*wrap .u32 bo)),c.B3⟩:bm),dm)else(⟨c.X,jL c,c.B3⟩,dm)).2) by kernel_rfl).trans ((L9 (rJ 40 (dd c A) (dd c B)) ⟨c.X,wrap .u32 (c.Pc+wrap .u32 (4*wrap .u32 bo)),c.B3⟩ ⟨c.X,jL c,c.B3⟩ m).trans (by kernel_rfl))
 ·exact(show jR c m ⟨41,A,B,C,bo⟩=((bif(rJ 41 (dd c A) (dd c B))then((⟨c.X,wrap .u32 (c.Pc+wrap .u32 (4*wrap .u32 bo)),c.B3⟩:bm),dm)else(⟨c.X,jL c,c.B3⟩,dm)).1,m,(bif(rJ 41 (dd c A) (dd c B))then((⟨c.X,wrap .u32 (c.Pc+wrap .u32 (4*wrap .u32 bo)),c.B3⟩:bm),dm)else(⟨c.X,jL c,c.B3⟩,dm)).2) by kernel_rfl).trans ((L9 (rJ 41 (dd c A) (dd c B)) ⟨c.X,wrap .u32 (c.Pc+wrap .u32 (4*wrap .u32 bo)),c.B3⟩ ⟨c.X,jL c,c.B3⟩ m).trans (by kernel_rfl))
 ·exact(show jR c m ⟨42,A,B,C,bo⟩=((bif(rJ 42 (dd c A) (dd c B))then((⟨c.X,wrap .u32 (c.Pc+wrap .u32 (4*wrap .u32 bo)),c.B3⟩:bm),dm)else(⟨c.X,jL c,c.B3⟩,dm)).1,m,(bif(rJ 42 (dd c A) (dd c B))then((⟨c.X,wrap .u32 (c.Pc+wrap .u32 (4*wrap .u32 bo)),c.B3⟩:bm),dm)else(⟨c.X,jL c,c.B3⟩,dm)).2) by kernel_rfl).trans ((L9 (rJ 42 (dd c A) (dd c B)) ⟨c.X,wrap .u32 (c.Pc+wrap .u32 (4*wrap .u32 bo)),c.B3⟩ ⟨c.X,jL c,c.B3⟩ m).trans (by kernel_rfl))
 ·exact(show jR c m ⟨43,A,B,C,bo⟩=((bif(rJ 43 (dd c A) (dd c B))then((⟨c.X,wrap .u32 (c.Pc+wrap .u32 (4*wrap .u32 bo)),c.B3⟩:bm),dm)else(⟨c.X,jL c,c.B3⟩,dm)).1,m,(bif(rJ 43 (dd c A) (dd c B))then((⟨c.X,wrap .u32 (c.Pc+wrap .u32 (4*wrap .u32 bo)),c.B3⟩:bm),dm)else(⟨c.X,jL c,c.B3⟩,dm)).2) by kernel_rfl).trans ((L9 (rJ 43 (dd c A) (dd c B)) ⟨c.X,wrap .u32 (c.Pc+wrap .u32 (4*wrap .u32 bo)),c.B3⟩ ⟨c.X,jL c,c.B3⟩ m).trans (by kernel_rfl))
 ·exact(show jR c m ⟨44,A,B,C,bo⟩=((bif(rJ 44 (dd c A) (dd c B))then((⟨c.X,wrap .u32 (c.Pc+wrap .u32 (4*wrap .u32 bo)),c.B3⟩:bm),dm)else(⟨c.X,jL c,c.B3⟩,dm)).1,m,(bif(rJ 44 (dd c A) (dd c B))then((⟨c.X,wrap .u32 (c.Pc+wrap .u32 (4*wrap .u32 bo)),c.B3⟩:bm),dm)else(⟨c.X,jL c,c.B3⟩,dm)).2) by kernel_rfl).trans ((L9 (rJ 44 (dd c A) (dd c B)) ⟨c.X,wrap .u32 (c.Pc+wrap .u32 (4*wrap .u32 bo)),c.B3⟩ ⟨c.X,jL c,c.B3⟩ m).trans (by kernel_rfl))
 ·exact(show jR c m ⟨45,A,B,C,bo⟩=((bif(rJ 45 (dd c A) (dd c B))then((⟨c.X,wrap .u32 (c.Pc+wrap .u32 (4*wrap .u32 bo)),c.B3⟩:bm),dm)else(⟨c.X,jL c,c.B3⟩,dm)).1,m,(bif(rJ 45 (dd c A) (dd c B))then((⟨c.X,wrap .u32 (c.Pc+wrap .u32 (4*wrap .u32 bo)),c.B3⟩:bm),dm)else(⟨c.X,jL c,c.B3⟩,dm)).2) by kernel_rfl).trans ((L9 (rJ 45 (dd c A) (dd c B)) ⟨c.X,wrap .u32 (c.Pc+wrap .u32 (4*wrap .u32 bo)),c.B3⟩ ⟨c.X,jL c,c.B3⟩ m).trans (by kernel_rfl))
 ·refine(show jR c m ⟨48,A,B,C,bo⟩=(jj c A (jL c) (wrap .u32 ((uR c A (jL c)).Pc+wrap .u32 (4*wrap .u32 bo))),m,dm) by kernel_rfl).trans ?_
  rw[OW c hA,Uf c hA,(zZ c A (jL c)).1];kernel_rfl
 ·refine(show jR c m ⟨49,A,B,C,bo⟩=(jj c A (jL c) (va c B bo),m,dm) by kernel_rfl).trans ?_
  rw[OW c hA];kernel_rfl
 ·refine(show jR c m ⟨56,A,B,C,bo⟩=(rH c 7 0,m,dm) by kernel_rfl).trans ?_
  rw[OO hc.a0.1 jZ];kernel_rfl
 ·refine(show jR c m ⟨57,A,B,C,bo⟩=(LI c,m,dm) by kernel_rfl).trans ?_
  rw[Zmb hc.a0.1 jZ];kernel_rfl
 ·refine(show jR c m ⟨58,A,B,C,bo⟩=(jj c A (aK (A8.l c.B3) bo.toNat 0) (jL c),m,dm) by kernel_rfl).trans ?_
  rw[OW c hA,<-Yh];kernel_rfl
 ·have e:=yM c (wrap .i64 bo) (dd c A)
  refine(show jR c m ⟨59,A,B,C,bo⟩=((⟨(OV c (wrap .i64 bo) (dd c A)).X,wrap .u32 (c.Pc+4),(OV c (wrap .i64 bo) (dd c A)).B3⟩:bm),m,dm) by kernel_rfl).trans ?_
  rw[<-e];kernel_rfl
 ·exact(show jR c m ⟨60,A,B,C,bo⟩=((o8 c m ⟨60,A,B,C,bo⟩).1,(o8 c m ⟨60,A,B,C,bo⟩).2.2,(o8 c m ⟨60,A,B,C,bo⟩).2.1) by kernel_rfl)
 ·exact(show jR c m ⟨61,A,B,C,bo⟩=((o8 c m ⟨61,A,B,C,bo⟩).1,(o8 c m ⟨61,A,B,C,bo⟩).2.2,(o8 c m ⟨61,A,B,C,bo⟩).2.1) by kernel_rfl)
 ·exact(show jR c m ⟨62,A,B,C,bo⟩=((o8 c m ⟨62,A,B,C,bo⟩).1,(o8 c m ⟨62,A,B,C,bo⟩).2.2,(o8 c m ⟨62,A,B,C,bo⟩).2.1) by kernel_rfl)
 ·exact(show jR c m ⟨63,A,B,C,bo⟩=((o8 c m ⟨63,A,B,C,bo⟩).1,(o8 c m ⟨63,A,B,C,bo⟩).2.2,(o8 c m ⟨63,A,B,C,bo⟩).2.1) by kernel_rfl)
 ·exact(show jR c m ⟨64,A,B,C,bo⟩=((o8 c m ⟨64,A,B,C,bo⟩).1,(o8 c m ⟨64,A,B,C,bo⟩).2.2,(o8 c m ⟨64,A,B,C,bo⟩).2.1) by kernel_rfl)
end
theorem zaq(h0:0<=op)(h1:op<256)(h:o7 op≠0):pD op:=by
 have e:=oY (FL (λop=>decide (o7 op=0\/Hm op=true)) 256 (by kernel_rfl) h0 h1)
 rcases e with e|e
 ·exact absurd e h
 ·simpa only[Hm,pD,aI,decide_eq_true_eq,or_assoc]using e
theorem yk(o:pD op):1<=op/\op<=64:=by
 unfold pD at o
 rcases o with h|h|h|h|h|h|h|h|h|h|h|h|h|h|h|h|h|h|h|h|h|h|h|h|h|h|h|h|h|h|h|h|h|h|h|h|h|h|h|h|h|h|h|h<;>(rw[h];decide)
theorem vk(hw:U w):(rI w).2=true->pD (rI w).1.Op:=by
 have uO:bg .u32 w 24=w/16777216:=by have:=Em (a:=w) 24 (by decide);simpa using this
 obtain⟨w0,w1⟩:=hw
 have eo:wrap .i64 (w/16777216)=w/16777216:=Ef (by omega) (by omega)
 have q:(λr:gw×Bool=>r.2=true->pD r.1.Op) (rI w):=by
  simp only[rI,Hd,Tree.m,df,uO,eo]
  cases hf:o7 (w/16777216)==0
  ·have g:pD (w/16777216):=zaq (by omega) (by omega) (by simpa using hf)
   repeat'(first
    |exactλ_=>g
    |exactλe=>fA (show false=true from e)
    |refine Yd (Q:=λr:gw×Bool=>r.2=true->pD r.1.Op) ?_ ?_)
  ·exactλe=>fA (show false=true from e)
 exact q
section
variable (c:bm) (m:List Int)
def EA(x:Int×Int×List Int)(w:Int)(d:gw×Bool):bm×kT×List Int:=
 bif x.2.1 !=0 then(rb c x.2.1 c.Pc,dm,x.2.2)else bif !d.2 then(rb c 1 w,dm,x.2.2)else bif Hb d.1.Op then(bif bd .u32 c.B3.a0 1==0 then(rb c 2 w,dm,x.2.2)else o8 c x.2.2 d.1)else o8 c x.2.2 d.1
def OX(y:Int×List Int×Int)(d:gw×Bool):bm×List Int×kT:=
 bif y.2.2 !=0 then(rH c y.2.2 c.Pc,y.2.1,dm)else bif !d.2 then(rH c 1 y.1,y.2.1,dm)else bif OG d.1.Op then(bif !Hj c then(rH c 2 y.1,y.2.1,dm)else jR c y.2.1 d.1)else jR c y.2.1 d.1
theorem Hn:re c m=EA c (lP c m c.Pc 4 1) (kW (lP c m c.Pc 4 1).2.2 (lP c m c.Pc 4 1).1 4).1 (rI (kW (lP c m c.Pc 4 1).2.2 (lP c m c.Pc 4 1).1 4).1):=by kernel_rfl
theorem xaq:wY c m=OX c (Uk c m) (OJ (Uk c m).1):=by kernel_rfl
theorem vM:Uk c m=bif(Q2 c m c.Pc 4 1).2.2 !=0 then(0,(Q2 c m c.Pc 4 1).2.1,(Q2 c m c.Pc 4 1).2.2)else((CG (Q2 c m c.Pc 4 1).2.1 (Q2 c m c.Pc 4 1).1 4).1,(Q2 c m c.Pc 4 1).2.1,0):=by kernel_rfl
end
theorem Zkt{m:List Int}(h:fg P m)(hc:iz c)(jZ:c.B3.a0<=31):wY c m=((re c m).1,(re c m).2.2,(re c m).2.1):=by
 obtain⟨k,u,b⟩:=Yf h hc hc.pc (.inr rfl) 1
 have tr:∀k b,rH c k b=rb c k b:=OO hc.a0.1 jZ
 rw[xaq,Hn,vM,Yc h hc jZ hc.pc (.inr rfl) (.inl rfl)]
 generalize lP c m c.Pc 4 1=x at*
 cases hx:x.2.1 !=0
 ·rw [OL k u (.inr rfl)]
  have hw:U (kW x.2.2 x.1 4).1:=(Tree.pp (OY k u (.inr rfl))).2
  generalize(kW x.2.2 x.1 4).1=w at*
  show OX c (w,x.2.2,0) (OJ w)=_
  rw[vi hw]
  have o:=vk hw
  have i:=Tree.post _ (Zpy w)
  change(rI w).2=true->sZ (rI w).1 at i
  generalize rI w=d at*
  obtain⟨⟨op,A,B,C,bo⟩,ok⟩:=d
  cases ok
  ·simp only[OX,EA,hx,tr];rfl
  ·have o:pD op:=o rfl
   have i:=i rfl
   have p:=zk (C:=C) (B:=B) (bo:=bo) k hc jZ i.a o
   have pv:OG op=Hb op:=zan (by have:=yk o;omega) (by have:=yk o;omega)
   have kn:(!Hj c)=(bd .u32 c.B3.a0 1==0):=by
    show(!(!(bd .u32 c.B3.a0 1==0)))=_
    exact Bool.not_not _
   simp only[OX,EA,hx,tr,pv,kn,p]
   cases Hb op
   ·rfl
   ·cases bd .u32 c.B3.a0 1==0<;>rfl
 ·simp only[OX,EA,hx,cond_true,tr]
theorem ql{a b:Int}:decide (a>=b)=!decide (a<b):=by
 by_cases h:a<b
 ·rw[dY h,dN (by omega)];rfl
 ·rw[dN h,dY (by omega)];rfl
def bits(g:Int)(l:List Nat)(s:Int):Int:=l.foldl (λ(a:Int) (i:Nat)=>wrap .i64 (a+wrap .i64 (bd .u32 (bg .u32 g (i:Int)) 1))) s
theorem qN(b:iu):Ma b=bits b.C4 [0,1,2,3,4,5,6,7,8,9,10,11,12,13,14,15,16,17,18,19,20,21,22,23,24,25,26,27,28,29,30,31] 0:=by kernel_rfl
theorem xaJ(hg:U g){i:Nat}(hi:i<=32):wrap .i64 (bd .u32 (bg .u32 g (i:Int)) 1)=g/2^i%2:=by
 rw[FN (AU hg _),Em i hi]
 have:0<=g/2^i%2/\g/2^i%2<2:=by omega
 exact Ef (by omega) (by omega)
theorem xN(hg:U g)(l:List Nat):∀s:Int,(∀i∈l,i<=32)->0<=s->s+l.length<=1000->bits g l s=s+(l.map λi=>g/2^i%2).sum:=by
 induction l with
 |nil=>intro s _ _ _;simp[bits]
 |cons i l ih=>
  intro s hl h0 h1
  have h1:s+(l.length+1)<=1000:=by simpa using h1
  have hb:0<=g/2^i%2/\g/2^i%2<2:=by omega
  have e:bits g (i::l) s=bits g l (s+g/2^i%2):=by
   show bits g l (wrap .i64 (s+wrap .i64 (bd .u32 (bg .u32 g (i:Int)) 1)))=_
   rw[xaJ hg (hl i (by simp)),Ef (by omega) (by omega)]
  rw[e,ih _ (λj hj=>hl j (by simp[hj])) (by omega) (by omega)]
  simp;omega
theorem Zr0(n:ik)(port:Int):LG n port=OZ n port:=by
 simp only[LG,OC,OZ,O0,Tree.m]
 cases n.C5<;>cases n.B5<;>rfl
theorem Z7z(t:iZ):tS t=Ul t:=by
 simp only[tS,TO,Ul,Yi,Tree.m]
 cases t.D3<;>cases t.D2<;>rfl
theorem Zkz(n:ik)(p:Int):pC n p=Um n p:=by
 simp only[pC,Lv,Um,Yj,Tree.m]
 cases n.C5<;>cases n.B5<;>rfl
theorem Zfv(d:fv)(p:Int):kD d p=Un d p:=by
  simp only[kD,wV,Ow,Jc,Un,Yk,Tree.m,df,ql]
  cases decide (d.ag>64)
  . by_cases s:d.B8=0\/d.B8=1\/d.B8=2\/d.B8=3
    . rcases s with s|s|s|s<;>rw[s]
      . rfl
      . by_cases c1:d.D5=1
        . rw[c1];cases decide (d.B6<d.ag)<;>cases decide (wrap .i64 d.B2<p)<;>cases decide (d.B7=[])<;>rfl
        . by_cases c2:d.D5=2
          . rw[c2];cases decide (d.B6<d.ag)<;>cases decide (wrap .i64 d.B2<p)<;>cases(d.B7.length:Int)==128<;>rfl
          . rw[show(d.D5==1)=false by simpa using c1,show(d.D5==2)=false by simpa using c2]
            cases decide (d.B6<d.ag)<;>cases decide (wrap .i64 d.B2<p)<;>rfl
      . rfl
      . rfl
    . rw[show(d.B8==0)=false by simp;omega,show(d.B8==1)=false by simp;omega,show(d.B8==2)=false by simp;omega,show(d.B8==3)=false by simp;omega]
      by_cases n:d.B8<0
      . rw[dY n];rfl
      . rw[dN n,dY (show d.B8>3 by omega)];rfl
  . rfl
theorem zN(c:iY):Q9 c=Uo c:=by
 show(!decide (c.C9=[]))=decide ((c.C9.length:Int)>0)
 cases c.C9 with
 |nil=>rfl
 |cons a l=>rw[dN (by simp),dY (by simp)];rfl
theorem qar(k:List UInt8):decide (k=[])=((k.length:Int)==0):=by
 cases k with
 |nil=>rfl
 |cons a l=>
  rw[dN (by simp)]
  exact(beq_eq_false_iff_ne.2 (by simp;omega)).symm
theorem Zqp(c:iY)(port:Int):Yl c port=Ju c port:=by
 simp only[Yl,Je,Ju,Ho,Tree.m,qar]
 cases port==0
 ·rfl
 ·cases(c.C9.length:Int)==0<;>rfl
theorem yN(t:iZ)(v:Int):Ox t v=O1 v:=by
 simp only[Ox,TN,O1,O2,Tree.m]
 cases h:v==0
 ·rw[show(v !=0)=true by simp only[bne,h];rfl];rfl
 ·rw[show(v !=0)=false by simp only[bne,h];rfl,eq_of_beq h];rfl
section
variable {P:Nat} {m:List Int} (h:fg P m)
include h
theorem Zaf(f:Int):Ja m f=ob m f:=by
 have a:=sf h
 have b:=Et h
 simp only[Ja,On,ob,O3,Tree.m,df,a,b]
theorem Zbr(f:Int):G0 m f=ob m f:=by
 have a:=sf h
 have b:=Et h
 simp only[G0,Oo,ob,O3,Tree.m,df,a,b]
theorem Zl2(d:fv)(port v cr:Int):Ym d m port v cr=O4 d m port v cr:=by
  have pg:=Zaf h
  have pa:=Zgz h
  have rq: ∀d a,Yn d a=Yo d a:=λ_ _=>rfl
  simp only[Ym,Lx,Qym,Lw,O4,Hp,Tree.m,df,pg,pa,rq]
  cases port==4
  . cases port==5
    . cases h6:port==6
      . rw[show(port !=6)=true by simp only[bne,h6];rfl];rfl
      . rw [show(port !=6)=false by simp only[bne,h6];rfl]
        by_cases v1:v=1
        . subst v1
          cases hs:d.B8==0
          . rw[show(d.B8 !=0)=true by simp only[bne,hs];rfl];rfl
          . rw[show(d.B8 !=0)=false by simp only[bne,hs];rfl];rfl
        . by_cases v2:v=2
          . subst v2
            cases hs:d.B8==0
            . rw[show(d.B8 !=0)=true by simp only[bne,hs];rfl];rfl
            . rw[show(d.B8 !=0)=false by simp only[bne,hs];rfl];rfl
          . rw[show(v==1)=false by simpa using v1,show(v==2)=false by simpa using v2]
            cases v==0
            . rfl
            . have:Ly d=(bif d.B8==2 then true else d.B8==3):=rfl
              rw[this]
              cases d.B8==2<;>cases d.B8==3<;>rfl
    . rfl
  . rfl
theorem Zo4(n:ik)(port v cr:Int):Yp n m port v cr=Up n m port v cr:=by
  have pg:=Zbr h
  have pa:=Zgz h
  simp only[Yp,LA,Zet,Lz,Up,Mb,Tree.m,df,pg,pa]
  have g1:decide (n.D9>=1)=!decide (n.D9<1):=ql
  have g2:decide (n.D9<=128)=!decide (n.D9>128):=by
    by_cases h:n.D9>128
    . rw[dY h,dN (by omega)];rfl
    . rw[dN h,dY (by omega)];rfl
  rw[g1,g2]
  cases port==7
  . cases port==8
    . cases h9:port==9
      . rw[show(port !=9)=true by simp only[bne,h9];rfl];rfl
      . rw [show(port !=9)=false by simp only[bne,h9];rfl]
        by_cases v1:v=1
        . subst v1
          cases decide (n.D9<1)<;>cases decide (n.D9>128)<;>cases ob m n.Frame<;>rfl
        . by_cases v2:v=2
          . subst v2;rfl
          . rw[show(v==1)=false by simpa using v1,show(v==2)=false by simpa using v2]
            cases v==0<;>rfl
    . rfl
  . rfl
theorem Zgj(hd:oG d)(e:ib):Yq d m e=((Jv d m e).1,(Jv d m e).2.2,(Jv d m e).2.1):=by
  have gl:jH m=m:=rfl
  have pg:=Zaf h d.B2
  have lp:decide ((e.D0.length:Int)>0)=!decide (e.D0=[]):=by
    cases e.D0 with
    |nil=>rfl
    |cons a l=>rw[dY (by simp),dN (by simp)];rfl
  have bad:(e.D0.length:Int)≠128->ob m d.B2=true->Ew m (wrap .i64 d.B2) e.D0=(m,false):=λhl hp=>by
    rw[FO h hd.ie]at hp
    have hp:=oY hp
    have h1:=hd.ie.1
    have h3:=h.p2
    have ew:i64.wrap d.B2=d.B2:=Ef (by omega) (by omega)
    simp only[Ew,GX,Tree.m,df,gl,ew,T0 h,dY (⟨h1,hp⟩:0<=d.B2/\d.B2<P),show((e.D0.length:Int) !=128)=true by simpa using hl]
    rfl
  have eu:(e.D0.length:Int)=128->ob m d.B2=true->Ew m (wrap .i64 d.B2) e.D0=(OK m (wrap .i64 d.B2) e.D0,true):=λhl hp=>by
    rw[FO h hd.ie]at hp
    have hp:=oY hp
    have h1:=hd.ie.1
    have h3:=h.p2
    have ew:i64.wrap d.B2=d.B2:=Ef (by omega) (by omega)
    rw[ew];exact Zh1 h h1 hp (by omega)
  simp only[Yq,Lt,Jv,Hq,Tree.m,df,gl,pg,lp]
  cases d.B8 !=1
  . cases e.C0 !=4
    . cases decide (e.N>1)
      . cases e.N==1
        . cases decide (e.D0=[])<;>rfl
        . cases hc:d.D5==1
          . cases decide (e.D0=[])<;>rfl
          . by_cases hl:(e.D0.length:Int)=128
            . rw[show((e.D0.length:Int) !=128)=false by simpa using hl]
              cases hp:ob m d.B2
              . rfl
              . rw[eu hl hp];rfl
            . rw[show((e.D0.length:Int) !=128)=true by simpa using hl]
              cases hp:ob m d.B2
              . rfl
              . rw[bad hl hp];rfl
      . rfl
    . rfl
  . rfl
theorem Zju(hn:pB n)(frame:List UInt8):Yr n m frame=((Mc n m frame).1,(Mc n m frame).2.2,(Mc n m frame).2.1):=by
  have gl:jH m=m:=rfl
  have pg:=Zbr h n.B9
  simp only[Yr,Lu,Mc,Md,Tree.m,df,gl,pg]
  cases !n.C5
  . cases decide ((frame.length:Int)<1)
    . cases hf:decide ((frame.length:Int)>128)
      . cases hp:ob m n.B9
        . rfl
        . rw[FO h hn.buffer]at hp
          have hp:=oY hp
          have h1:=hn.buffer.1
          have h3:=h.p2
          have ew:i64.wrap n.B9=n.B9:=Ef (by omega) (by omega)
          have hf:=oN hf
          obtain⟨b1,b2⟩:=(Tree.pp (yj h h1 hp)).2
          change AW m n.B9 (Ev m n.B9).1 at b1
          have tk:dB (dF ((Ev m n.B9).1.length:Int)-dF (frame.length:Int)) (dC (dF (frame.length:Int)) (Ev m n.B9).1)=(Ev m n.B9).1.drop frame.length:=by
            rw[eD,eD]
            exact List.take_of_length_le (by simp)
          rw[ew,tk,Zj7 h h1 hp (by omega) b1]
          rfl
      . rfl
    . rfl
  . rfl
end
def Ys:List UInt8:=(dD 256).map λn=>eY (n%2+n/2%2+n/4%2+n/8%2+n/16%2+n/32%2+n/64%2+n/128%2)
def pt(n:Int):Int:=((eW (Ys.getD n.toNat 0):Nat):Int)
theorem vN(x:Int):Yt x=wrap .i64 (wrap .u8 (wrap .u8 (wrap .u8 (pt (bg .u32 x 24)+pt (bd .u32 (bg .u32 x 16) 255))+pt (bd .u32 (bg .u32 x 8) 255))+pt (bd .u32 x 255))):=by kernel_rfl
theorem O5(h0:0<=a)(h1:a<256):pt a=a%2+a/2%2+a/4%2+a/8%2+a/16%2+a/32%2+a/64%2+a/128%2:=
 eq_of_beq (FL (λa=>pt a==a%2+a/2%2+a/4%2+a/8%2+a/16%2+a/32%2+a/64%2+a/128%2) 256 (by kernel_rfl) h0 h1)
theorem xl(hg:U g):bits g [0,1,2,3,4,5,6,7,8,9,10,11,12,13,14,15,16,17,18,19,20,21,22,23,24,25,26,27,28,29,30,31] 0=pt (g%256)+pt (g/256%256)+pt (g/65536%256)+pt (g/16777216):=by
 rw[xN hg _ 0 (by decide) (by decide) (by decide),O5 (by omega) (by omega),O5 (by omega) (by omega),O5 (by omega) (by omega),O5 (by have:=hg.1;omega) (by have:=hg.2;omega)]
 obtain⟨g0,g1⟩:=hg
 simp only[List.map_cons,List.map_nil,List.sum_cons,List.sum_nil]
 have e:∀i j:Nat,∀k:Int,i<8->k=2^j->g/2^(i+j)%2=(g/k%256)/2^i%2:=λi j k hi hk=>by
  subst hk
  rw[Nat.add_comm,dR,<-fB (dQ (dO (by decide)))]
  generalize g/2^j=x
  have:i=0\/i=1\/i=2\/i=3\/i=4\/i=5\/i=6\/i=7:=by omega
  rcases this with rfl|rfl|rfl|rfl|rfl|rfl|rfl|rfl<;>simp<;>omega
 have e0:∀i:Nat,i<8->g/2^i%2=(g%256)/2^i%2:=λi hi=>by have:=e i 0 1 hi rfl;simpa using this
 have e24:g/16777216%256=g/16777216:=by omega
 rw[e0 0 (by decide),e0 1 (by decide),e0 2 (by decide),e0 3 (by decide),e0 4 (by decide),e0 5 (by decide),e0 6 (by decide),e0 7 (by decide)]
 rw[e 0 8 256 (by decide) (by decide),e 1 8 256 (by decide) (by decide),e 2 8 256 (by decide) (by decide),e 3 8 256 (by decide) (by decide),e 4 8 256 (by decide) (by decide),e 5 8 256 (by decide) (by decide),e 6 8 256 (by decide) (by decide),e 7 8 256 (by decide) (by decide)]
 rw[e 0 16 65536 (by decide) (by decide),e 1 16 65536 (by decide) (by decide),e 2 16 65536 (by decide) (by decide),e 3 16 65536 (by decide) (by decide),e 4 16 65536 (by decide) (by decide),e 5 16 65536 (by decide) (by decide),e 6 16 65536 (by decide) (by decide),e 7 16 65536 (by decide) (by decide)]
 rw[e 0 24 16777216 (by decide) (by decide),e 1 24 16777216 (by decide) (by decide),e 2 24 16777216 (by decide) (by decide),e 3 24 16777216 (by decide) (by decide),e 4 24 16777216 (by decide) (by decide),e 5 24 16777216 (by decide) (by decide),e 6 24 16777216 (by decide) (by decide),e 7 24 16777216 (by decide) (by decide),e24]
 generalize g%256=a
 generalize g/256%256=b
 generalize g/65536%256=c
 generalize g/16777216=d
 simp only[show(2:Int)^0=1 from rfl,show(2:Int)^1=2 from rfl,show(2:Int)^2=4 from rfl,show(2:Int)^3=8 from rfl,show(2:Int)^4=16 from rfl,show(2:Int)^5=32 from rfl,show(2:Int)^6=64 from rfl,show(2:Int)^7=128 from rfl,Int.ediv_one]
 omega
theorem wZ(h0:0<=a)(h1:a<256):0<=pt a/\pt a<=8:=by rw[O5 h0 h1];omega
theorem Zbe(hg:U b.C4):Uq b=Ma b/\0<=Ma b/\Ma b<=32:=by
 obtain⟨s8,BB,uO⟩:=Hg b.C4
 have u8:U (bg .u32 b.C4 8):=AU hg _
 have u16:U (bg .u32 b.C4 16):=AU hg _
 have e:Uq b=Yt b.C4:=rfl
 rw[e,vN,qN,xl hg,CC u8,CC u16,CC hg,s8,BB,uO]
 obtain⟨g0,g1⟩:=hg
 have p0:=wZ (a:=b.C4%256) (by omega) (by omega)
 have p1:=wZ (a:=b.C4/256%256) (by omega) (by omega)
 have p2:=wZ (a:=b.C4/65536%256) (by omega) (by omega)
 have p3:=wZ (a:=b.C4/16777216) (by omega) (by omega)
 have w8:∀x,wrap .u8 x=x%256:=λx=>wrap_u8 x
 rw[w8,w8,w8,wrap_i64]
 omega
theorem Zis(h:okB b):O6 b=O7 b:=by
 obtain⟨e,l0,l1⟩:=Zbe h.2
 obtain⟨t0,t1⟩:=h.1
 simp only[O6,Me,O7,Yu,Tree.m,df,e]
 rw[wrap_u32,wrap_u64,wrap_u64,dM l0 (by omega),dM l0 (by omega),dM t0 (by omega)]
theorem Zs7(h:okB b)(port:Int):Yv b port=Q5 b port:=by
 simp only[Yv,LH,Q5,Mf,Tree.m,df,(Zbe h.2).1]
theorem zar(g:Int)(z:Nat):g%2^(z+1)=g%2^z+2^z*(g/2^z%2):=by
 have hp:(0:Int)<2^z:=dO (by decide)
 have h1:=fC g (2^z)
 have h2:=fC (g/2^z) 2
 have h3:(g/2^z)/2=g/2^(z+1):=by rw[fD,fB (dQ hp)]
 have h4:=fC g (2^(z+1))
 rw[h3]at h2
 have h5:(2:Int)^(z+1)*(g/2^(z+1))=2^z*(2*(g/2^(z+1))):=by rw[fD,Int.mul_assoc]
 have h6:(2:Int)^z*(g/2^z)=2^z*(2*(g/2^(z+1)))+2^z*(g/2^z%2):=by rw[<-Int.mul_add,h2]
 omega
theorem qaK(hg:U b.C4)(hP:P<=32):(Mg b P).w (λr=>r=decide (b.C4<2^P)):=by
 unfold Mg
 have fin:∀v:Int,0<=v->v<=32->wrap .u64 v=(v.toNat:Int):=λv h0 h1=>by rw[wrap_u64];omega
 refine fi (inv:=λz:Int=>0<=z/\z<=32/\b.C4%2^z.toNat<2^P) (μ:=Ur b P) ⟨by decide,by decide,by have:(0:Int)<2^P:=dO (by decide);simpa using this⟩ (cO _) λz ⟨z0,z1,z2⟩=>?_
 refine aa (λhb=>?_) (λhb=>?_)
 ·have hb:=oY hb
  have ew:i64.wrap (z+1)=z+1:=Ef (by omega) (by omega)
  have bt:bd .u32 (bg .u32 b.C4 (wrap .u64 z)) 1=b.C4/2^z.toNat%2:=by
   rw[fin z z0 z1,FN (AU hg _),Em _ (by omega)]
  have bp:=zar b.C4 z.toNat
  have zt:(z+1).toNat=z.toNat+1:=by omega
  refine au (dY (by rw[wrap_u64];omega)) ?_
  rw[bt]
  refine aa (λe=>aa (λhp=>?_) (λhp=>ea ?_)) (λe=>ea ?_)
  ·have e:=eq_of_beq e
   have hp:=oY hp
   show false=_
   refine(dN λbz=>?_).symm
   have hle:(2:Int)^P<=2^z.toNat:=by exact_mod_cast dT (show 0<2 by decide) (show P<=z.toNat by omega)
   have:b.C4/2^z.toNat=0:=Int.ediv_eq_zero_of_lt hg.1 (by omega)
   rw[this]at e;cases e
  ·have e:=eq_of_beq e
   have hp:=oN hp
   show(0<=i64.wrap (z+1)/\i64.wrap (z+1)<=32/\b.C4%2^(i64.wrap (z+1)).toNat<2^P)/\(32-i64.wrap (z+1)).toNat<(32-z).toNat
   rw[ew,zt]
   have hle:(2:Int)^(z.toNat+1)<=2^P:=by exact_mod_cast dT (show 0<2 by decide) (show z.toNat+1<=P by omega)
   have:=Int.emod_lt_of_pos b.C4 (show(0:Int)<2^(z.toNat+1) from dO (by decide))
   exact⟨⟨by omega,by omega,by omega⟩,by omega⟩
  ·have e:¬b.C4/2^z.toNat%2=1:=by simpa using e
   have e:b.C4/2^z.toNat%2=0:=by omega
   rw[e]at bp
   show(0<=i64.wrap (z+1)/\i64.wrap (z+1)<=32/\b.C4%2^(i64.wrap (z+1)).toNat<2^P)/\(32-i64.wrap (z+1)).toNat<(32-z).toNat
   rw[ew,zt,bp]
   exact⟨⟨by omega,by omega,by omega⟩,by omega⟩
 ·have hb:=oN hb
  have:z=32:=by omega
  subst this
  show true=_
  refine(dY ?_).symm
  have h2:b.C4%2^(32:Int).toNat=b.C4:=dM hg.1 hg.2
  rwa [h2]at z2
theorem Zo5(hg:U b.C4)(hP:P<=32):uM b P=Us b P:=by
 have r:=(Tree.pp (qaK hg hP)).2
 change Us b P=_ at r
 rw[r,eI,Oz hg,decide_eq_true_eq]
theorem O8:strings_Repeat [(0:UInt8)] 128=cQ 128 0:=by kernel_rfl
theorem zaK{m:List Int}(hm:fg P m){port:Int}(hv:U v)(hp:v<P)(Jw:port=10)(hb:(bd .u32 (bg .u32 b.C4 v) 1==0)=true):(BD b m port v).w (λr=>r.1={C7:=b.C7,C4:=ij .u32 b.C4 (ek .u32 1 v)}/\fg P r.2/\∀k:Nat,lN r.2 k=if v*128<=k/\(k:Int)<v*128+128 then 0 else lN m k):=by
 have wR:decide (0<=v)=true:=dY hv.1
 have h2:=hm.p2
 have pg:ob m v=true:=by rw[FO hm hv];exact dY hp
 obtain⟨v1,v2⟩:=hv
 subst Jw
 unfold BD
 refine aa (λ_=>aq λx0 hx=>aa (λ_=>au wR (aa (λ_=>au wR ?_) (λh=>by rw[hb]at h;cases h))) (λh=>by rw[hx,pg]at h;cases h)) (λh=>by cases h)
 refine fi (inv:=λz=>0<=z.1/\z.1<=32/\fg P z.2/\∀k:Nat,lN z.2 k=if v*128<=k/\(k:Int)<v*128+4*z.1 then 0 else lN m k) (μ:=Yw b m 10 v) ⟨show(0:Int)<=0 by decide,show(0:Int)<=32 by decide,hm,λk=>by rw[if_neg];show¬(_/\_<_+4*(0:Int));omega⟩ (cO _) (λz hz=>?_)
 obtain⟨z1,z2,z3,z4⟩:=hz
 have hl:=z3.len
 refine aa (λh=>?_) (λh=>⟨rfl,z3,λk=>?_⟩)
 ·have h:=oY h
  have e:wrap i64 (wrap i64 (wrap i64 v*32)+z.1)=v*32+z.1:=by rw[wrap_i64,wrap_i64,wrap_i64];omega
  refine au (by rw[e];simp[bJ];omega) (ea ?_)
  have ew:i64.wrap (z.1+1)=z.1+1:=by rw[wrap_i64];omega
  show(0<=i64.wrap (z.1+1)/\i64.wrap (z.1+1)<=32/\fg P (dG _ _ _)/\∀k:Nat,lN (dG z.2 (dF (wrap i64 (wrap i64 (wrap i64 v*32)+z.1))) 0) k=if v*128<=(k:Int)/\(k:Int)<v*128+4*i64.wrap (z.1+1)then 0 else _)/\(32-i64.wrap (z.1+1)).toNat<(32-z.1).toNat
  rw[ew,e]
  refine⟨⟨by omega,by omega,⟨by simp[hl],z3.p1,z3.p2,Ek z3.u ey _⟩,λk=>?_⟩,by omega⟩
  rw[XZ (by omega)]
  by_cases hc:k/4=(v*32+z.1).toNat
  ·rw[if_pos hc,if_pos (by omega)]
   have:k%4=0\/k%4=1\/k%4=2\/k%4=3:=by omega
   rcases this with h|h|h|h<;>rw[h]<;>rfl
  ·rw[if_neg hc,z4 k]
   by_cases hd:v*128<=(k:Int)/\(k:Int)<v*128+4*z.1
   ·rw[if_pos hd,if_pos (by omega)]
   ·rw[if_neg hd,if_neg (by omega)]
 ·have h:=oN h
  show lN z.2 k=_
  rw[z4 k,show z.1=32 by omega];rfl
theorem Yx(hg:U g)(v0:0<=v)(v1:v<32):(bd .u32 g (ek .u32 1 v)==0)=(bd .u32 (bg .u32 g v) 1==0):=by
 obtain⟨z,rfl⟩:∃z:Nat,v=z:=⟨v.toNat,by omega⟩
 obtain⟨n,rfl⟩:∃n:Nat,g=n:=⟨g.toNat,by have:=hg.1;omega⟩
 have hz:z<32:=by omega
 have bz:(2:Nat)^z<4294967296:=by have:=eC (show 1<2 by omega) hz;simpa using this
 rw[FN (AU hg _),Em z (by omega),zh v0 v1,eD]
 have hc:((2:Int)^z)=((2^z:Nat):Int):=by simp
 generalize hq:2^z=q at*
 rw[hc,XR hg ⟨by omega,by omega⟩,eD,eD,<-hq]
 have e1:(n&&&2^z)=0↔n/2^z%2=0:=by
  have t:n.testBit z=decide (n/2^z%2=1):=Nat.testBit_eq_decide_div_mod_eq
  constructor
  ·intro h
   have h2:(n&&&2^z).testBit z=false:=by rw[h];exact fE z
   rw[fF,Nat.testBit_two_pow_self,Bool.and_true,t]at h2
   have:=oN h2
   omega
  ·intro h
   have t0:n.testBit z=false:=by rw[t];exact dN (by omega)
   apply eM
   intro i
   rw[fF,Nat.testBit_two_pow,fE]
   by_cases hi:z=i
   ·subst hi;rw[t0];rfl
   ·rw[dN hi,Bool.and_false]
 rw[eI,beq_iff_eq,beq_iff_eq]
 constructor
 ·intro h;have:=e1.1 (by omega);omega
 ·intro h;have:=e1.2 (by omega);omega
theorem Zoa{m:List Int}(h:fg P m)(hb:okB b)(port:Int)(hv:U v):Hr b m port v=AZ b m port v:=by
  have gl:jH m=m:=rfl
  have hp:=sf h
  have h2:=h.p2
  have ew:i64.wrap v=v:=Ef (by have:=hv.1;omega) (by have:=hv.2;omega)
  have pe:=FO h hv
  by_cases Yy:v<32
  . have bv :=Yx hb.2 hv.1 Yy
    by_cases Jw:port=10
    . by_cases hP:v<P
      . cases hz:bd .u32 (bg .u32 b.C4 v) 1==0
        . simp only[Hr,Eo,AZ,BD,Tree.m,df,gl,hp,ew,pe,bv,hz,Jw,dY hP,dN (show¬v>=32 by omega)]
          rfl
        . obtain⟨g1,g2,g3⟩:=(Tree.pp (zaK h hv hP Jw hz)).2
          change(AZ b m port v).1=_ at g1
          change fg P (AZ b m port v).2 at g2
          change∀k:Nat,lN (AZ b m port v).2 k=_ at g3
          obtain⟨s1,s2,s3⟩:=(Tree.pp (X1 h hv.1 hP (s:=cQ 128 0) (by simp))).2
          have em:(Ew m v (cQ 128 0)).1=(AZ b m port v).2:=by
            refine Zo (s2.len.trans g2.len.symm) s2.u g2.u λk=> ?_
            rw[g3 k]
            refine(s3 k).trans ?_
            by_cases hk:v*128<=(k:Int)/\(k:Int)<v*128+128
            . rw[if_pos hk,if_pos hk]
              have:(cQ 128 (0:UInt8)).getD ((k:Int)-v*128).toNat 0=0:=by
                rw[cP,List.getElem?_replicate]
                split<;>rfl
              rw[this];rfl
            . rw[if_neg hk,if_neg hk]
          have el:Hr b m port v=({C7:=b.C7,C4:=ij .u32 b.C4 (ek .u32 1 v)},(Ew m v (cQ 128 0)).1):=by
            simp only[Hr,Eo,Tree.m,df,gl,hp,ew,bv,hz,Jw,dY hP,dN (show¬v>=32 by omega),O8]
            rfl
          rw[el,em,<-g1]
      . simp only[Hr,Eo,AZ,BD,Tree.m,df,gl,hp,ew,pe,Jw,dN hP,dN (show¬v>=32 by omega)]
        rfl
    . simp only[Hr,Eo,AZ,BD,Tree.m,df,gl,dY Yy,dN (show¬v>=32 by omega),show(port==10)=false by simpa using Jw]
      cases port==11<;>rfl
  . simp only[Hr,Eo,AZ,BD,Tree.m,df,gl,pe,dN Yy,dY (show v>=32 by omega),dN (show¬v<P by omega)]
    cases port==10<;>cases port==11<;>rfl
structure pF(m:av):Prop where
 lK:iz m.B0
 mem:∀w∈m.Mem,U w
 kQ:oG m.A7
 si:pB m.C1
 tW:okB m.A2
 lM:0<=m.A1
theorem O9(m:List Int)(hm:∀w∈m,U w):me m=wX m/\(me m=0\/∃P:Nat,1<=P/\fg P m):=by
 refine⟨rfl,?_⟩
 simp only[me,Ls,Tree.m]
 cases h1:dE (m.length:Int) 32 !=0
 ·cases h2:decide ((m.length:Int)>1024)
  ·have h1:dE (m.length:Int) 32=0:=by simpa using h1
   have h2:=oN h2
   rw[eF (by omega)]at h1
   by_cases h0:m.length=0
   ·left;rw[h0];rfl
   ·right;exact⟨m.length/32,by omega,⟨by omega,by omega,by omega,hm⟩⟩
  ·left;rfl
 ·left;rfl
theorem CJ{a x:Bool}:(bif !a then false else x)=true↔a=true/\x=true:=by cases a<;>simp
theorem qO(m:av):o9 m=true↔ ¬(wX m.Mem<1)/\mZ m.B0/\Qi1 m.A3=true/\Ul m.A9=true/\Un m.A7 (wX m.Mem)=true/\Um m.C1 (wX m.Mem)=true/\Us m.A2 (wX m.Mem)=true/\m.A1<=1152921504606846976/\¬(m.A4=true/\m.A6=true):=by
 simp only[o9,Yz,Tree.m,df]
 rw[nn,nn,nn,nn,nn,nn,CJ,CJ,CJ,CJ,CJ]
 simp only[decide_eq_false_iff_not,Int.not_lt,bne_eq_false_iff_eq,gt_iff_lt]
 have l:((bif decide (m.A1<=1152921504606846976)then(bif m.A4 then !m.A6 else true)else false)=true)↔m.A1<=1152921504606846976/\¬(m.A4=true/\m.A6=true):=by
  by_cases hc:m.A1<=1152921504606846976
  ·rw[dY hc]
   cases m.A4<;>cases m.A6<;>simp[hc]
  ·rw[dN hc];simp[hc]
 rw[l]
 constructor
 ·rintro⟨a1,a2,a3,a4,a5,a6,a7⟩
  exact⟨by omega,⟨a2,a3,a4,a5,a6⟩,a7⟩
 ·rintro⟨a1,⟨a2,a3,a4,a5,a6⟩,a7⟩
  exact⟨by omega,a2,a3,a4,a5,a6,a7⟩
theorem Jx{m:av}(h:pF m):mX m=o9 m:=by
 rw[eI,G6,qO,vg]
 obtain⟨e,c⟩:=O9 m.Mem h.mem
 simp only[aE,<-e]
 rcases c with c|⟨P,hP,hm⟩
 ·constructor
  ·rintro⟨a,_⟩;exact absurd c a
  ·rintro⟨a,_⟩;omega
 ·rw[sf hm,Z7z,Zfv,Zkz,Zo5 h.tW.2 hm.p2]
  constructor
  ·rintro⟨a1,a2,a3,a4,a5,a6,a7,a8,a9⟩;exact⟨by omega,a2,a5,a6,a7,a8,a9,a3,a4⟩
  ·rintro⟨a1,a2,a5,a6,a7,a8,a9,a3,a4⟩;exact⟨by omega,a2,a3,a4,a5,a6,a7,a8,a9⟩
def Ut(a b c d e:Bool):Int:=ij .u32 (ij .u32 (ij .u32 (ij .u32 (EB a 0) (EB b 1)) (EB c 2)) (EB d 3)) (EB e 4)
theorem Jy(m:av):Uu m=Ut (YA m.A9) (Q9 m.A3) (Ly m.A7) (YC m.C1) (O6 m.A2):=by
 unfold Uu Mh
 simp only[Tree.m,df]
 generalize YA m.A9=a
 generalize Q9 m.A3=b
 generalize Ly m.A7=c
 generalize YC m.C1=d
 generalize O6 m.A2=e
 cases a<;>cases b<;>cases c<;>cases d<;>cases e<;>kernel_rfl
theorem Zql(a b c d e:Bool):0<=Ut a b c d e/\Ut a b c d e<32:=by
 cases a<;>cases b<;>cases c<;>cases d<;>cases e<;>decide
theorem CK(m:av):Pa m=Ut (YD m.A9) (Uo m.A3) (YE m.A7) (YF m.C1) (O7 m.A2):=rfl
section
variable {m:av} (h:pF m)
include h
theorem Zqt:Uu m=Pa m:=by
 rw[Jy,CK,zN,Zis h.tW];rfl
theorem Z0c:Mi m=BE m:=by
 have e:=Zqt h
 simp only[Mi,Hs,BE,Mj,Tree.m,df,e]
theorem Ziy:LK m=pH m:=by
 have e:=Z0c h
 simp only[LK,Ht,pH,Mk,Tree.m,df,e]
theorem Uv:AT m=!mJ m:=by
 have e1:=Jx h
 have e2:=Ziy h
 have e3:decide (m.A1>=1152921504606846976)=!decide (m.A1<1152921504606846976):=ql
 simp only[AT,Jk,mJ,Jz,Tree.m,df,e1,e2,e3]
 cases o9 m<;>cases m.A6<;>cases pH m<;>cases decide (m.A1<1152921504606846976)<;>rfl
theorem Zax:0<=BE m/\BE m<32:=by
 have e:BE m=bd .u32 (Pa m) m.B0.B3.a7:=rfl
 have l:=Zql (YD m.A9) (Uo m.A3) (YE m.A7) (YF m.C1) (O7 m.A2)
 rw[<-CK]at l
 rw[e,XR ⟨l.1,by omega⟩ h.lK.a7]
 have:=eB (n:=(Pa m).toNat) (m:=m.B0.B3.a7.toNat)
 omega
def low(l:Int):Int:=if l%2=1 then 0 else if l/2%2=1 then 1 else if l/4%2=1 then 2 else if l/8%2=1 then 3 else 4
end
theorem w4{l:Int}(h0:0<=l)(h1:l<32):l=0\/l=1\/l=2\/l=3\/l=4\/l=5\/l=6\/l=7\/l=8\/l=9\/l=10\/l=11\/l=12\/l=13\/l=14\/l=15\/l=16\/l=17\/l=18\/l=19\/l=20\/l=21\/l=22\/l=23\/l=24\/l=25\/l=26\/l=27\/l=28\/l=29\/l=30\/l=31:=by omega
def JA(m:av)(l:Int):bm:=bif bd .u32 m.B0.B3.a0 2==0 then m.B0 else bif l==0 then m.B0 else rb m.B0 (wrap .i64 (16+low l)) 0
theorem Pb{m:av}(h:pF m):mf m=JA m (BE m):=by
 obtain⟨l0,l1⟩:=Zax h
 unfold mf Ml
 simp only[Tree.m,df]
 revert l0 l1
 generalize BE m=l
 intro l0 l1
 unfold JA
 cases bd .u32 m.B0.B3.a0 2==0
 ·rcases w4 l0 l1 with rfl|rfl|rfl|rfl|rfl|rfl|rfl|rfl|rfl|rfl|rfl|rfl|rfl|rfl|rfl|rfl|rfl|rfl|rfl|rfl|rfl|rfl|rfl|rfl|rfl|rfl|rfl|rfl|rfl|rfl|rfl|rfl<;>kernel_rfl
 ·rfl
def YG(m:av)(c:bm):av:={B0:=c,Mem:=m.Mem,A3:=m.A3,A9:=m.A9,A7:=m.A7,C1:=m.C1,A2:=m.A2,A1:=m.A1,A4:=false,A6:=m.A6}
theorem Zb4{m:av}(h:pF m)(jZ:m.B0.B3.a0<=31):nB m=YG m (mf m):=by
 obtain⟨l0,l1⟩:=Zax h
 have tr:∀k b,rH m.B0 k b=rb m.B0 k b:=OO h.lK.a0.1 jZ
 have e:Mi (YG m m.B0)=BE m:=Z0c (m:=YG m m.B0) ⟨h.lK,h.mem,h.kQ,h.si,h.tW,h.lM⟩
 rw[Pb h]
 unfold nB G7
 simp only[Tree.m,df]
 rw[show Mi {B0:=m.B0,Mem:=m.Mem,A3:=m.A3,A9:=m.A9,A7:=m.A7,C1:=m.C1,A2:=m.A2,A1:=m.A1,A4:=false,A6:=m.A6}=BE m from e]
 revert l0 l1
 generalize BE m=l
 intro l0 l1
 unfold JA
 simp only[<-tr]
 cases bd .u32 m.B0.B3.a0 2==0
 ·rcases w4 l0 l1 with rfl|rfl|rfl|rfl|rfl|rfl|rfl|rfl|rfl|rfl|rfl|rfl|rfl|rfl|rfl|rfl|rfl|rfl|rfl|rfl|rfl|rfl|rfl|rfl|rfl|rfl|rfl|rfl|rfl|rfl|rfl|rfl<;>(show _=_;kernel_rfl)
 ·rfl
theorem Hu:p=0\/p=1\/p=2\/p=3\/p=4\/p=5\/p=6\/p=7\/p=8\/p=9\/p=10\/p=11\/p<0\/12<=p:=by omega
theorem xar{m:av}(hb:okB m.A2)(port clock:Int):uS m port clock=((w5 m port clock).2,(w5 m port clock).1):=by
 have e1:=Zqp m.A3
 have e2:∀p,OB m.A7 p=Uw m.A7 p:=λ_=>rfl
 have e3:=Zr0 m.C1
 have e4:=Zs7 hb
 have e5:XH m.A9=Ux m.A9:=rfl
 simp only[uS,LF,w5,Qf,Tree.m,df,e1,e2,e3,e4,e5]
 rcases Hu (p:=port)with rfl|rfl|rfl|rfl|rfl|rfl|rfl|rfl|rfl|rfl|rfl|rfl|h|h
 all_goals first|rfl|skip
 ·have n:∀k:Int,0<=k->(port==k)=false:=λk hk=>beq_eq_false_iff_ne.2 (by omega)
  have c:Ju m.A3 port=(m.A3,0):=by
   simp only[Ju,Ho,Tree.m,n 0 (by decide),n 1 (by decide),cond_false]
  simp only[n 0 (by decide),n 1 (by decide),n 2 (by decide),n 3 (by decide),n 4 (by decide),n 5 (by decide),n 6 (by decide),n 7 (by decide),n 8 (by decide),n 9 (by decide),n 10 (by decide),n 11 (by decide),cond_false,dY (show port<=1 by omega),cond_true,c]
 ·have n:∀k:Int,k<12->(port==k)=false:=λk hk=>beq_eq_false_iff_ne.2 (by omega)
  have c:Q5 m.A2 port=0:=by
   simp only[Q5,Mf,Tree.m,n 10 (by decide),n 11 (by decide),cond_false]
  simp only[n 0 (by decide),n 1 (by decide),n 2 (by decide),n 3 (by decide),n 4 (by decide),n 5 (by decide),n 6 (by decide),n 7 (by decide),n 8 (by decide),n 9 (by decide),n 10 (by decide),n 11 (by decide),cond_false,dN (show¬port<=1 by omega),dN (show¬port<=6 by omega),dN (show¬port<=9 by omega),c]
theorem xO{m:av}(hm:fg P m.Mem)(hb:okB m.A2)(port:Int)(hv:U v):FP m port v m.A1=((Ba m port v).2,(Ba m port v).1):=by
 have e1:=Zl2 hm m.A7
 have e2:=Zo4 hm m.C1
 have e3:=Zoa hm hb port hv
 have e4:=yN m.A9 v
 simp only[FP,LD,Ba,Fy,Tree.m,df,e1,e2,e3,e4]
 rcases Hu (p:=port)with rfl|rfl|rfl|rfl|rfl|rfl|rfl|rfl|rfl|rfl|rfl|rfl|h|h
 all_goals first|rfl|skip
 ·have n:∀k:Int,0<=k->(port==k)=false:=λk hk=>beq_eq_false_iff_ne.2 (by omega)
  simp only[n 0 (by decide),n 1 (by decide),n 2 (by decide),n 3 (by decide),n 4 (by decide),n 5 (by decide),n 6 (by decide),n 7 (by decide),n 8 (by decide),n 9 (by decide),n 10 (by decide),n 11 (by decide),cond_false,dY (show port<=2 by omega),cond_true]
 ·have n:∀k:Int,k<12->(port==k)=false:=λk hk=>beq_eq_false_iff_ne.2 (by omega)
  have c:AZ m.A2 m.Mem port v=(m.A2,m.Mem):=by
   simp only[AZ,BD,Tree.m,n 10 (by decide),n 11 (by decide),cond_false]
  simp only[n 0 (by decide),n 1 (by decide),n 2 (by decide),n 3 (by decide),n 4 (by decide),n 5 (by decide),n 6 (by decide),n 7 (by decide),n 8 (by decide),n 9 (by decide),n 10 (by decide),n 11 (by decide),cond_false,dN (show¬port<=2 by omega),dN (show¬port<=6 by omega),dN (show¬port<=9 by omega),c]
def tick(n:av)(c:bm)(w h:Bool):av:={B0:=c,Mem:=n.Mem,A3:=n.A3,A9:=n.A9,A7:=n.A7,C1:=n.C1,A2:=n.A2,A1:=wrap .u64 (n.A1+1),A4:=w,A6:=h}
def CL(m:av)(c:bm)(mem:List Int):av:={B0:=c,Mem:=mem,A3:=m.A3,A9:=m.A9,A7:=m.A7,C1:=m.C1,A2:=m.A2,A1:=m.A1,A4:=false,A6:=m.A6}
def FQ(n:av)(e:kT)(clock cr:Int):av×List dk:=
 bif e.C0==1 then
  (bif e.E0 !=0 then(tick (uS n e.D1 clock).1 {X:=gn.of 0 (dG (gn.l (uS n e.D1 clock).1.B0.X) e.E0.toNat (uS n e.D1 clock).2),Pc:=(uS n e.D1 clock).1.B0.Pc,B3:=(uS n e.D1 clock).1.B0.B3} (uS n e.D1 clock).1.A4 (uS n e.D1 clock).1.A6,[])
  else(tick (uS n e.D1 clock).1 (uS n e.D1 clock).1.B0 (uS n e.D1 clock).1.A4 (uS n e.D1 clock).1.A6,[]))
 else bif e.C0==2 then(tick (FP n e.D1 e.Value cr).1 (FP n e.D1 e.Value cr).1.B0 (FP n e.D1 e.Value cr).1.A4 (FP n e.D1 e.Value cr).1.A6,(FP n e.D1 e.Value cr).2)
 else bif e.C0==3 then(tick n n.B0 true n.A6,[])else bif e.C0==4 then(tick n n.B0 n.A4 true,[])else(tick n n.B0 n.A4 n.A6,[])
def CM(n:av)(e:kT)(clock:Int):List dk×av:=
 bif e.C0==1 then([],tick (w5 n e.D1 clock).2 (lO (w5 n e.D1 clock).2.B0 e.E0 (w5 n e.D1 clock).1) (w5 n e.D1 clock).2.A4 (w5 n e.D1 clock).2.A6)
 else bif e.C0==2 then((Ba n e.D1 e.Value).1,tick (Ba n e.D1 e.Value).2 (Ba n e.D1 e.Value).2.B0 (Ba n e.D1 e.Value).2.A4 (Ba n e.D1 e.Value).2.A6)
 else bif e.C0==3 then([],tick n n.B0 true n.A6)else bif e.C0==4 then([],tick n n.B0 n.A4 true)else([],tick n n.B0 n.A4 n.A6)
theorem yZ(m:av)(clock:Int):fe m clock=CM (CL m (re (mf m) m.Mem).1 (re (mf m) m.Mem).2.2) (re (mf m) m.Mem).2.1 clock:=by kernel_rfl
theorem Zoh(m:av)(clock:Int):Bb m clock=bif !AT m then(m,[])else FQ {B0:=(wY (nB m).B0 (nB m).Mem).1,Mem:=(wY (nB m).B0 (nB m).Mem).2.1,A3:=(nB m).A3,A9:=(nB m).A9,A7:=(nB m).A7,C1:=(nB m).C1,A2:=(nB m).A2,A1:=(nB m).A1,A4:=(nB m).A4,A6:=(nB m).A6} (wY (nB m).B0 (nB m).Mem).2.2 clock m.A1:=by kernel_rfl
theorem qas(m:List Int):YH m=m:=by
 simp[YH,Mm,Tree.m]
theorem FR(m:av):Hv m=m:=by
 simp only[Hv,GU,Tree.m,df,qas]
theorem YI(m:av)(clock:Int):YJ m clock=bif mJ m then(m,[])else((fe m clock).2,(fe m clock).1):=by
 simp only[YJ,Z77,Tree.m,df,FR]
theorem zO{n:av}(hm:fg P n.Mem)(hb:okB n.A2){e:kT}(hr:0<=e.E0/\e.E0<16)(hv:U e.Value)(clock:Int):FQ n e clock n.A1=((CM n e clock).2,(CM n e clock).1):=by
 unfold FQ CM
 rw[xar hb e.D1 clock,xO hm hb e.D1 hv]
 cases e.C0==1
 ·cases e.C0==2
  ·cases e.C0==3
   ·cases e.C0==4<;>rfl
   ·rfl
  ·rfl
 ·generalize w5 n e.D1 clock=r
  have s:=Uf r.2.B0 hr r.1
  show(bif e.E0 !=0 then _ else _)=(tick r.2 (lO r.2.B0 e.E0 r.1) r.2.A4 r.2.A6,[])
  rw[<-s]
  simp only[uR,FI,Tree.m]
  cases e.E0 !=0<;>rfl
theorem Zh4{m:av}(h:pF m)(clock:Int):Bb m clock=YJ m clock:=by
 rw[Zoh,YI,Uv h]
 cases hs:mJ m
 ·have hr:AT m=true:=by rw[Uv h,hs];rfl
  obtain⟨hm,hh,Ou⟩:=TU hr
  obtain⟨g1,g2,g3,g4,g5⟩:=(G6 m).1 hm
  rcases(O9 m.Mem h.mem).2 with c|⟨P,hP,gz⟩
  ·exact absurd c g1
  have YL:rG P m:=⟨h.lK,gz,h.kQ,h.si,h.tW.1,h.tW.2⟩
  obtain⟨b1,b2,b3,_⟩:=(Tree.pp (XL YL g2)).2
  change mZ (nB m).B0 at b1
  change rG P (nB m)at b2
  change(nB m).Mem=m.Mem at b3
  have be:=Zb4 h g2.st
  have Uy:mZ (mf m):=by have:=b1;rw[be]at this;exact this
  have Mn:iz (mf m):=by have:=b2.lK;rw[be]at this;exact this
  have ex:=Zkt gz Mn Uy.st
  have er:=(Tree.pp (Zph Mn gz)).2
  change 0<=(wY (mf m) m.Mem).2.2.E0/\(wY (mf m) m.Mem).2.2.E0<16 at er
  obtain⟨d1,d2,d3⟩:=(Tree.pp (Fz Mn gz)).2
  change U (re (mf m) m.Mem).2.1.Value at d2
  change fg P (re (mf m) m.Mem).2.2 at d3
  rw[ex]at er
  rw[yZ,be]
  show FQ {B0:=(wY (mf m) m.Mem).1,Mem:=(wY (mf m) m.Mem).2.1,A3:=m.A3,A9:=m.A9,A7:=m.A7,C1:=m.C1,A2:=m.A2,A1:=m.A1,A4:=false,A6:=m.A6} (wY (mf m) m.Mem).2.2 clock m.A1=_
  rw[ex]
  exact zO (n:=CL m (re (mf m) m.Mem).1 (re (mf m) m.Mem).2.2) d3 h.tW er d2 clock
 ·rfl
theorem Zay{m:av}(h:pF m)(e:ib):Mo m e=Pd m e:=by
 have gl:jH m.Mem=m.Mem:=rfl
 have mm:=Jx h
 have t1:TM m.A9=Uz m.A9:=rfl
 have t2:∀b,Qps m.A3 b=YM m.A3 b:=λ_=>rfl
 simp only[Mo,Ha,Pd,UA,Q1,FT,Tree.m,df,FR,gl,t1,t2]
 rw[show mX {B0:=m.B0,Mem:=m.Mem,A3:=m.A3,A9:=m.A9,A7:=m.A7,C1:=m.C1,A2:=m.A2,A1:=m.A1,A4:=m.A4,A6:=m.A6}=o9 m from mm]
 cases hM:o9 m
 ·rfl
 have hM':mX m=true:=mm.trans hM
 rcases(O9 m.Mem h.mem).2 with c|⟨P,hP,gz⟩
 ·exact absurd c ((G6 m).1 hM').1
 have cs:=Zgj gz h.kQ e
 have rs:=Zju gz h.si e.D0
 clear mm hM hM' gl h
 obtain⟨c,mem,con,ti,d,n,b,ct,w,hl⟩:=m
 cases hl
 ·by_cases k2:e.C0=2
  ·rw[k2];cases e.N==0<;>cases decide (e.D0=[])<;>rfl
  by_cases k3:e.C0=3
  ·rw[k3];cases decide (e.N<=255)<;>cases decide (e.D0=[])<;>rfl
  by_cases k4:e.C0=4
  ·rw[k4,cs];rfl
  by_cases k5:e.C0=5
  ·rw[k5,rs];cases e.N==0<;>rfl
  by_cases k6:e.C0=6
  ·rw[k6];cases decide (e.D0=[])<;>rfl
  ·rw[show(e.C0==2)=false by simpa using k2,show(e.C0==3)=false by simpa using k3,show(e.C0==4)=false by simpa using k4,show(e.C0==5)=false by simpa using k5,show(e.C0==6)=false by simpa using k6]
   rfl
 ·rfl
section
variable {m:av} (h:pF m) (hl:m.Mem.length<=1024)
include h
theorem s9(hm:mX m=true):∃P,rG P m/\nN P m:=by
 rcases(O9 m.Mem h.mem).2 with c|⟨P,hP,gz⟩
 ·exact absurd c ((G6 m).1 hm).1
 ·exact⟨P,⟨h.lK,gz,h.kQ,h.si,h.tW.1,h.tW.2⟩,⟨h.lK,gz,h.kQ,h.si,h.tW,h.lM⟩⟩
include hl
theorem zl(hk:U clock):Pe m clock/\(Bb m clock).2.length<=1/\(Bb m clock).1.Mem.length<=1024:=by
 cases hr:AT m
 ·have e:Bb m clock=(m,[]):=by rw[Zoh,hr];rfl
  rw[e]
  refine⟨?_,aT _,hl⟩
  have gl:jH m.Mem=m.Mem:=rfl
  show(G9 m clock).p
  unfold Tree.p G9
  refine cj (by show m.Mem.length<=35184372088832;omega) (aq λl hl=>?_)
  rw[gl]at hl;subst hl
  refine cj (Tree.pp (XO (m:=⟨_,_,_,_,_,_,m.A2,_,_,_⟩) h.tW.2)).1 (aq λx1 nP=>aa (λ_=>trivial) (λhb=>?_))
  have:x1=false:=nP.trans hr
  rw[this]at hb;cases hb
 ·obtain⟨P,s,_⟩:=s9 h (TU hr).1
  have g:=Tree.pp (qi s h.lM hk)
  have ml:=g.2.2.ok.mem.len
  have mp:=g.2.2.ok.mem.p2
  exact⟨g.1,g.2.1,by show(G9 m clock).m.1.Mem.length<=1024;omega⟩
omit h hl in
theorem Zpe(h:nN P m)(he:U e.N):(FT m e).w (λx=>nN P x.2):=by
 have k:=h
 obtain⟨h1,h2,h3,h4,h5,h7⟩:=h
 unfold FT
 repeat'(first
  |exact k
  |exact⟨h1,h2,h3,h4,⟨he,h5.2⟩,h7⟩
  |exact aq λ_ _=>⟨h1,h2,h3,h4,h5,h7⟩
  |exact bh (xad _ _) λ_ _=>⟨h1,h2,h3,h4,h5,h7⟩
  |exact bh (Zqe h2 h3 _) λx hx=>⟨h1,hx.2,hx.1,h4,h5,h7⟩
  |exact bh (Zod h2 h4 _) λx hx=>⟨h1,hx.2,h3,hx.1,h5,h7⟩
  |refine aa (λ_=>?_) (λ_=>?_))
theorem Zs2(he:U e.N):Qe1 m e:=by
 cases hm:mX m
 ·have gl:jH m.Mem=m.Mem:=rfl
  show(Ha m e).p
  unfold Tree.p Ha
  refine cj (by show m.Mem.length<=35184372088832;omega) (aq λl hl=>?_)
  rw[gl]at hl;subst hl
  refine cj (Tree.pp (TV (m:=⟨_,_,_,_,_,_,m.A2,_,_,_⟩) h.tW.2)).1 (aq λx1 nP=>aa (λ_=>trivial) (λhb=>?_))
  have:x1=false:=nP.trans hm
  rw[this]at hb;cases hb
 ·obtain⟨P,s,o⟩:=s9 h hm
  exact(Tree.pp (Zob o he)).1

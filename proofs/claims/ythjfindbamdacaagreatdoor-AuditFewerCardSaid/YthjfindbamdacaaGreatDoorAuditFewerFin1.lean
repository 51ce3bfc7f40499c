import Derived.Test.YthjfindbamdacaaGreatDoorAuditFewerLaws2
import Derived.Test.YthjfindbamdacaaGreatDoorAuditFewerNewsB
import Derived.Test.YthjfindbamdacaaGreatDoorAuditFewerZt
open Nat renaming lt_succ_self->cO,blt->bJ,zero_le->aT,le_refl->aO,le_trans->bH,min_le_left->dA,le_of_eq->dL,pow_le_pow_right->dT,and_le_left->eB,pow_lt_pow_right->eC,two_pow_pos->eG,two_pow_add_eq_or_of_lt->eK,eq_of_testBit_eq->eM,testBit_mod_two_pow->eN,testBit->eO,zero_testBit->fD,testBit_and->fE
open List renaming getD_eq_getElem?_getD->cP,getElem?_eq_getElem->cG,replicate->cQ,append->cR,mem_cons->cS,not_mem_nil->cU,length_replicate->cV,length_take->bD,length_drop->bF,mem_of_mem_take->cX,mem_of_mem_drop->cY,length_singleton->cZ,take->dB,drop->dC,ext_getElem->bN,range->dD,set->dG,length_set->dH,length_cons->dI,length_nil->dJ,length->dK,getD->aK,getElem?_take->aU
open Int renaming le_refl->cW,tmod->dE,toNat->dF,emod_eq_of_lt->dM,pow_pos->dO,fdiv_eq_ediv_of_nonneg->dP,le_of_lt->dQ,pow_add->dR,mul_le_mul_of_nonneg_right->dS,lt_or_le->dV,toNat_natCast->eD,tmod_eq_emod_of_nonneg->eF,toNat_of_nonneg->eH,fdiv->eJ,tdiv->eU,tdiv_eq_ediv_of_nonneg->eV,ediv_ediv_of_nonneg->fA,mul_ediv_add_emod->fB,pow_succ->fC
open Bool renaming or_eq_true->aI,eq_iff_iff->eI,noConfusion->eZ
open UInt8 renaming toNat_lt->dU,toNat->eW,ofNat->eX
open BitVec renaming ofInt->dW,toNat_ofInt->dX,toNat_or->dZ,toNat_and->eA,getLsbD->eQ,eq_of_toNat_eq->eR,ofInt_natCast->eS,toNat_ofNat->eT
open Prod renaming ext->eY
set_option maxRecDepth 100000
set_option linter.all false
namespace Go.Proofs.YthjfindbamdacaaGreatDoor
open Go Go.GD
open Go.IntKind(wrap i64 u32 u64 u8 wrap_i64 wrap_u32 wrap_u64 wrap_u8 wrap_i32)
theorem xI(i:gu):U (o7 i).1:=by
 refine Tree.post (Th i) (W:=λr=>U r.1) ?_
 unfold Th
 exact ar λ_ _=>aa (λ_=>ep) (λ_=>nh _ _)
theorem Ti(l:List Int)(hl:l.length*8<=reachBytes):(NV l).w (λr=>(r.length:Int)=l.length/\∀w∈r,U w):=by
 have tJ:l.length*8<=140737488351232:=hl
 have app:∀{r:List Int} {x:Int},(∀w∈r,U w)->U x->∀w∈r++[x],U w:=λhr hx w hw=>by
  rw[List.mem_append]at hw
  rcases hw with hw|hw
  ·exact hr w hw
  ·rw[List.mem_singleton.1 hw];exact hx
 unfold NV
 refine fy (inv:=λz=>Qrk l z/\∀w∈z.2,U w) (μ:=Tj l) ⟨⟨by omega,by simp,by simp⟩,by simp⟩ (cO _) (λv0 hv=>?_)
 obtain⟨⟨h1,h2,h3⟩,h4⟩:=hv
 refine aa (λh=>?_) (λh=>?_)
 ·have h:=oY h
  have next:∀x:Int,U x->(Qrk l (wrap i64 (v0.1+1),v0.2++[x])/\∀w∈v0.2++[x],U w)/\Tj l (wrap i64 (v0.1+1),v0.2++[x])<Tj l v0:=λx hx=>by
   have hw:i64.wrap (v0.1+1)=v0.1+1:=by rw[wrap_i64];omega
   rw[hw]
   refine⟨⟨⟨?_,?_,?_⟩,app h4 hx⟩,?_⟩
   ·show 0<=v0.1+1;omega
   ·show v0.1+1<=l.length;omega
   ·show((v0.2++[x]).length:Int)=v0.1+1;simp;omega
   ·show(l.length-(v0.1+1)).toNat<(l.length-v0.1).toNat;omega
  have hb:(Nat.beq 1 1&&bJ 0 1&&decide (0<=v0.1/\v0.1<(l.length:Int)))=true:=by simp[bJ];omega
  have hc:decide (4*(v0.2.length+1)<=140737488355328)=true:=dY (by omega)
  exact ay hb (aa (λ_=>ay hb (ay hc (next _ (fj _)))) (λ_=>ay hb (cz (yV _) (ar λx0 _=>ar λx1 hx=>ay hc (next _ (by rw[hx];exact xI _))))))
 ·have h:=oN h
  exact⟨by show(v0.2.length:Int)=l.length;omega,h4⟩
theorem Tk(steps:Int):0<=pX steps/\pX steps<=4000:=by
 refine Tree.post (Tl steps) (W:=λr=>0<=r/\r<=4000) ?_
 unfold Tl
 refine fe ?_
 constructor<;>(repeat' split)<;>omega
theorem Zhg{P:Nat}{r:cy}(h:pC P r)(steps:Int){clock:Int}(hc:U clock)(hl:r.D0.length<=900000)(hq:r.B3.length<=1000)(hu:∀q∈r.B3,U q.N):
 (I4 r steps clock).w (λx=>pC P x.1/\x.1.D0.length<=r.D0.length+r.B3.length+8000/\(x.1.B3=r.B3\/x.1.B3=[])/\x.2.length<=4000):=by
 unfold I4
 refine bo (GP h (by omega) (by omega)) λx0 hx=>?_
 obtain⟨k1,k2,k3⟩:=hx
 refine ar λx1 _=>aa (λ_=>⟨k1,by rw[k2];omega,.inl k3,aT _⟩) (λ_=>?_)
 have gm:U (if clock>x0.B6 then clock else x0.B6):=by split<;>first|exact hc|exact k1.clock
 refine fy (inv:=λz=>0<=z.1/\z.1<=r.B3.length/\pC P z.2/\(z.2.D0.length:Int)<=r.D0.length+z.1/\z.2.B3=r.B3) (μ:=Xj r steps clock) ⟨by omega,by omega,⟨k1.m,gm⟩,by rw[k2];omega,k3⟩ (cO _) (λz hz=>?_)
 obtain⟨z1,z2,z3,z4,z5⟩:=hz
 refine aa (λhb=>?_) (λhb=>?_)
 ·have hb:=oY hb
  rw[z5]at hb
  have hm:(z.2.B3.getD z.1.toNat (RK.cu RK.bd))∈r.B3:=by
   rw[z5]
   have cj:z.1.toNat<r.B3.length:=by omega
   rw[cP,cG cj]
   exact List.getElem_mem cj
  refine ay (by rw[z5];simp[bJ];omega) (bo (vA z3 (hu _ hm) (by omega)) λx hx=>ff ?_)
  obtain⟨a1,a2,a3⟩:=hx
  show(0<=i64.wrap (z.1+1)/\i64.wrap (z.1+1)<=r.B3.length/\pC P x/\(x.D0.length:Int)<=r.D0.length+i64.wrap (z.1+1)/\x.B3=r.B3)/\(x.B3.length-i64.wrap (z.1+1)).toNat<(z.2.B3.length-z.1).toNat
  have ew:i64.wrap (z.1+1)=z.1+1:=by rw[wrap_i64];omega
  rw[ew,a3,z5]
  exact⟨⟨by omega,by omega,a1,by omega,rfl⟩,by omega⟩
 ·refine fy (inv:=λy=>0<=y.1/\y.1<=4000/\pC P y.2.1/\(y.2.1.D0.length:Int)<=r.D0.length+r.B3.length+2*y.1/\y.2.1.B3=[]/\(y.2.2.length:Int)<=y.1) (μ:=NW r steps clock z) ⟨by omega,by omega,⟨z3.m,z3.clock⟩,by simp;omega,rfl,by simp⟩ (cO _) (λy hy=>?_)
  obtain⟨y1,y2,y3,y4,y5,y6⟩:=hy
  have ew:i64.wrap (y.1+1)=y.1+1:=by rw[wrap_i64];omega
  refine ar λx3 DX=>aa (λhb=>?_) (λ_=>⟨y3,by show y.2.1.D0.length<=_;omega,.inr y5,by show y.2.2.length<=_;omega⟩)
  have hb:=oY hb
  have lim:=(Tk steps).2
  rw[<-DX]at lim
  refine ar λx4 _=>aa (λ_=>bo (vA (e:=⟨_,_,_⟩) y3 ep (by omega)) λx5 h5=>?_) (λ_=>?_)
  ·obtain⟨q1,q2,q3⟩:=h5
   have q3:=q3.trans y5
   refine bo (Xk _) λs1 _=>aa (λ_=>⟨q1,by show x5.D0.length<=_;omega,.inr q3,by show y.2.2.length<=_;omega⟩) (λ_=>bo (Qye q1.m.mj q1.m.mem) λs2 _=>aa (λ_=>ay (dY (by omega)) (bo (Tm (r:=⟨x5.A0,x5.B6,x5.D0++[_],x5.B3⟩) ⟨q1.m,q1.clock⟩ q1.clock) λo ho=>?_)) (λ_=>bo (Tm q1 q1.clock) λo ho=>?_))
   ·obtain⟨a1,⟨⟨a2,a3⟩,a4,a5⟩⟩:=ho
    have e4:o.2.D0.length=x5.D0.length+1:=by rw[a4];simp
    have a5:o.2.B3=[]:=a5.trans q3
    refine ay (dY (by omega)) (ff ?_)
    show(0<=i64.wrap (y.1+1)/\i64.wrap (y.1+1)<=4000/\pC P _/\(o.2.D0.length:Int)<=r.D0.length+r.B3.length+2*i64.wrap (y.1+1)/\o.2.B3=[]/\((y.2.2++o.1).length:Int)<=i64.wrap (y.1+1))/\(4000-i64.wrap (y.1+1)).toNat<(4000-y.1).toNat
    rw[ew,a5,lA]
    exact⟨⟨by omega,by omega,⟨a2,fj _⟩,by omega,rfl,by omega⟩,by omega⟩
   ·obtain⟨a1,⟨⟨a2,a3⟩,a4,a5⟩⟩:=ho
    have e4:o.2.D0.length=x5.D0.length:=by rw[a4]
    have a5:o.2.B3=[]:=a5.trans q3
    refine ay (dY (by omega)) (ff ?_)
    show(0<=i64.wrap (y.1+1)/\i64.wrap (y.1+1)<=4000/\pC P _/\(o.2.D0.length:Int)<=r.D0.length+r.B3.length+2*i64.wrap (y.1+1)/\o.2.B3=[]/\((y.2.2++o.1).length:Int)<=i64.wrap (y.1+1))/\(4000-i64.wrap (y.1+1)).toNat<(4000-y.1).toNat
    rw[ew,a5,lA]
    exact⟨⟨by omega,by omega,⟨a2,fj _⟩,by omega,rfl,by omega⟩,by omega⟩
  ·refine bo (Xk _) λs1 _=>aa (λ_=>⟨y3,by show y.2.1.D0.length<=_;omega,.inr y5,by show y.2.2.length<=_;omega⟩) (λ_=>bo (Qye y3.m.mj y3.m.mem) λs2 _=>aa (λ_=>ay (dY (by omega)) (bo (Tm (r:=⟨y.2.1.A0,y.2.1.B6,y.2.1.D0++[_],y.2.1.B3⟩) ⟨y3.m,y3.clock⟩ y3.clock) λo ho=>?_)) (λ_=>bo (Tm y3 y3.clock) λo ho=>?_))
   ·obtain⟨a1,⟨⟨a2,a3⟩,a4,a5⟩⟩:=ho
    have e4:o.2.D0.length=y.2.1.D0.length+1:=by rw[a4];simp
    have a5:o.2.B3=[]:=a5.trans y5
    refine ay (dY (by omega)) (ff ?_)
    show(0<=i64.wrap (y.1+1)/\i64.wrap (y.1+1)<=4000/\pC P _/\(o.2.D0.length:Int)<=r.D0.length+r.B3.length+2*i64.wrap (y.1+1)/\o.2.B3=[]/\((y.2.2++o.1).length:Int)<=i64.wrap (y.1+1))/\(4000-i64.wrap (y.1+1)).toNat<(4000-y.1).toNat
    rw[ew,a5,lA]
    exact⟨⟨by omega,by omega,⟨a2,fj _⟩,by omega,rfl,by omega⟩,by omega⟩
   ·obtain⟨a1,⟨⟨a2,a3⟩,a4,a5⟩⟩:=ho
    have e4:o.2.D0.length=y.2.1.D0.length:=by rw[a4]
    have a5:o.2.B3=[]:=a5.trans y5
    refine ay (dY (by omega)) (ff ?_)
    show(0<=i64.wrap (y.1+1)/\i64.wrap (y.1+1)<=4000/\pC P _/\(o.2.D0.length:Int)<=r.D0.length+r.B3.length+2*i64.wrap (y.1+1)/\o.2.B3=[]/\((y.2.2++o.1).length:Int)<=i64.wrap (y.1+1))/\(4000-i64.wrap (y.1+1)).toNat<(4000-y.1).toNat
    rw[ew,a5,lA]
    exact⟨⟨by omega,by omega,⟨a2,fj _⟩,by omega,rfl,by omega⟩,by omega⟩
section
variable {P:Nat} {m:au} (h:nO P m)
include h
theorem NX(port:Int){clock:Int}(hc:U clock):(GQ m port clock).w (λx=>U x.1/\nO P x.2/\x.2.A4=m.A4):=by
 have k:=(⟨h,rfl⟩:nO P m/\m.A4=m.A4)
 obtain⟨h1,h2,h3,h4,h5,h7⟩:=h
 unfold GQ
 exact aa (λ_=>ar λx hx=>⟨hx▸Z2k _ _,⟨⟨h1,h2,h3,h4,h5,h7⟩,rfl⟩⟩) (λ_=>aa (λ_=>⟨hc,k⟩) (λ_=>aa (λ_=>ar λx hx=>⟨hx▸Zio _,k⟩) (λ_=>aa (λ_=>ar λx hx=>⟨hx▸Zo8 h3 _,k⟩) (λ_=>aa (λ_=>ar λx hx=>⟨hx▸yA h4 _,k⟩) (λ_=>ar λx hx=>⟨hx▸Z36 h5.1 _,k⟩)))))
theorem qaF(port:Int){v:Int}(hv:U v):(Fm m port v).w (λx=>x.1.length<=1/\nO P x.2/\x.2.A4=m.A4):=by
 have k:=(⟨h,rfl⟩:nO P m/\m.A4=m.A4)
 obtain⟨h1,h2,h3,h4,h5,h7⟩:=h
 unfold Fm
 exact aa (λ_=>⟨aO _,k⟩) (λ_=>aa (λ_=>⟨aT _,k⟩) (λ_=>aa (λ_=>ar λ_ _=>⟨aT _,⟨⟨h1,h2,h3,h4,h5,h7⟩,rfl⟩⟩) (λ_=>aa (λ_=>bo (Zik h2 h3 _ hv _) λx hx=>⟨hx.2,⟨⟨h1,h2,hx.1,h4,h5,h7⟩,rfl⟩⟩) (λ_=>aa (λ_=>bo (Zmm h2 h4 _ hv _) λx hx=>⟨hx.2,⟨⟨h1,h2,h3,hx.1,h5,h7⟩,rfl⟩⟩) (λ_=>bo (xac h2 h5 _ hv) λx hx=>⟨aT _,⟨⟨h1,hx.2,h3,h4,hx.1,h7⟩,rfl⟩⟩)))))
theorem Z94{clock:Int}(hc:U clock):(K1 m clock).w (λx=>x.1.length<=1/\nO P x.2/\x.2.A4=wrap .u64 (m.A4+1)):=by
 obtain⟨h1,h2,h3,h4,h5,h7⟩:=h
 unfold K1
 refine bo (Tn h1) λx0 c0=>bo (Fo c0 h2) λx1 hx=>?_
 obtain⟨c1,v1,m1⟩:=hx
 refine aa (λ_=>NY (NX (m:=⟨_,_,_,_,_,_,_,_,_,_⟩) ⟨c1,m1,h3,h4,h5,h7⟩ _ hc) λx2 hx=>?_) (λ_=>aa (λ_=>bo (qaF (m:=⟨_,_,_,_,_,_,_,_,_,_⟩) ⟨c1,m1,h3,h4,h5,h7⟩ _ v1) λx4 hx=>?_) (λ_=>?_))
 ·obtain⟨u,⟨k1,k2,k3,k4,k5,k7⟩,k6⟩:=hx
  exact bo (DY k1 _ u) λx3 h3=>⟨aT _,⟨h3,k2,k3,k4,k5,w0 _⟩,congrArg (λn=>wrap .u64 (n+1)) k6⟩
 ·obtain⟨u,⟨k1,k2,k3,k4,k5,k7⟩,k6⟩:=hx
  exact⟨u,⟨k1,k2,k3,k4,k5,w0 _⟩,congrArg (λn=>wrap .u64 (n+1)) k6⟩
 ·repeat'(first
   |exact⟨aT _,⟨c1,m1,h3,h4,h5,w0 _⟩,rfl⟩
   |refine aa (λ_=>?_) (λ_=>?_))
theorem qX:(GR m).w (λx=>nO P x/\x.A4=m.A4):=by
 obtain⟨h1,h2,h3,h4,h5,h7⟩:=h
 unfold GR
 exact bo (qab h2) λx hx=>⟨⟨h1,by rw[hx];exact h2,h3,h4,h5,h7⟩,rfl⟩
end
theorem wM(n:Nat):∀w∈cQ n (0:Int),U w:=λw hw=>by rw[(List.mem_replicate.1 hw).2];exact ep
theorem qaj:nO 0 ⟨⟨⟨0,0,0,0,0,0,0,0,0,0,0,0,0,0,0,0⟩,0,⟨0,0,0,0,0,0,0,0⟩⟩,[],⟨[]⟩,⟨false,0,false⟩,⟨0,0,0,0,0,0,0,[]⟩,⟨0,0,false,0,false,0⟩,⟨0,0⟩,0,false,false⟩:=
 ⟨⟨wM 16,ep,wM 8⟩,⟨rfl,by omega,by omega,λw hw=>by cases hw⟩,⟨ep,ep,ep,ep⟩,⟨ep,ep,ep,ep⟩,⟨ep,ep⟩,by decide⟩
theorem To{P:Nat}{m:au}(h:nO P m)(hc:0<=m.A4):(Fp m [] 87).w (λx=>∃Q,nO Q x.1):=by
 have z:∃Q,nO Q _:=⟨0,qaj⟩
 unfold Fp
 refine ar λx0 _=>aa (λ_=>z) λ_=>aa (λ_=>z) λ_=>aa (λ_=>z) λ_=>cz (show NZ [] by show([]:List ej).length<=1000000000000;decide) (ar λx1 _=>aa (λ_=>z) λ_=>bo (qX h) λx2 hx=>?_)
 refine fy (inv:=λv:au×List dw=>nO P v.1/\0<=v.1.A4/\v.2.length+(87-v.1.A4).toNat<=87) (μ:=Tp m [] 87) ⟨hx.1,by rw[hx.2];exact hc,by rw[hx.2];show 0+_<=87;omega⟩ (cO _) λv0 ⟨a1,a2,a3⟩=>?_
 refine aa (λhb=>aa (λ_=>?_) (λ_=>⟨P,a1⟩)) (λ_=>⟨P,a1⟩)
 have hb:=oY hb
 refine fy (inv:=λ_=>True) (μ:=Tq m [] 87 v0) trivial (cO _) λv1 _=>?_
 refine aa (λ_=>⟨P,a1⟩) λ_=>bo (qac _) λx3 _=>aa (λ_=>⟨P,a1⟩) λ_=>bo (zA a1.mj a1.mem) λx4 _=>aa (λ_=>z) λ_=>bo (Z94 a1 ep) λx5 h5=>?_
 obtain⟨b1,b2,b3⟩:=h5
 refine ay (dY (by omega)) (ff ?_)
 have e:x5.2.A4=v0.1.A4+1:=by rw[b3,wrap_u64];omega
 show(_/\_/\_)/\(_:Nat)<_
 refine⟨⟨b2,by show 0<=x5.2.A4;omega,by show(v0.2++x5.1).length+(87-x5.2.A4).toNat<=87;rw[lA];omega⟩,by show(87-x5.2.A4).toNat<(87-v0.1.A4).toNat;omega⟩
set_option synthInstance.maxHeartbeats 2000000
set_option synthInstance.maxSize 100000
noncomputable section
instance zI (src:List UInt8):Ck (Qk3 src):=rQ (t:=N0 src) (by delta N0;infer_instance)
instance zE (s:List UInt8):Ck (Qih s):=rQ (t:=N1 s) (by delta N1;infer_instance)
instance yE (n:Int):Ck (Fq n):=let d:Decidable (Fq n):=(by delta Fq;infer_instance);⟨@decide _ d,@oY _ d⟩
instance yf (n:Int):Ck (Qfj n):=rQ (t:=I5 n) (by delta I5;infer_instance)
instance zaj (r:Int):Ck (Qof r):=rQ (t:=I6 r) (by delta I6;infer_instance)
instance xX (s:List UInt8):Ck (Xl s):=rQ (t:=N2 s) (by delta N2;infer_instance)
instance Zr (op:Int):Ck (Qdu op):=rQ (t:=N3 op) (by delta N3;infer_instance)
instance Zq7 (s:List UInt8):Ck (K3 s):=rQ (t:=N4 s) (by delta N4;infer_instance)
instance qg (eg:List UInt8):Ck (N5 eg):=rQ (t:=N6 eg) (by delta N6;infer_instance)
instance vE (s:List UInt8):Ck (Qhy s):=rQ (t:=N7 s) (by delta N7;infer_instance)
instance xg (l:List lI) (p:List UInt8):Ck (N8 l p):=rQ (t:=N9 l p) (by delta N9;infer_instance)
instance qF (s:List UInt8):Ck (Qh4 s):=rQ (t:=Oa s) (by delta Oa;infer_instance)
instance zg (l:List om) (label:List UInt8):Ck (GS l label):=let d:Decidable (GS l label):=(by delta GS;infer_instance);⟨@decide _ d,@oY _ d⟩
instance zX (src:List UInt8):Ck (Qm7 src):=rQ (t:=Ob src) (by delta Ob;infer_instance)
instance yX (st:kE) (v:Int):Ck (Oc st v):=rQ (t:=Od st v) (by delta Od;infer_instance)
instance Zr0 (src:List UInt8):Ck (Xm src):=rQ (t:=Oe src) (by delta Oe;infer_instance)
theorem xaj:Xm ((108:UInt8)::(Cp++K4++(Za++K5)++(K6++K7++(K8++K9))++(La++Lb++(Lc++Ld)++(Le++Lf++(Lg++Lh))))):=ck inferInstance (by kernel_rfl)
def inU(x:Int):Bool:=decide (0<=x)&&decide (x<4294967296)
theorem qak(l:List Int)(h:(Nat.ble l.length 160&&List.all l inU)=true):l.length<=160/\∀w∈l,U w:=by
 rw[aE]at h
 refine⟨lE h.1,λw hw=>?_⟩
 have:=List.all_eq_true.1 h.2 w hw
 simp only[inU,aE,decide_eq_true_eq]at this
 exact this
theorem Ts:(Li (cR (cR (cR (cR Tt K4) (cR Za K5)) (cR (cR K6 K7) (cR K8 K9))) (cR (cR (cR La Lb) (cR Lc Ld)) (cR (cR Le Lf) (cR Lg Lh))))).1.length<=160/\∀w∈(Li (cR (cR (cR (cR Tt K4) (cR Za K5)) (cR (cR K6 K7) (cR K8 K9))) (cR (cR (cR La Lb) (cR Lc Ld)) (cR (cR Le Lf) (cR Lg Lh))))).1,U w:=qak _ (by kernel_rfl)
end
theorem sS(i:List Int)(hu:∀w∈i,U w)(hl:i.length<=256):(DZ 8 4 i).w (λx=>nO 8 x.1/\x.1.A4=0):=by
 unfold DZ
 refine aa (λh=>absurd h (by decide)) λ_=>aa (λh=>absurd h (by decide)) λ_=>aa (λh=>absurd h (by decide)) λ_=>aa (λh=>absurd h (by decide)) λ_=>aa (λh=>?_) λ_=>ar λx0 e0=>cz (Zfb _) (ar λx1 e1=>?_)
 ·have h:=oY h
  rw[show i64.wrap (8*32)=256 by decide]at h
  omega
 have hx:x1=cQ 256 0:=by rw[e1];kernel_rfl
 have c0:iz x0:=by rw[e0];exact⟨by
  intro w hw
  simp only[Xn,Tu,Tree.m,iV.l,cS,cU,or_false,or_self]at hw
  rw[hw];exact ep,ep,by
  intro w hw
  simp only[Xn,Tu,Tree.m,A8.l,cS,cU,or_false,or_self]at hw
  rcases hw with rfl|rfl
  ·exact⟨by omega,by omega⟩
  ·exact ep⟩
 have hz:∀w∈x1,U w:=by rw[hx];exact wM 256
 have hn:x1.length=256:=by rw[hx,cV]
 refine⟨⟨c0,⟨?_,by omega,by omega,λw hw=>?_⟩,⟨ep,ep,ep,ep⟩,⟨ep,ep,ep,ep⟩,⟨ep,ep⟩,cW _⟩,rfl⟩
 ·simp only[lA,bD,bF,hn];omega
 ·rcases List.mem_append.1 hw with h1|h1
  ·exact hu w (cX h1)
  ·exact hz w (cY h1)
theorem Zgo(kind:Int)(l:List Int)(hl:l.length*8<=reachBytes):(Fs kind l).w (λx=>∃Q,nO Q x):=by
 have tJ:l.length*8<=140737488351232:=hl
 unfold Fs
 refine cz (Ft (by decide)) (ar λx0 _=>aa (λ_=>cz xaj (ar λx1 e1=>?_)) (λ_=>?_))
 ·obtain⟨q1,q2⟩:x1.1.length<=160/\∀w∈x1.1,U w:=by rw[e1];exact Ts
  refine fy (inv:=λv:List Int=>v.length<=160/\∀w∈v,U w) (μ:=Tv kind l) ⟨q1,q2⟩ (cO _) λv0 ⟨a1,a2⟩=>?_
  refine aa (λhb=>?_) (λ_=>?_)
  ·have hb:=oY hb
   refine ay (dY (by omega)) (ff ?_)
   show(_/\_)/\(_:Nat)<_
   refine⟨⟨by rw[lA,cZ];omega,λw hw=>?_⟩,by show 160-(v0++[0]).length<160-v0.length;rw[lA,cZ];omega⟩
   rcases List.mem_append.1 hw with h1|h1
   ·exact a2 w h1
   ·rw[List.mem_singleton.1 h1];exact ep
  ·refine bo (Ti l hl) λx2 ⟨b1,b2⟩=>ay (dY (by omega)) ?_
   have hu:∀w∈v0++x2,U w:=λw hw=>(List.mem_append.1 hw).elim (a2 w) (b2 w)
   refine aa (λhb=>?_) (λhb=>?_)
   ·have hb:=oY hb
    refine ay (by simp[bJ];rw[lA]at hb;omega) (bo (sS _ (λw hw=>hu w (cY (cX hw))) (by rw[bD];exact bH (dA _ _) (by decide))) λx3 ⟨c1,c2⟩=>aa (λ_=>bo (To c1 (by omega)) λx4 hx=>hx) (λ_=>⟨8,c1⟩))
   ·have hb:=oN hb
    exact bo (sS _ hu (by omega)) λx3 ⟨c1,c2⟩=>aa (λ_=>bo (To c1 (by omega)) λx4 hx=>hx) (λ_=>⟨8,c1⟩)
 ·refine bo (Ti l hl) λx2 ⟨b1,b2⟩=>ay (dY (by omega)) ?_
  refine aa (λhb=>?_) (λhb=>?_)
  ·have hb:=oY hb
   refine ay (by simp[bJ];omega) (bo (sS _ (λw hw=>b2 w (cY (cX hw))) (by rw[bD];exact bH (dA _ _) (by decide))) λx3 ⟨c1,c2⟩=>aa (λ_=>bo (To c1 (by omega)) λx4 hx=>hx) (λ_=>⟨8,c1⟩))
  ·have hb:=oN hb
   exact bo (sS _ b2 (by omega)) λx3 ⟨c1,c2⟩=>aa (λ_=>bo (To c1 (by omega)) λx4 hx=>hx) (λ_=>⟨8,c1⟩)
theorem zaF{P:Nat}{r:cy}(h:pC P r)(n:Int)(hl:r.D0.length<=900000)(hq:r.B3.length<=16)(hu:∀q∈r.B3,U q.N):
 (Fu r n).w (λx=>pC P x.1/\x.1.D0.length<=r.D0.length+8016/\(x.1.B3.length<=16/\∀q∈x.1.B3,U q.N)/\x.2.length<=4000):=by
 unfold Fu
 refine ar λx0 _=>aa (λ_=>bo (qB n) λe he=>bo (xV h e (by omega) hq hu he) λx hx=>?_) (λ_=>cz (Ft (by decide)) (ar λx3 _=>bo (Zhg h _ (fj _) hl (by omega) hu) λx hx=>?_))
 ·obtain⟨a1,a2,a3,a4⟩:=hx
  exact⟨a1,by rw[a2];omega,⟨a3,a4⟩,aT _⟩
 ·obtain⟨a1,a2,a3,a4⟩:=hx
  refine⟨a1,by show x.1.D0.length<=_;omega,?_,a4⟩
  rcases a3 with a3|a3
  ·rw[a3];exact⟨hq,hu⟩
  ·rw[a3];exact⟨aT _,λq hq=>by cases hq⟩
theorem xaF{P:Nat}{m:au}(h:nO P m)(l:List Int)(hl:l.length<=30):(I7 m l).w (λx=>pC P x.1):=by
 unfold I7
 have nr:(Lj m).w (λx=>pC P x/\x.D0=[]/\x.B3=[]):=by
  unfold Lj
  exact bo (qX h) λx hx=>⟨⟨hx.1,ep⟩,rfl,rfl⟩
 refine bo nr λx0 ⟨n1,n2,n3⟩=>?_
 refine fy (inv:=λv:Int×cy×List dw=>0<=v.1/\v.1<=l.length/\pC P v.2.1/\(v.2.1.D0.length:Int)<=8016*v.1/\(v.2.1.B3.length<=16/\∀q∈v.2.1.B3,U q.N)/\(v.2.2.length:Int)<=4000*v.1) (μ:=Xo m l) ⟨cW _,by show(0:Int)<=l.length;omega,n1,by rw[n2];exact cW _,by rw[n3];exact⟨aT _,λq hq=>by cases hq⟩,cW _⟩ (cO _) λv0 ⟨a1,a2,a3,a4,⟨a5,a6⟩,a7⟩=>?_
 refine aa (λhb=>?_) (λ_=>a3)
 have hb:=oY hb
 refine ay (by simp[bJ];omega) (bo (zaF a3 _ (by omega) a5 a6) λx1 ⟨b1,b2,b3,b4⟩=>ay (dY (by omega)) (ff ?_))
 have e:i64.wrap (v0.1+1)=v0.1+1:=by rw[wrap_i64];omega
 show(_/\_/\_/\_/\_/\_)/\(_:Nat)<_
 refine⟨⟨by rw[e];omega,by rw[e];omega,b1,by rw[e];show(x1.1.D0.length:Int)<=_;omega,b3,by rw[e,lA];omega⟩,by show(l.length-i64.wrap (v0.1+1)).toNat<(l.length-v0.1).toNat;rw[e];omega⟩
noncomputable section
def lJ:List Int:=(Li (cR (cR (cR (cR Tt K4) (cR Za K5)) (cR (cR K6 K7) (cR K8 K9))) (cR (cR (cR La Lb) (cR Lc Ld)) (cR (cR Le Lf) (cR Lg Lh))))).1
def Ea:List Int:=lJ++cQ (160-lJ.length) 0
theorem Of(t0 t1 t2 t3 t4 t5 t6 t7 t8 t9 t10 t11 t12 t13 t14 t15 t16 t17 t18 t19 t20 t21 t22 t23 t24 t25 t26 t27 t28 t29 t30 t31 t32 t33 t34 t35 t36 t37 t38 t39 t40 t41 t42 t43 t44 t45 t46 t47 t48 t49 t50 t51 t52 t53 t54 t55 t56 t57 t58 t59 t60 t61 t62 t63 t64 t65 t66 t67 t68 t69 t70 t71 t72 t73 t74 t75 t76 t77 t78 t79 t80 t81 t82 t83 t84 t85 t86 t87 t88 t89 t90 t91 t92 t93 t94 t95:Int):(I8 (lu 8 4 (Ea++[t0,t1,t2,t3,t4,t5,t6,t7,t8,t9,t10,t11,t12,t13,t14,t15,t16,t17,t18,t19,t20,t21,t22,t23,t24,t25,t26,t27,t28,t29,t30,t31,t32,t33,t34,t35,t36,t37,t38,t39,t40,t41,t42,t43,t44,t45,t46,t47,t48,t49,t50,t51,t52,t53,t54,t55,t56,t57,t58,t59,t60,t61,t62,t63,t64,t65,t66,t67,t68,t69,t70,t71,t72,t73,t74,t75,t76,t77,t78,t79,t80,t81,t82,t83,t84,t85,t86,t87,t88,t89,t90,t91,t92,t93,t94,t95])).1 [] 87).2.2.2=0:=by kernel_rfl
end
attribute [local irreducible] Li
theorem zak(i j:List Int)(hi:i.length<=256)(hj:j.length<=256)(e:i++cQ (256-i.length) 0=j++cQ (256-j.length) 0):lu 8 4 i=lu 8 4 j:=by
 have w:i64.wrap (8*32)=256:=by decide
 have m:Tw 8=cQ 256 0:=by kernel_rfl
 have d:∀k:List Int,k.length<=256->decide ((k.length:Int)>256)=false:=λk h=>dN (by omega)
 have mem:∀k:List Int,k.length<=256->dB (min k.length (cQ 256 (0:Int)).length) k++dC (min k.length (cQ 256 (0:Int)).length) (cQ 256 0)=k++cQ (256-k.length) 0:=λk h=>by
  rw[cV,Nat.min_eq_left h,List.take_length,List.drop_replicate]
 have r:Tw 8=cQ 256 0:=by kernel_rfl
 simp only[lu,DZ,Tree.m,w,df,r,d i hi,d j hj]
 simp only[mem i hi,mem j hj,e]
theorem I9(t:List Int)(ht:t.length=96):t=[t.getD 0 0,t.getD 1 0,t.getD 2 0,t.getD 3 0,t.getD 4 0,t.getD 5 0,t.getD 6 0,t.getD 7 0,t.getD 8 0,t.getD 9 0,t.getD 10 0,t.getD 11 0,t.getD 12 0,t.getD 13 0,t.getD 14 0,t.getD 15 0,t.getD 16 0,t.getD 17 0,t.getD 18 0,t.getD 19 0,t.getD 20 0,t.getD 21 0,t.getD 22 0,t.getD 23 0,t.getD 24 0,t.getD 25 0,t.getD 26 0,t.getD 27 0,t.getD 28 0,t.getD 29 0,t.getD 30 0,t.getD 31 0,t.getD 32 0,t.getD 33 0,t.getD 34 0,t.getD 35 0,t.getD 36 0,t.getD 37 0,t.getD 38 0,t.getD 39 0,t.getD 40 0,t.getD 41 0,t.getD 42 0,t.getD 43 0,t.getD 44 0,t.getD 45 0,t.getD 46 0,t.getD 47 0,t.getD 48 0,t.getD 49 0,t.getD 50 0,t.getD 51 0,t.getD 52 0,t.getD 53 0,t.getD 54 0,t.getD 55 0,t.getD 56 0,t.getD 57 0,t.getD 58 0,t.getD 59 0,t.getD 60 0,t.getD 61 0,t.getD 62 0,t.getD 63 0,t.getD 64 0,t.getD 65 0,t.getD 66 0,t.getD 67 0,t.getD 68 0,t.getD 69 0,t.getD 70 0,t.getD 71 0,t.getD 72 0,t.getD 73 0,t.getD 74 0,t.getD 75 0,t.getD 76 0,t.getD 77 0,t.getD 78 0,t.getD 79 0,t.getD 80 0,t.getD 81 0,t.getD 82 0,t.getD 83 0,t.getD 84 0,t.getD 85 0,t.getD 86 0,t.getD 87 0,t.getD 88 0,t.getD 89 0,t.getD 90 0,t.getD 91 0,t.getD 92 0,t.getD 93 0,t.getD 94 0,t.getD 95 0]:=by
 apply bN
 ·rw[ht];rfl
 ·intro i h1 h2
  have e:∀j (hj:j<96),[t.getD 0 0,t.getD 1 0,t.getD 2 0,t.getD 3 0,t.getD 4 0,t.getD 5 0,t.getD 6 0,t.getD 7 0,t.getD 8 0,t.getD 9 0,t.getD 10 0,t.getD 11 0,t.getD 12 0,t.getD 13 0,t.getD 14 0,t.getD 15 0,t.getD 16 0,t.getD 17 0,t.getD 18 0,t.getD 19 0,t.getD 20 0,t.getD 21 0,t.getD 22 0,t.getD 23 0,t.getD 24 0,t.getD 25 0,t.getD 26 0,t.getD 27 0,t.getD 28 0,t.getD 29 0,t.getD 30 0,t.getD 31 0,t.getD 32 0,t.getD 33 0,t.getD 34 0,t.getD 35 0,t.getD 36 0,t.getD 37 0,t.getD 38 0,t.getD 39 0,t.getD 40 0,t.getD 41 0,t.getD 42 0,t.getD 43 0,t.getD 44 0,t.getD 45 0,t.getD 46 0,t.getD 47 0,t.getD 48 0,t.getD 49 0,t.getD 50 0,t.getD 51 0,t.getD 52 0,t.getD 53 0,t.getD 54 0,t.getD 55 0,t.getD 56 0,t.getD 57 0,t.getD 58 0,t.getD 59 0,t.getD 60 0,t.getD 61 0,t.getD 62 0,t.getD 63 0,t.getD 64 0,t.getD 65 0,t.getD 66 0,t.getD 67 0,t.getD 68 0,t.getD 69 0,t.getD 70 0,t.getD 71 0,t.getD 72 0,t.getD 73 0,t.getD 74 0,t.getD 75 0,t.getD 76 0,t.getD 77 0,t.getD 78 0,t.getD 79 0,t.getD 80 0,t.getD 81 0,t.getD 82 0,t.getD 83 0,t.getD 84 0,t.getD 85 0,t.getD 86 0,t.getD 87 0,t.getD 88 0,t.getD 89 0,t.getD 90 0,t.getD 91 0,t.getD 92 0,t.getD 93 0,t.getD 94 0,t.getD 95 0][j]'hj=t.getD j 0:=by
   intro j hj
   have:[t.getD 0 0,t.getD 1 0,t.getD 2 0,t.getD 3 0,t.getD 4 0,t.getD 5 0,t.getD 6 0,t.getD 7 0,t.getD 8 0,t.getD 9 0,t.getD 10 0,t.getD 11 0,t.getD 12 0,t.getD 13 0,t.getD 14 0,t.getD 15 0,t.getD 16 0,t.getD 17 0,t.getD 18 0,t.getD 19 0,t.getD 20 0,t.getD 21 0,t.getD 22 0,t.getD 23 0,t.getD 24 0,t.getD 25 0,t.getD 26 0,t.getD 27 0,t.getD 28 0,t.getD 29 0,t.getD 30 0,t.getD 31 0,t.getD 32 0,t.getD 33 0,t.getD 34 0,t.getD 35 0,t.getD 36 0,t.getD 37 0,t.getD 38 0,t.getD 39 0,t.getD 40 0,t.getD 41 0,t.getD 42 0,t.getD 43 0,t.getD 44 0,t.getD 45 0,t.getD 46 0,t.getD 47 0,t.getD 48 0,t.getD 49 0,t.getD 50 0,t.getD 51 0,t.getD 52 0,t.getD 53 0,t.getD 54 0,t.getD 55 0,t.getD 56 0,t.getD 57 0,t.getD 58 0,t.getD 59 0,t.getD 60 0,t.getD 61 0,t.getD 62 0,t.getD 63 0,t.getD 64 0,t.getD 65 0,t.getD 66 0,t.getD 67 0,t.getD 68 0,t.getD 69 0,t.getD 70 0,t.getD 71 0,t.getD 72 0,t.getD 73 0,t.getD 74 0,t.getD 75 0,t.getD 76 0,t.getD 77 0,t.getD 78 0,t.getD 79 0,t.getD 80 0,t.getD 81 0,t.getD 82 0,t.getD 83 0,t.getD 84 0,t.getD 85 0,t.getD 86 0,t.getD 87 0,t.getD 88 0,t.getD 89 0,t.getD 90 0,t.getD 91 0,t.getD 92 0,t.getD 93 0,t.getD 94 0,t.getD 95 0]=(dD 96).map (λk=>t.getD k 0):=rfl
   simp only[this,List.getElem_map,List.getElem_range]
  rw[e i (by omega),cP,cG h1]
  rfl
theorem qaG(t:List Int)(ht:t.length=96):(I8 (lu 8 4 (Ea++t)).1 [] 87).2.2.2=0:=by
 rw[I9 t ht]
 exact Of _ _ _ _ _ _ _ _ _ _ _ _ _ _ _ _ _ _ _ _ _ _ _ _ _ _ _ _ _ _ _ _ _ _ _ _ _ _ _ _ _ _ _ _ _ _ _ _ _ _ _ _ _ _ _ _ _ _ _ _ _ _ _ _ _ _ _ _ _ _ _ _ _ _ _ _ _ _ _ _ _ _ _ _ _ _ _ _ _ _ _ _ _ _ _ _
theorem xak:Ea.length=160:=by
 have h:lJ.length<=160:=Ts.1
 unfold Ea
 rw[lA,cV];omega
def out(f:Int)(m m':List Int):Prop:=∀j:Nat,¬(f*32<=j/\(j:Int)<f*32+32)->m'.getD j 0=m.getD j 0
theorem Lk(f:Int)(m:List Int):out f m m:=λ_ _=>rfl
theorem wN(l:List Int)(i j:Nat)(v:Int)(h:i≠j):(l.set i v).getD j 0=l.getD j 0:=by
 simp only[cP,List.getElem?_set_ne h]
theorem r6{P:Nat}{m:List Int}(h:eu P m):mb m=P:=by
 obtain⟨h1,h2,h3,_⟩:=h
 simp only[mb,Q8,Tree.m]
 have e:(m.length:Int)=32*P:=by omega
 rw[e]
 have e1:(dE (32*(P:Int)) 32 !=0)=false:=by simp[Int.mul_tmod_right]
 have e2:decide ((32*(P:Int))>1024)=false:=dN (by omega)
 rw[e1,e2]
 simp only[cond_false]
 rw[Int.mul_tdiv_cancel_left _ (by decide),wrap_i64];omega
theorem vX{P:Nat}{m:List Int}(h:eu P m)(f:Int):Ja m f=true->0<=f/\f<P:=by
 have hp:=r6 h
 simp only[Ja,Og,Tree.m,df,hp]
 cases h1:decide (f>=0)
 ·intro h;cases h
 ·intro h;exact⟨oY h1,oY h⟩
theorem Xp{P:Nat}{m:List Int}(h:eu P m)(f:Int)(s:List UInt8):(GU m f s).w (λr=>eu P r.1/\out f m r.1/\(r.2=false->r.1=m)):=by
 have gm:jF m=m:=rfl
 have h2:=h.p2
 unfold GU
 refine cz (r7 h) (ar λx0 nP=>ar λx1 nQ=>?_)
 rw[gm]at nP;subst nP
 refine aa (λ_=>⟨h,Lk _ _,λ_=>rfl⟩) λhb=>aa (λ_=>⟨h,Lk _ _,λ_=>rfl⟩) λhs=>?_
 have hb:x1=true:=by simpa using hb
 obtain⟨f0,f1⟩:=vX h f (nQ.symm.trans hb)
 have hs:(s.length:Int)=128:=by simpa using hs
 refine fy (inv:=λz:Int×List Int=>0<=z.1/\z.1<=32/\eu P z.2/\out f x0 z.2) (μ:=Xq x0 f s) ⟨show(0:Int)<=0 by decide,show(0:Int)<=32 by decide,h,Lk _ _⟩ (cO _) λz ⟨z1,z2,z3,z4⟩=>?_
 refine aa (λhb=>?_) (λ_=>⟨z3,z4,λh=>by cases h⟩)
 have hb:=oY hb
 have e1:i64.wrap (4*z.1)=4*z.1:=by rw[wrap_i64];omega
 have e2:i64.wrap (i64.wrap (4*z.1)+4)=4*z.1+4:=by rw[wrap_i64,wrap_i64];omega
 have e3:i64.wrap (i64.wrap (f*32)+z.1)=f*32+z.1:=by rw[wrap_i64,wrap_i64];omega
 have hl:=z3.len
 have hlen:(dB (dF (i64.wrap (i64.wrap (4*z.1)+4))-dF (i64.wrap (4*z.1))) (dC (dF (i64.wrap (4*z.1))) s)).length=4:=by
  rw[e2,e1,bD,bF];omega
 refine ay (dY (by rw[e2,e1];omega)) ?_
 refine ay (dY (by rw[hlen];decide)) (ay (dY (by rw[hlen];decide)) (ay (dY (by rw[hlen];decide)) (ay (dY (by rw[hlen];decide)) (ay (by rw[e3];simp[bJ];omega) (ff ?_)))))
 show(_/\_/\eu P (dG _ _ _)/\out f x0 (dG _ _ _))/\(_:Nat)<_
 have ew:i64.wrap (z.1+1)=z.1+1:=by rw[wrap_i64];omega
 rw[e3]
 refine⟨⟨by rw[ew];omega,by rw[ew];omega,⟨by rw[dH];exact hl,z3.p1,z3.p2,Eb z3.u (nh _ _) _⟩,λj hj=>?_⟩,by show(32-i64.wrap (z.1+1)).toNat<(32-z.1).toNat;rw[ew];omega⟩
 rw[wN _ _ _ _ (by omega)]
 exact z4 j hj
theorem zaG(w:List Int)(h:w.length<=32):(Fv w).w (λr=>r.length=4*w.length):=by
 have e0:i64.wrap (4*(w.length:Int))=4*w.length:=by rw[wrap_i64];omega
 unfold Fv
 refine ay (by rw[e0];simp[bJ,D.plain];omega) ?_
 refine fy (inv:=λz:Int×List Int=>0<=z.1/\z.1<=w.length/\(z.2.length:Int)=4*z.1) (μ:=Oh w) ⟨by decide,by show(0:Int)<=w.length;omega,rfl⟩ (cO _) λz ⟨z1,z2,z3⟩=>?_
 refine aa (λhb=>?_) (λhb=>?_)
 ·have hb:=oY hb
  have ew:i64.wrap (z.1+1)=z.1+1:=by rw[wrap_i64];omega
  refine ay (by simp[bJ];omega) (ay (dY (by omega)) (ff ?_))
  show(_/\_/\_)/\(_:Nat)<_
  refine⟨⟨by rw[ew];omega,by rw[ew];omega,by rw[ew,lA];simp only[dI,dJ];omega⟩,by show(w.length-i64.wrap (z.1+1)).toNat<(w.length-z.1).toNat;rw[ew];omega⟩
 ·have hb:=oN hb
  show(bytesOf z.2).length=_
  rw[Oi];omega
theorem Xr{P:Nat}{m:List Int}(h:eu P m)(f:Int):(GV m f).w (λr=>0<=f->f<P->r.1.length=128):=by
 have hl:=h.len
 have h2:=h.p2
 unfold GV
 refine ar λx0 nP=>aa (λhb=>λf0 f1=>?_) (λhb=>?_)
 ·have hp:=r6 h
  have hb:x0=false:=by simpa using hb
  rw[hb]at nP
  simp only[Ja,Og,Tree.m,df,hp]at nP
  rw[dY f0]at nP
  exact absurd f1 (oN nP.symm)
 ·have hb:x0=true:=by simpa using hb
  obtain⟨f0,f1⟩:=vX h f (nP.symm.trans hb)
  have e1:i64.wrap (f*32)=f*32:=by rw[wrap_i64];omega
  have e2:i64.wrap (i64.wrap (f*32)+32)=f*32+32:=by rw[wrap_i64,wrap_i64];omega
  have hlen:(dB (dF (i64.wrap (i64.wrap (f*32)+32))-dF (i64.wrap (f*32))) (dC (dF (i64.wrap (f*32))) m)).length=32:=by
   rw[e2,e1,bD,bF];omega
  refine ay (by rw[e2,e1];simp[bJ];omega) ?_
  refine cz (by show dK _<=1000000000000;rw[hlen];decide) (ar λx1 h1=>?_)
  have h1:x1.length=4*(dB (dF (i64.wrap (i64.wrap (f*32)+32))-dF (i64.wrap (f*32))) (dC (dF (i64.wrap (f*32))) m)).length:=by rw[h1];exact(Tree.pp (zaG _ (dL hlen))).2
  intro _ _
  show x1.length=128
  rw[h1,hlen]
theorem Tx{f:Int}(hf:U f){P:Nat}(hP:P<=32)(h:decide (u64.wrap f<u64.wrap (P:Int))=true):0<=f/\f<P:=by
 have h:=oY h
 obtain⟨h1,h2⟩:=hf
 rw[wrap_u64,wrap_u64,dM h1 (by omega),dM (by omega) (by omega)]at h
 exact⟨h1,h⟩
theorem Zqi{P:Nat}{m:List Int}(h:eu P m){d:fp}(hd:oF d)(e:gx):(Ll d m e).w (λr=>oF r.1/\eu P r.2.1/\out d.B5 m r.2.1/\(r.2.2=false->r.2.1=m)/\(∀p,kr d p=true->kr r.1 p=true)):=by
 have gm:jF m=m:=rfl
 have bf:∀b:Bool,oF d/\eu P m/\out d.B5 m m/\(b=false->m=m)/\(∀p,kr d p=true->kr d p=true):=λb=>⟨hd,h,Lk _ _,λ_=>rfl,λ_ h=>h⟩
 have GW:∀{p:Int},kr d p=true->decide (d.ag>64)=false:=fun{p} hm=>by
  cases hb:decide (d.ag>64)
  ·rfl
  ·have:kr d p=false:=by simp only[kr,wO,Tree.m];rw[hb];rfl
   rw[this]at hm;cases hm
 have m2:∀p,kr d p=true->kr {ag:=d.ag,C4:=d.C4,Frame:=d.Frame,C0:=2,D8:=0,B9:=0,B5:=0,C1:=[]} p=true:=λp hm=>by
  simp only[kr,wO,Tree.m];rw[GW hm];rfl
 have m3:∀p,kr d p=true->kr {ag:=d.ag,C4:=d.C4,Frame:=d.Frame,C0:=3,D8:=0,B9:=0,B5:=0,C1:=[]} p=true:=λp hm=>by
  simp only[kr,wO,Tree.m];rw[GW hm];rfl
 unfold Ll
 refine aa (λ_=>cz (r7 h) (ar λx hx=>by rw[gm]at hx;subst hx;exact bf _)) λ_=>aa (λ_=>cz (r7 h) (ar λx hx=>by rw[gm]at hx;subst hx;exact bf _)) λ_=>aa (λ_=>cz (r7 h) (ar λx hx=>by rw[gm]at hx;subst hx;exact bf _)) λ_=>cz (r7 h) (ar λx3 DX=>?_)
 rw[gm]at DX;subst DX
 have fin:∀{m':List Int},eu P m'->out d.B5 x3 m'->(Tree.br (e.N==1) (.lf (({ag:=d.ag,C4:=d.C4,Frame:=d.Frame,C0:=2,D8:=0,B9:=0,B5:=0,C1:=[]}:fp),m',true)) (.lf (({ag:=d.ag,C4:=d.C4,Frame:=d.Frame,C0:=3,D8:=0,B9:=0,B5:=0,C1:=[]}:fp),m',true))).w (λr=>oF r.1/\eu P r.2.1/\out d.B5 x3 r.2.1/\(r.2.2=false->r.2.1=x3)/\(∀p,kr d p=true->kr r.1 p=true)):=λhm ho=>
  aa (λ_=>⟨⟨hd.block,hd.frame,ep,ep⟩,hm,ho,(λh=>by cases h),m2⟩) (λ_=>⟨⟨hd.block,hd.frame,ep,ep⟩,hm,ho,(λh=>by cases h),m3⟩)
 have nod:(Tree.br (!decide (e.D2=[])) (.lf (d,x3,false)) (Tree.br (e.N==1) (.lf (({ag:=d.ag,C4:=d.C4,Frame:=d.Frame,C0:=2,D8:=0,B9:=0,B5:=0,C1:=[]}:fp),x3,true)) (.lf (({ag:=d.ag,C4:=d.C4,Frame:=d.Frame,C0:=3,D8:=0,B9:=0,B5:=0,C1:=[]}:fp),x3,true)))).w (λr=>oF r.1/\eu P r.2.1/\out d.B5 x3 r.2.1/\(r.2.2=false->r.2.1=x3)/\(∀p,kr d p=true->kr r.1 p=true)):=
  aa (λ_=>bf _) (λ_=>fin h (Lk _ _))
 refine aa (λ_=>aa (λ_=>ar λx4 Oj=>aa (λ_=>bf _) λhb=>?_) (λ_=>nod)) (λ_=>nod)
 have hp:=r6 h
 have hb:x4=true:=by simpa using hb
 rw[hb]at Oj
 simp only[Q9,Ok,Tree.m,df,hp]at Oj
 obtain⟨f0,f1⟩:=Tx hd.ib h.p2 Oj.symm
 have ef:i64.wrap d.B5=d.B5:=by have:=h.p2;rw[wrap_i64];omega
 refine bo (Xp h _ _) λx5 ⟨h5,o5,k5⟩=>?_
 rw[ef]at o5
 exact aa (λhf=>⟨hd,h5,o5,λ_=>k5 (by simpa using hf),λ_ h=>h⟩) (λ_=>fin h5 o5)
theorem yg{P:Nat}{m:List Int}(h:eu P m){n:ia}(hn:pD n)(frame:List UInt8):(Lm n m frame).w (λr=>pD r.1/\eu P r.2.1/\out n.C2 m r.2.1/\(r.2.2=false->r.2.1=m)/\(∀p,pE n p=true->pE r.1 p=true)):=by
 have gm:jF m=m:=rfl
 have bf:pD n/\eu P m/\out n.C2 m m/\(false=false->m=m)/\(∀p,pE n p=true->pE n p=true):=⟨hn,h,Lk _ _,λ_=>rfl,λ_ h=>h⟩
 unfold Lm
 refine aa (λ_=>cz (r7 h) (ar λx hx=>by rw[gm]at hx;subst hx;exact bf)) λhpo=>aa (λ_=>cz (r7 h) (ar λx hx=>by rw[gm]at hx;subst hx;exact bf)) λl1=>aa (λ_=>cz (r7 h) (ar λx hx=>by rw[gm]at hx;subst hx;exact bf)) λl2=>ar λx3 DX=>aa (λ_=>cz (r7 h) (ar λx hx=>by rw[gm]at hx;subst hx;exact bf)) λhb=>?_
 have l1:=oN l1
 have l2:=oN l2
 have hp:=r6 h
 have hb:x3=true:=by simpa using hb
 rw[hb]at DX
 simp only[GX,Ol,Tree.m,df,hp]at DX
 obtain⟨f0,f1⟩:=Tx hn.buffer h.p2 DX.symm
 have ef:i64.wrap n.C2=n.C2:=by have:=h.p2;rw[wrap_i64];omega
 refine bo (Xr h _) λx5 h5=>?_
 rw[ef]at h5
 have h5:=h5 f0 f1
 have Cm:(maxLen:Nat)=9223372036854775807:=rfl
 refine ay (dY (by omega)) (ay (dY (by simp only[bD,bF,Cm];omega)) (bo (Xp h _ _) λx6 ⟨h6,o6,_⟩=>?_))
 rw[ef]at o6
 have hg:u32.wrap (frame.length:Int)=frame.length:=by rw[wrap_u32];omega
 refine⟨⟨hn.frame,hn.len,ep,fj _⟩,h6,o6,(λh=>by cases h),λp _=>?_⟩
 simp only[pE,Ln,Tree.m]
 rw[hg,dY (show(frame.length:Int)>=1 by omega),dY (show(frame.length:Int)<=128 by omega)]
 rfl
theorem qal(c:iW)(b:Int):(Om c b).w (λr=>tN c=true->tN r.1=true):=by
 have Cm:(maxLen:Nat)=9223372036854775807:=rfl
 unfold Om
 refine aa (λ_=>λh=>h) (λhb=>?_)
 have hb:=oN hb
 refine ay (dY (by rw[Cm];omega)) ?_
 intro _
 show decide (((c.D5++[_]).length:Int)<=16)=true
 rw[lA,cZ]
 exact dY (by omega)
theorem yI(t:iX)(h:tO t=true):tO (Ty t).1=true:=by
 simp only[Ty,Xs,Tree.m]
 cases ha:t.D7
 ·exact h
 ·rfl
theorem vg(m:au):sT m=(tN m.A7&&(tO m.B2&&(kr m.B1 (mb m.Mem)&&(pE m.C6 (mb m.Mem)&&uD m.A6 (mb m.Mem))))):=by
 simp only[sT,Ec,Tree.m,df]
 cases tN m.A7<;>cases tO m.B2<;>cases kr m.B1 (mb m.Mem)<;>cases pE m.C6 (mb m.Mem)<;>rfl
theorem xaG{b c:gv}(h:c.C5=b.C5)(p:Int):uD c p=uD b p:=by
 simp only[uD,GY,Tree.m,h]
theorem Jb{a x y:Bool}(h:x=true->y=true):(bif a then false else x)=true->(bif a then false else y)=true:=by cases a<;>simp_all
def chain(b1 b2 b3 b4 b5 b6 b7 w h dev:Bool):Bool:=bif b1 then false else bif b2 then false else bif b3 then false else bif b4 then false else bif b5 then false else bif b6 then false else bif b7 then false else bif w then(bif h then false else dev)else dev
theorem Zq2{b1 b2 b3 b4 b5 b6 b7 w h d d':Bool}(hd:d=true->d'=true):chain b1 b2 b3 b4 b5 b6 b7 w h d=true->chain b1 b2 b3 b4 b5 b6 b7 w h d'=true:=by
 refine Jb (Jb (Jb (Jb (Jb (Jb (Jb ?_))))))
 cases w
 ·exact hd
 ·cases h
  ·exact hd
  ·exactλh=>h
def Fw(p:Int)(c:bj)(ct:Int)(w h dev:Bool):Bool:=chain (p==0) (c.X.a0 !=0) (decide (c.B7.a0>31)) (decide (c.B7.a7>31)) (decide (c.B7.a6>255)) (dE c.B7.a1 4 !=0) (decide (ct>1152921504606846976)) w h dev
theorem qh{p:Int}{c:bj}{ct:Int}{w h d d':Bool}(hd:d=true->d'=true)(g:Fw p c ct w h d=true):Fw p c ct w h d'=true:=Zq2 hd g
theorem qY(m:au):nj m=Fw (mb m.Mem) m.B4 m.A4 m.A9 m.B0 (sT m):=rfl
theorem On{m n:au}(hp:mb n.Mem=mb m.Mem)(Xt:n.B4=m.B4)(Oo:n.A4=m.A4)(hw:n.A9=m.A9)(hh:n.B0=m.B0)
 (hc:tN m.A7=true->tN n.A7=true) (ht:tO m.B2=true->tO n.B2=true) (hd:∀p,kr m.B1 p=true->kr n.B1 p=true) (hn:∀p,pE m.C6 p=true->pE n.C6 p=true) (hb:n.A6.C5=m.A6.C5) (h:nj m=true):nj n=true:=by
 have dev:sT m=true->sT n=true:=λh=>by
  rw[vg]at h⊢
  simp only[aE]at h⊢
  rw[hp,xaG hb]
  exact⟨hc h.1,ht h.2.1,hd _ h.2.2.1,hn _ h.2.2.2.1,h.2.2.2.2⟩
 rw[qY]at h⊢
 rw[hp,Xt,Oo,hw,hh]
 exact qh dev h
section
variable {P:Nat} {m:List Int} (h:eu P m)
include h
theorem Oq{f:Int}(hf:U f){b:Bool}(hx:b=Q9 m f)(hb:b=true):0<=f/\f<P:=by
 have hp:=r6 h
 rw[hb]at hx
 simp only[Q9,Ok,Tree.m,df,hp]at hx
 exact Tx hf h.p2 hx.symm
theorem GZ{f:Int}(hf:U f){b:Bool}(hx:b=GX m f)(hb:b=true):0<=f/\f<P:=by
 have hp:=r6 h
 rw[hb]at hx
 simp only[GX,Ol,Tree.m,df,hp]at hx
 exact Tx hf h.p2 hx.symm
def sU(P:Nat)(d d':fp):Prop:=oF d'/\(kr d P=true->kr d' P=true)
theorem xh{d:fp}(hd:oF d){cmd:Int}(hc:cmd=1\/cmd=2)(dj:Int):(Lo d m cmd dj).w (λr=>sU P d r.1/\r.2.length<=1):=by
 have h2:=h.p2
 have st3:(d.C0 !=0)=false->sU P d {ag:=d.ag,C4:=d.C4,Frame:=d.Frame,C0:=3,D8:=d.D8,B9:=d.B9,B5:=d.B5,C1:=d.C1}:=λhs=>by
  have hs:d.C0=0:=by simpa using hs
  refine⟨⟨hd.block,hd.frame,hd.ku,hd.ib⟩,λhm=>?_⟩
  simp only[kr,wO,Tree.m,hs]at hm⊢
  exact hm
 have GW:kr d P=true->decide (d.ag>64)=false:=λhm=>by
  cases hb:decide (d.ag>64)
  ·rfl
  ·have:kr d P=false:=by simp only[kr,wO,Tree.m];rw[hb];rfl
   rw[this]at hm;cases hm
 unfold Lo
 refine aa (λ_=>⟨⟨hd,λh=>h⟩,aT _⟩) λhs=>aa (λ_=>⟨st3 hs,aT _⟩) λhb=>ar λx0 hx=>aa (λ_=>⟨st3 hs,aT _⟩) λhp=>?_
 have hb:=oN hb
 obtain⟨f0,f1⟩:=Oq h hd.frame hx (by simpa using hp)
 have ef:i64.wrap d.Frame=d.Frame:=by rw[wrap_i64];omega
 have e1:decide (d.C4<d.ag)=true:=dY (by omega)
 have e2:decide (i64.wrap d.Frame<(P:Int))=true:=by rw[ef];exact dY f1
 refine aa (λAG=>bo (Xr h _) λx1 h1=>?_) (λAG=>?_)
 ·rw[ef]at h1
  have h1:=h1 f0 f1
  have AG:=eq_of_beq AG
  subst AG
  refine ar λx2 _=>⟨⟨⟨hd.block,hd.frame,hd.block,hd.frame⟩,λhm=>?_⟩,aO _⟩
  simp only[kr,wO,Ot,Jc,Tree.m,df,GW hm,e1,e2,h1]
  rfl
 ·have hc:cmd=1:=by
   rcases hc with h|h
   ·exact h
   ·rw[h]at AG;exact absurd AG (by decide)
  subst hc
  refine ar λx2 _=>⟨⟨⟨hd.block,hd.frame,hd.block,hd.frame⟩,λhm=>?_⟩,aO _⟩
  simp only[kr,wO,Ot,Jc,Tree.m,df,GW hm,e1,e2]
  rfl
theorem zal{d:fp}(hd:oF d)(port:Int){v:Int}(hv:U v)(dj:Int):(Lp d m port v dj).w (λr=>sU P d r.1/\r.2.length<=1):=by
 have bf:sU P d d:=⟨hd,λh=>h⟩
 have e1:∀{k:Int},(v==k)=true->i64.wrap v=k:=λhk=>by
  have:=eq_of_beq hk
  obtain⟨a,b⟩:=hv
  rw[wrap_i64];omega
 unfold Lp
 refine aa (λ_=>⟨⟨⟨hv,hd.frame,hd.ku,hd.ib⟩,λh=>h⟩,aT _⟩) λ_=>aa (λ_=>⟨⟨⟨hd.block,hv,hd.ku,hd.ib⟩,λh=>h⟩,aT _⟩) λ_=>aa (λ_=>aa (λhk=>bo (xh h hd (.inl (e1 hk)) _) λx hx=>hx) λ_=>aa (λhk=>bo (xh h hd (.inr (e1 hk)) _) λx hx=>hx) λ_=>aa (λ_=>ar λx hx=>aa (λhb=>?_) (λ_=>⟨bf,aT _⟩)) (λ_=>⟨bf,aT _⟩)) (λ_=>⟨bf,aT _⟩)
 refine⟨⟨⟨hd.block,hd.frame,hd.ku,hd.ib⟩,λhm=>?_⟩,aT _⟩
 rw[hb]at hx
 simp only[Lq,Xu,Tree.m]at hx
 cases h2:d.C0==2
 ·rw[h2]at hx
  have h3:d.C0=3:=eq_of_beq hx.symm
  simp only[kr,wO,Tree.m,h3]at hm⊢
  exact hm
 ·have h3:d.C0=2:=eq_of_beq h2
  simp only[kr,wO,Tree.m,h3]at hm⊢
  exact hm
def Cq(P:Nat)(n n':ia):Prop:=pD n'/\(pE n P=true->pE n' P=true)
theorem qaH{n:ia}(hn:pD n)(dj:Int):(Lr n m dj).w (λr=>r.length<=1):=by
 have h2:=h.p2
 unfold Lr
 refine aa (λ_=>aT _) λl1=>aa (λ_=>aT _) λl2=>ar λx0 hx=>aa (λ_=>aT _) λhp=>bo (Xr h _) λx1 h1=>?_
 have l1:=oN l1
 have l2:=oN l2
 obtain⟨f0,f1⟩:=GZ h hn.frame hx (by simpa using hp)
 have ef:i64.wrap n.Frame=n.Frame:=by rw[wrap_i64];omega
 rw[ef]at h1
 have h1:=h1 f0 f1
 exact ay (dY (by omega)) (aO _)
theorem zaH{n:ia}(hn:pD n)(port:Int){v:Int}(hv:U v)(dj:Int):(Ls n m port v dj).w (λr=>Cq P n r.1/\r.2.length<=1):=by
 have h2:=h.p2
 have bf:Cq P n n:=⟨hn,λh=>h⟩
 unfold Ls
 refine aa (λ_=>⟨⟨⟨hv,hn.len,hn.buffer,hn.G0⟩,λh=>h⟩,aT _⟩) λ_=>aa (λ_=>⟨⟨⟨hn.frame,hv,hn.buffer,hn.G0⟩,λh=>h⟩,aT _⟩) λ_=>aa (λ_=>aa (λ_=>bo (qaH h hn _) λx hx=>⟨bf,hx⟩) λ_=>aa (λ_=>ar λx hx=>aa (λhb=>aa (λnp=>aa (λnr=>?_) (λ_=>⟨bf,aT _⟩)) (λ_=>⟨bf,aT _⟩)) (λ_=>⟨bf,aT _⟩)) λ_=>aa (λ_=>?_) (λ_=>⟨bf,aT _⟩)) (λ_=>⟨bf,aT _⟩)
 ·obtain⟨f0,f1⟩:=GZ h hn.frame hx hb
  have np:n.C8=false:=by simpa using np
  have nr:n.B8=false:=by simpa using nr
  have e2:decide (i64.wrap n.Frame>=(P:Int))=false:=dN (by rw[wrap_i64];omega)
  refine⟨⟨⟨hn.frame,hn.len,hn.frame,hn.G0⟩,λhm=>?_⟩,aT _⟩
  simp only[pE,Ln,Tree.m,np,nr,e2]at hm⊢
  cases hb:(n.C2 !=0)
  ·rw[hb]at hm;exact hm
  ·rw[hb]at hm;cases hm
 ·refine⟨⟨⟨hn.frame,hn.len,hn.buffer,ep⟩,λhm=>?_⟩,aT _⟩
  simp only[pE,Ln,Tree.m]at hm⊢
  revert hm
  cases n.C8<;>cases n.B8<;>cases decide (i64.wrap n.C2>=(P:Int))<;>cases(n.C2 !=0)<;>simp
end
theorem xal(t:iX)(v:Int):tO (Ou t v)=true:=by
 simp only[Ou,Tz,tO,TA,Tree.m]
 cases h:(v !=0)
 ·have:v=0:=by simpa using h
  subst this;rfl
 ·rfl
theorem Ed{a:Int}(k:Nat)(hk:k<=32):bh .u32 a k=a/2^k:=by
 unfold bh
 have e:min (k:Int).toNat u32.bits=k:=by show min (k:Int).toNat 32=k;omega
 have hp:(0:Int)<2^k:=dO (by decide)
 rw[e,dP _ (dQ hp)]
def Lt(x:Int)(n:Nat):Prop:=x<2^n/\(n=0\/(2:Int)^(n-1)<=x)
theorem Xv{x q:Int}{n k:Nat}(hq:q=x/2^k)(h0:0<q)(h:Lt q n):Lt x (n+k):=by
 have hp:(0:Int)<2^k:=dO (by decide)
 obtain⟨h1,h2⟩:=h
 have hn:n≠0:=λe=>by subst e;simp at h1;omega
 refine⟨?_,.inr ?_⟩
 ·rw[dR]
  have:x<(x/2^k+1)*2^k:=Int.lt_ediv_add_one_mul_self x hp
  have h3:(x/2^k+1)*2^k<=2^n*2^k:=dS (by omega) (dQ hp)
  omega
 ·have h2:=h2.resolve_left hn
  have e:n+k-1=(n-1)+k:=by omega
  rw[e,dR]
  have h3:(2:Int)^(n-1)*2^k<=q*2^k:=dS h2 (dQ hp)
  have h4:q*2^k<=x:=by rw[hq];exact Int.ediv_mul_le x (Int.ne_of_gt hp)
  omega
theorem vI{x:Int}{n p:Nat}(h:Lt x n)(hx:x<2^p):n<=p:=by
 obtain⟨h1,h2⟩:=h
 rcases h2 with h2|h2
 ·omega
 ·rcases Nat.lt_or_ge p n with cj|pS
  ·have:(2:Int)^p<=2^(n-1):=by
    have:=dT (show 0<2 by omega) (show p<=n-1 by omega)
    exact_mod_cast this
   omega
  ·exact pS
theorem Zkj{x:Int}{n p:Nat}(h:Lt x n)(hn:n<=p):x<2^p:=by
 have:(2:Int)^n<=2^p:=by
  have:=dT (show 0<2 by omega) hn
  exact_mod_cast this
 exact Int.lt_of_lt_of_le h.1 this
def Cr(i:Nat):Bool:=match(wP (i:Int))with
 |.ofNat n=>decide ((i:Int)<2^n)&&(Nat.beq n 0||decide ((2:Int)^(n-1)<=i))&&decide (n<=8)
 |_=>false
theorem TB{q:Int}(h0:0<=q)(h1:q<256):∃n:Nat,wP q=n/\Lt q n/\n<=8:=by
 have all:List.all (dD 256) Cr=true:=by kernel_rfl
 have:=List.all_eq_true.1 all q.toNat (List.mem_range.2 (by omega))
 have hq:((q.toNat:Nat):Int)=q:=by omega
 unfold Cr at this
 rw[hq]at this
 split at this
 ·rename_i n hn
  simp only[aE,aI,decide_eq_true_eq]at this
  refine⟨n,hn,⟨this.1.1,?_⟩,this.2⟩
  rcases this.1.2 with h|h
  ·exact .inl (bE h)
  ·exact .inr h
 ·cases this
theorem xaH{x:Int}(h:U x)(hx:16777216<=x):wP x=24+wP (x/16777216):=by
 obtain⟨h0,h1⟩:=h
 have Bu:bh .u32 x 16=x/65536:=Ed 16 (by omega)
 have uE:bh .u32 (x/65536) 8=x/16777216:=by rw[show((8:Int))=((8:Nat):Int) from rfl,Ed 8 (by omega)];omega
 have d1:decide (x>=65536)=true:=dY (by omega)
 have d2:decide (x/65536>=256)=true:=dY (by omega)
 have d3:decide (x/16777216>=65536)=false:=dN (by omega)
 have d4:decide (x/16777216>=256)=false:=dN (by omega)
 have u:u8.wrap (x/16777216)=x/16777216:=by rw[wrap_u8];omega
 simp only[wP,Ee,Tree.m,Bu,uE,d1,d2,d3,d4,u,cond_true,cond_false]
 generalize(aK _ (dF (x/16777216)) (0:UInt8))=b
 have hb:=dU b
 rw[wrap_i64,wrap_i64,wrap_i64,wrap_i64]
 omega
theorem qaI{x:Int}(h0:65536<=x)(h1:x<16777216):wP x=16+wP (x/65536):=by
 have Bu:bh .u32 x 16=x/65536:=Ed 16 (by omega)
 have d1:decide (x>=65536)=true:=dY (by omega)
 have d2:decide (x/65536>=256)=false:=dN (by omega)
 have d3:decide (x/65536>=65536)=false:=dN (by omega)
 have u:u8.wrap (x/65536)=x/65536:=by rw[wrap_u8];omega
 simp only[wP,Ee,Tree.m,Bu,d1,d2,d3,u,cond_true,cond_false]
 generalize(aK _ (dF (x/65536)) (0:UInt8))=b
 have hb:=dU b
 rw[wrap_i64,wrap_i64,wrap_i64]
 omega
theorem Ov{x:Int}(h0:256<=x)(h1:x<65536):wP x=8+wP (x/256):=by
 have s8:bh .u32 x 8=x/256:=Ed 8 (by omega)
 have d1:decide (x>=65536)=false:=dN (by omega)
 have d2:decide (x>=256)=true:=dY (by omega)
 have d3:decide (x/256>=65536)=false:=dN (by omega)
 have d4:decide (x/256>=256)=false:=dN (by omega)
 have u:u8.wrap (x/256)=x/256:=by rw[wrap_u8];omega
 simp only[wP,Ee,Tree.m,s8,d1,d2,d3,d4,u,cond_true,cond_false]
 generalize(aK _ (dF (x/256)) (0:UInt8))=b
 have hb:=dU b
 rw[wrap_i64,wrap_i64,wrap_i64,wrap_i64]
 omega
theorem Zot{x:Int}(h:U x):∃n:Nat,wP x=n/\Lt x n:=by
 obtain⟨h0,h1⟩:=h
 rcases dV x 256 with a|a
 ·obtain⟨n,e,l,_⟩:=TB h0 a
  exact⟨n,e,l⟩
 ·rcases dV x 65536 with b|b
  ·obtain⟨n,e,l,_⟩:=TB (q:=x/256) (by omega) (by omega)
   exact⟨n+8,by rw[Ov a b,e];omega,Xv (k:=8) rfl (by omega) l⟩
  ·rcases dV x 16777216 with c|c
   ·obtain⟨n,e,l,_⟩:=TB (q:=x/65536) (by omega) (by omega)
    exact⟨n+16,by rw[qaI b c,e];omega,Xv (k:=16) rfl (by omega) l⟩
   ·obtain⟨n,e,l,_⟩:=TB (q:=x/16777216) (by omega) (by omega)
    exact⟨n+24,by rw[xaH ⟨h0,h1⟩ c,e];omega,Xv (k:=24) rfl (by omega) l⟩
theorem Ow{b:gv}(h:U b.C5){P:Nat}:uD b P=true↔b.C5<2^P:=by
 obtain⟨n,e,l⟩:=Zot h
 have hp:(if(0:Int)>(P:Int)then(0:Int)else P)=P:=by rw[if_neg (by omega)]
 simp only[uD,GY,Tree.m,df,e,hp,decide_eq_true_eq]
 constructor
 ·intro h;exact Zkj l (by omega)
 ·intro h;have:=vI l h;omega
theorem Xw{a:Int}(h:U a){P:Nat}(h1:a<2^P):(dW 32 a).toNat<2^P:=by
 obtain⟨a0,a1⟩:=h
 rw[dX,dM a0 (by omega)]
 have:((2^P:Nat):Int)=(2:Int)^P:=by exact_mod_cast rfl
 omega
theorem Ox{a b:Int}(ha:U a)(hb:U b){P:Nat}(hP:P<=32)(h1:a<2^P)(h2:b<2^P):ir .u32 a b<2^P:=by
 have e:(dW 32 a|||dW 32 b).toNat<2^P:=by
  rw[dZ]
  exact Nat.or_lt_two_pow (Xw ha h1) (Xw hb h2)
 have hc:((2^P:Nat):Int)=(2:Int)^P:=by exact_mod_cast rfl
 have l:=(dW 32 a|||dW 32 b).isLt
 show wrap .u32 ((dW 32 a|||dW 32 b).toNat:Int)<2^P
 rw[wrap_u32]
 omega
theorem qam{a b:Int}(ha:U a){P:Nat}(h1:a<2^P):nY .u32 a b<2^P:=by
 have e:(dW 32 a&&&~~~dW 32 b).toNat<2^P:=by
  rw[eA]
  exact Nat.lt_of_le_of_lt eB (Xw ha h1)
 have hc:((2^P:Nat):Int)=(2:Int)^P:=by exact_mod_cast rfl
 have l:=(dW 32 a&&&~~~dW 32 b).isLt
 show wrap .u32 ((dW 32 a&&&~~~dW 32 b).toNat:Int)<2^P
 rw[wrap_u32]
 omega
theorem zh{v:Int}(h0:0<=v)(h1:v<32):eh .u32 1 v=2^v.toNat:=by
 have e:min v.toNat u32.bits=v.toNat:=by show min v.toNat 32=v.toNat;omega
 obtain⟨n,rfl⟩:∃n:Nat,v=n:=⟨v.toNat,by omega⟩
 have hn:n<32:=by omega
 have cj:(2:Nat)^n<4294967296:=by
  have:=eC (show 1<2 by omega) hn
  simpa using this
 have hc:((2^n:Nat):Int)=(2:Int)^n:=by exact_mod_cast rfl
 unfold eh
 rw[e,wrap_u32,Int.one_mul,eD,<-hc]
 clear hc e
 generalize(2:Nat)^n=z at*
 omega
def Cs(P:Nat)(b b':gv):Prop:=okB b'/\(uD b P=true->uD b' P=true)
theorem Zp1{P:Nat}{m:List Int}(h:eu P m){b:gv}(hb:okB b)(port:Int){v:Int}(hv:U v):(Ef b m port v).w (λr=>Cs P b r.1/\eu P r.2):=by
 have gm:jF m=m:=rfl
 have h2:=h.p2
 have hp:=r6 h
 have bf:(Tree.an (mQ m) (.lv (jF m) λx=>.lf (b,x))).w (λr=>Cs P b r.1/\eu P r.2):=cz (r7 h) (ar λx hx=>by rw[gm]at hx;subst hx;exact⟨⟨hb,λh=>h⟩,h⟩)
 unfold Ef
 refine aa (λ_=>bf) λcj=>ay (dY hv.1) (aa (λ_=>ar λx1 hx=>aa (λJd=>aa (λ_=>cz ⟨by decide,by decide,by decide⟩ (ar λx2 _=>bo (Xp h _ _) λx3 ⟨h3,_⟩=>?_)) (λ_=>bf)) (λ_=>bf)) (λ_=>aa (λ_=>cz (r7 h) (ar λx hx=>?_)) (λ_=>bf)))
 ·have cj:=oN cj
  have Jd:=oY Jd
  rw[hx,hp]at Jd
  obtain⟨v0,v1⟩:=hv
  have ev:i64.wrap v=v:=by rw[wrap_i64];omega
  rw[ev]at Jd
  refine⟨⟨⟨hb.1,fj _⟩,λhm=>?_⟩,h3⟩
  rw[Ow hb.2]at hm
  rw[Ow (fj _)]
  have hs:eh .u32 1 v<2^P:=by
   rw[zh v0 (by omega)]
   have:=eC (show 1<2 by omega) (show v.toNat<P by omega)
   exact_mod_cast this
  exact Ox hb.2 (fj _) h2 hm hs
 ·rw[gm]at hx;subst hx
  refine⟨⟨⟨hb.1,fj _⟩,λhm=>?_⟩,h⟩
  rw[Ow hb.2]at hm
  rw[Ow (fj _)]
  exact qam hb.2 hm
structure kept(P:Nat)(m n:au):Prop where
 ok:rB P n
 dev:sT m=true->sT n=true
 mj:n.B4=m.B4
 lS:n.A4=m.A4
 wait:n.A9=m.A9
 halt:n.B0=m.B0
theorem Zeg{P:Nat}{m:au}(h:rB P m):kept P m m:=⟨h,λh=>h,rfl,rfl,rfl,rfl⟩
theorem Lu{P:Nat}{m n:au}(hm:eu P m.Mem)(hn:eu P n.Mem)(hc:tN m.A7=true->tN n.A7=true)(ht:tO m.B2=true->tO n.B2=true)
 (hd:kr m.B1 P=true->kr n.B1 P=true) (hk:pE m.C6 P=true->pE n.C6 P=true) (hb:uD m.A6 P=true->uD n.A6 P=true) (h:sT m=true):sT n=true:=by
 rw[vg]at h⊢
 rw[r6 hm]at h
 rw[r6 hn]
 simp only[aE]at h⊢
 exact⟨hc h.1,ht h.2.1,hd h.2.2.1,hk h.2.2.2.1,hb h.2.2.2.2⟩
theorem Zj6{P:Nat}{m:au}(h:rB P m)(port:Int){v:Int}(hv:U v)(dj:Int):(Lv m port v dj).w (λr=>kept P m r.1/\r.2.length<=1):=by
 have k:=Zeg h
 obtain⟨h1,h2,h3,h4,h5,h6⟩:=h
 have id:∀{p:Prop},p->p:=λh=>h
 have D:∀(x:fp×List dw),(sU P m.B1 x.1/\x.2.length<=1)->kept P m {B4:=m.B4,Mem:=m.Mem,A7:=m.A7,B2:=m.B2,B1:=x.1,C6:=m.C6,A6:=m.A6,A4:=m.A4,A9:=m.A9,B0:=m.B0}/\x.2.length<=1:=λx hx=>
  ⟨⟨⟨h1,h2,hx.1.1,h4,h5,h6⟩,Lu h2 h2 id id hx.1.2 id id,rfl,rfl,rfl,rfl⟩,hx.2⟩
 have N:∀(x:ia×List dw),(Cq P m.C6 x.1/\x.2.length<=1)->kept P m {B4:=m.B4,Mem:=m.Mem,A7:=m.A7,B2:=m.B2,B1:=m.B1,C6:=x.1,A6:=m.A6,A4:=m.A4,A9:=m.A9,B0:=m.B0}/\x.2.length<=1:=λx hx=>
  ⟨⟨⟨h1,h2,h3,hx.1.1,h5,h6⟩,Lu h2 h2 id id id hx.1.2 id,rfl,rfl,rfl,rfl⟩,hx.2⟩
 have B:∀(x:gv×List Int),(Cs P m.A6 x.1/\eu P x.2)->kept P m {B4:=m.B4,Mem:=x.2,A7:=m.A7,B2:=m.B2,B1:=m.B1,C6:=m.C6,A6:=x.1,A4:=m.A4,A9:=m.A9,B0:=m.B0}/\([]:List dw).length<=1:=λx hx=>
  ⟨⟨⟨h1,hx.2,h3,h4,hx.1.1.1,hx.1.1.2⟩,Lu h2 hx.2 id id id id hx.1.2,rfl,rfl,rfl,rfl⟩,aT _⟩
 unfold Lv
 repeat'(first
  |exact⟨k,aO _⟩
  |exact⟨k,aT _⟩
  |exact ar λx hx=>⟨⟨⟨h1,h2,h3,h4,h5,h6⟩,Lu h2 h2 id (λ_=>by rw[hx];exact xal _ _) id id id,rfl,rfl,rfl,rfl⟩,aT _⟩
  |exact bo (zal h2 h3 _ hv _) λx hx=>D x hx
  |exact bo (zaH h2 h4 _ hv _) λx hx=>N x hx
  |exact bo (Zp1 h2 ⟨h5,h6⟩ _ hv) λx hx=>B x hx
  |refine aa (λ_=>?_) (λ_=>?_))
theorem Z9e(c:iW)(port:Int):(Je c port).w (λr=>U r.2/\(tN c=true->tN r.1=true)):=by
 have u1:U 4294967295:=⟨by omega,by omega⟩
 unfold Je
 refine aa (λ_=>aa (λ_=>⟨u1,λh=>h⟩) (λhb=>ay ?_ (ay ?_ ⟨fj _,λhm=>?_⟩))) (λ_=>aa (λ_=>⟨fj _,λh=>h⟩) (λ_=>⟨ep,λh=>h⟩))
 ·have hb:=oN hb
  have:0<c.D5.length:=List.length_pos_iff.2 hb
  simp[bJ];omega
 ·have hb:=oN hb
  have:0<c.D5.length:=List.length_pos_iff.2 hb
  exact dY (by omega)
 ·have hm:decide ((c.D5.length:Int)<=16)=true:=hm
  have hm:=oY hm
  show decide (((dB _ (dC _ c.D5)).length:Int)<=16)=true
  refine dY ?_
  rw[bD,bF];omega
theorem Zoq{P:Nat}{m:au}(h:rB P m)(port:Int){clock:Int}(hc:U clock):(Lw m port clock).w (λr=>kept P m r.1/\U r.2):=by
 have k:=Zeg h
 obtain⟨h1,h2,h3,h4,h5,h6⟩:=h
 have id:∀{p:Prop},p->p:=λh=>h
 have ti:∀t,U (Xx t):=λt=>by
  refine Tree.post (TC t) (W:=U) ?_
  unfold TC
  exact aa (λ_=>⟨by omega,by omega⟩) (λ_=>ep)
 have di:∀p,U (Oy m.B1 p):=λp=>by
  refine Tree.post (TE m.B1 p) (W:=U) ?_
  unfold TE
  exact aa (λ_=>h3.block) (λ_=>aa (λ_=>h3.frame) (λ_=>aa (λ_=>fj _) (λ_=>ep)))
 have ni:∀p,U (Lx m.C6 p):=λp=>by
  refine Tree.post (Oz m.C6 p) (W:=U) ?_
  unfold Oz
  exact aa (λ_=>h4.frame) (λ_=>aa (λ_=>h4.G0) (λ_=>aa (λ_=>aa (λ_=>aa (λ_=>fj _) (λ_=>fj _)) (λ_=>aa (λ_=>fj _) (λ_=>ep))) (λ_=>ep)))
 have bi:∀p,(Ly m.A6 p).w U:=λp=>by
  unfold Ly
  exact aa (λ_=>h5) (λ_=>aa (λ_=>bo (Zm8 h6) λ_ _=>fj _) (λ_=>ep))
 have C:∀(x:iW×Int),(U x.2/\(tN m.A7=true->tN x.1=true))->kept P m {B4:=m.B4,Mem:=m.Mem,A7:=x.1,B2:=m.B2,B1:=m.B1,C6:=m.C6,A6:=m.A6,A4:=m.A4,A9:=m.A9,B0:=m.B0}/\U x.2:=λx hx=>
  ⟨⟨⟨h1,h2,h3,h4,h5,h6⟩,Lu h2 h2 hx.2 id id id id,rfl,rfl,rfl,rfl⟩,hx.1⟩
 unfold Lw
 repeat'(first
  |exact⟨k,hc⟩
  |exact⟨k,ep⟩
  |exact bo (Z9e _ _) λx hx=>C x hx
  |exact NY (Z9e _ _) λx hx=>C x hx
  |exact ar λx hx=>⟨k,by rw[hx];exact ti _⟩
  |exact ar λx hx=>⟨k,by rw[hx];exact di _⟩
  |exact ar λx hx=>⟨k,by rw[hx];exact ni _⟩
  |exact bo (bi _) λx hx=>⟨k,hx⟩
  |refine aa (λ_=>?_) (λ_=>?_))
structure mU(c:bj):Prop where
 x0:c.X.a0=0
 st:c.B7.a0<=31
 en:c.B7.a7<=31
 rt:c.B7.a6<=255
 ve:dE c.B7.a1 4=0
theorem mU.pc{c:bj}(h:mU c)(p:Int):mU {X:=c.X,Pc:=p,B7:=c.B7}:=⟨h.x0,h.st,h.en,h.rt,h.ve⟩
theorem G1(a:Int):bg .u32 a 31<=31:=by
 have e:(dW 32 a&&&dW 32 31).toNat<=31:=by
  rw[eA]
  exact bH Nat.and_le_right (by decide)
 show wrap .u32 ((dW 32 a&&&dW 32 31).toNat:Int)<=31
 rw[wrap_u32];omega
theorem Fx(a:Int):bg .u32 a 255<=255:=by have:=Ct a;omega
theorem OA(a:Int):dE (nY .u32 a 3) 4=0:=by
 have e:(dW 32 a&&&~~~dW 32 3).toNat%4=0:=by
  rw[eA,show(~~~dW 32 3).toNat=4294967292 by decide]
  have:=Nat.and_mod_two_pow (a:=(dW 32 a).toNat) (b:=4294967292) (n:=2)
  simpa using this
 have l:=(dW 32 a&&&~~~dW 32 3).isLt
 show dE (wrap .u32 ((dW 32 a&&&~~~dW 32 3).toNat:Int)) 4=0
 rw[wrap_u32,eF (by omega)]
 omega
theorem G2{f:Int->Int}(h:(dD 32).all (λn=>decide (f n<=31))=true){s:Int}(h0:0<=s)(h1:s<=31):f s<=31:=by
 have:=List.all_eq_true.1 h s.toNat (List.mem_range.2 (by omega))
 have e:((s.toNat:Nat):Int)=s:=by omega
 rw[e]at this
 exact oY this
theorem Jf{c:bj}(h:iz c)(m:mU c)(k b:Int):mU (rC c k b):=
 ⟨m.x0,G2 (f:=λs=>nY .u32 (ir .u32 (AK (AK s 1 8) 2 16) 1) 2) (by kernel_rfl) h.a0.1 m.st,m.en,m.rt,m.ve⟩
theorem Zq0{c:bj}(h:iz c)(m:mU c):mU (Lz c):=
 ⟨m.x0,G2 (f:=λs=>AK (AK s 8 1) 16 2) (by kernel_rfl) h.a0.1 m.st,m.en,m.rt,m.ve⟩
theorem LA{c:bj}(m:mU c){r:Int}(hr:0<=r/\r<16)(v:Int):(Fy c r v).w mU:=by
 unfold Fy
 refine aa (λhn=>ay (rc hr) ?_) (λ_=>m)
 have hn:r≠0:=by simpa using hn
 obtain⟨n,e⟩:∃n:Nat,r.toNat=n+1:=⟨r.toNat-1,by omega⟩
 refine⟨?_,m.st,m.en,m.rt,m.ve⟩
 show(iV.of 0 (dG (iV.l c.X) r.toNat v)).a0=0
 rw[e]
 exact m.x0
theorem yh{c:bj}(m:mU c)(k v:Int):(Jg c k v).w mU:=by
 unfold Jg
 refine aa (λhk=>ay (by rw[eq_of_beq hk];decide) ?_) λ_=>aa (λhk=>ay (by rw[eq_of_beq hk];decide) ?_) λ_=>aa (λhk=>ay (by rw[eq_of_beq hk];decide) ?_) λ_=>aa (λhk=>ay (by rw[eq_of_beq hk];decide) ?_) λ_=>aa (λhk=>ay (by rw[eq_of_beq hk];decide) ?_) λ_=>aa (λhk=>ay (by rw[eq_of_beq hk];decide) ?_) λ_=>aa (λhk=>ay (by rw[eq_of_beq hk];decide) ?_) λ_=>aa (λhk=>ay (by rw[eq_of_beq hk];decide) ?_) (λ_=>m)
 all_goals(have hk:=eq_of_beq hk;subst hk)
 ·exact⟨m.x0,G1 _,m.en,m.rt,m.ve⟩
 ·exact⟨m.x0,m.st,G1 _,m.rt,m.ve⟩
 ·exact⟨m.x0,m.st,m.en,Fx _,m.ve⟩
 ·exact⟨m.x0,m.st,m.en,m.rt,OA _⟩
 ·exact⟨m.x0,m.st,m.en,m.rt,m.ve⟩
 ·exact⟨m.x0,m.st,m.en,m.rt,m.ve⟩
 ·exact⟨m.x0,m.st,m.en,m.rt,m.ve⟩
 ·exact⟨m.x0,m.st,m.en,m.rt,m.ve⟩
section
variable {c:bj} (h:iz c) (m:mU c) {i:gu} (hi:sV i)
include h m hi
theorem Zl9:(Fz c i).w (λr=>mU r.1):=by
 unfold Fz
 refine ay (rc hi.a) (ay (rc hi.b) ?_)
 repeat'(first
  |refine aa (λ_=>?_) (λ_=>?_)
  |exact bo (LA m hi.a _) λx hx=>hx.pc _
  |exact ar λx _=>aa (λ_=>m.pc _) (λ_=>m.pc _)
  |exact ar λx hx=>by rw[hx];exact Jf h m _ _
  |exact ar λx hx=>by rw[hx];exact Zq0 h m
  |exact ay (by have:=hi.jt (by simp_all);simp[bJ];omega) (bo (LA m hi.a _) λx hx=>hx.pc _)
  |exact bo (yh m _ _) λx hx=>hx.pc _
  |refine ay (rc hi.c) ?_
  |exact bo (LB _ (h.r _) (fj _)) λy hy=>bo (LA m hi.a _) λx hx=>hx.pc _
  |exact bo (LB _ (h.r _) (h.r _)) λy hy=>bo (LA m hi.a _) λx hx=>hx.pc _
  |refine fe ?_)
 all_goals exact m.pc _
theorem qJ{P:Nat}{mem:List Int}(hm:eu P mem):(Jh c mem i).w (λr=>mU r.1):=by
 have w:=TF i.Op
 unfold Jh
 refine ay (rc hi.b) (ar λx0 h0=>?_)
 rw[<-h0]at w
 refine bo (OB hm (fj _) w 2) λx1 h1=>aa (λ_=>ar λy hy=>by rw[hy];exact Jf h m _ _) (λ_=>ar λx3 h3=>?_)
 rw[h0,<-h3]at w
 exact bo (Ji h1.2 h1.1 w) λx4 h4=>aa (λ_=>bo (Xy h4.1 8) λy hy=>bo (LA m hi.a _) λx hx=>hx.pc _) (λ_=>bo (LA m hi.a _) λx hx=>hx.pc _)
theorem vh{P:Nat}{mem:List Int}(hm:eu P mem):(Jj c mem i).w (λr=>mU r.1):=by
 have w:=TF i.Op
 unfold Jj
 refine ay (rc hi.b) (ar λx0 h0=>?_)
 rw[<-h0]at w
 refine bo (OB hm (fj _) w 3) λx1 h1=>aa (λ_=>ar λy hy=>by rw[hy];exact Jf h m _ _) (λ_=>ar λx3 h3=>ay (rc hi.a) ?_)
 rw[h0,<-h3]at w
 exact bo (TG h1.2 h1.1 w (h.r _)) λx hx=>m.pc _
end
theorem xJ{c:bj}(h:iz c)(m:mU c){P:Nat}{mem:List Int}(hm:eu P mem):(FA c mem).w (λr=>mU r.1):=by
 unfold FA
 refine bo (Xz hm h) λx0 h0=>aa (λ_=>ar λy hy=>by rw[hy];exact Jf h m _ _) (λ_=>bo (XA _) λx2 h2=>aa (λ_=>ar λy hy=>by rw[hy];exact Jf h m _ _) (λhb=>?_))
 have hi:=h2 (by simpa using hb)
 refine ar λx4 _=>?_
 repeat'(first
  |refine aa (λ_=>?_) (λ_=>?_)
  |exact bo (qJ h m hi h0.2) λx hx=>hx
  |exact bo (vh h m hi h0.2) λx hx=>hx
  |exact bo (Zl9 h m hi) λx hx=>hx
  |exact ar λy hy=>by rw[hy];exact Jf h m _ _
  |refine ar λ_ _=>?_)
theorem Zkh{c:bj}(h:iz c){i:gu}(hi:sV i):(Fz c i).w (λr=>0<=r.2.F3/\r.2.F3<16):=by
 have z:(0:Int)<=0/\(0:Int)<16:=⟨by decide,by decide⟩
 unfold Fz
 refine ay (rc hi.a) (ay (rc hi.b) ?_)
 repeat'(first
  |refine aa (λ_=>?_) (λ_=>?_)
  |exact bo (Eg h hi.a (fj _)) λx hx=>z
  |exact ar λx _=>aa (λ_=>z) (λ_=>z)
  |exact ar λx hx=>z
  |exact ay (by have:=hi.jt (by simp_all);simp[bJ];omega) (bo (Eg h hi.a (h.a _)) λx hx=>z)
  |exact bo (Zn9 h _ (h.r _)) λx hx=>z
  |refine ay (rc hi.c) ?_
  |exact bo (LB _ (h.r _) (fj _)) λy hy=>bo (Eg h hi.a hy) λx hx=>z
  |exact bo (LB _ (h.r _) (h.r _)) λy hy=>bo (Eg h hi.a hy) λx hx=>z
  |refine fe ?_)
 all_goals first|exact z|exact hi.a
theorem Znq{c:bj}(h:iz c){P:Nat}{mem:List Int}(hm:eu P mem):(FA c mem).w (λr=>0<=r.2.2.F3/\r.2.2.F3<16):=by
 have z:(0:Int)<=0/\(0:Int)<16:=⟨by decide,by decide⟩
 unfold FA
 refine bo (Xz hm h) λx0 h0=>aa (λ_=>ar λy hy=>z) (λ_=>bo (XA _) λx2 h2=>aa (λ_=>ar λy hy=>z) (λhb=>?_))
 have hi:=h2 (by simpa using hb)
 refine ar λx4 _=>?_
 repeat'(first
  |refine aa (λ_=>?_) (λ_=>?_)
  |exact bo (Z5f h hi h0.2) λx hx=>z
  |exact bo (Qzc h hi h0.2) λx hx=>z
  |exact bo (Zkh h hi) λx hx=>hx
  |exact ar λy hy=>z
  |refine ar λ_ _=>?_)
theorem nk{a x:Bool}:(bif a then false else x)=true↔a=false/\x=true:=by cases a<;>simp
theorem G3(m:au):nj m=true↔mb m.Mem≠0/\mU m.B4/\m.A4<=1152921504606846976/\¬(m.A9=true/\m.B0=true)/\sT m=true:=by
 rw[qY]
 unfold Fw chain
 rw[nk,nk,nk,nk,nk,nk,nk]
 simp only[decide_eq_false_iff_not,Int.not_lt,beq_eq_false_iff_ne,bne_eq_false_iff_eq,gt_iff_lt]
 constructor
 ·rintro⟨a1,a2,a3,a4,a5,a6,a7,a8⟩
  refine⟨a1,⟨a2,a3,a4,a5,a6⟩,a7,?_,?_⟩
  ·rintro⟨w,h⟩;rw[w,h]at a8;cases a8
  ·revert a8;cases m.A9
   ·exactλh=>h
   ·cases m.B0
    ·exactλh=>h
    ·intro h;cases h
 ·rintro⟨a1,⟨a2,a3,a4,a5,a6⟩,a7,a8,a9⟩
  refine⟨a1,a2,a3,a4,a5,a6,a7,?_⟩
  rw[a9]
  cases hw:m.A9
  ·rfl
  ·cases hh:m.B0
   ·rfl
   ·exact absurd ⟨hw,hh⟩ a8
theorem TH{m:au}(h:AL m=true):nj m=true/\m.B0=false/\m.A4<1152921504606846976:=by
 simp only[AL,Jk,Tree.m,df]at h
 cases h1:nj m
 ·rw[h1]at h;cases h
 ·cases h2:m.B0
  ·rw[h1,h2]at h
   cases h3:LC m
   ·rw[h3]at h
    have h:decide (m.A4<1152921504606846976)=true:=h
    exact⟨rfl,rfl,oY h⟩
   ·rw[h3]at h;cases h
  ·rw[h1,h2]at h;cases h
theorem Z4{P:Nat}{m:au}(h:rB P m)(g:mU m.B4):(G4 m).w (λr=>mU r.B4/\rB P r/\r.Mem=m.Mem/\r.A9=false/\r.B0=m.B0/\r.A4=m.A4/\r.A7=m.A7/\r.B2=m.B2/\r.B1=m.B1/\r.C6=m.C6/\r.A6=m.A6):=by
 obtain⟨h1,h2,h3,h4,h5,h6⟩:=h
 unfold G4
 refine aa (λ_=>⟨g,⟨h1,h2,h3,h4,h5,h6⟩,rfl,rfl,rfl,rfl,rfl,rfl,rfl,rfl,rfl⟩) (λ_=>bo (XB (m:=⟨_,_,_,_,_,_,m.A6,_,_,_⟩) h6) λx0 _=>fy (inv:=λz=>0<=z/\z<=5) (μ:=XC m) ⟨by omega,by omega⟩ (cO _) (λz hz=>?_))
 obtain⟨z1,z2⟩:=hz
 refine aa (λhb=>ay (dY z1) (aa (λ_=>ar λx1 hx=>⟨by rw[hx];exact Jf h1 g _ _,⟨by rw[hx];exact G5 h1 _ ep,h2,h3,h4,h5,h6⟩,rfl,rfl,rfl,rfl,rfl,rfl,rfl,rfl,rfl⟩) (λ_=>ff ?_))) (λ_=>⟨g,⟨h1,h2,h3,h4,h5,h6⟩,rfl,rfl,rfl,rfl,rfl,rfl,rfl,rfl,rfl⟩)
 have hb:=oY hb
 show(0<=i64.wrap (z+1)/\i64.wrap (z+1)<=5)/\(5-i64.wrap (z+1)).toNat<(5-z).toNat
 have ew:i64.wrap (z+1)=z+1:=by rw[wrap_i64];omega
 rw[ew];omega
structure Good(P:Nat)(m r:au):Prop where
 ok:rB P r
 lS:0<=r.A4
 may:nj m=true->nj r=true
 or:r=m\/r.A4=m.A4+1
theorem qi{P:Nat}{m:au}(h:rB P m)(GL:0<=m.A4){clock:Int}(hk:U clock):(G6 m clock).w (λr=>r.2.length<=1/\Good P m r.1):=by
 have gm:jF m.Mem=m.Mem:=rfl
 unfold G6
 refine cz (r7 h.mem) (ar λl hl=>?_)
 rw[gm]at hl;subst hl
 refine cz (Tree.pp (XD (m:=⟨_,_,_,_,_,_,m.A6,_,_,_⟩) h.given)).1 (ar λx1 nQ=>aa (λ_=>⟨aT _,h,GL,λh=>h,.inl rfl⟩) (λhb=>?_))
 have hr:AL m=true:=by rw[<-show x1=AL m from nQ];simpa using hb
 obtain⟨hm,hh,Oo⟩:=TH hr
 obtain⟨g1,g2,g3,g4,g5⟩:=(G3 m).1 hm
 have hP:(P:Int)≠0:=by rw[<-r6 h.mem];exact g1
 have fin:∀(n:au),rB P n->mU n.B4->sT n=true->n.A4=m.A4->¬(n.A9=true/\n.B0=true)->Good P m {B4:=n.B4,Mem:=n.Mem,A7:=n.A7,B2:=n.B2,B1:=n.B1,C6:=n.C6,A6:=n.A6,A4:=wrap .u64 (n.A4+1),A9:=n.A9,B0:=n.B0}:=λn a b c d e=>by
  have ec:wrap .u64 (n.A4+1)=m.A4+1:=by rw[d,wrap_u64];omega
  refine⟨⟨a.mj,a.mem,a.kY,a.sW,a.target,a.given⟩,?_,λ_=>(G3 _).2 ⟨?_,b,?_,e,c⟩,.inr ec⟩
  ·show 0<=wrap .u64 (n.A4+1);omega
  ·show mb n.Mem≠0;rw[r6 a.mem];exact hP
  ·show wrap .u64 (n.A4+1)<=_;omega
 refine bo (Z4 (m:=⟨_,_,m.A7,m.B2,m.B1,m.C6,m.A6,m.A4,m.A9,m.B0⟩) ⟨h.mj,h.mem,h.kY,h.sW,h.target,h.given⟩ g2) λx2 Jl=>?_
 obtain⟨b1,b2,b3,b4,b5,b6,b7,b8,b9,b10,b11⟩:=Jl
 have ex:=Tree.pp (vz b2.mj b2.mem)
 have em:=Tree.pp (xJ b2.mj b1 b2.mem)
 have er:=Tree.pp (Znq b2.mj b2.mem)
 refine cz ex.1 (ar λx3 h3=>?_)
 obtain⟨e1,e2,e3⟩:iz x3.1/\eu P x3.2.1/\U x3.2.2.Value:=by rw[h3];exact ex.2
 have f1:mU x3.1:=by rw[h3];exact em.2
 have r1:0<=x3.2.2.F3/\x3.2.2.F3<16:=by rw[h3];exact er.2
 have XE:rB P ⟨x3.1,x3.2.1,x2.A7,x2.B2,x2.B1,x2.C6,x2.A6,x2.A4,x2.A9,x2.B0⟩:=⟨e1,e2,b2.kY,b2.sW,b2.target,b2.given⟩
 have dev:∀(w h:Bool),sT ⟨x3.1,x3.2.1,x2.A7,x2.B2,x2.B1,x2.C6,x2.A6,x2.A4,w,h⟩=true:=λw hh=>by
  have id:∀{p:Prop},p->p:=λh=>h
  refine Lu (m:=m) (P:=P) h.mem e2 ?_ ?_ ?_ ?_ ?_ g5
  ·show _->tN x2.A7=true;rw[b7];exact id
  ·show _->tO x2.B2=true;rw[b8];exact id
  ·show _->kr x2.B1 P=true;rw[b9];exact id
  ·show _->pE x2.C6 P=true;rw[b10];exact id
  ·show _->uD x2.A6 P=true;rw[b11];exact id
 have hw:x2.A9=false:=b4
 have hh2:x2.B0=false:=b5.trans hh
 have Cu:x2.A4=m.A4:=b6
 refine aa (λ_=>?_) λ_=>aa (λ_=>?_) λ_=>aa (λ_=>?_) λ_=>aa (λ_=>?_) λ_=>?_
 ·refine bo (Zoq XE _ hk) λx4 h4=>?_
  obtain⟨k,u⟩:=h4
  have kc:x4.1.B4=x3.1:=k.mj
  have kt:x4.1.A4=m.A4:=k.lS.trans Cu
  have kw:¬(x4.1.A9=true/\x4.1.B0=true):=λe=>by have:x4.1.A9=x2.A9:=k.wait;rw[this,hw]at e;cases e.1
  have km:mU x4.1.B4:=by rw[kc];exact f1
  refine aa (λhn=>ay (rc r1) ⟨aT _,?_⟩) (λ_=>⟨aT _,fin x4.1 k.ok km (k.dev (dev _ _)) kt kw⟩)
  have hn:x3.2.2.F3≠0:=by simpa using hn
  obtain⟨q,e⟩:∃q:Nat,x3.2.2.F3.toNat=q+1:=⟨x3.2.2.F3.toNat-1,by omega⟩
  refine fin ⟨⟨iV.of 0 (dG (iV.l x4.1.B4.X) x3.2.2.F3.toNat x4.2),x4.1.B4.Pc,x4.1.B4.B7⟩,x4.1.Mem,x4.1.A7,x4.1.B2,x4.1.B1,x4.1.C6,x4.1.A6,x4.1.A4,x4.1.A9,x4.1.B0⟩ ⟨⟨XF k.ok.mj.x u _,k.ok.mj.pc,k.ok.mj.jt⟩,k.ok.mem,k.ok.kY,k.ok.sW,k.ok.target,k.ok.given⟩ ⟨?_,km.st,km.en,km.rt,km.ve⟩ (k.dev (dev _ _)) kt kw
  show(iV.of 0 (dG (iV.l x4.1.B4.X) x3.2.2.F3.toNat x4.2)).a0=0
  rw[e]
  exact km.x0
 ·refine bo (Zj6 XE _ e3 _) λx5 h5=>?_
  obtain⟨k,u⟩:=h5
  have kc:x5.1.B4=x3.1:=k.mj
  exact⟨u,fin x5.1 k.ok (by rw[kc];exact f1) (k.dev (dev _ _)) (k.lS.trans Cu) (λe=>by have:x5.1.A9=x2.A9:=k.wait;rw[this,hw]at e;cases e.1)⟩
 ·exact⟨aT _,fin ⟨x3.1,x3.2.1,x2.A7,x2.B2,x2.B1,x2.C6,x2.A6,x2.A4,true,x2.B0⟩ ⟨e1,e2,b2.kY,b2.sW,b2.target,b2.given⟩ f1 (dev _ _) Cu (λe=>by have e2:x2.B0=true:=e.2;rw[hh2]at e2;cases e2)⟩
 ·exact⟨aT _,fin ⟨x3.1,x3.2.1,x2.A7,x2.B2,x2.B1,x2.C6,x2.A6,x2.A4,x2.A9,true⟩ ⟨e1,e2,b2.kY,b2.sW,b2.target,b2.given⟩ f1 (dev _ _) Cu (λe=>by have e2:x2.A9=true:=e.1;rw[hw]at e2;cases e2)⟩
 ·exact⟨aT _,fin ⟨x3.1,x3.2.1,x2.A7,x2.B2,x2.B1,x2.C6,x2.A6,x2.A4,x2.A9,x2.B0⟩ XE f1 (dev _ _) Cu (λe=>by have e2:x2.A9=true:=e.1;rw[hw]at e2;cases e2)⟩
theorem Zmn{P:Nat}{m:au}(h:nO P m){e:gx}(he:U e.N):(G7 m e).w (λr=>(nj m=true->nj r.1=true)/\r.1.A4=m.A4/\U r.1.A6.C5):=by
 obtain⟨h1,h2,h3,h4,h5,h7⟩:=h
 have gm:jF m.Mem=m.Mem:=rfl
 have pg:∀{m':List Int},eu P m'->mb m'=mb m.Mem:=λh=>by rw[r6 h,r6 h2]
 have bf:(nj m=true->nj m=true)/\m.A4=m.A4/\U m.A6.C5:=⟨λh=>h,rfl,h5.2⟩
 unfold G7
 refine cz (r7 h2) (ar λl hl=>?_)
 rw[gm]at hl;subst hl
 refine bo (TJ (m:=⟨_,_,_,_,_,_,m.A6,_,_,_⟩) h5.2) λx1 _=>aa (λ_=>bf) λ_=>aa (λ_=>bf) λ_=>?_
 refine aa (λ_=>aa (λ_=>aa (λ_=>ar λx hx=>?_) (λ_=>bf)) (λ_=>bf)) λ_=>aa (λ_=>aa (λ_=>aa (λ_=>bo (qal _ _) λx hx=>?_) (λ_=>bf)) (λ_=>bf)) λ_=>aa (λhk=>bo (Zqi h2 h3 e) λx hx=>?_) λ_=>aa (λhk=>aa (λ_=>bo (yg h2 h4 _) λx hx=>?_) (λ_=>bf)) λ_=>aa (λ_=>aa (λ_=>?_) (λ_=>bf)) (λ_=>bf)
 ·exact⟨On rfl rfl rfl rfl rfl (λh=>h) (λh=>by rw[hx];exact yI _ h) (λ_ h=>h) (λ_ h=>h) rfl,rfl,h5.2⟩
 ·exact⟨On rfl rfl rfl rfl rfl hx (λh=>h) (λ_ h=>h) (λ_ h=>h) rfl,rfl,h5.2⟩
 ·obtain⟨a1,a2,a3,a4,a5⟩:=hx
  exact⟨On (pg a2) rfl rfl rfl rfl (λh=>h) (λh=>h) a5 (λ_ h=>h) rfl,rfl,h5.2⟩
 ·obtain⟨a1,a2,a3,a4,a5⟩:=hx
  exact⟨On (pg a2) rfl rfl rfl rfl (λh=>h) (λh=>h) (λ_ h=>h) a5 rfl,rfl,h5.2⟩
 ·exact⟨On rfl rfl rfl rfl rfl (λh=>h) (λh=>h) (λ_ h=>h) (λ_ h=>h) rfl,rfl,h5.2⟩
theorem Qy{a:Int}(h:U a):(dW 32 a).toNat=a.toNat:=by
 obtain⟨h1,h2⟩:=h
 rw[dX];omega
theorem XG{a b:Int}(ha:U a)(hb:U b):bg .u32 a b=((a.toNat&&&b.toNat:Nat):Int):=by
 have l:=(dW 32 a&&&dW 32 b).isLt
 have e:(dW 32 a&&&dW 32 b).toNat=a.toNat&&&b.toNat:=by rw[eA,Qy ha,Qy hb]
 show wrap .u32 ((dW 32 a&&&dW 32 b).toNat:Int)=_
 rw[wrap_u32,<-e];omega
theorem zaI{a b:Int}(ha:U a)(hb:U b):ir .u32 a b=((a.toNat|||b.toNat:Nat):Int):=by
 have l:=(dW 32 a|||dW 32 b).isLt
 have e:(dW 32 a|||dW 32 b).toNat=a.toNat|||b.toNat:=by rw[dZ,Qy ha,Qy hb]
 show wrap .u32 ((dW 32 a|||dW 32 b).toNat:Int)=_
 rw[wrap_u32,<-e];omega
theorem XH{a:Int}(ha:U a)(k:Nat)(hk:k<=32){q:Int}(hq:q=((2^k-1:Nat):Int)):bg .u32 a q=a%2^k:=by
 have hp:2^k<=2^32:=dT (by decide) hk
 have h1:(2:Nat)^32=4294967296:=by decide
 have uF:=eG k
 subst hq
 rw[XG ha ⟨by omega,by omega⟩,eD,Nat.and_two_pow_sub_one_eq_mod]
 have:=ha.1
 rw[Int.natCast_emod,eH this]
 simp
theorem m15{a:Int}(ha:U a):bg .u32 a 15=a%16:=XH ha 4 (by decide) rfl
theorem Cv{a:Int}(ha:U a):bg .u32 a 255=a%256:=XH ha 8 (by decide) rfl
theorem Jm{a:Int}(ha:U a):bg .u32 a 65535=a%65536:=XH ha 16 (by decide) rfl
theorem FB(p:Int->Bool)(N:Nat)(h:(dD N).all (λn=>p n)=true){s:Int}(h0:0<=s)(h1:s<N):p s=true:=by
 have:=List.all_eq_true.1 h s.toNat (List.mem_range.2 (by omega))
 rwa [eH h0]at this
theorem DW{x:Int}(h0: -9223372036854775808<=x)(h1:x<9223372036854775808):wrap .i64 x=x:=by rw[wrap_i64];omega
theorem OC(a:Int):bh .u32 a 0=a:=by have:=Ed (a:=a) 0 (by decide);simpa using this
theorem fld(w:Int):tP w 24 8=bg .u32 (bh .u32 w 24) 255/\tP w 20 4=bg .u32 (bh .u32 w 20) 15/\tP w 16 4=bg .u32 (bh .u32 w 16) 15/\tP w 0 16=bg .u32 (bh .u32 w 0) 65535/\tP w 8 8=bg .u32 (bh .u32 w 8) 255:=
 ⟨by kernel_rfl,by kernel_rfl,by kernel_rfl,by kernel_rfl,by kernel_rfl⟩
def Cw(f:Int):Ar×Bool:=
 bif f==1 then(⟨false,false,false,0,0⟩,true)else bif f==2 then(⟨true,true,true,0,0⟩,true)else bif f==3 then(⟨true,true,false,-32768,32767⟩,true)
 else bif f==4 then(⟨true,true,false,0,65535⟩,true)else bif f==5 then(⟨true,true,false,0,31⟩,true)else bif f==6 then(⟨true,false,false,0,65535⟩,true)
 else bif f==7 then(⟨true,false,false,-32768,32767⟩,true)else bif f==8 then(⟨true,false,false,0,7⟩,true)else bif f==9 then(⟨true,false,false,0,11⟩,true)else(⟨false,false,false,0,0⟩,false)
def Cx(x y:Ar×Bool):Bool:=x.1.a==y.1.a&&x.1.b==y.1.b&&x.1.c==y.1.c&&x.1.low==y.1.low&&x.1.D9==y.1.D9&&x.2==y.2
theorem zJ{x y:Ar×Bool}(h:Cx x y=true):x=y:=by
 obtain⟨⟨a,b,c,d,e⟩,f⟩:=x
 obtain⟨⟨a',b',c',d',e'⟩,f'⟩:=y
 simp only[Cx,aE,beq_iff_eq]at h
 obtain⟨⟨⟨⟨⟨rfl,rfl⟩,rfl⟩,rfl⟩,rfl⟩,rfl⟩:=h
 rfl
theorem xY{op:Int}(h0:0<=op)(h1:op<256):TL op=Cw (o8 op):=by
 exact zJ (FB (λop=>Cx (TL op) (Cw (o8 op))) 256 (by kernel_rfl) h0 h1)
theorem xi{op:Int}(h0:0<=op)(h1:op<256):o8 op=0\/o8 op=1\/o8 op=2\/o8 op=3\/o8 op=4\/o8 op=5\/o8 op=6\/o8 op=7\/o8 op=8\/o8 op=9:=by
 have:=oY (FB (λop=>decide (0<=o8 op/\o8 op<=9)) 256 (by kernel_rfl) h0 h1)
 omega
theorem zam{op:Int}(h0:0<=op)(h1:op<256):OD op=G8 op:=by
 exact eq_of_beq (FB (λop=>OD op==G8 op) 256 (by kernel_rfl) h0 h1)
theorem yJ{a x y:Bool}:(cond a x y=true)↔((a=true/\x=true)\/(a=false/\y=true)):=by cases a<;>simp
theorem XI{i:gu}(h0:0<=i.Op)(h1:i.Op<256)(hi:wrap .i64 i.bq=i.bq):Jn i=Eh i:=by
 rw[eI]
 simp only[Jn,Qi,Tree.m,df,Eh,OE,xY h0 h1,hi]
 rcases xi h0 h1 with h|h|h|h|h|h|h|h|h|h<;>rw[h]<;>
 simp[Cw,LD,TM,LF,TN,XJ,XK,Tree.m,df,yJ]<;>omega
theorem XL{x:Int}(h0:0<=x)(h1:x<65536):wrap .i32 (Ei x 16)=wrap .i32 (wrap .i16 x):=by
 have e:Ei x 16=wrap .u32 (bh .i32 (wrap .i32 (eh .u32 x 16)) 16):=by kernel_rfl
 have e2:∀y,bh .i32 y 16=y/65536:=λy=>by
  show eJ y 65536=_
  rw[dP _ (by decide)]
 have e3:eh .u32 x 16=wrap .u32 (x*65536):=rfl
 have e4:wrap .i16 x=(x+32768)%65536-32768:=by
  simp[wrap,IntKind.bits,IntKind.signed]
  split<;>omega
 rw[e,e2,e3,e4]
 simp only[wrap_i32,wrap_u32]
 omega
theorem sx8{x:Int}(h0:0<=x)(h1:x<256):Ei x 8=G9 x 8:=by
 exact eq_of_beq (FB (λx=>Ei x 8==G9 x 8) 256 (by kernel_rfl) h0 h1)
theorem vi{w:Int}(hw:U w):OF w=rD w:=by
 obtain⟨f1,f2,f3,f4,_⟩:=fld w
 obtain⟨w0,w1⟩:=hw
 have uE:bh .u32 w 24=w/16777216:=by have:=Ed (a:=w) 24 (by decide);simpa using this
 have s20:U (bh .u32 w 20):=AM ⟨w0,w1⟩ _
 have Bu:U (bh .u32 w 16):=AM ⟨w0,w1⟩ _
 rw[Cv (AM ⟨w0,w1⟩ _),uE]at f1
 rw[m15 s20]at f2
 rw[m15 Bu]at f3
 rw[OC]at f4
 have g1:w/16777216%256=w/16777216:=by omega
 rw[g1]at f1
 have o0:0<=w/16777216:=by omega
 have o1:w/16777216<256:=by omega
 have eo:wrap .i64 (w/16777216)=w/16777216:=DW (by omega) (by omega)
 have i32:∀x,wrap .i64 (wrap .i32 x)=wrap .i32 x:=λx=>by rw[wrap_i64,wrap_i32];omega
 have l0:=Jm ⟨w0,w1⟩
 have lx:=XL (x:=bg .u32 w 65535) (by omega) (by omega)
 simp only[OF,LG,rD,Ha,Tree.m,df,f1,f2,f3,f4,uE,eo,xY o0 o1,m15 s20,m15 Bu,lx]
 generalize w/16777216=op at*
 generalize wrap .i64 (bh .u32 w 20%16)=a
 generalize wrap .i64 (bh .u32 w 16%16)=b
 generalize bg .u32 w 65535=l
 rw[XI (i:=⟨op,a,b,wrap .i64 l,0⟩) o0 o1 rfl,XI (i:=⟨op,a,b,0,wrap .i32 (wrap .i16 l)⟩) o0 o1 (i32 _),XI (i:=⟨op,a,b,0,wrap .i32 l⟩) o0 o1 (i32 _)]
 rcases xi o0 o1 with h|h|h|h|h|h|h|h|h|h<;>rw[h]<;>rfl
theorem xam(x v:BitVec 32)(s:Nat)(hs:s<=24):((x&&&~~~(255#32<<<s))|||((v&&&255#32)<<<s)).toNat=2^(s+8)*(x.toNat/2^(s+8))+(2^s*(v.toNat%256)+x.toNat%2^s):=by
 have hx:=x.isLt
 have h1:x.toNat%2^s<2^s:=Nat.mod_lt _ (eG s)
 have h2:2^s*(v.toNat%256)+x.toNat%2^s<2^(s+8):=by
  have:v.toNat%256<256:=Nat.mod_lt _ (by decide)
  have h3:2^s*(v.toNat%256)<=2^s*255:=Nat.mul_le_mul_left _ (by omega)
  have:2^(s+8)=2^s*256:=by rw[Nat.pow_add]
  omega
 rw[eK h2,eK h1]
 apply eM
 intro i
 rw[BitVec.testBit_toNat]
 simp only[BitVec.getLsbD_or,BitVec.getLsbD_and,BitVec.getLsbD_not,BitVec.getLsbD_shiftLeft,Nat.testBit_or,Nat.testBit_two_pow_mul,eN,Nat.testBit_div_two_pow,BitVec.getLsbD_ofNat]
 have XM:∀j,eO 255 j=decide (j<8):=λj=>by
  rw[show 255=2^8-1 from rfl,Nat.testBit_two_pow_sub_one]
 have XN:∀n j,eO (n%256) j=(decide (j<8)&&eO n j):=λn j=>by
  rw[show 256=2^8 from rfl,eN]
 rw[XM,XN]
 by_cases hi:i<32
 ·by_cases a1:i<s
  ·have a2:¬(s<=i):=by omega
   have a3:¬(s+8<=i):=by omega
   simp[hi,a1,a2,a3,eQ]
  ·by_cases a4:s+8<=i
   ·have a2:¬(i-s<8):=by omega
    have a5:i-(s+8)+(s+8)=i:=by omega
    have a6:s<=i:=by omega
    simp[hi,a1,a2,a4,a5,a6,eQ]
   ·have a2:(i-s<8):=by omega
    have a6:s<=i:=by omega
    have a7:i-s<32:=by omega
    simp[hi,a1,a2,a4,a6,a7,eQ]
 ·have a0:x.toNat.testBit i=false:=Nat.testBit_lt_two_pow (Nat.lt_of_lt_of_le hx (dT (by decide) (by omega)))
  have a1:¬(i<s):=by omega
  have a2:¬(i-s<8):=by omega
  have a4:s+8<=i:=by omega
  have a5:i-(s+8)+(s+8)=i:=by omega
  simp[hi,a0,a1,a2,a4,a5]
theorem Z95(b:BitVec 32):dW 32 (wrap .u32 (b.toNat:Int))=b:=by
 have:=b.isLt
 rw[wrap_u32]
 apply eR
 rw[dX];omega
theorem Zov(x:Int):dW 32 (wrap .u32 x)=dW 32 x:=by
 apply eR
 rw[dX,dX,wrap_u32]
 have:((2^32:Nat):Int)=4294967296:=by decide
 rw[this,Int.emod_emod_of_dvd _ (Int.dvd_refl _)]
theorem Zi1{x:Int}(hx:U x)(s:Nat)(hs:s<=32):dW 32 (eh .u32 x s)=dW 32 x<<<s:=by
 obtain⟨n,rfl⟩:∃n:Nat,x=n:=⟨x.toNat,by have:=hx.1;omega⟩
 have e:min (dF (s:Int)) u32.bits=s:=by show min (dF (s:Int)) 32=s;omega
 unfold eh
 rw[e,Zov]
 have e2:((n:Int)*2^s)=((n*2^s:Nat):Int):=by simp
 have:=hx.2
 rw[e2,eS,eS]
 apply eR
 rw[BitVec.toNat_shiftLeft,eT,eT,Nat.shiftLeft_eq,Nat.mod_mul_mod]
def uG(W v:Int)(s:Nat):Int:=ir .u32 (nY .u32 W (eh .u32 255 s)) (eh .u32 (bg .u32 v 255) s)
theorem qan{W v:Int}(hW:U W)(hv:U v)(s:Nat)(hs:s<=24):uG W v s=2^(s+8)*(W/2^(s+8))+(2^s*(v%256)+W%2^s):=by
 have e:=xam (dW 32 W) (dW 32 v) s hs
 have l:=((dW 32 W&&&~~~(255#32<<<s))|||((dW 32 v&&&255#32)<<<s)).isLt
 have h1:dW 32 (nY .u32 W (eh .u32 255 s))=dW 32 W&&&~~~(255#32<<<s):=by
  show dW 32 (wrap .u32 (dW 32 W&&&~~~dW 32 (eh .u32 255 s)).toNat)=_
  rw[Z95,Zi1 ⟨by decide,by decide⟩ s (by omega)]
  rfl
 have h2:dW 32 (eh .u32 (bg .u32 v 255) s)=(dW 32 v&&&255#32)<<<s:=by
  rw[Zi1 (Zk _ _) s (by omega)]
  congr 1
  show dW 32 (wrap .u32 (dW 32 v&&&dW 32 255).toNat)=_
  rw[Z95];rfl
 show wrap .u32 ((dW 32 (nY .u32 W (eh .u32 255 s))|||dW 32 (eh .u32 (bg .u32 v 255) s)).toNat:Int)=_
 rw[h1,h2]
 have lw:wrap .u32 ((((dW 32 W&&&~~~(255#32<<<s))|||((dW 32 v&&&255#32)<<<s)).toNat:Nat):Int)=(((dW 32 W&&&~~~(255#32<<<s))|||((dW 32 v&&&255#32)<<<s)).toNat:Nat):=by rw[wrap_u32];omega
 rw[lw,e,Qy hW,Qy hv]
 obtain⟨n,rfl⟩:∃n:Nat,W=n:=⟨W.toNat,by have:=hW.1;omega⟩
 obtain⟨k,rfl⟩:∃n:Nat,v=n:=⟨v.toNat,by have:=hv.1;omega⟩
 simp
def sX(w:Int)(k:Nat):Int:=if k=0 then w%256 else if k=1 then w/256%256 else if k=2 then w/65536%256 else w/16777216%256
def lK(m:List Int)(a:Nat):Int:=sX (m.getD (a/4) 0) (a%4)
theorem qj(w:Int)(k:Nat):0<=sX w k/\sX w k<256:=by
 unfold sX
 split
 ·omega
 ·split
  ·omega
  ·split<;>omega
theorem zan{w v:Int}(hw:U w)(hv:U v)(h:∀k,k<4->sX w k=sX v k):w=v:=by
 have h0:=h 0 (by omega)
 have h1:=h 1 (by omega)
 have h2:=h 2 (by omega)
 have h3:=h 3 (by omega)
 simp[sX]at h0 h1 h2 h3
 obtain⟨a,b⟩:=hw
 obtain⟨c,d⟩:=hv
 omega
theorem XO{m n:List Int}(hl:m.length=n.length)(hm:∀w∈m,U w)(hn:∀w∈n,U w)(h:∀a,lK m a=lK n a):m=n:=by
 refine bN hl λi h1 h2=>?_
 have e1:m[i]=m.getD i 0:=by simp[aK,h1]
 have e2:n[i]=n.getD i 0:=by simp[aK,h2]
 rw[e1,e2]
 refine zan (AN hm i) (AN hn i) λk hk=>?_
 have:=h (4*i+k)
 simp only[lK]at this
 rwa [show(4*i+k)/4=i by omega,show(4*i+k)%4=k by omega]at this
theorem Qv3{l:List Int}{i:Nat}(h:i<l.length)(v:Int):(l.set i v).getD i 0=v:=by
 simp[aK,h]
theorem XP{m:List Int}{i:Nat}(hi:i<m.length)(v:Int)(a:Nat):lK (m.set i v) a=if a/4=i then sX v (a%4)else lK m a:=by
 unfold lK
 split
 ·rename_i h;rw[h,Qv3 hi]
 ·rename_i h;rw[wN _ _ _ _ (λe=>h e.symm)]
theorem xan{W v:Int}(hW:U W)(hv:U v){j:Nat}(hj:j<4){k:Nat}(hk:k<4):sX (uG W v (8*j)) k=if k=j then v%256 else sX W k:=by
 have h:=qan hW hv (8*j) (by omega)
 rw[h]
 obtain⟨w0,w1⟩:=hW
 have h0:0<=v%256:=by omega
 have h1:v%256<256:=by omega
 generalize v%256=b at*
 clear h
 have hj:j=0\/j=1\/j=2\/j=3:=by omega
 have hk:k=0\/k=1\/k=2\/k=3:=by omega
 rcases hj with rfl|rfl|rfl|rfl<;>rcases hk with rfl|rfl|rfl|rfl<;>simp[sX]<;>omega
theorem qao{m:List Int}{a v:Int}(ha:U a):Bv m a 1 v=m.set (a/4).toNat (uG (m.getD (a/4).toNat 0) v (8*(a%4).toNat)):=by
 obtain⟨a0,a1⟩:=ha
 have e1:wrap .u32 (eU a 4)=a/4:=by rw[wrap_u32,eV a0];omega
 have e2:wrap .u32 (8*dE a 4)=((8*(a%4).toNat:Nat):Int):=by rw[wrap_u32,eF a0];omega
 have e3:((1:Int)==4)=false:=rfl
 simp only[Bv,Jo,Tree.m,e1,e2,e3,cond_false]
 rfl
theorem xj{P:Nat}{m:List Int}(h:eu P m){a v:Int}(ha:U a)(hl:a<128*P)(hv:U v):eu P (Bv m a 1 v)/\∀b:Nat,lK (Bv m a 1 v) b=if(b:Int)=a then v%256 else lK m b:=by
 have hlen:=h.len
 have a0:=ha.1
 rw[qao ha]
 have hi:(a/4).toNat<m.length:=by omega
 refine⟨⟨by rw[dH];exact hlen,h.p1,h.p2,Eb h.u (nh _ _) _⟩,λb=>?_⟩
 rw[XP hi]
 by_cases hb:b/4=(a/4).toNat
 ·rw[if_pos hb,xan (AN h.u _) hv (by omega) (by omega)]
  by_cases hc:b%4=(a%4).toNat
  ·rw[if_pos hc,if_pos (by omega)]
  ·rw[if_neg hc,if_neg (by omega),lK,hb]
 ·rw[if_neg hb,if_neg (by omega)]
theorem zY{P:Nat}{m:List Int}(h:eu P m){frame:Int}(f0:0<=frame)(f1:frame<P)(s:List UInt8):(Hb m frame s).w (λr=>eu P r/\∀b:Nat,lK r b=if frame*128<=b/\(b:Int)<frame*128+min s.length 128 then((s.getD (b-frame*128).toNat 0).toNat:Int)else lK m b):=by
 unfold Hb
 have h3:=h.p2
 refine fy (inv:=λz=>0<=z.1/\z.1<=min s.length 128/\eu P z.2/\∀b:Nat,lK z.2 b=if frame*128<=b/\(b:Int)<frame*128+z.1 then((s.getD (b-frame*128).toNat 0).toNat:Int)else lK m b) (μ:=XQ m frame s) ⟨show(0:Int)<=0 by decide,by show(0:Int)<=_;omega,h,λb=>by rw[if_neg];show¬(_/\_<_+(0:Int));omega⟩ (cO _) (λv0 wJ=>?_)
 obtain⟨i,mm⟩:=v0
 obtain⟨i0,i1,hm,hy⟩:=wJ
 have i0:0<=i:=i0
 have i1:i<=min s.length 128:=i1
 have hm:eu P mm:=hm
 have fin:∀r:List Int,r=mm->i=min s.length 128->eu P r/\∀b:Nat,lK r b=if frame*128<=b/\(b:Int)<frame*128+min s.length 128 then((s.getD (b-frame*128).toNat 0).toNat:Int)else lK m b:=λr hr hi=>by
  subst hr;refine⟨hm,λb=>?_⟩
  rw[hy b];simp only[hi]
 refine aa (λh1=>aa (λh2=>ay ?_ ?_) (λh2=>fin mm rfl ?_)) (λh1=>fin mm rfl ?_)
 ·have:=oY h1
  simp[bJ];omega
 ·have h1:i<s.length:=oY h1
  have h2:i<128:=oY h2
  have e:wrap u32 (wrap i64 (wrap i64 (frame*128)+i))=frame*128+i:=by
   rw[wrap_u32,wrap_i64,wrap_i64];omega
  show(Tree.an (TO mm (wrap u32 (wrap i64 (wrap i64 (frame*128)+i))) 1 _) (Tree.lv _ _)).w _
  rw[e]
  have hu:U (frame*128+i):=⟨by omega,by omega⟩
  have hvU:∀n:Nat,U (wrap .u32 (n:Int)):=λn=>fj _
  obtain⟨g1,_⟩:=Tree.pp (Cy hm (size:=1) (addr:=frame*128+i) hu (by rw[hm.len];omega) (hvU (eW (s.getD i.toNat 0))))
  obtain⟨g2,g3⟩:=xj hm hu (by omega) (hvU (eW (s.getD i.toNat 0)))
  refine cz g1 (ar λx0 nP=>?_)
  rw[nP]
  have ew:i64.wrap (i+1)=i+1:=by rw[wrap_i64];omega
  refine ff ?_
  show(0<=i64.wrap (i+1)/\i64.wrap (i+1)<=min s.length 128/\eu P _/\∀b:Nat,lK _ b=if frame*128<=b/\(b:Int)<frame*128+i64.wrap (i+1)then _ else _)/\(128-i64.wrap (i+1)).toNat<(128-i).toNat
  rw[ew]
  refine⟨⟨by omega,by omega,g2,λb=>?_⟩,by omega⟩
  rw[show Bv mm (frame*128+i) 1 _=_ from rfl,g3 b]
  by_cases hb:(b:Int)=frame*128+i
  ·rw[if_pos hb,if_pos (by omega),wrap_u32]
   have:=(s.getD i.toNat 0).toNat_lt
   rw[show(b-frame*128).toNat=i.toNat by omega];omega
  ·rw[if_neg hb,hy b]
   show(if frame*128<=(b:Int)/\(b:Int)<frame*128+i then _ else _)=_
   by_cases hc:frame*128<=(b:Int)/\(b:Int)<frame*128+i
   ·rw[if_pos hc,if_pos (by omega)]
   ·rw[if_neg hc,if_neg (by omega)]
 ·have h1:i<s.length:=oY h1
  have h2:¬i<128:=oN h2
  omega
 ·have h1:¬i<s.length:=oN h1
  omega
theorem zj{x y:Int}(hx:U x)(hy:U y)(k:Nat)(hk:x<2^k)(h:x+y*2^k<4294967296):ir .u32 x (y*2^k)=x+y*2^k:=by
 obtain⟨n,rfl⟩:∃n:Nat,x=n:=⟨x.toNat,by have:=hx.1;omega⟩
 obtain⟨z,rfl⟩:∃n:Nat,y=n:=⟨y.toNat,by have:=hy.1;omega⟩
 have e:((z:Int)*2^k)=((z*2^k:Nat):Int):=by simp
 rw[e]at h⊢
 have hn:n<2^k:=by exact_mod_cast hk
 rw[zaI hx ⟨by omega,by omega⟩,eD,eD,Nat.or_comm,Nat.mul_comm,<-eK hn]
 omega
theorem four{a b c d:Int}(ha:0<=a/\a<256)(hb:0<=b/\b<256)(hc:0<=c/\c<256)(hd:0<=d/\d<256):ir .u32 (ir .u32 (ir .u32 (wrap .u32 a) (eh .u32 (wrap .u32 b) 8)) (eh .u32 (wrap .u32 c) 16)) (eh .u32 (wrap .u32 d) 24)=a+b*2^8+c*2^16+d*2^24:=by
 have w:∀{x:Int},0<=x/\x<256->wrap .u32 x=x:=λhx=>by rw[wrap_u32];omega
 have s8:∀{x:Int},0<=x/\x<256->eh .u32 x 8=x*2^8:=fun{x} hx=>by show wrap .u32 (x*2^8)=_;rw[wrap_u32];omega
 have Bu:∀{x:Int},0<=x/\x<256->eh .u32 x 16=x*2^16:=fun{x} hx=>by show wrap .u32 (x*2^16)=_;rw[wrap_u32];omega
 have uE:∀{x:Int},0<=x/\x<256->eh .u32 x 24=x*2^24:=fun{x} hx=>by show wrap .u32 (x*2^24)=_;rw[wrap_u32];omega
 rw[w ha,w hb,w hc,w hd,s8 hb,Bu hc,uE hd]
 rw[zj ⟨by omega,by omega⟩ ⟨by omega,by omega⟩ 8 (by omega) (by omega),zj ⟨by omega,by omega⟩ ⟨by omega,by omega⟩ 16 (by omega) (by omega),zj ⟨by omega,by omega⟩ ⟨by omega,by omega⟩ 24 (by omega) (by omega)]
theorem vJ{a b c d:Int}(ha:0<=a/\a<256)(hb:0<=b/\b<256)(hc:0<=c/\c<256)(hd:0<=d/\d<256)(k:Nat)(hk:k<4):sX (a+b*2^8+c*2^16+d*2^24) k=if k=0 then a else if k=1 then b else if k=2 then c else d:=by
 have hk:k=0\/k=1\/k=2\/k=3:=by omega
 rcases hk with rfl|rfl|rfl|rfl<;>simp[sX]<;>omega
theorem TP{P:Nat}{m:List Int}(h:eu P m)(f:Int):Ja m f=decide (0<=f/\f<P):=by
 have hp:=r6 h
 simp only[Ja,Og,Tree.m,df,hp]
 by_cases h1:0<=f
 ·rw[dY h1];simp[h1]
 ·rw[dN h1];simp[h1]
theorem qK(s:List UInt8)(a b k:Nat)(h:k<b):(dB b (dC a s)).getD k 0=s.getD (a+k) 0:=by
 simp[cP,aU,h]
theorem Hc(x:UInt8):0<=(x.toNat:Int)/\(x.toNat:Int)<256:=by have:=x.toNat_lt;omega
theorem XR{P:Nat}{m:List Int}(h:eu P m){f:Int}(f0:0<=f)(f1:f<P){s:List UInt8}(hs:s.length=128):(GU m f s).w (λr=>r.2=true/\eu P r.1/\∀b:Nat,lK r.1 b=if f*128<=b/\(b:Int)<f*128+128 then((s.getD (b-f*128).toNat 0).toNat:Int)else lK m b):=by
 have gm:jF m=m:=rfl
 have h2:=h.p2
 unfold GU
 refine cz (r7 h) (ar λx0 nP=>ar λx1 nQ=>?_)
 rw[gm]at nP;subst nP
 rw[TP h,dY ⟨f0,f1⟩]at nQ
 subst nQ
 refine aa (λhb=>by cases hb) λ_=>aa (λhb=>by simp[hs]at hb) λ_=>?_
 refine fy (inv:=λz:Int×List Int=>0<=z.1/\z.1<=32/\eu P z.2/\∀b:Nat,lK z.2 b=if f*128<=b/\(b:Int)<f*128+4*z.1 then((s.getD (b-f*128).toNat 0).toNat:Int)else lK x0 b) (μ:=Xq x0 f s) ⟨show(0:Int)<=0 by decide,show(0:Int)<=32 by decide,h,λb=>by rw[if_neg];show¬(_/\_<_+4*(0:Int));omega⟩ (cO _) λz ⟨z1,z2,z3,z4⟩=>?_
 refine aa (λhb=>?_) (λhb=>⟨rfl,z3,λb=>?_⟩)
 ·have hb:=oY hb
  have e1:i64.wrap (4*z.1)=4*z.1:=by rw[wrap_i64];omega
  have e2:i64.wrap (i64.wrap (4*z.1)+4)=4*z.1+4:=by rw[wrap_i64,wrap_i64];omega
  have e3:i64.wrap (i64.wrap (f*32)+z.1)=f*32+z.1:=by rw[wrap_i64,wrap_i64];omega
  have hl:=z3.len
  have cut:dF (i64.wrap (i64.wrap (4*z.1)+4))-dF (i64.wrap (4*z.1))=4:=by rw[e2,e1];omega
  have hlen:(dB (dF (i64.wrap (i64.wrap (4*z.1)+4))-dF (i64.wrap (4*z.1))) (dC (dF (i64.wrap (4*z.1))) s)).length=4:=by
   rw[cut,e1,bD,bF];omega
  refine ay (dY (by rw[e2,e1];omega)) ?_
  refine ay (dY (by rw[hlen];decide)) (ay (dY (by rw[hlen];decide)) (ay (dY (by rw[hlen];decide)) (ay (dY (by rw[hlen];decide)) (ay (by rw[e3];simp[bJ];omega) (ff ?_)))))
  have ew:i64.wrap (z.1+1)=z.1+1:=by rw[wrap_i64];omega
  rw[cut]
  refine⟨⟨by show 0<=i64.wrap (z.1+1);rw[ew];omega,by show i64.wrap (z.1+1)<=32;rw[ew];omega,?_,?_⟩,by show(32-i64.wrap (z.1+1)).toNat<(32-z.1).toNat;rw[ew];omega⟩
  ·show eu P (dG _ _ _)
   exact⟨by rw[dH];exact hl,z3.p1,z3.p2,Eb z3.u (nh _ _) _⟩
  ·intro b
   show lK (dG z.2 (dF (i64.wrap (i64.wrap (f*32)+z.1))) _) b=if f*128<=(b:Int)/\(b:Int)<f*128+4*i64.wrap (z.1+1)then _ else _
   rw[e3,ew,four (Hc _) (Hc _) (Hc _) (Hc _),XP (by omega)]
   have g:∀k:Nat,k<4->(dB 4 (dC (dF (i64.wrap (4*z.1))) s)).getD k 0=s.getD ((4*z.1).toNat+k) 0:=λk hk=>by rw[e1];exact qK _ _ _ _ hk
   by_cases hc:b/4=(f*32+z.1).toNat
   ·have TQ:f*128<=(b:Int)/\(b:Int)<f*128+4*(z.1+1):=by omega
    rw[if_pos hc,vJ (Hc _) (Hc _) (Hc _) (Hc _) _ (by omega),if_pos TQ]
    have hb4:b%4=0\/b%4=1\/b%4=2\/b%4=3:=by omega
    have gi:(b-f*128).toNat=(4*z.1).toNat+b%4:=by omega
    rw[gi]
    rcases hb4 with h4|h4|h4|h4<;>rw[h4]
    ·rw[if_pos rfl,<-g 0 (by omega)];rfl
    ·rw[if_neg (by decide),if_pos rfl,<-g 1 (by omega)];rfl
    ·rw[if_neg (by decide),if_neg (by decide),if_pos rfl,<-g 2 (by omega)];rfl
    ·rw[if_neg (by decide),if_neg (by decide),if_neg (by decide),<-g 3 (by omega)];rfl
   ·rw[if_neg hc,z4 b]
    by_cases hd:f*128<=(b:Int)/\(b:Int)<f*128+4*z.1
    ·rw[if_pos hd,if_pos (by omega)]
    ·rw[if_neg hd,if_neg (by omega)]
 ·have hb:=oN hb
  show lK z.2 b=_
  rw[z4 b,show z.1=32 by omega]
  rfl
theorem XS{α:Type}(l l2:List α)(k:Nat)(z:α):(l++l2).getD k z=if k<l.length then l.getD k z else l2.getD (k-l.length) z:=by
 simp only[cP,List.getElem?_append]
 split<;>rfl
theorem u8w{x:Int}:wrap .u8 x=x%256:=wrap_u8 x
theorem Hd(W:Int):bh .u32 W 8=W/256/\bh .u32 W 16=W/65536/\bh .u32 W 24=W/16777216:=by
 refine⟨?_,?_,?_⟩
 ·show eJ W 256=_;rw[dP _ (by decide)]
 ·show eJ W 65536=_;rw[dP _ (by decide)]
 ·show eJ W 16777216=_;rw[dP _ (by decide)]
theorem b4d(W:Int){k:Nat}(hk:k<4):[wrap .u8 W,wrap .u8 (bh .u32 W 8),wrap .u8 (bh .u32 W 16),wrap .u8 (bh .u32 W 24)].getD k 0=sX W k:=by
 obtain⟨a,b,c⟩:=Hd W
 have hk:k=0\/k=1\/k=2\/k=3:=by omega
 rcases hk with rfl|rfl|rfl|rfl<;>simp[sX,a,b,c,u8w]
theorem XT(l:List Int)(k:Nat)(h:0<=l.getD k 0/\l.getD k 0<256)(hk:k<l.length):(((bytesOf l).getD k 0).toNat:Int)=l.getD k 0:=by
 have e:(bytesOf l).getD k 0=eX (l.getD k 0).toNat:=by
  simp[bytesOf,cP,hk]
 rw[e,UInt8.toNat_ofNat']
 omega
theorem Zlo(l:List UInt8)(k:Nat)(hk:k<l.length):(Q2 l).getD k 0=((l.getD k 0).toNat:Int):=by
 simp[Q2,cP,hk]
theorem xaI(w:List Int)(h:w.length<=32):(Fv w).w (λr=>r.length=4*w.length/\∀k:Nat,k<4*w.length->((r.getD k 0).toNat:Int)=sX (w.getD (k/4) 0) (k%4)):=by
 have e0:i64.wrap (4*(w.length:Int))=4*w.length:=by rw[wrap_i64];omega
 unfold Fv
 refine ay (by rw[e0];simp[bJ,D.plain];omega) ?_
 refine fy (inv:=λz:Int×List Int=>0<=z.1/\z.1<=w.length/\(z.2.length:Int)=4*z.1/\∀k:Nat,(k:Int)<4*z.1->z.2.getD k 0=sX (w.getD (k/4) 0) (k%4)) (μ:=Oh w) ⟨by decide,by show(0:Int)<=w.length;omega,rfl,λk hk=>by have hk:(k:Int)<4*0:=hk;omega⟩ (cO _) λz ⟨z1,z2,z3,z4⟩=>?_
 refine aa (λhb=>?_) (λhb=>?_)
 ·have hb:=oY hb
  have ew:i64.wrap (z.1+1)=z.1+1:=by rw[wrap_i64];omega
  refine ay (by simp[bJ];omega) (ay (dY (by omega)) (ff ?_))
  show(_/\_/\_/\∀k:Nat,(k:Int)<4*i64.wrap (z.1+1)->(z.2++_).getD k 0=_)/\(_:Nat)<_
  refine⟨⟨by rw[ew];omega,by rw[ew];omega,by rw[ew,lA];simp only[dI,dJ];omega,λk hk=>?_⟩,by show(w.length-i64.wrap (z.1+1)).toNat<(w.length-z.1).toNat;rw[ew];omega⟩
  rw[ew]at hk
  rw[XS]
  split
  ·exact z4 k (by omega)
  ·rename_i hn
   rw[b4d _ (by omega),show z.1.toNat=k/4 by omega,show k-z.2.length=k%4 by omega]
 ·have hb:=oN hb
  show(bytesOf z.2).length=_/\∀k:Nat,_->(((bytesOf z.2).getD k 0).toNat:Int)=_
  refine⟨by rw[Oi];omega,λk hk=>?_⟩
  have e:=z4 k (by omega)
  have:=qj (w.getD (k/4) 0) (k%4)
  rw[XT _ _ (by rw[e];exact this) (by omega),e]
def AO(m:List Int)(f:Int)(r:List UInt8):Prop:=r.length=128/\∀k:Nat,k<128->((r.getD k 0).toNat:Int)=lK m ((f*128).toNat+k)
theorem qaJ{m:List Int}{f:Int}{r s:List UInt8}(a:AO m f r)(b:AO m f s):r=s:=by
 obtain⟨a1,a2⟩:=a
 obtain⟨b1,b2⟩:=b
 refine bN (by omega) λi h1 h2=>?_
 have e:=(a2 i (by omega)).trans (b2 i (by omega)).symm
 have e1:r[i]=r.getD i 0:=by simp[aK,h1]
 have e2:s[i]=s.getD i 0:=by simp[aK,h2]
 rw[e1,e2]
 exact UInt8.toNat_inj.1 (by omega)
theorem yj{P:Nat}{m:List Int}(h:eu P m){f:Int}(f0:0<=f)(f1:f<P):(GV m f).w (λr=>AO m f r.1/\r.2=true):=by
 have hl:=h.len
 have h2:=h.p2
 unfold GV
 refine ar λx0 nP=>?_
 rw[TP h,dY ⟨f0,f1⟩]at nP
 subst nP
 refine aa (λhb=>by cases hb) (λhb=>?_)
 have e1:i64.wrap (f*32)=f*32:=by rw[wrap_i64];omega
 have e2:i64.wrap (i64.wrap (f*32)+32)=f*32+32:=by rw[wrap_i64,wrap_i64];omega
 have cut:dF (i64.wrap (i64.wrap (f*32)+32))-dF (i64.wrap (f*32))=32:=by rw[e2,e1];omega
 have hlen:(dB 32 (dC (dF (i64.wrap (f*32))) m)).length=32:=by
  rw[e1,bD,bF];omega
 refine ay (by rw[e2,e1];simp[bJ];omega) ?_
 rw[cut]
 refine cz (by show dK _<=1000000000000;rw[hlen];decide) (ar λx1 h1=>?_)
 have t:=(Tree.pp (xaI _ (dL hlen))).2
 rw[hlen,show(Fv (dB 32 (dC (dF (i64.wrap (f*32))) m))).m=x1 from h1.symm]at t
 refine⟨⟨t.1,λk hk=>?_⟩,rfl⟩
 show((x1.getD k 0).toNat:Int)=_
 rw[t.2 k hk,lK,e1]
 have g:(dB 32 (dC (dF (f*32)) m)).getD (k/4) 0=m.getD ((f*32).toNat+k/4) 0:=by
  simp[cP,aU,show k/4<32 by omega]
 rw[g,show((f*128).toNat+k)/4=(f*32).toNat+k/4 by omega,show((f*128).toNat+k)%4=k%4 by omega]
theorem zaJ(x:Int):XU x 4=bytesOf [wrap .u8 (bh .u32 x 0),wrap .u8 (bh .u32 x 8),wrap .u8 (bh .u32 x 16),wrap .u8 (bh .u32 x 24)]:=by kernel_rfl
theorem zao{P:Nat}{m:List Int}(hm:eu P m){frame:Int}(f0:0<=frame)(f1:frame<P):(He m frame).w (λr=>AO m frame r.1/\r.2=true):=by
 have hp:=Ej hm
 have hl:=hm.len
 have h2:=hm.p2
 unfold He
 refine aa (λh=>by have:=oY h;omega) (λh=>ar λx0 hx=>aa (λh1=>by have:=oY h1;rw[hx,hp]at this;omega) (λh1=>?_))
 refine fy (inv:=λz:Int×List Int=>0<=z.1/\z.1<=32/\(z.2.length:Int)=4*z.1/\∀k:Nat,(k:Int)<4*z.1->z.2.getD k 0=lK m ((frame*128).toNat+k)) (μ:=XV m frame) ⟨by decide,by decide,rfl,λk hk=>by have hk:(k:Int)<4*0:=hk;omega⟩ (cO _) (λz hz=>?_)
 obtain⟨z1,z2,z3,z4⟩:=hz
 refine aa (λhb=>?_) (λhb=>?_)
 ·have hb:=oY hb
  have e:wrap i64 (wrap i64 (frame*32)+z.1)=frame*32+z.1:=by rw[wrap_i64,wrap_i64];omega
  refine ay (by rw[e];simp[bJ];omega) (cz (show(4:Int)<=1000000000000 by decide) (ar λx1 h4=>?_))
  rw[zaJ,OC,e]at h4
  have l4:x1.length=4:=by rw[h4];rfl
  refine ay (dY (by rw[Qq,l4];omega)) (ff ?_)
  show(0<=i64.wrap (z.1+1)/\i64.wrap (z.1+1)<=32/\((z.2++Q2 x1).length:Int)=4*i64.wrap (z.1+1)/\∀k:Nat,(k:Int)<4*i64.wrap (z.1+1)->(z.2++Q2 x1).getD k 0=_)/\(32-i64.wrap (z.1+1)).toNat<(32-z.1).toNat
  have ew:i64.wrap (z.1+1)=z.1+1:=by rw[wrap_i64];omega
  rw[ew]
  refine⟨⟨by omega,by omega,by rw[lA,Qq,l4];omega,λk hk=>?_⟩,by omega⟩
  rw[XS]
  split
  ·exact z4 k (by omega)
  ·rename_i hn
   have Ek:k-z.2.length<4:=by omega
   rw[Zlo _ _ (by omega),h4]
   have d:=b4d (m.getD (frame*32+z.1).toNat 0) Ek
   rw[XT _ _ (by rw[d];exact qj _ _) (by simpa using Ek),d,lK]
   rw[show((frame*128).toNat+k)/4=(frame*32+z.1).toNat by omega,show((frame*128).toNat+k)%4=k-z.2.length by omega]
 ·have hb:=oN hb
  refine⟨⟨?_,λk hk=>?_⟩,rfl⟩
  ·show(bytesOf z.2).length=128
   rw[Oi];omega
  ·show(((bytesOf z.2).getD k 0).toNat:Int)=_
   have e:=z4 k (by omega)
   rw[XT _ _ (by rw[e];exact qj _ _) (by omega),e]
theorem Zfu{P:Nat}{m:List Int}(h:eu P m)(f:Int):El m f=LH m f:=by
 by_cases hf:0<=f/\f<P
 ·have a:=(Tree.pp (yj h hf.1 hf.2)).2
  have b:=(Tree.pp (zao h hf.1 hf.2)).2
  exact eY (qaJ a.1 b.1) (a.2.trans b.2.symm)
 ·have hp:=Ej h
  have e1:El m f=([],false):=by
   simp only[El,GV,Tree.m,df,TP h,dN hf];rfl
  have e2:LH m f=([],false):=by
   simp only[LH,He,Tree.m,df,hp]
   by_cases h0:f<0
   ·rw[dY h0];rfl
   ·rw[dN h0,dY (show f>=P by omega)];rfl
  rw[e1,e2]
section
variable {P:Nat} {m:List Int} (h:eu P m)
include h
theorem Zew{f:Int}(f0:0<=f)(f1:f<P){s:List UInt8}(hs:s.length=128):Em m f s=(OG m f s,true):=by
 have a:=(Tree.pp (XR h f0 f1 hs)).2
 have b:=(Tree.pp (zY h f0 f1 s)).2
 refine eY (XO (a.2.1.len.trans b.1.len.symm) a.2.1.u b.1.u λk=>?_) a.1
 have e:((min s.length 128:Nat):Int)=128:=by rw[hs];rfl
 have b2:=b.2 k
 have a2:=a.2.2 k
 rw[e]at b2
 exact a2.trans b2.symm
theorem Zfd{f:Int}(f0:0<=f)(f1:f<P){s r:List UInt8}(hs:s.length<=128)(hr:AO m f r):Em m f (s++r.drop s.length)=(OG m f s,true):=by
 have hl:(s++r.drop s.length).length=128:=by have:=hr.1;simp;omega
 have a:=(Tree.pp (XR h f0 f1 hl)).2
 have b:=(Tree.pp (zY h f0 f1 s)).2
 refine eY (XO (a.2.1.len.trans b.1.len.symm) a.2.1.u b.1.u λk=>?_) a.1
 have b2:=b.2 k
 have a2:=a.2.2 k
 refine a2.trans (Eq.trans ?_ b2.symm)
 by_cases hc:f*128<=(k:Int)/\(k:Int)<f*128+128
 ·rw [if_pos hc,XS]
  by_cases hd:(k-f*128).toNat<s.length
  ·rw[if_pos hd,if_pos (by omega)]
  ·rw[if_neg hd,if_neg (by omega)]
   have e:(r.drop s.length).getD ((k-f*128).toNat-s.length) 0=r.getD (k-f*128).toNat 0:=by
    simp[cP,show s.length+((k-f*128).toNat-s.length)=(k-f*128).toNat by omega]
   rw[e,hr.2 _ (by omega),show(f*128).toNat+(k-f*128).toNat=k by omega]
 ·rw[if_neg hc,if_neg (by omega)]
theorem LI{a:Int}(ha:U a){size:Int}(hs:size=1\/size=4):r8 m a size=decide (a%size=0/\a<128*P):=by
 have hq:=Ej h
 have h2:=h.p2
 have a0:=ha.1
 have e:wrap u32 size=size:=by rcases hs with rfl|rfl<;>decide
 have e0:decide (wrap u32 size≠0)=true:=by rcases hs with rfl|rfl<;>decide
 have t:dE a (wrap u32 size)=a%size:=by rw[e,eF a0]
 have l:∀x,x=wQ m->a%size=0->decide (a<wrap u32 (wrap i64 (128*x)))=decide (a%size=0/\a<128*P):=λx hx hz=>by
  rw[hx,hq,wrap_u32,wrap_i64]
  exact decide_eq_decide.2 ⟨λh=>⟨hz,by omega⟩,λh=>by omega⟩
 refine Tree.post (Jp m a size) (W:=λb=>b=decide (a%size=0/\a<128*P)) ?_
 unfold Jp
 refine aa (λh1=>aa (λh4=>?_) (λ_=>?_)) (λ_=>?_)
 ·have h1:¬size=1:=by simpa using h1
  have h4:¬size=4:=by simpa using h4
  omega
 all_goals
  refine ay e0 (aa (λhb=>ar λx hx=>l x hx ?_) (λhb=>?_))
  ·rw[t]at hb;exact eq_of_beq hb
  ·rw[t]at hb
   exact(dN (λh=>by rw[h.1]at hb;cases hb)).symm
theorem Z2h{a:Int}(ha:U a){size:Int}(hs:size=1\/size=4):XW m a size=r8 m a size:=by
 rw[LI h ha hs]
 have hq:=XX h
 have h2:=h.p2
 have a0:=ha.1
 have a1:=ha.2
 have e:wrap u32 size=size:=by rcases hs with rfl|rfl<;>decide
 have e0:decide (wrap u32 size≠0)=true:=by rcases hs with rfl|rfl<;>decide
 have t:dE a (wrap u32 size)=a%size:=by rw[e,eF a0]
 have l:∀x,x=mb m->a%size=0->decide (wrap u64 (wrap u64 a+wrap u64 size)<=wrap u64 (wrap u64 x*128))=decide (a%size=0/\a<128*P):=λx hx hz=>by
  rw[hx,hq]
  simp only[wrap_u64]
  refine decide_eq_decide.2 ⟨λh=>⟨hz,?_⟩,λh=>?_⟩<;>rcases hs with rfl|rfl<;>omega
 refine Tree.post (Jq m a size) (W:=λb=>b=decide (a%size=0/\a<128*P)) ?_
 unfold Jq
 refine aa (λh1=>aa (λh4=>?_) (λ_=>?_)) (λ_=>?_)
 ·have h1:¬size=1:=by simpa using h1
  have h4:¬size=4:=by simpa using h4
  omega
 all_goals
  refine ay e0 (aa (λhb=>?_) (λhb=>ar λx hx=>l x hx ?_))
  ·rw[t]at hb
   exact(dN (λh=>by rw[h.1]at hb;cases hb)).symm
  ·rw[t]at hb;simpa using hb
end
theorem XY(w:Int):tP w 0 8=bg .u32 (bh .u32 w 0) 255/\tP w 8 8=bg .u32 (bh .u32 w 8) 255/\tP w 16 8=bg .u32 (bh .u32 w 16) 255/\tP w 24 8=bg .u32 (bh .u32 w 24) 255:=
 ⟨by kernel_rfl,by kernel_rfl,by kernel_rfl,by kernel_rfl⟩
theorem XZ(w v:Int):LJ w 0 8 v=uG w v 0/\LJ w 8 8 v=uG w v 8/\LJ w 16 8 v=uG w v 16/\LJ w 24 8 v=uG w v 24:=
 ⟨by kernel_rfl,by kernel_rfl,by kernel_rfl,by kernel_rfl⟩
theorem vj{a:Int}(ha:U a):wrap .i64 (wrap .i64 (dE a 4)*8)=8*(a%4)/\wrap .u32 (8*dE a 4)=8*(a%4):=by
 obtain⟨a0,a1⟩:=ha
 rw[eF a0]
 exact⟨by rw[wrap_i64,wrap_i64];omega,by rw[wrap_u32];omega⟩
section
variable {P:Nat} {m:List Int} (h:eu P m)
include h
theorem OH{a:Int}(ha:U a){size:Int}(hs:size=1\/size=4):Cz m a size=kP m a size:=by
 have e:=Z2h h ha hs
 obtain⟨s1,s2⟩:=vj ha
 have f:tP (m.getD (dF (wrap .u32 (eU a 4))) 0) (8*(a%4)) 8=bg .u32 (bh .u32 (m.getD (dF (wrap .u32 (eU a 4))) 0) (8*(a%4))) 255:=by
  obtain⟨f0,f1,f2,f3⟩:=XY (m.getD (dF (wrap .u32 (eU a 4))) 0)
  have:a%4=0\/a%4=1\/a%4=2\/a%4=3:=by omega
  rcases this with h|h|h|h<;>rw[h]
  ·exact f0
  ·exact f1
  ·exact f2
  ·exact f3
 simp only[Cz,LK,kP,AP,Tree.m,df,e,s1,s2,f]
omit h in
theorem X0(a size:Int):(kP m a size).2=r8 m a size:=by
 simp only[kP,AP,Tree.m,df]
 cases r8 m a size
 ·rfl
 ·cases size==1<;>rfl
theorem Z8s{a:Int}(ha:U a){size:Int}(hs:size=1\/size=4)(v:Int):LM m a size v=bif r8 m a size then(Bv m a size v,true)else(m,false):=by
 have gm:jF m=m:=rfl
 have e:=Z2h h ha hs
 obtain⟨s1,s2⟩:=vj ha
 have f:∀w,LJ w (8*(a%4)) 8 v=ir .u32 (nY .u32 w (eh .u32 255 (8*(a%4)))) (eh .u32 (bg .u32 v 255) (8*(a%4))):=λw=>by
  obtain⟨f0,f1,f2,f3⟩:=XZ w v
  have:a%4=0\/a%4=1\/a%4=2\/a%4=3:=by omega
  rcases this with h|h|h|h<;>rw[h]
  ·exact f0
  ·exact f1
  ·exact f2
  ·exact f3
 simp only[LM,LN,Bv,Jo,Tree.m,df,gm,e,s1,s2,f]
 rcases hs with rfl|rfl<;>cases r8 m a _<;>rfl
end
section
variable {P:Nat} {m:List Int} (h:eu P m)
include h
theorem qk{root va:Int}(hr:U root)(hv:U va){access:Int}(ha:access=1\/access=2\/access=3):TR m root va access=AQ m root va access:=by
 have hp:=Ej h
 have h2:=h.p2
 have hlen:=h.len
 obtain⟨r1,r2⟩:=hr
 obtain⟨v1,v2⟩:=hv
 have Jd:∀{f:Int},U f->OI m f=decide (f<P):=λhf=>vT h hf
 have eP:wrap .u32 (P:Int)=P:=by rw[wrap_u32];omega
 have kn:LO access=true:=by rcases ha with rfl|rfl|rfl<;>rfl
 have ca:Qk8 access=(tQ access,true):=by rcases ha with rfl|rfl|rfl<;>rfl
 simp only[TR,LP,AQ,Hf,Tree.m,df,hp,eP,kn,ca,Jd ⟨r1,r2⟩]
 by_cases c1:va>=4096
 ·rw[dY c1];rfl
 by_cases c2:root<P
 ·have eE:wrap u32 (wrap u32 (root*128)+wrap u32 (4*wrap u32 (eU va 128)))=root*128+4*(va/128):=by
   rw[eV v1,wrap_u32,wrap_u32,wrap_u32,wrap_u32];omega
  have hE:U (root*128+4*(va/128)):=⟨by omega,by omega⟩
  have wi:r8 m (root*128+4*(va/128)) 4=true:=by
   rw[LI h hE (.inr rfl)];exact dY ⟨by omega,by omega⟩
  rw[dN c1,dY c2,dN (show¬root>=P by omega),eE,OH h hE (.inr rfl),X0,wi]
  have ld:(kP m (root*128+4*(va/128)) 4).1=m.getD (dF (wrap .u32 (eU (root*128+4*(va/128)) 4))) 0:=by
   simp only[kP,AP,Tree.m,df,wi];rfl
  rw[ld]
  generalize m.getD (dF (wrap .u32 (eU (root*128+4*(va/128)) 4))) 0=w
  have fo:X1 w=bg .u32 (bh .u32 w 8) 255:=(fld w).2.2.2.2
  rw[fo,Jd (Zk _ _)]
  have pS:decide (bg .u32 (bh .u32 w 8) 255>=(P:Int))=!decide (bg .u32 (bh .u32 w 8) 255<(P:Int)):=by
   by_cases hq:bg .u32 (bh .u32 w 8) 255<(P:Int)
   ·rw[dY hq,dN (by omega)];rfl
   ·rw[dN hq,dY (by omega)];rfl
  rw[pS]
  generalize decide (bg .u32 (bh .u32 w 8) 255<(P:Int))=d
  rcases ha with rfl|rfl|rfl
  ·show _=(bif bg .u32 w 1==0 then _ else bif bg .u32 w 4==0 then _ else bif !d then _ else _)
   have:TS w 1=(bif bg .u32 w 1==0 then false else !(bg .u32 w 4==0)):=rfl
   rw[this]
   cases bg .u32 w 1==0<;>cases bg .u32 w 4==0<;>cases d<;>rfl
  ·show _=(bif bg .u32 w 1==0 then _ else bif !d then _ else _)
   have:TS w 2=(bif bg .u32 w 1==0 then false else true):=rfl
   rw[this]
   cases bg .u32 w 1==0<;>cases d<;>rfl
  ·show _=(bif bg .u32 w 1==0 then _ else bif bg .u32 w 2==0 then _ else bif !d then _ else _)
   have:TS w 3=(bif bg .u32 w 1==0 then false else !(bg .u32 w 2==0)):=rfl
   rw[this]
   cases bg .u32 w 1==0<;>cases bg .u32 w 2==0<;>cases d<;>rfl
 ·rw[dN c1,dN c2,dY (show root>=P by omega)];rfl
theorem Zpl{a:Int}(ha:U a)(access:Int):OJ m a access=TT m a access:=by
 have gm:jF m=m:=rfl
 have hl:=h.len
 have a0:=ha.1
 simp only[OJ,LQ,TT,LR,Tree.m,df,OH h ha (.inr rfl),X0,Z8s h ha (.inr rfl),gm]
 cases hw:r8 m a 4
 ·rfl
 ·rw[LI h ha (.inr rfl)]at hw
  have hw:=oY hw
  have wi:r8 m a 4=true:=by rw[LI h ha (.inr rfl)];exact dY hw
  have ld:(kP m a 4).1=m.getD (dF (wrap .u32 (eU a 4))) 0:=by
   simp only[kP,AP,Tree.m,df,wi];rfl
  have pu:∀v,Bv m a 4 v=m.set (dF (wrap .u32 (eU a 4))) v:=λv=>rfl
  rw[ld,pu,pu]
  have hi:dF (wrap .u32 (eU a 4))<m.length:=by
   rw[eV a0,wrap_u32];omega
  generalize dF (wrap .u32 (eU a 4))=i at*
  rw[Qv3 hi,List.set_set]
  rfl
end
theorem OK{c:bj}(h0:0<=c.B7.a0)(h:c.B7.a0<=31)(k b:Int):rC c k b=pY c k b:=by
 have e:=eq_of_beq (FB (λs=>nY .u32 (ir .u32 (AK (AK s 1 8) 2 16) 1) 2==ir .u32 (nY .u32 (ir .u32 (ir .u32 (nY .u32 s 24) (wrap .u32 (8*CA (bg .u32 s 1 !=0)))) (wrap .u32 (16*CA (bg .u32 s 2 !=0)))) 2) 1) 32 (by kernel_rfl) h0 (by omega))
 simp only[rC,OL,pY,OM,Tree.m,df,e]
theorem Zkn{c:bj}(h0:0<=c.B7.a0)(h:c.B7.a0<=31):Lz c=TU c:=by
 have e:=eq_of_beq (FB (λs=>AK (AK s 8 1) 16 2==ir .u32 (ir .u32 (nY .u32 s 3) (wrap .u32 (1*CA (bg .u32 s 8 !=0)))) (wrap .u32 (2*CA (bg .u32 s 16 !=0)))) 32 (by kernel_rfl) h0 (by omega))
 simp only[Lz,ON,TU,Qd,Tree.m,df,e]
theorem Z96{c:bj}(h0:0<=c.B7.a0)(h:c.B7.a0<=31):TV c=(!Hg c&&(bg .u32 c.B7.a0 4 !=0)):=
 eq_of_beq (FB (λs=>(bg .u32 s 5==4)==(!(bg .u32 s 1 !=0)&&(bg .u32 s 4 !=0))) 32 (by kernel_rfl) h0 (by omega))
theorem TW(c:bj){r:Int}(hr:0<=r/\r<16)(v:Int):uH c r v=lL c r v:=by
 simp only[uH,Fy,lL,Jr,Tree.m]
 by_cases h:r=0
 ·subst h;rfl
 ·rw[dY (show r>0 by omega),dY hr.2,show(r !=0)=true by simpa using h];rfl
theorem xK{a b:Int}(ha:U a)(hb:U b):LS a b=LU a b:=by
 obtain⟨a0,a1⟩:=ha
 obtain⟨b0,b1⟩:=hb
 have i:∀x,wrap .i64 (wrap .i32 x)=wrap .i32 x:=λx=>by rw[wrap_i64,wrap_i32];omega
 have r32:∀x,-2147483648<=wrap .i32 x/\wrap .i32 x<2147483648:=λx=>by rw[wrap_i32];omega
 have q32:∀x y:Int,-2147483648<=x/\x<2147483648-> -2147483648<=eU x y/\eU x y<=2147483648:=λx y hx=>by
  have h1:(eU x y).natAbs<=x.natAbs:=by rw[Int.natAbs_tdiv];exact Nat.div_le_self _ _
  omega
 simp only[LS,LV,LU,Qa,Tree.m,i]
 cases hb:b==0
 ·have w:∀z,wrap .u32 (wrap .i32 z)=wrap .u32 z:=λz=>by rw[wrap_i32,wrap_u32,wrap_u32];omega
  have w2:wrap .i64 (eU (wrap .i32 a) (wrap .i32 b))=eU (wrap .i32 a) (wrap .i32 b):=by
   have:=q32 _ (wrap .i32 b) (r32 a)
   rw[wrap_i64];omega
  rw[w,w2]
  cases h1:a==2147483648
  ·rfl
  ·cases h2:b==4294967295
   ·rfl
   ·have h1:=eq_of_beq h1
    have h2:=eq_of_beq h2
    subst h1;subst h2
    rfl
 ·rfl
theorem zK{op a b:Int}(h0:1<=op)(h1:op<=23)(ha:U a)(hb:U b):nS op a b=En op a b:=by
 have sub:wrap .u32 (a+wrap .u32 (0-b))=wrap .u32 (a-b):=by
  rw[wrap_u32,wrap_u32,wrap_u32];omega
 have rV:op=1\/op=2\/op=3\/op=4\/op=5\/op=6\/op=7\/op=8\/op=9\/op=10\/op=11\/op=12\/op=13\/op=14\/op=15\/op=16\/op=17\/op=18\/op=19\/op=20\/op=21\/op=22\/op=23:=by omega
 have d:=xK ha hb
 rcases rV with rfl|rfl|rfl|rfl|rfl|rfl|rfl|rfl|rfl|rfl|rfl|rfl|rfl|rfl|rfl|rfl|rfl|rfl|rfl|rfl|rfl|rfl|rfl
 ·rfl
 ·show(wrap .u32 (a+wrap .u32 (0-b)),true)=(wrap .u32 (a-b),true)
  rw[sub]
 ·rfl
 ·rfl
 ·rfl
 ·rfl
 ·rfl
 ·rfl
 ·rfl
 ·show((LS a b).1,true)=((LU a b).1,true)
  rw[d]
 ·show((LS a b).2,true)=((LU a b).2,true)
  rw[d]
 all_goals rfl
theorem X2{P:Nat}{m:List Int}(h:eu P m){c:bj}(hc:iz c)(jV:c.B7.a0<=31){va:Int}(hv:U va){size:Int}(hs:size=1\/size=4){access:Int}(ha:access=1\/access=2\/access=3):r9 c m va size access=((lM c m va size access).1,(lM c m va size access).2.2,(lM c m va size access).2.1):=by
 have gm:jF m=m:=rfl
 have kn:LO access=true:=by rcases ha with rfl|rfl|rfl<;>rfl
 have ca:Qso access=(tQ access,true):=by rcases ha with rfl|rfl|rfl<;>rfl
 have pg:=Z96 hc.a0.1 jV
 have wk:=qk h hc.a6 hv ha
 have tc:OJ m (AQ m c.B7.a6 va access).F6 access=TT m (AQ m c.B7.a6 va access).F6 access:=Zpl h (Tree.pp (xab h hc.a6 hv access)).2.2.1 access
 have sz:(bif size !=1 then bif size !=4 then false else true else true)=true:=by rcases hs with rfl|rfl<;>rfl
 simp only[r9,LW,lM,Hh,Tree.m,df,gm,kn,ca,pg,wk,tc,OH h hv hs,X0]
 rcases hs with rfl|rfl<;>
 ·show(bif _ then _ else _)=_
  cases dE va _ !=0<;>cases Hg c<;>cases bg .u32 c.B7.a0 4 !=0<;>cases(AQ m c.B7.a6 va access).F5 !=0<;>cases r8 m va _<;>rfl
theorem X3{α:Type}{Q:α->Prop}{c:Bool}{x y:α}(hx:Q x)(hy:Q y):Q (cond c x y):=by cases c<;>assumption
theorem xao(m:List Int)(root:Int){va:Int}(hv:U va)(access:Int):(AQ m root va access).F5=0->(AQ m root va access).Addr%4=va%4:=by
 have hc:tQ access≠0:=by
   simp only[tQ,LX,Tree.m]
   cases access==1<;>cases access==3<;>simp
 have q :(λt:rS=>t.F5=0->t.Addr%4=va%4) (AQ m root va access):=by
   simp only[AQ,Hf,Tree.m,df]
   repeat'(first
     |exact λe=>absurd e hc
     | (intro _
        show wrap .u32 (wrap .u32 (_*128)+dE va 128)%4=va%4
        rw[eF hv.1,wrap_u32,wrap_u32];omega)
     |refine X3 (Q:=λt:rS=>t.F5=0->t.Addr%4=va%4) ?_ ?_)
 exact q
theorem yK{c:bj}{m:List Int}{va:Int}(hv:U va){size:Int}(hs:size=1\/size=4){access:Int}(ha:access=1\/access=2\/access=3):(lM c m va size access).2.1=0->(lM c m va size access).1%size=0:=by
 have kn:LO access=true:=by rcases ha with rfl|rfl|rfl<;>rfl
 have hc:tQ access≠0:=by
  simp only[tQ,LX,Tree.m]
  cases access==1<;>cases access==3<;>simp
 rcases hs with rfl|rfl
 ·intro _;omega
 simp only[lM,Hh,Tree.m,df,kn]
 show(bif dE va 4 !=0 then((0:Int),(3:Int),m)else _).2.1=0->(bif dE va 4 !=0 then((0:Int),(3:Int),m)else _).1%4=0
 rw[eF hv.1]
 cases hz:va%4 !=0
 ·have hz:va%4=0:=by simpa using hz
  have w:=xao m c.B7.a6 hv access
  cases hp:TV c
  ·cases hw:r8 m va 4
   ·exactλe=>absurd e hc
   ·exactλ_=>hz
  ·cases hq:(AQ m c.B7.a6 va access).F5 !=0
   ·have hq:(AQ m c.B7.a6 va access).F5=0:=by simpa using hq
    exactλ_=>(w hq).trans hz
   ·have hq:¬(AQ m c.B7.a6 va access).F5=0:=by simpa using hq
    exactλe=>absurd e hq
 ·intro e;cases e
def dk:kN:={C3:=0,D4:=0,F3:=0,Value:=0}
def jN(c:bj)(m:List Int)(i:gu):bj×List Int×kN:=
 bif i.Op==32 then((tR c m i).1,(tR c m i).2,dk)else bif i.Op==33 then((tR c m i).1,(tR c m i).2,dk)else bif i.Op==34 then((tR c m i).1,(tR c m i).2,dk)
 else bif i.Op==35 then((CB c m i).1,(CB c m i).2,dk)else bif i.Op==36 then((CB c m i).1,(CB c m i).2,dk)else((X4 c i).1,m,(X4 c i).2)
def dc(c:bj)(r:Int):Int:=aK (iV.l c.X) r.toNat 0
def o9(c:bj)(m:List Int)(i:gu):bj×kN×List Int:=
 bif decide (i.Op>=56)then((TX c i).1,(TX c i).2,m)else bif decide (i.Op>=40)then(Z2c c i,dk,m)else bif decide (i.Op>=32)then((Hi c m i).1,dk,(Hi c m i).2)
 else bif i.Op==24 then({X:=(lL c i.A (eh .u32 (wrap .u32 i.bq) 16)).X,Pc:=wrap .u32 ((lL c i.A (eh .u32 (wrap .u32 i.bq) 16)).Pc+4),B7:=(lL c i.A (eh .u32 (wrap .u32 i.bq) 16)).B7},dk,m)
 else bif decide (i.Op<=13)then
  ({X:=(lL c i.A (En i.Op (dc c i.B) (dc c i.C)).1).X,Pc:=wrap .u32 ((lL c i.A (En i.Op (dc c i.B) (dc c i.C)).1).Pc+4),B7:=(lL c i.A (En i.Op (dc c i.B) (dc c i.C)).1).B7},dk,m)
 else({X:=(lL c i.A (En i.Op (dc c i.B) (wrap .u32 i.bq)).1).X,Pc:=wrap .u32 ((lL c i.A (En i.Op (dc c i.B) (wrap .u32 i.bq)).1).Pc+4),B7:=(lL c i.A (En i.Op (dc c i.B) (wrap .u32 i.bq)).1).B7},dk,m)
def pF(op:Int):Prop:=op=1\/op=2\/op=3\/op=4\/op=5\/op=6\/op=7\/op=8\/op=9\/op=10\/op=11\/op=12\/op=13\/op=16\/op=17\/op=18\/op=19\/op=20\/op=21\/op=22\/op=23\/op=24\/op=32\/op=33\/op=34\/op=35\/op=36\/op=40\/op=41\/op=42\/op=43\/op=44\/op=45\/op=48\/op=49\/op=56\/op=57\/op=58\/op=59\/op=60\/op=61\/op=62\/op=63\/op=64
theorem yY(c:bj)(r v:Int):(lL c r v).Pc=c.Pc/\(lL c r v).B7=c.B7:=by
 simp only[lL,Jr,Tree.m]
 cases decide (r>0)
 ·exact⟨rfl,rfl⟩
 ·cases decide (r<16)<;>exact⟨rfl,rfl⟩
def Js(c:bj):bj:={X:=c.X,Pc:=wrap .u32 (c.Pc+4),B7:=c.B7}
def va(c:bj)(B bq:Int):Int:=wrap .u32 (aK (iV.l c.X) B.toNat 0+wrap .u32 bq)
def OO(c:bj)(A v size:Int)(f:Int->Int)(y:Int×List Int×Int):bj×List Int:=bif y.2.2 !=0 then(rC c y.2.2 v,y.2.1)else(Js (uH c A (f (Cz y.2.1 y.1 size).1)),y.2.1)
def OP(c:bj)(A v size:Int)(f:Int->Int)(x:Int×Int×List Int):bj×List Int:=bif x.2.1 !=0 then(pY c x.2.1 v,x.2.2)else(Js (lL c A (f (kP x.2.2 x.1 size).1)),x.2.2)
def TY(c:bj)(A v size:Int)(y:Int×List Int×Int):bj×List Int:=bif y.2.2 !=0 then(rC c y.2.2 v,y.2.1)else(Js c,(LM y.2.1 y.1 size (aK (iV.l c.X) A.toNat 0)).1)
def TZ(c:bj)(A v size:Int)(x:Int×Int×List Int):bj×List Int:=bif x.2.1 !=0 then(pY c x.2.1 v,x.2.2)else(Js c,Bv x.2.2 x.1 size (aK (iV.l c.X) A.toNat 0))
theorem OQ(c:bj)(m:List Int)(A B C bq:Int):
 (tR c m ⟨32,A,B,C,bq⟩=OO c A (va c B bq) 4 (λv=>v) (r9 c m (va c B bq) 4 2)/\Hi c m ⟨32,A,B,C,bq⟩=OP c A (va c B bq) 4 (λv=>v) (lM c m (va c B bq) 4 2))/\
 (tR c m ⟨33,A,B,C,bq⟩=OO c A (va c B bq) 1 (λv=>Ei v 8) (r9 c m (va c B bq) 1 2)/\Hi c m ⟨33,A,B,C,bq⟩=OP c A (va c B bq) 1 (λv=>G9 v 8) (lM c m (va c B bq) 1 2))/\
 (tR c m ⟨34,A,B,C,bq⟩=OO c A (va c B bq) 1 (λv=>v) (r9 c m (va c B bq) 1 2)/\Hi c m ⟨34,A,B,C,bq⟩=OP c A (va c B bq) 1 (λv=>v) (lM c m (va c B bq) 1 2))/\
 (CB c m ⟨35,A,B,C,bq⟩=TY c A (va c B bq) 4 (r9 c m (va c B bq) 4 3)/\Hi c m ⟨35,A,B,C,bq⟩=TZ c A (va c B bq) 4 (lM c m (va c B bq) 4 3))/\
 (CB c m ⟨36,A,B,C,bq⟩=TY c A (va c B bq) 1 (r9 c m (va c B bq) 1 3)/\Hi c m ⟨36,A,B,C,bq⟩=TZ c A (va c B bq) 1 (lM c m (va c B bq) 1 3)):=
 ⟨⟨by kernel_rfl,by kernel_rfl⟩,⟨by kernel_rfl,by kernel_rfl⟩,⟨by kernel_rfl,by kernel_rfl⟩,⟨by kernel_rfl,by kernel_rfl⟩,⟨by kernel_rfl,by kernel_rfl⟩⟩
theorem qap{P:Nat}{m:List Int}(h:eu P m)(a:Int):Ei (kP m a 1).1 8=G9 (kP m a 1).1 8:=by
 have:∀x:Int×Bool,(∃w,U w/\x=(bg .u32 w 255,true))\/x=(0,false)->Ei x.1 8=G9 x.1 8:=λx hx=>by
  rcases hx with⟨w,hw,rfl⟩|rfl
  ·have e:=Cv hw
   exact sx8 (by show 0<=bg .u32 w 255;omega) (by show bg .u32 w 255<256;omega)
  ·rfl
 refine this _ ?_
 simp only[kP,AP,Tree.m,df]
 cases r8 m a 1
 ·exact .inr rfl
 ·exact .inl ⟨_,AM (AN h.u _) _,rfl⟩
section
variable {P:Nat} {m:List Int} (h:eu P m) {c:bj} (hc:iz c) (jV:c.B7.a0<=31)
include h hc jV
omit jV in
theorem X5{v:Int}(hv:U v){size:Int}(hs:size=1\/size=4)(access:Int):eu P (lM c m v size access).2.2/\U (lM c m v size access).1/\((lM c m v size access).2.1=0->(lM c m v size access).1<128*P):=(Tree.pp (T0 h hc hv hs access)).2
theorem X6{A v:Int}(hA:0<=A/\A<16)(hv:U v){size:Int}(hs:size=1\/size=4){f g:Int->Int}(hf:∀{m':List Int},eu P m'->∀a,f (kP m' a size).1=g (kP m' a size).1):OO c A v size f (r9 c m v size 2)=OP c A v size g (lM c m v size 2):=by
 rw[X2 h hc jV hv hs (.inr (.inl rfl))]
 obtain⟨k,u,_⟩:=X5 h hc hv hs 2
 generalize lM c m v size 2=x at*
 simp only[OO,OP,OH k u hs,OK hc.a0.1 jV,TW c hA,hf k]
theorem xk{A v:Int}(hv:U v){size:Int}(hs:size=1\/size=4):TY c A v size (r9 c m v size 3)=TZ c A v size (lM c m v size 3):=by
 rw[X2 h hc jV hv hs (.inr (.inr rfl))]
 obtain⟨k,u,b⟩:=X5 h hc hv hs 3
 have al:=yK (c:=c) (m:=m) hv hs (access:=3) (.inr (.inr rfl))
 generalize lM c m v size 3=x at*
 simp only[TY,TZ,Z8s k u hs,OK hc.a0.1 jV,LI k u hs]
 cases hq:x.2.1 !=0
 ·have hq:x.2.1=0:=by simpa using hq
  rw[dY ⟨al hq,b hq⟩];rfl
 ·rfl
end
theorem vK(c:bj)(k v:Int):(OR c k v).Pc=c.Pc:=by
 simp only[OR,LY,Tree.m]
 repeat'(first|rfl|refine X3 (Q:=λx:bj=>x.Pc=c.Pc) ?_ ?_)
def jh(c:bj)(A v p:Int):bj:={X:=(uH c A v).X,Pc:=p,B7:=(uH c A v).B7}
def FC(c:bj)(A v p:Int):bj:={X:=(lL c A v).X,Pc:=p,B7:=(lL c A v).B7}
def jJ(c:bj):Int:=wrap .u32 (c.Pc+4)
theorem OS(c:bj){A:Int}(hA:0<=A/\A<16)(v p:Int):jh c A v p=FC c A v p:=by
 unfold jh FC;rw[TW c hA]
theorem X7(c:bj)(A v:Int):Js (lL c A v)=FC c A v (jJ c):=by
 unfold Js FC jJ;rw[(yY c A v).1]
theorem LZ(t:Bool)(x y:bj)(m:List Int):((bif t then(x,dk)else(y,dk)).1,m,(bif t then(x,dk)else(y,dk)).2)=((bif t then x else y),m,dk):=by cases t<;>rfl
def Hj(op:Int):Bool:=decide (op=1)||decide (op=2)||decide (op=3)||decide (op=4)||decide (op=5)||decide (op=6)||decide (op=7)||decide (op=8)||decide (op=9)||decide (op=10)||decide (op=11)||decide (op=12)||decide (op=13)||decide (op=16)||decide (op=17)||decide (op=18)||decide (op=19)||decide (op=20)||decide (op=21)||decide (op=22)||decide (op=23)||decide (op=24)||decide (op=32)||decide (op=33)||decide (op=34)||decide (op=35)||decide (op=36)||decide (op=40)||decide (op=41)||decide (op=42)||decide (op=43)||decide (op=44)||decide (op=45)||decide (op=48)||decide (op=49)||decide (op=56)||decide (op=57)||decide (op=58)||decide (op=59)||decide (op=60)||decide (op=61)||decide (op=62)||decide (op=63)||decide (op=64)
section
variable {P:Nat} {m:List Int} (h:eu P m) {c:bj} (hc:iz c) (jV:c.B7.a0<=31) {A B C bq:Int} (hA:0<=A/\A<16)
include h hc jV hA
theorem zk{op:Int}(rV:pF op):jN c m ⟨op,A,B,C,bq⟩=((o9 c m ⟨op,A,B,C,bq⟩).1,(o9 c m ⟨op,A,B,C,bq⟩).2.2,(o9 c m ⟨op,A,B,C,bq⟩).2.1):=by
 have pH:∀{k y:Int},1<=k->k<=23->U y->((jh c A (nS k (dc c B) y).1 (jJ c),m,dk):bj×List Int×kN)=(Js (lL c A (En k (dc c B) y).1),m,dk):=λh1 h2 hy=>by
  rw[zK h1 h2 (show U (dc c B) from hc.r _) hy,X7,OS c hA]
 have uC:U (dc c C):=hc.r _
 have uI:U (wrap .u32 bq):=fj _
 obtain⟨⟨l1,l2⟩,⟨l3,l4⟩,⟨l5,l6⟩,⟨l7,l8⟩,⟨l9,l10⟩⟩:=OQ c m A B C bq
 have Eo:U (va c B bq):=fj _
 rcases rV with rfl|rfl|rfl|rfl|rfl|rfl|rfl|rfl|rfl|rfl|rfl|rfl|rfl|rfl|rfl|rfl|rfl|rfl|rfl|rfl|rfl|rfl|rfl|rfl|rfl|rfl|rfl|rfl|rfl|rfl|rfl|rfl|rfl|rfl|rfl|rfl|rfl|rfl|rfl|rfl|rfl|rfl|rfl|rfl
 ·exact(show jN c m ⟨1,A,B,C,bq⟩=(jh c A (nS 1 (dc c B) (dc c C)).1 (jJ c),m,dk) by kernel_rfl).trans ((pH (by decide) (by decide) uC).trans (by kernel_rfl))
 ·exact(show jN c m ⟨2,A,B,C,bq⟩=(jh c A (nS 2 (dc c B) (dc c C)).1 (jJ c),m,dk) by kernel_rfl).trans ((pH (by decide) (by decide) uC).trans (by kernel_rfl))
 ·exact(show jN c m ⟨3,A,B,C,bq⟩=(jh c A (nS 3 (dc c B) (dc c C)).1 (jJ c),m,dk) by kernel_rfl).trans ((pH (by decide) (by decide) uC).trans (by kernel_rfl))
 ·exact(show jN c m ⟨4,A,B,C,bq⟩=(jh c A (nS 4 (dc c B) (dc c C)).1 (jJ c),m,dk) by kernel_rfl).trans ((pH (by decide) (by decide) uC).trans (by kernel_rfl))
 ·exact(show jN c m ⟨5,A,B,C,bq⟩=(jh c A (nS 5 (dc c B) (dc c C)).1 (jJ c),m,dk) by kernel_rfl).trans ((pH (by decide) (by decide) uC).trans (by kernel_rfl))
 ·exact(show jN c m ⟨6,A,B,C,bq⟩=(jh c A (nS 6 (dc c B) (dc c C)).1 (jJ c),m,dk) by kernel_rfl).trans ((pH (by decide) (by decide) uC).trans (by kernel_rfl))
 ·exact(show jN c m ⟨7,A,B,C,bq⟩=(jh c A (nS 7 (dc c B) (dc c C)).1 (jJ c),m,dk) by kernel_rfl).trans ((pH (by decide) (by decide) uC).trans (by kernel_rfl))
 ·exact(show jN c m ⟨8,A,B,C,bq⟩=(jh c A (nS 8 (dc c B) (dc c C)).1 (jJ c),m,dk) by kernel_rfl).trans ((pH (by decide) (by decide) uC).trans (by kernel_rfl))
 ·exact(show jN c m ⟨9,A,B,C,bq⟩=(jh c A (nS 9 (dc c B) (dc c C)).1 (jJ c),m,dk) by kernel_rfl).trans ((pH (by decide) (by decide) uC).trans (by kernel_rfl))
 ·exact(show jN c m ⟨10,A,B,C,bq⟩=(jh c A (nS 10 (dc c B) (dc c C)).1 (jJ c),m,dk) by kernel_rfl).trans ((pH (by decide) (by decide) uC).trans (by kernel_rfl))
 ·exact(show jN c m ⟨11,A,B,C,bq⟩=(jh c A (nS 11 (dc c B) (dc c C)).1 (jJ c),m,dk) by kernel_rfl).trans ((pH (by decide) (by decide) uC).trans (by kernel_rfl))
 ·exact(show jN c m ⟨12,A,B,C,bq⟩=(jh c A (nS 12 (dc c B) (dc c C)).1 (jJ c),m,dk) by kernel_rfl).trans ((pH (by decide) (by decide) uC).trans (by kernel_rfl))
 ·exact(show jN c m ⟨13,A,B,C,bq⟩=(jh c A (nS 13 (dc c B) (dc c C)).1 (jJ c),m,dk) by kernel_rfl).trans ((pH (by decide) (by decide) uC).trans (by kernel_rfl))
 ·exact(show jN c m ⟨16,A,B,C,bq⟩=(jh c A (nS 16 (dc c B) (wrap .u32 bq)).1 (jJ c),m,dk) by kernel_rfl).trans ((pH (by decide) (by decide) uI).trans (by kernel_rfl))
 ·exact(show jN c m ⟨17,A,B,C,bq⟩=(jh c A (nS 17 (dc c B) (wrap .u32 bq)).1 (jJ c),m,dk) by kernel_rfl).trans ((pH (by decide) (by decide) uI).trans (by kernel_rfl))
 ·exact(show jN c m ⟨18,A,B,C,bq⟩=(jh c A (nS 18 (dc c B) (wrap .u32 bq)).1 (jJ c),m,dk) by kernel_rfl).trans ((pH (by decide) (by decide) uI).trans (by kernel_rfl))
 ·exact(show jN c m ⟨19,A,B,C,bq⟩=(jh c A (nS 19 (dc c B) (wrap .u32 bq)).1 (jJ c),m,dk) by kernel_rfl).trans ((pH (by decide) (by decide) uI).trans (by kernel_rfl))
 ·exact(show jN c m ⟨20,A,B,C,bq⟩=(jh c A (nS 20 (dc c B) (wrap .u32 bq)).1 (jJ c),m,dk) by kernel_rfl).trans ((pH (by decide) (by decide) uI).trans (by kernel_rfl))
 ·exact(show jN c m ⟨21,A,B,C,bq⟩=(jh c A (nS 21 (dc c B) (wrap .u32 bq)).1 (jJ c),m,dk) by kernel_rfl).trans ((pH (by decide) (by decide) uI).trans (by kernel_rfl))
 ·exact(show jN c m ⟨22,A,B,C,bq⟩=(jh c A (nS 22 (dc c B) (wrap .u32 bq)).1 (jJ c),m,dk) by kernel_rfl).trans ((pH (by decide) (by decide) uI).trans (by kernel_rfl))
 ·exact(show jN c m ⟨23,A,B,C,bq⟩=(jh c A (nS 23 (dc c B) (wrap .u32 bq)).1 (jJ c),m,dk) by kernel_rfl).trans ((pH (by decide) (by decide) uI).trans (by kernel_rfl))
 ·refine(show jN c m ⟨24,A,B,C,bq⟩=(jh c A (eh .u32 (wrap .u32 bq) 16) (jJ c),m,dk) by kernel_rfl).trans ?_
  rw[OS c hA,<-X7];kernel_rfl
 ·have e:=X6 h hc jV hA Eo (.inr rfl) (f:=λv=>v) (g:=λv=>v) (λ_ _=>rfl)
  rw[<-l1,<-l2]at e
  refine(show jN c m ⟨32,A,B,C,bq⟩=((tR c m ⟨32,A,B,C,bq⟩).1,(tR c m ⟨32,A,B,C,bq⟩).2,dk) by kernel_rfl).trans ?_
  rw[e];kernel_rfl
 ·have e:=X6 h hc jV hA Eo (.inl rfl) (f:=λv=>Ei v 8) (g:=λv=>G9 v 8) (λhm a=>qap hm a)
  rw[<-l3,<-l4]at e
  refine(show jN c m ⟨33,A,B,C,bq⟩=((tR c m ⟨33,A,B,C,bq⟩).1,(tR c m ⟨33,A,B,C,bq⟩).2,dk) by kernel_rfl).trans ?_
  rw[e];kernel_rfl
 ·have e:=X6 h hc jV hA Eo (.inl rfl) (f:=λv=>v) (g:=λv=>v) (λ_ _=>rfl)
  rw[<-l5,<-l6]at e
  refine(show jN c m ⟨34,A,B,C,bq⟩=((tR c m ⟨34,A,B,C,bq⟩).1,(tR c m ⟨34,A,B,C,bq⟩).2,dk) by kernel_rfl).trans ?_
  rw[e];kernel_rfl
 ·have e:=xk h hc jV (A:=A) Eo (.inr rfl)
  rw[<-l7,<-l8]at e
  refine(show jN c m ⟨35,A,B,C,bq⟩=((CB c m ⟨35,A,B,C,bq⟩).1,(CB c m ⟨35,A,B,C,bq⟩).2,dk) by kernel_rfl).trans ?_
  rw[e];kernel_rfl
 ·have e:=xk h hc jV (A:=A) Eo (.inl rfl)
  rw[<-l9,<-l10]at e
  refine(show jN c m ⟨36,A,B,C,bq⟩=((CB c m ⟨36,A,B,C,bq⟩).1,(CB c m ⟨36,A,B,C,bq⟩).2,dk) by kernel_rfl).trans ?_
  rw[e];kernel_rfl
 ·exact(show jN c m ⟨40,A,B,C,bq⟩=((bif(rF 40 (dc c A) (dc c B))then((⟨c.X,wrap .u32 (c.Pc+wrap .u32 (4*wrap .u32 bq)),c.B7⟩:bj),dk)else(⟨c.X,jJ c,c.B7⟩,dk)).1,m,(bif(rF 40 (dc c A) (dc c B))then((⟨c.X,wrap .u32 (c.Pc+wrap .u32 (4*wrap .u32 bq)),c.B7⟩:bj),dk)else(⟨c.X,jJ c,c.B7⟩,dk)).2) by kernel_rfl).trans ((LZ (rF 40 (dc c A) (dc c B)) ⟨c.X,wrap .u32 (c.Pc+wrap .u32 (4*wrap .u32 bq)),c.B7⟩ ⟨c.X,jJ c,c.B7⟩ m).trans (by kernel_rfl))
 ·exact(show jN c m ⟨41,A,B,C,bq⟩=((bif(rF 41 (dc c A) (dc c B))then((⟨c.X,wrap .u32 (c.Pc+wrap .u32 (4*wrap .u32 bq)),c.B7⟩:bj),dk)else(⟨c.X,jJ c,c.B7⟩,dk)).1,m,(bif(rF 41 (dc c A) (dc c B))then((⟨c.X,wrap .u32 (c.Pc+wrap .u32 (4*wrap .u32 bq)),c.B7⟩:bj),dk)else(⟨c.X,jJ c,c.B7⟩,dk)).2) by kernel_rfl).trans ((LZ (rF 41 (dc c A) (dc c B)) ⟨c.X,wrap .u32 (c.Pc+wrap .u32 (4*wrap .u32 bq)),c.B7⟩ ⟨c.X,jJ c,c.B7⟩ m).trans (by kernel_rfl))
 ·exact(show jN c m ⟨42,A,B,C,bq⟩=((bif(rF 42 (dc c A) (dc c B))then((⟨c.X,wrap .u32 (c.Pc+wrap .u32 (4*wrap .u32 bq)),c.B7⟩:bj),dk)else(⟨c.X,jJ c,c.B7⟩,dk)).1,m,(bif(rF 42 (dc c A) (dc c B))then((⟨c.X,wrap .u32 (c.Pc+wrap .u32 (4*wrap .u32 bq)),c.B7⟩:bj),dk)else(⟨c.X,jJ c,c.B7⟩,dk)).2) by kernel_rfl).trans ((LZ (rF 42 (dc c A) (dc c B)) ⟨c.X,wrap .u32 (c.Pc+wrap .u32 (4*wrap .u32 bq)),c.B7⟩ ⟨c.X,jJ c,c.B7⟩ m).trans (by kernel_rfl))
 ·exact(show jN c m ⟨43,A,B,C,bq⟩=((bif(rF 43 (dc c A) (dc c B))then((⟨c.X,wrap .u32 (c.Pc+wrap .u32 (4*wrap .u32 bq)),c.B7⟩:bj),dk)else(⟨c.X,jJ c,c.B7⟩,dk)).1,m,(bif(rF 43 (dc c A) (dc c B))then((⟨c.X,wrap .u32 (c.Pc+wrap .u32 (4*wrap .u32 bq)),c.B7⟩:bj),dk)else(⟨c.X,jJ c,c.B7⟩,dk)).2) by kernel_rfl).trans ((LZ (rF 43 (dc c A) (dc c B)) ⟨c.X,wrap .u32 (c.Pc+wrap .u32 (4*wrap .u32 bq)),c.B7⟩ ⟨c.X,jJ c,c.B7⟩ m).trans (by kernel_rfl))
 ·exact(show jN c m ⟨44,A,B,C,bq⟩=((bif(rF 44 (dc c A) (dc c B))then((⟨c.X,wrap .u32 (c.Pc+wrap .u32 (4*wrap .u32 bq)),c.B7⟩:bj),dk)else(⟨c.X,jJ c,c.B7⟩,dk)).1,m,(bif(rF 44 (dc c A) (dc c B))then((⟨c.X,wrap .u32 (c.Pc+wrap .u32 (4*wrap .u32 bq)),c.B7⟩:bj),dk)else(⟨c.X,jJ c,c.B7⟩,dk)).2) by kernel_rfl).trans ((LZ (rF 44 (dc c A) (dc c B)) ⟨c.X,wrap .u32 (c.Pc+wrap .u32 (4*wrap .u32 bq)),c.B7⟩ ⟨c.X,jJ c,c.B7⟩ m).trans (by kernel_rfl))
 ·exact(show jN c m ⟨45,A,B,C,bq⟩=((bif(rF 45 (dc c A) (dc c B))then((⟨c.X,wrap .u32 (c.Pc+wrap .u32 (4*wrap .u32 bq)),c.B7⟩:bj),dk)else(⟨c.X,jJ c,c.B7⟩,dk)).1,m,(bif(rF 45 (dc c A) (dc c B))then((⟨c.X,wrap .u32 (c.Pc+wrap .u32 (4*wrap .u32 bq)),c.B7⟩:bj),dk)else(⟨c.X,jJ c,c.B7⟩,dk)).2) by kernel_rfl).trans ((LZ (rF 45 (dc c A) (dc c B)) ⟨c.X,wrap .u32 (c.Pc+wrap .u32 (4*wrap .u32 bq)),c.B7⟩ ⟨c.X,jJ c,c.B7⟩ m).trans (by kernel_rfl))
 ·refine(show jN c m ⟨48,A,B,C,bq⟩=(jh c A (jJ c) (wrap .u32 ((uH c A (jJ c)).Pc+wrap .u32 (4*wrap .u32 bq))),m,dk) by kernel_rfl).trans ?_
  rw[OS c hA,TW c hA,(yY c A (jJ c)).1];kernel_rfl
 ·refine(show jN c m ⟨49,A,B,C,bq⟩=(jh c A (jJ c) (va c B bq),m,dk) by kernel_rfl).trans ?_
  rw[OS c hA];kernel_rfl
 ·refine(show jN c m ⟨56,A,B,C,bq⟩=(rC c 7 0,m,dk) by kernel_rfl).trans ?_
  rw[OK hc.a0.1 jV];kernel_rfl
 ·refine(show jN c m ⟨57,A,B,C,bq⟩=(Lz c,m,dk) by kernel_rfl).trans ?_
  rw[Zkn hc.a0.1 jV];kernel_rfl
 ·refine(show jN c m ⟨58,A,B,C,bq⟩=(jh c A (aK (A8.l c.B7) bq.toNat 0) (jJ c),m,dk) by kernel_rfl).trans ?_
  rw[OS c hA,<-X7];kernel_rfl
 ·have e:=vK c (wrap .i64 bq) (dc c A)
  refine(show jN c m ⟨59,A,B,C,bq⟩=((⟨(OR c (wrap .i64 bq) (dc c A)).X,wrap .u32 (c.Pc+4),(OR c (wrap .i64 bq) (dc c A)).B7⟩:bj),m,dk) by kernel_rfl).trans ?_
  rw[<-e];kernel_rfl
 ·exact(show jN c m ⟨60,A,B,C,bq⟩=((o9 c m ⟨60,A,B,C,bq⟩).1,(o9 c m ⟨60,A,B,C,bq⟩).2.2,(o9 c m ⟨60,A,B,C,bq⟩).2.1) by kernel_rfl)
 ·exact(show jN c m ⟨61,A,B,C,bq⟩=((o9 c m ⟨61,A,B,C,bq⟩).1,(o9 c m ⟨61,A,B,C,bq⟩).2.2,(o9 c m ⟨61,A,B,C,bq⟩).2.1) by kernel_rfl)
 ·exact(show jN c m ⟨62,A,B,C,bq⟩=((o9 c m ⟨62,A,B,C,bq⟩).1,(o9 c m ⟨62,A,B,C,bq⟩).2.2,(o9 c m ⟨62,A,B,C,bq⟩).2.1) by kernel_rfl)
 ·exact(show jN c m ⟨63,A,B,C,bq⟩=((o9 c m ⟨63,A,B,C,bq⟩).1,(o9 c m ⟨63,A,B,C,bq⟩).2.2,(o9 c m ⟨63,A,B,C,bq⟩).2.1) by kernel_rfl)
 ·exact(show jN c m ⟨64,A,B,C,bq⟩=((o9 c m ⟨64,A,B,C,bq⟩).1,(o9 c m ⟨64,A,B,C,bq⟩).2.2,(o9 c m ⟨64,A,B,C,bq⟩).2.1) by kernel_rfl)
end
theorem zap{op:Int}(h0:0<=op)(h1:op<256)(h:o8 op≠0):pF op:=by
 have e:=oY (FB (λop=>decide (o8 op=0\/Hj op=true)) 256 (by kernel_rfl) h0 h1)
 rcases e with e|e
 ·exact absurd e h
 ·simpa only[Hj,pF,aI,decide_eq_true_eq,or_assoc]using e
theorem yk{op:Int}(o:pF op):1<=op/\op<=64:=by
 unfold pF at o
 rcases o with h|h|h|h|h|h|h|h|h|h|h|h|h|h|h|h|h|h|h|h|h|h|h|h|h|h|h|h|h|h|h|h|h|h|h|h|h|h|h|h|h|h|h|h<;>(rw[h];decide)
theorem vk{w:Int}(hw:U w):(rD w).2=true->pF (rD w).1.Op:=by
 have uE:bh .u32 w 24=w/16777216:=by have:=Ed (a:=w) 24 (by decide);simpa using this
 obtain⟨w0,w1⟩:=hw
 have eo:wrap .i64 (w/16777216)=w/16777216:=DW (by omega) (by omega)
 have q:(λr:gu×Bool=>r.2=true->pF r.1.Op) (rD w):=by
  simp only[rD,Ha,Tree.m,df,uE,eo]
  cases hf:o8 (w/16777216)==0
  ·have g:pF (w/16777216):=zap (by omega) (by omega) (by simpa using hf)
   repeat'(first
    |exactλ_=>g
    |exactλe=>eZ (show false=true from e)
    |refine X3 (Q:=λr:gu×Bool=>r.2=true->pF r.1.Op) ?_ ?_)
  ·exactλe=>eZ (show false=true from e)
 exact q
section
variable (c:bj) (m:List Int)
def Ep(x:Int×Int×List Int)(w:Int)(d:gu×Bool):bj×kN×List Int:=
 bif x.2.1 !=0 then(pY c x.2.1 c.Pc,dk,x.2.2)else bif !d.2 then(pY c 1 w,dk,x.2.2)else bif G8 d.1.Op then(bif bg .u32 c.B7.a0 1==0 then(pY c 2 w,dk,x.2.2)else o9 c x.2.2 d.1)else o9 c x.2.2 d.1
def OT(y:Int×List Int×Int)(d:gu×Bool):bj×List Int×kN:=
 bif y.2.2 !=0 then(rC c y.2.2 c.Pc,y.2.1,dk)else bif !d.2 then(rC c 1 y.1,y.2.1,dk)else bif OD d.1.Op then(bif !Hg c then(rC c 2 y.1,y.2.1,dk)else jN c y.2.1 d.1)else jN c y.2.1 d.1
theorem Hk:pZ c m=Ep c (lM c m c.Pc 4 1) (kP (lM c m c.Pc 4 1).2.2 (lM c m c.Pc 4 1).1 4).1 (rD (kP (lM c m c.Pc 4 1).2.2 (lM c m c.Pc 4 1).1 4).1):=by kernel_rfl
theorem xap:wR c m=OT c (T8 c m) (OF (T8 c m).1):=by kernel_rfl
theorem qL:T8 c m=bif(r9 c m c.Pc 4 1).2.2 !=0 then(0,(r9 c m c.Pc 4 1).2.1,(r9 c m c.Pc 4 1).2.2)else((Cz (r9 c m c.Pc 4 1).2.1 (r9 c m c.Pc 4 1).1 4).1,(r9 c m c.Pc 4 1).2.1,0):=by kernel_rfl
end
theorem Zfn{P:Nat}{m:List Int}(h:eu P m){c:bj}(hc:iz c)(jV:c.B7.a0<=31):wR c m=((pZ c m).1,(pZ c m).2.2,(pZ c m).2.1):=by
 obtain⟨k,u,b⟩:=X5 h hc hc.pc (.inr rfl) 1
 have tr:∀k b,rC c k b=pY c k b:=OK hc.a0.1 jV
 rw[xap,Hk,qL,X2 h hc jV hc.pc (.inr rfl) (.inl rfl)]
 generalize lM c m c.Pc 4 1=x at*
 cases hx:x.2.1 !=0
 ·rw [OH k u (.inr rfl)]
  have hw:U (kP x.2.2 x.1 4).1:=(Tree.pp (OU k u (.inr rfl))).2
  generalize(kP x.2.2 x.1 4).1=w at*
  show OT c (w,x.2.2,0) (OF w)=_
  rw[vi hw]
  have o:=vk hw
  have i:=Tree.post _ (Zm5 w)
  change(rD w).2=true->sV (rD w).1 at i
  generalize rD w=d at*
  obtain⟨⟨op,A,B,C,bq⟩,ok⟩:=d
  cases ok
  ·simp only[OT,Ep,hx,tr];rfl
  ·have o:pF op:=o rfl
   have i:=i rfl
   have p:=zk (C:=C) (B:=B) (bq:=bq) k hc jV i.a o
   have pv:OD op=G8 op:=zam (by have:=yk o;omega) (by have:=yk o;omega)
   have kn:(!Hg c)=(bg .u32 c.B7.a0 1==0):=by
    show(!(!(bg .u32 c.B7.a0 1==0)))=_
    exact Bool.not_not _
   simp only[OT,Ep,hx,tr,pv,kn,p]
   cases G8 op
   ·rfl
   ·cases bg .u32 c.B7.a0 1==0<;>rfl
 ·simp only[OT,Ep,hx,cond_true,tr]
theorem ql{a b:Int}:decide (a>=b)=!decide (a<b):=by
 by_cases h:a<b
 ·rw[dY h,dN (by omega)];rfl
 ·rw[dN h,dY (by omega)];rfl
def bits(g:Int)(l:List Nat)(s:Int):Int:=l.foldl (λ(a:Int) (i:Nat)=>wrap .i64 (a+wrap .i64 (bg .u32 (bh .u32 g (i:Int)) 1))) s
theorem xL(b:gv):L0 b=bits b.C5 [0,1,2,3,4,5,6,7,8,9,10,11,12,13,14,15,16,17,18,19,20,21,22,23,24,25,26,27,28,29,30,31] 0:=by kernel_rfl
theorem xaJ{g:Int}(hg:U g){i:Nat}(hi:i<=32):wrap .i64 (bg .u32 (bh .u32 g (i:Int)) 1)=g/2^i%2:=by
 rw[FD (AM hg _),Ed i hi]
 have:0<=g/2^i%2/\g/2^i%2<2:=by omega
 exact DW (by omega) (by omega)
theorem zL{g:Int}(hg:U g)(l:List Nat):∀s:Int,(∀i∈l,i<=32)->0<=s->s+l.length<=1000->bits g l s=s+(l.map λi=>g/2^i%2).sum:=by
 induction l with
 |nil=>intro s _ _ _;simp[bits]
 |cons i l ih=>
  intro s hl h0 h1
  have h1:s+(l.length+1)<=1000:=by simpa using h1
  have hb:0<=g/2^i%2/\g/2^i%2<2:=by omega
  have e:bits g (i::l) s=bits g l (s+g/2^i%2):=by
   show bits g l (wrap .i64 (s+wrap .i64 (bg .u32 (bh .u32 g (i:Int)) 1)))=_
   rw[xaJ hg (hl i (by simp)),DW (by omega) (by omega)]
  rw[e,ih _ (λj hj=>hl j (by simp[hj])) (by omega) (by omega)]
  simp;omega
theorem Zq6(n:ia)(port:Int):Lx n port=OV n port:=by
 simp only[Lx,Oz,OV,OW,Tree.m]
 cases n.C8<;>cases n.B8<;>rfl
theorem Z7i(t:iX):tO t=T9 t:=by
 simp only[tO,TA,T9,X8,Tree.m]
 cases t.D7<;>cases t.D6<;>rfl
theorem Ziv(n:ia)(p:Int):pE n p=Ua n p:=by
 simp only[pE,Ln,Ua,X9,Tree.m]
 cases n.C8<;>cases n.B8<;>rfl
theorem Zba(d:fp)(p:Int):kr d p=Ub d p:=by
  simp only[kr,wO,Ot,Jc,Ub,Ya,Tree.m,df,ql]
  cases decide (d.ag>64)
  . by_cases s:d.C0=0\/d.C0=1\/d.C0=2\/d.C0=3
    . rcases s with s|s|s|s<;>rw[s]
      . rfl
      . by_cases c1:d.D8=1
        . rw[c1];cases decide (d.B9<d.ag)<;>cases decide (wrap .i64 d.B5<p)<;>cases decide (d.C1=[])<;>rfl
        . by_cases c2:d.D8=2
          . rw[c2];cases decide (d.B9<d.ag)<;>cases decide (wrap .i64 d.B5<p)<;>cases(d.C1.length:Int)==128<;>rfl
          . rw[show(d.D8==1)=false by simpa using c1,show(d.D8==2)=false by simpa using c2]
            cases decide (d.B9<d.ag)<;>cases decide (wrap .i64 d.B5<p)<;>rfl
      . rfl
      . rfl
    . rw[show(d.C0==0)=false by simp;omega,show(d.C0==1)=false by simp;omega,show(d.C0==2)=false by simp;omega,show(d.C0==3)=false by simp;omega]
      by_cases n:d.C0<0
      . rw[dY n];rfl
      . rw[dN n,dY (show d.C0>3 by omega)];rfl
  . rfl
theorem yL(c:iW):Uc c=Ud c:=by
 show(!decide (c.D5=[]))=decide ((c.D5.length:Int)>0)
 cases c.D5 with
 |nil=>rfl
 |cons a l=>rw[dN (by simp),dY (by simp)];rfl
theorem qaq(k:List UInt8):decide (k=[])=((k.length:Int)==0):=by
 cases k with
 |nil=>rfl
 |cons a l=>
  rw[dN (by simp)]
  exact(beq_eq_false_iff_ne.2 (by simp;omega)).symm
theorem Zpo(c:iW)(port:Int):Yb c port=Jt c port:=by
 simp only[Yb,Je,Jt,Hl,Tree.m,qaq]
 cases port==0
 ·rfl
 ·cases(c.D5.length:Int)==0<;>rfl
theorem vL(t:iX)(v:Int):Ou t v=OX v:=by
 simp only[Ou,Tz,OX,OY,Tree.m]
 cases h:v==0
 ·rw[show(v !=0)=true by simp only[bne,h];rfl];rfl
 ·rw[show(v !=0)=false by simp only[bne,h];rfl,eq_of_beq h];rfl
section
variable {P:Nat} {m:List Int} (h:eu P m)
include h
theorem Zaa(f:Int):Q9 m f=nZ m f:=by
 have a:=r6 h
 have b:=Ej h
 simp only[Q9,Ok,nZ,OZ,Tree.m,df,a,b]
theorem Z8d(f:Int):GX m f=nZ m f:=by
 have a:=r6 h
 have b:=Ej h
 simp only[GX,Ol,nZ,OZ,Tree.m,df,a,b]
theorem Zfv(d:fp)(port v dj:Int):Yc d m port v dj=O0 d m port v dj:=by
  have pg:=Zaa h
  have pa:=Zfu h
  have rq: ∀d a,Yd d a=Ye d a:=λ_ _=>rfl
  simp only[Yc,Lp,Qx9,Lo,O0,Hm,Tree.m,df,pg,pa,rq]
  cases port==4
  . cases port==5
    . cases h6:port==6
      . rw[show(port !=6)=true by simp only[bne,h6];rfl];rfl
      . rw [show(port !=6)=false by simp only[bne,h6];rfl]
        by_cases v1:v=1
        . subst v1
          cases hs:d.C0==0
          . rw[show(d.C0 !=0)=true by simp only[bne,hs];rfl];rfl
          . rw[show(d.C0 !=0)=false by simp only[bne,hs];rfl];rfl
        . by_cases v2:v=2
          . subst v2
            cases hs:d.C0==0
            . rw[show(d.C0 !=0)=true by simp only[bne,hs];rfl];rfl
            . rw[show(d.C0 !=0)=false by simp only[bne,hs];rfl];rfl
          . rw[show(v==1)=false by simpa using v1,show(v==2)=false by simpa using v2]
            cases v==0
            . rfl
            . have:Lq d=(bif d.C0==2 then true else d.C0==3):=rfl
              rw[this]
              cases d.C0==2<;>cases d.C0==3<;>rfl
    . rfl
  . rfl
theorem Zjt(n:ia)(port v dj:Int):Yf n m port v dj=Ue n m port v dj:=by
  have pg:=Z8d h
  have pa:=Zfu h
  simp only[Yf,Ls,Zb4,Lr,Ue,L1,Tree.m,df,pg,pa]
  have g1:decide (n.F1>=1)=!decide (n.F1<1):=ql
  have g2:decide (n.F1<=128)=!decide (n.F1>128):=by
    by_cases h:n.F1>128
    . rw[dY h,dN (by omega)];rfl
    . rw[dN h,dY (by omega)];rfl
  rw[g1,g2]
  cases port==7
  . cases port==8
    . cases h9:port==9
      . rw[show(port !=9)=true by simp only[bne,h9];rfl];rfl
      . rw [show(port !=9)=false by simp only[bne,h9];rfl]
        by_cases v1:v=1
        . subst v1
          cases decide (n.F1<1)<;>cases decide (n.F1>128)<;>cases nZ m n.Frame<;>rfl
        . by_cases v2:v=2
          . subst v2;rfl
          . rw[show(v==1)=false by simpa using v1,show(v==2)=false by simpa using v2]
            cases v==0<;>rfl
    . rfl
  . rfl
theorem Zay{d:fp}(hd:oF d)(e:gx):Yg d m e=((Ju d m e).1,(Ju d m e).2.2,(Ju d m e).2.1):=by
  have gm:jF m=m:=rfl
  have pg:=Zaa h d.B5
  have lp:decide ((e.D2.length:Int)>0)=!decide (e.D2=[]):=by
    cases e.D2 with
    |nil=>rfl
    |cons a l=>rw[dY (by simp),dN (by simp)];rfl
  have bad:(e.D2.length:Int)≠128->nZ m d.B5=true->Em m (wrap .i64 d.B5) e.D2=(m,false):=λhl hp=>by
    rw[FE h hd.ib]at hp
    have hp:=oY hp
    have h1:=hd.ib.1
    have h3:=h.p2
    have ew:i64.wrap d.B5=d.B5:=DW (by omega) (by omega)
    simp only[Em,GU,Tree.m,df,gm,ew,TP h,dY (⟨h1,hp⟩:0<=d.B5/\d.B5<P),show((e.D2.length:Int) !=128)=true by simpa using hl]
    rfl
  have ez:(e.D2.length:Int)=128->nZ m d.B5=true->Em m (wrap .i64 d.B5) e.D2=(OG m (wrap .i64 d.B5) e.D2,true):=λhl hp=>by
    rw[FE h hd.ib]at hp
    have hp:=oY hp
    have h1:=hd.ib.1
    have h3:=h.p2
    have ew:i64.wrap d.B5=d.B5:=DW (by omega) (by omega)
    rw[ew];exact Zew h h1 hp (by omega)
  simp only[Yg,Ll,Ju,Hn,Tree.m,df,gm,pg,lp]
  cases d.C0 !=1
  . cases e.C3 !=4
    . cases decide (e.N>1)
      . cases e.N==1
        . cases decide (e.D2=[])<;>rfl
        . cases hc:d.D8==1
          . cases decide (e.D2=[])<;>rfl
          . by_cases hl:(e.D2.length:Int)=128
            . rw[show((e.D2.length:Int) !=128)=false by simpa using hl]
              cases hp:nZ m d.B5
              . rfl
              . rw[ez hl hp];rfl
            . rw[show((e.D2.length:Int) !=128)=true by simpa using hl]
              cases hp:nZ m d.B5
              . rfl
              . rw[bad hl hp];rfl
      . rfl
    . rfl
  . rfl
theorem Zf7{n:ia}(hn:pD n)(frame:List UInt8):Yh n m frame=((L2 n m frame).1,(L2 n m frame).2.2,(L2 n m frame).2.1):=by
  have gm:jF m=m:=rfl
  have pg:=Z8d h n.C2
  simp only[Yh,Lm,L2,L3,Tree.m,df,gm,pg]
  cases !n.C8
  . cases decide ((frame.length:Int)<1)
    . cases hf:decide ((frame.length:Int)>128)
      . cases hp:nZ m n.C2
        . rfl
        . rw[FE h hn.buffer]at hp
          have hp:=oY hp
          have h1:=hn.buffer.1
          have h3:=h.p2
          have ew:i64.wrap n.C2=n.C2:=DW (by omega) (by omega)
          have hf:=oN hf
          obtain⟨b1,b2⟩:=(Tree.pp (yj h h1 hp)).2
          change AO m n.C2 (El m n.C2).1 at b1
          have tk:dB (dF ((El m n.C2).1.length:Int)-dF (frame.length:Int)) (dC (dF (frame.length:Int)) (El m n.C2).1)=(El m n.C2).1.drop frame.length:=by
            rw[eD,eD]
            exact List.take_of_length_le (by simp)
          rw[ew,tk,Zfd h h1 hp (by omega) b1]
          rfl
      . rfl
    . rfl
  . rfl
end
def Yi:List UInt8:=(dD 256).map λn=>eX (n%2+n/2%2+n/4%2+n/8%2+n/16%2+n/32%2+n/64%2+n/128%2)
def pt(n:Int):Int:=((eW (Yi.getD n.toNat 0):Nat):Int)
theorem qM(x:Int):Yj x=wrap .i64 (wrap .u8 (wrap .u8 (wrap .u8 (pt (bh .u32 x 24)+pt (bg .u32 (bh .u32 x 16) 255))+pt (bg .u32 (bh .u32 x 8) 255))+pt (bg .u32 x 255))):=by kernel_rfl
theorem O1{a:Int}(h0:0<=a)(h1:a<256):pt a=a%2+a/2%2+a/4%2+a/8%2+a/16%2+a/32%2+a/64%2+a/128%2:=
 eq_of_beq (FB (λa=>pt a==a%2+a/2%2+a/4%2+a/8%2+a/16%2+a/32%2+a/64%2+a/128%2) 256 (by kernel_rfl) h0 h1)
theorem xl{g:Int}(hg:U g):bits g [0,1,2,3,4,5,6,7,8,9,10,11,12,13,14,15,16,17,18,19,20,21,22,23,24,25,26,27,28,29,30,31] 0=pt (g%256)+pt (g/256%256)+pt (g/65536%256)+pt (g/16777216):=by
 rw[zL hg _ 0 (by decide) (by decide) (by decide),O1 (by omega) (by omega),O1 (by omega) (by omega),O1 (by omega) (by omega),O1 (by have:=hg.1;omega) (by have:=hg.2;omega)]
 obtain⟨g0,g1⟩:=hg
 simp only[List.map_cons,List.map_nil,List.sum_cons,List.sum_nil]
 have e:∀i j:Nat,∀k:Int,i<8->k=2^j->g/2^(i+j)%2=(g/k%256)/2^i%2:=λi j k hi hk=>by
  subst hk
  rw[Nat.add_comm,dR,<-fA (dQ (dO (by decide)))]
  generalize g/2^j=x
  have:i=0\/i=1\/i=2\/i=3\/i=4\/i=5\/i=6\/i=7:=by omega
  rcases this with rfl|rfl|rfl|rfl|rfl|rfl|rfl|rfl<;>simp<;>omega
 have e0:∀i:Nat,i<8->g/2^i%2=(g%256)/2^i%2:=λi hi=>by have:=e i 0 1 hi rfl;simpa using this
 have e24:g/16777216%256=g/16777216:=by omega
 rw[e0 0 (by decide),e0 1 (by decide),e0 2 (by decide),e0 3 (by decide),e0 4 (by decide),e0 5 (by decide),e0 6 (by decide),e0 7 (by decide)]
 rw[e 0 8 256 (by decide) (by decide),e 1 8 256 (by decide) (by decide),e 2 8 256 (by decide) (by decide),e 3 8 256 (by decide) (by decide),e 4 8 256 (by decide) (by decide),e 5 8 256 (by decide) (by decide),e 6 8 256 (by decide) (by decide),e 7 8 256 (by decide) (by decide)]
 rw[e 0 16 65536 (by decide) (by decide),e 1 16 65536 (by decide) (by decide),e 2 16 65536 (by decide) (by decide),e 3 16 65536 (by decide) (by decide),e 4 16 65536 (by decide) (by decide),e 5 16 65536 (by decide) (by decide),e 6 16 65536 (by decide) (by decide),e 7 16 65536 (by decide) (by decide)]
 rw[e 0 24 16777216 (by decide) (by decide),e 1 24 16777216 (by decide) (by decide),e 2 24 16777216 (by decide) (by decide),e 3 24 16777216 (by decide) (by decide),e 4 24 16777216 (by decide) (by decide),e 5 24 16777216 (by decide) (by decide),e 6 24 16777216 (by decide) (by decide),e 7 24 16777216 (by decide) (by decide),e24]
 generalize g%256=a
 generalize g/256%256=b
 generalize g/65536%256=c
 generalize g/16777216=d
 simp only[show(2:Int)^0=1 from rfl,show(2:Int)^1=2 from rfl,show(2:Int)^2=4 from rfl,show(2:Int)^3=8 from rfl,show(2:Int)^4=16 from rfl,show(2:Int)^5=32 from rfl,show(2:Int)^6=64 from rfl,show(2:Int)^7=128 from rfl,Int.ediv_one]
 omega
theorem wS{a:Int}(h0:0<=a)(h1:a<256):0<=pt a/\pt a<=8:=by rw[O1 h0 h1];omega
theorem Z9u{b:gv}(hg:U b.C5):Uf b=L0 b/\0<=L0 b/\L0 b<=32:=by
 obtain⟨s8,Bu,uE⟩:=Hd b.C5
 have u8:U (bh .u32 b.C5 8):=AM hg _
 have u16:U (bh .u32 b.C5 16):=AM hg _
 have e:Uf b=Yj b.C5:=rfl
 rw[e,qM,xL,xl hg,Cv u8,Cv u16,Cv hg,s8,Bu,uE]
 obtain⟨g0,g1⟩:=hg
 have p0:=wS (a:=b.C5%256) (by omega) (by omega)
 have p1:=wS (a:=b.C5/256%256) (by omega) (by omega)
 have p2:=wS (a:=b.C5/65536%256) (by omega) (by omega)
 have p3:=wS (a:=b.C5/16777216) (by omega) (by omega)
 have w8:∀x,wrap .u8 x=x%256:=λx=>wrap_u8 x
 rw[w8,w8,w8,wrap_i64]
 omega
theorem Zh2{b:gv}(h:okB b):O2 b=O3 b:=by
 obtain⟨e,l0,l1⟩:=Z9u h.2
 obtain⟨t0,t1⟩:=h.1
 simp only[O2,Q5,O3,Yk,Tree.m,df,e]
 rw[wrap_u32,wrap_u64,wrap_u64,dM l0 (by omega),dM l0 (by omega),dM t0 (by omega)]
theorem Zpw{b:gv}(h:okB b)(port:Int):Yl b port=Jv b port:=by
 simp only[Yl,Ly,Jv,L4,Tree.m,df,(Z9u h.2).1]
theorem zaq(g:Int)(z:Nat):g%2^(z+1)=g%2^z+2^z*(g/2^z%2):=by
 have hp:(0:Int)<2^z:=dO (by decide)
 have h1:=fB g (2^z)
 have h2:=fB (g/2^z) 2
 have h3:(g/2^z)/2=g/2^(z+1):=by rw[fC,fA (dQ hp)]
 have h4:=fB g (2^(z+1))
 rw[h3]at h2
 have h5:(2:Int)^(z+1)*(g/2^(z+1))=2^z*(2*(g/2^(z+1))):=by rw[fC,Int.mul_assoc]
 have h6:(2:Int)^z*(g/2^z)=2^z*(2*(g/2^(z+1)))+2^z*(g/2^z%2):=by rw[<-Int.mul_add,h2]
 omega
theorem qaK{b:gv}(hg:U b.C5){P:Nat}(hP:P<=32):(L5 b P).w (λr=>r=decide (b.C5<2^P)):=by
 unfold L5
 have fin:∀v:Int,0<=v->v<=32->wrap .u64 v=(v.toNat:Int):=λv h0 h1=>by rw[wrap_u64];omega
 refine fy (inv:=λz:Int=>0<=z/\z<=32/\b.C5%2^z.toNat<2^P) (μ:=Ug b P) ⟨by decide,by decide,by have:(0:Int)<2^P:=dO (by decide);simpa using this⟩ (cO _) λz ⟨z0,z1,z2⟩=>?_
 refine aa (λhb=>?_) (λhb=>?_)
 ·have hb:=oY hb
  have ew:i64.wrap (z+1)=z+1:=DW (by omega) (by omega)
  have bt:bg .u32 (bh .u32 b.C5 (wrap .u64 z)) 1=b.C5/2^z.toNat%2:=by
   rw[fin z z0 z1,FD (AM hg _),Ed _ (by omega)]
  have bp:=zaq b.C5 z.toNat
  have zt:(z+1).toNat=z.toNat+1:=by omega
  refine ay (dY (by rw[wrap_u64];omega)) ?_
  rw[bt]
  refine aa (λe=>aa (λhp=>?_) (λhp=>ff ?_)) (λe=>ff ?_)
  ·have e:=eq_of_beq e
   have hp:=oY hp
   show false=_
   refine(dN λcj=>?_).symm
   have hle:(2:Int)^P<=2^z.toNat:=by exact_mod_cast dT (show 0<2 by decide) (show P<=z.toNat by omega)
   have:b.C5/2^z.toNat=0:=Int.ediv_eq_zero_of_lt hg.1 (by omega)
   rw[this]at e;cases e
  ·have e:=eq_of_beq e
   have hp:=oN hp
   show(0<=i64.wrap (z+1)/\i64.wrap (z+1)<=32/\b.C5%2^(i64.wrap (z+1)).toNat<2^P)/\(32-i64.wrap (z+1)).toNat<(32-z).toNat
   rw[ew,zt]
   have hle:(2:Int)^(z.toNat+1)<=2^P:=by exact_mod_cast dT (show 0<2 by decide) (show z.toNat+1<=P by omega)
   have:=Int.emod_lt_of_pos b.C5 (show(0:Int)<2^(z.toNat+1) from dO (by decide))
   exact⟨⟨by omega,by omega,by omega⟩,by omega⟩
  ·have e:¬b.C5/2^z.toNat%2=1:=by simpa using e
   have e:b.C5/2^z.toNat%2=0:=by omega
   rw[e]at bp
   show(0<=i64.wrap (z+1)/\i64.wrap (z+1)<=32/\b.C5%2^(i64.wrap (z+1)).toNat<2^P)/\(32-i64.wrap (z+1)).toNat<(32-z).toNat
   rw[ew,zt,bp]
   exact⟨⟨by omega,by omega,by omega⟩,by omega⟩
 ·have hb:=oN hb
  have:z=32:=by omega
  subst this
  show true=_
  refine(dY ?_).symm
  have h2:b.C5%2^(32:Int).toNat=b.C5:=dM hg.1 hg.2
  rwa [h2]at z2
theorem Zk9{b:gv}(hg:U b.C5){P:Nat}(hP:P<=32):uD b P=Uh b P:=by
 have r:=(Tree.pp (qaK hg hP)).2
 change Uh b P=_ at r
 rw[r,eI,Ow hg,decide_eq_true_eq]
theorem O4:strings_Repeat [(0:UInt8)] 128=cQ 128 0:=by kernel_rfl
theorem zaK{P:Nat}{m:List Int}(hm:eu P m){b:gv}{port:Int}{v:Int}(hv:U v)(hp:v<P)(Jw:port=10)(hb:(bg .u32 (bh .u32 b.C5 v) 1==0)=true):(Bw b m port v).w (λr=>r.1={C9:=b.C9,C5:=ir .u32 b.C5 (eh .u32 1 v)}/\eu P r.2/\∀k:Nat,lK r.2 k=if v*128<=k/\(k:Int)<v*128+128 then 0 else lK m k):=by
 have wJ:decide (0<=v)=true:=dY hv.1
 have h2:=hm.p2
 have pg:nZ m v=true:=by rw[FE hm hv];exact dY hp
 obtain⟨v1,v2⟩:=hv
 subst Jw
 unfold Bw
 refine aa (λ_=>ar λx0 hx=>aa (λ_=>ay wJ (aa (λ_=>ay wJ ?_) (λh=>by rw[hb]at h;cases h))) (λh=>by rw[hx,pg]at h;cases h)) (λh=>by cases h)
 refine fy (inv:=λz=>0<=z.1/\z.1<=32/\eu P z.2/\∀k:Nat,lK z.2 k=if v*128<=k/\(k:Int)<v*128+4*z.1 then 0 else lK m k) (μ:=Qh b m 10 v) ⟨show(0:Int)<=0 by decide,show(0:Int)<=32 by decide,hm,λk=>by rw[if_neg];show¬(_/\_<_+4*(0:Int));omega⟩ (cO _) (λz hz=>?_)
 obtain⟨z1,z2,z3,z4⟩:=hz
 have hl:=z3.len
 refine aa (λh=>?_) (λh=>⟨rfl,z3,λk=>?_⟩)
 ·have h:=oY h
  have e:wrap i64 (wrap i64 (wrap i64 v*32)+z.1)=v*32+z.1:=by rw[wrap_i64,wrap_i64,wrap_i64];omega
  refine ay (by rw[e];simp[bJ];omega) (ff ?_)
  have ew:i64.wrap (z.1+1)=z.1+1:=by rw[wrap_i64];omega
  show(0<=i64.wrap (z.1+1)/\i64.wrap (z.1+1)<=32/\eu P (dG _ _ _)/\∀k:Nat,lK (dG z.2 (dF (wrap i64 (wrap i64 (wrap i64 v*32)+z.1))) 0) k=if v*128<=(k:Int)/\(k:Int)<v*128+4*i64.wrap (z.1+1)then 0 else _)/\(32-i64.wrap (z.1+1)).toNat<(32-z.1).toNat
  rw[ew,e]
  refine⟨⟨by omega,by omega,⟨by simp[hl],z3.p1,z3.p2,Eb z3.u ep _⟩,λk=>?_⟩,by omega⟩
  rw[XP (by omega)]
  by_cases hc:k/4=(v*32+z.1).toNat
  ·rw[if_pos hc,if_pos (by omega)]
   have:k%4=0\/k%4=1\/k%4=2\/k%4=3:=by omega
   rcases this with h|h|h|h<;>rw[h]<;>rfl
  ·rw[if_neg hc,z4 k]
   by_cases hd:v*128<=(k:Int)/\(k:Int)<v*128+4*z.1
   ·rw[if_pos hd,if_pos (by omega)]
   ·rw[if_neg hd,if_neg (by omega)]
 ·have h:=oN h
  show lK z.2 k=_
  rw[z4 k,show z.1=32 by omega];rfl
theorem Ym{g v:Int}(hg:U g)(v0:0<=v)(v1:v<32):(bg .u32 g (eh .u32 1 v)==0)=(bg .u32 (bh .u32 g v) 1==0):=by
 obtain⟨z,rfl⟩:∃z:Nat,v=z:=⟨v.toNat,by omega⟩
 obtain⟨n,rfl⟩:∃n:Nat,g=n:=⟨g.toNat,by have:=hg.1;omega⟩
 have hz:z<32:=by omega
 have cj:(2:Nat)^z<4294967296:=by have:=eC (show 1<2 by omega) hz;simpa using this
 rw[FD (AM hg _),Ed z (by omega),zh v0 v1,eD]
 have hc:((2:Int)^z)=((2^z:Nat):Int):=by simp
 generalize hq:2^z=q at*
 rw[hc,XG hg ⟨by omega,by omega⟩,eD,eD,<-hq]
 have e1:(n&&&2^z)=0↔n/2^z%2=0:=by
  have t:n.testBit z=decide (n/2^z%2=1):=Nat.testBit_eq_decide_div_mod_eq
  constructor
  ·intro h
   have h2:(n&&&2^z).testBit z=false:=by rw[h];exact fD z
   rw[fE,Nat.testBit_two_pow_self,Bool.and_true,t]at h2
   have:=oN h2
   omega
  ·intro h
   have t0:n.testBit z=false:=by rw[t];exact dN (by omega)
   apply eM
   intro i
   rw[fE,Nat.testBit_two_pow,fD]
   by_cases hi:z=i
   ·subst hi;rw[t0];rfl
   ·rw[dN hi,Bool.and_false]
 rw[eI,beq_iff_eq,beq_iff_eq]
 constructor
 ·intro h;have:=e1.1 (by omega);omega
 ·intro h;have:=e1.2 (by omega);omega
theorem Zju{P:Nat}{m:List Int}(h:eu P m){b:gv}(hb:okB b)(port:Int){v:Int}(hv:U v):Ho b m port v=AR b m port v:=by
  have gm:jF m=m:=rfl
  have hp:=r6 h
  have h2:=h.p2
  have ew:i64.wrap v=v:=DW (by have:=hv.1;omega) (by have:=hv.2;omega)
  have pe:=FE h hv
  by_cases Yn:v<32
  . have bv :=Ym hb.2 hv.1 Yn
    by_cases Jw:port=10
    . by_cases hP:v<P
      . cases hz:bg .u32 (bh .u32 b.C5 v) 1==0
        . simp only[Ho,Ef,AR,Bw,Tree.m,df,gm,hp,ew,pe,bv,hz,Jw,dY hP,dN (show¬v>=32 by omega)]
          rfl
        . obtain⟨g1,g2,g3⟩:=(Tree.pp (zaK h hv hP Jw hz)).2
          change(AR b m port v).1=_ at g1
          change eu P (AR b m port v).2 at g2
          change∀k:Nat,lK (AR b m port v).2 k=_ at g3
          obtain⟨s1,s2,s3⟩:=(Tree.pp (XR h hv.1 hP (s:=cQ 128 0) (by simp))).2
          have em:(Em m v (cQ 128 0)).1=(AR b m port v).2:=by
            refine XO (s2.len.trans g2.len.symm) s2.u g2.u λk=> ?_
            rw[g3 k]
            refine(s3 k).trans ?_
            by_cases hk:v*128<=(k:Int)/\(k:Int)<v*128+128
            . rw[if_pos hk,if_pos hk]
              have:(cQ 128 (0:UInt8)).getD ((k:Int)-v*128).toNat 0=0:=by
                rw[cP,List.getElem?_replicate]
                split<;>rfl
              rw[this];rfl
            . rw[if_neg hk,if_neg hk]
          have el:Ho b m port v=({C9:=b.C9,C5:=ir .u32 b.C5 (eh .u32 1 v)},(Em m v (cQ 128 0)).1):=by
            simp only[Ho,Ef,Tree.m,df,gm,hp,ew,bv,hz,Jw,dY hP,dN (show¬v>=32 by omega),O4]
            rfl
          rw[el,em,<-g1]
      . simp only[Ho,Ef,AR,Bw,Tree.m,df,gm,hp,ew,pe,Jw,dN hP,dN (show¬v>=32 by omega)]
        rfl
    . simp only[Ho,Ef,AR,Bw,Tree.m,df,gm,dY Yn,dN (show¬v>=32 by omega),show(port==10)=false by simpa using Jw]
      cases port==11<;>rfl
  . simp only[Ho,Ef,AR,Bw,Tree.m,df,gm,pe,dN Yn,dY (show v>=32 by omega),dN (show¬v<P by omega)]
    cases port==10<;>cases port==11<;>rfl
structure sY(m:au):Prop where
 mj:iz m.B4
 mem:∀w∈m.Mem,U w
 kY:oF m.B1
 sW:pD m.C6
 uJ:okB m.A6
 lS:0<=m.A4
theorem O5(m:List Int)(hm:∀w∈m,U w):mb m=wQ m/\(mb m=0\/∃P:Nat,1<=P/\eu P m):=by
 refine⟨rfl,?_⟩
 simp only[mb,Q8,Tree.m]
 cases h1:dE (m.length:Int) 32 !=0
 ·cases h2:decide ((m.length:Int)>1024)
  ·have h1:dE (m.length:Int) 32=0:=by simpa using h1
   have h2:=oN h2
   rw[eF (by omega)]at h1
   by_cases h0:m.length=0
   ·left;rw[h0];rfl
   ·right;exact⟨m.length/32,by omega,⟨by omega,by omega,by omega,hm⟩⟩
  ·left;rfl
 ·left;rfl
theorem CC{a x:Bool}:(bif !a then false else x)=true↔a=true/\x=true:=by cases a<;>simp
theorem xM(m:au):ra m=true↔ ¬(wQ m.Mem<1)/\mU m.B4/\Qin m.A7=true/\T9 m.B2=true/\Ub m.B1 (wQ m.Mem)=true/\Ua m.C6 (wQ m.Mem)=true/\Uh m.A6 (wQ m.Mem)=true/\m.A4<=1152921504606846976/\¬(m.A9=true/\m.B0=true):=by
 simp only[ra,Yo,Tree.m,df]
 rw[nk,nk,nk,nk,nk,nk,CC,CC,CC,CC,CC]
 simp only[decide_eq_false_iff_not,Int.not_lt,bne_eq_false_iff_eq,gt_iff_lt]
 have l:((bif decide (m.A4<=1152921504606846976)then(bif m.A9 then !m.B0 else true)else false)=true)↔m.A4<=1152921504606846976/\¬(m.A9=true/\m.B0=true):=by
  by_cases hc:m.A4<=1152921504606846976
  ·rw[dY hc]
   cases m.A9<;>cases m.B0<;>simp[hc]
  ·rw[dN hc];simp[hc]
 rw[l]
 constructor
 ·rintro⟨a1,a2,a3,a4,a5,a6,a7⟩
  exact⟨by omega,⟨a2,a3,a4,a5,a6⟩,a7⟩
 ·rintro⟨a1,⟨a2,a3,a4,a5,a6⟩,a7⟩
  exact⟨by omega,a2,a3,a4,a5,a6,a7⟩
theorem L6{m:au}(h:sY m):nj m=ra m:=by
 rw[eI,G3,xM,vg]
 obtain⟨e,c⟩:=O5 m.Mem h.mem
 simp only[aE,<-e]
 rcases c with c|⟨P,hP,hm⟩
 ·constructor
  ·rintro⟨a,_⟩;exact absurd c a
  ·rintro⟨a,_⟩;omega
 ·rw[r6 hm,Z7i,Zba,Ziv,Zk9 h.uJ.2 hm.p2]
  constructor
  ·rintro⟨a1,a2,a3,a4,a5,a6,a7,a8,a9⟩;exact⟨by omega,a2,a5,a6,a7,a8,a9,a3,a4⟩
  ·rintro⟨a1,a2,a5,a6,a7,a8,a9,a3,a4⟩;exact⟨by omega,a2,a3,a4,a5,a6,a7,a8,a9⟩
def Ui(a b c d e:Bool):Int:=ir .u32 (ir .u32 (ir .u32 (ir .u32 (Er a 0) (Er b 1)) (Er c 2)) (Er d 3)) (Er e 4)
theorem Jx(m:au):Uj m=Ui (Yp m.B2) (Uc m.A7) (Lq m.B1) (Yq m.C6) (O2 m.A6):=by
 unfold Uj L7
 simp only[Tree.m,df]
 generalize Yp m.B2=a
 generalize Uc m.A7=b
 generalize Lq m.B1=c
 generalize Yq m.C6=d
 generalize O2 m.A6=e
 cases a<;>cases b<;>cases c<;>cases d<;>cases e<;>kernel_rfl
theorem Zom(a b c d e:Bool):0<=Ui a b c d e/\Ui a b c d e<32:=by
 cases a<;>cases b<;>cases c<;>cases d<;>cases e<;>decide
theorem CD(m:au):O6 m=Ui (Yr m.B2) (Ud m.A7) (Ys m.B1) (Yt m.C6) (O3 m.A6):=rfl
section
variable {m:au} (h:sY m)
include h
theorem Zos:Uj m=O6 m:=by
 rw[Jx,CD,yL,Zh2 h.uJ];rfl
theorem Qyf:L9 m=Bx m:=by
 have e:=Zos h
 simp only[L9,Hp,Bx,Ma,Tree.m,df,e]
theorem Zeu:LC m=sZ m:=by
 have e:=Qyf h
 simp only[LC,Hq,sZ,Mb,Tree.m,df,e]
theorem Qw:AL m=!nm m:=by
 have e1:=L6 h
 have e2:=Zeu h
 have e3:decide (m.A4>=1152921504606846976)=!decide (m.A4<1152921504606846976):=ql
 simp only[AL,Jk,nm,Jy,Tree.m,df,e1,e2,e3]
 cases ra m<;>cases m.B0<;>cases sZ m<;>cases decide (m.A4<1152921504606846976)<;>rfl
theorem Z8t:0<=Bx m/\Bx m<32:=by
 have e:Bx m=bg .u32 (O6 m) m.B4.B7.a7:=rfl
 have l:=Zom (Yr m.B2) (Ud m.A7) (Ys m.B1) (Yt m.C6) (O3 m.A6)
 rw[<-CD]at l
 rw[e,XG ⟨l.1,by omega⟩ h.mj.a7]
 have:=eB (n:=(O6 m).toNat) (m:=m.B4.B7.a7.toNat)
 omega
def low(l:Int):Int:=if l%2=1 then 0 else if l/2%2=1 then 1 else if l/4%2=1 then 2 else if l/8%2=1 then 3 else 4
end
theorem wT{l:Int}(h0:0<=l)(h1:l<32):l=0\/l=1\/l=2\/l=3\/l=4\/l=5\/l=6\/l=7\/l=8\/l=9\/l=10\/l=11\/l=12\/l=13\/l=14\/l=15\/l=16\/l=17\/l=18\/l=19\/l=20\/l=21\/l=22\/l=23\/l=24\/l=25\/l=26\/l=27\/l=28\/l=29\/l=30\/l=31:=by omega
def Jz(m:au)(l:Int):bj:=bif bg .u32 m.B4.B7.a0 2==0 then m.B4 else bif l==0 then m.B4 else pY m.B4 (wrap .i64 (16+low l)) 0
theorem O7{m:au}(h:sY m):mc m=Jz m (Bx m):=by
 obtain⟨l0,l1⟩:=Z8t h
 unfold mc Mc
 simp only[Tree.m,df]
 revert l0 l1
 generalize Bx m=l
 intro l0 l1
 unfold Jz
 cases bg .u32 m.B4.B7.a0 2==0
 ·rcases wT l0 l1 with rfl|rfl|rfl|rfl|rfl|rfl|rfl|rfl|rfl|rfl|rfl|rfl|rfl|rfl|rfl|rfl|rfl|rfl|rfl|rfl|rfl|rfl|rfl|rfl|rfl|rfl|rfl|rfl|rfl|rfl|rfl|rfl<;>kernel_rfl
 ·rfl
def Yu(m:au)(c:bj):au:={B4:=c,Mem:=m.Mem,A7:=m.A7,B2:=m.B2,B1:=m.B1,C6:=m.C6,A6:=m.A6,A4:=m.A4,A9:=false,B0:=m.B0}
theorem Z8z{m:au}(h:sY m)(jV:m.B4.B7.a0<=31):nC m=Yu m (mc m):=by
 obtain⟨l0,l1⟩:=Z8t h
 have tr:∀k b,rC m.B4 k b=pY m.B4 k b:=OK h.mj.a0.1 jV
 have e:L9 (Yu m m.B4)=Bx m:=Qyf (m:=Yu m m.B4) ⟨h.mj,h.mem,h.kY,h.sW,h.uJ,h.lS⟩
 rw[O7 h]
 unfold nC G4
 simp only[Tree.m,df]
 rw[show L9 {B4:=m.B4,Mem:=m.Mem,A7:=m.A7,B2:=m.B2,B1:=m.B1,C6:=m.C6,A6:=m.A6,A4:=m.A4,A9:=false,B0:=m.B0}=Bx m from e]
 revert l0 l1
 generalize Bx m=l
 intro l0 l1
 unfold Jz
 simp only[<-tr]
 cases bg .u32 m.B4.B7.a0 2==0
 ·rcases wT l0 l1 with rfl|rfl|rfl|rfl|rfl|rfl|rfl|rfl|rfl|rfl|rfl|rfl|rfl|rfl|rfl|rfl|rfl|rfl|rfl|rfl|rfl|rfl|rfl|rfl|rfl|rfl|rfl|rfl|rfl|rfl|rfl|rfl<;>(show _=_;kernel_rfl)
 ·rfl
theorem Hr{p:Int}:p=0\/p=1\/p=2\/p=3\/p=4\/p=5\/p=6\/p=7\/p=8\/p=9\/p=10\/p=11\/p<0\/12<=p:=by omega
theorem xaq{m:au}(hb:okB m.A6)(port clock:Int):uK m port clock=((wU m port clock).2,(wU m port clock).1):=by
 have e1:=Zpo m.A7
 have e2:∀p,Oy m.B1 p=Uk m.B1 p:=λ_=>rfl
 have e3:=Zq6 m.C6
 have e4:=Zpw hb
 have e5:Xx m.B2=Ul m.B2:=rfl
 simp only[uK,Lw,wU,GQ,Tree.m,df,e1,e2,e3,e4,e5]
 rcases Hr (p:=port)with rfl|rfl|rfl|rfl|rfl|rfl|rfl|rfl|rfl|rfl|rfl|rfl|h|h
 all_goals first|rfl|skip
 ·have n:∀k:Int,0<=k->(port==k)=false:=λk hk=>beq_eq_false_iff_ne.2 (by omega)
  have c:Jt m.A7 port=(m.A7,0):=by
   simp only[Jt,Hl,Tree.m,n 0 (by decide),n 1 (by decide),cond_false]
  simp only[n 0 (by decide),n 1 (by decide),n 2 (by decide),n 3 (by decide),n 4 (by decide),n 5 (by decide),n 6 (by decide),n 7 (by decide),n 8 (by decide),n 9 (by decide),n 10 (by decide),n 11 (by decide),cond_false,dY (show port<=1 by omega),cond_true,c]
 ·have n:∀k:Int,k<12->(port==k)=false:=λk hk=>beq_eq_false_iff_ne.2 (by omega)
  have c:Jv m.A6 port=0:=by
   simp only[Jv,L4,Tree.m,n 10 (by decide),n 11 (by decide),cond_false]
  simp only[n 0 (by decide),n 1 (by decide),n 2 (by decide),n 3 (by decide),n 4 (by decide),n 5 (by decide),n 6 (by decide),n 7 (by decide),n 8 (by decide),n 9 (by decide),n 10 (by decide),n 11 (by decide),cond_false,dN (show¬port<=1 by omega),dN (show¬port<=6 by omega),dN (show¬port<=9 by omega),c]
theorem yM{P:Nat}{m:au}(hm:eu P m.Mem)(hb:okB m.A6)(port:Int){v:Int}(hv:U v):FG m port v m.A4=((AS m port v).2,(AS m port v).1):=by
 have e1:=Zfv hm m.B1
 have e2:=Zjt hm m.C6
 have e3:=Zju hm hb port hv
 have e4:=vL m.B2 v
 simp only[FG,Lv,AS,Fm,Tree.m,df,e1,e2,e3,e4]
 rcases Hr (p:=port)with rfl|rfl|rfl|rfl|rfl|rfl|rfl|rfl|rfl|rfl|rfl|rfl|h|h
 all_goals first|rfl|skip
 ·have n:∀k:Int,0<=k->(port==k)=false:=λk hk=>beq_eq_false_iff_ne.2 (by omega)
  simp only[n 0 (by decide),n 1 (by decide),n 2 (by decide),n 3 (by decide),n 4 (by decide),n 5 (by decide),n 6 (by decide),n 7 (by decide),n 8 (by decide),n 9 (by decide),n 10 (by decide),n 11 (by decide),cond_false,dY (show port<=2 by omega),cond_true]
 ·have n:∀k:Int,k<12->(port==k)=false:=λk hk=>beq_eq_false_iff_ne.2 (by omega)
  have c:AR m.A6 m.Mem port v=(m.A6,m.Mem):=by
   simp only[AR,Bw,Tree.m,n 10 (by decide),n 11 (by decide),cond_false]
  simp only[n 0 (by decide),n 1 (by decide),n 2 (by decide),n 3 (by decide),n 4 (by decide),n 5 (by decide),n 6 (by decide),n 7 (by decide),n 8 (by decide),n 9 (by decide),n 10 (by decide),n 11 (by decide),cond_false,dN (show¬port<=2 by omega),dN (show¬port<=6 by omega),dN (show¬port<=9 by omega),c]
def tick(n:au)(c:bj)(w h:Bool):au:={B4:=c,Mem:=n.Mem,A7:=n.A7,B2:=n.B2,B1:=n.B1,C6:=n.C6,A6:=n.A6,A4:=wrap .u64 (n.A4+1),A9:=w,B0:=h}
def CE(m:au)(c:bj)(mem:List Int):au:={B4:=c,Mem:=mem,A7:=m.A7,B2:=m.B2,B1:=m.B1,C6:=m.C6,A6:=m.A6,A4:=m.A4,A9:=false,B0:=m.B0}
def FH(n:au)(e:kN)(clock dj:Int):au×List dw:=
 bif e.C3==1 then
  (bif e.F3 !=0 then(tick (uK n e.D4 clock).1 {X:=iV.of 0 (dG (iV.l (uK n e.D4 clock).1.B4.X) e.F3.toNat (uK n e.D4 clock).2),Pc:=(uK n e.D4 clock).1.B4.Pc,B7:=(uK n e.D4 clock).1.B4.B7} (uK n e.D4 clock).1.A9 (uK n e.D4 clock).1.B0,[])
  else(tick (uK n e.D4 clock).1 (uK n e.D4 clock).1.B4 (uK n e.D4 clock).1.A9 (uK n e.D4 clock).1.B0,[]))
 else bif e.C3==2 then(tick (FG n e.D4 e.Value dj).1 (FG n e.D4 e.Value dj).1.B4 (FG n e.D4 e.Value dj).1.A9 (FG n e.D4 e.Value dj).1.B0,(FG n e.D4 e.Value dj).2)
 else bif e.C3==3 then(tick n n.B4 true n.B0,[])else bif e.C3==4 then(tick n n.B4 n.A9 true,[])else(tick n n.B4 n.A9 n.B0,[])
def CF(n:au)(e:kN)(clock:Int):List dw×au:=
 bif e.C3==1 then([],tick (wU n e.D4 clock).2 (lL (wU n e.D4 clock).2.B4 e.F3 (wU n e.D4 clock).1) (wU n e.D4 clock).2.A9 (wU n e.D4 clock).2.B0)
 else bif e.C3==2 then((AS n e.D4 e.Value).1,tick (AS n e.D4 e.Value).2 (AS n e.D4 e.Value).2.B4 (AS n e.D4 e.Value).2.A9 (AS n e.D4 e.Value).2.B0)
 else bif e.C3==3 then([],tick n n.B4 true n.B0)else bif e.C3==4 then([],tick n n.B4 n.A9 true)else([],tick n n.B4 n.A9 n.B0)
theorem vY(m:au)(clock:Int):gd m clock=CF (CE m (pZ (mc m) m.Mem).1 (pZ (mc m) m.Mem).2.2) (pZ (mc m) m.Mem).2.1 clock:=by kernel_rfl
theorem Znp(m:au)(clock:Int):AT m clock=bif !AL m then(m,[])else FH {B4:=(wR (nC m).B4 (nC m).Mem).1,Mem:=(wR (nC m).B4 (nC m).Mem).2.1,A7:=(nC m).A7,B2:=(nC m).B2,B1:=(nC m).B1,C6:=(nC m).C6,A6:=(nC m).A6,A4:=(nC m).A4,A9:=(nC m).A9,B0:=(nC m).B0} (wR (nC m).B4 (nC m).Mem).2.2 clock m.A4:=by kernel_rfl
theorem qar(m:List Int):Yv m=m:=by
 simp[Yv,Md,Tree.m]
theorem Hs(m:au):JA m=m:=by
 simp only[JA,GR,Tree.m,df,qar]
theorem Yw(m:au)(clock:Int):Yx m clock=bif nm m then(m,[])else((gd m clock).2,(gd m clock).1):=by
 simp only[Yx,Z4h,Tree.m,df,Hs]
theorem vM{P:Nat}{n:au}(hm:eu P n.Mem)(hb:okB n.A6){e:kN}(hr:0<=e.F3/\e.F3<16)(hv:U e.Value)(clock:Int):FH n e clock n.A4=((CF n e clock).2,(CF n e clock).1):=by
 unfold FH CF
 rw[xaq hb e.D4 clock,yM hm hb e.D4 hv]
 cases e.C3==1
 ·cases e.C3==2
  ·cases e.C3==3
   ·cases e.C3==4<;>rfl
   ·rfl
  ·rfl
 ·generalize wU n e.D4 clock=r
  have s:=TW r.2.B4 hr r.1
  show(bif e.F3 !=0 then _ else _)=(tick r.2 (lL r.2.B4 e.F3 r.1) r.2.A9 r.2.B0,[])
  rw[<-s]
  simp only[uH,Fy,Tree.m]
  cases e.F3 !=0<;>rfl
theorem Zhk{m:au}(h:sY m)(clock:Int):AT m clock=Yx m clock:=by
 rw[Znp,Yw,Qw h]
 cases hs:nm m
 ·have hr:AL m=true:=by rw[Qw h,hs];rfl
  obtain⟨hm,hh,Oo⟩:=TH hr
  obtain⟨g1,g2,g3,g4,g5⟩:=(G3 m).1 hm
  rcases(O5 m.Mem h.mem).2 with c|⟨P,hP,gy⟩
  ·exact absurd c g1
  have Yy:rB P m:=⟨h.mj,gy,h.kY,h.sW,h.uJ.1,h.uJ.2⟩
  obtain⟨b1,b2,b3,_⟩:=(Tree.pp (Z4 Yy g2)).2
  change mU (nC m).B4 at b1
  change rB P (nC m)at b2
  change(nC m).Mem=m.Mem at b3
  have be:=Z8z h g2.st
  have Um:mU (mc m):=by have:=b1;rw[be]at this;exact this
  have Me:iz (mc m):=by have:=b2.mj;rw[be]at this;exact this
  have ex:=Zfn gy Me Um.st
  have er:=(Tree.pp (Znq Me gy)).2
  change 0<=(wR (mc m) m.Mem).2.2.F3/\(wR (mc m) m.Mem).2.2.F3<16 at er
  obtain⟨d1,d2,d3⟩:=(Tree.pp (Fo Me gy)).2
  change U (pZ (mc m) m.Mem).2.1.Value at d2
  change eu P (pZ (mc m) m.Mem).2.2 at d3
  rw[ex]at er
  rw[vY,be]
  show FH {B4:=(wR (mc m) m.Mem).1,Mem:=(wR (mc m) m.Mem).2.1,A7:=m.A7,B2:=m.B2,B1:=m.B1,C6:=m.C6,A6:=m.A6,A4:=m.A4,A9:=false,B0:=m.B0} (wR (mc m) m.Mem).2.2 clock m.A4=_
  rw[ex]
  exact vM (n:=CE m (pZ (mc m) m.Mem).1 (pZ (mc m) m.Mem).2.2) d3 h.uJ er d2 clock
 ·rfl
theorem Z8v{m:au}(h:sY m)(e:gx):Mf m e=O8 m e:=by
 have gm:jF m.Mem=m.Mem:=rfl
 have mm:=L6 h
 have t1:Ty m.B2=Un m.B2:=rfl
 have t2:∀b,Qp9 m.A7 b=Qv m.A7 b:=λ_=>rfl
 simp only[Mf,G7,O8,Uo,ly,FI,Tree.m,df,Hs,gm,t1,t2]
 rw[show nj {B4:=m.B4,Mem:=m.Mem,A7:=m.A7,B2:=m.B2,B1:=m.B1,C6:=m.C6,A6:=m.A6,A4:=m.A4,A9:=m.A9,B0:=m.B0}=ra m from mm]
 cases hM:ra m
 ·rfl
 have hM':nj m=true:=mm.trans hM
 rcases(O5 m.Mem h.mem).2 with c|⟨P,hP,gy⟩
 ·exact absurd c ((G3 m).1 hM').1
 have cs:=Zay gy h.kY e
 have rs:=Zf7 gy h.sW e.D2
 clear mm hM hM' gm h
 obtain⟨c,mem,con,ti,d,n,b,ct,w,hl⟩:=m
 cases hl
 ·by_cases k2:e.C3=2
  ·rw[k2];cases e.N==0<;>cases decide (e.D2=[])<;>rfl
  by_cases k3:e.C3=3
  ·rw[k3];cases decide (e.N<=255)<;>cases decide (e.D2=[])<;>rfl
  by_cases k4:e.C3=4
  ·rw[k4,cs];rfl
  by_cases k5:e.C3=5
  ·rw[k5,rs];cases e.N==0<;>rfl
  by_cases k6:e.C3=6
  ·rw[k6];cases decide (e.D2=[])<;>rfl
  ·rw[show(e.C3==2)=false by simpa using k2,show(e.C3==3)=false by simpa using k3,show(e.C3==4)=false by simpa using k4,show(e.C3==5)=false by simpa using k5,show(e.C3==6)=false by simpa using k6]
   rfl
 ·rfl
section
variable {m:au} (h:sY m) (hl:m.Mem.length<=1024)
include h
theorem wV(hm:nj m=true):∃P,rB P m/\nO P m:=by
 rcases(O5 m.Mem h.mem).2 with c|⟨P,hP,gy⟩
 ·exact absurd c ((G3 m).1 hm).1
 ·exact⟨P,⟨h.mj,gy,h.kY,h.sW,h.uJ.1,h.uJ.2⟩,⟨h.mj,gy,h.kY,h.sW,h.uJ,h.lS⟩⟩
include hl
theorem zl{clock:Int}(hk:U clock):O9 m clock/\(AT m clock).2.length<=1/\(AT m clock).1.Mem.length<=1024:=by
 cases hr:AL m
 ·have e:AT m clock=(m,[]):=by rw[Znp,hr];rfl
  rw[e]
  refine⟨?_,aT _,hl⟩
  have gm:jF m.Mem=m.Mem:=rfl
  show(G6 m clock).p
  unfold Tree.p G6
  refine cz (by show m.Mem.length<=35184372088832;omega) (ar λl hl=>?_)
  rw[gm]at hl;subst hl
  refine cz (Tree.pp (XD (m:=⟨_,_,_,_,_,_,m.A6,_,_,_⟩) h.uJ.2)).1 (ar λx1 nQ=>aa (λ_=>trivial) (λhb=>?_))
  have:x1=false:=nQ.trans hr
  rw[this]at hb;cases hb
 ·obtain⟨P,s,_⟩:=wV h (TH hr).1
  have g:=Tree.pp (qi s h.lS hk)
  have ml:=g.2.2.ok.mem.len
  have mp:=g.2.2.ok.mem.p2
  exact⟨g.1,g.2.1,by show(G6 m clock).m.1.Mem.length<=1024;omega⟩
omit h hl in
theorem qN{P:Nat}(h:nO P m){e:gx}(he:U e.N):(FI m e).w (λx=>nO P x.2):=by
 have k:=h
 obtain⟨h1,h2,h3,h4,h5,h7⟩:=h
 unfold FI
 repeat'(first
  |exact k
  |exact⟨h1,h2,h3,h4,⟨he,h5.2⟩,h7⟩
  |exact ar λ_ _=>⟨h1,h2,h3,h4,h5,h7⟩
  |exact bo (qad _ _) λ_ _=>⟨h1,h2,h3,h4,h5,h7⟩
  |exact bo (Zmu h2 h3 _) λx hx=>⟨h1,hx.2,hx.1,h4,h5,h7⟩
  |exact bo (Zm7 h2 h4 _) λx hx=>⟨h1,hx.2,h3,hx.1,h5,h7⟩
  |refine aa (λ_=>?_) (λ_=>?_))
theorem Zoz{e:gx}(he:U e.N):Qdj m e:=by
 cases hm:nj m
 ·have gm:jF m.Mem=m.Mem:=rfl
  show(G7 m e).p
  unfold Tree.p G7
  refine cz (by show m.Mem.length<=35184372088832;omega) (ar λl hl=>?_)
  rw[gm]at hl;subst hl
  refine cz (Tree.pp (TJ (m:=⟨_,_,_,_,_,_,m.A6,_,_,_⟩) h.uJ.2)).1 (ar λx1 nQ=>aa (λ_=>trivial) (λhb=>?_))
  have:x1=false:=nQ.trans hm
  rw[this]at hb;cases hb
 ·obtain⟨P,s,o⟩:=wV h hm
  exact(Tree.pp (Zmn o he)).1

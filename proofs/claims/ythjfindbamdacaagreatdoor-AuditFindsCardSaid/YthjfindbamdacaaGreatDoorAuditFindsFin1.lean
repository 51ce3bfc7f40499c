import Derived.Test.YthjfindbamdacaaGreatDoorAuditFindsLaws2
import Derived.Test.YthjfindbamdacaaGreatDoorAuditFindsNewsB
import Derived.Test.YthjfindbamdacaaGreatDoorAuditFindsZt
open Nat renaming lt_succ_self->cO,blt->bJ,zero_le->aT,le_refl->aO,le_trans->bH,min_le_left->dA,le_of_eq->dL,pow_le_pow_right->dT,and_le_left->eB,pow_lt_pow_right->eC,two_pow_pos->eG,two_pow_add_eq_or_of_lt->eK,eq_of_testBit_eq->eM,testBit_mod_two_pow->eN,testBit->eO,zero_testBit->fD,testBit_and->fE
open List renaming getD_eq_getElem?_getD->cP,getElem?_eq_getElem->cG,replicate->cQ,append->cR,mem_cons->cS,not_mem_nil->cU,length_replicate->cV,length_take->bD,length_drop->bF,mem_of_mem_take->cX,mem_of_mem_drop->cY,length_singleton->cZ,take->dB,drop->dC,ext_getElem->bN,range->dD,set->dG,length_set->dH,length_cons->dI,length_nil->dJ,length->dK,getD->aK,getElem?_take->aU
open Int renaming le_refl->cW,tmod->dE,toNat->dF,emod_eq_of_lt->dM,pow_pos->dO,fdiv_eq_ediv_of_nonneg->dP,le_of_lt->dQ,pow_add->dR,mul_le_mul_of_nonneg_right->dS,lt_or_le->dV,toNat_natCast->eD,tmod_eq_emod_of_nonneg->eF,toNat_of_nonneg->eH,fdiv->eJ,tdiv->eU,tdiv_eq_ediv_of_nonneg->eV,ediv_ediv_of_nonneg->fA,mul_ediv_add_emod->fB,pow_succ->fC
open Bool renaming or_eq_true->aI,eq_iff_iff->eI,noConfusion->eZ
open UInt8 renaming toNat_lt->dU,toNat->eW,ofNat->eX
open BitVec renaming ofInt->dW,toNat_ofInt->dX,toNat_or->dZ,toNat_and->eA,getLsbD->eQ,eq_of_toNat_eq->eR,ofInt_natCast->eS,toNat_ofNat->eT
open Prod renaming ext->eY
set_option maxRecDepth 100000
set_option linter.all false
namespace Go.Proofs.YthjfindbamdacaaGreatDoor
open Go Go.GD
open Go.IntKind(wrap i64 u32 u64 u8 wrap_i64 wrap_u32 wrap_u64 wrap_u8 wrap_i32)
theorem xI(i:gu):U (oQ i).1:=by
 refine Tree.post (SZ i) (W:=λr=>U r.1) ?_
 unfold SZ
 exact ar λ_ _=>aa (λ_=>ej) (λ_=>mY _ _)
theorem S0(l:List Int)(hl:l.length*8<=reachBytes):(NA l).w (λr=>(r.length:Int)=l.length/\∀w∈r,U w):=by
 have tu:l.length*8<=140737488351232:=hl
 have app:∀{r:List Int} {x:Int},(∀w∈r,U w)->U x->∀w∈r++[x],U w:=λhr hx w hw=>by
  rw[List.mem_append]at hw
  rcases hw with hw|hw
  ·exact hr w hw
  ·rw[List.mem_singleton.1 hw];exact hx
 unfold NA
 refine fy (inv:=λz=>Qrq l z/\∀w∈z.2,U w) (μ:=S1 l) ⟨⟨by omega,by simp,by simp⟩,by simp⟩ (cO _) (λv0 hv=>?_)
 obtain⟨⟨h1,h2,h3⟩,h4⟩:=hv
 refine aa (λh=>?_) (λh=>?_)
 ·have h:=oY h
  have next:∀x:Int,U x->(Qrq l (wrap i64 (v0.1+1),v0.2++[x])/\∀w∈v0.2++[x],U w)/\S1 l (wrap i64 (v0.1+1),v0.2++[x])<S1 l v0:=λx hx=>by
   have hw:i64.wrap (v0.1+1)=v0.1+1:=by rw[wrap_i64];omega
   rw[hw]
   refine⟨⟨⟨?_,?_,?_⟩,app h4 hx⟩,?_⟩
   ·show 0<=v0.1+1;omega
   ·show v0.1+1<=l.length;omega
   ·show((v0.2++[x]).length:Int)=v0.1+1;simp;omega
   ·show(l.length-(v0.1+1)).toNat<(l.length-v0.1).toNat;omega
  have hb:(Nat.beq 1 1&&bJ 0 1&&decide (0<=v0.1/\v0.1<(l.length:Int)))=true:=by simp[bJ];omega
  have hc:decide (4*(v0.2.length+1)<=140737488355328)=true:=dY (by omega)
  exact ba hb (aa (λ_=>ba hb (ba hc (next _ (fi _)))) (λ_=>ba hb (cz (vU _) (ar λx0 _=>ar λx1 hx=>ba hc (next _ (by rw[hx];exact xI _))))))
 ·have h:=oN h
  exact⟨by show(v0.2.length:Int)=l.length;omega,h4⟩
theorem S3(steps:Int):0<=pO steps/\pO steps<=4000:=by
 refine Tree.post (S4 steps) (W:=λr=>0<=r/\r<=4000) ?_
 unfold S4
 refine ey ?_
 constructor<;>(repeat' split)<;>omega
theorem Zgu{P:Nat}{r:cw}(h:pn P r)(steps:Int){clock:Int}(hc:U clock)(hl:r.C7.length<=900000)(hq:r.B0.length<=1000)(hu:∀q∈r.B0,U q.N):
 (IK r steps clock).w (λx=>pn P x.1/\x.1.C7.length<=r.C7.length+r.B0.length+8000/\(x.1.B0=r.B0\/x.1.B0=[])/\x.2.length<=4000):=by
 unfold IK
 refine bm (Gy h (by omega) (by omega)) λx0 hx=>?_
 obtain⟨k1,k2,k3⟩:=hx
 refine ar λx1 _=>aa (λ_=>⟨k1,by rw[k2];omega,.inl k3,aT _⟩) (λ_=>?_)
 have gm:U (if clock>x0.B3 then clock else x0.B3):=by split<;>first|exact hc|exact k1.clock
 refine fy (inv:=λz=>0<=z.1/\z.1<=r.B0.length/\pn P z.2/\(z.2.C7.length:Int)<=r.C7.length+z.1/\z.2.B0=r.B0) (μ:=WS r steps clock) ⟨by omega,by omega,⟨k1.m,gm⟩,by rw[k2];omega,k3⟩ (cO _) (λz hz=>?_)
 obtain⟨z1,z2,z3,z4,z5⟩:=hz
 refine aa (λhb=>?_) (λhb=>?_)
 ·have hb:=oY hb
  rw[z5]at hb
  have hm:(z.2.B0.getD z.1.toNat (RK.cq RK.bd))∈r.B0:=by
   rw[z5]
   have cf:z.1.toNat<r.B0.length:=by omega
   rw[cP,cG cf]
   exact List.getElem_mem cf
  refine ba (by rw[z5];simp[bJ];omega) (bm (vA z3 (hu _ hm) (by omega)) λx hx=>fg ?_)
  obtain⟨a1,a2,a3⟩:=hx
  show(0<=i64.wrap (z.1+1)/\i64.wrap (z.1+1)<=r.B0.length/\pn P x/\(x.C7.length:Int)<=r.C7.length+i64.wrap (z.1+1)/\x.B0=r.B0)/\(x.B0.length-i64.wrap (z.1+1)).toNat<(z.2.B0.length-z.1).toNat
  have ew:i64.wrap (z.1+1)=z.1+1:=by rw[wrap_i64];omega
  rw[ew,a3,z5]
  exact⟨⟨by omega,by omega,a1,by omega,rfl⟩,by omega⟩
 ·refine fy (inv:=λy=>0<=y.1/\y.1<=4000/\pn P y.2.1/\(y.2.1.C7.length:Int)<=r.C7.length+r.B0.length+2*y.1/\y.2.1.B0=[]/\(y.2.2.length:Int)<=y.1) (μ:=NB r steps clock z) ⟨by omega,by omega,⟨z3.m,z3.clock⟩,by simp;omega,rfl,by simp⟩ (cO _) (λy hy=>?_)
  obtain⟨y1,y2,y3,y4,y5,y6⟩:=hy
  have ew:i64.wrap (y.1+1)=y.1+1:=by rw[wrap_i64];omega
  refine ar λx3 DK=>aa (λhb=>?_) (λ_=>⟨y3,by show y.2.1.C7.length<=_;omega,.inr y5,by show y.2.2.length<=_;omega⟩)
  have hb:=oY hb
  have lim:=(S3 steps).2
  rw[<-DK]at lim
  refine ar λx4 _=>aa (λ_=>bm (vA (e:=⟨_,_,_⟩) y3 ej (by omega)) λx5 h5=>?_) (λ_=>?_)
  ·obtain⟨q1,q2,q3⟩:=h5
   have q3:=q3.trans y5
   refine bm (WT _) λs1 _=>aa (λ_=>⟨q1,by show x5.C7.length<=_;omega,.inr q3,by show y.2.2.length<=_;omega⟩) (λ_=>bm (Qyp q1.m.lY q1.m.mem) λs2 _=>aa (λ_=>ba (dY (by omega)) (bm (S5 (r:=⟨x5.A0,x5.B3,x5.C7++[_],x5.B0⟩) ⟨q1.m,q1.clock⟩ q1.clock) λo ho=>?_)) (λ_=>bm (S5 q1 q1.clock) λo ho=>?_))
   ·obtain⟨a1,⟨⟨a2,a3⟩,a4,a5⟩⟩:=ho
    have e4:o.2.C7.length=x5.C7.length+1:=by rw[a4];simp
    have a5:o.2.B0=[]:=a5.trans q3
    refine ba (dY (by omega)) (fg ?_)
    show(0<=i64.wrap (y.1+1)/\i64.wrap (y.1+1)<=4000/\pn P _/\(o.2.C7.length:Int)<=r.C7.length+r.B0.length+2*i64.wrap (y.1+1)/\o.2.B0=[]/\((y.2.2++o.1).length:Int)<=i64.wrap (y.1+1))/\(4000-i64.wrap (y.1+1)).toNat<(4000-y.1).toNat
    rw[ew,a5,lA]
    exact⟨⟨by omega,by omega,⟨a2,fi _⟩,by omega,rfl,by omega⟩,by omega⟩
   ·obtain⟨a1,⟨⟨a2,a3⟩,a4,a5⟩⟩:=ho
    have e4:o.2.C7.length=x5.C7.length:=by rw[a4]
    have a5:o.2.B0=[]:=a5.trans q3
    refine ba (dY (by omega)) (fg ?_)
    show(0<=i64.wrap (y.1+1)/\i64.wrap (y.1+1)<=4000/\pn P _/\(o.2.C7.length:Int)<=r.C7.length+r.B0.length+2*i64.wrap (y.1+1)/\o.2.B0=[]/\((y.2.2++o.1).length:Int)<=i64.wrap (y.1+1))/\(4000-i64.wrap (y.1+1)).toNat<(4000-y.1).toNat
    rw[ew,a5,lA]
    exact⟨⟨by omega,by omega,⟨a2,fi _⟩,by omega,rfl,by omega⟩,by omega⟩
  ·refine bm (WT _) λs1 _=>aa (λ_=>⟨y3,by show y.2.1.C7.length<=_;omega,.inr y5,by show y.2.2.length<=_;omega⟩) (λ_=>bm (Qyp y3.m.lY y3.m.mem) λs2 _=>aa (λ_=>ba (dY (by omega)) (bm (S5 (r:=⟨y.2.1.A0,y.2.1.B3,y.2.1.C7++[_],y.2.1.B0⟩) ⟨y3.m,y3.clock⟩ y3.clock) λo ho=>?_)) (λ_=>bm (S5 y3 y3.clock) λo ho=>?_))
   ·obtain⟨a1,⟨⟨a2,a3⟩,a4,a5⟩⟩:=ho
    have e4:o.2.C7.length=y.2.1.C7.length+1:=by rw[a4];simp
    have a5:o.2.B0=[]:=a5.trans y5
    refine ba (dY (by omega)) (fg ?_)
    show(0<=i64.wrap (y.1+1)/\i64.wrap (y.1+1)<=4000/\pn P _/\(o.2.C7.length:Int)<=r.C7.length+r.B0.length+2*i64.wrap (y.1+1)/\o.2.B0=[]/\((y.2.2++o.1).length:Int)<=i64.wrap (y.1+1))/\(4000-i64.wrap (y.1+1)).toNat<(4000-y.1).toNat
    rw[ew,a5,lA]
    exact⟨⟨by omega,by omega,⟨a2,fi _⟩,by omega,rfl,by omega⟩,by omega⟩
   ·obtain⟨a1,⟨⟨a2,a3⟩,a4,a5⟩⟩:=ho
    have e4:o.2.C7.length=y.2.1.C7.length:=by rw[a4]
    have a5:o.2.B0=[]:=a5.trans y5
    refine ba (dY (by omega)) (fg ?_)
    show(0<=i64.wrap (y.1+1)/\i64.wrap (y.1+1)<=4000/\pn P _/\(o.2.C7.length:Int)<=r.C7.length+r.B0.length+2*i64.wrap (y.1+1)/\o.2.B0=[]/\((y.2.2++o.1).length:Int)<=i64.wrap (y.1+1))/\(4000-i64.wrap (y.1+1)).toNat<(4000-y.1).toNat
    rw[ew,a5,lA]
    exact⟨⟨by omega,by omega,⟨a2,fi _⟩,by omega,rfl,by omega⟩,by omega⟩
section
variable {P:Nat} {m:au} (h:nH P m)
include h
theorem NC(port:Int){clock:Int}(hc:U clock):(Gz m port clock).w (λx=>U x.1/\nH P x.2/\x.2.A1=m.A1):=by
 have k:=(⟨h,rfl⟩:nH P m/\m.A1=m.A1)
 obtain⟨h1,h2,h3,h4,h5,h7⟩:=h
 unfold Gz
 exact aa (λ_=>ar λx hx=>⟨hx▸Z35 _ _,⟨⟨h1,h2,h3,h4,h5,h7⟩,rfl⟩⟩) (λ_=>aa (λ_=>⟨hc,k⟩) (λ_=>aa (λ_=>ar λx hx=>⟨hx▸Zfd _,k⟩) (λ_=>aa (λ_=>ar λx hx=>⟨hx▸Zms h3 _,k⟩) (λ_=>aa (λ_=>ar λx hx=>⟨hx▸yA h4 _,k⟩) (λ_=>ar λx hx=>⟨hx▸Z2k h5.1 _,k⟩)))))
theorem zaD(port:Int){v:Int}(hv:U v):(Fa m port v).w (λx=>x.1.length<=1/\nH P x.2/\x.2.A1=m.A1):=by
 have k:=(⟨h,rfl⟩:nH P m/\m.A1=m.A1)
 obtain⟨h1,h2,h3,h4,h5,h7⟩:=h
 unfold Fa
 exact aa (λ_=>⟨aO _,k⟩) (λ_=>aa (λ_=>⟨aT _,k⟩) (λ_=>aa (λ_=>ar λ_ _=>⟨aT _,⟨⟨h1,h2,h3,h4,h5,h7⟩,rfl⟩⟩) (λ_=>aa (λ_=>bm (Zem h2 h3 _ hv _) λx hx=>⟨hx.2,⟨⟨h1,h2,hx.1,h4,h5,h7⟩,rfl⟩⟩) (λ_=>aa (λ_=>bm (Zlr h2 h4 _ hv _) λx hx=>⟨hx.2,⟨⟨h1,h2,h3,hx.1,h5,h7⟩,rfl⟩⟩) (λ_=>bm (zab h2 h5 _ hv) λx hx=>⟨aT _,⟨⟨h1,hx.2,h3,h4,hx.1,h7⟩,rfl⟩⟩)))))
theorem Z86{clock:Int}(hc:U clock):(KJ m clock).w (λx=>x.1.length<=1/\nH P x.2/\x.2.A1=wrap .u64 (m.A1+1)):=by
 obtain⟨h1,h2,h3,h4,h5,h7⟩:=h
 unfold KJ
 refine bm (S6 h1) λx0 c0=>bm (Fb c0 h2) λx1 hx=>?_
 obtain⟨c1,v1,m1⟩:=hx
 refine aa (λ_=>ND (NC (m:=⟨_,_,_,_,_,_,_,_,_,_⟩) ⟨c1,m1,h3,h4,h5,h7⟩ _ hc) λx2 hx=>?_) (λ_=>aa (λ_=>bm (zaD (m:=⟨_,_,_,_,_,_,_,_,_,_⟩) ⟨c1,m1,h3,h4,h5,h7⟩ _ v1) λx4 hx=>?_) (λ_=>?_))
 ·obtain⟨u,⟨k1,k2,k3,k4,k5,k7⟩,k6⟩:=hx
  exact bm (DL k1 _ u) λx3 h3=>⟨aT _,⟨h3,k2,k3,k4,k5,w0 _⟩,congrArg (λn=>wrap .u64 (n+1)) k6⟩
 ·obtain⟨u,⟨k1,k2,k3,k4,k5,k7⟩,k6⟩:=hx
  exact⟨u,⟨k1,k2,k3,k4,k5,w0 _⟩,congrArg (λn=>wrap .u64 (n+1)) k6⟩
 ·repeat'(first
   |exact⟨aT _,⟨c1,m1,h3,h4,h5,w0 _⟩,rfl⟩
   |refine aa (λ_=>?_) (λ_=>?_))
theorem zW:(GA m).w (λx=>nH P x/\x.A1=m.A1):=by
 obtain⟨h1,h2,h3,h4,h5,h7⟩:=h
 unfold GA
 exact bm (y9 h2) λx hx=>⟨⟨h1,by rw[hx];exact h2,h3,h4,h5,h7⟩,rfl⟩
end
theorem wz(n:Nat):∀w∈cQ n (0:Int),U w:=λw hw=>by rw[(List.mem_replicate.1 hw).2];exact ej
theorem xah:nH 0 ⟨⟨⟨0,0,0,0,0,0,0,0,0,0,0,0,0,0,0,0⟩,0,⟨0,0,0,0,0,0,0,0⟩⟩,[],⟨[]⟩,⟨false,0,false⟩,⟨0,0,0,0,0,0,0,[]⟩,⟨0,0,false,0,false,0⟩,⟨0,0⟩,0,false,false⟩:=
 ⟨⟨wz 16,ej,wz 8⟩,⟨rfl,by omega,by omega,λw hw=>by cases hw⟩,⟨ej,ej,ej,ej⟩,⟨ej,ej,ej,ej⟩,⟨ej,ej⟩,by decide⟩
theorem S7{P:Nat}{m:au}(h:nH P m)(hc:0<=m.A1):(Fc m [] 87).w (λx=>∃Q,nH Q x.1):=by
 have z:∃Q,nH Q _:=⟨0,xah⟩
 unfold Fc
 refine ar λx0 _=>aa (λ_=>z) λ_=>aa (λ_=>z) λ_=>aa (λ_=>z) λ_=>cz (show NF [] by show([]:List eu).length<=1000000000000;decide) (ar λx1 _=>aa (λ_=>z) λ_=>bm (zW h) λx2 hx=>?_)
 refine fy (inv:=λv:au×List dx=>nH P v.1/\0<=v.1.A1/\v.2.length+(87-v.1.A1).toNat<=87) (μ:=S8 m [] 87) ⟨hx.1,by rw[hx.2];exact hc,by rw[hx.2];show 0+_<=87;omega⟩ (cO _) λv0 ⟨a1,a2,a3⟩=>?_
 refine aa (λhb=>aa (λ_=>?_) (λ_=>⟨P,a1⟩)) (λ_=>⟨P,a1⟩)
 have hb:=oY hb
 refine fy (inv:=λ_=>True) (μ:=S9 m [] 87 v0) trivial (cO _) λv1 _=>?_
 refine aa (λ_=>⟨P,a1⟩) λ_=>bm (xaa _) λx3 _=>aa (λ_=>⟨P,a1⟩) λ_=>bm (zA a1.lY a1.mem) λx4 _=>aa (λ_=>z) λ_=>bm (Z86 a1 ej) λx5 h5=>?_
 obtain⟨b1,b2,b3⟩:=h5
 refine ba (dY (by omega)) (fg ?_)
 have e:x5.2.A1=v0.1.A1+1:=by rw[b3,wrap_u64];omega
 show(_/\_/\_)/\(_:Nat)<_
 refine⟨⟨b2,by show 0<=x5.2.A1;omega,by show(v0.2++x5.1).length+(87-x5.2.A1).toNat<=87;rw[lA];omega⟩,by show(87-x5.2.A1).toNat<(87-v0.1.A1).toNat;omega⟩
set_option synthInstance.maxHeartbeats 2000000
set_option synthInstance.maxSize 100000
noncomputable section
instance zI (src:List UInt8):Ck (Qjs src):=rH (t:=NG src) (by delta NG;infer_instance)
instance zE (s:List UInt8):Ck (Qig s):=rH (t:=NH s) (by delta NH;infer_instance)
instance yE (n:Int):Ck (Fe n):=let d:Decidable (Fe n):=(by delta Fe;infer_instance);⟨@decide _ d,@oY _ d⟩
instance xf (n:Int):Ck (Qfi n):=rH (t:=IL n) (by delta IL;infer_instance)
instance qai (r:Int):Ck (Qnu r):=rH (t:=IM r) (by delta IM;infer_instance)
instance yW (s:List UInt8):Ck (WU s):=rH (t:=NI s) (by delta NI;infer_instance)
instance Zqn (op:Int):Ck (Qdf op):=rH (t:=NJ op) (by delta NJ;infer_instance)
instance Zoy (s:List UInt8):Ck (KK s):=rH (t:=NK s) (by delta NK;infer_instance)
instance zf (ee:List UInt8):Ck (NL ee):=rH (t:=NM ee) (by delta NM;infer_instance)
instance vE (s:List UInt8):Ck (Qih s):=rH (t:=NN s) (by delta NN;infer_instance)
instance yf (l:List ly) (p:List UInt8):Ck (NO l p):=rH (t:=NP l p) (by delta NP;infer_instance)
instance qF (s:List UInt8):Ck (Qhy s):=rH (t:=NQ s) (by delta NQ;infer_instance)
instance qg (l:List ob) (label:List UInt8):Ck (GB l label):=let d:Decidable (GB l label):=(by delta GB;infer_instance);⟨@decide _ d,@oY _ d⟩
instance vW (src:List UInt8):Ck (Qml src):=rH (t:=NR src) (by delta NR;infer_instance)
instance qX (st:kz) (v:Int):Ck (NS st v):=rH (t:=NT st v) (by delta NT;infer_instance)
instance Zqo (src:List UInt8):Ck (WV src):=rH (t:=NU src) (by delta NU;infer_instance)
theorem zai:WV ((108:UInt8)::(Ce++KL++(KM++KN)++(KO++KP++(KQ++KR))++(KS++KT++(KU++KV)++(KW++KX++(KY++KZ))))):=ck inferInstance (by kernel_rfl)
def inU(x:Int):Bool:=decide (0<=x)&&decide (x<4294967296)
theorem xai(l:List Int)(h:(Nat.ble l.length 160&&List.all l inU)=true):l.length<=160/\∀w∈l,U w:=by
 rw[aE]at h
 refine⟨lE h.1,λw hw=>?_⟩
 have:=List.all_eq_true.1 h.2 w hw
 simp only[inU,aE,decide_eq_true_eq]at this
 exact this
theorem Ta:(K0 (cR (cR (cR (cR Tb KL) (cR KM KN)) (cR (cR KO KP) (cR KQ KR))) (cR (cR (cR KS KT) (cR KU KV)) (cR (cR KW KX) (cR KY KZ))))).1.length<=160/\∀w∈(K0 (cR (cR (cR (cR Tb KL) (cR KM KN)) (cR (cR KO KP) (cR KQ KR))) (cR (cR (cR KS KT) (cR KU KV)) (cR (cR KW KX) (cR KY KZ))))).1,U w:=xai _ (by kernel_rfl)
end
theorem sG(i:List Int)(hu:∀w∈i,U w)(hl:i.length<=256):(DM 8 4 i).w (λx=>nH 8 x.1/\x.1.A1=0):=by
 unfold DM
 refine aa (λh=>absurd h (by decide)) λ_=>aa (λh=>absurd h (by decide)) λ_=>aa (λh=>absurd h (by decide)) λ_=>aa (λh=>absurd h (by decide)) λ_=>aa (λh=>?_) λ_=>ar λx0 e0=>cz (Zg7 _) (ar λx1 e1=>?_)
 ·have h:=oY h
  rw[show i64.wrap (8*32)=256 by decide]at h
  omega
 have hx:x1=cQ 256 0:=by rw[e1];kernel_rfl
 have c0:iw x0:=by rw[e0];exact⟨by
  intro w hw
  simp only[WW,Tc,Tree.m,iS.l,cS,cU,or_false,or_self]at hw
  rw[hw];exact ej,ej,by
  intro w hw
  simp only[WW,Tc,Tree.m,A8.l,cS,cU,or_false,or_self]at hw
  rcases hw with rfl|rfl
  ·exact⟨by omega,by omega⟩
  ·exact ej⟩
 have hz:∀w∈x1,U w:=by rw[hx];exact wz 256
 have hn:x1.length=256:=by rw[hx,cV]
 refine⟨⟨c0,⟨?_,by omega,by omega,λw hw=>?_⟩,⟨ej,ej,ej,ej⟩,⟨ej,ej,ej,ej⟩,⟨ej,ej⟩,cW _⟩,rfl⟩
 ·simp only[lA,bD,bF,hn];omega
 ·rcases List.mem_append.1 hw with h1|h1
  ·exact hu w (cX h1)
  ·exact hz w (cY h1)
theorem Zgj(kind:Int)(l:List Int)(hl:l.length*8<=reachBytes):(Ff kind l).w (λx=>∃Q,nH Q x):=by
 have tu:l.length*8<=140737488351232:=hl
 unfold Ff
 refine cz (Fg (by decide)) (ar λx0 _=>aa (λ_=>cz zai (ar λx1 e1=>?_)) (λ_=>?_))
 ·obtain⟨q1,q2⟩:x1.1.length<=160/\∀w∈x1.1,U w:=by rw[e1];exact Ta
  refine fy (inv:=λv:List Int=>v.length<=160/\∀w∈v,U w) (μ:=Td kind l) ⟨q1,q2⟩ (cO _) λv0 ⟨a1,a2⟩=>?_
  refine aa (λhb=>?_) (λ_=>?_)
  ·have hb:=oY hb
   refine ba (dY (by omega)) (fg ?_)
   show(_/\_)/\(_:Nat)<_
   refine⟨⟨by rw[lA,cZ];omega,λw hw=>?_⟩,by show 160-(v0++[0]).length<160-v0.length;rw[lA,cZ];omega⟩
   rcases List.mem_append.1 hw with h1|h1
   ·exact a2 w h1
   ·rw[List.mem_singleton.1 h1];exact ej
  ·refine bm (S0 l hl) λx2 ⟨b1,b2⟩=>ba (dY (by omega)) ?_
   have hu:∀w∈v0++x2,U w:=λw hw=>(List.mem_append.1 hw).elim (a2 w) (b2 w)
   refine aa (λhb=>?_) (λhb=>?_)
   ·have hb:=oY hb
    refine ba (by simp[bJ];rw[lA]at hb;omega) (bm (sG _ (λw hw=>hu w (cY (cX hw))) (by rw[bD];exact bH (dA _ _) (by decide))) λx3 ⟨c1,c2⟩=>aa (λ_=>bm (S7 c1 (by omega)) λx4 hx=>hx) (λ_=>⟨8,c1⟩))
   ·have hb:=oN hb
    exact bm (sG _ hu (by omega)) λx3 ⟨c1,c2⟩=>aa (λ_=>bm (S7 c1 (by omega)) λx4 hx=>hx) (λ_=>⟨8,c1⟩)
 ·refine bm (S0 l hl) λx2 ⟨b1,b2⟩=>ba (dY (by omega)) ?_
  refine aa (λhb=>?_) (λhb=>?_)
  ·have hb:=oY hb
   refine ba (by simp[bJ];omega) (bm (sG _ (λw hw=>b2 w (cY (cX hw))) (by rw[bD];exact bH (dA _ _) (by decide))) λx3 ⟨c1,c2⟩=>aa (λ_=>bm (S7 c1 (by omega)) λx4 hx=>hx) (λ_=>⟨8,c1⟩))
  ·have hb:=oN hb
   exact bm (sG _ b2 (by omega)) λx3 ⟨c1,c2⟩=>aa (λ_=>bm (S7 c1 (by omega)) λx4 hx=>hx) (λ_=>⟨8,c1⟩)
theorem xaD{P:Nat}{r:cw}(h:pn P r)(n:Int)(hl:r.C7.length<=900000)(hq:r.B0.length<=16)(hu:∀q∈r.B0,U q.N):
 (Fh r n).w (λx=>pn P x.1/\x.1.C7.length<=r.C7.length+8016/\(x.1.B0.length<=16/\∀q∈x.1.B0,U q.N)/\x.2.length<=4000):=by
 unfold Fh
 refine ar λx0 _=>aa (λ_=>bm (qB n) λe he=>bm (zU h e (by omega) hq hu he) λx hx=>?_) (λ_=>cz (Fg (by decide)) (ar λx3 _=>bm (Zgu h _ (fi _) hl (by omega) hu) λx hx=>?_))
 ·obtain⟨a1,a2,a3,a4⟩:=hx
  exact⟨a1,by rw[a2];omega,⟨a3,a4⟩,aT _⟩
 ·obtain⟨a1,a2,a3,a4⟩:=hx
  refine⟨a1,by show x.1.C7.length<=_;omega,?_,a4⟩
  rcases a3 with a3|a3
  ·rw[a3];exact⟨hq,hu⟩
  ·rw[a3];exact⟨aT _,λq hq=>by cases hq⟩
theorem qaE{P:Nat}{m:au}(h:nH P m)(l:List Int)(hl:l.length<=30):(IN m l).w (λx=>pn P x.1):=by
 unfold IN
 have nr:(K1 m).w (λx=>pn P x/\x.C7=[]/\x.B0=[]):=by
  unfold K1
  exact bm (zW h) λx hx=>⟨⟨hx.1,ej⟩,rfl,rfl⟩
 refine bm nr λx0 ⟨n1,n2,n3⟩=>?_
 refine fy (inv:=λv:Int×cw×List dx=>0<=v.1/\v.1<=l.length/\pn P v.2.1/\(v.2.1.C7.length:Int)<=8016*v.1/\(v.2.1.B0.length<=16/\∀q∈v.2.1.B0,U q.N)/\(v.2.2.length:Int)<=4000*v.1) (μ:=WX m l) ⟨cW _,by show(0:Int)<=l.length;omega,n1,by rw[n2];exact cW _,by rw[n3];exact⟨aT _,λq hq=>by cases hq⟩,cW _⟩ (cO _) λv0 ⟨a1,a2,a3,a4,⟨a5,a6⟩,a7⟩=>?_
 refine aa (λhb=>?_) (λ_=>a3)
 have hb:=oY hb
 refine ba (by simp[bJ];omega) (bm (xaD a3 _ (by omega) a5 a6) λx1 ⟨b1,b2,b3,b4⟩=>ba (dY (by omega)) (fg ?_))
 have e:i64.wrap (v0.1+1)=v0.1+1:=by rw[wrap_i64];omega
 show(_/\_/\_/\_/\_/\_)/\(_:Nat)<_
 refine⟨⟨by rw[e];omega,by rw[e];omega,b1,by rw[e];show(x1.1.C7.length:Int)<=_;omega,b3,by rw[e,lA];omega⟩,by show(l.length-i64.wrap (v0.1+1)).toNat<(l.length-v0.1).toNat;rw[e];omega⟩
noncomputable section
def lB:List Int:=(K0 (cR (cR (cR (cR Tb KL) (cR KM KN)) (cR (cR KO KP) (cR KQ KR))) (cR (cR (cR KS KT) (cR KU KV)) (cR (cR KW KX) (cR KY KZ))))).1
def DN:List Int:=lB++cQ (160-lB.length) 0
theorem NV(t0 t1 t2 t3 t4 t5 t6 t7 t8 t9 t10 t11 t12 t13 t14 t15 t16 t17 t18 t19 t20 t21 t22 t23 t24 t25 t26 t27 t28 t29 t30 t31 t32 t33 t34 t35 t36 t37 t38 t39 t40 t41 t42 t43 t44 t45 t46 t47 t48 t49 t50 t51 t52 t53 t54 t55 t56 t57 t58 t59 t60 t61 t62 t63 t64 t65 t66 t67 t68 t69 t70 t71 t72 t73 t74 t75 t76 t77 t78 t79 t80 t81 t82 t83 t84 t85 t86 t87 t88 t89 t90 t91 t92 t93 t94 t95:Int):(IP (k9 8 4 (DN++[t0,t1,t2,t3,t4,t5,t6,t7,t8,t9,t10,t11,t12,t13,t14,t15,t16,t17,t18,t19,t20,t21,t22,t23,t24,t25,t26,t27,t28,t29,t30,t31,t32,t33,t34,t35,t36,t37,t38,t39,t40,t41,t42,t43,t44,t45,t46,t47,t48,t49,t50,t51,t52,t53,t54,t55,t56,t57,t58,t59,t60,t61,t62,t63,t64,t65,t66,t67,t68,t69,t70,t71,t72,t73,t74,t75,t76,t77,t78,t79,t80,t81,t82,t83,t84,t85,t86,t87,t88,t89,t90,t91,t92,t93,t94,t95])).1 [] 87).2.2.2=0:=by kernel_rfl
end
attribute [local irreducible] K0
theorem qaj(i j:List Int)(hi:i.length<=256)(hj:j.length<=256)(e:i++cQ (256-i.length) 0=j++cQ (256-j.length) 0):k9 8 4 i=k9 8 4 j:=by
 have w:i64.wrap (8*32)=256:=by decide
 have m:Te 8=cQ 256 0:=by kernel_rfl
 have d:∀k:List Int,k.length<=256->decide ((k.length:Int)>256)=false:=λk h=>dN (by omega)
 have mem:∀k:List Int,k.length<=256->dB (min k.length (cQ 256 (0:Int)).length) k++dC (min k.length (cQ 256 (0:Int)).length) (cQ 256 0)=k++cQ (256-k.length) 0:=λk h=>by
  rw[cV,Nat.min_eq_left h,List.take_length,List.drop_replicate]
 have r:Te 8=cQ 256 0:=by kernel_rfl
 simp only[k9,DM,Tree.m,w,dd,r,d i hi,d j hj]
 simp only[mem i hi,mem j hj,e]
theorem IQ(t:List Int)(ht:t.length=96):t=[t.getD 0 0,t.getD 1 0,t.getD 2 0,t.getD 3 0,t.getD 4 0,t.getD 5 0,t.getD 6 0,t.getD 7 0,t.getD 8 0,t.getD 9 0,t.getD 10 0,t.getD 11 0,t.getD 12 0,t.getD 13 0,t.getD 14 0,t.getD 15 0,t.getD 16 0,t.getD 17 0,t.getD 18 0,t.getD 19 0,t.getD 20 0,t.getD 21 0,t.getD 22 0,t.getD 23 0,t.getD 24 0,t.getD 25 0,t.getD 26 0,t.getD 27 0,t.getD 28 0,t.getD 29 0,t.getD 30 0,t.getD 31 0,t.getD 32 0,t.getD 33 0,t.getD 34 0,t.getD 35 0,t.getD 36 0,t.getD 37 0,t.getD 38 0,t.getD 39 0,t.getD 40 0,t.getD 41 0,t.getD 42 0,t.getD 43 0,t.getD 44 0,t.getD 45 0,t.getD 46 0,t.getD 47 0,t.getD 48 0,t.getD 49 0,t.getD 50 0,t.getD 51 0,t.getD 52 0,t.getD 53 0,t.getD 54 0,t.getD 55 0,t.getD 56 0,t.getD 57 0,t.getD 58 0,t.getD 59 0,t.getD 60 0,t.getD 61 0,t.getD 62 0,t.getD 63 0,t.getD 64 0,t.getD 65 0,t.getD 66 0,t.getD 67 0,t.getD 68 0,t.getD 69 0,t.getD 70 0,t.getD 71 0,t.getD 72 0,t.getD 73 0,t.getD 74 0,t.getD 75 0,t.getD 76 0,t.getD 77 0,t.getD 78 0,t.getD 79 0,t.getD 80 0,t.getD 81 0,t.getD 82 0,t.getD 83 0,t.getD 84 0,t.getD 85 0,t.getD 86 0,t.getD 87 0,t.getD 88 0,t.getD 89 0,t.getD 90 0,t.getD 91 0,t.getD 92 0,t.getD 93 0,t.getD 94 0,t.getD 95 0]:=by
 apply bN
 ·rw[ht];rfl
 ·intro i h1 h2
  have e:∀j (hj:j<96),[t.getD 0 0,t.getD 1 0,t.getD 2 0,t.getD 3 0,t.getD 4 0,t.getD 5 0,t.getD 6 0,t.getD 7 0,t.getD 8 0,t.getD 9 0,t.getD 10 0,t.getD 11 0,t.getD 12 0,t.getD 13 0,t.getD 14 0,t.getD 15 0,t.getD 16 0,t.getD 17 0,t.getD 18 0,t.getD 19 0,t.getD 20 0,t.getD 21 0,t.getD 22 0,t.getD 23 0,t.getD 24 0,t.getD 25 0,t.getD 26 0,t.getD 27 0,t.getD 28 0,t.getD 29 0,t.getD 30 0,t.getD 31 0,t.getD 32 0,t.getD 33 0,t.getD 34 0,t.getD 35 0,t.getD 36 0,t.getD 37 0,t.getD 38 0,t.getD 39 0,t.getD 40 0,t.getD 41 0,t.getD 42 0,t.getD 43 0,t.getD 44 0,t.getD 45 0,t.getD 46 0,t.getD 47 0,t.getD 48 0,t.getD 49 0,t.getD 50 0,t.getD 51 0,t.getD 52 0,t.getD 53 0,t.getD 54 0,t.getD 55 0,t.getD 56 0,t.getD 57 0,t.getD 58 0,t.getD 59 0,t.getD 60 0,t.getD 61 0,t.getD 62 0,t.getD 63 0,t.getD 64 0,t.getD 65 0,t.getD 66 0,t.getD 67 0,t.getD 68 0,t.getD 69 0,t.getD 70 0,t.getD 71 0,t.getD 72 0,t.getD 73 0,t.getD 74 0,t.getD 75 0,t.getD 76 0,t.getD 77 0,t.getD 78 0,t.getD 79 0,t.getD 80 0,t.getD 81 0,t.getD 82 0,t.getD 83 0,t.getD 84 0,t.getD 85 0,t.getD 86 0,t.getD 87 0,t.getD 88 0,t.getD 89 0,t.getD 90 0,t.getD 91 0,t.getD 92 0,t.getD 93 0,t.getD 94 0,t.getD 95 0][j]'hj=t.getD j 0:=by
   intro j hj
   have:[t.getD 0 0,t.getD 1 0,t.getD 2 0,t.getD 3 0,t.getD 4 0,t.getD 5 0,t.getD 6 0,t.getD 7 0,t.getD 8 0,t.getD 9 0,t.getD 10 0,t.getD 11 0,t.getD 12 0,t.getD 13 0,t.getD 14 0,t.getD 15 0,t.getD 16 0,t.getD 17 0,t.getD 18 0,t.getD 19 0,t.getD 20 0,t.getD 21 0,t.getD 22 0,t.getD 23 0,t.getD 24 0,t.getD 25 0,t.getD 26 0,t.getD 27 0,t.getD 28 0,t.getD 29 0,t.getD 30 0,t.getD 31 0,t.getD 32 0,t.getD 33 0,t.getD 34 0,t.getD 35 0,t.getD 36 0,t.getD 37 0,t.getD 38 0,t.getD 39 0,t.getD 40 0,t.getD 41 0,t.getD 42 0,t.getD 43 0,t.getD 44 0,t.getD 45 0,t.getD 46 0,t.getD 47 0,t.getD 48 0,t.getD 49 0,t.getD 50 0,t.getD 51 0,t.getD 52 0,t.getD 53 0,t.getD 54 0,t.getD 55 0,t.getD 56 0,t.getD 57 0,t.getD 58 0,t.getD 59 0,t.getD 60 0,t.getD 61 0,t.getD 62 0,t.getD 63 0,t.getD 64 0,t.getD 65 0,t.getD 66 0,t.getD 67 0,t.getD 68 0,t.getD 69 0,t.getD 70 0,t.getD 71 0,t.getD 72 0,t.getD 73 0,t.getD 74 0,t.getD 75 0,t.getD 76 0,t.getD 77 0,t.getD 78 0,t.getD 79 0,t.getD 80 0,t.getD 81 0,t.getD 82 0,t.getD 83 0,t.getD 84 0,t.getD 85 0,t.getD 86 0,t.getD 87 0,t.getD 88 0,t.getD 89 0,t.getD 90 0,t.getD 91 0,t.getD 92 0,t.getD 93 0,t.getD 94 0,t.getD 95 0]=(dD 96).map (λk=>t.getD k 0):=rfl
   simp only[this,List.getElem_map,List.getElem_range]
  rw[e i (by omega),cP,cG h1]
  rfl
theorem zaE(t:List Int)(ht:t.length=96):(IP (k9 8 4 (DN++t)).1 [] 87).2.2.2=0:=by
 rw[IQ t ht]
 exact NV _ _ _ _ _ _ _ _ _ _ _ _ _ _ _ _ _ _ _ _ _ _ _ _ _ _ _ _ _ _ _ _ _ _ _ _ _ _ _ _ _ _ _ _ _ _ _ _ _ _ _ _ _ _ _ _ _ _ _ _ _ _ _ _ _ _ _ _ _ _ _ _ _ _ _ _ _ _ _ _ _ _ _ _ _ _ _ _ _ _ _ _ _ _ _ _
theorem zaj:DN.length=160:=by
 have h:lB.length<=160:=Ta.1
 unfold DN
 rw[lA,cV];omega
def out(f:Int)(m m':List Int):Prop:=∀j:Nat,¬(f*32<=j/\(j:Int)<f*32+32)->m'.getD j 0=m.getD j 0
theorem K3(f:Int)(m:List Int):out f m m:=λ_ _=>rfl
theorem wA(l:List Int)(i j:Nat)(v:Int)(h:i≠j):(l.set i v).getD j 0=l.getD j 0:=by
 simp only[cP,List.getElem?_set_ne h]
theorem rQ{P:Nat}{m:List Int}(h:ek P m):lR m=P:=by
 obtain⟨h1,h2,h3,_⟩:=h
 simp only[lR,K4,Tree.m]
 have e:(m.length:Int)=32*P:=by omega
 rw[e]
 have e1:(dE (32*(P:Int)) 32 !=0)=false:=by simp[Int.mul_tmod_right]
 have e2:decide ((32*(P:Int))>1024)=false:=dN (by omega)
 rw[e1,e2]
 simp only[cond_false]
 rw[Int.mul_tdiv_cancel_left _ (by decide),wrap_i64];omega
theorem xX{P:Nat}{m:List Int}(h:ek P m)(f:Int):IS m f=true->0<=f/\f<P:=by
 have hp:=rQ h
 simp only[IS,NW,Tree.m,dd,hp]
 cases h1:decide (f>=0)
 ·intro h;cases h
 ·intro h;exact⟨oY h1,oY h⟩
theorem WY{P:Nat}{m:List Int}(h:ek P m)(f:Int)(s:List UInt8):(GC m f s).w (λr=>ek P r.1/\out f m r.1/\(r.2=false->r.1=m)):=by
 have gm:jC m=m:=rfl
 have h2:=h.p2
 unfold GC
 refine cz (rR h) (ar λx0 nI=>ar λx1 nJ=>?_)
 rw[gm]at nI;subst nI
 refine aa (λ_=>⟨h,K3 _ _,λ_=>rfl⟩) λhb=>aa (λ_=>⟨h,K3 _ _,λ_=>rfl⟩) λhs=>?_
 have hb:x1=true:=by simpa using hb
 obtain⟨f0,f1⟩:=xX h f (nJ.symm.trans hb)
 have hs:(s.length:Int)=128:=by simpa using hs
 refine fy (inv:=λz:Int×List Int=>0<=z.1/\z.1<=32/\ek P z.2/\out f x0 z.2) (μ:=WZ x0 f s) ⟨show(0:Int)<=0 by decide,show(0:Int)<=32 by decide,h,K3 _ _⟩ (cO _) λz ⟨z1,z2,z3,z4⟩=>?_
 refine aa (λhb=>?_) (λ_=>⟨z3,z4,λh=>by cases h⟩)
 have hb:=oY hb
 have e1:i64.wrap (4*z.1)=4*z.1:=by rw[wrap_i64];omega
 have e2:i64.wrap (i64.wrap (4*z.1)+4)=4*z.1+4:=by rw[wrap_i64,wrap_i64];omega
 have e3:i64.wrap (i64.wrap (f*32)+z.1)=f*32+z.1:=by rw[wrap_i64,wrap_i64];omega
 have hl:=z3.len
 have hlen:(dB (dF (i64.wrap (i64.wrap (4*z.1)+4))-dF (i64.wrap (4*z.1))) (dC (dF (i64.wrap (4*z.1))) s)).length=4:=by
  rw[e2,e1,bD,bF];omega
 refine ba (dY (by rw[e2,e1];omega)) ?_
 refine ba (dY (by rw[hlen];decide)) (ba (dY (by rw[hlen];decide)) (ba (dY (by rw[hlen];decide)) (ba (dY (by rw[hlen];decide)) (ba (by rw[e3];simp[bJ];omega) (fg ?_)))))
 show(_/\_/\ek P (dG _ _ _)/\out f x0 (dG _ _ _))/\(_:Nat)<_
 have ew:i64.wrap (z.1+1)=z.1+1:=by rw[wrap_i64];omega
 rw[e3]
 refine⟨⟨by rw[ew];omega,by rw[ew];omega,⟨by rw[dH];exact hl,z3.p1,z3.p2,Z7 z3.u (mY _ _) _⟩,λj hj=>?_⟩,by show(32-i64.wrap (z.1+1)).toNat<(32-z.1).toNat;rw[ew];omega⟩
 rw[wA _ _ _ _ (by omega)]
 exact z4 j hj
theorem xaE(w:List Int)(h:w.length<=32):(Fi w).w (λr=>r.length=4*w.length):=by
 have e0:i64.wrap (4*(w.length:Int))=4*w.length:=by rw[wrap_i64];omega
 unfold Fi
 refine ba (by rw[e0];simp[bJ,D.plain];omega) ?_
 refine fy (inv:=λz:Int×List Int=>0<=z.1/\z.1<=w.length/\(z.2.length:Int)=4*z.1) (μ:=NX w) ⟨by decide,by show(0:Int)<=w.length;omega,rfl⟩ (cO _) λz ⟨z1,z2,z3⟩=>?_
 refine aa (λhb=>?_) (λhb=>?_)
 ·have hb:=oY hb
  have ew:i64.wrap (z.1+1)=z.1+1:=by rw[wrap_i64];omega
  refine ba (by simp[bJ];omega) (ba (dY (by omega)) (fg ?_))
  show(_/\_/\_)/\(_:Nat)<_
  refine⟨⟨by rw[ew];omega,by rw[ew];omega,by rw[ew,lA];simp only[dI,dJ];omega⟩,by show(w.length-i64.wrap (z.1+1)).toNat<(w.length-z.1).toNat;rw[ew];omega⟩
 ·have hb:=oN hb
  show(bytesOf z.2).length=_
  rw[NY];omega
theorem W0{P:Nat}{m:List Int}(h:ek P m)(f:Int):(GF m f).w (λr=>0<=f->f<P->r.1.length=128):=by
 have hl:=h.len
 have h2:=h.p2
 unfold GF
 refine ar λx0 nI=>aa (λhb=>λf0 f1=>?_) (λhb=>?_)
 ·have hp:=rQ h
  have hb:x0=false:=by simpa using hb
  rw[hb]at nI
  simp only[IS,NW,Tree.m,dd,hp]at nI
  rw[dY f0]at nI
  exact absurd f1 (oN nI.symm)
 ·have hb:x0=true:=by simpa using hb
  obtain⟨f0,f1⟩:=xX h f (nI.symm.trans hb)
  have e1:i64.wrap (f*32)=f*32:=by rw[wrap_i64];omega
  have e2:i64.wrap (i64.wrap (f*32)+32)=f*32+32:=by rw[wrap_i64,wrap_i64];omega
  have hlen:(dB (dF (i64.wrap (i64.wrap (f*32)+32))-dF (i64.wrap (f*32))) (dC (dF (i64.wrap (f*32))) m)).length=32:=by
   rw[e2,e1,bD,bF];omega
  refine ba (by rw[e2,e1];simp[bJ];omega) ?_
  refine cz (by show dK _<=1000000000000;rw[hlen];decide) (ar λx1 h1=>?_)
  have h1:x1.length=4*(dB (dF (i64.wrap (i64.wrap (f*32)+32))-dF (i64.wrap (f*32))) (dC (dF (i64.wrap (f*32))) m)).length:=by rw[h1];exact(Tree.pp (xaE _ (dL hlen))).2
  intro _ _
  show x1.length=128
  rw[h1,hlen]
theorem Tf{f:Int}(hf:U f){P:Nat}(hP:P<=32)(h:decide (u64.wrap f<u64.wrap (P:Int))=true):0<=f/\f<P:=by
 have h:=oY h
 obtain⟨h1,h2⟩:=hf
 rw[wrap_u64,wrap_u64,dM h1 (by omega),dM (by omega) (by omega)]at h
 exact⟨h1,h⟩
theorem Zp8{P:Nat}{m:List Int}(h:ek P m){d:fp}(hd:ox d)(e:gx):(K5 d m e).w (λr=>ox r.1/\ek P r.2.1/\out d.B2 m r.2.1/\(r.2.2=false->r.2.1=m)/\(∀p,ki d p=true->ki r.1 p=true)):=by
 have gm:jC m=m:=rfl
 have cr:∀b:Bool,ox d/\ek P m/\out d.B2 m m/\(b=false->m=m)/\(∀p,ki d p=true->ki d p=true):=λb=>⟨hd,h,K3 _ _,λ_=>rfl,λ_ h=>h⟩
 have GG:∀{p:Int},ki d p=true->decide (d.ag>64)=false:=fun{p} hm=>by
  cases hb:decide (d.ag>64)
  ·rfl
  ·have:ki d p=false:=by simp only[ki,wC,Tree.m];rw[hb];rfl
   rw[this]at hm;cases hm
 have m2:∀p,ki d p=true->ki {ag:=d.ag,C1:=d.C1,Frame:=d.Frame,B7:=2,D5:=0,B6:=0,B2:=0,B8:=[]} p=true:=λp hm=>by
  simp only[ki,wC,Tree.m];rw[GG hm];rfl
 have m3:∀p,ki d p=true->ki {ag:=d.ag,C1:=d.C1,Frame:=d.Frame,B7:=3,D5:=0,B6:=0,B2:=0,B8:=[]} p=true:=λp hm=>by
  simp only[ki,wC,Tree.m];rw[GG hm];rfl
 unfold K5
 refine aa (λ_=>cz (rR h) (ar λx hx=>by rw[gm]at hx;subst hx;exact cr _)) λ_=>aa (λ_=>cz (rR h) (ar λx hx=>by rw[gm]at hx;subst hx;exact cr _)) λ_=>aa (λ_=>cz (rR h) (ar λx hx=>by rw[gm]at hx;subst hx;exact cr _)) λ_=>cz (rR h) (ar λx3 DK=>?_)
 rw[gm]at DK;subst DK
 have fin:∀{m':List Int},ek P m'->out d.B2 x3 m'->(Tree.br (e.N==1) (.lf (({ag:=d.ag,C1:=d.C1,Frame:=d.Frame,B7:=2,D5:=0,B6:=0,B2:=0,B8:=[]}:fp),m',true)) (.lf (({ag:=d.ag,C1:=d.C1,Frame:=d.Frame,B7:=3,D5:=0,B6:=0,B2:=0,B8:=[]}:fp),m',true))).w (λr=>ox r.1/\ek P r.2.1/\out d.B2 x3 r.2.1/\(r.2.2=false->r.2.1=x3)/\(∀p,ki d p=true->ki r.1 p=true)):=λhm ho=>
  aa (λ_=>⟨⟨hd.block,hd.frame,ej,ej⟩,hm,ho,(λh=>by cases h),m2⟩) (λ_=>⟨⟨hd.block,hd.frame,ej,ej⟩,hm,ho,(λh=>by cases h),m3⟩)
 have nod:(Tree.br (!decide (e.C9=[])) (.lf (d,x3,false)) (Tree.br (e.N==1) (.lf (({ag:=d.ag,C1:=d.C1,Frame:=d.Frame,B7:=2,D5:=0,B6:=0,B2:=0,B8:=[]}:fp),x3,true)) (.lf (({ag:=d.ag,C1:=d.C1,Frame:=d.Frame,B7:=3,D5:=0,B6:=0,B2:=0,B8:=[]}:fp),x3,true)))).w (λr=>ox r.1/\ek P r.2.1/\out d.B2 x3 r.2.1/\(r.2.2=false->r.2.1=x3)/\(∀p,ki d p=true->ki r.1 p=true)):=
  aa (λ_=>cr _) (λ_=>fin h (K3 _ _))
 refine aa (λ_=>aa (λ_=>ar λx4 NZ=>aa (λ_=>cr _) λhb=>?_) (λ_=>nod)) (λ_=>nod)
 have hp:=rQ h
 have hb:x4=true:=by simpa using hb
 rw[hb]at NZ
 simp only[IT,N0,Tree.m,dd,hp]at NZ
 obtain⟨f0,f1⟩:=Tf hd.ib h.p2 NZ.symm
 have ef:i64.wrap d.B2=d.B2:=by have:=h.p2;rw[wrap_i64];omega
 refine bm (WY h _ _) λx5 ⟨h5,o5,k5⟩=>?_
 rw[ef]at o5
 exact aa (λhf=>⟨hd,h5,o5,λ_=>k5 (by simpa using hf),λ_ h=>h⟩) (λ_=>fin h5 o5)
theorem xg{P:Nat}{m:List Int}(h:ek P m){n:ia}(hn:pq n)(frame:List UInt8):(K6 n m frame).w (λr=>pq r.1/\ek P r.2.1/\out n.B9 m r.2.1/\(r.2.2=false->r.2.1=m)/\(∀p,pr n p=true->pr r.1 p=true)):=by
 have gm:jC m=m:=rfl
 have cr:pq n/\ek P m/\out n.B9 m m/\(false=false->m=m)/\(∀p,pr n p=true->pr n p=true):=⟨hn,h,K3 _ _,λ_=>rfl,λ_ h=>h⟩
 unfold K6
 refine aa (λ_=>cz (rR h) (ar λx hx=>by rw[gm]at hx;subst hx;exact cr)) λhpo=>aa (λ_=>cz (rR h) (ar λx hx=>by rw[gm]at hx;subst hx;exact cr)) λl1=>aa (λ_=>cz (rR h) (ar λx hx=>by rw[gm]at hx;subst hx;exact cr)) λl2=>ar λx3 DK=>aa (λ_=>cz (rR h) (ar λx hx=>by rw[gm]at hx;subst hx;exact cr)) λhb=>?_
 have l1:=oN l1
 have l2:=oN l2
 have hp:=rQ h
 have hb:x3=true:=by simpa using hb
 rw[hb]at DK
 simp only[Qa,N1,Tree.m,dd,hp]at DK
 obtain⟨f0,f1⟩:=Tf hn.buffer h.p2 DK.symm
 have ef:i64.wrap n.B9=n.B9:=by have:=h.p2;rw[wrap_i64];omega
 refine bm (W0 h _) λx5 h5=>?_
 rw[ef]at h5
 have h5:=h5 f0 f1
 have Cb:(maxLen:Nat)=9223372036854775807:=rfl
 refine ba (dY (by omega)) (ba (dY (by simp only[bD,bF,Cb];omega)) (bm (WY h _ _) λx6 ⟨h6,o6,_⟩=>?_))
 rw[ef]at o6
 have hg:u32.wrap (frame.length:Int)=frame.length:=by rw[wrap_u32];omega
 refine⟨⟨hn.frame,hn.len,ej,fi _⟩,h6,o6,(λh=>by cases h),λp _=>?_⟩
 simp only[pr,K7,Tree.m]
 rw[hg,dY (show(frame.length:Int)>=1 by omega),dY (show(frame.length:Int)<=128 by omega)]
 rfl
theorem xaj(c:iT)(b:Int):(N2 c b).w (λr=>tB c=true->tB r.1=true):=by
 have Cb:(maxLen:Nat)=9223372036854775807:=rfl
 unfold N2
 refine aa (λ_=>λh=>h) (λhb=>?_)
 have hb:=oN hb
 refine ba (dY (by rw[Cb];omega)) ?_
 intro _
 show decide (((c.D1++[_]).length:Int)<=16)=true
 rw[lA,cZ]
 exact dY (by omega)
theorem yI(t:iU)(h:tC t=true):tC (Tg t).1=true:=by
 simp only[Tg,W3,Tree.m]
 cases ha:t.D4
 ·exact h
 ·rfl
theorem zg(m:au):sH m=(tB m.A3&&(tC m.A9&&(ki m.A7 (lR m.Mem)&&(pr m.C3 (lR m.Mem)&&uk m.A2 (lR m.Mem))))):=by
 simp only[sH,DO,Tree.m,dd]
 cases tB m.A3<;>cases tC m.A9<;>cases ki m.A7 (lR m.Mem)<;>cases pr m.C3 (lR m.Mem)<;>rfl
theorem qaF{b c:gv}(h:c.C2=b.C2)(p:Int):uk c p=uk b p:=by
 simp only[uk,GH,Tree.m,h]
theorem IU{a x y:Bool}(h:x=true->y=true):(bif a then false else x)=true->(bif a then false else y)=true:=by cases a<;>simp_all
def chain(b1 b2 b3 b4 b5 b6 b7 w h dev:Bool):Bool:=bif b1 then false else bif b2 then false else bif b3 then false else bif b4 then false else bif b5 then false else bif b6 then false else bif b7 then false else bif w then(bif h then false else dev)else dev
theorem Zo1{b1 b2 b3 b4 b5 b6 b7 w h d d':Bool}(hd:d=true->d'=true):chain b1 b2 b3 b4 b5 b6 b7 w h d=true->chain b1 b2 b3 b4 b5 b6 b7 w h d'=true:=by
 refine IU (IU (IU (IU (IU (IU (IU ?_))))))
 cases w
 ·exact hd
 ·cases h
  ·exact hd
  ·exactλh=>h
def Fj(p:Int)(c:bh)(ct:Int)(w h dev:Bool):Bool:=chain (p==0) (c.X.a0 !=0) (decide (c.B4.a0>31)) (decide (c.B4.a7>31)) (decide (c.B4.a6>255)) (dE c.B4.a1 4 !=0) (decide (ct>1152921504606846976)) w h dev
theorem yg{p:Int}{c:bh}{ct:Int}{w h d d':Bool}(hd:d=true->d'=true)(g:Fj p c ct w h d=true):Fj p c ct w h d'=true:=Zo1 hd g
theorem zX(m:au):mZ m=Fj (lR m.Mem) m.B1 m.A1 m.A4 m.A6 (sH m):=rfl
theorem N3{m n:au}(hp:lR n.Mem=lR m.Mem)(W4:n.B1=m.B1)(N4:n.A1=m.A1)(hw:n.A4=m.A4)(hh:n.A6=m.A6)
 (hc:tB m.A3=true->tB n.A3=true) (ht:tC m.A9=true->tC n.A9=true) (hd:∀p,ki m.A7 p=true->ki n.A7 p=true) (hn:∀p,pr m.C3 p=true->pr n.C3 p=true) (hb:n.A2.C2=m.A2.C2) (h:mZ m=true):mZ n=true:=by
 have dev:sH m=true->sH n=true:=λh=>by
  rw[zg]at h⊢
  simp only[aE]at h⊢
  rw[hp,qaF hb]
  exact⟨hc h.1,ht h.2.1,hd _ h.2.2.1,hn _ h.2.2.2.1,h.2.2.2.2⟩
 rw[zX]at h⊢
 rw[hp,W4,N4,hw,hh]
 exact yg dev h
section
variable {P:Nat} {m:List Int} (h:ek P m)
include h
theorem N5{f:Int}(hf:U f){b:Bool}(hx:b=IT m f)(hb:b=true):0<=f/\f<P:=by
 have hp:=rQ h
 rw[hb]at hx
 simp only[IT,N0,Tree.m,dd,hp]at hx
 exact Tf hf h.p2 hx.symm
theorem GI{f:Int}(hf:U f){b:Bool}(hx:b=Qa m f)(hb:b=true):0<=f/\f<P:=by
 have hp:=rQ h
 rw[hb]at hx
 simp only[Qa,N1,Tree.m,dd,hp]at hx
 exact Tf hf h.p2 hx.symm
def sI(P:Nat)(d d':fp):Prop:=ox d'/\(ki d P=true->ki d' P=true)
theorem vg{d:fp}(hd:ox d){cmd:Int}(hc:cmd=1\/cmd=2)(dh:Int):(K8 d m cmd dh).w (λr=>sI P d r.1/\r.2.length<=1):=by
 have h2:=h.p2
 have st3:(d.B7 !=0)=false->sI P d {ag:=d.ag,C1:=d.C1,Frame:=d.Frame,B7:=3,D5:=d.D5,B6:=d.B6,B2:=d.B2,B8:=d.B8}:=λhs=>by
  have hs:d.B7=0:=by simpa using hs
  refine⟨⟨hd.block,hd.frame,hd.kj,hd.ib⟩,λhm=>?_⟩
  simp only[ki,wC,Tree.m,hs]at hm⊢
  exact hm
 have GG:ki d P=true->decide (d.ag>64)=false:=λhm=>by
  cases hb:decide (d.ag>64)
  ·rfl
  ·have:ki d P=false:=by simp only[ki,wC,Tree.m];rw[hb];rfl
   rw[this]at hm;cases hm
 unfold K8
 refine aa (λ_=>⟨⟨hd,λh=>h⟩,aT _⟩) λhs=>aa (λ_=>⟨st3 hs,aT _⟩) λhb=>ar λx0 hx=>aa (λ_=>⟨st3 hs,aT _⟩) λhp=>?_
 have hb:=oN hb
 obtain⟨f0,f1⟩:=N5 h hd.frame hx (by simpa using hp)
 have ef:i64.wrap d.Frame=d.Frame:=by rw[wrap_i64];omega
 have e1:decide (d.C1<d.ag)=true:=dY (by omega)
 have e2:decide (i64.wrap d.Frame<(P:Int))=true:=by rw[ef];exact dY f1
 refine aa (λAw=>bm (W0 h _) λx1 h1=>?_) (λAw=>?_)
 ·rw[ef]at h1
  have h1:=h1 f0 f1
  have Aw:=eq_of_beq Aw
  subst Aw
  refine ar λx2 _=>⟨⟨⟨hd.block,hd.frame,hd.block,hd.frame⟩,λhm=>?_⟩,aO _⟩
  simp only[ki,wC,N6,IV,Tree.m,dd,GG hm,e1,e2,h1]
  rfl
 ·have hc:cmd=1:=by
   rcases hc with h|h
   ·exact h
   ·rw[h]at Aw;exact absurd Aw (by decide)
  subst hc
  refine ar λx2 _=>⟨⟨⟨hd.block,hd.frame,hd.block,hd.frame⟩,λhm=>?_⟩,aO _⟩
  simp only[ki,wC,N6,IV,Tree.m,dd,GG hm,e1,e2]
  rfl
theorem qak{d:fp}(hd:ox d)(port:Int){v:Int}(hv:U v)(dh:Int):(K9 d m port v dh).w (λr=>sI P d r.1/\r.2.length<=1):=by
 have cr:sI P d d:=⟨hd,λh=>h⟩
 have e1:∀{k:Int},(v==k)=true->i64.wrap v=k:=λhk=>by
  have:=eq_of_beq hk
  obtain⟨a,b⟩:=hv
  rw[wrap_i64];omega
 unfold K9
 refine aa (λ_=>⟨⟨⟨hv,hd.frame,hd.kj,hd.ib⟩,λh=>h⟩,aT _⟩) λ_=>aa (λ_=>⟨⟨⟨hd.block,hv,hd.kj,hd.ib⟩,λh=>h⟩,aT _⟩) λ_=>aa (λ_=>aa (λhk=>bm (vg h hd (.inl (e1 hk)) _) λx hx=>hx) λ_=>aa (λhk=>bm (vg h hd (.inr (e1 hk)) _) λx hx=>hx) λ_=>aa (λ_=>ar λx hx=>aa (λhb=>?_) (λ_=>⟨cr,aT _⟩)) (λ_=>⟨cr,aT _⟩)) (λ_=>⟨cr,aT _⟩)
 refine⟨⟨⟨hd.block,hd.frame,hd.kj,hd.ib⟩,λhm=>?_⟩,aT _⟩
 rw[hb]at hx
 simp only[La,W5,Tree.m]at hx
 cases h2:d.B7==2
 ·rw[h2]at hx
  have h3:d.B7=3:=eq_of_beq hx.symm
  simp only[ki,wC,Tree.m,h3]at hm⊢
  exact hm
 ·have h3:d.B7=2:=eq_of_beq h2
  simp only[ki,wC,Tree.m,h3]at hm⊢
  exact hm
def Cf(P:Nat)(n n':ia):Prop:=pq n'/\(pr n P=true->pr n' P=true)
theorem zaF{n:ia}(hn:pq n)(dh:Int):(Lb n m dh).w (λr=>r.length<=1):=by
 have h2:=h.p2
 unfold Lb
 refine aa (λ_=>aT _) λl1=>aa (λ_=>aT _) λl2=>ar λx0 hx=>aa (λ_=>aT _) λhp=>bm (W0 h _) λx1 h1=>?_
 have l1:=oN l1
 have l2:=oN l2
 obtain⟨f0,f1⟩:=GI h hn.frame hx (by simpa using hp)
 have ef:i64.wrap n.Frame=n.Frame:=by rw[wrap_i64];omega
 rw[ef]at h1
 have h1:=h1 f0 f1
 exact ba (dY (by omega)) (aO _)
theorem xaF{n:ia}(hn:pq n)(port:Int){v:Int}(hv:U v)(dh:Int):(Lc n m port v dh).w (λr=>Cf P n r.1/\r.2.length<=1):=by
 have h2:=h.p2
 have cr:Cf P n n:=⟨hn,λh=>h⟩
 unfold Lc
 refine aa (λ_=>⟨⟨⟨hv,hn.len,hn.buffer,hn.GJ⟩,λh=>h⟩,aT _⟩) λ_=>aa (λ_=>⟨⟨⟨hn.frame,hv,hn.buffer,hn.GJ⟩,λh=>h⟩,aT _⟩) λ_=>aa (λ_=>aa (λ_=>bm (zaF h hn _) λx hx=>⟨cr,hx⟩) λ_=>aa (λ_=>ar λx hx=>aa (λhb=>aa (λnp=>aa (λnr=>?_) (λ_=>⟨cr,aT _⟩)) (λ_=>⟨cr,aT _⟩)) (λ_=>⟨cr,aT _⟩)) λ_=>aa (λ_=>?_) (λ_=>⟨cr,aT _⟩)) (λ_=>⟨cr,aT _⟩)
 ·obtain⟨f0,f1⟩:=GI h hn.frame hx hb
  have np:n.C5=false:=by simpa using np
  have nr:n.B5=false:=by simpa using nr
  have e2:decide (i64.wrap n.Frame>=(P:Int))=false:=dN (by rw[wrap_i64];omega)
  refine⟨⟨⟨hn.frame,hn.len,hn.frame,hn.GJ⟩,λhm=>?_⟩,aT _⟩
  simp only[pr,K7,Tree.m,np,nr,e2]at hm⊢
  cases hb:(n.B9 !=0)
  ·rw[hb]at hm;exact hm
  ·rw[hb]at hm;cases hm
 ·refine⟨⟨⟨hn.frame,hn.len,hn.buffer,ej⟩,λhm=>?_⟩,aT _⟩
  simp only[pr,K7,Tree.m]at hm⊢
  revert hm
  cases n.C5<;>cases n.B5<;>cases decide (i64.wrap n.B9>=(P:Int))<;>cases(n.B9 !=0)<;>simp
end
theorem zak(t:iU)(v:Int):tC (N7 t v)=true:=by
 simp only[N7,Th,tC,Ti,Tree.m]
 cases h:(v !=0)
 ·have:v=0:=by simpa using h
  subst this;rfl
 ·rfl
theorem DP{a:Int}(k:Nat)(hk:k<=32):bg .u32 a k=a/2^k:=by
 unfold bg
 have e:min (k:Int).toNat u32.bits=k:=by show min (k:Int).toNat 32=k;omega
 have hp:(0:Int)<2^k:=dO (by decide)
 rw[e,dP _ (dQ hp)]
def Zq(x:Int)(n:Nat):Prop:=x<2^n/\(n=0\/(2:Int)^(n-1)<=x)
theorem W6{x q:Int}{n k:Nat}(hq:q=x/2^k)(h0:0<q)(h:Zq q n):Zq x (n+k):=by
 have hp:(0:Int)<2^k:=dO (by decide)
 obtain⟨h1,h2⟩:=h
 have hn:n≠0:=λe=>by subst e;simp at h1;omega
 refine⟨?_,.inr ?_⟩
 ·rw[dR]
  have:x<(x/2^k+1)*2^k:=Int.lt_ediv_add_one_mul_self x hp
  have h3:(x/2^k+1)*2^k<=2^n*2^k:=dS (by omega) (dQ hp)
  omega
 ·have h2:=h2.resolve_left hn
  have e:n+k-1=(n-1)+k:=by omega
  rw[e,dR]
  have h3:(2:Int)^(n-1)*2^k<=q*2^k:=dS h2 (dQ hp)
  have h4:q*2^k<=x:=by rw[hq];exact Int.ediv_mul_le x (Int.ne_of_gt hp)
  omega
theorem vI{x:Int}{n p:Nat}(h:Zq x n)(hx:x<2^p):n<=p:=by
 obtain⟨h1,h2⟩:=h
 rcases h2 with h2|h2
 ·omega
 ·rcases Nat.lt_or_ge p n with cf|pJ
  ·have:(2:Int)^p<=2^(n-1):=by
    have:=dT (show 0<2 by omega) (show p<=n-1 by omega)
    exact_mod_cast this
   omega
  ·exact pJ
theorem Zky{x:Int}{n p:Nat}(h:Zq x n)(hn:n<=p):x<2^p:=by
 have:(2:Int)^n<=2^p:=by
  have:=dT (show 0<2 by omega) hn
  exact_mod_cast this
 exact Int.lt_of_lt_of_le h.1 this
def Cg(i:Nat):Bool:=match(wD (i:Int))with
 |.ofNat n=>decide ((i:Int)<2^n)&&(Nat.beq n 0||decide ((2:Int)^(n-1)<=i))&&decide (n<=8)
 |_=>false
theorem Tj{q:Int}(h0:0<=q)(h1:q<256):∃n:Nat,wD q=n/\Zq q n/\n<=8:=by
 have all:List.all (dD 256) Cg=true:=by kernel_rfl
 have:=List.all_eq_true.1 all q.toNat (List.mem_range.2 (by omega))
 have hq:((q.toNat:Nat):Int)=q:=by omega
 unfold Cg at this
 rw[hq]at this
 split at this
 ·rename_i n hn
  simp only[aE,aI,decide_eq_true_eq]at this
  refine⟨n,hn,⟨this.1.1,?_⟩,this.2⟩
  rcases this.1.2 with h|h
  ·exact .inl (bE h)
  ·exact .inr h
 ·cases this
theorem qaG{x:Int}(h:U x)(hx:16777216<=x):wD x=24+wD (x/16777216):=by
 obtain⟨h0,h1⟩:=h
 have Bk:bg .u32 x 16=x/65536:=DP 16 (by omega)
 have um:bg .u32 (x/65536) 8=x/16777216:=by rw[show((8:Int))=((8:Nat):Int) from rfl,DP 8 (by omega)];omega
 have d1:decide (x>=65536)=true:=dY (by omega)
 have d2:decide (x/65536>=256)=true:=dY (by omega)
 have d3:decide (x/16777216>=65536)=false:=dN (by omega)
 have d4:decide (x/16777216>=256)=false:=dN (by omega)
 have u:u8.wrap (x/16777216)=x/16777216:=by rw[wrap_u8];omega
 simp only[wD,DQ,Tree.m,Bk,um,d1,d2,d3,d4,u,cond_true,cond_false]
 generalize(aK _ (dF (x/16777216)) (0:UInt8))=b
 have hb:=dU b
 rw[wrap_i64,wrap_i64,wrap_i64,wrap_i64]
 omega
theorem zaG{x:Int}(h0:65536<=x)(h1:x<16777216):wD x=16+wD (x/65536):=by
 have Bk:bg .u32 x 16=x/65536:=DP 16 (by omega)
 have d1:decide (x>=65536)=true:=dY (by omega)
 have d2:decide (x/65536>=256)=false:=dN (by omega)
 have d3:decide (x/65536>=65536)=false:=dN (by omega)
 have u:u8.wrap (x/65536)=x/65536:=by rw[wrap_u8];omega
 simp only[wD,DQ,Tree.m,Bk,d1,d2,d3,u,cond_true,cond_false]
 generalize(aK _ (dF (x/65536)) (0:UInt8))=b
 have hb:=dU b
 rw[wrap_i64,wrap_i64,wrap_i64]
 omega
theorem N8{x:Int}(h0:256<=x)(h1:x<65536):wD x=8+wD (x/256):=by
 have s8:bg .u32 x 8=x/256:=DP 8 (by omega)
 have d1:decide (x>=65536)=false:=dN (by omega)
 have d2:decide (x>=256)=true:=dY (by omega)
 have d3:decide (x/256>=65536)=false:=dN (by omega)
 have d4:decide (x/256>=256)=false:=dN (by omega)
 have u:u8.wrap (x/256)=x/256:=by rw[wrap_u8];omega
 simp only[wD,DQ,Tree.m,s8,d1,d2,d3,d4,u,cond_true,cond_false]
 generalize(aK _ (dF (x/256)) (0:UInt8))=b
 have hb:=dU b
 rw[wrap_i64,wrap_i64,wrap_i64,wrap_i64]
 omega
theorem Zom{x:Int}(h:U x):∃n:Nat,wD x=n/\Zq x n:=by
 obtain⟨h0,h1⟩:=h
 rcases dV x 256 with a|a
 ·obtain⟨n,e,l,_⟩:=Tj h0 a
  exact⟨n,e,l⟩
 ·rcases dV x 65536 with b|b
  ·obtain⟨n,e,l,_⟩:=Tj (q:=x/256) (by omega) (by omega)
   exact⟨n+8,by rw[N8 a b,e];omega,W6 (k:=8) rfl (by omega) l⟩
  ·rcases dV x 16777216 with c|c
   ·obtain⟨n,e,l,_⟩:=Tj (q:=x/65536) (by omega) (by omega)
    exact⟨n+16,by rw[zaG b c,e];omega,W6 (k:=16) rfl (by omega) l⟩
   ·obtain⟨n,e,l,_⟩:=Tj (q:=x/16777216) (by omega) (by omega)
    exact⟨n+24,by rw[qaG ⟨h0,h1⟩ c,e];omega,W6 (k:=24) rfl (by omega) l⟩
theorem N9{b:gv}(h:U b.C2){P:Nat}:uk b P=true↔b.C2<2^P:=by
 obtain⟨n,e,l⟩:=Zom h
 have hp:(if(0:Int)>(P:Int)then(0:Int)else P)=P:=by rw[if_neg (by omega)]
 simp only[uk,GH,Tree.m,dd,e,hp,decide_eq_true_eq]
 constructor
 ·intro h;exact Zky l (by omega)
 ·intro h;have:=vI l h;omega
theorem W7{a:Int}(h:U a){P:Nat}(h1:a<2^P):(dW 32 a).toNat<2^P:=by
 obtain⟨a0,a1⟩:=h
 rw[dX,dM a0 (by omega)]
 have:((2^P:Nat):Int)=(2:Int)^P:=by exact_mod_cast rfl
 omega
theorem Oa{a b:Int}(ha:U a)(hb:U b){P:Nat}(hP:P<=32)(h1:a<2^P)(h2:b<2^P):iq .u32 a b<2^P:=by
 have e:(dW 32 a|||dW 32 b).toNat<2^P:=by
  rw[dZ]
  exact Nat.or_lt_two_pow (W7 ha h1) (W7 hb h2)
 have hc:((2^P:Nat):Int)=(2:Int)^P:=by exact_mod_cast rfl
 have l:=(dW 32 a|||dW 32 b).isLt
 show wrap .u32 ((dW 32 a|||dW 32 b).toNat:Int)<2^P
 rw[wrap_u32]
 omega
theorem xak{a b:Int}(ha:U a){P:Nat}(h1:a<2^P):nQ .u32 a b<2^P:=by
 have e:(dW 32 a&&&~~~dW 32 b).toNat<2^P:=by
  rw[eA]
  exact Nat.lt_of_le_of_lt eB (W7 ha h1)
 have hc:((2^P:Nat):Int)=(2:Int)^P:=by exact_mod_cast rfl
 have l:=(dW 32 a&&&~~~dW 32 b).isLt
 show wrap .u32 ((dW 32 a&&&~~~dW 32 b).toNat:Int)<2^P
 rw[wrap_u32]
 omega
theorem qh{v:Int}(h0:0<=v)(h1:v<32):eg .u32 1 v=2^v.toNat:=by
 have e:min v.toNat u32.bits=v.toNat:=by show min v.toNat 32=v.toNat;omega
 obtain⟨n,rfl⟩:∃n:Nat,v=n:=⟨v.toNat,by omega⟩
 have hn:n<32:=by omega
 have cf:(2:Nat)^n<4294967296:=by
  have:=eC (show 1<2 by omega) hn
  simpa using this
 have hc:((2^n:Nat):Int)=(2:Int)^n:=by exact_mod_cast rfl
 unfold eg
 rw[e,wrap_u32,Int.one_mul,eD,<-hc]
 clear hc e
 generalize(2:Nat)^n=z at*
 omega
def Ch(P:Nat)(b b':gv):Prop:=okB b'/\(uk b P=true->uk b' P=true)
theorem Zog{P:Nat}{m:List Int}(h:ek P m){b:gv}(hb:okB b)(port:Int){v:Int}(hv:U v):(DR b m port v).w (λr=>Ch P b r.1/\ek P r.2):=by
 have gm:jC m=m:=rfl
 have h2:=h.p2
 have hp:=rQ h
 have cr:(Tree.an (mJ m) (.lv (jC m) λx=>.lf (b,x))).w (λr=>Ch P b r.1/\ek P r.2):=cz (rR h) (ar λx hx=>by rw[gm]at hx;subst hx;exact⟨⟨hb,λh=>h⟩,h⟩)
 unfold DR
 refine aa (λ_=>cr) λcf=>ba (dY hv.1) (aa (λ_=>ar λx1 hx=>aa (λIW=>aa (λ_=>cz ⟨by decide,by decide,by decide⟩ (ar λx2 _=>bm (WY h _ _) λx3 ⟨h3,_⟩=>?_)) (λ_=>cr)) (λ_=>cr)) (λ_=>aa (λ_=>cz (rR h) (ar λx hx=>?_)) (λ_=>cr)))
 ·have cf:=oN cf
  have IW:=oY IW
  rw[hx,hp]at IW
  obtain⟨v0,v1⟩:=hv
  have ev:i64.wrap v=v:=by rw[wrap_i64];omega
  rw[ev]at IW
  refine⟨⟨⟨hb.1,fi _⟩,λhm=>?_⟩,h3⟩
  rw[N9 hb.2]at hm
  rw[N9 (fi _)]
  have hs:eg .u32 1 v<2^P:=by
   rw[qh v0 (by omega)]
   have:=eC (show 1<2 by omega) (show v.toNat<P by omega)
   exact_mod_cast this
  exact Oa hb.2 (fi _) h2 hm hs
 ·rw[gm]at hx;subst hx
  refine⟨⟨⟨hb.1,fi _⟩,λhm=>?_⟩,h⟩
  rw[N9 hb.2]at hm
  rw[N9 (fi _)]
  exact xak hb.2 hm
structure kept(P:Nat)(m n:au):Prop where
 ok:rj P n
 dev:sH m=true->sH n=true
 lY:n.B1=m.B1
 lS:n.A1=m.A1
 wait:n.A4=m.A4
 halt:n.A6=m.A6
theorem Zeo{P:Nat}{m:au}(h:rj P m):kept P m m:=⟨h,λh=>h,rfl,rfl,rfl,rfl⟩
theorem Ld{P:Nat}{m n:au}(hm:ek P m.Mem)(hn:ek P n.Mem)(hc:tB m.A3=true->tB n.A3=true)(ht:tC m.A9=true->tC n.A9=true)
 (hd:ki m.A7 P=true->ki n.A7 P=true) (hk:pr m.C3 P=true->pr n.C3 P=true) (hb:uk m.A2 P=true->uk n.A2 P=true) (h:sH m=true):sH n=true:=by
 rw[zg]at h⊢
 rw[rQ hm]at h
 rw[rQ hn]
 simp only[aE]at h⊢
 exact⟨hc h.1,ht h.2.1,hd h.2.2.1,hk h.2.2.2.1,hb h.2.2.2.2⟩
theorem Zit{P:Nat}{m:au}(h:rj P m)(port:Int){v:Int}(hv:U v)(dh:Int):(Le m port v dh).w (λr=>kept P m r.1/\r.2.length<=1):=by
 have k:=Zeo h
 obtain⟨h1,h2,h3,h4,h5,h6⟩:=h
 have id:∀{p:Prop},p->p:=λh=>h
 have D:∀(x:fp×List dx),(sI P m.A7 x.1/\x.2.length<=1)->kept P m {B1:=m.B1,Mem:=m.Mem,A3:=m.A3,A9:=m.A9,A7:=x.1,C3:=m.C3,A2:=m.A2,A1:=m.A1,A4:=m.A4,A6:=m.A6}/\x.2.length<=1:=λx hx=>
  ⟨⟨⟨h1,h2,hx.1.1,h4,h5,h6⟩,Ld h2 h2 id id hx.1.2 id id,rfl,rfl,rfl,rfl⟩,hx.2⟩
 have N:∀(x:ia×List dx),(Cf P m.C3 x.1/\x.2.length<=1)->kept P m {B1:=m.B1,Mem:=m.Mem,A3:=m.A3,A9:=m.A9,A7:=m.A7,C3:=x.1,A2:=m.A2,A1:=m.A1,A4:=m.A4,A6:=m.A6}/\x.2.length<=1:=λx hx=>
  ⟨⟨⟨h1,h2,h3,hx.1.1,h5,h6⟩,Ld h2 h2 id id id hx.1.2 id,rfl,rfl,rfl,rfl⟩,hx.2⟩
 have B:∀(x:gv×List Int),(Ch P m.A2 x.1/\ek P x.2)->kept P m {B1:=m.B1,Mem:=x.2,A3:=m.A3,A9:=m.A9,A7:=m.A7,C3:=m.C3,A2:=x.1,A1:=m.A1,A4:=m.A4,A6:=m.A6}/\([]:List dx).length<=1:=λx hx=>
  ⟨⟨⟨h1,hx.2,h3,h4,hx.1.1.1,hx.1.1.2⟩,Ld h2 hx.2 id id id id hx.1.2,rfl,rfl,rfl,rfl⟩,aT _⟩
 unfold Le
 repeat'(first
  |exact⟨k,aO _⟩
  |exact⟨k,aT _⟩
  |exact ar λx hx=>⟨⟨⟨h1,h2,h3,h4,h5,h6⟩,Ld h2 h2 id (λ_=>by rw[hx];exact zak _ _) id id id,rfl,rfl,rfl,rfl⟩,aT _⟩
  |exact bm (qak h2 h3 _ hv _) λx hx=>D x hx
  |exact bm (xaF h2 h4 _ hv _) λx hx=>N x hx
  |exact bm (Zog h2 ⟨h5,h6⟩ _ hv) λx hx=>B x hx
  |refine aa (λ_=>?_) (λ_=>?_))
theorem Z8k(c:iT)(port:Int):(IX c port).w (λr=>U r.2/\(tB c=true->tB r.1=true)):=by
 have u1:U 4294967295:=⟨by omega,by omega⟩
 unfold IX
 refine aa (λ_=>aa (λ_=>⟨u1,λh=>h⟩) (λhb=>ba ?_ (ba ?_ ⟨fi _,λhm=>?_⟩))) (λ_=>aa (λ_=>⟨fi _,λh=>h⟩) (λ_=>⟨ej,λh=>h⟩))
 ·have hb:=oN hb
  have:0<c.D1.length:=List.length_pos_iff.2 hb
  simp[bJ];omega
 ·have hb:=oN hb
  have:0<c.D1.length:=List.length_pos_iff.2 hb
  exact dY (by omega)
 ·have hm:decide ((c.D1.length:Int)<=16)=true:=hm
  have hm:=oY hm
  show decide (((dB _ (dC _ c.D1)).length:Int)<=16)=true
  refine dY ?_
  rw[bD,bF];omega
theorem Zo2{P:Nat}{m:au}(h:rj P m)(port:Int){clock:Int}(hc:U clock):(Lf m port clock).w (λr=>kept P m r.1/\U r.2):=by
 have k:=Zeo h
 obtain⟨h1,h2,h3,h4,h5,h6⟩:=h
 have id:∀{p:Prop},p->p:=λh=>h
 have ti:∀t,U (W8 t):=λt=>by
  refine Tree.post (Tk t) (W:=U) ?_
  unfold Tk
  exact aa (λ_=>⟨by omega,by omega⟩) (λ_=>ej)
 have di:∀p,U (Ob m.A7 p):=λp=>by
  refine Tree.post (Tl m.A7 p) (W:=U) ?_
  unfold Tl
  exact aa (λ_=>h3.block) (λ_=>aa (λ_=>h3.frame) (λ_=>aa (λ_=>fi _) (λ_=>ej)))
 have ni:∀p,U (Lg m.C3 p):=λp=>by
  refine Tree.post (Oc m.C3 p) (W:=U) ?_
  unfold Oc
  exact aa (λ_=>h4.frame) (λ_=>aa (λ_=>h4.GJ) (λ_=>aa (λ_=>aa (λ_=>aa (λ_=>fi _) (λ_=>fi _)) (λ_=>aa (λ_=>fi _) (λ_=>ej))) (λ_=>ej)))
 have bi:∀p,(Lh m.A2 p).w U:=λp=>by
  unfold Lh
  exact aa (λ_=>h5) (λ_=>aa (λ_=>bm (Zn2 h6) λ_ _=>fi _) (λ_=>ej))
 have C:∀(x:iT×Int),(U x.2/\(tB m.A3=true->tB x.1=true))->kept P m {B1:=m.B1,Mem:=m.Mem,A3:=x.1,A9:=m.A9,A7:=m.A7,C3:=m.C3,A2:=m.A2,A1:=m.A1,A4:=m.A4,A6:=m.A6}/\U x.2:=λx hx=>
  ⟨⟨⟨h1,h2,h3,h4,h5,h6⟩,Ld h2 h2 hx.2 id id id id,rfl,rfl,rfl,rfl⟩,hx.1⟩
 unfold Lf
 repeat'(first
  |exact⟨k,hc⟩
  |exact⟨k,ej⟩
  |exact bm (Z8k _ _) λx hx=>C x hx
  |exact ND (Z8k _ _) λx hx=>C x hx
  |exact ar λx hx=>⟨k,by rw[hx];exact ti _⟩
  |exact ar λx hx=>⟨k,by rw[hx];exact di _⟩
  |exact ar λx hx=>⟨k,by rw[hx];exact ni _⟩
  |exact bm (bi _) λx hx=>⟨k,hx⟩
  |refine aa (λ_=>?_) (λ_=>?_))
structure mK(c:bh):Prop where
 x0:c.X.a0=0
 st:c.B4.a0<=31
 en:c.B4.a7<=31
 rt:c.B4.a6<=255
 ve:dE c.B4.a1 4=0
theorem mK.pc{c:bh}(h:mK c)(p:Int):mK {X:=c.X,Pc:=p,B4:=c.B4}:=⟨h.x0,h.st,h.en,h.rt,h.ve⟩
theorem GK(a:Int):bf .u32 a 31<=31:=by
 have e:(dW 32 a&&&dW 32 31).toNat<=31:=by
  rw[eA]
  exact bH Nat.and_le_right (by decide)
 show wrap .u32 ((dW 32 a&&&dW 32 31).toNat:Int)<=31
 rw[wrap_u32];omega
theorem Fl(a:Int):bf .u32 a 255<=255:=by have:=Ci a;omega
theorem Od(a:Int):dE (nQ .u32 a 3) 4=0:=by
 have e:(dW 32 a&&&~~~dW 32 3).toNat%4=0:=by
  rw[eA,show(~~~dW 32 3).toNat=4294967292 by decide]
  have:=Nat.and_mod_two_pow (a:=(dW 32 a).toNat) (b:=4294967292) (n:=2)
  simpa using this
 have l:=(dW 32 a&&&~~~dW 32 3).isLt
 show dE (wrap .u32 ((dW 32 a&&&~~~dW 32 3).toNat:Int)) 4=0
 rw[wrap_u32,eF (by omega)]
 omega
theorem GL{f:Int->Int}(h:(dD 32).all (λn=>decide (f n<=31))=true){s:Int}(h0:0<=s)(h1:s<=31):f s<=31:=by
 have:=List.all_eq_true.1 h s.toNat (List.mem_range.2 (by omega))
 have e:((s.toNat:Nat):Int)=s:=by omega
 rw[e]at this
 exact oY this
theorem IY{c:bh}(h:iw c)(m:mK c)(k b:Int):mK (rk c k b):=
 ⟨m.x0,GL (f:=λs=>nQ .u32 (iq .u32 (AA (AA s 1 8) 2 16) 1) 2) (by kernel_rfl) h.a0.1 m.st,m.en,m.rt,m.ve⟩
theorem Zq9{c:bh}(h:iw c)(m:mK c):mK (Li c):=
 ⟨m.x0,GL (f:=λs=>AA (AA s 8 1) 16 2) (by kernel_rfl) h.a0.1 m.st,m.en,m.rt,m.ve⟩
theorem Lj{c:bh}(m:mK c){r:Int}(hr:0<=r/\r<16)(v:Int):(Fm c r v).w mK:=by
 unfold Fm
 refine aa (λhn=>ba (rc hr) ?_) (λ_=>m)
 have hn:r≠0:=by simpa using hn
 obtain⟨n,e⟩:∃n:Nat,r.toNat=n+1:=⟨r.toNat-1,by omega⟩
 refine⟨?_,m.st,m.en,m.rt,m.ve⟩
 show(iS.of 0 (dG (iS.l c.X) r.toNat v)).a0=0
 rw[e]
 exact m.x0
theorem xh{c:bh}(m:mK c)(k v:Int):(IZ c k v).w mK:=by
 unfold IZ
 refine aa (λhk=>ba (by rw[eq_of_beq hk];decide) ?_) λ_=>aa (λhk=>ba (by rw[eq_of_beq hk];decide) ?_) λ_=>aa (λhk=>ba (by rw[eq_of_beq hk];decide) ?_) λ_=>aa (λhk=>ba (by rw[eq_of_beq hk];decide) ?_) λ_=>aa (λhk=>ba (by rw[eq_of_beq hk];decide) ?_) λ_=>aa (λhk=>ba (by rw[eq_of_beq hk];decide) ?_) λ_=>aa (λhk=>ba (by rw[eq_of_beq hk];decide) ?_) λ_=>aa (λhk=>ba (by rw[eq_of_beq hk];decide) ?_) (λ_=>m)
 all_goals(have hk:=eq_of_beq hk;subst hk)
 ·exact⟨m.x0,GK _,m.en,m.rt,m.ve⟩
 ·exact⟨m.x0,m.st,GK _,m.rt,m.ve⟩
 ·exact⟨m.x0,m.st,m.en,Fl _,m.ve⟩
 ·exact⟨m.x0,m.st,m.en,m.rt,Od _⟩
 ·exact⟨m.x0,m.st,m.en,m.rt,m.ve⟩
 ·exact⟨m.x0,m.st,m.en,m.rt,m.ve⟩
 ·exact⟨m.x0,m.st,m.en,m.rt,m.ve⟩
 ·exact⟨m.x0,m.st,m.en,m.rt,m.ve⟩
section
variable {c:bh} (h:iw c) (m:mK c) {i:gu} (hi:sJ i)
include h m hi
theorem Zji:(Fo c i).w (λr=>mK r.1):=by
 unfold Fo
 refine ba (rc hi.a) (ba (rc hi.b) ?_)
 repeat'(first
  |refine aa (λ_=>?_) (λ_=>?_)
  |exact bm (Lj m hi.a _) λx hx=>hx.pc _
  |exact ar λx _=>aa (λ_=>m.pc _) (λ_=>m.pc _)
  |exact ar λx hx=>by rw[hx];exact IY h m _ _
  |exact ar λx hx=>by rw[hx];exact Zq9 h m
  |exact ba (by have:=hi.jo (by simp_all);simp[bJ];omega) (bm (Lj m hi.a _) λx hx=>hx.pc _)
  |exact bm (xh m _ _) λx hx=>hx.pc _
  |refine ba (rc hi.c) ?_
  |exact bm (Lk _ (h.r _) (fi _)) λy hy=>bm (Lj m hi.a _) λx hx=>hx.pc _
  |exact bm (Lk _ (h.r _) (h.r _)) λy hy=>bm (Lj m hi.a _) λx hx=>hx.pc _
  |refine ey ?_)
 all_goals exact m.pc _
theorem qJ{P:Nat}{mem:List Int}(hm:ek P mem):(I0 c mem i).w (λr=>mK r.1):=by
 have w:=Tm i.Op
 unfold I0
 refine ba (rc hi.b) (ar λx0 h0=>?_)
 rw[<-h0]at w
 refine bm (Oe hm (fi _) w 2) λx1 h1=>aa (λ_=>ar λy hy=>by rw[hy];exact IY h m _ _) (λ_=>ar λx3 h3=>?_)
 rw[h0,<-h3]at w
 exact bm (I1 h1.2 h1.1 w) λx4 h4=>aa (λ_=>bm (W9 h4.1 8) λy hy=>bm (Lj m hi.a _) λx hx=>hx.pc _) (λ_=>bm (Lj m hi.a _) λx hx=>hx.pc _)
theorem zh{P:Nat}{mem:List Int}(hm:ek P mem):(I2 c mem i).w (λr=>mK r.1):=by
 have w:=Tm i.Op
 unfold I2
 refine ba (rc hi.b) (ar λx0 h0=>?_)
 rw[<-h0]at w
 refine bm (Oe hm (fi _) w 3) λx1 h1=>aa (λ_=>ar λy hy=>by rw[hy];exact IY h m _ _) (λ_=>ar λx3 h3=>ba (rc hi.a) ?_)
 rw[h0,<-h3]at w
 exact bm (Tn h1.2 h1.1 w (h.r _)) λx hx=>m.pc _
end
theorem xJ{c:bh}(h:iw c)(m:mK c){P:Nat}{mem:List Int}(hm:ek P mem):(Fp c mem).w (λr=>mK r.1):=by
 unfold Fp
 refine bm (Zd hm h) λx0 h0=>aa (λ_=>ar λy hy=>by rw[hy];exact IY h m _ _) (λ_=>bm (Xa _) λx2 h2=>aa (λ_=>ar λy hy=>by rw[hy];exact IY h m _ _) (λhb=>?_))
 have hi:=h2 (by simpa using hb)
 refine ar λx4 _=>?_
 repeat'(first
  |refine aa (λ_=>?_) (λ_=>?_)
  |exact bm (qJ h m hi h0.2) λx hx=>hx
  |exact bm (zh h m hi h0.2) λx hx=>hx
  |exact bm (Zji h m hi) λx hx=>hx
  |exact ar λy hy=>by rw[hy];exact IY h m _ _
  |refine ar λ_ _=>?_)
theorem Zjh{c:bh}(h:iw c){i:gu}(hi:sJ i):(Fo c i).w (λr=>0<=r.2.D9/\r.2.D9<16):=by
 have z:(0:Int)<=0/\(0:Int)<16:=⟨by decide,by decide⟩
 unfold Fo
 refine ba (rc hi.a) (ba (rc hi.b) ?_)
 repeat'(first
  |refine aa (λ_=>?_) (λ_=>?_)
  |exact bm (DS h hi.a (fi _)) λx hx=>z
  |exact ar λx _=>aa (λ_=>z) (λ_=>z)
  |exact ar λx hx=>z
  |exact ba (by have:=hi.jo (by simp_all);simp[bJ];omega) (bm (DS h hi.a (h.a _)) λx hx=>z)
  |exact bm (Zm8 h _ (h.r _)) λx hx=>z
  |refine ba (rc hi.c) ?_
  |exact bm (Lk _ (h.r _) (fi _)) λy hy=>bm (DS h hi.a hy) λx hx=>z
  |exact bm (Lk _ (h.r _) (h.r _)) λy hy=>bm (DS h hi.a hy) λx hx=>z
  |refine ey ?_)
 all_goals first|exact z|exact hi.a
theorem Zmm{c:bh}(h:iw c){P:Nat}{mem:List Int}(hm:ek P mem):(Fp c mem).w (λr=>0<=r.2.2.D9/\r.2.2.D9<16):=by
 have z:(0:Int)<=0/\(0:Int)<16:=⟨by decide,by decide⟩
 unfold Fp
 refine bm (Zd hm h) λx0 h0=>aa (λ_=>ar λy hy=>z) (λ_=>bm (Xa _) λx2 h2=>aa (λ_=>ar λy hy=>z) (λhb=>?_))
 have hi:=h2 (by simpa using hb)
 refine ar λx4 _=>?_
 repeat'(first
  |refine aa (λ_=>?_) (λ_=>?_)
  |exact bm (Z1p h hi h0.2) λx hx=>z
  |exact bm (Qyd h hi h0.2) λx hx=>z
  |exact bm (Zjh h hi) λx hx=>hx
  |exact ar λy hy=>z
  |refine ar λ_ _=>?_)
theorem na{a x:Bool}:(bif a then false else x)=true↔a=false/\x=true:=by cases a<;>simp
theorem GM(m:au):mZ m=true↔lR m.Mem≠0/\mK m.B1/\m.A1<=1152921504606846976/\¬(m.A4=true/\m.A6=true)/\sH m=true:=by
 rw[zX]
 unfold Fj chain
 rw[na,na,na,na,na,na,na]
 simp only[decide_eq_false_iff_not,Int.not_lt,beq_eq_false_iff_ne,bne_eq_false_iff_eq,gt_iff_lt]
 constructor
 ·rintro⟨a1,a2,a3,a4,a5,a6,a7,a8⟩
  refine⟨a1,⟨a2,a3,a4,a5,a6⟩,a7,?_,?_⟩
  ·rintro⟨w,h⟩;rw[w,h]at a8;cases a8
  ·revert a8;cases m.A4
   ·exactλh=>h
   ·cases m.A6
    ·exactλh=>h
    ·intro h;cases h
 ·rintro⟨a1,⟨a2,a3,a4,a5,a6⟩,a7,a8,a9⟩
  refine⟨a1,a2,a3,a4,a5,a6,a7,?_⟩
  rw[a9]
  cases hw:m.A4
  ·rfl
  ·cases hh:m.A6
   ·rfl
   ·exact absurd ⟨hw,hh⟩ a8
theorem To{m:au}(h:AB m=true):mZ m=true/\m.A6=false/\m.A1<1152921504606846976:=by
 simp only[AB,I3,Tree.m,dd]at h
 cases h1:mZ m
 ·rw[h1]at h;cases h
 ·cases h2:m.A6
  ·rw[h1,h2]at h
   cases h3:Ll m
   ·rw[h3]at h
    have h:decide (m.A1<1152921504606846976)=true:=h
    exact⟨rfl,rfl,oY h⟩
   ·rw[h3]at h;cases h
  ·rw[h1,h2]at h;cases h
theorem Xb{P:Nat}{m:au}(h:rj P m)(g:mK m.B1):(GN m).w (λr=>mK r.B1/\rj P r/\r.Mem=m.Mem/\r.A4=false/\r.A6=m.A6/\r.A1=m.A1/\r.A3=m.A3/\r.A9=m.A9/\r.A7=m.A7/\r.C3=m.C3/\r.A2=m.A2):=by
 obtain⟨h1,h2,h3,h4,h5,h6⟩:=h
 unfold GN
 refine aa (λ_=>⟨g,⟨h1,h2,h3,h4,h5,h6⟩,rfl,rfl,rfl,rfl,rfl,rfl,rfl,rfl,rfl⟩) (λ_=>bm (Xc (m:=⟨_,_,_,_,_,_,m.A2,_,_,_⟩) h6) λx0 _=>fy (inv:=λz=>0<=z/\z<=5) (μ:=Xd m) ⟨by omega,by omega⟩ (cO _) (λz hz=>?_))
 obtain⟨z1,z2⟩:=hz
 refine aa (λhb=>ba (dY z1) (aa (λ_=>ar λx1 hx=>⟨by rw[hx];exact IY h1 g _ _,⟨by rw[hx];exact GO h1 _ ej,h2,h3,h4,h5,h6⟩,rfl,rfl,rfl,rfl,rfl,rfl,rfl,rfl,rfl⟩) (λ_=>fg ?_))) (λ_=>⟨g,⟨h1,h2,h3,h4,h5,h6⟩,rfl,rfl,rfl,rfl,rfl,rfl,rfl,rfl,rfl⟩)
 have hb:=oY hb
 show(0<=i64.wrap (z+1)/\i64.wrap (z+1)<=5)/\(5-i64.wrap (z+1)).toNat<(5-z).toNat
 have ew:i64.wrap (z+1)=z+1:=by rw[wrap_i64];omega
 rw[ew];omega
structure Good(P:Nat)(m r:au):Prop where
 ok:rj P r
 lS:0<=r.A1
 may:mZ m=true->mZ r=true
 or:r=m\/r.A1=m.A1+1
theorem yh{P:Nat}{m:au}(h:rj P m)(Gu:0<=m.A1){clock:Int}(hk:U clock):(GP m clock).w (λr=>r.2.length<=1/\Good P m r.1):=by
 have gm:jC m.Mem=m.Mem:=rfl
 unfold GP
 refine cz (rR h.mem) (ar λl hl=>?_)
 rw[gm]at hl;subst hl
 refine cz (Tree.pp (Xe (m:=⟨_,_,_,_,_,_,m.A2,_,_,_⟩) h.given)).1 (ar λx1 nJ=>aa (λ_=>⟨aT _,h,Gu,λh=>h,.inl rfl⟩) (λhb=>?_))
 have hr:AB m=true:=by rw[<-show x1=AB m from nJ];simpa using hb
 obtain⟨hm,hh,N4⟩:=To hr
 obtain⟨g1,g2,g3,g4,g5⟩:=(GM m).1 hm
 have hP:(P:Int)≠0:=by rw[<-rQ h.mem];exact g1
 have fin:∀(n:au),rj P n->mK n.B1->sH n=true->n.A1=m.A1->¬(n.A4=true/\n.A6=true)->Good P m {B1:=n.B1,Mem:=n.Mem,A3:=n.A3,A9:=n.A9,A7:=n.A7,C3:=n.C3,A2:=n.A2,A1:=wrap .u64 (n.A1+1),A4:=n.A4,A6:=n.A6}:=λn a b c d e=>by
  have ec:wrap .u64 (n.A1+1)=m.A1+1:=by rw[d,wrap_u64];omega
  refine⟨⟨a.lY,a.mem,a.kR,a.sK,a.target,a.given⟩,?_,λ_=>(GM _).2 ⟨?_,b,?_,e,c⟩,.inr ec⟩
  ·show 0<=wrap .u64 (n.A1+1);omega
  ·show lR n.Mem≠0;rw[rQ a.mem];exact hP
  ·show wrap .u64 (n.A1+1)<=_;omega
 refine bm (Xb (m:=⟨_,_,m.A3,m.A9,m.A7,m.C3,m.A2,m.A1,m.A4,m.A6⟩) ⟨h.lY,h.mem,h.kR,h.sK,h.target,h.given⟩ g2) λx2 I4=>?_
 obtain⟨b1,b2,b3,b4,b5,b6,b7,b8,b9,b10,b11⟩:=I4
 have ex:=Tree.pp (vz b2.lY b2.mem)
 have em:=Tree.pp (xJ b2.lY b1 b2.mem)
 have er:=Tree.pp (Zmm b2.lY b2.mem)
 refine cz ex.1 (ar λx3 h3=>?_)
 obtain⟨e1,e2,e3⟩:iw x3.1/\ek P x3.2.1/\U x3.2.2.Value:=by rw[h3];exact ex.2
 have f1:mK x3.1:=by rw[h3];exact em.2
 have r1:0<=x3.2.2.D9/\x3.2.2.D9<16:=by rw[h3];exact er.2
 have Xf:rj P ⟨x3.1,x3.2.1,x2.A3,x2.A9,x2.A7,x2.C3,x2.A2,x2.A1,x2.A4,x2.A6⟩:=⟨e1,e2,b2.kR,b2.sK,b2.target,b2.given⟩
 have dev:∀(w h:Bool),sH ⟨x3.1,x3.2.1,x2.A3,x2.A9,x2.A7,x2.C3,x2.A2,x2.A1,w,h⟩=true:=λw hh=>by
  have id:∀{p:Prop},p->p:=λh=>h
  refine Ld (m:=m) (P:=P) h.mem e2 ?_ ?_ ?_ ?_ ?_ g5
  ·show _->tB x2.A3=true;rw[b7];exact id
  ·show _->tC x2.A9=true;rw[b8];exact id
  ·show _->ki x2.A7 P=true;rw[b9];exact id
  ·show _->pr x2.C3 P=true;rw[b10];exact id
  ·show _->uk x2.A2 P=true;rw[b11];exact id
 have hw:x2.A4=false:=b4
 have hh2:x2.A6=false:=b5.trans hh
 have Cj:x2.A1=m.A1:=b6
 refine aa (λ_=>?_) λ_=>aa (λ_=>?_) λ_=>aa (λ_=>?_) λ_=>aa (λ_=>?_) λ_=>?_
 ·refine bm (Zo2 Xf _ hk) λx4 h4=>?_
  obtain⟨k,u⟩:=h4
  have kc:x4.1.B1=x3.1:=k.lY
  have kt:x4.1.A1=m.A1:=k.lS.trans Cj
  have kw:¬(x4.1.A4=true/\x4.1.A6=true):=λe=>by have:x4.1.A4=x2.A4:=k.wait;rw[this,hw]at e;cases e.1
  have km:mK x4.1.B1:=by rw[kc];exact f1
  refine aa (λhn=>ba (rc r1) ⟨aT _,?_⟩) (λ_=>⟨aT _,fin x4.1 k.ok km (k.dev (dev _ _)) kt kw⟩)
  have hn:x3.2.2.D9≠0:=by simpa using hn
  obtain⟨q,e⟩:∃q:Nat,x3.2.2.D9.toNat=q+1:=⟨x3.2.2.D9.toNat-1,by omega⟩
  refine fin ⟨⟨iS.of 0 (dG (iS.l x4.1.B1.X) x3.2.2.D9.toNat x4.2),x4.1.B1.Pc,x4.1.B1.B4⟩,x4.1.Mem,x4.1.A3,x4.1.A9,x4.1.A7,x4.1.C3,x4.1.A2,x4.1.A1,x4.1.A4,x4.1.A6⟩ ⟨⟨Xg k.ok.lY.x u _,k.ok.lY.pc,k.ok.lY.jo⟩,k.ok.mem,k.ok.kR,k.ok.sK,k.ok.target,k.ok.given⟩ ⟨?_,km.st,km.en,km.rt,km.ve⟩ (k.dev (dev _ _)) kt kw
  show(iS.of 0 (dG (iS.l x4.1.B1.X) x3.2.2.D9.toNat x4.2)).a0=0
  rw[e]
  exact km.x0
 ·refine bm (Zit Xf _ e3 _) λx5 h5=>?_
  obtain⟨k,u⟩:=h5
  have kc:x5.1.B1=x3.1:=k.lY
  exact⟨u,fin x5.1 k.ok (by rw[kc];exact f1) (k.dev (dev _ _)) (k.lS.trans Cj) (λe=>by have:x5.1.A4=x2.A4:=k.wait;rw[this,hw]at e;cases e.1)⟩
 ·exact⟨aT _,fin ⟨x3.1,x3.2.1,x2.A3,x2.A9,x2.A7,x2.C3,x2.A2,x2.A1,true,x2.A6⟩ ⟨e1,e2,b2.kR,b2.sK,b2.target,b2.given⟩ f1 (dev _ _) Cj (λe=>by have e2:x2.A6=true:=e.2;rw[hh2]at e2;cases e2)⟩
 ·exact⟨aT _,fin ⟨x3.1,x3.2.1,x2.A3,x2.A9,x2.A7,x2.C3,x2.A2,x2.A1,x2.A4,true⟩ ⟨e1,e2,b2.kR,b2.sK,b2.target,b2.given⟩ f1 (dev _ _) Cj (λe=>by have e2:x2.A4=true:=e.1;rw[hw]at e2;cases e2)⟩
 ·exact⟨aT _,fin ⟨x3.1,x3.2.1,x2.A3,x2.A9,x2.A7,x2.C3,x2.A2,x2.A1,x2.A4,x2.A6⟩ Xf f1 (dev _ _) Cj (λe=>by have e2:x2.A4=true:=e.1;rw[hw]at e2;cases e2)⟩
theorem Zn6{P:Nat}{m:au}(h:nH P m){e:gx}(he:U e.N):(GQ m e).w (λr=>(mZ m=true->mZ r.1=true)/\r.1.A1=m.A1/\U r.1.A2.C2):=by
 obtain⟨h1,h2,h3,h4,h5,h7⟩:=h
 have gm:jC m.Mem=m.Mem:=rfl
 have pg:∀{m':List Int},ek P m'->lR m'=lR m.Mem:=λh=>by rw[rQ h,rQ h2]
 have cr:(mZ m=true->mZ m=true)/\m.A1=m.A1/\U m.A2.C2:=⟨λh=>h,rfl,h5.2⟩
 unfold GQ
 refine cz (rR h2) (ar λl hl=>?_)
 rw[gm]at hl;subst hl
 refine bm (Tp (m:=⟨_,_,_,_,_,_,m.A2,_,_,_⟩) h5.2) λx1 _=>aa (λ_=>cr) λ_=>aa (λ_=>cr) λ_=>?_
 refine aa (λ_=>aa (λ_=>aa (λ_=>ar λx hx=>?_) (λ_=>cr)) (λ_=>cr)) λ_=>aa (λ_=>aa (λ_=>aa (λ_=>bm (xaj _ _) λx hx=>?_) (λ_=>cr)) (λ_=>cr)) λ_=>aa (λhk=>bm (Zp8 h2 h3 e) λx hx=>?_) λ_=>aa (λhk=>aa (λ_=>bm (xg h2 h4 _) λx hx=>?_) (λ_=>cr)) λ_=>aa (λ_=>aa (λ_=>?_) (λ_=>cr)) (λ_=>cr)
 ·exact⟨N3 rfl rfl rfl rfl rfl (λh=>h) (λh=>by rw[hx];exact yI _ h) (λ_ h=>h) (λ_ h=>h) rfl,rfl,h5.2⟩
 ·exact⟨N3 rfl rfl rfl rfl rfl hx (λh=>h) (λ_ h=>h) (λ_ h=>h) rfl,rfl,h5.2⟩
 ·obtain⟨a1,a2,a3,a4,a5⟩:=hx
  exact⟨N3 (pg a2) rfl rfl rfl rfl (λh=>h) (λh=>h) a5 (λ_ h=>h) rfl,rfl,h5.2⟩
 ·obtain⟨a1,a2,a3,a4,a5⟩:=hx
  exact⟨N3 (pg a2) rfl rfl rfl rfl (λh=>h) (λh=>h) (λ_ h=>h) a5 rfl,rfl,h5.2⟩
 ·exact⟨N3 rfl rfl rfl rfl rfl (λh=>h) (λh=>h) (λ_ h=>h) (λ_ h=>h) rfl,rfl,h5.2⟩
theorem Lm{a:Int}(h:U a):(dW 32 a).toNat=a.toNat:=by
 obtain⟨h1,h2⟩:=h
 rw[dX];omega
theorem Xh{a b:Int}(ha:U a)(hb:U b):bf .u32 a b=((a.toNat&&&b.toNat:Nat):Int):=by
 have l:=(dW 32 a&&&dW 32 b).isLt
 have e:(dW 32 a&&&dW 32 b).toNat=a.toNat&&&b.toNat:=by rw[eA,Lm ha,Lm hb]
 show wrap .u32 ((dW 32 a&&&dW 32 b).toNat:Int)=_
 rw[wrap_u32,<-e];omega
theorem xaG{a b:Int}(ha:U a)(hb:U b):iq .u32 a b=((a.toNat|||b.toNat:Nat):Int):=by
 have l:=(dW 32 a|||dW 32 b).isLt
 have e:(dW 32 a|||dW 32 b).toNat=a.toNat|||b.toNat:=by rw[dZ,Lm ha,Lm hb]
 show wrap .u32 ((dW 32 a|||dW 32 b).toNat:Int)=_
 rw[wrap_u32,<-e];omega
theorem Xi{a:Int}(ha:U a)(k:Nat)(hk:k<=32){q:Int}(hq:q=((2^k-1:Nat):Int)):bf .u32 a q=a%2^k:=by
 have hp:2^k<=2^32:=dT (by decide) hk
 have h1:(2:Nat)^32=4294967296:=by decide
 have uo:=eG k
 subst hq
 rw[Xh ha ⟨by omega,by omega⟩,eD,Nat.and_two_pow_sub_one_eq_mod]
 have:=ha.1
 rw[Int.natCast_emod,eH this]
 simp
theorem m15{a:Int}(ha:U a):bf .u32 a 15=a%16:=Xi ha 4 (by decide) rfl
theorem Cl{a:Int}(ha:U a):bf .u32 a 255=a%256:=Xi ha 8 (by decide) rfl
theorem I5{a:Int}(ha:U a):bf .u32 a 65535=a%65536:=Xi ha 16 (by decide) rfl
theorem Fq(p:Int->Bool)(N:Nat)(h:(dD N).all (λn=>p n)=true){s:Int}(h0:0<=s)(h1:s<N):p s=true:=by
 have:=List.all_eq_true.1 h s.toNat (List.mem_range.2 (by omega))
 rwa [eH h0]at this
theorem DJ{x:Int}(h0: -9223372036854775808<=x)(h1:x<9223372036854775808):wrap .i64 x=x:=by rw[wrap_i64];omega
theorem Of(a:Int):bg .u32 a 0=a:=by have:=DP (a:=a) 0 (by decide);simpa using this
theorem fld(w:Int):tD w 24 8=bf .u32 (bg .u32 w 24) 255/\tD w 20 4=bf .u32 (bg .u32 w 20) 15/\tD w 16 4=bf .u32 (bg .u32 w 16) 15/\tD w 0 16=bf .u32 (bg .u32 w 0) 65535/\tD w 8 8=bf .u32 (bg .u32 w 8) 255:=
 ⟨by kernel_rfl,by kernel_rfl,by kernel_rfl,by kernel_rfl,by kernel_rfl⟩
def Cm(f:Int):Ag×Bool:=
 bif f==1 then(⟨false,false,false,0,0⟩,true)else bif f==2 then(⟨true,true,true,0,0⟩,true)else bif f==3 then(⟨true,true,false,-32768,32767⟩,true)
 else bif f==4 then(⟨true,true,false,0,65535⟩,true)else bif f==5 then(⟨true,true,false,0,31⟩,true)else bif f==6 then(⟨true,false,false,0,65535⟩,true)
 else bif f==7 then(⟨true,false,false,-32768,32767⟩,true)else bif f==8 then(⟨true,false,false,0,7⟩,true)else bif f==9 then(⟨true,false,false,0,11⟩,true)else(⟨false,false,false,0,0⟩,false)
def Cn(x y:Ag×Bool):Bool:=x.1.a==y.1.a&&x.1.b==y.1.b&&x.1.c==y.1.c&&x.1.low==y.1.low&&x.1.D6==y.1.D6&&x.2==y.2
theorem zJ{x y:Ag×Bool}(h:Cn x y=true):x=y:=by
 obtain⟨⟨a,b,c,d,e⟩,f⟩:=x
 obtain⟨⟨a',b',c',d',e'⟩,f'⟩:=y
 simp only[Cn,aE,beq_iff_eq]at h
 obtain⟨⟨⟨⟨⟨rfl,rfl⟩,rfl⟩,rfl⟩,rfl⟩,rfl⟩:=h
 rfl
theorem yX{op:Int}(h0:0<=op)(h1:op<256):Tq op=Cm (oR op):=by
 exact zJ (Fq (λop=>Cn (Tq op) (Cm (oR op))) 256 (by kernel_rfl) h0 h1)
theorem vh{op:Int}(h0:0<=op)(h1:op<256):oR op=0\/oR op=1\/oR op=2\/oR op=3\/oR op=4\/oR op=5\/oR op=6\/oR op=7\/oR op=8\/oR op=9:=by
 have:=oY (Fq (λop=>decide (0<=oR op/\oR op<=9)) 256 (by kernel_rfl) h0 h1)
 omega
theorem qal{op:Int}(h0:0<=op)(h1:op<256):Og op=GR op:=by
 exact eq_of_beq (Fq (λop=>Og op==GR op) 256 (by kernel_rfl) h0 h1)
theorem yJ{a x y:Bool}:(cond a x y=true)↔((a=true/\x=true)\/(a=false/\y=true)):=by cases a<;>simp
theorem Xj{i:gu}(h0:0<=i.Op)(h1:i.Op<256)(hi:wrap .i64 i.bn=i.bn):I6 i=DT i:=by
 rw[eI]
 simp only[I6,Oh,Tree.m,dd,DT,Oi,yX h0 h1,hi]
 rcases vh h0 h1 with h|h|h|h|h|h|h|h|h|h<;>rw[h]<;>
 simp[Cm,Ln,Ts,Lo,Tt,Xk,Xl,Tree.m,dd,yJ]<;>omega
theorem Xm{x:Int}(h0:0<=x)(h1:x<65536):wrap .i32 (DU x 16)=wrap .i32 (wrap .i16 x):=by
 have e:DU x 16=wrap .u32 (bg .i32 (wrap .i32 (eg .u32 x 16)) 16):=by kernel_rfl
 have e2:∀y,bg .i32 y 16=y/65536:=λy=>by
  show eJ y 65536=_
  rw[dP _ (by decide)]
 have e3:eg .u32 x 16=wrap .u32 (x*65536):=rfl
 have e4:wrap .i16 x=(x+32768)%65536-32768:=by
  simp[wrap,IntKind.bits,IntKind.signed]
  split<;>omega
 rw[e,e2,e3,e4]
 simp only[wrap_i32,wrap_u32]
 omega
theorem sx8{x:Int}(h0:0<=x)(h1:x<256):DU x 8=GS x 8:=by
 exact eq_of_beq (Fq (λx=>DU x 8==GS x 8) 256 (by kernel_rfl) h0 h1)
theorem qi{w:Int}(hw:U w):Oj w=rl w:=by
 obtain⟨f1,f2,f3,f4,_⟩:=fld w
 obtain⟨w0,w1⟩:=hw
 have um:bg .u32 w 24=w/16777216:=by have:=DP (a:=w) 24 (by decide);simpa using this
 have s20:U (bg .u32 w 20):=AD ⟨w0,w1⟩ _
 have Bk:U (bg .u32 w 16):=AD ⟨w0,w1⟩ _
 rw[Cl (AD ⟨w0,w1⟩ _),um]at f1
 rw[m15 s20]at f2
 rw[m15 Bk]at f3
 rw[Of]at f4
 have g1:w/16777216%256=w/16777216:=by omega
 rw[g1]at f1
 have o0:0<=w/16777216:=by omega
 have o1:w/16777216<256:=by omega
 have eo:wrap .i64 (w/16777216)=w/16777216:=DJ (by omega) (by omega)
 have i32:∀x,wrap .i64 (wrap .i32 x)=wrap .i32 x:=λx=>by rw[wrap_i64,wrap_i32];omega
 have l0:=I5 ⟨w0,w1⟩
 have lx:=Xm (x:=bf .u32 w 65535) (by omega) (by omega)
 simp only[Oj,Lp,rl,GU,Tree.m,dd,f1,f2,f3,f4,um,eo,yX o0 o1,m15 s20,m15 Bk,lx]
 generalize w/16777216=op at*
 generalize wrap .i64 (bg .u32 w 20%16)=a
 generalize wrap .i64 (bg .u32 w 16%16)=b
 generalize bf .u32 w 65535=l
 rw[Xj (i:=⟨op,a,b,wrap .i64 l,0⟩) o0 o1 rfl,Xj (i:=⟨op,a,b,0,wrap .i32 (wrap .i16 l)⟩) o0 o1 (i32 _),Xj (i:=⟨op,a,b,0,wrap .i32 l⟩) o0 o1 (i32 _)]
 rcases vh o0 o1 with h|h|h|h|h|h|h|h|h|h<;>rw[h]<;>rfl
theorem zal(x v:BitVec 32)(s:Nat)(hs:s<=24):((x&&&~~~(255#32<<<s))|||((v&&&255#32)<<<s)).toNat=2^(s+8)*(x.toNat/2^(s+8))+(2^s*(v.toNat%256)+x.toNat%2^s):=by
 have hx:=x.isLt
 have h1:x.toNat%2^s<2^s:=Nat.mod_lt _ (eG s)
 have h2:2^s*(v.toNat%256)+x.toNat%2^s<2^(s+8):=by
  have:v.toNat%256<256:=Nat.mod_lt _ (by decide)
  have h3:2^s*(v.toNat%256)<=2^s*255:=Nat.mul_le_mul_left _ (by omega)
  have:2^(s+8)=2^s*256:=by rw[Nat.pow_add]
  omega
 rw[eK h2,eK h1]
 apply eM
 intro i
 rw[BitVec.testBit_toNat]
 simp only[BitVec.getLsbD_or,BitVec.getLsbD_and,BitVec.getLsbD_not,BitVec.getLsbD_shiftLeft,Nat.testBit_or,Nat.testBit_two_pow_mul,eN,Nat.testBit_div_two_pow,BitVec.getLsbD_ofNat]
 have Xn:∀j,eO 255 j=decide (j<8):=λj=>by
  rw[show 255=2^8-1 from rfl,Nat.testBit_two_pow_sub_one]
 have Xo:∀n j,eO (n%256) j=(decide (j<8)&&eO n j):=λn j=>by
  rw[show 256=2^8 from rfl,eN]
 rw[Xn,Xo]
 by_cases hi:i<32
 ·by_cases a1:i<s
  ·have a2:¬(s<=i):=by omega
   have a3:¬(s+8<=i):=by omega
   simp[hi,a1,a2,a3,eQ]
  ·by_cases a4:s+8<=i
   ·have a2:¬(i-s<8):=by omega
    have a5:i-(s+8)+(s+8)=i:=by omega
    have a6:s<=i:=by omega
    simp[hi,a1,a2,a4,a5,a6,eQ]
   ·have a2:(i-s<8):=by omega
    have a6:s<=i:=by omega
    have a7:i-s<32:=by omega
    simp[hi,a1,a2,a4,a6,a7,eQ]
 ·have a0:x.toNat.testBit i=false:=Nat.testBit_lt_two_pow (Nat.lt_of_lt_of_le hx (dT (by decide) (by omega)))
  have a1:¬(i<s):=by omega
  have a2:¬(i-s<8):=by omega
  have a4:s+8<=i:=by omega
  have a5:i-(s+8)+(s+8)=i:=by omega
  simp[hi,a0,a1,a2,a4,a5]
theorem Z9h(b:BitVec 32):dW 32 (wrap .u32 (b.toNat:Int))=b:=by
 have:=b.isLt
 rw[wrap_u32]
 apply eR
 rw[dX];omega
theorem Zq3(x:Int):dW 32 (wrap .u32 x)=dW 32 x:=by
 apply eR
 rw[dX,dX,wrap_u32]
 have:((2^32:Nat):Int)=4294967296:=by decide
 rw[this,Int.emod_emod_of_dvd _ (Int.dvd_refl _)]
theorem Zg3{x:Int}(hx:U x)(s:Nat)(hs:s<=32):dW 32 (eg .u32 x s)=dW 32 x<<<s:=by
 obtain⟨n,rfl⟩:∃n:Nat,x=n:=⟨x.toNat,by have:=hx.1;omega⟩
 have e:min (dF (s:Int)) u32.bits=s:=by show min (dF (s:Int)) 32=s;omega
 unfold eg
 rw[e,Zq3]
 have e2:((n:Int)*2^s)=((n*2^s:Nat):Int):=by simp
 have:=hx.2
 rw[e2,eS,eS]
 apply eR
 rw[BitVec.toNat_shiftLeft,eT,eT,Nat.shiftLeft_eq,Nat.mod_mul_mod]
def uq(W v:Int)(s:Nat):Int:=iq .u32 (nQ .u32 W (eg .u32 255 s)) (eg .u32 (bf .u32 v 255) s)
theorem xal{W v:Int}(hW:U W)(hv:U v)(s:Nat)(hs:s<=24):uq W v s=2^(s+8)*(W/2^(s+8))+(2^s*(v%256)+W%2^s):=by
 have e:=zal (dW 32 W) (dW 32 v) s hs
 have l:=((dW 32 W&&&~~~(255#32<<<s))|||((dW 32 v&&&255#32)<<<s)).isLt
 have h1:dW 32 (nQ .u32 W (eg .u32 255 s))=dW 32 W&&&~~~(255#32<<<s):=by
  show dW 32 (wrap .u32 (dW 32 W&&&~~~dW 32 (eg .u32 255 s)).toNat)=_
  rw[Z9h,Zg3 ⟨by decide,by decide⟩ s (by omega)]
  rfl
 have h2:dW 32 (eg .u32 (bf .u32 v 255) s)=(dW 32 v&&&255#32)<<<s:=by
  rw[Zg3 (I7 _ _) s (by omega)]
  congr 1
  show dW 32 (wrap .u32 (dW 32 v&&&dW 32 255).toNat)=_
  rw[Z9h];rfl
 show wrap .u32 ((dW 32 (nQ .u32 W (eg .u32 255 s))|||dW 32 (eg .u32 (bf .u32 v 255) s)).toNat:Int)=_
 rw[h1,h2]
 have lw:wrap .u32 ((((dW 32 W&&&~~~(255#32<<<s))|||((dW 32 v&&&255#32)<<<s)).toNat:Nat):Int)=(((dW 32 W&&&~~~(255#32<<<s))|||((dW 32 v&&&255#32)<<<s)).toNat:Nat):=by rw[wrap_u32];omega
 rw[lw,e,Lm hW,Lm hv]
 obtain⟨n,rfl⟩:∃n:Nat,W=n:=⟨W.toNat,by have:=hW.1;omega⟩
 obtain⟨k,rfl⟩:∃n:Nat,v=n:=⟨v.toNat,by have:=hv.1;omega⟩
 simp
def sL(w:Int)(k:Nat):Int:=if k=0 then w%256 else if k=1 then w/256%256 else if k=2 then w/65536%256 else w/16777216%256
def lC(m:List Int)(a:Nat):Int:=sL (m.getD (a/4) 0) (a%4)
theorem xi(w:Int)(k:Nat):0<=sL w k/\sL w k<256:=by
 unfold sL
 split
 ·omega
 ·split
  ·omega
  ·split<;>omega
theorem qam{w v:Int}(hw:U w)(hv:U v)(h:∀k,k<4->sL w k=sL v k):w=v:=by
 have h0:=h 0 (by omega)
 have h1:=h 1 (by omega)
 have h2:=h 2 (by omega)
 have h3:=h 3 (by omega)
 simp[sL]at h0 h1 h2 h3
 obtain⟨a,b⟩:=hw
 obtain⟨c,d⟩:=hv
 omega
theorem Xp{m n:List Int}(hl:m.length=n.length)(hm:∀w∈m,U w)(hn:∀w∈n,U w)(h:∀a,lC m a=lC n a):m=n:=by
 refine bN hl λi h1 h2=>?_
 have e1:m[i]=m.getD i 0:=by simp[aK,h1]
 have e2:n[i]=n.getD i 0:=by simp[aK,h2]
 rw[e1,e2]
 refine qam (AE hm i) (AE hn i) λk hk=>?_
 have:=h (4*i+k)
 simp only[lC]at this
 rwa [show(4*i+k)/4=i by omega,show(4*i+k)%4=k by omega]at this
theorem Que{l:List Int}{i:Nat}(h:i<l.length)(v:Int):(l.set i v).getD i 0=v:=by
 simp[aK,h]
theorem Xq{m:List Int}{i:Nat}(hi:i<m.length)(v:Int)(a:Nat):lC (m.set i v) a=if a/4=i then sL v (a%4)else lC m a:=by
 unfold lC
 split
 ·rename_i h;rw[h,Que hi]
 ·rename_i h;rw[wA _ _ _ _ (λe=>h e.symm)]
theorem zam{W v:Int}(hW:U W)(hv:U v){j:Nat}(hj:j<4){k:Nat}(hk:k<4):sL (uq W v (8*j)) k=if k=j then v%256 else sL W k:=by
 have h:=xal hW hv (8*j) (by omega)
 rw[h]
 obtain⟨w0,w1⟩:=hW
 have h0:0<=v%256:=by omega
 have h1:v%256<256:=by omega
 generalize v%256=b at*
 clear h
 have hj:j=0\/j=1\/j=2\/j=3:=by omega
 have hk:k=0\/k=1\/k=2\/k=3:=by omega
 rcases hj with rfl|rfl|rfl|rfl<;>rcases hk with rfl|rfl|rfl|rfl<;>simp[sL]<;>omega
theorem xam{m:List Int}{a v:Int}(ha:U a):Bl m a 1 v=m.set (a/4).toNat (uq (m.getD (a/4).toNat 0) v (8*(a%4).toNat)):=by
 obtain⟨a0,a1⟩:=ha
 have e1:wrap .u32 (eU a 4)=a/4:=by rw[wrap_u32,eV a0];omega
 have e2:wrap .u32 (8*dE a 4)=((8*(a%4).toNat:Nat):Int):=by rw[wrap_u32,eF a0];omega
 have e3:((1:Int)==4)=false:=rfl
 simp only[Bl,I8,Tree.m,e1,e2,e3,cond_false]
 rfl
theorem vi{P:Nat}{m:List Int}(h:ek P m){a v:Int}(ha:U a)(hl:a<128*P)(hv:U v):ek P (Bl m a 1 v)/\∀b:Nat,lC (Bl m a 1 v) b=if(b:Int)=a then v%256 else lC m b:=by
 have hlen:=h.len
 have a0:=ha.1
 rw[xam ha]
 have hi:(a/4).toNat<m.length:=by omega
 refine⟨⟨by rw[dH];exact hlen,h.p1,h.p2,Z7 h.u (mY _ _) _⟩,λb=>?_⟩
 rw[Xq hi]
 by_cases hb:b/4=(a/4).toNat
 ·rw[if_pos hb,zam (AE h.u _) hv (by omega) (by omega)]
  by_cases hc:b%4=(a%4).toNat
  ·rw[if_pos hc,if_pos (by omega)]
  ·rw[if_neg hc,if_neg (by omega),lC,hb]
 ·rw[if_neg hb,if_neg (by omega)]
theorem vX{P:Nat}{m:List Int}(h:ek P m){frame:Int}(f0:0<=frame)(f1:frame<P)(s:List UInt8):(GV m frame s).w (λr=>ek P r/\∀b:Nat,lC r b=if frame*128<=b/\(b:Int)<frame*128+min s.length 128 then((s.getD (b-frame*128).toNat 0).toNat:Int)else lC m b):=by
 unfold GV
 have h3:=h.p2
 refine fy (inv:=λz=>0<=z.1/\z.1<=min s.length 128/\ek P z.2/\∀b:Nat,lC z.2 b=if frame*128<=b/\(b:Int)<frame*128+z.1 then((s.getD (b-frame*128).toNat 0).toNat:Int)else lC m b) (μ:=Xr m frame s) ⟨show(0:Int)<=0 by decide,by show(0:Int)<=_;omega,h,λb=>by rw[if_neg];show¬(_/\_<_+(0:Int));omega⟩ (cO _) (λv0 wx=>?_)
 obtain⟨i,mm⟩:=v0
 obtain⟨i0,i1,hm,hy⟩:=wx
 have i0:0<=i:=i0
 have i1:i<=min s.length 128:=i1
 have hm:ek P mm:=hm
 have fin:∀r:List Int,r=mm->i=min s.length 128->ek P r/\∀b:Nat,lC r b=if frame*128<=b/\(b:Int)<frame*128+min s.length 128 then((s.getD (b-frame*128).toNat 0).toNat:Int)else lC m b:=λr hr hi=>by
  subst hr;refine⟨hm,λb=>?_⟩
  rw[hy b];simp only[hi]
 refine aa (λh1=>aa (λh2=>ba ?_ ?_) (λh2=>fin mm rfl ?_)) (λh1=>fin mm rfl ?_)
 ·have:=oY h1
  simp[bJ];omega
 ·have h1:i<s.length:=oY h1
  have h2:i<128:=oY h2
  have e:wrap u32 (wrap i64 (wrap i64 (frame*128)+i))=frame*128+i:=by
   rw[wrap_u32,wrap_i64,wrap_i64];omega
  show(Tree.an (Tu mm (wrap u32 (wrap i64 (wrap i64 (frame*128)+i))) 1 _) (Tree.lv _ _)).w _
  rw[e]
  have hu:U (frame*128+i):=⟨by omega,by omega⟩
  have hvU:∀n:Nat,U (wrap .u32 (n:Int)):=λn=>fi _
  obtain⟨g1,_⟩:=Tree.pp (Co hm (size:=1) (addr:=frame*128+i) hu (by rw[hm.len];omega) (hvU (eW (s.getD i.toNat 0))))
  obtain⟨g2,g3⟩:=vi hm hu (by omega) (hvU (eW (s.getD i.toNat 0)))
  refine cz g1 (ar λx0 nI=>?_)
  rw[nI]
  have ew:i64.wrap (i+1)=i+1:=by rw[wrap_i64];omega
  refine fg ?_
  show(0<=i64.wrap (i+1)/\i64.wrap (i+1)<=min s.length 128/\ek P _/\∀b:Nat,lC _ b=if frame*128<=b/\(b:Int)<frame*128+i64.wrap (i+1)then _ else _)/\(128-i64.wrap (i+1)).toNat<(128-i).toNat
  rw[ew]
  refine⟨⟨by omega,by omega,g2,λb=>?_⟩,by omega⟩
  rw[show Bl mm (frame*128+i) 1 _=_ from rfl,g3 b]
  by_cases hb:(b:Int)=frame*128+i
  ·rw[if_pos hb,if_pos (by omega),wrap_u32]
   have:=(s.getD i.toNat 0).toNat_lt
   rw[show(b-frame*128).toNat=i.toNat by omega];omega
  ·rw[if_neg hb,hy b]
   show(if frame*128<=(b:Int)/\(b:Int)<frame*128+i then _ else _)=_
   by_cases hc:frame*128<=(b:Int)/\(b:Int)<frame*128+i
   ·rw[if_pos hc,if_pos (by omega)]
   ·rw[if_neg hc,if_neg (by omega)]
 ·have h1:i<s.length:=oY h1
  have h2:¬i<128:=oN h2
  omega
 ·have h1:¬i<s.length:=oN h1
  omega
theorem qj{x y:Int}(hx:U x)(hy:U y)(k:Nat)(hk:x<2^k)(h:x+y*2^k<4294967296):iq .u32 x (y*2^k)=x+y*2^k:=by
 obtain⟨n,rfl⟩:∃n:Nat,x=n:=⟨x.toNat,by have:=hx.1;omega⟩
 obtain⟨z,rfl⟩:∃n:Nat,y=n:=⟨y.toNat,by have:=hy.1;omega⟩
 have e:((z:Int)*2^k)=((z*2^k:Nat):Int):=by simp
 rw[e]at h⊢
 have hn:n<2^k:=by exact_mod_cast hk
 rw[xaG hx ⟨by omega,by omega⟩,eD,eD,Nat.or_comm,Nat.mul_comm,<-eK hn]
 omega
theorem four{a b c d:Int}(ha:0<=a/\a<256)(hb:0<=b/\b<256)(hc:0<=c/\c<256)(hd:0<=d/\d<256):iq .u32 (iq .u32 (iq .u32 (wrap .u32 a) (eg .u32 (wrap .u32 b) 8)) (eg .u32 (wrap .u32 c) 16)) (eg .u32 (wrap .u32 d) 24)=a+b*2^8+c*2^16+d*2^24:=by
 have w:∀{x:Int},0<=x/\x<256->wrap .u32 x=x:=λhx=>by rw[wrap_u32];omega
 have s8:∀{x:Int},0<=x/\x<256->eg .u32 x 8=x*2^8:=fun{x} hx=>by show wrap .u32 (x*2^8)=_;rw[wrap_u32];omega
 have Bk:∀{x:Int},0<=x/\x<256->eg .u32 x 16=x*2^16:=fun{x} hx=>by show wrap .u32 (x*2^16)=_;rw[wrap_u32];omega
 have um:∀{x:Int},0<=x/\x<256->eg .u32 x 24=x*2^24:=fun{x} hx=>by show wrap .u32 (x*2^24)=_;rw[wrap_u32];omega
 rw[w ha,w hb,w hc,w hd,s8 hb,Bk hc,um hd]
 rw[qj ⟨by omega,by omega⟩ ⟨by omega,by omega⟩ 8 (by omega) (by omega),qj ⟨by omega,by omega⟩ ⟨by omega,by omega⟩ 16 (by omega) (by omega),qj ⟨by omega,by omega⟩ ⟨by omega,by omega⟩ 24 (by omega) (by omega)]
theorem vJ{a b c d:Int}(ha:0<=a/\a<256)(hb:0<=b/\b<256)(hc:0<=c/\c<256)(hd:0<=d/\d<256)(k:Nat)(hk:k<4):sL (a+b*2^8+c*2^16+d*2^24) k=if k=0 then a else if k=1 then b else if k=2 then c else d:=by
 have hk:k=0\/k=1\/k=2\/k=3:=by omega
 rcases hk with rfl|rfl|rfl|rfl<;>simp[sL]<;>omega
theorem Tv{P:Nat}{m:List Int}(h:ek P m)(f:Int):IS m f=decide (0<=f/\f<P):=by
 have hp:=rQ h
 simp only[IS,NW,Tree.m,dd,hp]
 by_cases h1:0<=f
 ·rw[dY h1];simp[h1]
 ·rw[dN h1];simp[h1]
theorem qK(s:List UInt8)(a b k:Nat)(h:k<b):(dB b (dC a s)).getD k 0=s.getD (a+k) 0:=by
 simp[cP,aU,h]
theorem GW(x:UInt8):0<=(x.toNat:Int)/\(x.toNat:Int)<256:=by have:=x.toNat_lt;omega
theorem Xs{P:Nat}{m:List Int}(h:ek P m){f:Int}(f0:0<=f)(f1:f<P){s:List UInt8}(hs:s.length=128):(GC m f s).w (λr=>r.2=true/\ek P r.1/\∀b:Nat,lC r.1 b=if f*128<=b/\(b:Int)<f*128+128 then((s.getD (b-f*128).toNat 0).toNat:Int)else lC m b):=by
 have gm:jC m=m:=rfl
 have h2:=h.p2
 unfold GC
 refine cz (rR h) (ar λx0 nI=>ar λx1 nJ=>?_)
 rw[gm]at nI;subst nI
 rw[Tv h,dY ⟨f0,f1⟩]at nJ
 subst nJ
 refine aa (λhb=>by cases hb) λ_=>aa (λhb=>by simp[hs]at hb) λ_=>?_
 refine fy (inv:=λz:Int×List Int=>0<=z.1/\z.1<=32/\ek P z.2/\∀b:Nat,lC z.2 b=if f*128<=b/\(b:Int)<f*128+4*z.1 then((s.getD (b-f*128).toNat 0).toNat:Int)else lC x0 b) (μ:=WZ x0 f s) ⟨show(0:Int)<=0 by decide,show(0:Int)<=32 by decide,h,λb=>by rw[if_neg];show¬(_/\_<_+4*(0:Int));omega⟩ (cO _) λz ⟨z1,z2,z3,z4⟩=>?_
 refine aa (λhb=>?_) (λhb=>⟨rfl,z3,λb=>?_⟩)
 ·have hb:=oY hb
  have e1:i64.wrap (4*z.1)=4*z.1:=by rw[wrap_i64];omega
  have e2:i64.wrap (i64.wrap (4*z.1)+4)=4*z.1+4:=by rw[wrap_i64,wrap_i64];omega
  have e3:i64.wrap (i64.wrap (f*32)+z.1)=f*32+z.1:=by rw[wrap_i64,wrap_i64];omega
  have hl:=z3.len
  have cut:dF (i64.wrap (i64.wrap (4*z.1)+4))-dF (i64.wrap (4*z.1))=4:=by rw[e2,e1];omega
  have hlen:(dB (dF (i64.wrap (i64.wrap (4*z.1)+4))-dF (i64.wrap (4*z.1))) (dC (dF (i64.wrap (4*z.1))) s)).length=4:=by
   rw[cut,e1,bD,bF];omega
  refine ba (dY (by rw[e2,e1];omega)) ?_
  refine ba (dY (by rw[hlen];decide)) (ba (dY (by rw[hlen];decide)) (ba (dY (by rw[hlen];decide)) (ba (dY (by rw[hlen];decide)) (ba (by rw[e3];simp[bJ];omega) (fg ?_)))))
  have ew:i64.wrap (z.1+1)=z.1+1:=by rw[wrap_i64];omega
  rw[cut]
  refine⟨⟨by show 0<=i64.wrap (z.1+1);rw[ew];omega,by show i64.wrap (z.1+1)<=32;rw[ew];omega,?_,?_⟩,by show(32-i64.wrap (z.1+1)).toNat<(32-z.1).toNat;rw[ew];omega⟩
  ·show ek P (dG _ _ _)
   exact⟨by rw[dH];exact hl,z3.p1,z3.p2,Z7 z3.u (mY _ _) _⟩
  ·intro b
   show lC (dG z.2 (dF (i64.wrap (i64.wrap (f*32)+z.1))) _) b=if f*128<=(b:Int)/\(b:Int)<f*128+4*i64.wrap (z.1+1)then _ else _
   rw[e3,ew,four (GW _) (GW _) (GW _) (GW _),Xq (by omega)]
   have g:∀k:Nat,k<4->(dB 4 (dC (dF (i64.wrap (4*z.1))) s)).getD k 0=s.getD ((4*z.1).toNat+k) 0:=λk hk=>by rw[e1];exact qK _ _ _ _ hk
   by_cases hc:b/4=(f*32+z.1).toNat
   ·have Tw:f*128<=(b:Int)/\(b:Int)<f*128+4*(z.1+1):=by omega
    rw[if_pos hc,vJ (GW _) (GW _) (GW _) (GW _) _ (by omega),if_pos Tw]
    have hb4:b%4=0\/b%4=1\/b%4=2\/b%4=3:=by omega
    have gi:(b-f*128).toNat=(4*z.1).toNat+b%4:=by omega
    rw[gi]
    rcases hb4 with h4|h4|h4|h4<;>rw[h4]
    ·rw[if_pos rfl,<-g 0 (by omega)];rfl
    ·rw[if_neg (by decide),if_pos rfl,<-g 1 (by omega)];rfl
    ·rw[if_neg (by decide),if_neg (by decide),if_pos rfl,<-g 2 (by omega)];rfl
    ·rw[if_neg (by decide),if_neg (by decide),if_neg (by decide),<-g 3 (by omega)];rfl
   ·rw[if_neg hc,z4 b]
    by_cases hd:f*128<=(b:Int)/\(b:Int)<f*128+4*z.1
    ·rw[if_pos hd,if_pos (by omega)]
    ·rw[if_neg hd,if_neg (by omega)]
 ·have hb:=oN hb
  show lC z.2 b=_
  rw[z4 b,show z.1=32 by omega]
  rfl
theorem Xt{α:Type}(l l2:List α)(k:Nat)(z:α):(l++l2).getD k z=if k<l.length then l.getD k z else l2.getD (k-l.length) z:=by
 simp only[cP,List.getElem?_append]
 split<;>rfl
theorem u8w{x:Int}:wrap .u8 x=x%256:=wrap_u8 x
theorem GX(W:Int):bg .u32 W 8=W/256/\bg .u32 W 16=W/65536/\bg .u32 W 24=W/16777216:=by
 refine⟨?_,?_,?_⟩
 ·show eJ W 256=_;rw[dP _ (by decide)]
 ·show eJ W 65536=_;rw[dP _ (by decide)]
 ·show eJ W 16777216=_;rw[dP _ (by decide)]
theorem b4d(W:Int){k:Nat}(hk:k<4):[wrap .u8 W,wrap .u8 (bg .u32 W 8),wrap .u8 (bg .u32 W 16),wrap .u8 (bg .u32 W 24)].getD k 0=sL W k:=by
 obtain⟨a,b,c⟩:=GX W
 have hk:k=0\/k=1\/k=2\/k=3:=by omega
 rcases hk with rfl|rfl|rfl|rfl<;>simp[sL,a,b,c,u8w]
theorem Xu(l:List Int)(k:Nat)(h:0<=l.getD k 0/\l.getD k 0<256)(hk:k<l.length):(((bytesOf l).getD k 0).toNat:Int)=l.getD k 0:=by
 have e:(bytesOf l).getD k 0=eX (l.getD k 0).toNat:=by
  simp[bytesOf,cP,hk]
 rw[e,UInt8.toNat_ofNat']
 omega
theorem Ziz(l:List UInt8)(k:Nat)(hk:k<l.length):(Q2 l).getD k 0=((l.getD k 0).toNat:Int):=by
 simp[Q2,cP,hk]
theorem qaH(w:List Int)(h:w.length<=32):(Fi w).w (λr=>r.length=4*w.length/\∀k:Nat,k<4*w.length->((r.getD k 0).toNat:Int)=sL (w.getD (k/4) 0) (k%4)):=by
 have e0:i64.wrap (4*(w.length:Int))=4*w.length:=by rw[wrap_i64];omega
 unfold Fi
 refine ba (by rw[e0];simp[bJ,D.plain];omega) ?_
 refine fy (inv:=λz:Int×List Int=>0<=z.1/\z.1<=w.length/\(z.2.length:Int)=4*z.1/\∀k:Nat,(k:Int)<4*z.1->z.2.getD k 0=sL (w.getD (k/4) 0) (k%4)) (μ:=NX w) ⟨by decide,by show(0:Int)<=w.length;omega,rfl,λk hk=>by have hk:(k:Int)<4*0:=hk;omega⟩ (cO _) λz ⟨z1,z2,z3,z4⟩=>?_
 refine aa (λhb=>?_) (λhb=>?_)
 ·have hb:=oY hb
  have ew:i64.wrap (z.1+1)=z.1+1:=by rw[wrap_i64];omega
  refine ba (by simp[bJ];omega) (ba (dY (by omega)) (fg ?_))
  show(_/\_/\_/\∀k:Nat,(k:Int)<4*i64.wrap (z.1+1)->(z.2++_).getD k 0=_)/\(_:Nat)<_
  refine⟨⟨by rw[ew];omega,by rw[ew];omega,by rw[ew,lA];simp only[dI,dJ];omega,λk hk=>?_⟩,by show(w.length-i64.wrap (z.1+1)).toNat<(w.length-z.1).toNat;rw[ew];omega⟩
  rw[ew]at hk
  rw[Xt]
  split
  ·exact z4 k (by omega)
  ·rename_i hn
   rw[b4d _ (by omega),show z.1.toNat=k/4 by omega,show k-z.2.length=k%4 by omega]
 ·have hb:=oN hb
  show(bytesOf z.2).length=_/\∀k:Nat,_->(((bytesOf z.2).getD k 0).toNat:Int)=_
  refine⟨by rw[NY];omega,λk hk=>?_⟩
  have e:=z4 k (by omega)
  have:=xi (w.getD (k/4) 0) (k%4)
  rw[Xu _ _ (by rw[e];exact this) (by omega),e]
def AF(m:List Int)(f:Int)(r:List UInt8):Prop:=r.length=128/\∀k:Nat,k<128->((r.getD k 0).toNat:Int)=lC m ((f*128).toNat+k)
theorem zaH{m:List Int}{f:Int}{r s:List UInt8}(a:AF m f r)(b:AF m f s):r=s:=by
 obtain⟨a1,a2⟩:=a
 obtain⟨b1,b2⟩:=b
 refine bN (by omega) λi h1 h2=>?_
 have e:=(a2 i (by omega)).trans (b2 i (by omega)).symm
 have e1:r[i]=r.getD i 0:=by simp[aK,h1]
 have e2:s[i]=s.getD i 0:=by simp[aK,h2]
 rw[e1,e2]
 exact UInt8.toNat_inj.1 (by omega)
theorem xj{P:Nat}{m:List Int}(h:ek P m){f:Int}(f0:0<=f)(f1:f<P):(GF m f).w (λr=>AF m f r.1/\r.2=true):=by
 have hl:=h.len
 have h2:=h.p2
 unfold GF
 refine ar λx0 nI=>?_
 rw[Tv h,dY ⟨f0,f1⟩]at nI
 subst nI
 refine aa (λhb=>by cases hb) (λhb=>?_)
 have e1:i64.wrap (f*32)=f*32:=by rw[wrap_i64];omega
 have e2:i64.wrap (i64.wrap (f*32)+32)=f*32+32:=by rw[wrap_i64,wrap_i64];omega
 have cut:dF (i64.wrap (i64.wrap (f*32)+32))-dF (i64.wrap (f*32))=32:=by rw[e2,e1];omega
 have hlen:(dB 32 (dC (dF (i64.wrap (f*32))) m)).length=32:=by
  rw[e1,bD,bF];omega
 refine ba (by rw[e2,e1];simp[bJ];omega) ?_
 rw[cut]
 refine cz (by show dK _<=1000000000000;rw[hlen];decide) (ar λx1 h1=>?_)
 have t:=(Tree.pp (qaH _ (dL hlen))).2
 rw[hlen,show(Fi (dB 32 (dC (dF (i64.wrap (f*32))) m))).m=x1 from h1.symm]at t
 refine⟨⟨t.1,λk hk=>?_⟩,rfl⟩
 show((x1.getD k 0).toNat:Int)=_
 rw[t.2 k hk,lC,e1]
 have g:(dB 32 (dC (dF (f*32)) m)).getD (k/4) 0=m.getD ((f*32).toNat+k/4) 0:=by
  simp[cP,aU,show k/4<32 by omega]
 rw[g,show((f*128).toNat+k)/4=(f*32).toNat+k/4 by omega,show((f*128).toNat+k)%4=k%4 by omega]
theorem xaH(x:Int):Xv x 4=bytesOf [wrap .u8 (bg .u32 x 0),wrap .u8 (bg .u32 x 8),wrap .u8 (bg .u32 x 16),wrap .u8 (bg .u32 x 24)]:=by kernel_rfl
theorem qan{P:Nat}{m:List Int}(hm:ek P m){frame:Int}(f0:0<=frame)(f1:frame<P):(GY m frame).w (λr=>AF m frame r.1/\r.2=true):=by
 have hp:=DV hm
 have hl:=hm.len
 have h2:=hm.p2
 unfold GY
 refine aa (λh=>by have:=oY h;omega) (λh=>ar λx0 hx=>aa (λh1=>by have:=oY h1;rw[hx,hp]at this;omega) (λh1=>?_))
 refine fy (inv:=λz:Int×List Int=>0<=z.1/\z.1<=32/\(z.2.length:Int)=4*z.1/\∀k:Nat,(k:Int)<4*z.1->z.2.getD k 0=lC m ((frame*128).toNat+k)) (μ:=Xw m frame) ⟨by decide,by decide,rfl,λk hk=>by have hk:(k:Int)<4*0:=hk;omega⟩ (cO _) (λz hz=>?_)
 obtain⟨z1,z2,z3,z4⟩:=hz
 refine aa (λhb=>?_) (λhb=>?_)
 ·have hb:=oY hb
  have e:wrap i64 (wrap i64 (frame*32)+z.1)=frame*32+z.1:=by rw[wrap_i64,wrap_i64];omega
  refine ba (by rw[e];simp[bJ];omega) (cz (show(4:Int)<=1000000000000 by decide) (ar λx1 h4=>?_))
  rw[xaH,Of,e]at h4
  have l4:x1.length=4:=by rw[h4];rfl
  refine ba (dY (by rw[Tx,l4];omega)) (fg ?_)
  show(0<=i64.wrap (z.1+1)/\i64.wrap (z.1+1)<=32/\((z.2++Q2 x1).length:Int)=4*i64.wrap (z.1+1)/\∀k:Nat,(k:Int)<4*i64.wrap (z.1+1)->(z.2++Q2 x1).getD k 0=_)/\(32-i64.wrap (z.1+1)).toNat<(32-z.1).toNat
  have ew:i64.wrap (z.1+1)=z.1+1:=by rw[wrap_i64];omega
  rw[ew]
  refine⟨⟨by omega,by omega,by rw[lA,Tx,l4];omega,λk hk=>?_⟩,by omega⟩
  rw[Xt]
  split
  ·exact z4 k (by omega)
  ·rename_i hn
   have DW:k-z.2.length<4:=by omega
   rw[Ziz _ _ (by omega),h4]
   have d:=b4d (m.getD (frame*32+z.1).toNat 0) DW
   rw[Xu _ _ (by rw[d];exact xi _ _) (by simpa using DW),d,lC]
   rw[show((frame*128).toNat+k)/4=(frame*32+z.1).toNat by omega,show((frame*128).toNat+k)%4=k-z.2.length by omega]
 ·have hb:=oN hb
  refine⟨⟨?_,λk hk=>?_⟩,rfl⟩
  ·show(bytesOf z.2).length=128
   rw[NY];omega
  ·show(((bytesOf z.2).getD k 0).toNat:Int)=_
   have e:=z4 k (by omega)
   rw[Xu _ _ (by rw[e];exact xi _ _) (by omega),e]
theorem Zho{P:Nat}{m:List Int}(h:ek P m)(f:Int):DX m f=Lq m f:=by
 by_cases hf:0<=f/\f<P
 ·have a:=(Tree.pp (xj h hf.1 hf.2)).2
  have b:=(Tree.pp (qan h hf.1 hf.2)).2
  exact eY (zaH a.1 b.1) (a.2.trans b.2.symm)
 ·have hp:=DV h
  have e1:DX m f=([],false):=by
   simp only[DX,GF,Tree.m,dd,Tv h,dN hf];rfl
  have e2:Lq m f=([],false):=by
   simp only[Lq,GY,Tree.m,dd,hp]
   by_cases h0:f<0
   ·rw[dY h0];rfl
   ·rw[dN h0,dY (show f>=P by omega)];rfl
  rw[e1,e2]
section
variable {P:Nat} {m:List Int} (h:ek P m)
include h
theorem Zi{f:Int}(f0:0<=f)(f1:f<P){s:List UInt8}(hs:s.length=128):DY m f s=(Ok m f s,true):=by
 have a:=(Tree.pp (Xs h f0 f1 hs)).2
 have b:=(Tree.pp (vX h f0 f1 s)).2
 refine eY (Xp (a.2.1.len.trans b.1.len.symm) a.2.1.u b.1.u λk=>?_) a.1
 have e:((min s.length 128:Nat):Int)=128:=by rw[hs];rfl
 have b2:=b.2 k
 have a2:=a.2.2 k
 rw[e]at b2
 exact a2.trans b2.symm
theorem Zgr{f:Int}(f0:0<=f)(f1:f<P){s r:List UInt8}(hs:s.length<=128)(hr:AF m f r):DY m f (s++r.drop s.length)=(Ok m f s,true):=by
 have hl:(s++r.drop s.length).length=128:=by have:=hr.1;simp;omega
 have a:=(Tree.pp (Xs h f0 f1 hl)).2
 have b:=(Tree.pp (vX h f0 f1 s)).2
 refine eY (Xp (a.2.1.len.trans b.1.len.symm) a.2.1.u b.1.u λk=>?_) a.1
 have b2:=b.2 k
 have a2:=a.2.2 k
 refine a2.trans (Eq.trans ?_ b2.symm)
 by_cases hc:f*128<=(k:Int)/\(k:Int)<f*128+128
 ·rw [if_pos hc,Xt]
  by_cases hd:(k-f*128).toNat<s.length
  ·rw[if_pos hd,if_pos (by omega)]
  ·rw[if_neg hd,if_neg (by omega)]
   have e:(r.drop s.length).getD ((k-f*128).toNat-s.length) 0=r.getD (k-f*128).toNat 0:=by
    simp[cP,show s.length+((k-f*128).toNat-s.length)=(k-f*128).toNat by omega]
   rw[e,hr.2 _ (by omega),show(f*128).toNat+(k-f*128).toNat=k by omega]
 ·rw[if_neg hc,if_neg (by omega)]
theorem Lr{a:Int}(ha:U a){size:Int}(hs:size=1\/size=4):rS m a size=decide (a%size=0/\a<128*P):=by
 have hq:=DV h
 have h2:=h.p2
 have a0:=ha.1
 have e:wrap u32 size=size:=by rcases hs with rfl|rfl<;>decide
 have e0:decide (wrap u32 size≠0)=true:=by rcases hs with rfl|rfl<;>decide
 have t:dE a (wrap u32 size)=a%size:=by rw[e,eF a0]
 have l:∀x,x=wE m->a%size=0->decide (a<wrap u32 (wrap i64 (128*x)))=decide (a%size=0/\a<128*P):=λx hx hz=>by
  rw[hx,hq,wrap_u32,wrap_i64]
  exact decide_eq_decide.2 ⟨λh=>⟨hz,by omega⟩,λh=>by omega⟩
 refine Tree.post (I9 m a size) (W:=λb=>b=decide (a%size=0/\a<128*P)) ?_
 unfold I9
 refine aa (λh1=>aa (λh4=>?_) (λ_=>?_)) (λ_=>?_)
 ·have h1:¬size=1:=by simpa using h1
  have h4:¬size=4:=by simpa using h4
  omega
 all_goals
  refine ba e0 (aa (λhb=>ar λx hx=>l x hx ?_) (λhb=>?_))
  ·rw[t]at hb;exact eq_of_beq hb
  ·rw[t]at hb
   exact(dN (λh=>by rw[h.1]at hb;cases hb)).symm
theorem Z3m{a:Int}(ha:U a){size:Int}(hs:size=1\/size=4):Xx m a size=rS m a size:=by
 rw[Lr h ha hs]
 have hq:=Xy h
 have h2:=h.p2
 have a0:=ha.1
 have a1:=ha.2
 have e:wrap u32 size=size:=by rcases hs with rfl|rfl<;>decide
 have e0:decide (wrap u32 size≠0)=true:=by rcases hs with rfl|rfl<;>decide
 have t:dE a (wrap u32 size)=a%size:=by rw[e,eF a0]
 have l:∀x,x=lR m->a%size=0->decide (wrap u64 (wrap u64 a+wrap u64 size)<=wrap u64 (wrap u64 x*128))=decide (a%size=0/\a<128*P):=λx hx hz=>by
  rw[hx,hq]
  simp only[wrap_u64]
  refine decide_eq_decide.2 ⟨λh=>⟨hz,?_⟩,λh=>?_⟩<;>rcases hs with rfl|rfl<;>omega
 refine Tree.post (Ja m a size) (W:=λb=>b=decide (a%size=0/\a<128*P)) ?_
 unfold Ja
 refine aa (λh1=>aa (λh4=>?_) (λ_=>?_)) (λ_=>?_)
 ·have h1:¬size=1:=by simpa using h1
  have h4:¬size=4:=by simpa using h4
  omega
 all_goals
  refine ba e0 (aa (λhb=>?_) (λhb=>ar λx hx=>l x hx ?_))
  ·rw[t]at hb
   exact(dN (λh=>by rw[h.1]at hb;cases hb)).symm
  ·rw[t]at hb;simpa using hb
end
theorem Xz(w:Int):tD w 0 8=bf .u32 (bg .u32 w 0) 255/\tD w 8 8=bf .u32 (bg .u32 w 8) 255/\tD w 16 8=bf .u32 (bg .u32 w 16) 255/\tD w 24 8=bf .u32 (bg .u32 w 24) 255:=
 ⟨by kernel_rfl,by kernel_rfl,by kernel_rfl,by kernel_rfl⟩
theorem XA(w v:Int):Ls w 0 8 v=uq w v 0/\Ls w 8 8 v=uq w v 8/\Ls w 16 8 v=uq w v 16/\Ls w 24 8 v=uq w v 24:=
 ⟨by kernel_rfl,by kernel_rfl,by kernel_rfl,by kernel_rfl⟩
theorem zj{a:Int}(ha:U a):wrap .i64 (wrap .i64 (dE a 4)*8)=8*(a%4)/\wrap .u32 (8*dE a 4)=8*(a%4):=by
 obtain⟨a0,a1⟩:=ha
 rw[eF a0]
 exact⟨by rw[wrap_i64,wrap_i64];omega,by rw[wrap_u32];omega⟩
section
variable {P:Nat} {m:List Int} (h:ek P m)
include h
theorem Ol{a:Int}(ha:U a){size:Int}(hs:size=1\/size=4):Cp m a size=kK m a size:=by
 have e:=Z3m h ha hs
 obtain⟨s1,s2⟩:=zj ha
 have f:tD (m.getD (dF (wrap .u32 (eU a 4))) 0) (8*(a%4)) 8=bf .u32 (bg .u32 (m.getD (dF (wrap .u32 (eU a 4))) 0) (8*(a%4))) 255:=by
  obtain⟨f0,f1,f2,f3⟩:=Xz (m.getD (dF (wrap .u32 (eU a 4))) 0)
  have:a%4=0\/a%4=1\/a%4=2\/a%4=3:=by omega
  rcases this with h|h|h|h<;>rw[h]
  ·exact f0
  ·exact f1
  ·exact f2
  ·exact f3
 simp only[Cp,Lt,kK,AG,Tree.m,dd,e,s1,s2,f]
omit h in
theorem XB(a size:Int):(kK m a size).2=rS m a size:=by
 simp only[kK,AG,Tree.m,dd]
 cases rS m a size
 ·rfl
 ·cases size==1<;>rfl
theorem Z9g{a:Int}(ha:U a){size:Int}(hs:size=1\/size=4)(v:Int):Lu m a size v=bif rS m a size then(Bl m a size v,true)else(m,false):=by
 have gm:jC m=m:=rfl
 have e:=Z3m h ha hs
 obtain⟨s1,s2⟩:=zj ha
 have f:∀w,Ls w (8*(a%4)) 8 v=iq .u32 (nQ .u32 w (eg .u32 255 (8*(a%4)))) (eg .u32 (bf .u32 v 255) (8*(a%4))):=λw=>by
  obtain⟨f0,f1,f2,f3⟩:=XA w v
  have:a%4=0\/a%4=1\/a%4=2\/a%4=3:=by omega
  rcases this with h|h|h|h<;>rw[h]
  ·exact f0
  ·exact f1
  ·exact f2
  ·exact f3
 simp only[Lu,Lv,Bl,I8,Tree.m,dd,gm,e,s1,s2,f]
 rcases hs with rfl|rfl<;>cases rS m a _<;>rfl
end
section
variable {P:Nat} {m:List Int} (h:ek P m)
include h
theorem yj{root va:Int}(hr:U root)(hv:U va){access:Int}(ha:access=1\/access=2\/access=3):Ty m root va access=AH m root va access:=by
 have hp:=DV h
 have h2:=h.p2
 have hlen:=h.len
 obtain⟨r1,r2⟩:=hr
 obtain⟨v1,v2⟩:=hv
 have IW:∀{f:Int},U f->Om m f=decide (f<P):=λhf=>xT h hf
 have eP:wrap .u32 (P:Int)=P:=by rw[wrap_u32];omega
 have kn:Lw access=true:=by rcases ha with rfl|rfl|rfl<;>rfl
 have ca:Qju access=(tE access,true):=by rcases ha with rfl|rfl|rfl<;>rfl
 simp only[Ty,Lx,AH,GZ,Tree.m,dd,hp,eP,kn,ca,IW ⟨r1,r2⟩]
 by_cases c1:va>=4096
 ·rw[dY c1];rfl
 by_cases c2:root<P
 ·have eE:wrap u32 (wrap u32 (root*128)+wrap u32 (4*wrap u32 (eU va 128)))=root*128+4*(va/128):=by
   rw[eV v1,wrap_u32,wrap_u32,wrap_u32,wrap_u32];omega
  have hE:U (root*128+4*(va/128)):=⟨by omega,by omega⟩
  have wi:rS m (root*128+4*(va/128)) 4=true:=by
   rw[Lr h hE (.inr rfl)];exact dY ⟨by omega,by omega⟩
  rw[dN c1,dY c2,dN (show¬root>=P by omega),eE,Ol h hE (.inr rfl),XB,wi]
  have ld:(kK m (root*128+4*(va/128)) 4).1=m.getD (dF (wrap .u32 (eU (root*128+4*(va/128)) 4))) 0:=by
   simp only[kK,AG,Tree.m,dd,wi];rfl
  rw[ld]
  generalize m.getD (dF (wrap .u32 (eU (root*128+4*(va/128)) 4))) 0=w
  have fo:XC w=bf .u32 (bg .u32 w 8) 255:=(fld w).2.2.2.2
  rw[fo,IW (I7 _ _)]
  have pJ:decide (bf .u32 (bg .u32 w 8) 255>=(P:Int))=!decide (bf .u32 (bg .u32 w 8) 255<(P:Int)):=by
   by_cases hq:bf .u32 (bg .u32 w 8) 255<(P:Int)
   ·rw[dY hq,dN (by omega)];rfl
   ·rw[dN hq,dY (by omega)];rfl
  rw[pJ]
  generalize decide (bf .u32 (bg .u32 w 8) 255<(P:Int))=d
  rcases ha with rfl|rfl|rfl
  ·show _=(bif bf .u32 w 1==0 then _ else bif bf .u32 w 4==0 then _ else bif !d then _ else _)
   have:Tz w 1=(bif bf .u32 w 1==0 then false else !(bf .u32 w 4==0)):=rfl
   rw[this]
   cases bf .u32 w 1==0<;>cases bf .u32 w 4==0<;>cases d<;>rfl
  ·show _=(bif bf .u32 w 1==0 then _ else bif !d then _ else _)
   have:Tz w 2=(bif bf .u32 w 1==0 then false else true):=rfl
   rw[this]
   cases bf .u32 w 1==0<;>cases d<;>rfl
  ·show _=(bif bf .u32 w 1==0 then _ else bif bf .u32 w 2==0 then _ else bif !d then _ else _)
   have:Tz w 3=(bif bf .u32 w 1==0 then false else !(bf .u32 w 2==0)):=rfl
   rw[this]
   cases bf .u32 w 1==0<;>cases bf .u32 w 2==0<;>cases d<;>rfl
 ·rw[dN c1,dN c2,dY (show root>=P by omega)];rfl
theorem Zp1{a:Int}(ha:U a)(access:Int):On m a access=TA m a access:=by
 have gm:jC m=m:=rfl
 have hl:=h.len
 have a0:=ha.1
 simp only[On,Ly,TA,Lz,Tree.m,dd,Ol h ha (.inr rfl),XB,Z9g h ha (.inr rfl),gm]
 cases hw:rS m a 4
 ·rfl
 ·rw[Lr h ha (.inr rfl)]at hw
  have hw:=oY hw
  have wi:rS m a 4=true:=by rw[Lr h ha (.inr rfl)];exact dY hw
  have ld:(kK m a 4).1=m.getD (dF (wrap .u32 (eU a 4))) 0:=by
   simp only[kK,AG,Tree.m,dd,wi];rfl
  have pu:∀v,Bl m a 4 v=m.set (dF (wrap .u32 (eU a 4))) v:=λv=>rfl
  rw[ld,pu,pu]
  have hi:dF (wrap .u32 (eU a 4))<m.length:=by
   rw[eV a0,wrap_u32];omega
  generalize dF (wrap .u32 (eU a 4))=i at*
  rw[Que hi,List.set_set]
  rfl
end
theorem Oo{c:bh}(h0:0<=c.B4.a0)(h:c.B4.a0<=31)(k b:Int):rk c k b=pP c k b:=by
 have e:=eq_of_beq (Fq (λs=>nQ .u32 (iq .u32 (AA (AA s 1 8) 2 16) 1) 2==iq .u32 (nQ .u32 (iq .u32 (iq .u32 (nQ .u32 s 24) (wrap .u32 (8*Cq (bf .u32 s 1 !=0)))) (wrap .u32 (16*Cq (bf .u32 s 2 !=0)))) 2) 1) 32 (by kernel_rfl) h0 (by omega))
 simp only[rk,Oq,pP,Ot,Tree.m,dd,e]
theorem Ziy{c:bh}(h0:0<=c.B4.a0)(h:c.B4.a0<=31):Li c=TB c:=by
 have e:=eq_of_beq (Fq (λs=>AA (AA s 8 1) 16 2==iq .u32 (iq .u32 (nQ .u32 s 3) (wrap .u32 (1*Cq (bf .u32 s 8 !=0)))) (wrap .u32 (2*Cq (bf .u32 s 16 !=0)))) 32 (by kernel_rfl) h0 (by omega))
 simp only[Li,Ou,TB,Ov,Tree.m,dd,e]
theorem Z96{c:bh}(h0:0<=c.B4.a0)(h:c.B4.a0<=31):TC c=(!G0 c&&(bf .u32 c.B4.a0 4 !=0)):=
 eq_of_beq (Fq (λs=>(bf .u32 s 5==4)==(!(bf .u32 s 1 !=0)&&(bf .u32 s 4 !=0))) 32 (by kernel_rfl) h0 (by omega))
theorem TE(c:bh){r:Int}(hr:0<=r/\r<16)(v:Int):ur c r v=lD c r v:=by
 simp only[ur,Fm,lD,Jb,Tree.m]
 by_cases h:r=0
 ·subst h;rfl
 ·rw[dY (show r>0 by omega),dY hr.2,show(r !=0)=true by simpa using h];rfl
theorem xK{a b:Int}(ha:U a)(hb:U b):LA a b=LB a b:=by
 obtain⟨a0,a1⟩:=ha
 obtain⟨b0,b1⟩:=hb
 have i:∀x,wrap .i64 (wrap .i32 x)=wrap .i32 x:=λx=>by rw[wrap_i64,wrap_i32];omega
 have r32:∀x,-2147483648<=wrap .i32 x/\wrap .i32 x<2147483648:=λx=>by rw[wrap_i32];omega
 have q32:∀x y:Int,-2147483648<=x/\x<2147483648-> -2147483648<=eU x y/\eU x y<=2147483648:=λx y hx=>by
  have h1:(eU x y).natAbs<=x.natAbs:=by rw[Int.natAbs_tdiv];exact Nat.div_le_self _ _
  omega
 simp only[LA,LC,LB,LD,Tree.m,i]
 cases hb:b==0
 ·have w:∀z,wrap .u32 (wrap .i32 z)=wrap .u32 z:=λz=>by rw[wrap_i32,wrap_u32,wrap_u32];omega
  have w2:wrap .i64 (eU (wrap .i32 a) (wrap .i32 b))=eU (wrap .i32 a) (wrap .i32 b):=by
   have:=q32 _ (wrap .i32 b) (r32 a)
   rw[wrap_i64];omega
  rw[w,w2]
  cases h1:a==2147483648
  ·rfl
  ·cases h2:b==4294967295
   ·rfl
   ·have h1:=eq_of_beq h1
    have h2:=eq_of_beq h2
    subst h1;subst h2
    rfl
 ·rfl
theorem zK{op a b:Int}(h0:1<=op)(h1:op<=23)(ha:U a)(hb:U b):nK op a b=DZ op a b:=by
 have sub:wrap .u32 (a+wrap .u32 (0-b))=wrap .u32 (a-b):=by
  rw[wrap_u32,wrap_u32,wrap_u32];omega
 have rM:op=1\/op=2\/op=3\/op=4\/op=5\/op=6\/op=7\/op=8\/op=9\/op=10\/op=11\/op=12\/op=13\/op=14\/op=15\/op=16\/op=17\/op=18\/op=19\/op=20\/op=21\/op=22\/op=23:=by omega
 have d:=xK ha hb
 rcases rM with rfl|rfl|rfl|rfl|rfl|rfl|rfl|rfl|rfl|rfl|rfl|rfl|rfl|rfl|rfl|rfl|rfl|rfl|rfl|rfl|rfl|rfl|rfl
 ·rfl
 ·show(wrap .u32 (a+wrap .u32 (0-b)),true)=(wrap .u32 (a-b),true)
  rw[sub]
 ·rfl
 ·rfl
 ·rfl
 ·rfl
 ·rfl
 ·rfl
 ·rfl
 ·show((LA a b).1,true)=((LB a b).1,true)
  rw[d]
 ·show((LA a b).2,true)=((LB a b).2,true)
  rw[d]
 all_goals rfl
theorem XD{P:Nat}{m:List Int}(h:ek P m){c:bh}(hc:iw c)(jT:c.B4.a0<=31){va:Int}(hv:U va){size:Int}(hs:size=1\/size=4){access:Int}(ha:access=1\/access=2\/access=3):rT c m va size access=((lF c m va size access).1,(lF c m va size access).2.2,(lF c m va size access).2.1):=by
 have gm:jC m=m:=rfl
 have kn:Lw access=true:=by rcases ha with rfl|rfl|rfl<;>rfl
 have ca:Qsu access=(tE access,true):=by rcases ha with rfl|rfl|rfl<;>rfl
 have pg:=Z96 hc.a0.1 jT
 have wk:=yj h hc.a6 hv ha
 have tc:On m (AH m c.B4.a6 va access).F3 access=TA m (AH m c.B4.a6 va access).F3 access:=Zp1 h (Tree.pp (zaa h hc.a6 hv access)).2.2.1 access
 have sz:(bif size !=1 then bif size !=4 then false else true else true)=true:=by rcases hs with rfl|rfl<;>rfl
 simp only[rT,LF,lF,G1,Tree.m,dd,gm,kn,ca,pg,wk,tc,Ol h hv hs,XB]
 rcases hs with rfl|rfl<;>
 ·show(bif _ then _ else _)=_
  cases dE va _ !=0<;>cases G0 c<;>cases bf .u32 c.B4.a0 4 !=0<;>cases(AH m c.B4.a6 va access).F0 !=0<;>cases rS m va _<;>rfl
theorem XE{α:Type}{Q:α->Prop}{c:Bool}{x y:α}(hx:Q x)(hy:Q y):Q (cond c x y):=by cases c<;>assumption
theorem zan(m:List Int)(root:Int){va:Int}(hv:U va)(access:Int):(AH m root va access).F0=0->(AH m root va access).Addr%4=va%4:=by
 have hc:tE access≠0:=by
   simp only[tE,LG,Tree.m]
   cases access==1<;>cases access==3<;>simp
 have q :(λt:rJ=>t.F0=0->t.Addr%4=va%4) (AH m root va access):=by
   simp only[AH,GZ,Tree.m,dd]
   repeat'(first
     |exact λe=>absurd e hc
     | (intro _
        show wrap .u32 (wrap .u32 (_*128)+dE va 128)%4=va%4
        rw[eF hv.1,wrap_u32,wrap_u32];omega)
     |refine XE (Q:=λt:rJ=>t.F0=0->t.Addr%4=va%4) ?_ ?_)
 exact q
theorem yK{c:bh}{m:List Int}{va:Int}(hv:U va){size:Int}(hs:size=1\/size=4){access:Int}(ha:access=1\/access=2\/access=3):(lF c m va size access).2.1=0->(lF c m va size access).1%size=0:=by
 have kn:Lw access=true:=by rcases ha with rfl|rfl|rfl<;>rfl
 have hc:tE access≠0:=by
  simp only[tE,LG,Tree.m]
  cases access==1<;>cases access==3<;>simp
 rcases hs with rfl|rfl
 ·intro _;omega
 simp only[lF,G1,Tree.m,dd,kn]
 show(bif dE va 4 !=0 then((0:Int),(3:Int),m)else _).2.1=0->(bif dE va 4 !=0 then((0:Int),(3:Int),m)else _).1%4=0
 rw[eF hv.1]
 cases hz:va%4 !=0
 ·have hz:va%4=0:=by simpa using hz
  have w:=zan m c.B4.a6 hv access
  cases hp:TC c
  ·cases hw:rS m va 4
   ·exactλe=>absurd e hc
   ·exactλ_=>hz
  ·cases hq:(AH m c.B4.a6 va access).F0 !=0
   ·have hq:(AH m c.B4.a6 va access).F0=0:=by simpa using hq
    exactλ_=>(w hq).trans hz
   ·have hq:¬(AH m c.B4.a6 va access).F0=0:=by simpa using hq
    exactλe=>absurd e hq
 ·intro e;cases e
def dj:kI:={C0:=0,D0:=0,D9:=0,Value:=0}
def jK(c:bh)(m:List Int)(i:gu):bh×List Int×kI:=
 bif i.Op==32 then((tF c m i).1,(tF c m i).2,dj)else bif i.Op==33 then((tF c m i).1,(tF c m i).2,dj)else bif i.Op==34 then((tF c m i).1,(tF c m i).2,dj)
 else bif i.Op==35 then((Cr c m i).1,(Cr c m i).2,dj)else bif i.Op==36 then((Cr c m i).1,(Cr c m i).2,dj)else((XF c i).1,m,(XF c i).2)
def db(c:bh)(r:Int):Int:=aK (iS.l c.X) r.toNat 0
def oU(c:bh)(m:List Int)(i:gu):bh×kI×List Int:=
 bif decide (i.Op>=56)then((TF c i).1,(TF c i).2,m)else bif decide (i.Op>=40)then(Z4t c i,dj,m)else bif decide (i.Op>=32)then((G2 c m i).1,dj,(G2 c m i).2)
 else bif i.Op==24 then({X:=(lD c i.A (eg .u32 (wrap .u32 i.bn) 16)).X,Pc:=wrap .u32 ((lD c i.A (eg .u32 (wrap .u32 i.bn) 16)).Pc+4),B4:=(lD c i.A (eg .u32 (wrap .u32 i.bn) 16)).B4},dj,m)
 else bif decide (i.Op<=13)then
  ({X:=(lD c i.A (DZ i.Op (db c i.B) (db c i.C)).1).X,Pc:=wrap .u32 ((lD c i.A (DZ i.Op (db c i.B) (db c i.C)).1).Pc+4),B4:=(lD c i.A (DZ i.Op (db c i.B) (db c i.C)).1).B4},dj,m)
 else({X:=(lD c i.A (DZ i.Op (db c i.B) (wrap .u32 i.bn)).1).X,Pc:=wrap .u32 ((lD c i.A (DZ i.Op (db c i.B) (wrap .u32 i.bn)).1).Pc+4),B4:=(lD c i.A (DZ i.Op (db c i.B) (wrap .u32 i.bn)).1).B4},dj,m)
def pw(op:Int):Prop:=op=1\/op=2\/op=3\/op=4\/op=5\/op=6\/op=7\/op=8\/op=9\/op=10\/op=11\/op=12\/op=13\/op=16\/op=17\/op=18\/op=19\/op=20\/op=21\/op=22\/op=23\/op=24\/op=32\/op=33\/op=34\/op=35\/op=36\/op=40\/op=41\/op=42\/op=43\/op=44\/op=45\/op=48\/op=49\/op=56\/op=57\/op=58\/op=59\/op=60\/op=61\/op=62\/op=63\/op=64
theorem qY(c:bh)(r v:Int):(lD c r v).Pc=c.Pc/\(lD c r v).B4=c.B4:=by
 simp only[lD,Jb,Tree.m]
 cases decide (r>0)
 ·exact⟨rfl,rfl⟩
 ·cases decide (r<16)<;>exact⟨rfl,rfl⟩
def Jc(c:bh):bh:={X:=c.X,Pc:=wrap .u32 (c.Pc+4),B4:=c.B4}
def va(c:bh)(B bn:Int):Int:=wrap .u32 (aK (iS.l c.X) B.toNat 0+wrap .u32 bn)
def Ow(c:bh)(A v size:Int)(f:Int->Int)(y:Int×List Int×Int):bh×List Int:=bif y.2.2 !=0 then(rk c y.2.2 v,y.2.1)else(Jc (ur c A (f (Cp y.2.1 y.1 size).1)),y.2.1)
def Ox(c:bh)(A v size:Int)(f:Int->Int)(x:Int×Int×List Int):bh×List Int:=bif x.2.1 !=0 then(pP c x.2.1 v,x.2.2)else(Jc (lD c A (f (kK x.2.2 x.1 size).1)),x.2.2)
def TG(c:bh)(A v size:Int)(y:Int×List Int×Int):bh×List Int:=bif y.2.2 !=0 then(rk c y.2.2 v,y.2.1)else(Jc c,(Lu y.2.1 y.1 size (aK (iS.l c.X) A.toNat 0)).1)
def TH(c:bh)(A v size:Int)(x:Int×Int×List Int):bh×List Int:=bif x.2.1 !=0 then(pP c x.2.1 v,x.2.2)else(Jc c,Bl x.2.2 x.1 size (aK (iS.l c.X) A.toNat 0))
theorem Oy(c:bh)(m:List Int)(A B C bn:Int):
 (tF c m ⟨32,A,B,C,bn⟩=Ow c A (va c B bn) 4 (λv=>v) (rT c m (va c B bn) 4 2)/\G2 c m ⟨32,A,B,C,bn⟩=Ox c A (va c B bn) 4 (λv=>v) (lF c m (va c B bn) 4 2))/\
 (tF c m ⟨33,A,B,C,bn⟩=Ow c A (va c B bn) 1 (λv=>DU v 8) (rT c m (va c B bn) 1 2)/\G2 c m ⟨33,A,B,C,bn⟩=Ox c A (va c B bn) 1 (λv=>GS v 8) (lF c m (va c B bn) 1 2))/\
 (tF c m ⟨34,A,B,C,bn⟩=Ow c A (va c B bn) 1 (λv=>v) (rT c m (va c B bn) 1 2)/\G2 c m ⟨34,A,B,C,bn⟩=Ox c A (va c B bn) 1 (λv=>v) (lF c m (va c B bn) 1 2))/\
 (Cr c m ⟨35,A,B,C,bn⟩=TG c A (va c B bn) 4 (rT c m (va c B bn) 4 3)/\G2 c m ⟨35,A,B,C,bn⟩=TH c A (va c B bn) 4 (lF c m (va c B bn) 4 3))/\
 (Cr c m ⟨36,A,B,C,bn⟩=TG c A (va c B bn) 1 (rT c m (va c B bn) 1 3)/\G2 c m ⟨36,A,B,C,bn⟩=TH c A (va c B bn) 1 (lF c m (va c B bn) 1 3)):=
 ⟨⟨by kernel_rfl,by kernel_rfl⟩,⟨by kernel_rfl,by kernel_rfl⟩,⟨by kernel_rfl,by kernel_rfl⟩,⟨by kernel_rfl,by kernel_rfl⟩,⟨by kernel_rfl,by kernel_rfl⟩⟩
theorem xan{P:Nat}{m:List Int}(h:ek P m)(a:Int):DU (kK m a 1).1 8=GS (kK m a 1).1 8:=by
 have:∀x:Int×Bool,(∃w,U w/\x=(bf .u32 w 255,true))\/x=(0,false)->DU x.1 8=GS x.1 8:=λx hx=>by
  rcases hx with⟨w,hw,rfl⟩|rfl
  ·have e:=Cl hw
   exact sx8 (by show 0<=bf .u32 w 255;omega) (by show bf .u32 w 255<256;omega)
  ·rfl
 refine this _ ?_
 simp only[kK,AG,Tree.m,dd]
 cases rS m a 1
 ·exact .inr rfl
 ·exact .inl ⟨_,AD (AE h.u _) _,rfl⟩
section
variable {P:Nat} {m:List Int} (h:ek P m) {c:bh} (hc:iw c) (jT:c.B4.a0<=31)
include h hc jT
omit jT in
theorem XG{v:Int}(hv:U v){size:Int}(hs:size=1\/size=4)(access:Int):ek P (lF c m v size access).2.2/\U (lF c m v size access).1/\((lF c m v size access).2.1=0->(lF c m v size access).1<128*P):=(Tree.pp (TJ h hc hv hs access)).2
theorem XH{A v:Int}(hA:0<=A/\A<16)(hv:U v){size:Int}(hs:size=1\/size=4){f g:Int->Int}(hf:∀{m':List Int},ek P m'->∀a,f (kK m' a size).1=g (kK m' a size).1):Ow c A v size f (rT c m v size 2)=Ox c A v size g (lF c m v size 2):=by
 rw[XD h hc jT hv hs (.inr (.inl rfl))]
 obtain⟨k,u,_⟩:=XG h hc hv hs 2
 generalize lF c m v size 2=x at*
 simp only[Ow,Ox,Ol k u hs,Oo hc.a0.1 jT,TE c hA,hf k]
theorem vj{A v:Int}(hv:U v){size:Int}(hs:size=1\/size=4):TG c A v size (rT c m v size 3)=TH c A v size (lF c m v size 3):=by
 rw[XD h hc jT hv hs (.inr (.inr rfl))]
 obtain⟨k,u,b⟩:=XG h hc hv hs 3
 have al:=yK (c:=c) (m:=m) hv hs (access:=3) (.inr (.inr rfl))
 generalize lF c m v size 3=x at*
 simp only[TG,TH,Z9g k u hs,Oo hc.a0.1 jT,Lr k u hs]
 cases hq:x.2.1 !=0
 ·have hq:x.2.1=0:=by simpa using hq
  rw[dY ⟨al hq,b hq⟩];rfl
 ·rfl
end
theorem vK(c:bh)(k v:Int):(Oz c k v).Pc=c.Pc:=by
 simp only[Oz,LH,Tree.m]
 repeat'(first|rfl|refine XE (Q:=λx:bh=>x.Pc=c.Pc) ?_ ?_)
def jf(c:bh)(A v p:Int):bh:={X:=(ur c A v).X,Pc:=p,B4:=(ur c A v).B4}
def Fs(c:bh)(A v p:Int):bh:={X:=(lD c A v).X,Pc:=p,B4:=(lD c A v).B4}
def jG(c:bh):Int:=wrap .u32 (c.Pc+4)
theorem OA(c:bh){A:Int}(hA:0<=A/\A<16)(v p:Int):jf c A v p=Fs c A v p:=by
 unfold jf Fs;rw[TE c hA]
theorem XI(c:bh)(A v:Int):Jc (lD c A v)=Fs c A v (jG c):=by
 unfold Jc Fs jG;rw[(qY c A v).1]
theorem LI(t:Bool)(x y:bh)(m:List Int):((bif t then(x,dj)else(y,dj)).1,m,(bif t then(x,dj)else(y,dj)).2)=((bif t then x else y),m,dj):=by cases t<;>rfl
def G3(op:Int):Bool:=decide (op=1)||decide (op=2)||decide (op=3)||decide (op=4)||decide (op=5)||decide (op=6)||decide (op=7)||decide (op=8)||decide (op=9)||decide (op=10)||decide (op=11)||decide (op=12)||decide (op=13)||decide (op=16)||decide (op=17)||decide (op=18)||decide (op=19)||decide (op=20)||decide (op=21)||decide (op=22)||decide (op=23)||decide (op=24)||decide (op=32)||decide (op=33)||decide (op=34)||decide (op=35)||decide (op=36)||decide (op=40)||decide (op=41)||decide (op=42)||decide (op=43)||decide (op=44)||decide (op=45)||decide (op=48)||decide (op=49)||decide (op=56)||decide (op=57)||decide (op=58)||decide (op=59)||decide (op=60)||decide (op=61)||decide (op=62)||decide (op=63)||decide (op=64)
section
variable {P:Nat} {m:List Int} (h:ek P m) {c:bh} (hc:iw c) (jT:c.B4.a0<=31) {A B C bn:Int} (hA:0<=A/\A<16)
include h hc jT hA
theorem qk{op:Int}(rM:pw op):jK c m ⟨op,A,B,C,bn⟩=((oU c m ⟨op,A,B,C,bn⟩).1,(oU c m ⟨op,A,B,C,bn⟩).2.2,(oU c m ⟨op,A,B,C,bn⟩).2.1):=by
 have px:∀{k y:Int},1<=k->k<=23->U y->((jf c A (nK k (db c B) y).1 (jG c),m,dj):bh×List Int×kI)=(Jc (lD c A (DZ k (db c B) y).1),m,dj):=λh1 h2 hy=>by
  rw[zK h1 h2 (show U (db c B) from hc.r _) hy,XI,OA c hA]
 have uC:U (db c C):=hc.r _
 have uI:U (wrap .u32 bn):=fi _
 obtain⟨⟨l1,l2⟩,⟨l3,l4⟩,⟨l5,l6⟩,⟨l7,l8⟩,⟨l9,l10⟩⟩:=Oy c m A B C bn
 have Ea:U (va c B bn):=fi _
 rcases rM with rfl|rfl|rfl|rfl|rfl|rfl|rfl|rfl|rfl|rfl|rfl|rfl|rfl|rfl|rfl|rfl|rfl|rfl|rfl|rfl|rfl|rfl|rfl|rfl|rfl|rfl|rfl|rfl|rfl|rfl|rfl|rfl|rfl|rfl|rfl|rfl|rfl|rfl|rfl|rfl|rfl|rfl|rfl|rfl
 ·exact(show jK c m ⟨1,A,B,C,bn⟩=(jf c A (nK 1 (db c B) (db c C)).1 (jG c),m,dj) by kernel_rfl).trans ((px (by decide) (by decide) uC).trans (by kernel_rfl))
 ·exact(show jK c m ⟨2,A,B,C,bn⟩=(jf c A (nK 2 (db c B) (db c C)).1 (jG c),m,dj) by kernel_rfl).trans ((px (by decide) (by decide) uC).trans (by kernel_rfl))
 ·exact(show jK c m ⟨3,A,B,C,bn⟩=(jf c A (nK 3 (db c B) (db c C)).1 (jG c),m,dj) by kernel_rfl).trans ((px (by decide) (by decide) uC).trans (by kernel_rfl))
 ·exact(show jK c m ⟨4,A,B,C,bn⟩=(jf c A (nK 4 (db c B) (db c C)).1 (jG c),m,dj) by kernel_rfl).trans ((px (by decide) (by decide) uC).trans (by kernel_rfl))
 ·exact(show jK c m ⟨5,A,B,C,bn⟩=(jf c A (nK 5 (db c B) (db c C)).1 (jG c),m,dj) by kernel_rfl).trans ((px (by decide) (by decide) uC).trans (by kernel_rfl))
 ·exact(show jK c m ⟨6,A,B,C,bn⟩=(jf c A (nK 6 (db c B) (db c C)).1 (jG c),m,dj) by kernel_rfl).trans ((px (by decide) (by decide) uC).trans (by kernel_rfl))
 ·exact(show jK c m ⟨7,A,B,C,bn⟩=(jf c A (nK 7 (db c B) (db c C)).1 (jG c),m,dj) by kernel_rfl).trans ((px (by decide) (by decide) uC).trans (by kernel_rfl))
 ·exact(show jK c m ⟨8,A,B,C,bn⟩=(jf c A (nK 8 (db c B) (db c C)).1 (jG c),m,dj) by kernel_rfl).trans ((px (by decide) (by decide) uC).trans (by kernel_rfl))
 ·exact(show jK c m ⟨9,A,B,C,bn⟩=(jf c A (nK 9 (db c B) (db c C)).1 (jG c),m,dj) by kernel_rfl).trans ((px (by decide) (by decide) uC).trans (by kernel_rfl))
 ·exact(show jK c m ⟨10,A,B,C,bn⟩=(jf c A (nK 10 (db c B) (db c C)).1 (jG c),m,dj) by kernel_rfl).trans ((px (by decide) (by decide) uC).trans (by kernel_rfl))
 ·exact(show jK c m ⟨11,A,B,C,bn⟩=(jf c A (nK 11 (db c B) (db c C)).1 (jG c),m,dj) by kernel_rfl).trans ((px (by decide) (by decide) uC).trans (by kernel_rfl))
 ·exact(show jK c m ⟨12,A,B,C,bn⟩=(jf c A (nK 12 (db c B) (db c C)).1 (jG c),m,dj) by kernel_rfl).trans ((px (by decide) (by decide) uC).trans (by kernel_rfl))
 ·exact(show jK c m ⟨13,A,B,C,bn⟩=(jf c A (nK 13 (db c B) (db c C)).1 (jG c),m,dj) by kernel_rfl).trans ((px (by decide) (by decide) uC).trans (by kernel_rfl))
 ·exact(show jK c m ⟨16,A,B,C,bn⟩=(jf c A (nK 16 (db c B) (wrap .u32 bn)).1 (jG c),m,dj) by kernel_rfl).trans ((px (by decide) (by decide) uI).trans (by kernel_rfl))
 ·exact(show jK c m ⟨17,A,B,C,bn⟩=(jf c A (nK 17 (db c B) (wrap .u32 bn)).1 (jG c),m,dj) by kernel_rfl).trans ((px (by decide) (by decide) uI).trans (by kernel_rfl))
 ·exact(show jK c m ⟨18,A,B,C,bn⟩=(jf c A (nK 18 (db c B) (wrap .u32 bn)).1 (jG c),m,dj) by kernel_rfl).trans ((px (by decide) (by decide) uI).trans (by kernel_rfl))
 ·exact(show jK c m ⟨19,A,B,C,bn⟩=(jf c A (nK 19 (db c B) (wrap .u32 bn)).1 (jG c),m,dj) by kernel_rfl).trans ((px (by decide) (by decide) uI).trans (by kernel_rfl))
 ·exact(show jK c m ⟨20,A,B,C,bn⟩=(jf c A (nK 20 (db c B) (wrap .u32 bn)).1 (jG c),m,dj) by kernel_rfl).trans ((px (by decide) (by decide) uI).trans (by kernel_rfl))
 ·exact(show jK c m ⟨21,A,B,C,bn⟩=(jf c A (nK 21 (db c B) (wrap .u32 bn)).1 (jG c),m,dj) by kernel_rfl).trans ((px (by decide) (by decide) uI).trans (by kernel_rfl))
 ·exact(show jK c m ⟨22,A,B,C,bn⟩=(jf c A (nK 22 (db c B) (wrap .u32 bn)).1 (jG c),m,dj) by kernel_rfl).trans ((px (by decide) (by decide) uI).trans (by kernel_rfl))
 ·exact(show jK c m ⟨23,A,B,C,bn⟩=(jf c A (nK 23 (db c B) (wrap .u32 bn)).1 (jG c),m,dj) by kernel_rfl).trans ((px (by decide) (by decide) uI).trans (by kernel_rfl))
 ·refine(show jK c m ⟨24,A,B,C,bn⟩=(jf c A (eg .u32 (wrap .u32 bn) 16) (jG c),m,dj) by kernel_rfl).trans ?_
  rw[OA c hA,<-XI];kernel_rfl
 ·have e:=XH h hc jT hA Ea (.inr rfl) (f:=λv=>v) (g:=λv=>v) (λ_ _=>rfl)
  rw[<-l1,<-l2]at e
  refine(show jK c m ⟨32,A,B,C,bn⟩=((tF c m ⟨32,A,B,C,bn⟩).1,(tF c m ⟨32,A,B,C,bn⟩).2,dj) by kernel_rfl).trans ?_
  rw[e];kernel_rfl
 ·have e:=XH h hc jT hA Ea (.inl rfl) (f:=λv=>DU v 8) (g:=λv=>GS v 8) (λhm a=>xan hm a)
  rw[<-l3,<-l4]at e
  refine(show jK c m ⟨33,A,B,C,bn⟩=((tF c m ⟨33,A,B,C,bn⟩).1,(tF c m ⟨33,A,B,C,bn⟩).2,dj) by kernel_rfl).trans ?_
  rw[e];kernel_rfl
 ·have e:=XH h hc jT hA Ea (.inl rfl) (f:=λv=>v) (g:=λv=>v) (λ_ _=>rfl)
  rw[<-l5,<-l6]at e
  refine(show jK c m ⟨34,A,B,C,bn⟩=((tF c m ⟨34,A,B,C,bn⟩).1,(tF c m ⟨34,A,B,C,bn⟩).2,dj) by kernel_rfl).trans ?_
  rw[e];kernel_rfl
 ·have e:=vj h hc jT (A:=A) Ea (.inr rfl)
  rw[<-l7,<-l8]at e
  refine(show jK c m ⟨35,A,B,C,bn⟩=((Cr c m ⟨35,A,B,C,bn⟩).1,(Cr c m ⟨35,A,B,C,bn⟩).2,dj) by kernel_rfl).trans ?_
  rw[e];kernel_rfl
 ·have e:=vj h hc jT (A:=A) Ea (.inl rfl)
  rw[<-l9,<-l10]at e
  refine(show jK c m ⟨36,A,B,C,bn⟩=((Cr c m ⟨36,A,B,C,bn⟩).1,(Cr c m ⟨36,A,B,C,bn⟩).2,dj) by kernel_rfl).trans ?_
  rw[e];kernel_rfl
 ·exact(show jK c m ⟨40,A,B,C,bn⟩=((bif(rm 40 (db c A) (db c B))then((⟨c.X,wrap .u32 (c.Pc+wrap .u32 (4*wrap .u32 bn)),c.B4⟩:bh),dj)else(⟨c.X,jG c,c.B4⟩,dj)).1,m,(bif(rm 40 (db c A) (db c B))then((⟨c.X,wrap .u32 (c.Pc+wrap .u32 (4*wrap .u32 bn)),c.B4⟩:bh),dj)else(⟨c.X,jG c,c.B4⟩,dj)).2) by kernel_rfl).trans ((LI (rm 40 (db c A) (db c B)) ⟨c.X,wrap .u32 (c.Pc+wrap .u32 (4*wrap .u32 bn)),c.B4⟩ ⟨c.X,jG c,c.B4⟩ m).trans (by kernel_rfl))
 ·exact(show jK c m ⟨41,A,B,C,bn⟩=((bif(rm 41 (db c A) (db c B))then((⟨c.X,wrap .u32 (c.Pc+wrap .u32 (4*wrap .u32 bn)),c.B4⟩:bh),dj)else(⟨c.X,jG c,c.B4⟩,dj)).1,m,(bif(rm 41 (db c A) (db c B))then((⟨c.X,wrap .u32 (c.Pc+wrap .u32 (4*wrap .u32 bn)),c.B4⟩:bh),dj)else(⟨c.X,jG c,c.B4⟩,dj)).2) by kernel_rfl).trans ((LI (rm 41 (db c A) (db c B)) ⟨c.X,wrap .u32 (c.Pc+wrap .u32 (4*wrap .u32 bn)),c.B4⟩ ⟨c.X,jG c,c.B4⟩ m).trans (by kernel_rfl))
 ·exact(show jK c m ⟨42,A,B,C,bn⟩=((bif(rm 42 (db c A) (db c B))then((⟨c.X,wrap .u32 (c.Pc+wrap .u32 (4*wrap .u32 bn)),c.B4⟩:bh),dj)else(⟨c.X,jG c,c.B4⟩,dj)).1,m,(bif(rm 42 (db c A) (db c B))then((⟨c.X,wrap .u32 (c.Pc+wrap .u32 (4*wrap .u32 bn)),c.B4⟩:bh),dj)else(⟨c.X,jG c,c.B4⟩,dj)).2) by kernel_rfl).trans ((LI (rm 42 (db c A) (db c B)) ⟨c.X,wrap .u32 (c.Pc+wrap .u32 (4*wrap .u32 bn)),c.B4⟩ ⟨c.X,jG c,c.B4⟩ m).trans (by kernel_rfl))
 ·exact(show jK c m ⟨43,A,B,C,bn⟩=((bif(rm 43 (db c A) (db c B))then((⟨c.X,wrap .u32 (c.Pc+wrap .u32 (4*wrap .u32 bn)),c.B4⟩:bh),dj)else(⟨c.X,jG c,c.B4⟩,dj)).1,m,(bif(rm 43 (db c A) (db c B))then((⟨c.X,wrap .u32 (c.Pc+wrap .u32 (4*wrap .u32 bn)),c.B4⟩:bh),dj)else(⟨c.X,jG c,c.B4⟩,dj)).2) by kernel_rfl).trans ((LI (rm 43 (db c A) (db c B)) ⟨c.X,wrap .u32 (c.Pc+wrap .u32 (4*wrap .u32 bn)),c.B4⟩ ⟨c.X,jG c,c.B4⟩ m).trans (by kernel_rfl))
 ·exact(show jK c m ⟨44,A,B,C,bn⟩=((bif(rm 44 (db c A) (db c B))then((⟨c.X,wrap .u32 (c.Pc+wrap .u32 (4*wrap .u32 bn)),c.B4⟩:bh),dj)else(⟨c.X,jG c,c.B4⟩,dj)).1,m,(bif(rm 44 (db c A) (db c B))then((⟨c.X,wrap .u32 (c.Pc+wrap .u32 (4*wrap .u32 bn)),c.B4⟩:bh),dj)else(⟨c.X,jG c,c.B4⟩,dj)).2) by kernel_rfl).trans ((LI (rm 44 (db c A) (db c B)) ⟨c.X,wrap .u32 (c.Pc+wrap .u32 (4*wrap .u32 bn)),c.B4⟩ ⟨c.X,jG c,c.B4⟩ m).trans (by kernel_rfl))
 ·exact(show jK c m ⟨45,A,B,C,bn⟩=((bif(rm 45 (db c A) (db c B))then((⟨c.X,wrap .u32 (c.Pc+wrap .u32 (4*wrap .u32 bn)),c.B4⟩:bh),dj)else(⟨c.X,jG c,c.B4⟩,dj)).1,m,(bif(rm 45 (db c A) (db c B))then((⟨c.X,wrap .u32 (c.Pc+wrap .u32 (4*wrap .u32 bn)),c.B4⟩:bh),dj)else(⟨c.X,jG c,c.B4⟩,dj)).2) by kernel_rfl).trans ((LI (rm 45 (db c A) (db c B)) ⟨c.X,wrap .u32 (c.Pc+wrap .u32 (4*wrap .u32 bn)),c.B4⟩ ⟨c.X,jG c,c.B4⟩ m).trans (by kernel_rfl))
 ·refine(show jK c m ⟨48,A,B,C,bn⟩=(jf c A (jG c) (wrap .u32 ((ur c A (jG c)).Pc+wrap .u32 (4*wrap .u32 bn))),m,dj) by kernel_rfl).trans ?_
  rw[OA c hA,TE c hA,(qY c A (jG c)).1];kernel_rfl
 ·refine(show jK c m ⟨49,A,B,C,bn⟩=(jf c A (jG c) (va c B bn),m,dj) by kernel_rfl).trans ?_
  rw[OA c hA];kernel_rfl
 ·refine(show jK c m ⟨56,A,B,C,bn⟩=(rk c 7 0,m,dj) by kernel_rfl).trans ?_
  rw[Oo hc.a0.1 jT];kernel_rfl
 ·refine(show jK c m ⟨57,A,B,C,bn⟩=(Li c,m,dj) by kernel_rfl).trans ?_
  rw[Ziy hc.a0.1 jT];kernel_rfl
 ·refine(show jK c m ⟨58,A,B,C,bn⟩=(jf c A (aK (A8.l c.B4) bn.toNat 0) (jG c),m,dj) by kernel_rfl).trans ?_
  rw[OA c hA,<-XI];kernel_rfl
 ·have e:=vK c (wrap .i64 bn) (db c A)
  refine(show jK c m ⟨59,A,B,C,bn⟩=((⟨(Oz c (wrap .i64 bn) (db c A)).X,wrap .u32 (c.Pc+4),(Oz c (wrap .i64 bn) (db c A)).B4⟩:bh),m,dj) by kernel_rfl).trans ?_
  rw[<-e];kernel_rfl
 ·exact(show jK c m ⟨60,A,B,C,bn⟩=((oU c m ⟨60,A,B,C,bn⟩).1,(oU c m ⟨60,A,B,C,bn⟩).2.2,(oU c m ⟨60,A,B,C,bn⟩).2.1) by kernel_rfl)
 ·exact(show jK c m ⟨61,A,B,C,bn⟩=((oU c m ⟨61,A,B,C,bn⟩).1,(oU c m ⟨61,A,B,C,bn⟩).2.2,(oU c m ⟨61,A,B,C,bn⟩).2.1) by kernel_rfl)
 ·exact(show jK c m ⟨62,A,B,C,bn⟩=((oU c m ⟨62,A,B,C,bn⟩).1,(oU c m ⟨62,A,B,C,bn⟩).2.2,(oU c m ⟨62,A,B,C,bn⟩).2.1) by kernel_rfl)
 ·exact(show jK c m ⟨63,A,B,C,bn⟩=((oU c m ⟨63,A,B,C,bn⟩).1,(oU c m ⟨63,A,B,C,bn⟩).2.2,(oU c m ⟨63,A,B,C,bn⟩).2.1) by kernel_rfl)
 ·exact(show jK c m ⟨64,A,B,C,bn⟩=((oU c m ⟨64,A,B,C,bn⟩).1,(oU c m ⟨64,A,B,C,bn⟩).2.2,(oU c m ⟨64,A,B,C,bn⟩).2.1) by kernel_rfl)
end
theorem qao{op:Int}(h0:0<=op)(h1:op<256)(h:oR op≠0):pw op:=by
 have e:=oY (Fq (λop=>decide (oR op=0\/G3 op=true)) 256 (by kernel_rfl) h0 h1)
 rcases e with e|e
 ·exact absurd e h
 ·simpa only[G3,pw,aI,decide_eq_true_eq,or_assoc]using e
theorem xk{op:Int}(o:pw op):1<=op/\op<=64:=by
 unfold pw at o
 rcases o with h|h|h|h|h|h|h|h|h|h|h|h|h|h|h|h|h|h|h|h|h|h|h|h|h|h|h|h|h|h|h|h|h|h|h|h|h|h|h|h|h|h|h|h<;>(rw[h];decide)
theorem zk{w:Int}(hw:U w):(rl w).2=true->pw (rl w).1.Op:=by
 have um:bg .u32 w 24=w/16777216:=by have:=DP (a:=w) 24 (by decide);simpa using this
 obtain⟨w0,w1⟩:=hw
 have eo:wrap .i64 (w/16777216)=w/16777216:=DJ (by omega) (by omega)
 have q:(λr:gu×Bool=>r.2=true->pw r.1.Op) (rl w):=by
  simp only[rl,GU,Tree.m,dd,um,eo]
  cases hf:oR (w/16777216)==0
  ·have g:pw (w/16777216):=qao (by omega) (by omega) (by simpa using hf)
   repeat'(first
    |exactλ_=>g
    |exactλe=>eZ (show false=true from e)
    |refine XE (Q:=λr:gu×Bool=>r.2=true->pw r.1.Op) ?_ ?_)
  ·exactλe=>eZ (show false=true from e)
 exact q
section
variable (c:bh) (m:List Int)
def Eb(x:Int×Int×List Int)(w:Int)(d:gu×Bool):bh×kI×List Int:=
 bif x.2.1 !=0 then(pP c x.2.1 c.Pc,dj,x.2.2)else bif !d.2 then(pP c 1 w,dj,x.2.2)else bif GR d.1.Op then(bif bf .u32 c.B4.a0 1==0 then(pP c 2 w,dj,x.2.2)else oU c x.2.2 d.1)else oU c x.2.2 d.1
def OB(y:Int×List Int×Int)(d:gu×Bool):bh×List Int×kI:=
 bif y.2.2 !=0 then(rk c y.2.2 c.Pc,y.2.1,dj)else bif !d.2 then(rk c 1 y.1,y.2.1,dj)else bif Og d.1.Op then(bif !G0 c then(rk c 2 y.1,y.2.1,dj)else jK c y.2.1 d.1)else jK c y.2.1 d.1
theorem G4:pQ c m=Eb c (lF c m c.Pc 4 1) (kK (lF c m c.Pc 4 1).2.2 (lF c m c.Pc 4 1).1 4).1 (rl (kK (lF c m c.Pc 4 1).2.2 (lF c m c.Pc 4 1).1 4).1):=by kernel_rfl
theorem zao:wF c m=OB c (TL c m) (Oj (TL c m).1):=by kernel_rfl
theorem qL:TL c m=bif(rT c m c.Pc 4 1).2.2 !=0 then(0,(rT c m c.Pc 4 1).2.1,(rT c m c.Pc 4 1).2.2)else((Cp (rT c m c.Pc 4 1).2.1 (rT c m c.Pc 4 1).1 4).1,(rT c m c.Pc 4 1).2.1,0):=by kernel_rfl
end
theorem Zhq{P:Nat}{m:List Int}(h:ek P m){c:bh}(hc:iw c)(jT:c.B4.a0<=31):wF c m=((pQ c m).1,(pQ c m).2.2,(pQ c m).2.1):=by
 obtain⟨k,u,b⟩:=XG h hc hc.pc (.inr rfl) 1
 have tr:∀k b,rk c k b=pP c k b:=Oo hc.a0.1 jT
 rw[zao,G4,qL,XD h hc jT hc.pc (.inr rfl) (.inl rfl)]
 generalize lF c m c.Pc 4 1=x at*
 cases hx:x.2.1 !=0
 ·rw [Ol k u (.inr rfl)]
  have hw:U (kK x.2.2 x.1 4).1:=(Tree.pp (OC k u (.inr rfl))).2
  generalize(kK x.2.2 x.1 4).1=w at*
  show OB c (w,x.2.2,0) (Oj w)=_
  rw[qi hw]
  have o:=zk hw
  have i:=Tree.post _ (Zm4 w)
  change(rl w).2=true->sJ (rl w).1 at i
  generalize rl w=d at*
  obtain⟨⟨op,A,B,C,bn⟩,ok⟩:=d
  cases ok
  ·simp only[OB,Eb,hx,tr];rfl
  ·have o:pw op:=o rfl
   have i:=i rfl
   have p:=qk (C:=C) (B:=B) (bn:=bn) k hc jT i.a o
   have pv:Og op=GR op:=qal (by have:=xk o;omega) (by have:=xk o;omega)
   have kn:(!G0 c)=(bf .u32 c.B4.a0 1==0):=by
    show(!(!(bf .u32 c.B4.a0 1==0)))=_
    exact Bool.not_not _
   simp only[OB,Eb,hx,tr,pv,kn,p]
   cases GR op
   ·rfl
   ·cases bf .u32 c.B4.a0 1==0<;>rfl
 ·simp only[OB,Eb,hx,cond_true,tr]
theorem yk{a b:Int}:decide (a>=b)=!decide (a<b):=by
 by_cases h:a<b
 ·rw[dY h,dN (by omega)];rfl
 ·rw[dN h,dY (by omega)];rfl
def bits(g:Int)(l:List Nat)(s:Int):Int:=l.foldl (λ(a:Int) (i:Nat)=>wrap .i64 (a+wrap .i64 (bf .u32 (bg .u32 g (i:Int)) 1))) s
theorem xL(b:gv):LJ b=bits b.C2 [0,1,2,3,4,5,6,7,8,9,10,11,12,13,14,15,16,17,18,19,20,21,22,23,24,25,26,27,28,29,30,31] 0:=by kernel_rfl
theorem qaI{g:Int}(hg:U g){i:Nat}(hi:i<=32):wrap .i64 (bf .u32 (bg .u32 g (i:Int)) 1)=g/2^i%2:=by
 rw[Ft (AD hg _),DP i hi]
 have:0<=g/2^i%2/\g/2^i%2<2:=by omega
 exact DJ (by omega) (by omega)
theorem zL{g:Int}(hg:U g)(l:List Nat):∀s:Int,(∀i∈l,i<=32)->0<=s->s+l.length<=1000->bits g l s=s+(l.map λi=>g/2^i%2).sum:=by
 induction l with
 |nil=>intro s _ _ _;simp[bits]
 |cons i l ih=>
  intro s hl h0 h1
  have h1:s+(l.length+1)<=1000:=by simpa using h1
  have hb:0<=g/2^i%2/\g/2^i%2<2:=by omega
  have e:bits g (i::l) s=bits g l (s+g/2^i%2):=by
   show bits g l (wrap .i64 (s+wrap .i64 (bf .u32 (bg .u32 g (i:Int)) 1)))=_
   rw[qaI hg (hl i (by simp)),DJ (by omega) (by omega)]
  rw[e,ih _ (λj hj=>hl j (by simp[hj])) (by omega) (by omega)]
  simp;omega
theorem Zp9(n:ia)(port:Int):Lg n port=OD n port:=by
 simp only[Lg,Oc,OD,OE,Tree.m]
 cases n.C5<;>cases n.B5<;>rfl
theorem Z7e(t:iU):tC t=TM t:=by
 simp only[tC,Ti,TM,XJ,Tree.m]
 cases t.D4<;>cases t.D3<;>rfl
theorem Zgp(n:ia)(p:Int):pr n p=TN n p:=by
 simp only[pr,K7,TN,XK,Tree.m]
 cases n.C5<;>cases n.B5<;>rfl
theorem Ze2(d:fp)(p:Int):ki d p=TO d p:=by
  simp only[ki,wC,N6,IV,TO,XL,Tree.m,dd,yk]
  cases decide (d.ag>64)
  . by_cases s:d.B7=0\/d.B7=1\/d.B7=2\/d.B7=3
    . rcases s with s|s|s|s<;>rw[s]
      . rfl
      . by_cases c1:d.D5=1
        . rw[c1];cases decide (d.B6<d.ag)<;>cases decide (wrap .i64 d.B2<p)<;>cases decide (d.B8=[])<;>rfl
        . by_cases c2:d.D5=2
          . rw[c2];cases decide (d.B6<d.ag)<;>cases decide (wrap .i64 d.B2<p)<;>cases(d.B8.length:Int)==128<;>rfl
          . rw[show(d.D5==1)=false by simpa using c1,show(d.D5==2)=false by simpa using c2]
            cases decide (d.B6<d.ag)<;>cases decide (wrap .i64 d.B2<p)<;>rfl
      . rfl
      . rfl
    . rw[show(d.B7==0)=false by simp;omega,show(d.B7==1)=false by simp;omega,show(d.B7==2)=false by simp;omega,show(d.B7==3)=false by simp;omega]
      by_cases n:d.B7<0
      . rw[dY n];rfl
      . rw[dN n,dY (show d.B7>3 by omega)];rfl
  . rfl
theorem yL(c:iT):TP c=TQ c:=by
 show(!decide (c.D1=[]))=decide ((c.D1.length:Int)>0)
 cases c.D1 with
 |nil=>rfl
 |cons a l=>rw[dN (by simp),dY (by simp)];rfl
theorem xao(k:List UInt8):decide (k=[])=((k.length:Int)==0):=by
 cases k with
 |nil=>rfl
 |cons a l=>
  rw[dN (by simp)]
  exact(beq_eq_false_iff_ne.2 (by simp;omega)).symm
theorem Zp3(c:iT)(port:Int):XM c port=Jd c port:=by
 simp only[XM,IX,Jd,G5,Tree.m,xao]
 cases port==0
 ·rfl
 ·cases(c.D1.length:Int)==0<;>rfl
theorem vL(t:iU)(v:Int):N7 t v=OF v:=by
 simp only[N7,Th,OF,OG,Tree.m]
 cases h:v==0
 ·rw[show(v !=0)=true by simp only[bne,h];rfl];rfl
 ·rw[show(v !=0)=false by simp only[bne,h];rfl,eq_of_beq h];rfl
section
variable {P:Nat} {m:List Int} (h:ek P m)
include h
theorem Z82(f:Int):IT m f=nS m f:=by
 have a:=rQ h
 have b:=DV h
 simp only[IT,N0,nS,OH,Tree.m,dd,a,b]
theorem Za3(f:Int):Qa m f=nS m f:=by
 have a:=rQ h
 have b:=DV h
 simp only[Qa,N1,nS,OH,Tree.m,dd,a,b]
theorem Zi7(d:fp)(port v dh:Int):XN d m port v dh=OI d m port v dh:=by
  have pg:=Z82 h
  have pa:=Zho h
  have rq: ∀d a,XO d a=XP d a:=λ_ _=>rfl
  simp only[XN,K9,Qws,K8,OI,G6,Tree.m,dd,pg,pa,rq]
  cases port==4
  . cases port==5
    . cases h6:port==6
      . rw[show(port !=6)=true by simp only[bne,h6];rfl];rfl
      . rw [show(port !=6)=false by simp only[bne,h6];rfl]
        by_cases v1:v=1
        . subst v1
          cases hs:d.B7==0
          . rw[show(d.B7 !=0)=true by simp only[bne,hs];rfl];rfl
          . rw[show(d.B7 !=0)=false by simp only[bne,hs];rfl];rfl
        . by_cases v2:v=2
          . subst v2
            cases hs:d.B7==0
            . rw[show(d.B7 !=0)=true by simp only[bne,hs];rfl];rfl
            . rw[show(d.B7 !=0)=false by simp only[bne,hs];rfl];rfl
          . rw[show(v==1)=false by simpa using v1,show(v==2)=false by simpa using v2]
            cases v==0
            . rfl
            . have:La d=(bif d.B7==2 then true else d.B7==3):=rfl
              rw[this]
              cases d.B7==2<;>cases d.B7==3<;>rfl
    . rfl
  . rfl
theorem Zk2(n:ia)(port v dh:Int):XQ n m port v dh=TR n m port v dh:=by
  have pg:=Za3 h
  have pa:=Zho h
  simp only[XQ,Lc,Zbr,Lb,TR,LK,Tree.m,dd,pg,pa]
  have g1:decide (n.E0>=1)=!decide (n.E0<1):=yk
  have g2:decide (n.E0<=128)=!decide (n.E0>128):=by
    by_cases h:n.E0>128
    . rw[dY h,dN (by omega)];rfl
    . rw[dN h,dY (by omega)];rfl
  rw[g1,g2]
  cases port==7
  . cases port==8
    . cases h9:port==9
      . rw[show(port !=9)=true by simp only[bne,h9];rfl];rfl
      . rw [show(port !=9)=false by simp only[bne,h9];rfl]
        by_cases v1:v=1
        . subst v1
          cases decide (n.E0<1)<;>cases decide (n.E0>128)<;>cases nS m n.Frame<;>rfl
        . by_cases v2:v=2
          . subst v2;rfl
          . rw[show(v==1)=false by simpa using v1,show(v==2)=false by simpa using v2]
            cases v==0<;>rfl
    . rfl
  . rfl
theorem Zak{d:fp}(hd:ox d)(e:gx):XR d m e=((Je d m e).1,(Je d m e).2.2,(Je d m e).2.1):=by
  have gm:jC m=m:=rfl
  have pg:=Z82 h d.B2
  have lp:decide ((e.C9.length:Int)>0)=!decide (e.C9=[]):=by
    cases e.C9 with
    |nil=>rfl
    |cons a l=>rw[dY (by simp),dN (by simp)];rfl
  have bad:(e.C9.length:Int)≠128->nS m d.B2=true->DY m (wrap .i64 d.B2) e.C9=(m,false):=λhl hp=>by
    rw[Fu h hd.ib]at hp
    have hp:=oY hp
    have h1:=hd.ib.1
    have h3:=h.p2
    have ew:i64.wrap d.B2=d.B2:=DJ (by omega) (by omega)
    simp only[DY,GC,Tree.m,dd,gm,ew,Tv h,dY (⟨h1,hp⟩:0<=d.B2/\d.B2<P),show((e.C9.length:Int) !=128)=true by simpa using hl]
    rfl
  have ff:(e.C9.length:Int)=128->nS m d.B2=true->DY m (wrap .i64 d.B2) e.C9=(Ok m (wrap .i64 d.B2) e.C9,true):=λhl hp=>by
    rw[Fu h hd.ib]at hp
    have hp:=oY hp
    have h1:=hd.ib.1
    have h3:=h.p2
    have ew:i64.wrap d.B2=d.B2:=DJ (by omega) (by omega)
    rw[ew];exact Zi h h1 hp (by omega)
  simp only[XR,K5,Je,G7,Tree.m,dd,gm,pg,lp]
  cases d.B7 !=1
  . cases e.C0 !=4
    . cases decide (e.N>1)
      . cases e.N==1
        . cases decide (e.C9=[])<;>rfl
        . cases hc:d.D5==1
          . cases decide (e.C9=[])<;>rfl
          . by_cases hl:(e.C9.length:Int)=128
            . rw[show((e.C9.length:Int) !=128)=false by simpa using hl]
              cases hp:nS m d.B2
              . rfl
              . rw[ff hl hp];rfl
            . rw[show((e.C9.length:Int) !=128)=true by simpa using hl]
              cases hp:nS m d.B2
              . rfl
              . rw[bad hl hp];rfl
      . rfl
    . rfl
  . rfl
theorem Zej{n:ia}(hn:pq n)(frame:List UInt8):XS n m frame=((LM n m frame).1,(LM n m frame).2.2,(LM n m frame).2.1):=by
  have gm:jC m=m:=rfl
  have pg:=Za3 h n.B9
  simp only[XS,K6,LM,LN,Tree.m,dd,gm,pg]
  cases !n.C5
  . cases decide ((frame.length:Int)<1)
    . cases hf:decide ((frame.length:Int)>128)
      . cases hp:nS m n.B9
        . rfl
        . rw[Fu h hn.buffer]at hp
          have hp:=oY hp
          have h1:=hn.buffer.1
          have h3:=h.p2
          have ew:i64.wrap n.B9=n.B9:=DJ (by omega) (by omega)
          have hf:=oN hf
          obtain⟨b1,b2⟩:=(Tree.pp (xj h h1 hp)).2
          change AF m n.B9 (DX m n.B9).1 at b1
          have tk:dB (dF ((DX m n.B9).1.length:Int)-dF (frame.length:Int)) (dC (dF (frame.length:Int)) (DX m n.B9).1)=(DX m n.B9).1.drop frame.length:=by
            rw[eD,eD]
            exact List.take_of_length_le (by simp)
          rw[ew,tk,Zgr h h1 hp (by omega) b1]
          rfl
      . rfl
    . rfl
  . rfl
end
def XT:List UInt8:=(dD 256).map λn=>eX (n%2+n/2%2+n/4%2+n/8%2+n/16%2+n/32%2+n/64%2+n/128%2)
def pt(n:Int):Int:=((eW (XT.getD n.toNat 0):Nat):Int)
theorem qM(x:Int):XU x=wrap .i64 (wrap .u8 (wrap .u8 (wrap .u8 (pt (bg .u32 x 24)+pt (bf .u32 (bg .u32 x 16) 255))+pt (bf .u32 (bg .u32 x 8) 255))+pt (bf .u32 x 255))):=by kernel_rfl
theorem OJ{a:Int}(h0:0<=a)(h1:a<256):pt a=a%2+a/2%2+a/4%2+a/8%2+a/16%2+a/32%2+a/64%2+a/128%2:=
 eq_of_beq (Fq (λa=>pt a==a%2+a/2%2+a/4%2+a/8%2+a/16%2+a/32%2+a/64%2+a/128%2) 256 (by kernel_rfl) h0 h1)
theorem vk{g:Int}(hg:U g):bits g [0,1,2,3,4,5,6,7,8,9,10,11,12,13,14,15,16,17,18,19,20,21,22,23,24,25,26,27,28,29,30,31] 0=pt (g%256)+pt (g/256%256)+pt (g/65536%256)+pt (g/16777216):=by
 rw[zL hg _ 0 (by decide) (by decide) (by decide),OJ (by omega) (by omega),OJ (by omega) (by omega),OJ (by omega) (by omega),OJ (by have:=hg.1;omega) (by have:=hg.2;omega)]
 obtain⟨g0,g1⟩:=hg
 simp only[List.map_cons,List.map_nil,List.sum_cons,List.sum_nil]
 have e:∀i j:Nat,∀k:Int,i<8->k=2^j->g/2^(i+j)%2=(g/k%256)/2^i%2:=λi j k hi hk=>by
  subst hk
  rw[Nat.add_comm,dR,<-fA (dQ (dO (by decide)))]
  generalize g/2^j=x
  have:i=0\/i=1\/i=2\/i=3\/i=4\/i=5\/i=6\/i=7:=by omega
  rcases this with rfl|rfl|rfl|rfl|rfl|rfl|rfl|rfl<;>simp<;>omega
 have e0:∀i:Nat,i<8->g/2^i%2=(g%256)/2^i%2:=λi hi=>by have:=e i 0 1 hi rfl;simpa using this
 have e24:g/16777216%256=g/16777216:=by omega
 rw[e0 0 (by decide),e0 1 (by decide),e0 2 (by decide),e0 3 (by decide),e0 4 (by decide),e0 5 (by decide),e0 6 (by decide),e0 7 (by decide)]
 rw[e 0 8 256 (by decide) (by decide),e 1 8 256 (by decide) (by decide),e 2 8 256 (by decide) (by decide),e 3 8 256 (by decide) (by decide),e 4 8 256 (by decide) (by decide),e 5 8 256 (by decide) (by decide),e 6 8 256 (by decide) (by decide),e 7 8 256 (by decide) (by decide)]
 rw[e 0 16 65536 (by decide) (by decide),e 1 16 65536 (by decide) (by decide),e 2 16 65536 (by decide) (by decide),e 3 16 65536 (by decide) (by decide),e 4 16 65536 (by decide) (by decide),e 5 16 65536 (by decide) (by decide),e 6 16 65536 (by decide) (by decide),e 7 16 65536 (by decide) (by decide)]
 rw[e 0 24 16777216 (by decide) (by decide),e 1 24 16777216 (by decide) (by decide),e 2 24 16777216 (by decide) (by decide),e 3 24 16777216 (by decide) (by decide),e 4 24 16777216 (by decide) (by decide),e 5 24 16777216 (by decide) (by decide),e 6 24 16777216 (by decide) (by decide),e 7 24 16777216 (by decide) (by decide),e24]
 generalize g%256=a
 generalize g/256%256=b
 generalize g/65536%256=c
 generalize g/16777216=d
 simp only[show(2:Int)^0=1 from rfl,show(2:Int)^1=2 from rfl,show(2:Int)^2=4 from rfl,show(2:Int)^3=8 from rfl,show(2:Int)^4=16 from rfl,show(2:Int)^5=32 from rfl,show(2:Int)^6=64 from rfl,show(2:Int)^7=128 from rfl,Int.ediv_one]
 omega
theorem wG{a:Int}(h0:0<=a)(h1:a<256):0<=pt a/\pt a<=8:=by rw[OJ h0 h1];omega
theorem Z8b{b:gv}(hg:U b.C2):Qd b=LJ b/\0<=LJ b/\LJ b<=32:=by
 obtain⟨s8,Bk,um⟩:=GX b.C2
 have u8:U (bg .u32 b.C2 8):=AD hg _
 have u16:U (bg .u32 b.C2 16):=AD hg _
 have e:Qd b=XU b.C2:=rfl
 rw[e,qM,xL,vk hg,Cl u8,Cl u16,Cl hg,s8,Bk,um]
 obtain⟨g0,g1⟩:=hg
 have p0:=wG (a:=b.C2%256) (by omega) (by omega)
 have p1:=wG (a:=b.C2/256%256) (by omega) (by omega)
 have p2:=wG (a:=b.C2/65536%256) (by omega) (by omega)
 have p3:=wG (a:=b.C2/16777216) (by omega) (by omega)
 have w8:∀x,wrap .u8 x=x%256:=λx=>wrap_u8 x
 rw[w8,w8,w8,wrap_i64]
 omega
theorem Zfw{b:gv}(h:okB b):OK b=OL b:=by
 obtain⟨e,l0,l1⟩:=Z8b h.2
 obtain⟨t0,t1⟩:=h.1
 simp only[OK,LO,OL,XV,Tree.m,dd,e]
 rw[wrap_u32,wrap_u64,wrap_u64,dM l0 (by omega),dM l0 (by omega),dM t0 (by omega)]
theorem Zpc{b:gv}(h:okB b)(port:Int):XW b port=Jf b port:=by
 simp only[XW,Lh,Jf,LP,Tree.m,dd,(Z8b h.2).1]
theorem qap(g:Int)(z:Nat):g%2^(z+1)=g%2^z+2^z*(g/2^z%2):=by
 have hp:(0:Int)<2^z:=dO (by decide)
 have h1:=fB g (2^z)
 have h2:=fB (g/2^z) 2
 have h3:(g/2^z)/2=g/2^(z+1):=by rw[fC,fA (dQ hp)]
 have h4:=fB g (2^(z+1))
 rw[h3]at h2
 have h5:(2:Int)^(z+1)*(g/2^(z+1))=2^z*(2*(g/2^(z+1))):=by rw[fC,Int.mul_assoc]
 have h6:(2:Int)^z*(g/2^z)=2^z*(2*(g/2^(z+1)))+2^z*(g/2^z%2):=by rw[<-Int.mul_add,h2]
 omega
theorem zaI{b:gv}(hg:U b.C2){P:Nat}(hP:P<=32):(LQ b P).w (λr=>r=decide (b.C2<2^P)):=by
 unfold LQ
 have fin:∀v:Int,0<=v->v<=32->wrap .u64 v=(v.toNat:Int):=λv h0 h1=>by rw[wrap_u64];omega
 refine fy (inv:=λz:Int=>0<=z/\z<=32/\b.C2%2^z.toNat<2^P) (μ:=TS b P) ⟨by decide,by decide,by have:(0:Int)<2^P:=dO (by decide);simpa using this⟩ (cO _) λz ⟨z0,z1,z2⟩=>?_
 refine aa (λhb=>?_) (λhb=>?_)
 ·have hb:=oY hb
  have ew:i64.wrap (z+1)=z+1:=DJ (by omega) (by omega)
  have bt:bf .u32 (bg .u32 b.C2 (wrap .u64 z)) 1=b.C2/2^z.toNat%2:=by
   rw[fin z z0 z1,Ft (AD hg _),DP _ (by omega)]
  have bp:=qap b.C2 z.toNat
  have zt:(z+1).toNat=z.toNat+1:=by omega
  refine ba (dY (by rw[wrap_u64];omega)) ?_
  rw[bt]
  refine aa (λe=>aa (λhp=>?_) (λhp=>fg ?_)) (λe=>fg ?_)
  ·have e:=eq_of_beq e
   have hp:=oY hp
   show false=_
   refine(dN λcf=>?_).symm
   have hle:(2:Int)^P<=2^z.toNat:=by exact_mod_cast dT (show 0<2 by decide) (show P<=z.toNat by omega)
   have:b.C2/2^z.toNat=0:=Int.ediv_eq_zero_of_lt hg.1 (by omega)
   rw[this]at e;cases e
  ·have e:=eq_of_beq e
   have hp:=oN hp
   show(0<=i64.wrap (z+1)/\i64.wrap (z+1)<=32/\b.C2%2^(i64.wrap (z+1)).toNat<2^P)/\(32-i64.wrap (z+1)).toNat<(32-z).toNat
   rw[ew,zt]
   have hle:(2:Int)^(z.toNat+1)<=2^P:=by exact_mod_cast dT (show 0<2 by decide) (show z.toNat+1<=P by omega)
   have:=Int.emod_lt_of_pos b.C2 (show(0:Int)<2^(z.toNat+1) from dO (by decide))
   exact⟨⟨by omega,by omega,by omega⟩,by omega⟩
  ·have e:¬b.C2/2^z.toNat%2=1:=by simpa using e
   have e:b.C2/2^z.toNat%2=0:=by omega
   rw[e]at bp
   show(0<=i64.wrap (z+1)/\i64.wrap (z+1)<=32/\b.C2%2^(i64.wrap (z+1)).toNat<2^P)/\(32-i64.wrap (z+1)).toNat<(32-z).toNat
   rw[ew,zt,bp]
   exact⟨⟨by omega,by omega,by omega⟩,by omega⟩
 ·have hb:=oN hb
  have:z=32:=by omega
  subst this
  show true=_
  refine(dY ?_).symm
  have h2:b.C2%2^(32:Int).toNat=b.C2:=dM hg.1 hg.2
  rwa [h2]at z2
theorem Zlg{b:gv}(hg:U b.C2){P:Nat}(hP:P<=32):uk b P=TT b P:=by
 have r:=(Tree.pp (zaI hg hP)).2
 change TT b P=_ at r
 rw[r,eI,N9 hg,decide_eq_true_eq]
theorem OM:strings_Repeat [(0:UInt8)] 128=cQ 128 0:=by kernel_rfl
theorem xaI{P:Nat}{m:List Int}(hm:ek P m){b:gv}{port:Int}{v:Int}(hv:U v)(hp:v<P)(Jg:port=10)(hb:(bf .u32 (bg .u32 b.C2 v) 1==0)=true):(Bm b m port v).w (λr=>r.1={C6:=b.C6,C2:=iq .u32 b.C2 (eg .u32 1 v)}/\ek P r.2/\∀k:Nat,lC r.2 k=if v*128<=k/\(k:Int)<v*128+128 then 0 else lC m k):=by
 have wx:decide (0<=v)=true:=dY hv.1
 have h2:=hm.p2
 have pg:nS m v=true:=by rw[Fu hm hv];exact dY hp
 obtain⟨v1,v2⟩:=hv
 subst Jg
 unfold Bm
 refine aa (λ_=>ar λx0 hx=>aa (λ_=>ba wx (aa (λ_=>ba wx ?_) (λh=>by rw[hb]at h;cases h))) (λh=>by rw[hx,pg]at h;cases h)) (λh=>by cases h)
 refine fy (inv:=λz=>0<=z.1/\z.1<=32/\ek P z.2/\∀k:Nat,lC z.2 k=if v*128<=k/\(k:Int)<v*128+4*z.1 then 0 else lC m k) (μ:=XX b m 10 v) ⟨show(0:Int)<=0 by decide,show(0:Int)<=32 by decide,hm,λk=>by rw[if_neg];show¬(_/\_<_+4*(0:Int));omega⟩ (cO _) (λz hz=>?_)
 obtain⟨z1,z2,z3,z4⟩:=hz
 have hl:=z3.len
 refine aa (λh=>?_) (λh=>⟨rfl,z3,λk=>?_⟩)
 ·have h:=oY h
  have e:wrap i64 (wrap i64 (wrap i64 v*32)+z.1)=v*32+z.1:=by rw[wrap_i64,wrap_i64,wrap_i64];omega
  refine ba (by rw[e];simp[bJ];omega) (fg ?_)
  have ew:i64.wrap (z.1+1)=z.1+1:=by rw[wrap_i64];omega
  show(0<=i64.wrap (z.1+1)/\i64.wrap (z.1+1)<=32/\ek P (dG _ _ _)/\∀k:Nat,lC (dG z.2 (dF (wrap i64 (wrap i64 (wrap i64 v*32)+z.1))) 0) k=if v*128<=(k:Int)/\(k:Int)<v*128+4*i64.wrap (z.1+1)then 0 else _)/\(32-i64.wrap (z.1+1)).toNat<(32-z.1).toNat
  rw[ew,e]
  refine⟨⟨by omega,by omega,⟨by simp[hl],z3.p1,z3.p2,Z7 z3.u ej _⟩,λk=>?_⟩,by omega⟩
  rw[Xq (by omega)]
  by_cases hc:k/4=(v*32+z.1).toNat
  ·rw[if_pos hc,if_pos (by omega)]
   have:k%4=0\/k%4=1\/k%4=2\/k%4=3:=by omega
   rcases this with h|h|h|h<;>rw[h]<;>rfl
  ·rw[if_neg hc,z4 k]
   by_cases hd:v*128<=(k:Int)/\(k:Int)<v*128+4*z.1
   ·rw[if_pos hd,if_pos (by omega)]
   ·rw[if_neg hd,if_neg (by omega)]
 ·have h:=oN h
  show lC z.2 k=_
  rw[z4 k,show z.1=32 by omega];rfl
theorem XY{g v:Int}(hg:U g)(v0:0<=v)(v1:v<32):(bf .u32 g (eg .u32 1 v)==0)=(bf .u32 (bg .u32 g v) 1==0):=by
 obtain⟨z,rfl⟩:∃z:Nat,v=z:=⟨v.toNat,by omega⟩
 obtain⟨n,rfl⟩:∃n:Nat,g=n:=⟨g.toNat,by have:=hg.1;omega⟩
 have hz:z<32:=by omega
 have cf:(2:Nat)^z<4294967296:=by have:=eC (show 1<2 by omega) hz;simpa using this
 rw[Ft (AD hg _),DP z (by omega),qh v0 v1,eD]
 have hc:((2:Int)^z)=((2^z:Nat):Int):=by simp
 generalize hq:2^z=q at*
 rw[hc,Xh hg ⟨by omega,by omega⟩,eD,eD,<-hq]
 have e1:(n&&&2^z)=0↔n/2^z%2=0:=by
  have t:n.testBit z=decide (n/2^z%2=1):=Nat.testBit_eq_decide_div_mod_eq
  constructor
  ·intro h
   have h2:(n&&&2^z).testBit z=false:=by rw[h];exact fD z
   rw[fE,Nat.testBit_two_pow_self,Bool.and_true,t]at h2
   have:=oN h2
   omega
  ·intro h
   have t0:n.testBit z=false:=by rw[t];exact dN (by omega)
   apply eM
   intro i
   rw[fE,Nat.testBit_two_pow,fD]
   by_cases hi:z=i
   ·subst hi;rw[t0];rfl
   ·rw[dN hi,Bool.and_false]
 rw[eI,beq_iff_eq,beq_iff_eq]
 constructor
 ·intro h;have:=e1.1 (by omega);omega
 ·intro h;have:=e1.2 (by omega);omega
theorem Zl1{P:Nat}{m:List Int}(h:ek P m){b:gv}(hb:okB b)(port:Int){v:Int}(hv:U v):G8 b m port v=AI b m port v:=by
  have gm:jC m=m:=rfl
  have hp:=rQ h
  have h2:=h.p2
  have ew:i64.wrap v=v:=DJ (by have:=hv.1;omega) (by have:=hv.2;omega)
  have pe:=Fu h hv
  by_cases XZ:v<32
  . have bv :=XY hb.2 hv.1 XZ
    by_cases Jg:port=10
    . by_cases hP:v<P
      . cases hz:bf .u32 (bg .u32 b.C2 v) 1==0
        . simp only[G8,DR,AI,Bm,Tree.m,dd,gm,hp,ew,pe,bv,hz,Jg,dY hP,dN (show¬v>=32 by omega)]
          rfl
        . obtain⟨g1,g2,g3⟩:=(Tree.pp (xaI h hv hP Jg hz)).2
          change(AI b m port v).1=_ at g1
          change ek P (AI b m port v).2 at g2
          change∀k:Nat,lC (AI b m port v).2 k=_ at g3
          obtain⟨s1,s2,s3⟩:=(Tree.pp (Xs h hv.1 hP (s:=cQ 128 0) (by simp))).2
          have em:(DY m v (cQ 128 0)).1=(AI b m port v).2:=by
            refine Xp (s2.len.trans g2.len.symm) s2.u g2.u λk=> ?_
            rw[g3 k]
            refine(s3 k).trans ?_
            by_cases hk:v*128<=(k:Int)/\(k:Int)<v*128+128
            . rw[if_pos hk,if_pos hk]
              have:(cQ 128 (0:UInt8)).getD ((k:Int)-v*128).toNat 0=0:=by
                rw[cP,List.getElem?_replicate]
                split<;>rfl
              rw[this];rfl
            . rw[if_neg hk,if_neg hk]
          have el:G8 b m port v=({C6:=b.C6,C2:=iq .u32 b.C2 (eg .u32 1 v)},(DY m v (cQ 128 0)).1):=by
            simp only[G8,DR,Tree.m,dd,gm,hp,ew,bv,hz,Jg,dY hP,dN (show¬v>=32 by omega),OM]
            rfl
          rw[el,em,<-g1]
      . simp only[G8,DR,AI,Bm,Tree.m,dd,gm,hp,ew,pe,Jg,dN hP,dN (show¬v>=32 by omega)]
        rfl
    . simp only[G8,DR,AI,Bm,Tree.m,dd,gm,dY XZ,dN (show¬v>=32 by omega),show(port==10)=false by simpa using Jg]
      cases port==11<;>rfl
  . simp only[G8,DR,AI,Bm,Tree.m,dd,gm,pe,dN XZ,dY (show v>=32 by omega),dN (show¬v<P by omega)]
    cases port==10<;>cases port==11<;>rfl
structure sM(m:au):Prop where
 lY:iw m.B1
 mem:∀w∈m.Mem,U w
 kR:ox m.A7
 sK:pq m.C3
 uu:okB m.A2
 lS:0<=m.A1
theorem ON(m:List Int)(hm:∀w∈m,U w):lR m=wE m/\(lR m=0\/∃P:Nat,1<=P/\ek P m):=by
 refine⟨rfl,?_⟩
 simp only[lR,K4,Tree.m]
 cases h1:dE (m.length:Int) 32 !=0
 ·cases h2:decide ((m.length:Int)>1024)
  ·have h1:dE (m.length:Int) 32=0:=by simpa using h1
   have h2:=oN h2
   rw[eF (by omega)]at h1
   by_cases h0:m.length=0
   ·left;rw[h0];rfl
   ·right;exact⟨m.length/32,by omega,⟨by omega,by omega,by omega,hm⟩⟩
  ·left;rfl
 ·left;rfl
theorem Cs{a x:Bool}:(bif !a then false else x)=true↔a=true/\x=true:=by cases a<;>simp
theorem xM(m:au):pR m=true↔ ¬(wE m.Mem<1)/\mK m.B1/\Qik m.A3=true/\TM m.A9=true/\TO m.A7 (wE m.Mem)=true/\TN m.C3 (wE m.Mem)=true/\TT m.A2 (wE m.Mem)=true/\m.A1<=1152921504606846976/\¬(m.A4=true/\m.A6=true):=by
 simp only[pR,X0,Tree.m,dd]
 rw[na,na,na,na,na,na,Cs,Cs,Cs,Cs,Cs]
 simp only[decide_eq_false_iff_not,Int.not_lt,bne_eq_false_iff_eq,gt_iff_lt]
 have l:((bif decide (m.A1<=1152921504606846976)then(bif m.A4 then !m.A6 else true)else false)=true)↔m.A1<=1152921504606846976/\¬(m.A4=true/\m.A6=true):=by
  by_cases hc:m.A1<=1152921504606846976
  ·rw[dY hc]
   cases m.A4<;>cases m.A6<;>simp[hc]
  ·rw[dN hc];simp[hc]
 rw[l]
 constructor
 ·rintro⟨a1,a2,a3,a4,a5,a6,a7⟩
  exact⟨by omega,⟨a2,a3,a4,a5,a6⟩,a7⟩
 ·rintro⟨a1,⟨a2,a3,a4,a5,a6⟩,a7⟩
  exact⟨by omega,a2,a3,a4,a5,a6,a7⟩
theorem LR{m:au}(h:sM m):mZ m=pR m:=by
 rw[eI,GM,xM,zg]
 obtain⟨e,c⟩:=ON m.Mem h.mem
 simp only[aE,<-e]
 rcases c with c|⟨P,hP,hm⟩
 ·constructor
  ·rintro⟨a,_⟩;exact absurd c a
  ·rintro⟨a,_⟩;omega
 ·rw[rQ hm,Z7e,Ze2,Zgp,Zlg h.uu.2 hm.p2]
  constructor
  ·rintro⟨a1,a2,a3,a4,a5,a6,a7,a8,a9⟩;exact⟨by omega,a2,a5,a6,a7,a8,a9,a3,a4⟩
  ·rintro⟨a1,a2,a5,a6,a7,a8,a9,a3,a4⟩;exact⟨by omega,a2,a3,a4,a5,a6,a7,a8,a9⟩
def TU(a b c d e:Bool):Int:=iq .u32 (iq .u32 (iq .u32 (iq .u32 (Ec a 0) (Ec b 1)) (Ec c 2)) (Ec d 3)) (Ec e 4)
theorem Jh(m:au):TV m=TU (X1 m.A9) (TP m.A3) (La m.A7) (X2 m.C3) (OK m.A2):=by
 unfold TV Q7
 simp only[Tree.m,dd]
 generalize X1 m.A9=a
 generalize TP m.A3=b
 generalize La m.A7=c
 generalize X2 m.C3=d
 generalize OK m.A2=e
 cases a<;>cases b<;>cases c<;>cases d<;>cases e<;>kernel_rfl
theorem Zq5(a b c d e:Bool):0<=TU a b c d e/\TU a b c d e<32:=by
 cases a<;>cases b<;>cases c<;>cases d<;>cases e<;>decide
theorem Ct(m:au):OO m=TU (X3 m.A9) (TQ m.A3) (Qb m.A7) (X4 m.C3) (OL m.A2):=rfl
section
variable {m:au} (h:sM m)
include h
theorem Zpq:TV m=OO m:=by
 rw[Jh,Ct,yL,Zfw h.uu];rfl
theorem Qzm:LS m=Bn m:=by
 have e:=Zpq h
 simp only[LS,G9,Bn,LU,Tree.m,dd,e]
theorem Zi8:Ll m=tG m:=by
 have e:=Qzm h
 simp only[Ll,Ha,tG,LV,Tree.m,dd,e]
theorem TW:AB m=!nb m:=by
 have e1:=LR h
 have e2:=Zi8 h
 have e3:decide (m.A1>=1152921504606846976)=!decide (m.A1<1152921504606846976):=yk
 simp only[AB,I3,nb,Ji,Tree.m,dd,e1,e2,e3]
 cases pR m<;>cases m.A6<;>cases tG m<;>cases decide (m.A1<1152921504606846976)<;>rfl
theorem Z87:0<=Bn m/\Bn m<32:=by
 have e:Bn m=bf .u32 (OO m) m.B1.B4.a7:=rfl
 have l:=Zq5 (X3 m.A9) (TQ m.A3) (Qb m.A7) (X4 m.C3) (OL m.A2)
 rw[<-Ct]at l
 rw[e,Xh ⟨l.1,by omega⟩ h.lY.a7]
 have:=eB (n:=(OO m).toNat) (m:=m.B1.B4.a7.toNat)
 omega
def low(l:Int):Int:=if l%2=1 then 0 else if l/2%2=1 then 1 else if l/4%2=1 then 2 else if l/8%2=1 then 3 else 4
end
theorem wH{l:Int}(h0:0<=l)(h1:l<32):l=0\/l=1\/l=2\/l=3\/l=4\/l=5\/l=6\/l=7\/l=8\/l=9\/l=10\/l=11\/l=12\/l=13\/l=14\/l=15\/l=16\/l=17\/l=18\/l=19\/l=20\/l=21\/l=22\/l=23\/l=24\/l=25\/l=26\/l=27\/l=28\/l=29\/l=30\/l=31:=by omega
def Jj(m:au)(l:Int):bh:=bif bf .u32 m.B1.B4.a0 2==0 then m.B1 else bif l==0 then m.B1 else pP m.B1 (wrap .i64 (16+low l)) 0
theorem OP{m:au}(h:sM m):lT m=Jj m (Bn m):=by
 obtain⟨l0,l1⟩:=Z87 h
 unfold lT LW
 simp only[Tree.m,dd]
 revert l0 l1
 generalize Bn m=l
 intro l0 l1
 unfold Jj
 cases bf .u32 m.B1.B4.a0 2==0
 ·rcases wH l0 l1 with rfl|rfl|rfl|rfl|rfl|rfl|rfl|rfl|rfl|rfl|rfl|rfl|rfl|rfl|rfl|rfl|rfl|rfl|rfl|rfl|rfl|rfl|rfl|rfl|rfl|rfl|rfl|rfl|rfl|rfl|rfl|rfl<;>kernel_rfl
 ·rfl
def X5(m:au)(c:bh):au:={B1:=c,Mem:=m.Mem,A3:=m.A3,A9:=m.A9,A7:=m.A7,C3:=m.C3,A2:=m.A2,A1:=m.A1,A4:=false,A6:=m.A6}
theorem Z9m{m:au}(h:sM m)(jT:m.B1.B4.a0<=31):nq m=X5 m (lT m):=by
 obtain⟨l0,l1⟩:=Z87 h
 have tr:∀k b,rk m.B1 k b=pP m.B1 k b:=Oo h.lY.a0.1 jT
 have e:LS (X5 m m.B1)=Bn m:=Qzm (m:=X5 m m.B1) ⟨h.lY,h.mem,h.kR,h.sK,h.uu,h.lS⟩
 rw[OP h]
 unfold nq GN
 simp only[Tree.m,dd]
 rw[show LS {B1:=m.B1,Mem:=m.Mem,A3:=m.A3,A9:=m.A9,A7:=m.A7,C3:=m.C3,A2:=m.A2,A1:=m.A1,A4:=false,A6:=m.A6}=Bn m from e]
 revert l0 l1
 generalize Bn m=l
 intro l0 l1
 unfold Jj
 simp only[<-tr]
 cases bf .u32 m.B1.B4.a0 2==0
 ·rcases wH l0 l1 with rfl|rfl|rfl|rfl|rfl|rfl|rfl|rfl|rfl|rfl|rfl|rfl|rfl|rfl|rfl|rfl|rfl|rfl|rfl|rfl|rfl|rfl|rfl|rfl|rfl|rfl|rfl|rfl|rfl|rfl|rfl|rfl<;>(show _=_;kernel_rfl)
 ·rfl
theorem Hb{p:Int}:p=0\/p=1\/p=2\/p=3\/p=4\/p=5\/p=6\/p=7\/p=8\/p=9\/p=10\/p=11\/p<0\/12<=p:=by omega
theorem zap{m:au}(hb:okB m.A2)(port clock:Int):uv m port clock=((wI m port clock).2,(wI m port clock).1):=by
 have e1:=Zp3 m.A3
 have e2:∀p,Ob m.A7 p=TX m.A7 p:=λ_=>rfl
 have e3:=Zp9 m.C3
 have e4:=Zpc hb
 have e5:W8 m.A9=TY m.A9:=rfl
 simp only[uv,Lf,wI,Gz,Tree.m,dd,e1,e2,e3,e4,e5]
 rcases Hb (p:=port)with rfl|rfl|rfl|rfl|rfl|rfl|rfl|rfl|rfl|rfl|rfl|rfl|h|h
 all_goals first|rfl|skip
 ·have n:∀k:Int,0<=k->(port==k)=false:=λk hk=>beq_eq_false_iff_ne.2 (by omega)
  have c:Jd m.A3 port=(m.A3,0):=by
   simp only[Jd,G5,Tree.m,n 0 (by decide),n 1 (by decide),cond_false]
  simp only[n 0 (by decide),n 1 (by decide),n 2 (by decide),n 3 (by decide),n 4 (by decide),n 5 (by decide),n 6 (by decide),n 7 (by decide),n 8 (by decide),n 9 (by decide),n 10 (by decide),n 11 (by decide),cond_false,dY (show port<=1 by omega),cond_true,c]
 ·have n:∀k:Int,k<12->(port==k)=false:=λk hk=>beq_eq_false_iff_ne.2 (by omega)
  have c:Jf m.A2 port=0:=by
   simp only[Jf,LP,Tree.m,n 10 (by decide),n 11 (by decide),cond_false]
  simp only[n 0 (by decide),n 1 (by decide),n 2 (by decide),n 3 (by decide),n 4 (by decide),n 5 (by decide),n 6 (by decide),n 7 (by decide),n 8 (by decide),n 9 (by decide),n 10 (by decide),n 11 (by decide),cond_false,dN (show¬port<=1 by omega),dN (show¬port<=6 by omega),dN (show¬port<=9 by omega),c]
theorem yM{P:Nat}{m:au}(hm:ek P m.Mem)(hb:okB m.A2)(port:Int){v:Int}(hv:U v):Fv m port v m.A1=((AJ m port v).2,(AJ m port v).1):=by
 have e1:=Zi7 hm m.A7
 have e2:=Zk2 hm m.C3
 have e3:=Zl1 hm hb port hv
 have e4:=vL m.A9 v
 simp only[Fv,Le,AJ,Fa,Tree.m,dd,e1,e2,e3,e4]
 rcases Hb (p:=port)with rfl|rfl|rfl|rfl|rfl|rfl|rfl|rfl|rfl|rfl|rfl|rfl|h|h
 all_goals first|rfl|skip
 ·have n:∀k:Int,0<=k->(port==k)=false:=λk hk=>beq_eq_false_iff_ne.2 (by omega)
  simp only[n 0 (by decide),n 1 (by decide),n 2 (by decide),n 3 (by decide),n 4 (by decide),n 5 (by decide),n 6 (by decide),n 7 (by decide),n 8 (by decide),n 9 (by decide),n 10 (by decide),n 11 (by decide),cond_false,dY (show port<=2 by omega),cond_true]
 ·have n:∀k:Int,k<12->(port==k)=false:=λk hk=>beq_eq_false_iff_ne.2 (by omega)
  have c:AI m.A2 m.Mem port v=(m.A2,m.Mem):=by
   simp only[AI,Bm,Tree.m,n 10 (by decide),n 11 (by decide),cond_false]
  simp only[n 0 (by decide),n 1 (by decide),n 2 (by decide),n 3 (by decide),n 4 (by decide),n 5 (by decide),n 6 (by decide),n 7 (by decide),n 8 (by decide),n 9 (by decide),n 10 (by decide),n 11 (by decide),cond_false,dN (show¬port<=2 by omega),dN (show¬port<=6 by omega),dN (show¬port<=9 by omega),c]
def tick(n:au)(c:bh)(w h:Bool):au:={B1:=c,Mem:=n.Mem,A3:=n.A3,A9:=n.A9,A7:=n.A7,C3:=n.C3,A2:=n.A2,A1:=wrap .u64 (n.A1+1),A4:=w,A6:=h}
def Cu(m:au)(c:bh)(mem:List Int):au:={B1:=c,Mem:=mem,A3:=m.A3,A9:=m.A9,A7:=m.A7,C3:=m.C3,A2:=m.A2,A1:=m.A1,A4:=false,A6:=m.A6}
def Fw(n:au)(e:kI)(clock dh:Int):au×List dx:=
 bif e.C0==1 then
  (bif e.D9 !=0 then(tick (uv n e.D0 clock).1 {X:=iS.of 0 (dG (iS.l (uv n e.D0 clock).1.B1.X) e.D9.toNat (uv n e.D0 clock).2),Pc:=(uv n e.D0 clock).1.B1.Pc,B4:=(uv n e.D0 clock).1.B1.B4} (uv n e.D0 clock).1.A4 (uv n e.D0 clock).1.A6,[])
  else(tick (uv n e.D0 clock).1 (uv n e.D0 clock).1.B1 (uv n e.D0 clock).1.A4 (uv n e.D0 clock).1.A6,[]))
 else bif e.C0==2 then(tick (Fv n e.D0 e.Value dh).1 (Fv n e.D0 e.Value dh).1.B1 (Fv n e.D0 e.Value dh).1.A4 (Fv n e.D0 e.Value dh).1.A6,(Fv n e.D0 e.Value dh).2)
 else bif e.C0==3 then(tick n n.B1 true n.A6,[])else bif e.C0==4 then(tick n n.B1 n.A4 true,[])else(tick n n.B1 n.A4 n.A6,[])
def Cv(n:au)(e:kI)(clock:Int):List dx×au:=
 bif e.C0==1 then([],tick (wI n e.D0 clock).2 (lD (wI n e.D0 clock).2.B1 e.D9 (wI n e.D0 clock).1) (wI n e.D0 clock).2.A4 (wI n e.D0 clock).2.A6)
 else bif e.C0==2 then((AJ n e.D0 e.Value).1,tick (AJ n e.D0 e.Value).2 (AJ n e.D0 e.Value).2.B1 (AJ n e.D0 e.Value).2.A4 (AJ n e.D0 e.Value).2.A6)
 else bif e.C0==3 then([],tick n n.B1 true n.A6)else bif e.C0==4 then([],tick n n.B1 n.A4 true)else([],tick n n.B1 n.A4 n.A6)
theorem xY(m:au)(clock:Int):ga m clock=Cv (Cu m (pQ (lT m) m.Mem).1 (pQ (lT m) m.Mem).2.2) (pQ (lT m) m.Mem).2.1 clock:=by kernel_rfl
theorem Znj(m:au)(clock:Int):AK m clock=bif !AB m then(m,[])else Fw {B1:=(wF (nq m).B1 (nq m).Mem).1,Mem:=(wF (nq m).B1 (nq m).Mem).2.1,A3:=(nq m).A3,A9:=(nq m).A9,A7:=(nq m).A7,C3:=(nq m).C3,A2:=(nq m).A2,A1:=(nq m).A1,A4:=(nq m).A4,A6:=(nq m).A6} (wF (nq m).B1 (nq m).Mem).2.2 clock m.A1:=by kernel_rfl
theorem xap(m:List Int):X6 m=m:=by
 simp[X6,LX,Tree.m]
theorem Hc(m:au):Jk m=m:=by
 simp only[Jk,GA,Tree.m,dd,xap]
theorem X7(m:au)(clock:Int):X8 m clock=bif nb m then(m,[])else((ga m clock).2,(ga m clock).1):=by
 simp only[X8,Z2u,Tree.m,dd,Hc]
theorem vM{P:Nat}{n:au}(hm:ek P n.Mem)(hb:okB n.A2){e:kI}(hr:0<=e.D9/\e.D9<16)(hv:U e.Value)(clock:Int):Fw n e clock n.A1=((Cv n e clock).2,(Cv n e clock).1):=by
 unfold Fw Cv
 rw[zap hb e.D0 clock,yM hm hb e.D0 hv]
 cases e.C0==1
 ·cases e.C0==2
  ·cases e.C0==3
   ·cases e.C0==4<;>rfl
   ·rfl
  ·rfl
 ·generalize wI n e.D0 clock=r
  have s:=TE r.2.B1 hr r.1
  show(bif e.D9 !=0 then _ else _)=(tick r.2 (lD r.2.B1 e.D9 r.1) r.2.A4 r.2.A6,[])
  rw[<-s]
  simp only[ur,Fm,Tree.m]
  cases e.D9 !=0<;>rfl
theorem Zih{m:au}(h:sM m)(clock:Int):AK m clock=X8 m clock:=by
 rw[Znj,X7,TW h]
 cases hs:nb m
 ·have hr:AB m=true:=by rw[TW h,hs];rfl
  obtain⟨hm,hh,N4⟩:=To hr
  obtain⟨g1,g2,g3,g4,g5⟩:=(GM m).1 hm
  rcases(ON m.Mem h.mem).2 with c|⟨P,hP,gy⟩
  ·exact absurd c g1
  have X9:rj P m:=⟨h.lY,gy,h.kR,h.sK,h.uu.1,h.uu.2⟩
  obtain⟨b1,b2,b3,_⟩:=(Tree.pp (Xb X9 g2)).2
  change mK (nq m).B1 at b1
  change rj P (nq m)at b2
  change(nq m).Mem=m.Mem at b3
  have be:=Z9m h g2.st
  have TZ:mK (lT m):=by have:=b1;rw[be]at this;exact this
  have LY:iw (lT m):=by have:=b2.lY;rw[be]at this;exact this
  have ex:=Zhq gy LY TZ.st
  have er:=(Tree.pp (Zmm LY gy)).2
  change 0<=(wF (lT m) m.Mem).2.2.D9/\(wF (lT m) m.Mem).2.2.D9<16 at er
  obtain⟨d1,d2,d3⟩:=(Tree.pp (Fb LY gy)).2
  change U (pQ (lT m) m.Mem).2.1.Value at d2
  change ek P (pQ (lT m) m.Mem).2.2 at d3
  rw[ex]at er
  rw[xY,be]
  show Fw {B1:=(wF (lT m) m.Mem).1,Mem:=(wF (lT m) m.Mem).2.1,A3:=m.A3,A9:=m.A9,A7:=m.A7,C3:=m.C3,A2:=m.A2,A1:=m.A1,A4:=false,A6:=m.A6} (wF (lT m) m.Mem).2.2 clock m.A1=_
  rw[ex]
  exact vM (n:=Cu m (pQ (lT m) m.Mem).1 (pQ (lT m) m.Mem).2.2) d3 h.uu er d2 clock
 ·rfl
theorem Z8z{m:au}(h:sM m)(e:gx):LZ m e=OQ m e:=by
 have gm:jC m.Mem=m.Mem:=rfl
 have mm:=LR h
 have t1:Tg m.A9=T0 m.A9:=rfl
 have t2:∀b,Qpj m.A3 b=Ya m.A3 b:=λ_=>rfl
 simp only[LZ,GQ,OQ,T8,lK,Fx,Tree.m,dd,Hc,gm,t1,t2]
 rw[show mZ {B1:=m.B1,Mem:=m.Mem,A3:=m.A3,A9:=m.A9,A7:=m.A7,C3:=m.C3,A2:=m.A2,A1:=m.A1,A4:=m.A4,A6:=m.A6}=pR m from mm]
 cases hM:pR m
 ·rfl
 have hM':mZ m=true:=mm.trans hM
 rcases(ON m.Mem h.mem).2 with c|⟨P,hP,gy⟩
 ·exact absurd c ((GM m).1 hM').1
 have cs:=Zak gy h.kR e
 have rs:=Zej gy h.sK e.C9
 clear mm hM hM' gm h
 obtain⟨c,mem,con,ti,d,n,b,ct,w,hl⟩:=m
 cases hl
 ·by_cases k2:e.C0=2
  ·rw[k2];cases e.N==0<;>cases decide (e.C9=[])<;>rfl
  by_cases k3:e.C0=3
  ·rw[k3];cases decide (e.N<=255)<;>cases decide (e.C9=[])<;>rfl
  by_cases k4:e.C0=4
  ·rw[k4,cs];rfl
  by_cases k5:e.C0=5
  ·rw[k5,rs];cases e.N==0<;>rfl
  by_cases k6:e.C0=6
  ·rw[k6];cases decide (e.C9=[])<;>rfl
  ·rw[show(e.C0==2)=false by simpa using k2,show(e.C0==3)=false by simpa using k3,show(e.C0==4)=false by simpa using k4,show(e.C0==5)=false by simpa using k5,show(e.C0==6)=false by simpa using k6]
   rfl
 ·rfl
section
variable {m:au} (h:sM m) (hl:m.Mem.length<=1024)
include h
theorem wJ(hm:mZ m=true):∃P,rj P m/\nH P m:=by
 rcases(ON m.Mem h.mem).2 with c|⟨P,hP,gy⟩
 ·exact absurd c ((GM m).1 hm).1
 ·exact⟨P,⟨h.lY,gy,h.kR,h.sK,h.uu.1,h.uu.2⟩,⟨h.lY,gy,h.kR,h.sK,h.uu,h.lS⟩⟩
include hl
theorem ql{clock:Int}(hk:U clock):OR m clock/\(AK m clock).2.length<=1/\(AK m clock).1.Mem.length<=1024:=by
 cases hr:AB m
 ·have e:AK m clock=(m,[]):=by rw[Znj,hr];rfl
  rw[e]
  refine⟨?_,aT _,hl⟩
  have gm:jC m.Mem=m.Mem:=rfl
  show(GP m clock).p
  unfold Tree.p GP
  refine cz (by show m.Mem.length<=35184372088832;omega) (ar λl hl=>?_)
  rw[gm]at hl;subst hl
  refine cz (Tree.pp (Xe (m:=⟨_,_,_,_,_,_,m.A2,_,_,_⟩) h.uu.2)).1 (ar λx1 nJ=>aa (λ_=>trivial) (λhb=>?_))
  have:x1=false:=nJ.trans hr
  rw[this]at hb;cases hb
 ·obtain⟨P,s,_⟩:=wJ h (To hr).1
  have g:=Tree.pp (yh s h.lS hk)
  have ml:=g.2.2.ok.mem.len
  have mp:=g.2.2.ok.mem.p2
  exact⟨g.1,g.2.1,by show(GP m clock).m.1.Mem.length<=1024;omega⟩
omit h hl in
theorem qN{P:Nat}(h:nH P m){e:gx}(he:U e.N):(Fx m e).w (λx=>nH P x.2):=by
 have k:=h
 obtain⟨h1,h2,h3,h4,h5,h7⟩:=h
 unfold Fx
 repeat'(first
  |exact k
  |exact⟨h1,h2,h3,h4,⟨he,h5.2⟩,h7⟩
  |exact ar λ_ _=>⟨h1,h2,h3,h4,h5,h7⟩
  |exact bm (xab _ _) λ_ _=>⟨h1,h2,h3,h4,h5,h7⟩
  |exact bm (Zlw h2 h3 _) λx hx=>⟨h1,hx.2,hx.1,h4,h5,h7⟩
  |exact bm (Zmx h2 h4 _) λx hx=>⟨h1,hx.2,h3,hx.1,h5,h7⟩
  |refine aa (λ_=>?_) (λ_=>?_))
theorem Zp2{e:gx}(he:U e.N):Qdh m e:=by
 cases hm:mZ m
 ·have gm:jC m.Mem=m.Mem:=rfl
  show(GQ m e).p
  unfold Tree.p GQ
  refine cz (by show m.Mem.length<=35184372088832;omega) (ar λl hl=>?_)
  rw[gm]at hl;subst hl
  refine cz (Tree.pp (Tp (m:=⟨_,_,_,_,_,_,m.A2,_,_,_⟩) h.uu.2)).1 (ar λx1 nJ=>aa (λ_=>trivial) (λhb=>?_))
  have:x1=false:=nJ.trans hm
  rw[this]at hb;cases hb
 ·obtain⟨P,s,o⟩:=wJ h hm
  exact(Tree.pp (Zn6 o he)).1

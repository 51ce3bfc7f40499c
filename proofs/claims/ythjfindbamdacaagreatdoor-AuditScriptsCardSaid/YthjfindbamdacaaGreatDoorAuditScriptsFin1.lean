import Derived.Test.YthjfindbamdacaaGreatDoorAuditScriptsLaws2
import Derived.Test.YthjfindbamdacaaGreatDoorAuditScriptsNewsB
import Derived.Test.YthjfindbamdacaaGreatDoorAuditScriptsZt
open Nat renaming lt_succ_self->cO,blt->bJ,zero_le->aT,le_refl->aO,le_trans->bH,min_le_left->dA,le_of_eq->dL,pow_le_pow_right->dT,and_le_left->eB,pow_lt_pow_right->eC,two_pow_pos->eG,two_pow_add_eq_or_of_lt->eK,eq_of_testBit_eq->eM,testBit_mod_two_pow->eN,testBit->eO,zero_testBit->fD,testBit_and->fE
open List renaming getD_eq_getElem?_getD->cP,getElem?_eq_getElem->cG,replicate->cQ,append->cR,mem_cons->cS,not_mem_nil->cU,length_replicate->cV,length_take->bD,length_drop->bF,mem_of_mem_take->cX,mem_of_mem_drop->cY,length_singleton->cZ,take->dB,drop->dC,ext_getElem->bN,range->dD,set->dG,length_set->dH,length_cons->dI,length_nil->dJ,length->dK,getD->aK,getElem?_take->aU
open Int renaming le_refl->cW,tmod->dE,toNat->dF,emod_eq_of_lt->dM,pow_pos->dO,fdiv_eq_ediv_of_nonneg->dP,le_of_lt->dQ,pow_add->dR,mul_le_mul_of_nonneg_right->dS,lt_or_le->dV,toNat_natCast->eD,tmod_eq_emod_of_nonneg->eF,toNat_of_nonneg->eH,fdiv->eJ,tdiv->eU,tdiv_eq_ediv_of_nonneg->eV,ediv_ediv_of_nonneg->fA,mul_ediv_add_emod->fB,pow_succ->fC
open Bool renaming or_eq_true->aI,eq_iff_iff->eI,noConfusion->eZ
open UInt8 renaming toNat_lt->dU,toNat->eW,ofNat->eX
open BitVec renaming ofInt->dW,toNat_ofInt->dX,toNat_or->dZ,toNat_and->eA,getLsbD->eQ,eq_of_toNat_eq->eR,ofInt_natCast->eS,toNat_ofNat->eT
open Prod renaming ext->eY
set_option maxRecDepth 100000
set_option linter.all false
namespace Go.Proofs.YthjfindbamdacaaGreatDoor
open Go Go.GD
open Go.IntKind(wrap i64 u32 u64 u8 wrap_i64 wrap_u32 wrap_u64 wrap_u8 wrap_i32)
theorem zI(i:gu):U (oQ i).1:=by
 refine Tree.post (S6 i) (W:=λr=>U r.1) ?_
 unfold S6
 exact ar λ_ _=>aa (λ_=>ek) (λ_=>nb _ _)
theorem S7(l:List Int)(hl:l.length*8<=reachBytes):(NL l).w (λr=>(r.length:Int)=l.length/\∀w∈r,U w):=by
 have tC:l.length*8<=140737488351232:=hl
 have app:∀{r:List Int} {x:Int},(∀w∈r,U w)->U x->∀w∈r++[x],U w:=λhr hx w hw=>by
  rw[List.mem_append]at hw
  rcases hw with hw|hw
  ·exact hr w hw
  ·rw[List.mem_singleton.1 hw];exact hx
 unfold NL
 refine ga (inv:=λz=>Qrv l z/\∀w∈z.2,U w) (μ:=S8 l) ⟨⟨by omega,by simp,by simp⟩,by simp⟩ (cO _) (λv0 hv=>?_)
 obtain⟨⟨h1,h2,h3⟩,h4⟩:=hv
 refine aa (λh=>?_) (λh=>?_)
 ·have h:=oY h
  have next:∀x:Int,U x->(Qrv l (wrap i64 (v0.1+1),v0.2++[x])/\∀w∈v0.2++[x],U w)/\S8 l (wrap i64 (v0.1+1),v0.2++[x])<S8 l v0:=λx hx=>by
   have hw:i64.wrap (v0.1+1)=v0.1+1:=by rw[wrap_i64];omega
   rw[hw]
   refine⟨⟨⟨?_,?_,?_⟩,app h4 hx⟩,?_⟩
   ·show 0<=v0.1+1;omega
   ·show v0.1+1<=l.length;omega
   ·show((v0.2++[x]).length:Int)=v0.1+1;simp;omega
   ·show(l.length-(v0.1+1)).toNat<(l.length-v0.1).toNat;omega
  have hb:(Nat.beq 1 1&&bJ 0 1&&decide (0<=v0.1/\v0.1<(l.length:Int)))=true:=by simp[bJ];omega
  have hc:decide (4*(v0.2.length+1)<=140737488355328)=true:=dY (by omega)
  exact ba hb (aa (λ_=>ba hb (ba hc (next _ (fg _)))) (λ_=>ba hb (cz (zV _) (ar λx0 _=>ar λx1 hx=>ba hc (next _ (by rw[hx];exact zI _))))))
 ·have h:=oN h
  exact⟨by show(v0.2.length:Int)=l.length;omega,h4⟩
theorem S9(steps:Int):0<=pP steps/\pP steps<=4000:=by
 refine Tree.post (Ta steps) (W:=λr=>0<=r/\r<=4000) ?_
 unfold Ta
 refine ez ?_
 constructor<;>(repeat' split)<;>omega
theorem Zhn{P:Nat}{r:cy}(h:pq P r)(steps:Int){clock:Int}(hc:U clock)(hl:r.C8.length<=900000)(hq:r.B0.length<=1000)(hu:∀q∈r.B0,U q.N):
 (IM r steps clock).w (λx=>pq P x.1/\x.1.C8.length<=r.C8.length+r.B0.length+8000/\(x.1.B0=r.B0\/x.1.B0=[])/\x.2.length<=4000):=by
 unfold IM
 refine bm (Gx h (by omega) (by omega)) λx0 hx=>?_
 obtain⟨k1,k2,k3⟩:=hx
 refine ar λx1 _=>aa (λ_=>⟨k1,by rw[k2];omega,.inl k3,aT _⟩) (λ_=>?_)
 have gn:U (if clock>x0.B3 then clock else x0.B3):=by split<;>first|exact hc|exact k1.clock
 refine ga (inv:=λz=>0<=z.1/\z.1<=r.B0.length/\pq P z.2/\(z.2.C8.length:Int)<=r.C8.length+z.1/\z.2.B0=r.B0) (μ:=W3 r steps clock) ⟨by omega,by omega,⟨k1.m,gn⟩,by rw[k2];omega,k3⟩ (cO _) (λz hz=>?_)
 obtain⟨z1,z2,z3,z4,z5⟩:=hz
 refine aa (λhb=>?_) (λhb=>?_)
 ·have hb:=oY hb
  rw[z5]at hb
  have hm:(z.2.B0.getD z.1.toNat (RK.cj RK.bd))∈r.B0:=by
   rw[z5]
   have cg:z.1.toNat<r.B0.length:=by omega
   rw[cP,cG cg]
   exact List.getElem_mem cg
  refine ba (by rw[z5];simp[bJ];omega) (bm (qB z3 (hu _ hm) (by omega)) λx hx=>fh ?_)
  obtain⟨a1,a2,a3⟩:=hx
  show(0<=i64.wrap (z.1+1)/\i64.wrap (z.1+1)<=r.B0.length/\pq P x/\(x.C8.length:Int)<=r.C8.length+i64.wrap (z.1+1)/\x.B0=r.B0)/\(x.B0.length-i64.wrap (z.1+1)).toNat<(z.2.B0.length-z.1).toNat
  have ew:i64.wrap (z.1+1)=z.1+1:=by rw[wrap_i64];omega
  rw[ew,a3,z5]
  exact⟨⟨by omega,by omega,a1,by omega,rfl⟩,by omega⟩
 ·refine ga (inv:=λy=>0<=y.1/\y.1<=4000/\pq P y.2.1/\(y.2.1.C8.length:Int)<=r.C8.length+r.B0.length+2*y.1/\y.2.1.B0=[]/\(y.2.2.length:Int)<=y.1) (μ:=NM r steps clock z) ⟨by omega,by omega,⟨z3.m,z3.clock⟩,by simp;omega,rfl,by simp⟩ (cO _) (λy hy=>?_)
  obtain⟨y1,y2,y3,y4,y5,y6⟩:=hy
  have ew:i64.wrap (y.1+1)=y.1+1:=by rw[wrap_i64];omega
  refine ar λx3 DN=>aa (λhb=>?_) (λ_=>⟨y3,by show y.2.1.C8.length<=_;omega,.inr y5,by show y.2.2.length<=_;omega⟩)
  have hb:=oY hb
  have lim:=(S9 steps).2
  rw[<-DN]at lim
  refine ar λx4 _=>aa (λ_=>bm (qB (e:=⟨_,_,_⟩) y3 ek (by omega)) λx5 h5=>?_) (λ_=>?_)
  ·obtain⟨q1,q2,q3⟩:=h5
   have q3:=q3.trans y5
   refine bm (W4 _) λs1 _=>aa (λ_=>⟨q1,by show x5.C8.length<=_;omega,.inr q3,by show y.2.2.length<=_;omega⟩) (λ_=>bm (Qzh q1.m.me q1.m.mem) λs2 _=>aa (λ_=>ba (dY (by omega)) (bm (Tb (r:=⟨x5.A0,x5.B3,x5.C8++[_],x5.B0⟩) ⟨q1.m,q1.clock⟩ q1.clock) λo ho=>?_)) (λ_=>bm (Tb q1 q1.clock) λo ho=>?_))
   ·obtain⟨a1,⟨⟨a2,a3⟩,a4,a5⟩⟩:=ho
    have e4:o.2.C8.length=x5.C8.length+1:=by rw[a4];simp
    have a5:o.2.B0=[]:=a5.trans q3
    refine ba (dY (by omega)) (fh ?_)
    show(0<=i64.wrap (y.1+1)/\i64.wrap (y.1+1)<=4000/\pq P _/\(o.2.C8.length:Int)<=r.C8.length+r.B0.length+2*i64.wrap (y.1+1)/\o.2.B0=[]/\((y.2.2++o.1).length:Int)<=i64.wrap (y.1+1))/\(4000-i64.wrap (y.1+1)).toNat<(4000-y.1).toNat
    rw[ew,a5,lA]
    exact⟨⟨by omega,by omega,⟨a2,fg _⟩,by omega,rfl,by omega⟩,by omega⟩
   ·obtain⟨a1,⟨⟨a2,a3⟩,a4,a5⟩⟩:=ho
    have e4:o.2.C8.length=x5.C8.length:=by rw[a4]
    have a5:o.2.B0=[]:=a5.trans q3
    refine ba (dY (by omega)) (fh ?_)
    show(0<=i64.wrap (y.1+1)/\i64.wrap (y.1+1)<=4000/\pq P _/\(o.2.C8.length:Int)<=r.C8.length+r.B0.length+2*i64.wrap (y.1+1)/\o.2.B0=[]/\((y.2.2++o.1).length:Int)<=i64.wrap (y.1+1))/\(4000-i64.wrap (y.1+1)).toNat<(4000-y.1).toNat
    rw[ew,a5,lA]
    exact⟨⟨by omega,by omega,⟨a2,fg _⟩,by omega,rfl,by omega⟩,by omega⟩
  ·refine bm (W4 _) λs1 _=>aa (λ_=>⟨y3,by show y.2.1.C8.length<=_;omega,.inr y5,by show y.2.2.length<=_;omega⟩) (λ_=>bm (Qzh y3.m.me y3.m.mem) λs2 _=>aa (λ_=>ba (dY (by omega)) (bm (Tb (r:=⟨y.2.1.A0,y.2.1.B3,y.2.1.C8++[_],y.2.1.B0⟩) ⟨y3.m,y3.clock⟩ y3.clock) λo ho=>?_)) (λ_=>bm (Tb y3 y3.clock) λo ho=>?_))
   ·obtain⟨a1,⟨⟨a2,a3⟩,a4,a5⟩⟩:=ho
    have e4:o.2.C8.length=y.2.1.C8.length+1:=by rw[a4];simp
    have a5:o.2.B0=[]:=a5.trans y5
    refine ba (dY (by omega)) (fh ?_)
    show(0<=i64.wrap (y.1+1)/\i64.wrap (y.1+1)<=4000/\pq P _/\(o.2.C8.length:Int)<=r.C8.length+r.B0.length+2*i64.wrap (y.1+1)/\o.2.B0=[]/\((y.2.2++o.1).length:Int)<=i64.wrap (y.1+1))/\(4000-i64.wrap (y.1+1)).toNat<(4000-y.1).toNat
    rw[ew,a5,lA]
    exact⟨⟨by omega,by omega,⟨a2,fg _⟩,by omega,rfl,by omega⟩,by omega⟩
   ·obtain⟨a1,⟨⟨a2,a3⟩,a4,a5⟩⟩:=ho
    have e4:o.2.C8.length=y.2.1.C8.length:=by rw[a4]
    have a5:o.2.B0=[]:=a5.trans y5
    refine ba (dY (by omega)) (fh ?_)
    show(0<=i64.wrap (y.1+1)/\i64.wrap (y.1+1)<=4000/\pq P _/\(o.2.C8.length:Int)<=r.C8.length+r.B0.length+2*i64.wrap (y.1+1)/\o.2.B0=[]/\((y.2.2++o.1).length:Int)<=i64.wrap (y.1+1))/\(4000-i64.wrap (y.1+1)).toNat<(4000-y.1).toNat
    rw[ew,a5,lA]
    exact⟨⟨by omega,by omega,⟨a2,fg _⟩,by omega,rfl,by omega⟩,by omega⟩
section
variable {P:Nat} {m:au} (h:nI P m)
include h
theorem NN(port:Int){clock:Int}(hc:U clock):(Gy m port clock).w (λx=>U x.1/\nI P x.2/\x.2.A1=m.A1):=by
 have k:=(⟨h,rfl⟩:nI P m/\m.A1=m.A1)
 obtain⟨h1,h2,h3,h4,h5,h7⟩:=h
 unfold Gy
 exact aa (λ_=>ar λx hx=>⟨hx▸Z24 _ _,⟨⟨h1,h2,h3,h4,h5,h7⟩,rfl⟩⟩) (λ_=>aa (λ_=>⟨hc,k⟩) (λ_=>aa (λ_=>ar λx hx=>⟨hx▸Zh8 _,k⟩) (λ_=>aa (λ_=>ar λx hx=>⟨hx▸Zn4 h3 _,k⟩) (λ_=>aa (λ_=>ar λx hx=>⟨hx▸vA h4 _,k⟩) (λ_=>ar λx hx=>⟨hx▸Z35 h5.1 _,k⟩)))))
theorem xaE(port:Int){v:Int}(hv:U v):(EZ m port v).w (λx=>x.1.length<=1/\nI P x.2/\x.2.A1=m.A1):=by
 have k:=(⟨h,rfl⟩:nI P m/\m.A1=m.A1)
 obtain⟨h1,h2,h3,h4,h5,h7⟩:=h
 unfold EZ
 exact aa (λ_=>⟨aO _,k⟩) (λ_=>aa (λ_=>⟨aT _,k⟩) (λ_=>aa (λ_=>ar λ_ _=>⟨aT _,⟨⟨h1,h2,h3,h4,h5,h7⟩,rfl⟩⟩) (λ_=>aa (λ_=>bm (Zf5 h2 h3 _ hv _) λx hx=>⟨hx.2,⟨⟨h1,h2,hx.1,h4,h5,h7⟩,rfl⟩⟩) (λ_=>aa (λ_=>bm (Zmd h2 h4 _ hv _) λx hx=>⟨hx.2,⟨⟨h1,h2,h3,hx.1,h5,h7⟩,rfl⟩⟩) (λ_=>bm (xac h2 h5 _ hv) λx hx=>⟨aT _,⟨⟨h1,hx.2,h3,h4,hx.1,h7⟩,rfl⟩⟩)))))
theorem Z8w{clock:Int}(hc:U clock):(KQ m clock).w (λx=>x.1.length<=1/\nI P x.2/\x.2.A1=wrap .u64 (m.A1+1)):=by
 obtain⟨h1,h2,h3,h4,h5,h7⟩:=h
 unfold KQ
 refine bm (Tc h1) λx0 c0=>bm (Fa c0 h2) λx1 hx=>?_
 obtain⟨c1,v1,m1⟩:=hx
 refine aa (λ_=>NO (NN (m:=⟨_,_,_,_,_,_,_,_,_,_⟩) ⟨c1,m1,h3,h4,h5,h7⟩ _ hc) λx2 hx=>?_) (λ_=>aa (λ_=>bm (xaE (m:=⟨_,_,_,_,_,_,_,_,_,_⟩) ⟨c1,m1,h3,h4,h5,h7⟩ _ v1) λx4 hx=>?_) (λ_=>?_))
 ·obtain⟨u,⟨k1,k2,k3,k4,k5,k7⟩,k6⟩:=hx
  exact bm (DO k1 _ u) λx3 h3=>⟨aT _,⟨h3,k2,k3,k4,k5,w0 _⟩,congrArg (λn=>wrap .u64 (n+1)) k6⟩
 ·obtain⟨u,⟨k1,k2,k3,k4,k5,k7⟩,k6⟩:=hx
  exact⟨u,⟨k1,k2,k3,k4,k5,w0 _⟩,congrArg (λn=>wrap .u64 (n+1)) k6⟩
 ·repeat'(first
   |exact⟨aT _,⟨c1,m1,h3,h4,h5,w0 _⟩,rfl⟩
   |refine aa (λ_=>?_) (λ_=>?_))
theorem vW:(Gz m).w (λx=>nI P x/\x.A1=m.A1):=by
 obtain⟨h1,h2,h3,h4,h5,h7⟩:=h
 unfold Gz
 exact bm (qab h2) λx hx=>⟨⟨h1,by rw[hx];exact h2,h3,h4,h5,h7⟩,rfl⟩
end
theorem wE(n:Nat):∀w∈cQ n (0:Int),U w:=λw hw=>by rw[(List.mem_replicate.1 hw).2];exact ek
theorem qaj:nI 0 ⟨⟨⟨0,0,0,0,0,0,0,0,0,0,0,0,0,0,0,0⟩,0,⟨0,0,0,0,0,0,0,0⟩⟩,[],⟨[]⟩,⟨false,0,false⟩,⟨0,0,0,0,0,0,0,[]⟩,⟨0,0,false,0,false,0⟩,⟨0,0⟩,0,false,false⟩:=
 ⟨⟨wE 16,ek,wE 8⟩,⟨rfl,by omega,by omega,λw hw=>by cases hw⟩,⟨ek,ek,ek,ek⟩,⟨ek,ek,ek,ek⟩,⟨ek,ek⟩,by decide⟩
theorem Td{P:Nat}{m:au}(h:nI P m)(hc:0<=m.A1):(Fb m [] 87).w (λx=>∃Q,nI Q x.1):=by
 have z:∃Q,nI Q _:=⟨0,qaj⟩
 unfold Fb
 refine ar λx0 _=>aa (λ_=>z) λ_=>aa (λ_=>z) λ_=>aa (λ_=>z) λ_=>cz (show NP [] by show([]:List ei).length<=1000000000000;decide) (ar λx1 _=>aa (λ_=>z) λ_=>bm (vW h) λx2 hx=>?_)
 refine ga (inv:=λv:au×List dx=>nI P v.1/\0<=v.1.A1/\v.2.length+(87-v.1.A1).toNat<=87) (μ:=Te m [] 87) ⟨hx.1,by rw[hx.2];exact hc,by rw[hx.2];show 0+_<=87;omega⟩ (cO _) λv0 ⟨a1,a2,a3⟩=>?_
 refine aa (λhb=>aa (λ_=>?_) (λ_=>⟨P,a1⟩)) (λ_=>⟨P,a1⟩)
 have hb:=oY hb
 refine ga (inv:=λ_=>True) (μ:=Qb m [] 87 v0) trivial (cO _) λv1 _=>?_
 refine aa (λ_=>⟨P,a1⟩) λ_=>bm (qac _) λx3 _=>aa (λ_=>⟨P,a1⟩) λ_=>bm (yA a1.me a1.mem) λx4 _=>aa (λ_=>z) λ_=>bm (Z8w a1 ek) λx5 h5=>?_
 obtain⟨b1,b2,b3⟩:=h5
 refine ba (dY (by omega)) (fh ?_)
 have e:x5.2.A1=v0.1.A1+1:=by rw[b3,wrap_u64];omega
 show(_/\_/\_)/\(_:Nat)<_
 refine⟨⟨b2,by show 0<=x5.2.A1;omega,by show(v0.2++x5.1).length+(87-x5.2.A1).toNat<=87;rw[lA];omega⟩,by show(87-x5.2.A1).toNat<(87-v0.1.A1).toNat;omega⟩
set_option synthInstance.maxHeartbeats 2000000
set_option synthInstance.maxSize 100000
noncomputable section
instance yI (src:List UInt8):Ck (Qk5 src):=rK (t:=NQ src) (by delta NQ;infer_instance)
instance yE (s:List UInt8):Ck (Qhl s):=rK (t:=NR s) (by delta NR;infer_instance)
instance vE (n:Int):Ck (Fc n):=let d:Decidable (Fc n):=(by delta Fc;infer_instance);⟨@decide _ d,@oY _ d⟩
instance zf (n:Int):Ck (Qfr n):=rK (t:=IN n) (by delta IN;infer_instance)
instance zaj (r:Int):Ck (Qns r):=rK (t:=IP r) (by delta IP;infer_instance)
instance qX (s:List UInt8):Ck (W5 s):=rK (t:=NS s) (by delta NS;infer_instance)
instance Zqs (op:Int):Ck (Qdu op):=rK (t:=NT op) (by delta NT;infer_instance)
instance Zok (s:List UInt8):Ck (KR s):=rK (t:=NU s) (by delta NU;infer_instance)
instance yf (ee:List UInt8):Ck (NV ee):=rK (t:=NW ee) (by delta NW;infer_instance)
instance qF (s:List UInt8):Ck (Qh7 s):=rK (t:=NX s) (by delta NX;infer_instance)
instance qg (l:List ly) (p:List UInt8):Ck (NY l p):=rK (t:=NZ l p) (by delta NZ;infer_instance)
instance xF (s:List UInt8):Ck (Qhf s):=rK (t:=N0 s) (by delta N0;infer_instance)
instance xg (l:List ob) (label:List UInt8):Ck (GA l label):=let d:Decidable (GA l label):=(by delta GA;infer_instance);⟨@decide _ d,@oY _ d⟩
instance xX (src:List UInt8):Ck (Qmg src):=rK (t:=N1 src) (by delta N1;infer_instance)
instance zX (st:kz) (v:Int):Ck (N2 st v):=rK (t:=N3 st v) (by delta N3;infer_instance)
instance Zqr (src:List UInt8):Ck (W6 src):=rK (t:=N4 src) (by delta N4;infer_instance)
theorem xaj:W6 ((108:UInt8)::(Cj++KS++(KT++KU)++(KV++KW++(KX++KY))++(KZ++K0++(K1++K3)++(K4++K5++(K6++K7))))):=ck inferInstance (by kernel_rfl)
def inU(x:Int):Bool:=decide (0<=x)&&decide (x<4294967296)
theorem qak(l:List Int)(h:(Nat.ble l.length 160&&List.all l inU)=true):l.length<=160/\∀w∈l,U w:=by
 rw[aE]at h
 refine⟨lE h.1,λw hw=>?_⟩
 have:=List.all_eq_true.1 h.2 w hw
 simp only[inU,aE,decide_eq_true_eq]at this
 exact this
theorem Tf:(K8 (cR (cR (cR (cR Tg KS) (cR KT KU)) (cR (cR KV KW) (cR KX KY))) (cR (cR (cR KZ K0) (cR K1 K3)) (cR (cR K4 K5) (cR K6 K7))))).1.length<=160/\∀w∈(K8 (cR (cR (cR (cR Tg KS) (cR KT KU)) (cR (cR KV KW) (cR KX KY))) (cR (cR (cR KZ K0) (cR K1 K3)) (cR (cR K4 K5) (cR K6 K7))))).1,U w:=qak _ (by kernel_rfl)
end
theorem sJ(i:List Int)(hu:∀w∈i,U w)(hl:i.length<=256):(DP 8 4 i).w (λx=>nI 8 x.1/\x.1.A1=0):=by
 unfold DP
 refine aa (λh=>absurd h (by decide)) λ_=>aa (λh=>absurd h (by decide)) λ_=>aa (λh=>absurd h (by decide)) λ_=>aa (λh=>absurd h (by decide)) λ_=>aa (λh=>?_) λ_=>ar λx0 e0=>cz (Zfe _) (ar λx1 e1=>?_)
 ·have h:=oY h
  rw[show i64.wrap (8*32)=256 by decide]at h
  omega
 have hx:x1=cQ 256 0:=by rw[e1];kernel_rfl
 have c0:iy x0:=by rw[e0];exact⟨by
  intro w hw
  simp only[W7,Th,Tree.m,iU.l,cS,cU,or_false,or_self]at hw
  rw[hw];exact ek,ek,by
  intro w hw
  simp only[W7,Th,Tree.m,A8.l,cS,cU,or_false,or_self]at hw
  rcases hw with rfl|rfl
  ·exact⟨by omega,by omega⟩
  ·exact ek⟩
 have hz:∀w∈x1,U w:=by rw[hx];exact wE 256
 have hn:x1.length=256:=by rw[hx,cV]
 refine⟨⟨c0,⟨?_,by omega,by omega,λw hw=>?_⟩,⟨ek,ek,ek,ek⟩,⟨ek,ek,ek,ek⟩,⟨ek,ek⟩,cW _⟩,rfl⟩
 ·simp only[lA,bD,bF,hn];omega
 ·rcases List.mem_append.1 hw with h1|h1
  ·exact hu w (cX h1)
  ·exact hz w (cY h1)
theorem Zeo(kind:Int)(l:List Int)(hl:l.length*8<=reachBytes):(Fe kind l).w (λx=>∃Q,nI Q x):=by
 have tC:l.length*8<=140737488351232:=hl
 unfold Fe
 refine cz (Ff (by decide)) (ar λx0 _=>aa (λ_=>cz xaj (ar λx1 e1=>?_)) (λ_=>?_))
 ·obtain⟨q1,q2⟩:x1.1.length<=160/\∀w∈x1.1,U w:=by rw[e1];exact Tf
  refine ga (inv:=λv:List Int=>v.length<=160/\∀w∈v,U w) (μ:=Ti kind l) ⟨q1,q2⟩ (cO _) λv0 ⟨a1,a2⟩=>?_
  refine aa (λhb=>?_) (λ_=>?_)
  ·have hb:=oY hb
   refine ba (dY (by omega)) (fh ?_)
   show(_/\_)/\(_:Nat)<_
   refine⟨⟨by rw[lA,cZ];omega,λw hw=>?_⟩,by show 160-(v0++[0]).length<160-v0.length;rw[lA,cZ];omega⟩
   rcases List.mem_append.1 hw with h1|h1
   ·exact a2 w h1
   ·rw[List.mem_singleton.1 h1];exact ek
  ·refine bm (S7 l hl) λx2 ⟨b1,b2⟩=>ba (dY (by omega)) ?_
   have hu:∀w∈v0++x2,U w:=λw hw=>(List.mem_append.1 hw).elim (a2 w) (b2 w)
   refine aa (λhb=>?_) (λhb=>?_)
   ·have hb:=oY hb
    refine ba (by simp[bJ];rw[lA]at hb;omega) (bm (sJ _ (λw hw=>hu w (cY (cX hw))) (by rw[bD];exact bH (dA _ _) (by decide))) λx3 ⟨c1,c2⟩=>aa (λ_=>bm (Td c1 (by omega)) λx4 hx=>hx) (λ_=>⟨8,c1⟩))
   ·have hb:=oN hb
    exact bm (sJ _ hu (by omega)) λx3 ⟨c1,c2⟩=>aa (λ_=>bm (Td c1 (by omega)) λx4 hx=>hx) (λ_=>⟨8,c1⟩)
 ·refine bm (S7 l hl) λx2 ⟨b1,b2⟩=>ba (dY (by omega)) ?_
  refine aa (λhb=>?_) (λhb=>?_)
  ·have hb:=oY hb
   refine ba (by simp[bJ];omega) (bm (sJ _ (λw hw=>b2 w (cY (cX hw))) (by rw[bD];exact bH (dA _ _) (by decide))) λx3 ⟨c1,c2⟩=>aa (λ_=>bm (Td c1 (by omega)) λx4 hx=>hx) (λ_=>⟨8,c1⟩))
  ·have hb:=oN hb
   exact bm (sJ _ b2 (by omega)) λx3 ⟨c1,c2⟩=>aa (λ_=>bm (Td c1 (by omega)) λx4 hx=>hx) (λ_=>⟨8,c1⟩)
theorem qaF{P:Nat}{r:cy}(h:pq P r)(n:Int)(hl:r.C8.length<=900000)(hq:r.B0.length<=16)(hu:∀q∈r.B0,U q.N):
 (Fg r n).w (λx=>pq P x.1/\x.1.C8.length<=r.C8.length+8016/\(x.1.B0.length<=16/\∀q∈x.1.B0,U q.N)/\x.2.length<=4000):=by
 unfold Fg
 refine ar λx0 _=>aa (λ_=>bm (xB n) λe he=>bm (vU h e (by omega) hq hu he) λx hx=>?_) (λ_=>cz (Ff (by decide)) (ar λx3 _=>bm (Zhn h _ (fg _) hl (by omega) hu) λx hx=>?_))
 ·obtain⟨a1,a2,a3,a4⟩:=hx
  exact⟨a1,by rw[a2];omega,⟨a3,a4⟩,aT _⟩
 ·obtain⟨a1,a2,a3,a4⟩:=hx
  refine⟨a1,by show x.1.C8.length<=_;omega,?_,a4⟩
  rcases a3 with a3|a3
  ·rw[a3];exact⟨hq,hu⟩
  ·rw[a3];exact⟨aT _,λq hq=>by cases hq⟩
theorem zaF{P:Nat}{m:au}(h:nI P m)(l:List Int)(hl:l.length<=30):(IQ m l).w (λx=>pq P x.1):=by
 unfold IQ
 have nr:(K9 m).w (λx=>pq P x/\x.C8=[]/\x.B0=[]):=by
  unfold K9
  exact bm (vW h) λx hx=>⟨⟨hx.1,ek⟩,rfl,rfl⟩
 refine bm nr λx0 ⟨n1,n2,n3⟩=>?_
 refine ga (inv:=λv:Int×cy×List dx=>0<=v.1/\v.1<=l.length/\pq P v.2.1/\(v.2.1.C8.length:Int)<=8016*v.1/\(v.2.1.B0.length<=16/\∀q∈v.2.1.B0,U q.N)/\(v.2.2.length:Int)<=4000*v.1) (μ:=W8 m l) ⟨cW _,by show(0:Int)<=l.length;omega,n1,by rw[n2];exact cW _,by rw[n3];exact⟨aT _,λq hq=>by cases hq⟩,cW _⟩ (cO _) λv0 ⟨a1,a2,a3,a4,⟨a5,a6⟩,a7⟩=>?_
 refine aa (λhb=>?_) (λ_=>a3)
 have hb:=oY hb
 refine ba (by simp[bJ];omega) (bm (qaF a3 _ (by omega) a5 a6) λx1 ⟨b1,b2,b3,b4⟩=>ba (dY (by omega)) (fh ?_))
 have e:i64.wrap (v0.1+1)=v0.1+1:=by rw[wrap_i64];omega
 show(_/\_/\_/\_/\_/\_)/\(_:Nat)<_
 refine⟨⟨by rw[e];omega,by rw[e];omega,b1,by rw[e];show(x1.1.C8.length:Int)<=_;omega,b3,by rw[e,lA];omega⟩,by show(l.length-i64.wrap (v0.1+1)).toNat<(l.length-v0.1).toNat;rw[e];omega⟩
noncomputable section
def lB:List Int:=(K8 (cR (cR (cR (cR Tg KS) (cR KT KU)) (cR (cR KV KW) (cR KX KY))) (cR (cR (cR KZ K0) (cR K1 K3)) (cR (cR K4 K5) (cR K6 K7))))).1
def DQ:List Int:=lB++cQ (160-lB.length) 0
theorem N5(t0 t1 t2 t3 t4 t5 t6 t7 t8 t9 t10 t11 t12 t13 t14 t15 t16 t17 t18 t19 t20 t21 t22 t23 t24 t25 t26 t27 t28 t29 t30 t31 t32 t33 t34 t35 t36 t37 t38 t39 t40 t41 t42 t43 t44 t45 t46 t47 t48 t49 t50 t51 t52 t53 t54 t55 t56 t57 t58 t59 t60 t61 t62 t63 t64 t65 t66 t67 t68 t69 t70 t71 t72 t73 t74 t75 t76 t77 t78 t79 t80 t81 t82 t83 t84 t85 t86 t87 t88 t89 t90 t91 t92 t93 t94 t95:Int):(IS (k9 8 4 (DQ++[t0,t1,t2,t3,t4,t5,t6,t7,t8,t9,t10,t11,t12,t13,t14,t15,t16,t17,t18,t19,t20,t21,t22,t23,t24,t25,t26,t27,t28,t29,t30,t31,t32,t33,t34,t35,t36,t37,t38,t39,t40,t41,t42,t43,t44,t45,t46,t47,t48,t49,t50,t51,t52,t53,t54,t55,t56,t57,t58,t59,t60,t61,t62,t63,t64,t65,t66,t67,t68,t69,t70,t71,t72,t73,t74,t75,t76,t77,t78,t79,t80,t81,t82,t83,t84,t85,t86,t87,t88,t89,t90,t91,t92,t93,t94,t95])).1 [] 87).2.2.2=0:=by kernel_rfl
end
attribute [local irreducible] K8
theorem zak(i j:List Int)(hi:i.length<=256)(hj:j.length<=256)(e:i++cQ (256-i.length) 0=j++cQ (256-j.length) 0):k9 8 4 i=k9 8 4 j:=by
 have w:i64.wrap (8*32)=256:=by decide
 have m:Tj 8=cQ 256 0:=by kernel_rfl
 have d:∀k:List Int,k.length<=256->decide ((k.length:Int)>256)=false:=λk h=>dN (by omega)
 have mem:∀k:List Int,k.length<=256->dB (min k.length (cQ 256 (0:Int)).length) k++dC (min k.length (cQ 256 (0:Int)).length) (cQ 256 0)=k++cQ (256-k.length) 0:=λk h=>by
  rw[cV,Nat.min_eq_left h,List.take_length,List.drop_replicate]
 have r:Tj 8=cQ 256 0:=by kernel_rfl
 simp only[k9,DP,Tree.m,w,dd,r,d i hi,d j hj]
 simp only[mem i hi,mem j hj,e]
theorem IT(t:List Int)(ht:t.length=96):t=[t.getD 0 0,t.getD 1 0,t.getD 2 0,t.getD 3 0,t.getD 4 0,t.getD 5 0,t.getD 6 0,t.getD 7 0,t.getD 8 0,t.getD 9 0,t.getD 10 0,t.getD 11 0,t.getD 12 0,t.getD 13 0,t.getD 14 0,t.getD 15 0,t.getD 16 0,t.getD 17 0,t.getD 18 0,t.getD 19 0,t.getD 20 0,t.getD 21 0,t.getD 22 0,t.getD 23 0,t.getD 24 0,t.getD 25 0,t.getD 26 0,t.getD 27 0,t.getD 28 0,t.getD 29 0,t.getD 30 0,t.getD 31 0,t.getD 32 0,t.getD 33 0,t.getD 34 0,t.getD 35 0,t.getD 36 0,t.getD 37 0,t.getD 38 0,t.getD 39 0,t.getD 40 0,t.getD 41 0,t.getD 42 0,t.getD 43 0,t.getD 44 0,t.getD 45 0,t.getD 46 0,t.getD 47 0,t.getD 48 0,t.getD 49 0,t.getD 50 0,t.getD 51 0,t.getD 52 0,t.getD 53 0,t.getD 54 0,t.getD 55 0,t.getD 56 0,t.getD 57 0,t.getD 58 0,t.getD 59 0,t.getD 60 0,t.getD 61 0,t.getD 62 0,t.getD 63 0,t.getD 64 0,t.getD 65 0,t.getD 66 0,t.getD 67 0,t.getD 68 0,t.getD 69 0,t.getD 70 0,t.getD 71 0,t.getD 72 0,t.getD 73 0,t.getD 74 0,t.getD 75 0,t.getD 76 0,t.getD 77 0,t.getD 78 0,t.getD 79 0,t.getD 80 0,t.getD 81 0,t.getD 82 0,t.getD 83 0,t.getD 84 0,t.getD 85 0,t.getD 86 0,t.getD 87 0,t.getD 88 0,t.getD 89 0,t.getD 90 0,t.getD 91 0,t.getD 92 0,t.getD 93 0,t.getD 94 0,t.getD 95 0]:=by
 apply bN
 ·rw[ht];rfl
 ·intro i h1 h2
  have e:∀j (hj:j<96),[t.getD 0 0,t.getD 1 0,t.getD 2 0,t.getD 3 0,t.getD 4 0,t.getD 5 0,t.getD 6 0,t.getD 7 0,t.getD 8 0,t.getD 9 0,t.getD 10 0,t.getD 11 0,t.getD 12 0,t.getD 13 0,t.getD 14 0,t.getD 15 0,t.getD 16 0,t.getD 17 0,t.getD 18 0,t.getD 19 0,t.getD 20 0,t.getD 21 0,t.getD 22 0,t.getD 23 0,t.getD 24 0,t.getD 25 0,t.getD 26 0,t.getD 27 0,t.getD 28 0,t.getD 29 0,t.getD 30 0,t.getD 31 0,t.getD 32 0,t.getD 33 0,t.getD 34 0,t.getD 35 0,t.getD 36 0,t.getD 37 0,t.getD 38 0,t.getD 39 0,t.getD 40 0,t.getD 41 0,t.getD 42 0,t.getD 43 0,t.getD 44 0,t.getD 45 0,t.getD 46 0,t.getD 47 0,t.getD 48 0,t.getD 49 0,t.getD 50 0,t.getD 51 0,t.getD 52 0,t.getD 53 0,t.getD 54 0,t.getD 55 0,t.getD 56 0,t.getD 57 0,t.getD 58 0,t.getD 59 0,t.getD 60 0,t.getD 61 0,t.getD 62 0,t.getD 63 0,t.getD 64 0,t.getD 65 0,t.getD 66 0,t.getD 67 0,t.getD 68 0,t.getD 69 0,t.getD 70 0,t.getD 71 0,t.getD 72 0,t.getD 73 0,t.getD 74 0,t.getD 75 0,t.getD 76 0,t.getD 77 0,t.getD 78 0,t.getD 79 0,t.getD 80 0,t.getD 81 0,t.getD 82 0,t.getD 83 0,t.getD 84 0,t.getD 85 0,t.getD 86 0,t.getD 87 0,t.getD 88 0,t.getD 89 0,t.getD 90 0,t.getD 91 0,t.getD 92 0,t.getD 93 0,t.getD 94 0,t.getD 95 0][j]'hj=t.getD j 0:=by
   intro j hj
   have:[t.getD 0 0,t.getD 1 0,t.getD 2 0,t.getD 3 0,t.getD 4 0,t.getD 5 0,t.getD 6 0,t.getD 7 0,t.getD 8 0,t.getD 9 0,t.getD 10 0,t.getD 11 0,t.getD 12 0,t.getD 13 0,t.getD 14 0,t.getD 15 0,t.getD 16 0,t.getD 17 0,t.getD 18 0,t.getD 19 0,t.getD 20 0,t.getD 21 0,t.getD 22 0,t.getD 23 0,t.getD 24 0,t.getD 25 0,t.getD 26 0,t.getD 27 0,t.getD 28 0,t.getD 29 0,t.getD 30 0,t.getD 31 0,t.getD 32 0,t.getD 33 0,t.getD 34 0,t.getD 35 0,t.getD 36 0,t.getD 37 0,t.getD 38 0,t.getD 39 0,t.getD 40 0,t.getD 41 0,t.getD 42 0,t.getD 43 0,t.getD 44 0,t.getD 45 0,t.getD 46 0,t.getD 47 0,t.getD 48 0,t.getD 49 0,t.getD 50 0,t.getD 51 0,t.getD 52 0,t.getD 53 0,t.getD 54 0,t.getD 55 0,t.getD 56 0,t.getD 57 0,t.getD 58 0,t.getD 59 0,t.getD 60 0,t.getD 61 0,t.getD 62 0,t.getD 63 0,t.getD 64 0,t.getD 65 0,t.getD 66 0,t.getD 67 0,t.getD 68 0,t.getD 69 0,t.getD 70 0,t.getD 71 0,t.getD 72 0,t.getD 73 0,t.getD 74 0,t.getD 75 0,t.getD 76 0,t.getD 77 0,t.getD 78 0,t.getD 79 0,t.getD 80 0,t.getD 81 0,t.getD 82 0,t.getD 83 0,t.getD 84 0,t.getD 85 0,t.getD 86 0,t.getD 87 0,t.getD 88 0,t.getD 89 0,t.getD 90 0,t.getD 91 0,t.getD 92 0,t.getD 93 0,t.getD 94 0,t.getD 95 0]=(dD 96).map (λk=>t.getD k 0):=rfl
   simp only[this,List.getElem_map,List.getElem_range]
  rw[e i (by omega),cP,cG h1]
  rfl
theorem xaF(t:List Int)(ht:t.length=96):(IS (k9 8 4 (DQ++t)).1 [] 87).2.2.2=0:=by
 rw[IT t ht]
 exact N5 _ _ _ _ _ _ _ _ _ _ _ _ _ _ _ _ _ _ _ _ _ _ _ _ _ _ _ _ _ _ _ _ _ _ _ _ _ _ _ _ _ _ _ _ _ _ _ _ _ _ _ _ _ _ _ _ _ _ _ _ _ _ _ _ _ _ _ _ _ _ _ _ _ _ _ _ _ _ _ _ _ _ _ _ _ _ _ _ _ _ _ _ _ _ _ _
theorem xak:DQ.length=160:=by
 have h:lB.length<=160:=Tf.1
 unfold DQ
 rw[lA,cV];omega
def out(f:Int)(m m':List Int):Prop:=∀j:Nat,¬(f*32<=j/\(j:Int)<f*32+32)->m'.getD j 0=m.getD j 0
theorem La(f:Int)(m:List Int):out f m m:=λ_ _=>rfl
theorem wF(l:List Int)(i j:Nat)(v:Int)(h:i≠j):(l.set i v).getD j 0=l.getD j 0:=by
 simp only[cP,List.getElem?_set_ne h]
theorem rT{P:Nat}{m:List Int}(h:ep P m):lT m=P:=by
 obtain⟨h1,h2,h3,_⟩:=h
 simp only[lT,Lb,Tree.m]
 have e:(m.length:Int)=32*P:=by omega
 rw[e]
 have e1:(dE (32*(P:Int)) 32 !=0)=false:=by simp[Int.mul_tmod_right]
 have e2:decide ((32*(P:Int))>1024)=false:=dN (by omega)
 rw[e1,e2]
 simp only[cond_false]
 rw[Int.mul_tdiv_cancel_left _ (by decide),wrap_i64];omega
theorem yX{P:Nat}{m:List Int}(h:ep P m)(f:Int):IU m f=true->0<=f/\f<P:=by
 have hp:=rT h
 simp only[IU,N6,Tree.m,dd,hp]
 cases h1:decide (f>=0)
 ·intro h;cases h
 ·intro h;exact⟨oY h1,oY h⟩
theorem W9{P:Nat}{m:List Int}(h:ep P m)(f:Int)(s:List UInt8):(GB m f s).w (λr=>ep P r.1/\out f m r.1/\(r.2=false->r.1=m)):=by
 have gn:jD m=m:=rfl
 have h2:=h.p2
 unfold GB
 refine cz (rU h) (ar λx0 nJ=>ar λx1 nK=>?_)
 rw[gn]at nJ;subst nJ
 refine aa (λ_=>⟨h,La _ _,λ_=>rfl⟩) λhb=>aa (λ_=>⟨h,La _ _,λ_=>rfl⟩) λhs=>?_
 have hb:x1=true:=by simpa using hb
 obtain⟨f0,f1⟩:=yX h f (nK.symm.trans hb)
 have hs:(s.length:Int)=128:=by simpa using hs
 refine ga (inv:=λz:Int×List Int=>0<=z.1/\z.1<=32/\ep P z.2/\out f x0 z.2) (μ:=Xa x0 f s) ⟨show(0:Int)<=0 by decide,show(0:Int)<=32 by decide,h,La _ _⟩ (cO _) λz ⟨z1,z2,z3,z4⟩=>?_
 refine aa (λhb=>?_) (λ_=>⟨z3,z4,λh=>by cases h⟩)
 have hb:=oY hb
 have e1:i64.wrap (4*z.1)=4*z.1:=by rw[wrap_i64];omega
 have e2:i64.wrap (i64.wrap (4*z.1)+4)=4*z.1+4:=by rw[wrap_i64,wrap_i64];omega
 have e3:i64.wrap (i64.wrap (f*32)+z.1)=f*32+z.1:=by rw[wrap_i64,wrap_i64];omega
 have hl:=z3.len
 have hlen:(dB (dF (i64.wrap (i64.wrap (4*z.1)+4))-dF (i64.wrap (4*z.1))) (dC (dF (i64.wrap (4*z.1))) s)).length=4:=by
  rw[e2,e1,bD,bF];omega
 refine ba (dY (by rw[e2,e1];omega)) ?_
 refine ba (dY (by rw[hlen];decide)) (ba (dY (by rw[hlen];decide)) (ba (dY (by rw[hlen];decide)) (ba (dY (by rw[hlen];decide)) (ba (by rw[e3];simp[bJ];omega) (fh ?_)))))
 show(_/\_/\ep P (dG _ _ _)/\out f x0 (dG _ _ _))/\(_:Nat)<_
 have ew:i64.wrap (z.1+1)=z.1+1:=by rw[wrap_i64];omega
 rw[e3]
 refine⟨⟨by rw[ew];omega,by rw[ew];omega,⟨by rw[dH];exact hl,z3.p1,z3.p2,DR z3.u (nb _ _) _⟩,λj hj=>?_⟩,by show(32-i64.wrap (z.1+1)).toNat<(32-z.1).toNat;rw[ew];omega⟩
 rw[wF _ _ _ _ (by omega)]
 exact z4 j hj
theorem qaG(w:List Int)(h:w.length<=32):(Fh w).w (λr=>r.length=4*w.length):=by
 have e0:i64.wrap (4*(w.length:Int))=4*w.length:=by rw[wrap_i64];omega
 unfold Fh
 refine ba (by rw[e0];simp[bJ,D.plain];omega) ?_
 refine ga (inv:=λz:Int×List Int=>0<=z.1/\z.1<=w.length/\(z.2.length:Int)=4*z.1) (μ:=N7 w) ⟨by decide,by show(0:Int)<=w.length;omega,rfl⟩ (cO _) λz ⟨z1,z2,z3⟩=>?_
 refine aa (λhb=>?_) (λhb=>?_)
 ·have hb:=oY hb
  have ew:i64.wrap (z.1+1)=z.1+1:=by rw[wrap_i64];omega
  refine ba (by simp[bJ];omega) (ba (dY (by omega)) (fh ?_))
  show(_/\_/\_)/\(_:Nat)<_
  refine⟨⟨by rw[ew];omega,by rw[ew];omega,by rw[ew,lA];simp only[dI,dJ];omega⟩,by show(w.length-i64.wrap (z.1+1)).toNat<(w.length-z.1).toNat;rw[ew];omega⟩
 ·have hb:=oN hb
  show(bytesOf z.2).length=_
  rw[N8];omega
theorem Xb{P:Nat}{m:List Int}(h:ep P m)(f:Int):(GC m f).w (λr=>0<=f->f<P->r.1.length=128):=by
 have hl:=h.len
 have h2:=h.p2
 unfold GC
 refine ar λx0 nJ=>aa (λhb=>λf0 f1=>?_) (λhb=>?_)
 ·have hp:=rT h
  have hb:x0=false:=by simpa using hb
  rw[hb]at nJ
  simp only[IU,N6,Tree.m,dd,hp]at nJ
  rw[dY f0]at nJ
  exact absurd f1 (oN nJ.symm)
 ·have hb:x0=true:=by simpa using hb
  obtain⟨f0,f1⟩:=yX h f (nJ.symm.trans hb)
  have e1:i64.wrap (f*32)=f*32:=by rw[wrap_i64];omega
  have e2:i64.wrap (i64.wrap (f*32)+32)=f*32+32:=by rw[wrap_i64,wrap_i64];omega
  have hlen:(dB (dF (i64.wrap (i64.wrap (f*32)+32))-dF (i64.wrap (f*32))) (dC (dF (i64.wrap (f*32))) m)).length=32:=by
   rw[e2,e1,bD,bF];omega
  refine ba (by rw[e2,e1];simp[bJ];omega) ?_
  refine cz (by show dK _<=1000000000000;rw[hlen];decide) (ar λx1 h1=>?_)
  have h1:x1.length=4*(dB (dF (i64.wrap (i64.wrap (f*32)+32))-dF (i64.wrap (f*32))) (dC (dF (i64.wrap (f*32))) m)).length:=by rw[h1];exact(Tree.pp (qaG _ (dL hlen))).2
  intro _ _
  show x1.length=128
  rw[h1,hlen]
theorem Tk{f:Int}(hf:U f){P:Nat}(hP:P<=32)(h:decide (u64.wrap f<u64.wrap (P:Int))=true):0<=f/\f<P:=by
 have h:=oY h
 obtain⟨h1,h2⟩:=hf
 rw[wrap_u64,wrap_u64,dM h1 (by omega),dM (by omega) (by omega)]at h
 exact⟨h1,h⟩
theorem Zpt{P:Nat}{m:List Int}(h:ep P m){d:fp}(hd:ox d)(e:gx):(Lc d m e).w (λr=>ox r.1/\ep P r.2.1/\out d.B2 m r.2.1/\(r.2.2=false->r.2.1=m)/\(∀p,kd d p=true->kd r.1 p=true)):=by
 have gn:jD m=m:=rfl
 have cu:∀b:Bool,ox d/\ep P m/\out d.B2 m m/\(b=false->m=m)/\(∀p,kd d p=true->kd d p=true):=λb=>⟨hd,h,La _ _,λ_=>rfl,λ_ h=>h⟩
 have GF:∀{p:Int},kd d p=true->decide (d.ae>64)=false:=fun{p} hm=>by
  cases hb:decide (d.ae>64)
  ·rfl
  ·have:kd d p=false:=by simp only[kd,wG,Tree.m];rw[hb];rfl
   rw[this]at hm;cases hm
 have m2:∀p,kd d p=true->kd {ae:=d.ae,C1:=d.C1,Frame:=d.Frame,B7:=2,D6:=0,B6:=0,B2:=0,B8:=[]} p=true:=λp hm=>by
  simp only[kd,wG,Tree.m];rw[GF hm];rfl
 have m3:∀p,kd d p=true->kd {ae:=d.ae,C1:=d.C1,Frame:=d.Frame,B7:=3,D6:=0,B6:=0,B2:=0,B8:=[]} p=true:=λp hm=>by
  simp only[kd,wG,Tree.m];rw[GF hm];rfl
 unfold Lc
 refine aa (λ_=>cz (rU h) (ar λx hx=>by rw[gn]at hx;subst hx;exact cu _)) λ_=>aa (λ_=>cz (rU h) (ar λx hx=>by rw[gn]at hx;subst hx;exact cu _)) λ_=>aa (λ_=>cz (rU h) (ar λx hx=>by rw[gn]at hx;subst hx;exact cu _)) λ_=>cz (rU h) (ar λx3 DN=>?_)
 rw[gn]at DN;subst DN
 have fin:∀{m':List Int},ep P m'->out d.B2 x3 m'->(Tree.br (e.N==1) (.lf (({ae:=d.ae,C1:=d.C1,Frame:=d.Frame,B7:=2,D6:=0,B6:=0,B2:=0,B8:=[]}:fp),m',true)) (.lf (({ae:=d.ae,C1:=d.C1,Frame:=d.Frame,B7:=3,D6:=0,B6:=0,B2:=0,B8:=[]}:fp),m',true))).w (λr=>ox r.1/\ep P r.2.1/\out d.B2 x3 r.2.1/\(r.2.2=false->r.2.1=x3)/\(∀p,kd d p=true->kd r.1 p=true)):=λhm ho=>
  aa (λ_=>⟨⟨hd.block,hd.frame,ek,ek⟩,hm,ho,(λh=>by cases h),m2⟩) (λ_=>⟨⟨hd.block,hd.frame,ek,ek⟩,hm,ho,(λh=>by cases h),m3⟩)
 have nod:(Tree.br (!decide (e.C9=[])) (.lf (d,x3,false)) (Tree.br (e.N==1) (.lf (({ae:=d.ae,C1:=d.C1,Frame:=d.Frame,B7:=2,D6:=0,B6:=0,B2:=0,B8:=[]}:fp),x3,true)) (.lf (({ae:=d.ae,C1:=d.C1,Frame:=d.Frame,B7:=3,D6:=0,B6:=0,B2:=0,B8:=[]}:fp),x3,true)))).w (λr=>ox r.1/\ep P r.2.1/\out d.B2 x3 r.2.1/\(r.2.2=false->r.2.1=x3)/\(∀p,kd d p=true->kd r.1 p=true)):=
  aa (λ_=>cu _) (λ_=>fin h (La _ _))
 refine aa (λ_=>aa (λ_=>ar λx4 N9=>aa (λ_=>cu _) λhb=>?_) (λ_=>nod)) (λ_=>nod)
 have hp:=rT h
 have hb:x4=true:=by simpa using hb
 rw[hb]at N9
 simp only[IV,Oa,Tree.m,dd,hp]at N9
 obtain⟨f0,f1⟩:=Tk hd.ib h.p2 N9.symm
 have ef:i64.wrap d.B2=d.B2:=by have:=h.p2;rw[wrap_i64];omega
 refine bm (W9 h _ _) λx5 ⟨h5,o5,k5⟩=>?_
 rw[ef]at o5
 exact aa (λhf=>⟨hd,h5,o5,λ_=>k5 (by simpa using hf),λ_ h=>h⟩) (λ_=>fin h5 o5)
theorem zg{P:Nat}{m:List Int}(h:ep P m){n:ia}(hn:pr n)(frame:List UInt8):(Ld n m frame).w (λr=>pr r.1/\ep P r.2.1/\out n.C0 m r.2.1/\(r.2.2=false->r.2.1=m)/\(∀p,pw n p=true->pw r.1 p=true)):=by
 have gn:jD m=m:=rfl
 have cu:pr n/\ep P m/\out n.C0 m m/\(false=false->m=m)/\(∀p,pw n p=true->pw n p=true):=⟨hn,h,La _ _,λ_=>rfl,λ_ h=>h⟩
 unfold Ld
 refine aa (λ_=>cz (rU h) (ar λx hx=>by rw[gn]at hx;subst hx;exact cu)) λhpo=>aa (λ_=>cz (rU h) (ar λx hx=>by rw[gn]at hx;subst hx;exact cu)) λl1=>aa (λ_=>cz (rU h) (ar λx hx=>by rw[gn]at hx;subst hx;exact cu)) λl2=>ar λx3 DN=>aa (λ_=>cz (rU h) (ar λx hx=>by rw[gn]at hx;subst hx;exact cu)) λhb=>?_
 have l1:=oN l1
 have l2:=oN l2
 have hp:=rT h
 have hb:x3=true:=by simpa using hb
 rw[hb]at DN
 simp only[GG,Ob,Tree.m,dd,hp]at DN
 obtain⟨f0,f1⟩:=Tk hn.buffer h.p2 DN.symm
 have ef:i64.wrap n.C0=n.C0:=by have:=h.p2;rw[wrap_i64];omega
 refine bm (Xb h _) λx5 h5=>?_
 rw[ef]at h5
 have h5:=h5 f0 f1
 have Cg:(maxLen:Nat)=9223372036854775807:=rfl
 refine ba (dY (by omega)) (ba (dY (by simp only[bD,bF,Cg];omega)) (bm (W9 h _ _) λx6 ⟨h6,o6,_⟩=>?_))
 rw[ef]at o6
 have hg:u32.wrap (frame.length:Int)=frame.length:=by rw[wrap_u32];omega
 refine⟨⟨hn.frame,hn.len,ek,fg _⟩,h6,o6,(λh=>by cases h),λp _=>?_⟩
 simp only[pw,Le,Tree.m]
 rw[hg,dY (show(frame.length:Int)>=1 by omega),dY (show(frame.length:Int)<=128 by omega)]
 rfl
theorem qal(c:iV)(b:Int):(Oc c b).w (λr=>tH c=true->tH r.1=true):=by
 have Cg:(maxLen:Nat)=9223372036854775807:=rfl
 unfold Oc
 refine aa (λ_=>λh=>h) (λhb=>?_)
 have hb:=oN hb
 refine ba (dY (by rw[Cg];omega)) ?_
 intro _
 show decide (((c.D1++[_]).length:Int)<=16)=true
 rw[lA,cZ]
 exact dY (by omega)
theorem vI(t:iW)(h:tI t=true):tI (Tl t).1=true:=by
 simp only[Tl,Xc,Tree.m]
 cases ha:t.D3
 ·exact h
 ·rfl
theorem yg(m:au):sK m=(tH m.A3&&(tI m.A9&&(kd m.A7 (lT m.Mem)&&(pw m.C3 (lT m.Mem)&&uu m.A2 (lT m.Mem))))):=by
 simp only[sK,DS,Tree.m,dd]
 cases tH m.A3<;>cases tI m.A9<;>cases kd m.A7 (lT m.Mem)<;>cases pw m.C3 (lT m.Mem)<;>rfl
theorem zaG{b c:gv}(h:c.C2=b.C2)(p:Int):uu c p=uu b p:=by
 simp only[uu,GH,Tree.m,h]
theorem IW{a x y:Bool}(h:x=true->y=true):(bif a then false else x)=true->(bif a then false else y)=true:=by cases a<;>simp_all
def chain(b1 b2 b3 b4 b5 b6 b7 w h dev:Bool):Bool:=bif b1 then false else bif b2 then false else bif b3 then false else bif b4 then false else bif b5 then false else bif b6 then false else bif b7 then false else bif w then(bif h then false else dev)else dev
theorem Zpu{b1 b2 b3 b4 b5 b6 b7 w h d d':Bool}(hd:d=true->d'=true):chain b1 b2 b3 b4 b5 b6 b7 w h d=true->chain b1 b2 b3 b4 b5 b6 b7 w h d'=true:=by
 refine IW (IW (IW (IW (IW (IW (IW ?_))))))
 cases w
 ·exact hd
 ·cases h
  ·exact hd
  ·exactλh=>h
def Fi(p:Int)(c:bh)(ct:Int)(w h dev:Bool):Bool:=chain (p==0) (c.X.a0 !=0) (decide (c.B4.a0>31)) (decide (c.B4.a7>31)) (decide (c.B4.a6>255)) (dE c.B4.a1 4 !=0) (decide (ct>1152921504606846976)) w h dev
theorem vg{p:Int}{c:bh}{ct:Int}{w h d d':Bool}(hd:d=true->d'=true)(g:Fi p c ct w h d=true):Fi p c ct w h d'=true:=Zpu hd g
theorem vX(m:au):nc m=Fi (lT m.Mem) m.B1 m.A1 m.A4 m.A6 (sK m):=rfl
theorem Od{m n:au}(hp:lT n.Mem=lT m.Mem)(Xd:n.B1=m.B1)(Oe:n.A1=m.A1)(hw:n.A4=m.A4)(hh:n.A6=m.A6)
 (hc:tH m.A3=true->tH n.A3=true) (ht:tI m.A9=true->tI n.A9=true) (hd:∀p,kd m.A7 p=true->kd n.A7 p=true) (hn:∀p,pw m.C3 p=true->pw n.C3 p=true) (hb:n.A2.C2=m.A2.C2) (h:nc m=true):nc n=true:=by
 have dev:sK m=true->sK n=true:=λh=>by
  rw[yg]at h⊢
  simp only[aE]at h⊢
  rw[hp,zaG hb]
  exact⟨hc h.1,ht h.2.1,hd _ h.2.2.1,hn _ h.2.2.2.1,h.2.2.2.2⟩
 rw[vX]at h⊢
 rw[hp,Xd,Oe,hw,hh]
 exact vg dev h
section
variable {P:Nat} {m:List Int} (h:ep P m)
include h
theorem Of{f:Int}(hf:U f){b:Bool}(hx:b=IV m f)(hb:b=true):0<=f/\f<P:=by
 have hp:=rT h
 rw[hb]at hx
 simp only[IV,Oa,Tree.m,dd,hp]at hx
 exact Tk hf h.p2 hx.symm
theorem GI{f:Int}(hf:U f){b:Bool}(hx:b=GG m f)(hb:b=true):0<=f/\f<P:=by
 have hp:=rT h
 rw[hb]at hx
 simp only[GG,Ob,Tree.m,dd,hp]at hx
 exact Tk hf h.p2 hx.symm
def sL(P:Nat)(d d':fp):Prop:=ox d'/\(kd d P=true->kd d' P=true)
theorem qh{d:fp}(hd:ox d){cmd:Int}(hc:cmd=1\/cmd=2)(dh:Int):(Lf d m cmd dh).w (λr=>sL P d r.1/\r.2.length<=1):=by
 have h2:=h.p2
 have st3:(d.B7 !=0)=false->sL P d {ae:=d.ae,C1:=d.C1,Frame:=d.Frame,B7:=3,D6:=d.D6,B6:=d.B6,B2:=d.B2,B8:=d.B8}:=λhs=>by
  have hs:d.B7=0:=by simpa using hs
  refine⟨⟨hd.block,hd.frame,hd.kh,hd.ib⟩,λhm=>?_⟩
  simp only[kd,wG,Tree.m,hs]at hm⊢
  exact hm
 have GF:kd d P=true->decide (d.ae>64)=false:=λhm=>by
  cases hb:decide (d.ae>64)
  ·rfl
  ·have:kd d P=false:=by simp only[kd,wG,Tree.m];rw[hb];rfl
   rw[this]at hm;cases hm
 unfold Lf
 refine aa (λ_=>⟨⟨hd,λh=>h⟩,aT _⟩) λhs=>aa (λ_=>⟨st3 hs,aT _⟩) λhb=>ar λx0 hx=>aa (λ_=>⟨st3 hs,aT _⟩) λhp=>?_
 have hb:=oN hb
 obtain⟨f0,f1⟩:=Of h hd.frame hx (by simpa using hp)
 have ef:i64.wrap d.Frame=d.Frame:=by rw[wrap_i64];omega
 have e1:decide (d.C1<d.ae)=true:=dY (by omega)
 have e2:decide (i64.wrap d.Frame<(P:Int))=true:=by rw[ef];exact dY f1
 refine aa (λAD=>bm (Xb h _) λx1 h1=>?_) (λAD=>?_)
 ·rw[ef]at h1
  have h1:=h1 f0 f1
  have AD:=eq_of_beq AD
  subst AD
  refine ar λx2 _=>⟨⟨⟨hd.block,hd.frame,hd.block,hd.frame⟩,λhm=>?_⟩,aO _⟩
  simp only[kd,wG,Og,IX,Tree.m,dd,GF hm,e1,e2,h1]
  rfl
 ·have hc:cmd=1:=by
   rcases hc with h|h
   ·exact h
   ·rw[h]at AD;exact absurd AD (by decide)
  subst hc
  refine ar λx2 _=>⟨⟨⟨hd.block,hd.frame,hd.block,hd.frame⟩,λhm=>?_⟩,aO _⟩
  simp only[kd,wG,Og,IX,Tree.m,dd,GF hm,e1,e2]
  rfl
theorem zal{d:fp}(hd:ox d)(port:Int){v:Int}(hv:U v)(dh:Int):(Lg d m port v dh).w (λr=>sL P d r.1/\r.2.length<=1):=by
 have cu:sL P d d:=⟨hd,λh=>h⟩
 have e1:∀{k:Int},(v==k)=true->i64.wrap v=k:=λhk=>by
  have:=eq_of_beq hk
  obtain⟨a,b⟩:=hv
  rw[wrap_i64];omega
 unfold Lg
 refine aa (λ_=>⟨⟨⟨hv,hd.frame,hd.kh,hd.ib⟩,λh=>h⟩,aT _⟩) λ_=>aa (λ_=>⟨⟨⟨hd.block,hv,hd.kh,hd.ib⟩,λh=>h⟩,aT _⟩) λ_=>aa (λ_=>aa (λhk=>bm (qh h hd (.inl (e1 hk)) _) λx hx=>hx) λ_=>aa (λhk=>bm (qh h hd (.inr (e1 hk)) _) λx hx=>hx) λ_=>aa (λ_=>ar λx hx=>aa (λhb=>?_) (λ_=>⟨cu,aT _⟩)) (λ_=>⟨cu,aT _⟩)) (λ_=>⟨cu,aT _⟩)
 refine⟨⟨⟨hd.block,hd.frame,hd.kh,hd.ib⟩,λhm=>?_⟩,aT _⟩
 rw[hb]at hx
 simp only[Lh,Xe,Tree.m]at hx
 cases h2:d.B7==2
 ·rw[h2]at hx
  have h3:d.B7=3:=eq_of_beq hx.symm
  simp only[kd,wG,Tree.m,h3]at hm⊢
  exact hm
 ·have h3:d.B7=2:=eq_of_beq h2
  simp only[kd,wG,Tree.m,h3]at hm⊢
  exact hm
def Cl(P:Nat)(n n':ia):Prop:=pr n'/\(pw n P=true->pw n' P=true)
theorem xaG{n:ia}(hn:pr n)(dh:Int):(Li n m dh).w (λr=>r.length<=1):=by
 have h2:=h.p2
 unfold Li
 refine aa (λ_=>aT _) λl1=>aa (λ_=>aT _) λl2=>ar λx0 hx=>aa (λ_=>aT _) λhp=>bm (Xb h _) λx1 h1=>?_
 have l1:=oN l1
 have l2:=oN l2
 obtain⟨f0,f1⟩:=GI h hn.frame hx (by simpa using hp)
 have ef:i64.wrap n.Frame=n.Frame:=by rw[wrap_i64];omega
 rw[ef]at h1
 have h1:=h1 f0 f1
 exact ba (dY (by omega)) (aO _)
theorem qaH{n:ia}(hn:pr n)(port:Int){v:Int}(hv:U v)(dh:Int):(Lj n m port v dh).w (λr=>Cl P n r.1/\r.2.length<=1):=by
 have h2:=h.p2
 have cu:Cl P n n:=⟨hn,λh=>h⟩
 unfold Lj
 refine aa (λ_=>⟨⟨⟨hv,hn.len,hn.buffer,hn.GJ⟩,λh=>h⟩,aT _⟩) λ_=>aa (λ_=>⟨⟨⟨hn.frame,hv,hn.buffer,hn.GJ⟩,λh=>h⟩,aT _⟩) λ_=>aa (λ_=>aa (λ_=>bm (xaG h hn _) λx hx=>⟨cu,hx⟩) λ_=>aa (λ_=>ar λx hx=>aa (λhb=>aa (λnp=>aa (λnr=>?_) (λ_=>⟨cu,aT _⟩)) (λ_=>⟨cu,aT _⟩)) (λ_=>⟨cu,aT _⟩)) λ_=>aa (λ_=>?_) (λ_=>⟨cu,aT _⟩)) (λ_=>⟨cu,aT _⟩)
 ·obtain⟨f0,f1⟩:=GI h hn.frame hx hb
  have np:n.C5=false:=by simpa using np
  have nr:n.B5=false:=by simpa using nr
  have e2:decide (i64.wrap n.Frame>=(P:Int))=false:=dN (by rw[wrap_i64];omega)
  refine⟨⟨⟨hn.frame,hn.len,hn.frame,hn.GJ⟩,λhm=>?_⟩,aT _⟩
  simp only[pw,Le,Tree.m,np,nr,e2]at hm⊢
  cases hb:(n.C0 !=0)
  ·rw[hb]at hm;exact hm
  ·rw[hb]at hm;cases hm
 ·refine⟨⟨⟨hn.frame,hn.len,hn.buffer,ek⟩,λhm=>?_⟩,aT _⟩
  simp only[pw,Le,Tree.m]at hm⊢
  revert hm
  cases n.C5<;>cases n.B5<;>cases decide (i64.wrap n.C0>=(P:Int))<;>cases(n.C0 !=0)<;>simp
end
theorem xal(t:iW)(v:Int):tI (Oh t v)=true:=by
 simp only[Oh,Tm,tI,Tn,Tree.m]
 cases h:(v !=0)
 ·have:v=0:=by simpa using h
  subst this;rfl
 ·rfl
theorem DT{a:Int}(k:Nat)(hk:k<=32):bg .u32 a k=a/2^k:=by
 unfold bg
 have e:min (k:Int).toNat u32.bits=k:=by show min (k:Int).toNat 32=k;omega
 have hp:(0:Int)<2^k:=dO (by decide)
 rw[e,dP _ (dQ hp)]
def Lk(x:Int)(n:Nat):Prop:=x<2^n/\(n=0\/(2:Int)^(n-1)<=x)
theorem Xf{x q:Int}{n k:Nat}(hq:q=x/2^k)(h0:0<q)(h:Lk q n):Lk x (n+k):=by
 have hp:(0:Int)<2^k:=dO (by decide)
 obtain⟨h1,h2⟩:=h
 have hn:n≠0:=λe=>by subst e;simp at h1;omega
 refine⟨?_,.inr ?_⟩
 ·rw[dR]
  have:x<(x/2^k+1)*2^k:=Int.lt_ediv_add_one_mul_self x hp
  have h3:(x/2^k+1)*2^k<=2^n*2^k:=dS (by omega) (dQ hp)
  omega
 ·have h2:=h2.resolve_left hn
  have e:n+k-1=(n-1)+k:=by omega
  rw[e,dR]
  have h3:(2:Int)^(n-1)*2^k<=q*2^k:=dS h2 (dQ hp)
  have h4:q*2^k<=x:=by rw[hq];exact Int.ediv_mul_le x (Int.ne_of_gt hp)
  omega
theorem qJ{x:Int}{n p:Nat}(h:Lk x n)(hx:x<2^p):n<=p:=by
 obtain⟨h1,h2⟩:=h
 rcases h2 with h2|h2
 ·omega
 ·rcases Nat.lt_or_ge p n with cg|pK
  ·have:(2:Int)^p<=2^(n-1):=by
    have:=dT (show 0<2 by omega) (show p<=n-1 by omega)
    exact_mod_cast this
   omega
  ·exact pK
theorem Zlc{x:Int}{n p:Nat}(h:Lk x n)(hn:n<=p):x<2^p:=by
 have:(2:Int)^n<=2^p:=by
  have:=dT (show 0<2 by omega) hn
  exact_mod_cast this
 exact Int.lt_of_lt_of_le h.1 this
def Cm(i:Nat):Bool:=match(wH (i:Int))with
 |.ofNat n=>decide ((i:Int)<2^n)&&(Nat.beq n 0||decide ((2:Int)^(n-1)<=i))&&decide (n<=8)
 |_=>false
theorem To{q:Int}(h0:0<=q)(h1:q<256):∃n:Nat,wH q=n/\Lk q n/\n<=8:=by
 have all:List.all (dD 256) Cm=true:=by kernel_rfl
 have:=List.all_eq_true.1 all q.toNat (List.mem_range.2 (by omega))
 have hq:((q.toNat:Nat):Int)=q:=by omega
 unfold Cm at this
 rw[hq]at this
 split at this
 ·rename_i n hn
  simp only[aE,aI,decide_eq_true_eq]at this
  refine⟨n,hn,⟨this.1.1,?_⟩,this.2⟩
  rcases this.1.2 with h|h
  ·exact .inl (bE h)
  ·exact .inr h
 ·cases this
theorem zaH{x:Int}(h:U x)(hx:16777216<=x):wH x=24+wH (x/16777216):=by
 obtain⟨h0,h1⟩:=h
 have Bp:bg .u32 x 16=x/65536:=DT 16 (by omega)
 have uv:bg .u32 (x/65536) 8=x/16777216:=by rw[show((8:Int))=((8:Nat):Int) from rfl,DT 8 (by omega)];omega
 have d1:decide (x>=65536)=true:=dY (by omega)
 have d2:decide (x/65536>=256)=true:=dY (by omega)
 have d3:decide (x/16777216>=65536)=false:=dN (by omega)
 have d4:decide (x/16777216>=256)=false:=dN (by omega)
 have u:u8.wrap (x/16777216)=x/16777216:=by rw[wrap_u8];omega
 simp only[wH,DU,Tree.m,Bp,uv,d1,d2,d3,d4,u,cond_true,cond_false]
 generalize(aK _ (dF (x/16777216)) (0:UInt8))=b
 have hb:=dU b
 rw[wrap_i64,wrap_i64,wrap_i64,wrap_i64]
 omega
theorem xaH{x:Int}(h0:65536<=x)(h1:x<16777216):wH x=16+wH (x/65536):=by
 have Bp:bg .u32 x 16=x/65536:=DT 16 (by omega)
 have d1:decide (x>=65536)=true:=dY (by omega)
 have d2:decide (x/65536>=256)=false:=dN (by omega)
 have d3:decide (x/65536>=65536)=false:=dN (by omega)
 have u:u8.wrap (x/65536)=x/65536:=by rw[wrap_u8];omega
 simp only[wH,DU,Tree.m,Bp,d1,d2,d3,u,cond_true,cond_false]
 generalize(aK _ (dF (x/65536)) (0:UInt8))=b
 have hb:=dU b
 rw[wrap_i64,wrap_i64,wrap_i64]
 omega
theorem Oi{x:Int}(h0:256<=x)(h1:x<65536):wH x=8+wH (x/256):=by
 have s8:bg .u32 x 8=x/256:=DT 8 (by omega)
 have d1:decide (x>=65536)=false:=dN (by omega)
 have d2:decide (x>=256)=true:=dY (by omega)
 have d3:decide (x/256>=65536)=false:=dN (by omega)
 have d4:decide (x/256>=256)=false:=dN (by omega)
 have u:u8.wrap (x/256)=x/256:=by rw[wrap_u8];omega
 simp only[wH,DU,Tree.m,s8,d1,d2,d3,d4,u,cond_true,cond_false]
 generalize(aK _ (dF (x/256)) (0:UInt8))=b
 have hb:=dU b
 rw[wrap_i64,wrap_i64,wrap_i64,wrap_i64]
 omega
theorem Zq7{x:Int}(h:U x):∃n:Nat,wH x=n/\Lk x n:=by
 obtain⟨h0,h1⟩:=h
 rcases dV x 256 with a|a
 ·obtain⟨n,e,l,_⟩:=To h0 a
  exact⟨n,e,l⟩
 ·rcases dV x 65536 with b|b
  ·obtain⟨n,e,l,_⟩:=To (q:=x/256) (by omega) (by omega)
   exact⟨n+8,by rw[Oi a b,e];omega,Xf (k:=8) rfl (by omega) l⟩
  ·rcases dV x 16777216 with c|c
   ·obtain⟨n,e,l,_⟩:=To (q:=x/65536) (by omega) (by omega)
    exact⟨n+16,by rw[xaH b c,e];omega,Xf (k:=16) rfl (by omega) l⟩
   ·obtain⟨n,e,l,_⟩:=To (q:=x/16777216) (by omega) (by omega)
    exact⟨n+24,by rw[zaH ⟨h0,h1⟩ c,e];omega,Xf (k:=24) rfl (by omega) l⟩
theorem Oj{b:gv}(h:U b.C2){P:Nat}:uu b P=true↔b.C2<2^P:=by
 obtain⟨n,e,l⟩:=Zq7 h
 have hp:(if(0:Int)>(P:Int)then(0:Int)else P)=P:=by rw[if_neg (by omega)]
 simp only[uu,GH,Tree.m,dd,e,hp,decide_eq_true_eq]
 constructor
 ·intro h;exact Zlc l (by omega)
 ·intro h;have:=qJ l h;omega
theorem Xg{a:Int}(h:U a){P:Nat}(h1:a<2^P):(dW 32 a).toNat<2^P:=by
 obtain⟨a0,a1⟩:=h
 rw[dX,dM a0 (by omega)]
 have:((2^P:Nat):Int)=(2:Int)^P:=by exact_mod_cast rfl
 omega
theorem Ok{a b:Int}(ha:U a)(hb:U b){P:Nat}(hP:P<=32)(h1:a<2^P)(h2:b<2^P):ir .u32 a b<2^P:=by
 have e:(dW 32 a|||dW 32 b).toNat<2^P:=by
  rw[dZ]
  exact Nat.or_lt_two_pow (Xg ha h1) (Xg hb h2)
 have hc:((2^P:Nat):Int)=(2:Int)^P:=by exact_mod_cast rfl
 have l:=(dW 32 a|||dW 32 b).isLt
 show wrap .u32 ((dW 32 a|||dW 32 b).toNat:Int)<2^P
 rw[wrap_u32]
 omega
theorem qam{a b:Int}(ha:U a){P:Nat}(h1:a<2^P):nS .u32 a b<2^P:=by
 have e:(dW 32 a&&&~~~dW 32 b).toNat<2^P:=by
  rw[eA]
  exact Nat.lt_of_le_of_lt eB (Xg ha h1)
 have hc:((2^P:Nat):Int)=(2:Int)^P:=by exact_mod_cast rfl
 have l:=(dW 32 a&&&~~~dW 32 b).isLt
 show wrap .u32 ((dW 32 a&&&~~~dW 32 b).toNat:Int)<2^P
 rw[wrap_u32]
 omega
theorem xh{v:Int}(h0:0<=v)(h1:v<32):eg .u32 1 v=2^v.toNat:=by
 have e:min v.toNat u32.bits=v.toNat:=by show min v.toNat 32=v.toNat;omega
 obtain⟨n,rfl⟩:∃n:Nat,v=n:=⟨v.toNat,by omega⟩
 have hn:n<32:=by omega
 have cg:(2:Nat)^n<4294967296:=by
  have:=eC (show 1<2 by omega) hn
  simpa using this
 have hc:((2^n:Nat):Int)=(2:Int)^n:=by exact_mod_cast rfl
 unfold eg
 rw[e,wrap_u32,Int.one_mul,eD,<-hc]
 clear hc e
 generalize(2:Nat)^n=z at*
 omega
def Cn(P:Nat)(b b':gv):Prop:=okB b'/\(uu b P=true->uu b' P=true)
theorem Zqm{P:Nat}{m:List Int}(h:ep P m){b:gv}(hb:okB b)(port:Int){v:Int}(hv:U v):(DV b m port v).w (λr=>Cn P b r.1/\ep P r.2):=by
 have gn:jD m=m:=rfl
 have h2:=h.p2
 have hp:=rT h
 have cu:(Tree.an (mL m) (.lv (jD m) λx=>.lf (b,x))).w (λr=>Cn P b r.1/\ep P r.2):=cz (rU h) (ar λx hx=>by rw[gn]at hx;subst hx;exact⟨⟨hb,λh=>h⟩,h⟩)
 unfold DV
 refine aa (λ_=>cu) λcg=>ba (dY hv.1) (aa (λ_=>ar λx1 hx=>aa (λIY=>aa (λ_=>cz ⟨by decide,by decide,by decide⟩ (ar λx2 _=>bm (W9 h _ _) λx3 ⟨h3,_⟩=>?_)) (λ_=>cu)) (λ_=>cu)) (λ_=>aa (λ_=>cz (rU h) (ar λx hx=>?_)) (λ_=>cu)))
 ·have cg:=oN cg
  have IY:=oY IY
  rw[hx,hp]at IY
  obtain⟨v0,v1⟩:=hv
  have ev:i64.wrap v=v:=by rw[wrap_i64];omega
  rw[ev]at IY
  refine⟨⟨⟨hb.1,fg _⟩,λhm=>?_⟩,h3⟩
  rw[Oj hb.2]at hm
  rw[Oj (fg _)]
  have hs:eg .u32 1 v<2^P:=by
   rw[xh v0 (by omega)]
   have:=eC (show 1<2 by omega) (show v.toNat<P by omega)
   exact_mod_cast this
  exact Ok hb.2 (fg _) h2 hm hs
 ·rw[gn]at hx;subst hx
  refine⟨⟨⟨hb.1,fg _⟩,λhm=>?_⟩,h⟩
  rw[Oj hb.2]at hm
  rw[Oj (fg _)]
  exact qam hb.2 hm
structure kept(P:Nat)(m n:au):Prop where
 ok:rj P n
 dev:sK m=true->sK n=true
 me:n.B1=m.B1
 lU:n.A1=m.A1
 wait:n.A4=m.A4
 halt:n.A6=m.A6
theorem Zee{P:Nat}{m:au}(h:rj P m):kept P m m:=⟨h,λh=>h,rfl,rfl,rfl,rfl⟩
theorem Ll{P:Nat}{m n:au}(hm:ep P m.Mem)(hn:ep P n.Mem)(hc:tH m.A3=true->tH n.A3=true)(ht:tI m.A9=true->tI n.A9=true)
 (hd:kd m.A7 P=true->kd n.A7 P=true) (hk:pw m.C3 P=true->pw n.C3 P=true) (hb:uu m.A2 P=true->uu n.A2 P=true) (h:sK m=true):sK n=true:=by
 rw[yg]at h⊢
 rw[rT hm]at h
 rw[rT hn]
 simp only[aE]at h⊢
 exact⟨hc h.1,ht h.2.1,hd h.2.2.1,hk h.2.2.2.1,hb h.2.2.2.2⟩
theorem Zkq{P:Nat}{m:au}(h:rj P m)(port:Int){v:Int}(hv:U v)(dh:Int):(Lm m port v dh).w (λr=>kept P m r.1/\r.2.length<=1):=by
 have k:=Zee h
 obtain⟨h1,h2,h3,h4,h5,h6⟩:=h
 have id:∀{p:Prop},p->p:=λh=>h
 have D:∀(x:fp×List dx),(sL P m.A7 x.1/\x.2.length<=1)->kept P m {B1:=m.B1,Mem:=m.Mem,A3:=m.A3,A9:=m.A9,A7:=x.1,C3:=m.C3,A2:=m.A2,A1:=m.A1,A4:=m.A4,A6:=m.A6}/\x.2.length<=1:=λx hx=>
  ⟨⟨⟨h1,h2,hx.1.1,h4,h5,h6⟩,Ll h2 h2 id id hx.1.2 id id,rfl,rfl,rfl,rfl⟩,hx.2⟩
 have N:∀(x:ia×List dx),(Cl P m.C3 x.1/\x.2.length<=1)->kept P m {B1:=m.B1,Mem:=m.Mem,A3:=m.A3,A9:=m.A9,A7:=m.A7,C3:=x.1,A2:=m.A2,A1:=m.A1,A4:=m.A4,A6:=m.A6}/\x.2.length<=1:=λx hx=>
  ⟨⟨⟨h1,h2,h3,hx.1.1,h5,h6⟩,Ll h2 h2 id id id hx.1.2 id,rfl,rfl,rfl,rfl⟩,hx.2⟩
 have B:∀(x:gv×List Int),(Cn P m.A2 x.1/\ep P x.2)->kept P m {B1:=m.B1,Mem:=x.2,A3:=m.A3,A9:=m.A9,A7:=m.A7,C3:=m.C3,A2:=x.1,A1:=m.A1,A4:=m.A4,A6:=m.A6}/\([]:List dx).length<=1:=λx hx=>
  ⟨⟨⟨h1,hx.2,h3,h4,hx.1.1.1,hx.1.1.2⟩,Ll h2 hx.2 id id id id hx.1.2,rfl,rfl,rfl,rfl⟩,aT _⟩
 unfold Lm
 repeat'(first
  |exact⟨k,aO _⟩
  |exact⟨k,aT _⟩
  |exact ar λx hx=>⟨⟨⟨h1,h2,h3,h4,h5,h6⟩,Ll h2 h2 id (λ_=>by rw[hx];exact xal _ _) id id id,rfl,rfl,rfl,rfl⟩,aT _⟩
  |exact bm (zal h2 h3 _ hv _) λx hx=>D x hx
  |exact bm (qaH h2 h4 _ hv _) λx hx=>N x hx
  |exact bm (Zqm h2 ⟨h5,h6⟩ _ hv) λx hx=>B x hx
  |refine aa (λ_=>?_) (λ_=>?_))
theorem Z8s(c:iV)(port:Int):(IZ c port).w (λr=>U r.2/\(tH c=true->tH r.1=true)):=by
 have u1:U 4294967295:=⟨by omega,by omega⟩
 unfold IZ
 refine aa (λ_=>aa (λ_=>⟨u1,λh=>h⟩) (λhb=>ba ?_ (ba ?_ ⟨fg _,λhm=>?_⟩))) (λ_=>aa (λ_=>⟨fg _,λh=>h⟩) (λ_=>⟨ek,λh=>h⟩))
 ·have hb:=oN hb
  have:0<c.D1.length:=List.length_pos_iff.2 hb
  simp[bJ];omega
 ·have hb:=oN hb
  have:0<c.D1.length:=List.length_pos_iff.2 hb
  exact dY (by omega)
 ·have hm:decide ((c.D1.length:Int)<=16)=true:=hm
  have hm:=oY hm
  show decide (((dB _ (dC _ c.D1)).length:Int)<=16)=true
  refine dY ?_
  rw[bD,bF];omega
theorem Zqg{P:Nat}{m:au}(h:rj P m)(port:Int){clock:Int}(hc:U clock):(Ln m port clock).w (λr=>kept P m r.1/\U r.2):=by
 have k:=Zee h
 obtain⟨h1,h2,h3,h4,h5,h6⟩:=h
 have id:∀{p:Prop},p->p:=λh=>h
 have ti:∀t,U (Xh t):=λt=>by
  refine Tree.post (Qq t) (W:=U) ?_
  unfold Qq
  exact aa (λ_=>⟨by omega,by omega⟩) (λ_=>ek)
 have di:∀p,U (Ol m.A7 p):=λp=>by
  refine Tree.post (Tp m.A7 p) (W:=U) ?_
  unfold Tp
  exact aa (λ_=>h3.block) (λ_=>aa (λ_=>h3.frame) (λ_=>aa (λ_=>fg _) (λ_=>ek)))
 have ni:∀p,U (Lo m.C3 p):=λp=>by
  refine Tree.post (Om m.C3 p) (W:=U) ?_
  unfold Om
  exact aa (λ_=>h4.frame) (λ_=>aa (λ_=>h4.GJ) (λ_=>aa (λ_=>aa (λ_=>aa (λ_=>fg _) (λ_=>fg _)) (λ_=>aa (λ_=>fg _) (λ_=>ek))) (λ_=>ek)))
 have bi:∀p,(Lp m.A2 p).w U:=λp=>by
  unfold Lp
  exact aa (λ_=>h5) (λ_=>aa (λ_=>bm (Zlx h6) λ_ _=>fg _) (λ_=>ek))
 have C:∀(x:iV×Int),(U x.2/\(tH m.A3=true->tH x.1=true))->kept P m {B1:=m.B1,Mem:=m.Mem,A3:=x.1,A9:=m.A9,A7:=m.A7,C3:=m.C3,A2:=m.A2,A1:=m.A1,A4:=m.A4,A6:=m.A6}/\U x.2:=λx hx=>
  ⟨⟨⟨h1,h2,h3,h4,h5,h6⟩,Ll h2 h2 hx.2 id id id id,rfl,rfl,rfl,rfl⟩,hx.1⟩
 unfold Ln
 repeat'(first
  |exact⟨k,hc⟩
  |exact⟨k,ek⟩
  |exact bm (Z8s _ _) λx hx=>C x hx
  |exact NO (Z8s _ _) λx hx=>C x hx
  |exact ar λx hx=>⟨k,by rw[hx];exact ti _⟩
  |exact ar λx hx=>⟨k,by rw[hx];exact di _⟩
  |exact ar λx hx=>⟨k,by rw[hx];exact ni _⟩
  |exact bm (bi _) λx hx=>⟨k,hx⟩
  |refine aa (λ_=>?_) (λ_=>?_))
structure mM(c:bh):Prop where
 x0:c.X.a0=0
 st:c.B4.a0<=31
 en:c.B4.a7<=31
 rt:c.B4.a6<=255
 ve:dE c.B4.a1 4=0
theorem mM.pc{c:bh}(h:mM c)(p:Int):mM {X:=c.X,Pc:=p,B4:=c.B4}:=⟨h.x0,h.st,h.en,h.rt,h.ve⟩
theorem GK(a:Int):bf .u32 a 31<=31:=by
 have e:(dW 32 a&&&dW 32 31).toNat<=31:=by
  rw[eA]
  exact bH Nat.and_le_right (by decide)
 show wrap .u32 ((dW 32 a&&&dW 32 31).toNat:Int)<=31
 rw[wrap_u32];omega
theorem Fj(a:Int):bf .u32 a 255<=255:=by have:=Co a;omega
theorem On(a:Int):dE (nS .u32 a 3) 4=0:=by
 have e:(dW 32 a&&&~~~dW 32 3).toNat%4=0:=by
  rw[eA,show(~~~dW 32 3).toNat=4294967292 by decide]
  have:=Nat.and_mod_two_pow (a:=(dW 32 a).toNat) (b:=4294967292) (n:=2)
  simpa using this
 have l:=(dW 32 a&&&~~~dW 32 3).isLt
 show dE (wrap .u32 ((dW 32 a&&&~~~dW 32 3).toNat:Int)) 4=0
 rw[wrap_u32,eF (by omega)]
 omega
theorem GL{f:Int->Int}(h:(dD 32).all (λn=>decide (f n<=31))=true){s:Int}(h0:0<=s)(h1:s<=31):f s<=31:=by
 have:=List.all_eq_true.1 h s.toNat (List.mem_range.2 (by omega))
 have e:((s.toNat:Nat):Int)=s:=by omega
 rw[e]at this
 exact oY this
theorem I0{c:bh}(h:iy c)(m:mM c)(k b:Int):mM (rl c k b):=
 ⟨m.x0,GL (f:=λs=>nS .u32 (ir .u32 (AH (AH s 1 8) 2 16) 1) 2) (by kernel_rfl) h.a0.1 m.st,m.en,m.rt,m.ve⟩
theorem Zp1{c:bh}(h:iy c)(m:mM c):mM (Lq c):=
 ⟨m.x0,GL (f:=λs=>AH (AH s 8 1) 16 2) (by kernel_rfl) h.a0.1 m.st,m.en,m.rt,m.ve⟩
theorem Qy{c:bh}(m:mM c){r:Int}(hr:0<=r/\r<16)(v:Int):(Fl c r v).w mM:=by
 unfold Fl
 refine aa (λhn=>ba (rc hr) ?_) (λ_=>m)
 have hn:r≠0:=by simpa using hn
 obtain⟨n,e⟩:∃n:Nat,r.toNat=n+1:=⟨r.toNat-1,by omega⟩
 refine⟨?_,m.st,m.en,m.rt,m.ve⟩
 show(iU.of 0 (dG (iU.l c.X) r.toNat v)).a0=0
 rw[e]
 exact m.x0
theorem zh{c:bh}(m:mM c)(k v:Int):(I1 c k v).w mM:=by
 unfold I1
 refine aa (λhk=>ba (by rw[eq_of_beq hk];decide) ?_) λ_=>aa (λhk=>ba (by rw[eq_of_beq hk];decide) ?_) λ_=>aa (λhk=>ba (by rw[eq_of_beq hk];decide) ?_) λ_=>aa (λhk=>ba (by rw[eq_of_beq hk];decide) ?_) λ_=>aa (λhk=>ba (by rw[eq_of_beq hk];decide) ?_) λ_=>aa (λhk=>ba (by rw[eq_of_beq hk];decide) ?_) λ_=>aa (λhk=>ba (by rw[eq_of_beq hk];decide) ?_) λ_=>aa (λhk=>ba (by rw[eq_of_beq hk];decide) ?_) (λ_=>m)
 all_goals(have hk:=eq_of_beq hk;subst hk)
 ·exact⟨m.x0,GK _,m.en,m.rt,m.ve⟩
 ·exact⟨m.x0,m.st,GK _,m.rt,m.ve⟩
 ·exact⟨m.x0,m.st,m.en,Fj _,m.ve⟩
 ·exact⟨m.x0,m.st,m.en,m.rt,On _⟩
 ·exact⟨m.x0,m.st,m.en,m.rt,m.ve⟩
 ·exact⟨m.x0,m.st,m.en,m.rt,m.ve⟩
 ·exact⟨m.x0,m.st,m.en,m.rt,m.ve⟩
 ·exact⟨m.x0,m.st,m.en,m.rt,m.ve⟩
section
variable {c:bh} (h:iy c) (m:mM c) {i:gu} (hi:sM i)
include h m hi
theorem Zje:(Fm c i).w (λr=>mM r.1):=by
 unfold Fm
 refine ba (rc hi.a) (ba (rc hi.b) ?_)
 repeat'(first
  |refine aa (λ_=>?_) (λ_=>?_)
  |exact bm (Qy m hi.a _) λx hx=>hx.pc _
  |exact ar λx _=>aa (λ_=>m.pc _) (λ_=>m.pc _)
  |exact ar λx hx=>by rw[hx];exact I0 h m _ _
  |exact ar λx hx=>by rw[hx];exact Zp1 h m
  |exact ba (by have:=hi.jo (by simp_all);simp[bJ];omega) (bm (Qy m hi.a _) λx hx=>hx.pc _)
  |exact bm (zh m _ _) λx hx=>hx.pc _
  |refine ba (rc hi.c) ?_
  |exact bm (Lr _ (h.r _) (fg _)) λy hy=>bm (Qy m hi.a _) λx hx=>hx.pc _
  |exact bm (Lr _ (h.r _) (h.r _)) λy hy=>bm (Qy m hi.a _) λx hx=>hx.pc _
  |refine ez ?_)
 all_goals exact m.pc _
theorem xJ{P:Nat}{mem:List Int}(hm:ep P mem):(I2 c mem i).w (λr=>mM r.1):=by
 have w:=Tq i.Op
 unfold I2
 refine ba (rc hi.b) (ar λx0 h0=>?_)
 rw[<-h0]at w
 refine bm (Oo hm (fg _) w 2) λx1 h1=>aa (λ_=>ar λy hy=>by rw[hy];exact I0 h m _ _) (λ_=>ar λx3 h3=>?_)
 rw[h0,<-h3]at w
 exact bm (I3 h1.2 h1.1 w) λx4 h4=>aa (λ_=>bm (Xi h4.1 8) λy hy=>bm (Qy m hi.a _) λx hx=>hx.pc _) (λ_=>bm (Qy m hi.a _) λx hx=>hx.pc _)
theorem yh{P:Nat}{mem:List Int}(hm:ep P mem):(I4 c mem i).w (λr=>mM r.1):=by
 have w:=Tq i.Op
 unfold I4
 refine ba (rc hi.b) (ar λx0 h0=>?_)
 rw[<-h0]at w
 refine bm (Oo hm (fg _) w 3) λx1 h1=>aa (λ_=>ar λy hy=>by rw[hy];exact I0 h m _ _) (λ_=>ar λx3 h3=>ba (rc hi.a) ?_)
 rw[h0,<-h3]at w
 exact bm (Ts h1.2 h1.1 w (h.r _)) λx hx=>m.pc _
end
theorem zJ{c:bh}(h:iy c)(m:mM c){P:Nat}{mem:List Int}(hm:ep P mem):(Fo c mem).w (λr=>mM r.1):=by
 unfold Fo
 refine bm (Zc hm h) λx0 h0=>aa (λ_=>ar λy hy=>by rw[hy];exact I0 h m _ _) (λ_=>bm (Xj _) λx2 h2=>aa (λ_=>ar λy hy=>by rw[hy];exact I0 h m _ _) (λhb=>?_))
 have hi:=h2 (by simpa using hb)
 refine ar λx4 _=>?_
 repeat'(first
  |refine aa (λ_=>?_) (λ_=>?_)
  |exact bm (xJ h m hi h0.2) λx hx=>hx
  |exact bm (yh h m hi h0.2) λx hx=>hx
  |exact bm (Zje h m hi) λx hx=>hx
  |exact ar λy hy=>by rw[hy];exact I0 h m _ _
  |refine ar λ_ _=>?_)
theorem Zki{c:bh}(h:iy c){i:gu}(hi:sM i):(Fm c i).w (λr=>0<=r.2.D9/\r.2.D9<16):=by
 have z:(0:Int)<=0/\(0:Int)<16:=⟨by decide,by decide⟩
 unfold Fm
 refine ba (rc hi.a) (ba (rc hi.b) ?_)
 repeat'(first
  |refine aa (λ_=>?_) (λ_=>?_)
  |exact bm (DW h hi.a (fg _)) λx hx=>z
  |exact ar λx _=>aa (λ_=>z) (λ_=>z)
  |exact ar λx hx=>z
  |exact ba (by have:=hi.jo (by simp_all);simp[bJ];omega) (bm (DW h hi.a (h.a _)) λx hx=>z)
  |exact bm (Znf h _ (h.r _)) λx hx=>z
  |refine ba (rc hi.c) ?_
  |exact bm (Lr _ (h.r _) (fg _)) λy hy=>bm (DW h hi.a hy) λx hx=>z
  |exact bm (Lr _ (h.r _) (h.r _)) λy hy=>bm (DW h hi.a hy) λx hx=>z
  |refine ez ?_)
 all_goals first|exact z|exact hi.a
theorem Zmm{c:bh}(h:iy c){P:Nat}{mem:List Int}(hm:ep P mem):(Fo c mem).w (λr=>0<=r.2.2.D9/\r.2.2.D9<16):=by
 have z:(0:Int)<=0/\(0:Int)<16:=⟨by decide,by decide⟩
 unfold Fo
 refine bm (Zc hm h) λx0 h0=>aa (λ_=>ar λy hy=>z) (λ_=>bm (Xj _) λx2 h2=>aa (λ_=>ar λy hy=>z) (λhb=>?_))
 have hi:=h2 (by simpa using hb)
 refine ar λx4 _=>?_
 repeat'(first
  |refine aa (λ_=>?_) (λ_=>?_)
  |exact bm (Z3k h hi h0.2) λx hx=>z
  |exact bm (Qz9 h hi h0.2) λx hx=>z
  |exact bm (Zki h hi) λx hx=>hx
  |exact ar λy hy=>z
  |refine ar λ_ _=>?_)
theorem nd{a x:Bool}:(bif a then false else x)=true↔a=false/\x=true:=by cases a<;>simp
theorem GM(m:au):nc m=true↔lT m.Mem≠0/\mM m.B1/\m.A1<=1152921504606846976/\¬(m.A4=true/\m.A6=true)/\sK m=true:=by
 rw[vX]
 unfold Fi chain
 rw[nd,nd,nd,nd,nd,nd,nd]
 simp only[decide_eq_false_iff_not,Int.not_lt,beq_eq_false_iff_ne,bne_eq_false_iff_eq,gt_iff_lt]
 constructor
 ·rintro⟨a1,a2,a3,a4,a5,a6,a7,a8⟩
  refine⟨a1,⟨a2,a3,a4,a5,a6⟩,a7,?_,?_⟩
  ·rintro⟨w,h⟩;rw[w,h]at a8;cases a8
  ·revert a8;cases m.A4
   ·exactλh=>h
   ·cases m.A6
    ·exactλh=>h
    ·intro h;cases h
 ·rintro⟨a1,⟨a2,a3,a4,a5,a6⟩,a7,a8,a9⟩
  refine⟨a1,a2,a3,a4,a5,a6,a7,?_⟩
  rw[a9]
  cases hw:m.A4
  ·rfl
  ·cases hh:m.A6
   ·rfl
   ·exact absurd ⟨hw,hh⟩ a8
theorem Tt{m:au}(h:AI m=true):nc m=true/\m.A6=false/\m.A1<1152921504606846976:=by
 simp only[AI,I5,Tree.m,dd]at h
 cases h1:nc m
 ·rw[h1]at h;cases h
 ·cases h2:m.A6
  ·rw[h1,h2]at h
   cases h3:Ls m
   ·rw[h3]at h
    have h:decide (m.A1<1152921504606846976)=true:=h
    exact⟨rfl,rfl,oY h⟩
   ·rw[h3]at h;cases h
  ·rw[h1,h2]at h;cases h
theorem Xk{P:Nat}{m:au}(h:rj P m)(g:mM m.B1):(GN m).w (λr=>mM r.B1/\rj P r/\r.Mem=m.Mem/\r.A4=false/\r.A6=m.A6/\r.A1=m.A1/\r.A3=m.A3/\r.A9=m.A9/\r.A7=m.A7/\r.C3=m.C3/\r.A2=m.A2):=by
 obtain⟨h1,h2,h3,h4,h5,h6⟩:=h
 unfold GN
 refine aa (λ_=>⟨g,⟨h1,h2,h3,h4,h5,h6⟩,rfl,rfl,rfl,rfl,rfl,rfl,rfl,rfl,rfl⟩) (λ_=>bm (Xl (m:=⟨_,_,_,_,_,_,m.A2,_,_,_⟩) h6) λx0 _=>ga (inv:=λz=>0<=z/\z<=5) (μ:=Xm m) ⟨by omega,by omega⟩ (cO _) (λz hz=>?_))
 obtain⟨z1,z2⟩:=hz
 refine aa (λhb=>ba (dY z1) (aa (λ_=>ar λx1 hx=>⟨by rw[hx];exact I0 h1 g _ _,⟨by rw[hx];exact GO h1 _ ek,h2,h3,h4,h5,h6⟩,rfl,rfl,rfl,rfl,rfl,rfl,rfl,rfl,rfl⟩) (λ_=>fh ?_))) (λ_=>⟨g,⟨h1,h2,h3,h4,h5,h6⟩,rfl,rfl,rfl,rfl,rfl,rfl,rfl,rfl,rfl⟩)
 have hb:=oY hb
 show(0<=i64.wrap (z+1)/\i64.wrap (z+1)<=5)/\(5-i64.wrap (z+1)).toNat<(5-z).toNat
 have ew:i64.wrap (z+1)=z+1:=by rw[wrap_i64];omega
 rw[ew];omega
structure Good(P:Nat)(m r:au):Prop where
 ok:rj P r
 lU:0<=r.A1
 may:nc m=true->nc r=true
 or:r=m\/r.A1=m.A1+1
theorem vh{P:Nat}{m:au}(h:rj P m)(Gt:0<=m.A1){clock:Int}(hk:U clock):(GP m clock).w (λr=>r.2.length<=1/\Good P m r.1):=by
 have gn:jD m.Mem=m.Mem:=rfl
 unfold GP
 refine cz (rU h.mem) (ar λl hl=>?_)
 rw[gn]at hl;subst hl
 refine cz (Tree.pp (Xn (m:=⟨_,_,_,_,_,_,m.A2,_,_,_⟩) h.given)).1 (ar λx1 nK=>aa (λ_=>⟨aT _,h,Gt,λh=>h,.inl rfl⟩) (λhb=>?_))
 have hr:AI m=true:=by rw[<-show x1=AI m from nK];simpa using hb
 obtain⟨hm,hh,Oe⟩:=Tt hr
 obtain⟨g1,g2,g3,g4,g5⟩:=(GM m).1 hm
 have hP:(P:Int)≠0:=by rw[<-rT h.mem];exact g1
 have fin:∀(n:au),rj P n->mM n.B1->sK n=true->n.A1=m.A1->¬(n.A4=true/\n.A6=true)->Good P m {B1:=n.B1,Mem:=n.Mem,A3:=n.A3,A9:=n.A9,A7:=n.A7,C3:=n.C3,A2:=n.A2,A1:=wrap .u64 (n.A1+1),A4:=n.A4,A6:=n.A6}:=λn a b c d e=>by
  have ec:wrap .u64 (n.A1+1)=m.A1+1:=by rw[d,wrap_u64];omega
  refine⟨⟨a.me,a.mem,a.kS,a.sN,a.target,a.given⟩,?_,λ_=>(GM _).2 ⟨?_,b,?_,e,c⟩,.inr ec⟩
  ·show 0<=wrap .u64 (n.A1+1);omega
  ·show lT n.Mem≠0;rw[rT a.mem];exact hP
  ·show wrap .u64 (n.A1+1)<=_;omega
 refine bm (Xk (m:=⟨_,_,m.A3,m.A9,m.A7,m.C3,m.A2,m.A1,m.A4,m.A6⟩) ⟨h.me,h.mem,h.kS,h.sN,h.target,h.given⟩ g2) λx2 I6=>?_
 obtain⟨b1,b2,b3,b4,b5,b6,b7,b8,b9,b10,b11⟩:=I6
 have ex:=Tree.pp (qA b2.me b2.mem)
 have em:=Tree.pp (zJ b2.me b1 b2.mem)
 have er:=Tree.pp (Zmm b2.me b2.mem)
 refine cz ex.1 (ar λx3 h3=>?_)
 obtain⟨e1,e2,e3⟩:iy x3.1/\ep P x3.2.1/\U x3.2.2.Value:=by rw[h3];exact ex.2
 have f1:mM x3.1:=by rw[h3];exact em.2
 have r1:0<=x3.2.2.D9/\x3.2.2.D9<16:=by rw[h3];exact er.2
 have Xo:rj P ⟨x3.1,x3.2.1,x2.A3,x2.A9,x2.A7,x2.C3,x2.A2,x2.A1,x2.A4,x2.A6⟩:=⟨e1,e2,b2.kS,b2.sN,b2.target,b2.given⟩
 have dev:∀(w h:Bool),sK ⟨x3.1,x3.2.1,x2.A3,x2.A9,x2.A7,x2.C3,x2.A2,x2.A1,w,h⟩=true:=λw hh=>by
  have id:∀{p:Prop},p->p:=λh=>h
  refine Ll (m:=m) (P:=P) h.mem e2 ?_ ?_ ?_ ?_ ?_ g5
  ·show _->tH x2.A3=true;rw[b7];exact id
  ·show _->tI x2.A9=true;rw[b8];exact id
  ·show _->kd x2.A7 P=true;rw[b9];exact id
  ·show _->pw x2.C3 P=true;rw[b10];exact id
  ·show _->uu x2.A2 P=true;rw[b11];exact id
 have hw:x2.A4=false:=b4
 have hh2:x2.A6=false:=b5.trans hh
 have Cp:x2.A1=m.A1:=b6
 refine aa (λ_=>?_) λ_=>aa (λ_=>?_) λ_=>aa (λ_=>?_) λ_=>aa (λ_=>?_) λ_=>?_
 ·refine bm (Zqg Xo _ hk) λx4 h4=>?_
  obtain⟨k,u⟩:=h4
  have kc:x4.1.B1=x3.1:=k.me
  have kt:x4.1.A1=m.A1:=k.lU.trans Cp
  have kw:¬(x4.1.A4=true/\x4.1.A6=true):=λe=>by have:x4.1.A4=x2.A4:=k.wait;rw[this,hw]at e;cases e.1
  have km:mM x4.1.B1:=by rw[kc];exact f1
  refine aa (λhn=>ba (rc r1) ⟨aT _,?_⟩) (λ_=>⟨aT _,fin x4.1 k.ok km (k.dev (dev _ _)) kt kw⟩)
  have hn:x3.2.2.D9≠0:=by simpa using hn
  obtain⟨q,e⟩:∃q:Nat,x3.2.2.D9.toNat=q+1:=⟨x3.2.2.D9.toNat-1,by omega⟩
  refine fin ⟨⟨iU.of 0 (dG (iU.l x4.1.B1.X) x3.2.2.D9.toNat x4.2),x4.1.B1.Pc,x4.1.B1.B4⟩,x4.1.Mem,x4.1.A3,x4.1.A9,x4.1.A7,x4.1.C3,x4.1.A2,x4.1.A1,x4.1.A4,x4.1.A6⟩ ⟨⟨Xp k.ok.me.x u _,k.ok.me.pc,k.ok.me.jo⟩,k.ok.mem,k.ok.kS,k.ok.sN,k.ok.target,k.ok.given⟩ ⟨?_,km.st,km.en,km.rt,km.ve⟩ (k.dev (dev _ _)) kt kw
  show(iU.of 0 (dG (iU.l x4.1.B1.X) x3.2.2.D9.toNat x4.2)).a0=0
  rw[e]
  exact km.x0
 ·refine bm (Zkq Xo _ e3 _) λx5 h5=>?_
  obtain⟨k,u⟩:=h5
  have kc:x5.1.B1=x3.1:=k.me
  exact⟨u,fin x5.1 k.ok (by rw[kc];exact f1) (k.dev (dev _ _)) (k.lU.trans Cp) (λe=>by have:x5.1.A4=x2.A4:=k.wait;rw[this,hw]at e;cases e.1)⟩
 ·exact⟨aT _,fin ⟨x3.1,x3.2.1,x2.A3,x2.A9,x2.A7,x2.C3,x2.A2,x2.A1,true,x2.A6⟩ ⟨e1,e2,b2.kS,b2.sN,b2.target,b2.given⟩ f1 (dev _ _) Cp (λe=>by have e2:x2.A6=true:=e.2;rw[hh2]at e2;cases e2)⟩
 ·exact⟨aT _,fin ⟨x3.1,x3.2.1,x2.A3,x2.A9,x2.A7,x2.C3,x2.A2,x2.A1,x2.A4,true⟩ ⟨e1,e2,b2.kS,b2.sN,b2.target,b2.given⟩ f1 (dev _ _) Cp (λe=>by have e2:x2.A4=true:=e.1;rw[hw]at e2;cases e2)⟩
 ·exact⟨aT _,fin ⟨x3.1,x3.2.1,x2.A3,x2.A9,x2.A7,x2.C3,x2.A2,x2.A1,x2.A4,x2.A6⟩ Xo f1 (dev _ _) Cp (λe=>by have e2:x2.A4=true:=e.1;rw[hw]at e2;cases e2)⟩
theorem Zmx{P:Nat}{m:au}(h:nI P m){e:gx}(he:U e.N):(GQ m e).w (λr=>(nc m=true->nc r.1=true)/\r.1.A1=m.A1/\U r.1.A2.C2):=by
 obtain⟨h1,h2,h3,h4,h5,h7⟩:=h
 have gn:jD m.Mem=m.Mem:=rfl
 have pg:∀{m':List Int},ep P m'->lT m'=lT m.Mem:=λh=>by rw[rT h,rT h2]
 have cu:(nc m=true->nc m=true)/\m.A1=m.A1/\U m.A2.C2:=⟨λh=>h,rfl,h5.2⟩
 unfold GQ
 refine cz (rU h2) (ar λl hl=>?_)
 rw[gn]at hl;subst hl
 refine bm (Tu (m:=⟨_,_,_,_,_,_,m.A2,_,_,_⟩) h5.2) λx1 _=>aa (λ_=>cu) λ_=>aa (λ_=>cu) λ_=>?_
 refine aa (λ_=>aa (λ_=>aa (λ_=>ar λx hx=>?_) (λ_=>cu)) (λ_=>cu)) λ_=>aa (λ_=>aa (λ_=>aa (λ_=>bm (qal _ _) λx hx=>?_) (λ_=>cu)) (λ_=>cu)) λ_=>aa (λhk=>bm (Zpt h2 h3 e) λx hx=>?_) λ_=>aa (λhk=>aa (λ_=>bm (zg h2 h4 _) λx hx=>?_) (λ_=>cu)) λ_=>aa (λ_=>aa (λ_=>?_) (λ_=>cu)) (λ_=>cu)
 ·exact⟨Od rfl rfl rfl rfl rfl (λh=>h) (λh=>by rw[hx];exact vI _ h) (λ_ h=>h) (λ_ h=>h) rfl,rfl,h5.2⟩
 ·exact⟨Od rfl rfl rfl rfl rfl hx (λh=>h) (λ_ h=>h) (λ_ h=>h) rfl,rfl,h5.2⟩
 ·obtain⟨a1,a2,a3,a4,a5⟩:=hx
  exact⟨Od (pg a2) rfl rfl rfl rfl (λh=>h) (λh=>h) a5 (λ_ h=>h) rfl,rfl,h5.2⟩
 ·obtain⟨a1,a2,a3,a4,a5⟩:=hx
  exact⟨Od (pg a2) rfl rfl rfl rfl (λh=>h) (λh=>h) (λ_ h=>h) a5 rfl,rfl,h5.2⟩
 ·exact⟨Od rfl rfl rfl rfl rfl (λh=>h) (λh=>h) (λ_ h=>h) (λ_ h=>h) rfl,rfl,h5.2⟩
theorem Lt{a:Int}(h:U a):(dW 32 a).toNat=a.toNat:=by
 obtain⟨h1,h2⟩:=h
 rw[dX];omega
theorem Xq{a b:Int}(ha:U a)(hb:U b):bf .u32 a b=((a.toNat&&&b.toNat:Nat):Int):=by
 have l:=(dW 32 a&&&dW 32 b).isLt
 have e:(dW 32 a&&&dW 32 b).toNat=a.toNat&&&b.toNat:=by rw[eA,Lt ha,Lt hb]
 show wrap .u32 ((dW 32 a&&&dW 32 b).toNat:Int)=_
 rw[wrap_u32,<-e];omega
theorem qaI{a b:Int}(ha:U a)(hb:U b):ir .u32 a b=((a.toNat|||b.toNat:Nat):Int):=by
 have l:=(dW 32 a|||dW 32 b).isLt
 have e:(dW 32 a|||dW 32 b).toNat=a.toNat|||b.toNat:=by rw[dZ,Lt ha,Lt hb]
 show wrap .u32 ((dW 32 a|||dW 32 b).toNat:Int)=_
 rw[wrap_u32,<-e];omega
theorem Xr{a:Int}(ha:U a)(k:Nat)(hk:k<=32){q:Int}(hq:q=((2^k-1:Nat):Int)):bf .u32 a q=a%2^k:=by
 have hp:2^k<=2^32:=dT (by decide) hk
 have h1:(2:Nat)^32=4294967296:=by decide
 have uw:=eG k
 subst hq
 rw[Xq ha ⟨by omega,by omega⟩,eD,Nat.and_two_pow_sub_one_eq_mod]
 have:=ha.1
 rw[Int.natCast_emod,eH this]
 simp
theorem m15{a:Int}(ha:U a):bf .u32 a 15=a%16:=Xr ha 4 (by decide) rfl
theorem Cq{a:Int}(ha:U a):bf .u32 a 255=a%256:=Xr ha 8 (by decide) rfl
theorem I7{a:Int}(ha:U a):bf .u32 a 65535=a%65536:=Xr ha 16 (by decide) rfl
theorem Fp(p:Int->Bool)(N:Nat)(h:(dD N).all (λn=>p n)=true){s:Int}(h0:0<=s)(h1:s<N):p s=true:=by
 have:=List.all_eq_true.1 h s.toNat (List.mem_range.2 (by omega))
 rwa [eH h0]at this
theorem DM{x:Int}(h0: -9223372036854775808<=x)(h1:x<9223372036854775808):wrap .i64 x=x:=by rw[wrap_i64];omega
theorem Oq(a:Int):bg .u32 a 0=a:=by have:=DT (a:=a) 0 (by decide);simpa using this
theorem fld(w:Int):tJ w 24 8=bf .u32 (bg .u32 w 24) 255/\tJ w 20 4=bf .u32 (bg .u32 w 20) 15/\tJ w 16 4=bf .u32 (bg .u32 w 16) 15/\tJ w 0 16=bf .u32 (bg .u32 w 0) 65535/\tJ w 8 8=bf .u32 (bg .u32 w 8) 255:=
 ⟨by kernel_rfl,by kernel_rfl,by kernel_rfl,by kernel_rfl,by kernel_rfl⟩
def Cr(f:Int):Am×Bool:=
 bif f==1 then(⟨false,false,false,0,0⟩,true)else bif f==2 then(⟨true,true,true,0,0⟩,true)else bif f==3 then(⟨true,true,false,-32768,32767⟩,true)
 else bif f==4 then(⟨true,true,false,0,65535⟩,true)else bif f==5 then(⟨true,true,false,0,31⟩,true)else bif f==6 then(⟨true,false,false,0,65535⟩,true)
 else bif f==7 then(⟨true,false,false,-32768,32767⟩,true)else bif f==8 then(⟨true,false,false,0,7⟩,true)else bif f==9 then(⟨true,false,false,0,11⟩,true)else(⟨false,false,false,0,0⟩,false)
def Cs(x y:Am×Bool):Bool:=x.1.a==y.1.a&&x.1.b==y.1.b&&x.1.c==y.1.c&&x.1.low==y.1.low&&x.1.D7==y.1.D7&&x.2==y.2
theorem yJ{x y:Am×Bool}(h:Cs x y=true):x=y:=by
 obtain⟨⟨a,b,c,d,e⟩,f⟩:=x
 obtain⟨⟨a',b',c',d',e'⟩,f'⟩:=y
 simp only[Cs,aE,beq_iff_eq]at h
 obtain⟨⟨⟨⟨⟨rfl,rfl⟩,rfl⟩,rfl⟩,rfl⟩,rfl⟩:=h
 rfl
theorem qY{op:Int}(h0:0<=op)(h1:op<256):Tv op=Cr (oR op):=by
 exact yJ (Fp (λop=>Cs (Tv op) (Cr (oR op))) 256 (by kernel_rfl) h0 h1)
theorem qi{op:Int}(h0:0<=op)(h1:op<256):oR op=0\/oR op=1\/oR op=2\/oR op=3\/oR op=4\/oR op=5\/oR op=6\/oR op=7\/oR op=8\/oR op=9:=by
 have:=oY (Fp (λop=>decide (0<=oR op/\oR op<=9)) 256 (by kernel_rfl) h0 h1)
 omega
theorem zam{op:Int}(h0:0<=op)(h1:op<256):Ot op=GR op:=by
 exact eq_of_beq (Fp (λop=>Ot op==GR op) 256 (by kernel_rfl) h0 h1)
theorem vJ{a x y:Bool}:(cond a x y=true)↔((a=true/\x=true)\/(a=false/\y=true)):=by cases a<;>simp
theorem Xs{i:gu}(h0:0<=i.Op)(h1:i.Op<256)(hi:wrap .i64 i.bn=i.bn):I8 i=DX i:=by
 rw[eI]
 simp only[I8,Ou,Tree.m,dd,DX,Ov,qY h0 h1,hi]
 rcases qi h0 h1 with h|h|h|h|h|h|h|h|h|h<;>rw[h]<;>
 simp[Cr,Lu,Tw,Lv,Tx,Xt,Xu,Tree.m,dd,vJ]<;>omega
theorem Xv{x:Int}(h0:0<=x)(h1:x<65536):wrap .i32 (DY x 16)=wrap .i32 (wrap .i16 x):=by
 have e:DY x 16=wrap .u32 (bg .i32 (wrap .i32 (eg .u32 x 16)) 16):=by kernel_rfl
 have e2:∀y,bg .i32 y 16=y/65536:=λy=>by
  show eJ y 65536=_
  rw[dP _ (by decide)]
 have e3:eg .u32 x 16=wrap .u32 (x*65536):=rfl
 have e4:wrap .i16 x=(x+32768)%65536-32768:=by
  simp[wrap,IntKind.bits,IntKind.signed]
  split<;>omega
 rw[e,e2,e3,e4]
 simp only[wrap_i32,wrap_u32]
 omega
theorem sx8{x:Int}(h0:0<=x)(h1:x<256):DY x 8=GS x 8:=by
 exact eq_of_beq (Fp (λx=>DY x 8==GS x 8) 256 (by kernel_rfl) h0 h1)
theorem xi{w:Int}(hw:U w):Ow w=rm w:=by
 obtain⟨f1,f2,f3,f4,_⟩:=fld w
 obtain⟨w0,w1⟩:=hw
 have uv:bg .u32 w 24=w/16777216:=by have:=DT (a:=w) 24 (by decide);simpa using this
 have s20:U (bg .u32 w 20):=AJ ⟨w0,w1⟩ _
 have Bp:U (bg .u32 w 16):=AJ ⟨w0,w1⟩ _
 rw[Cq (AJ ⟨w0,w1⟩ _),uv]at f1
 rw[m15 s20]at f2
 rw[m15 Bp]at f3
 rw[Oq]at f4
 have g1:w/16777216%256=w/16777216:=by omega
 rw[g1]at f1
 have o0:0<=w/16777216:=by omega
 have o1:w/16777216<256:=by omega
 have eo:wrap .i64 (w/16777216)=w/16777216:=DM (by omega) (by omega)
 have i32:∀x,wrap .i64 (wrap .i32 x)=wrap .i32 x:=λx=>by rw[wrap_i64,wrap_i32];omega
 have l0:=I7 ⟨w0,w1⟩
 have lx:=Xv (x:=bf .u32 w 65535) (by omega) (by omega)
 simp only[Ow,Lw,rm,Q6,Tree.m,dd,f1,f2,f3,f4,uv,eo,qY o0 o1,m15 s20,m15 Bp,lx]
 generalize w/16777216=op at*
 generalize wrap .i64 (bg .u32 w 20%16)=a
 generalize wrap .i64 (bg .u32 w 16%16)=b
 generalize bf .u32 w 65535=l
 rw[Xs (i:=⟨op,a,b,wrap .i64 l,0⟩) o0 o1 rfl,Xs (i:=⟨op,a,b,0,wrap .i32 (wrap .i16 l)⟩) o0 o1 (i32 _),Xs (i:=⟨op,a,b,0,wrap .i32 l⟩) o0 o1 (i32 _)]
 rcases qi o0 o1 with h|h|h|h|h|h|h|h|h|h<;>rw[h]<;>rfl
theorem xam(x v:BitVec 32)(s:Nat)(hs:s<=24):((x&&&~~~(255#32<<<s))|||((v&&&255#32)<<<s)).toNat=2^(s+8)*(x.toNat/2^(s+8))+(2^s*(v.toNat%256)+x.toNat%2^s):=by
 have hx:=x.isLt
 have h1:x.toNat%2^s<2^s:=Nat.mod_lt _ (eG s)
 have h2:2^s*(v.toNat%256)+x.toNat%2^s<2^(s+8):=by
  have:v.toNat%256<256:=Nat.mod_lt _ (by decide)
  have h3:2^s*(v.toNat%256)<=2^s*255:=Nat.mul_le_mul_left _ (by omega)
  have:2^(s+8)=2^s*256:=by rw[Nat.pow_add]
  omega
 rw[eK h2,eK h1]
 apply eM
 intro i
 rw[BitVec.testBit_toNat]
 simp only[BitVec.getLsbD_or,BitVec.getLsbD_and,BitVec.getLsbD_not,BitVec.getLsbD_shiftLeft,Nat.testBit_or,Nat.testBit_two_pow_mul,eN,Nat.testBit_div_two_pow,BitVec.getLsbD_ofNat]
 have Xw:∀j,eO 255 j=decide (j<8):=λj=>by
  rw[show 255=2^8-1 from rfl,Nat.testBit_two_pow_sub_one]
 have Xx:∀n j,eO (n%256) j=(decide (j<8)&&eO n j):=λn j=>by
  rw[show 256=2^8 from rfl,eN]
 rw[Xw,Xx]
 by_cases hi:i<32
 ·by_cases a1:i<s
  ·have a2:¬(s<=i):=by omega
   have a3:¬(s+8<=i):=by omega
   simp[hi,a1,a2,a3,eQ]
  ·by_cases a4:s+8<=i
   ·have a2:¬(i-s<8):=by omega
    have a5:i-(s+8)+(s+8)=i:=by omega
    have a6:s<=i:=by omega
    simp[hi,a1,a2,a4,a5,a6,eQ]
   ·have a2:(i-s<8):=by omega
    have a6:s<=i:=by omega
    have a7:i-s<32:=by omega
    simp[hi,a1,a2,a4,a6,a7,eQ]
 ·have a0:x.toNat.testBit i=false:=Nat.testBit_lt_two_pow (Nat.lt_of_lt_of_le hx (dT (by decide) (by omega)))
  have a1:¬(i<s):=by omega
  have a2:¬(i-s<8):=by omega
  have a4:s+8<=i:=by omega
  have a5:i-(s+8)+(s+8)=i:=by omega
  simp[hi,a0,a1,a2,a4,a5]
theorem Za7(b:BitVec 32):dW 32 (wrap .u32 (b.toNat:Int))=b:=by
 have:=b.isLt
 rw[wrap_u32]
 apply eR
 rw[dX];omega
theorem Zq(x:Int):dW 32 (wrap .u32 x)=dW 32 x:=by
 apply eR
 rw[dX,dX,wrap_u32]
 have:((2^32:Nat):Int)=4294967296:=by decide
 rw[this,Int.emod_emod_of_dvd _ (Int.dvd_refl _)]
theorem Zhc{x:Int}(hx:U x)(s:Nat)(hs:s<=32):dW 32 (eg .u32 x s)=dW 32 x<<<s:=by
 obtain⟨n,rfl⟩:∃n:Nat,x=n:=⟨x.toNat,by have:=hx.1;omega⟩
 have e:min (dF (s:Int)) u32.bits=s:=by show min (dF (s:Int)) 32=s;omega
 unfold eg
 rw[e,Zq]
 have e2:((n:Int)*2^s)=((n*2^s:Nat):Int):=by simp
 have:=hx.2
 rw[e2,eS,eS]
 apply eR
 rw[BitVec.toNat_shiftLeft,eT,eT,Nat.shiftLeft_eq,Nat.mod_mul_mod]
def uy(W v:Int)(s:Nat):Int:=ir .u32 (nS .u32 W (eg .u32 255 s)) (eg .u32 (bf .u32 v 255) s)
theorem qan{W v:Int}(hW:U W)(hv:U v)(s:Nat)(hs:s<=24):uy W v s=2^(s+8)*(W/2^(s+8))+(2^s*(v%256)+W%2^s):=by
 have e:=xam (dW 32 W) (dW 32 v) s hs
 have l:=((dW 32 W&&&~~~(255#32<<<s))|||((dW 32 v&&&255#32)<<<s)).isLt
 have h1:dW 32 (nS .u32 W (eg .u32 255 s))=dW 32 W&&&~~~(255#32<<<s):=by
  show dW 32 (wrap .u32 (dW 32 W&&&~~~dW 32 (eg .u32 255 s)).toNat)=_
  rw[Za7,Zhc ⟨by decide,by decide⟩ s (by omega)]
  rfl
 have h2:dW 32 (eg .u32 (bf .u32 v 255) s)=(dW 32 v&&&255#32)<<<s:=by
  rw[Zhc (I9 _ _) s (by omega)]
  congr 1
  show dW 32 (wrap .u32 (dW 32 v&&&dW 32 255).toNat)=_
  rw[Za7];rfl
 show wrap .u32 ((dW 32 (nS .u32 W (eg .u32 255 s))|||dW 32 (eg .u32 (bf .u32 v 255) s)).toNat:Int)=_
 rw[h1,h2]
 have lw:wrap .u32 ((((dW 32 W&&&~~~(255#32<<<s))|||((dW 32 v&&&255#32)<<<s)).toNat:Nat):Int)=(((dW 32 W&&&~~~(255#32<<<s))|||((dW 32 v&&&255#32)<<<s)).toNat:Nat):=by rw[wrap_u32];omega
 rw[lw,e,Lt hW,Lt hv]
 obtain⟨n,rfl⟩:∃n:Nat,W=n:=⟨W.toNat,by have:=hW.1;omega⟩
 obtain⟨k,rfl⟩:∃n:Nat,v=n:=⟨v.toNat,by have:=hv.1;omega⟩
 simp
def sO(w:Int)(k:Nat):Int:=if k=0 then w%256 else if k=1 then w/256%256 else if k=2 then w/65536%256 else w/16777216%256
def lC(m:List Int)(a:Nat):Int:=sO (m.getD (a/4) 0) (a%4)
theorem vi(w:Int)(k:Nat):0<=sO w k/\sO w k<256:=by
 unfold sO
 split
 ·omega
 ·split
  ·omega
  ·split<;>omega
theorem zan{w v:Int}(hw:U w)(hv:U v)(h:∀k,k<4->sO w k=sO v k):w=v:=by
 have h0:=h 0 (by omega)
 have h1:=h 1 (by omega)
 have h2:=h 2 (by omega)
 have h3:=h 3 (by omega)
 simp[sO]at h0 h1 h2 h3
 obtain⟨a,b⟩:=hw
 obtain⟨c,d⟩:=hv
 omega
theorem Xy{m n:List Int}(hl:m.length=n.length)(hm:∀w∈m,U w)(hn:∀w∈n,U w)(h:∀a,lC m a=lC n a):m=n:=by
 refine bN hl λi h1 h2=>?_
 have e1:m[i]=m.getD i 0:=by simp[aK,h1]
 have e2:n[i]=n.getD i 0:=by simp[aK,h2]
 rw[e1,e2]
 refine zan (AK hm i) (AK hn i) λk hk=>?_
 have:=h (4*i+k)
 simp only[lC]at this
 rwa [show(4*i+k)/4=i by omega,show(4*i+k)%4=k by omega]at this
theorem Qva{l:List Int}{i:Nat}(h:i<l.length)(v:Int):(l.set i v).getD i 0=v:=by
 simp[aK,h]
theorem Xz{m:List Int}{i:Nat}(hi:i<m.length)(v:Int)(a:Nat):lC (m.set i v) a=if a/4=i then sO v (a%4)else lC m a:=by
 unfold lC
 split
 ·rename_i h;rw[h,Qva hi]
 ·rename_i h;rw[wF _ _ _ _ (λe=>h e.symm)]
theorem xan{W v:Int}(hW:U W)(hv:U v){j:Nat}(hj:j<4){k:Nat}(hk:k<4):sO (uy W v (8*j)) k=if k=j then v%256 else sO W k:=by
 have h:=qan hW hv (8*j) (by omega)
 rw[h]
 obtain⟨w0,w1⟩:=hW
 have h0:0<=v%256:=by omega
 have h1:v%256<256:=by omega
 generalize v%256=b at*
 clear h
 have hj:j=0\/j=1\/j=2\/j=3:=by omega
 have hk:k=0\/k=1\/k=2\/k=3:=by omega
 rcases hj with rfl|rfl|rfl|rfl<;>rcases hk with rfl|rfl|rfl|rfl<;>simp[sO]<;>omega
theorem qao{m:List Int}{a v:Int}(ha:U a):Bq m a 1 v=m.set (a/4).toNat (uy (m.getD (a/4).toNat 0) v (8*(a%4).toNat)):=by
 obtain⟨a0,a1⟩:=ha
 have e1:wrap .u32 (eU a 4)=a/4:=by rw[wrap_u32,eV a0];omega
 have e2:wrap .u32 (8*dE a 4)=((8*(a%4).toNat:Nat):Int):=by rw[wrap_u32,eF a0];omega
 have e3:((1:Int)==4)=false:=rfl
 simp only[Bq,Ja,Tree.m,e1,e2,e3,cond_false]
 rfl
theorem qj{P:Nat}{m:List Int}(h:ep P m){a v:Int}(ha:U a)(hl:a<128*P)(hv:U v):ep P (Bq m a 1 v)/\∀b:Nat,lC (Bq m a 1 v) b=if(b:Int)=a then v%256 else lC m b:=by
 have hlen:=h.len
 have a0:=ha.1
 rw[qao ha]
 have hi:(a/4).toNat<m.length:=by omega
 refine⟨⟨by rw[dH];exact hlen,h.p1,h.p2,DR h.u (nb _ _) _⟩,λb=>?_⟩
 rw[Xz hi]
 by_cases hb:b/4=(a/4).toNat
 ·rw[if_pos hb,xan (AK h.u _) hv (by omega) (by omega)]
  by_cases hc:b%4=(a%4).toNat
  ·rw[if_pos hc,if_pos (by omega)]
  ·rw[if_neg hc,if_neg (by omega),lC,hb]
 ·rw[if_neg hb,if_neg (by omega)]
theorem xY{P:Nat}{m:List Int}(h:ep P m){frame:Int}(f0:0<=frame)(f1:frame<P)(s:List UInt8):(GU m frame s).w (λr=>ep P r/\∀b:Nat,lC r b=if frame*128<=b/\(b:Int)<frame*128+min s.length 128 then((s.getD (b-frame*128).toNat 0).toNat:Int)else lC m b):=by
 unfold GU
 have h3:=h.p2
 refine ga (inv:=λz=>0<=z.1/\z.1<=min s.length 128/\ep P z.2/\∀b:Nat,lC z.2 b=if frame*128<=b/\(b:Int)<frame*128+z.1 then((s.getD (b-frame*128).toNat 0).toNat:Int)else lC m b) (μ:=XA m frame s) ⟨show(0:Int)<=0 by decide,by show(0:Int)<=_;omega,h,λb=>by rw[if_neg];show¬(_/\_<_+(0:Int));omega⟩ (cO _) (λv0 wC=>?_)
 obtain⟨i,mm⟩:=v0
 obtain⟨i0,i1,hm,hy⟩:=wC
 have i0:0<=i:=i0
 have i1:i<=min s.length 128:=i1
 have hm:ep P mm:=hm
 have fin:∀r:List Int,r=mm->i=min s.length 128->ep P r/\∀b:Nat,lC r b=if frame*128<=b/\(b:Int)<frame*128+min s.length 128 then((s.getD (b-frame*128).toNat 0).toNat:Int)else lC m b:=λr hr hi=>by
  subst hr;refine⟨hm,λb=>?_⟩
  rw[hy b];simp only[hi]
 refine aa (λh1=>aa (λh2=>ba ?_ ?_) (λh2=>fin mm rfl ?_)) (λh1=>fin mm rfl ?_)
 ·have:=oY h1
  simp[bJ];omega
 ·have h1:i<s.length:=oY h1
  have h2:i<128:=oY h2
  have e:wrap u32 (wrap i64 (wrap i64 (frame*128)+i))=frame*128+i:=by
   rw[wrap_u32,wrap_i64,wrap_i64];omega
  show(Tree.an (Ty mm (wrap u32 (wrap i64 (wrap i64 (frame*128)+i))) 1 _) (Tree.lv _ _)).w _
  rw[e]
  have hu:U (frame*128+i):=⟨by omega,by omega⟩
  have hvU:∀n:Nat,U (wrap .u32 (n:Int)):=λn=>fg _
  obtain⟨g1,_⟩:=Tree.pp (Ct hm (size:=1) (addr:=frame*128+i) hu (by rw[hm.len];omega) (hvU (eW (s.getD i.toNat 0))))
  obtain⟨g2,g3⟩:=qj hm hu (by omega) (hvU (eW (s.getD i.toNat 0)))
  refine cz g1 (ar λx0 nJ=>?_)
  rw[nJ]
  have ew:i64.wrap (i+1)=i+1:=by rw[wrap_i64];omega
  refine fh ?_
  show(0<=i64.wrap (i+1)/\i64.wrap (i+1)<=min s.length 128/\ep P _/\∀b:Nat,lC _ b=if frame*128<=b/\(b:Int)<frame*128+i64.wrap (i+1)then _ else _)/\(128-i64.wrap (i+1)).toNat<(128-i).toNat
  rw[ew]
  refine⟨⟨by omega,by omega,g2,λb=>?_⟩,by omega⟩
  rw[show Bq mm (frame*128+i) 1 _=_ from rfl,g3 b]
  by_cases hb:(b:Int)=frame*128+i
  ·rw[if_pos hb,if_pos (by omega),wrap_u32]
   have:=(s.getD i.toNat 0).toNat_lt
   rw[show(b-frame*128).toNat=i.toNat by omega];omega
  ·rw[if_neg hb,hy b]
   show(if frame*128<=(b:Int)/\(b:Int)<frame*128+i then _ else _)=_
   by_cases hc:frame*128<=(b:Int)/\(b:Int)<frame*128+i
   ·rw[if_pos hc,if_pos (by omega)]
   ·rw[if_neg hc,if_neg (by omega)]
 ·have h1:i<s.length:=oY h1
  have h2:¬i<128:=oN h2
  omega
 ·have h1:¬i<s.length:=oN h1
  omega
theorem xj{x y:Int}(hx:U x)(hy:U y)(k:Nat)(hk:x<2^k)(h:x+y*2^k<4294967296):ir .u32 x (y*2^k)=x+y*2^k:=by
 obtain⟨n,rfl⟩:∃n:Nat,x=n:=⟨x.toNat,by have:=hx.1;omega⟩
 obtain⟨z,rfl⟩:∃n:Nat,y=n:=⟨y.toNat,by have:=hy.1;omega⟩
 have e:((z:Int)*2^k)=((z*2^k:Nat):Int):=by simp
 rw[e]at h⊢
 have hn:n<2^k:=by exact_mod_cast hk
 rw[qaI hx ⟨by omega,by omega⟩,eD,eD,Nat.or_comm,Nat.mul_comm,<-eK hn]
 omega
theorem four{a b c d:Int}(ha:0<=a/\a<256)(hb:0<=b/\b<256)(hc:0<=c/\c<256)(hd:0<=d/\d<256):ir .u32 (ir .u32 (ir .u32 (wrap .u32 a) (eg .u32 (wrap .u32 b) 8)) (eg .u32 (wrap .u32 c) 16)) (eg .u32 (wrap .u32 d) 24)=a+b*2^8+c*2^16+d*2^24:=by
 have w:∀{x:Int},0<=x/\x<256->wrap .u32 x=x:=λhx=>by rw[wrap_u32];omega
 have s8:∀{x:Int},0<=x/\x<256->eg .u32 x 8=x*2^8:=fun{x} hx=>by show wrap .u32 (x*2^8)=_;rw[wrap_u32];omega
 have Bp:∀{x:Int},0<=x/\x<256->eg .u32 x 16=x*2^16:=fun{x} hx=>by show wrap .u32 (x*2^16)=_;rw[wrap_u32];omega
 have uv:∀{x:Int},0<=x/\x<256->eg .u32 x 24=x*2^24:=fun{x} hx=>by show wrap .u32 (x*2^24)=_;rw[wrap_u32];omega
 rw[w ha,w hb,w hc,w hd,s8 hb,Bp hc,uv hd]
 rw[xj ⟨by omega,by omega⟩ ⟨by omega,by omega⟩ 8 (by omega) (by omega),xj ⟨by omega,by omega⟩ ⟨by omega,by omega⟩ 16 (by omega) (by omega),xj ⟨by omega,by omega⟩ ⟨by omega,by omega⟩ 24 (by omega) (by omega)]
theorem qK{a b c d:Int}(ha:0<=a/\a<256)(hb:0<=b/\b<256)(hc:0<=c/\c<256)(hd:0<=d/\d<256)(k:Nat)(hk:k<4):sO (a+b*2^8+c*2^16+d*2^24) k=if k=0 then a else if k=1 then b else if k=2 then c else d:=by
 have hk:k=0\/k=1\/k=2\/k=3:=by omega
 rcases hk with rfl|rfl|rfl|rfl<;>simp[sO]<;>omega
theorem Tz{P:Nat}{m:List Int}(h:ep P m)(f:Int):IU m f=decide (0<=f/\f<P):=by
 have hp:=rT h
 simp only[IU,N6,Tree.m,dd,hp]
 by_cases h1:0<=f
 ·rw[dY h1];simp[h1]
 ·rw[dN h1];simp[h1]
theorem xK(s:List UInt8)(a b k:Nat)(h:k<b):(dB b (dC a s)).getD k 0=s.getD (a+k) 0:=by
 simp[cP,aU,h]
theorem GV(x:UInt8):0<=(x.toNat:Int)/\(x.toNat:Int)<256:=by have:=x.toNat_lt;omega
theorem XB{P:Nat}{m:List Int}(h:ep P m){f:Int}(f0:0<=f)(f1:f<P){s:List UInt8}(hs:s.length=128):(GB m f s).w (λr=>r.2=true/\ep P r.1/\∀b:Nat,lC r.1 b=if f*128<=b/\(b:Int)<f*128+128 then((s.getD (b-f*128).toNat 0).toNat:Int)else lC m b):=by
 have gn:jD m=m:=rfl
 have h2:=h.p2
 unfold GB
 refine cz (rU h) (ar λx0 nJ=>ar λx1 nK=>?_)
 rw[gn]at nJ;subst nJ
 rw[Tz h,dY ⟨f0,f1⟩]at nK
 subst nK
 refine aa (λhb=>by cases hb) λ_=>aa (λhb=>by simp[hs]at hb) λ_=>?_
 refine ga (inv:=λz:Int×List Int=>0<=z.1/\z.1<=32/\ep P z.2/\∀b:Nat,lC z.2 b=if f*128<=b/\(b:Int)<f*128+4*z.1 then((s.getD (b-f*128).toNat 0).toNat:Int)else lC x0 b) (μ:=Xa x0 f s) ⟨show(0:Int)<=0 by decide,show(0:Int)<=32 by decide,h,λb=>by rw[if_neg];show¬(_/\_<_+4*(0:Int));omega⟩ (cO _) λz ⟨z1,z2,z3,z4⟩=>?_
 refine aa (λhb=>?_) (λhb=>⟨rfl,z3,λb=>?_⟩)
 ·have hb:=oY hb
  have e1:i64.wrap (4*z.1)=4*z.1:=by rw[wrap_i64];omega
  have e2:i64.wrap (i64.wrap (4*z.1)+4)=4*z.1+4:=by rw[wrap_i64,wrap_i64];omega
  have e3:i64.wrap (i64.wrap (f*32)+z.1)=f*32+z.1:=by rw[wrap_i64,wrap_i64];omega
  have hl:=z3.len
  have cut:dF (i64.wrap (i64.wrap (4*z.1)+4))-dF (i64.wrap (4*z.1))=4:=by rw[e2,e1];omega
  have hlen:(dB (dF (i64.wrap (i64.wrap (4*z.1)+4))-dF (i64.wrap (4*z.1))) (dC (dF (i64.wrap (4*z.1))) s)).length=4:=by
   rw[cut,e1,bD,bF];omega
  refine ba (dY (by rw[e2,e1];omega)) ?_
  refine ba (dY (by rw[hlen];decide)) (ba (dY (by rw[hlen];decide)) (ba (dY (by rw[hlen];decide)) (ba (dY (by rw[hlen];decide)) (ba (by rw[e3];simp[bJ];omega) (fh ?_)))))
  have ew:i64.wrap (z.1+1)=z.1+1:=by rw[wrap_i64];omega
  rw[cut]
  refine⟨⟨by show 0<=i64.wrap (z.1+1);rw[ew];omega,by show i64.wrap (z.1+1)<=32;rw[ew];omega,?_,?_⟩,by show(32-i64.wrap (z.1+1)).toNat<(32-z.1).toNat;rw[ew];omega⟩
  ·show ep P (dG _ _ _)
   exact⟨by rw[dH];exact hl,z3.p1,z3.p2,DR z3.u (nb _ _) _⟩
  ·intro b
   show lC (dG z.2 (dF (i64.wrap (i64.wrap (f*32)+z.1))) _) b=if f*128<=(b:Int)/\(b:Int)<f*128+4*i64.wrap (z.1+1)then _ else _
   rw[e3,ew,four (GV _) (GV _) (GV _) (GV _),Xz (by omega)]
   have g:∀k:Nat,k<4->(dB 4 (dC (dF (i64.wrap (4*z.1))) s)).getD k 0=s.getD ((4*z.1).toNat+k) 0:=λk hk=>by rw[e1];exact xK _ _ _ _ hk
   by_cases hc:b/4=(f*32+z.1).toNat
   ·have TA:f*128<=(b:Int)/\(b:Int)<f*128+4*(z.1+1):=by omega
    rw[if_pos hc,qK (GV _) (GV _) (GV _) (GV _) _ (by omega),if_pos TA]
    have hb4:b%4=0\/b%4=1\/b%4=2\/b%4=3:=by omega
    have gi:(b-f*128).toNat=(4*z.1).toNat+b%4:=by omega
    rw[gi]
    rcases hb4 with h4|h4|h4|h4<;>rw[h4]
    ·rw[if_pos rfl,<-g 0 (by omega)];rfl
    ·rw[if_neg (by decide),if_pos rfl,<-g 1 (by omega)];rfl
    ·rw[if_neg (by decide),if_neg (by decide),if_pos rfl,<-g 2 (by omega)];rfl
    ·rw[if_neg (by decide),if_neg (by decide),if_neg (by decide),<-g 3 (by omega)];rfl
   ·rw[if_neg hc,z4 b]
    by_cases hd:f*128<=(b:Int)/\(b:Int)<f*128+4*z.1
    ·rw[if_pos hd,if_pos (by omega)]
    ·rw[if_neg hd,if_neg (by omega)]
 ·have hb:=oN hb
  show lC z.2 b=_
  rw[z4 b,show z.1=32 by omega]
  rfl
theorem XC{α:Type}(l l2:List α)(k:Nat)(z:α):(l++l2).getD k z=if k<l.length then l.getD k z else l2.getD (k-l.length) z:=by
 simp only[cP,List.getElem?_append]
 split<;>rfl
theorem u8w{x:Int}:wrap .u8 x=x%256:=wrap_u8 x
theorem GW(W:Int):bg .u32 W 8=W/256/\bg .u32 W 16=W/65536/\bg .u32 W 24=W/16777216:=by
 refine⟨?_,?_,?_⟩
 ·show eJ W 256=_;rw[dP _ (by decide)]
 ·show eJ W 65536=_;rw[dP _ (by decide)]
 ·show eJ W 16777216=_;rw[dP _ (by decide)]
theorem b4d(W:Int){k:Nat}(hk:k<4):[wrap .u8 W,wrap .u8 (bg .u32 W 8),wrap .u8 (bg .u32 W 16),wrap .u8 (bg .u32 W 24)].getD k 0=sO W k:=by
 obtain⟨a,b,c⟩:=GW W
 have hk:k=0\/k=1\/k=2\/k=3:=by omega
 rcases hk with rfl|rfl|rfl|rfl<;>simp[sO,a,b,c,u8w]
theorem XD(l:List Int)(k:Nat)(h:0<=l.getD k 0/\l.getD k 0<256)(hk:k<l.length):(((bytesOf l).getD k 0).toNat:Int)=l.getD k 0:=by
 have e:(bytesOf l).getD k 0=eX (l.getD k 0).toNat:=by
  simp[bytesOf,cP,hk]
 rw[e,UInt8.toNat_ofNat']
 omega
theorem Zkh(l:List UInt8)(k:Nat)(hk:k<l.length):(jx l).getD k 0=((l.getD k 0).toNat:Int):=by
 simp[jx,cP,hk]
theorem zaI(w:List Int)(h:w.length<=32):(Fh w).w (λr=>r.length=4*w.length/\∀k:Nat,k<4*w.length->((r.getD k 0).toNat:Int)=sO (w.getD (k/4) 0) (k%4)):=by
 have e0:i64.wrap (4*(w.length:Int))=4*w.length:=by rw[wrap_i64];omega
 unfold Fh
 refine ba (by rw[e0];simp[bJ,D.plain];omega) ?_
 refine ga (inv:=λz:Int×List Int=>0<=z.1/\z.1<=w.length/\(z.2.length:Int)=4*z.1/\∀k:Nat,(k:Int)<4*z.1->z.2.getD k 0=sO (w.getD (k/4) 0) (k%4)) (μ:=N7 w) ⟨by decide,by show(0:Int)<=w.length;omega,rfl,λk hk=>by have hk:(k:Int)<4*0:=hk;omega⟩ (cO _) λz ⟨z1,z2,z3,z4⟩=>?_
 refine aa (λhb=>?_) (λhb=>?_)
 ·have hb:=oY hb
  have ew:i64.wrap (z.1+1)=z.1+1:=by rw[wrap_i64];omega
  refine ba (by simp[bJ];omega) (ba (dY (by omega)) (fh ?_))
  show(_/\_/\_/\∀k:Nat,(k:Int)<4*i64.wrap (z.1+1)->(z.2++_).getD k 0=_)/\(_:Nat)<_
  refine⟨⟨by rw[ew];omega,by rw[ew];omega,by rw[ew,lA];simp only[dI,dJ];omega,λk hk=>?_⟩,by show(w.length-i64.wrap (z.1+1)).toNat<(w.length-z.1).toNat;rw[ew];omega⟩
  rw[ew]at hk
  rw[XC]
  split
  ·exact z4 k (by omega)
  ·rename_i hn
   rw[b4d _ (by omega),show z.1.toNat=k/4 by omega,show k-z.2.length=k%4 by omega]
 ·have hb:=oN hb
  show(bytesOf z.2).length=_/\∀k:Nat,_->(((bytesOf z.2).getD k 0).toNat:Int)=_
  refine⟨by rw[N8];omega,λk hk=>?_⟩
  have e:=z4 k (by omega)
  have:=vi (w.getD (k/4) 0) (k%4)
  rw[XD _ _ (by rw[e];exact this) (by omega),e]
def AL(m:List Int)(f:Int)(r:List UInt8):Prop:=r.length=128/\∀k:Nat,k<128->((r.getD k 0).toNat:Int)=lC m ((f*128).toNat+k)
theorem xaI{m:List Int}{f:Int}{r s:List UInt8}(a:AL m f r)(b:AL m f s):r=s:=by
 obtain⟨a1,a2⟩:=a
 obtain⟨b1,b2⟩:=b
 refine bN (by omega) λi h1 h2=>?_
 have e:=(a2 i (by omega)).trans (b2 i (by omega)).symm
 have e1:r[i]=r.getD i 0:=by simp[aK,h1]
 have e2:s[i]=s.getD i 0:=by simp[aK,h2]
 rw[e1,e2]
 exact UInt8.toNat_inj.1 (by omega)
theorem zj{P:Nat}{m:List Int}(h:ep P m){f:Int}(f0:0<=f)(f1:f<P):(GC m f).w (λr=>AL m f r.1/\r.2=true):=by
 have hl:=h.len
 have h2:=h.p2
 unfold GC
 refine ar λx0 nJ=>?_
 rw[Tz h,dY ⟨f0,f1⟩]at nJ
 subst nJ
 refine aa (λhb=>by cases hb) (λhb=>?_)
 have e1:i64.wrap (f*32)=f*32:=by rw[wrap_i64];omega
 have e2:i64.wrap (i64.wrap (f*32)+32)=f*32+32:=by rw[wrap_i64,wrap_i64];omega
 have cut:dF (i64.wrap (i64.wrap (f*32)+32))-dF (i64.wrap (f*32))=32:=by rw[e2,e1];omega
 have hlen:(dB 32 (dC (dF (i64.wrap (f*32))) m)).length=32:=by
  rw[e1,bD,bF];omega
 refine ba (by rw[e2,e1];simp[bJ];omega) ?_
 rw[cut]
 refine cz (by show dK _<=1000000000000;rw[hlen];decide) (ar λx1 h1=>?_)
 have t:=(Tree.pp (zaI _ (dL hlen))).2
 rw[hlen,show(Fh (dB 32 (dC (dF (i64.wrap (f*32))) m))).m=x1 from h1.symm]at t
 refine⟨⟨t.1,λk hk=>?_⟩,rfl⟩
 show((x1.getD k 0).toNat:Int)=_
 rw[t.2 k hk,lC,e1]
 have g:(dB 32 (dC (dF (f*32)) m)).getD (k/4) 0=m.getD ((f*32).toNat+k/4) 0:=by
  simp[cP,aU,show k/4<32 by omega]
 rw[g,show((f*128).toNat+k)/4=(f*32).toNat+k/4 by omega,show((f*128).toNat+k)%4=k%4 by omega]
theorem qaJ(x:Int):XE x 4=bytesOf [wrap .u8 (bg .u32 x 0),wrap .u8 (bg .u32 x 8),wrap .u8 (bg .u32 x 16),wrap .u8 (bg .u32 x 24)]:=by kernel_rfl
theorem zao{P:Nat}{m:List Int}(hm:ep P m){frame:Int}(f0:0<=frame)(f1:frame<P):(GX m frame).w (λr=>AL m frame r.1/\r.2=true):=by
 have hp:=DZ hm
 have hl:=hm.len
 have h2:=hm.p2
 unfold GX
 refine aa (λh=>by have:=oY h;omega) (λh=>ar λx0 hx=>aa (λh1=>by have:=oY h1;rw[hx,hp]at this;omega) (λh1=>?_))
 refine ga (inv:=λz:Int×List Int=>0<=z.1/\z.1<=32/\(z.2.length:Int)=4*z.1/\∀k:Nat,(k:Int)<4*z.1->z.2.getD k 0=lC m ((frame*128).toNat+k)) (μ:=XF m frame) ⟨by decide,by decide,rfl,λk hk=>by have hk:(k:Int)<4*0:=hk;omega⟩ (cO _) (λz hz=>?_)
 obtain⟨z1,z2,z3,z4⟩:=hz
 refine aa (λhb=>?_) (λhb=>?_)
 ·have hb:=oY hb
  have e:wrap i64 (wrap i64 (frame*32)+z.1)=frame*32+z.1:=by rw[wrap_i64,wrap_i64];omega
  refine ba (by rw[e];simp[bJ];omega) (cz (show(4:Int)<=1000000000000 by decide) (ar λx1 h4=>?_))
  rw[qaJ,Oq,e]at h4
  have l4:x1.length=4:=by rw[h4];rfl
  refine ba (dY (by rw[TB,l4];omega)) (fh ?_)
  show(0<=i64.wrap (z.1+1)/\i64.wrap (z.1+1)<=32/\((z.2++jx x1).length:Int)=4*i64.wrap (z.1+1)/\∀k:Nat,(k:Int)<4*i64.wrap (z.1+1)->(z.2++jx x1).getD k 0=_)/\(32-i64.wrap (z.1+1)).toNat<(32-z.1).toNat
  have ew:i64.wrap (z.1+1)=z.1+1:=by rw[wrap_i64];omega
  rw[ew]
  refine⟨⟨by omega,by omega,by rw[lA,TB,l4];omega,λk hk=>?_⟩,by omega⟩
  rw[XC]
  split
  ·exact z4 k (by omega)
  ·rename_i hn
   have Ea:k-z.2.length<4:=by omega
   rw[Zkh _ _ (by omega),h4]
   have d:=b4d (m.getD (frame*32+z.1).toNat 0) Ea
   rw[XD _ _ (by rw[d];exact vi _ _) (by simpa using Ea),d,lC]
   rw[show((frame*128).toNat+k)/4=(frame*32+z.1).toNat by omega,show((frame*128).toNat+k)%4=k-z.2.length by omega]
 ·have hb:=oN hb
  refine⟨⟨?_,λk hk=>?_⟩,rfl⟩
  ·show(bytesOf z.2).length=128
   rw[N8];omega
  ·show(((bytesOf z.2).getD k 0).toNat:Int)=_
   have e:=z4 k (by omega)
   rw[XD _ _ (by rw[e];exact vi _ _) (by omega),e]
theorem Zfc{P:Nat}{m:List Int}(h:ep P m)(f:Int):Eb m f=Lx m f:=by
 by_cases hf:0<=f/\f<P
 ·have a:=(Tree.pp (zj h hf.1 hf.2)).2
  have b:=(Tree.pp (zao h hf.1 hf.2)).2
  exact eY (xaI a.1 b.1) (a.2.trans b.2.symm)
 ·have hp:=DZ h
  have e1:Eb m f=([],false):=by
   simp only[Eb,GC,Tree.m,dd,Tz h,dN hf];rfl
  have e2:Lx m f=([],false):=by
   simp only[Lx,GX,Tree.m,dd,hp]
   by_cases h0:f<0
   ·rw[dY h0];rfl
   ·rw[dN h0,dY (show f>=P by omega)];rfl
  rw[e1,e2]
section
variable {P:Nat} {m:List Int} (h:ep P m)
include h
theorem Zhz{f:Int}(f0:0<=f)(f1:f<P){s:List UInt8}(hs:s.length=128):Ec m f s=(Ox m f s,true):=by
 have a:=(Tree.pp (XB h f0 f1 hs)).2
 have b:=(Tree.pp (xY h f0 f1 s)).2
 refine eY (Xy (a.2.1.len.trans b.1.len.symm) a.2.1.u b.1.u λk=>?_) a.1
 have e:((min s.length 128:Nat):Int)=128:=by rw[hs];rfl
 have b2:=b.2 k
 have a2:=a.2.2 k
 rw[e]at b2
 exact a2.trans b2.symm
theorem Zgd{f:Int}(f0:0<=f)(f1:f<P){s r:List UInt8}(hs:s.length<=128)(hr:AL m f r):Ec m f (s++r.drop s.length)=(Ox m f s,true):=by
 have hl:(s++r.drop s.length).length=128:=by have:=hr.1;simp;omega
 have a:=(Tree.pp (XB h f0 f1 hl)).2
 have b:=(Tree.pp (xY h f0 f1 s)).2
 refine eY (Xy (a.2.1.len.trans b.1.len.symm) a.2.1.u b.1.u λk=>?_) a.1
 have b2:=b.2 k
 have a2:=a.2.2 k
 refine a2.trans (Eq.trans ?_ b2.symm)
 by_cases hc:f*128<=(k:Int)/\(k:Int)<f*128+128
 ·rw [if_pos hc,XC]
  by_cases hd:(k-f*128).toNat<s.length
  ·rw[if_pos hd,if_pos (by omega)]
  ·rw[if_neg hd,if_neg (by omega)]
   have e:(r.drop s.length).getD ((k-f*128).toNat-s.length) 0=r.getD (k-f*128).toNat 0:=by
    simp[cP,show s.length+((k-f*128).toNat-s.length)=(k-f*128).toNat by omega]
   rw[e,hr.2 _ (by omega),show(f*128).toNat+(k-f*128).toNat=k by omega]
 ·rw[if_neg hc,if_neg (by omega)]
theorem Ly{a:Int}(ha:U a){size:Int}(hs:size=1\/size=4):rV m a size=decide (a%size=0/\a<128*P):=by
 have hq:=DZ h
 have h2:=h.p2
 have a0:=ha.1
 have e:wrap u32 size=size:=by rcases hs with rfl|rfl<;>decide
 have e0:decide (wrap u32 size≠0)=true:=by rcases hs with rfl|rfl<;>decide
 have t:dE a (wrap u32 size)=a%size:=by rw[e,eF a0]
 have l:∀x,x=wI m->a%size=0->decide (a<wrap u32 (wrap i64 (128*x)))=decide (a%size=0/\a<128*P):=λx hx hz=>by
  rw[hx,hq,wrap_u32,wrap_i64]
  exact decide_eq_decide.2 ⟨λh=>⟨hz,by omega⟩,λh=>by omega⟩
 refine Tree.post (Jb m a size) (W:=λb=>b=decide (a%size=0/\a<128*P)) ?_
 unfold Jb
 refine aa (λh1=>aa (λh4=>?_) (λ_=>?_)) (λ_=>?_)
 ·have h1:¬size=1:=by simpa using h1
  have h4:¬size=4:=by simpa using h4
  omega
 all_goals
  refine ba e0 (aa (λhb=>ar λx hx=>l x hx ?_) (λhb=>?_))
  ·rw[t]at hb;exact eq_of_beq hb
  ·rw[t]at hb
   exact(dN (λh=>by rw[h.1]at hb;cases hb)).symm
theorem Z5d{a:Int}(ha:U a){size:Int}(hs:size=1\/size=4):XG m a size=rV m a size:=by
 rw[Ly h ha hs]
 have hq:=XH h
 have h2:=h.p2
 have a0:=ha.1
 have a1:=ha.2
 have e:wrap u32 size=size:=by rcases hs with rfl|rfl<;>decide
 have e0:decide (wrap u32 size≠0)=true:=by rcases hs with rfl|rfl<;>decide
 have t:dE a (wrap u32 size)=a%size:=by rw[e,eF a0]
 have l:∀x,x=lT m->a%size=0->decide (wrap u64 (wrap u64 a+wrap u64 size)<=wrap u64 (wrap u64 x*128))=decide (a%size=0/\a<128*P):=λx hx hz=>by
  rw[hx,hq]
  simp only[wrap_u64]
  refine decide_eq_decide.2 ⟨λh=>⟨hz,?_⟩,λh=>?_⟩<;>rcases hs with rfl|rfl<;>omega
 refine Tree.post (Jc m a size) (W:=λb=>b=decide (a%size=0/\a<128*P)) ?_
 unfold Jc
 refine aa (λh1=>aa (λh4=>?_) (λ_=>?_)) (λ_=>?_)
 ·have h1:¬size=1:=by simpa using h1
  have h4:¬size=4:=by simpa using h4
  omega
 all_goals
  refine ba e0 (aa (λhb=>?_) (λhb=>ar λx hx=>l x hx ?_))
  ·rw[t]at hb
   exact(dN (λh=>by rw[h.1]at hb;cases hb)).symm
  ·rw[t]at hb;simpa using hb
end
theorem XI(w:Int):tJ w 0 8=bf .u32 (bg .u32 w 0) 255/\tJ w 8 8=bf .u32 (bg .u32 w 8) 255/\tJ w 16 8=bf .u32 (bg .u32 w 16) 255/\tJ w 24 8=bf .u32 (bg .u32 w 24) 255:=
 ⟨by kernel_rfl,by kernel_rfl,by kernel_rfl,by kernel_rfl⟩
theorem XJ(w v:Int):Lz w 0 8 v=uy w v 0/\Lz w 8 8 v=uy w v 8/\Lz w 16 8 v=uy w v 16/\Lz w 24 8 v=uy w v 24:=
 ⟨by kernel_rfl,by kernel_rfl,by kernel_rfl,by kernel_rfl⟩
theorem yj{a:Int}(ha:U a):wrap .i64 (wrap .i64 (dE a 4)*8)=8*(a%4)/\wrap .u32 (8*dE a 4)=8*(a%4):=by
 obtain⟨a0,a1⟩:=ha
 rw[eF a0]
 exact⟨by rw[wrap_i64,wrap_i64];omega,by rw[wrap_u32];omega⟩
section
variable {P:Nat} {m:List Int} (h:ep P m)
include h
theorem Qo{a:Int}(ha:U a){size:Int}(hs:size=1\/size=4):Cu m a size=kL m a size:=by
 have e:=Z5d h ha hs
 obtain⟨s1,s2⟩:=yj ha
 have f:tJ (m.getD (dF (wrap .u32 (eU a 4))) 0) (8*(a%4)) 8=bf .u32 (bg .u32 (m.getD (dF (wrap .u32 (eU a 4))) 0) (8*(a%4))) 255:=by
  obtain⟨f0,f1,f2,f3⟩:=XI (m.getD (dF (wrap .u32 (eU a 4))) 0)
  have:a%4=0\/a%4=1\/a%4=2\/a%4=3:=by omega
  rcases this with h|h|h|h<;>rw[h]
  ·exact f0
  ·exact f1
  ·exact f2
  ·exact f3
 simp only[Cu,LA,kL,AM,Tree.m,dd,e,s1,s2,f]
omit h in
theorem XK(a size:Int):(kL m a size).2=rV m a size:=by
 simp only[kL,AM,Tree.m,dd]
 cases rV m a size
 ·rfl
 ·cases size==1<;>rfl
theorem Z9t{a:Int}(ha:U a){size:Int}(hs:size=1\/size=4)(v:Int):LB m a size v=bif rV m a size then(Bq m a size v,true)else(m,false):=by
 have gn:jD m=m:=rfl
 have e:=Z5d h ha hs
 obtain⟨s1,s2⟩:=yj ha
 have f:∀w,Lz w (8*(a%4)) 8 v=ir .u32 (nS .u32 w (eg .u32 255 (8*(a%4)))) (eg .u32 (bf .u32 v 255) (8*(a%4))):=λw=>by
  obtain⟨f0,f1,f2,f3⟩:=XJ w v
  have:a%4=0\/a%4=1\/a%4=2\/a%4=3:=by omega
  rcases this with h|h|h|h<;>rw[h]
  ·exact f0
  ·exact f1
  ·exact f2
  ·exact f3
 simp only[LB,Q8,Bq,Ja,Tree.m,dd,gn,e,s1,s2,f]
 rcases hs with rfl|rfl<;>cases rV m a _<;>rfl
end
section
variable {P:Nat} {m:List Int} (h:ep P m)
include h
theorem vj{root va:Int}(hr:U root)(hv:U va){access:Int}(ha:access=1\/access=2\/access=3):TC m root va access=AN m root va access:=by
 have hp:=DZ h
 have h2:=h.p2
 have hlen:=h.len
 obtain⟨r1,r2⟩:=hr
 obtain⟨v1,v2⟩:=hv
 have IY:∀{f:Int},U f->Oy m f=decide (f<P):=λhf=>yT h hf
 have eP:wrap .u32 (P:Int)=P:=by rw[wrap_u32];omega
 have kn:LC access=true:=by rcases ha with rfl|rfl|rfl<;>rfl
 have ca:Qk access=(tK access,true):=by rcases ha with rfl|rfl|rfl<;>rfl
 simp only[TC,LD,AN,GY,Tree.m,dd,hp,eP,kn,ca,IY ⟨r1,r2⟩]
 by_cases c1:va>=4096
 ·rw[dY c1];rfl
 by_cases c2:root<P
 ·have eE:wrap u32 (wrap u32 (root*128)+wrap u32 (4*wrap u32 (eU va 128)))=root*128+4*(va/128):=by
   rw[eV v1,wrap_u32,wrap_u32,wrap_u32,wrap_u32];omega
  have hE:U (root*128+4*(va/128)):=⟨by omega,by omega⟩
  have wi:rV m (root*128+4*(va/128)) 4=true:=by
   rw[Ly h hE (.inr rfl)];exact dY ⟨by omega,by omega⟩
  rw[dN c1,dY c2,dN (show¬root>=P by omega),eE,Qo h hE (.inr rfl),XK,wi]
  have ld:(kL m (root*128+4*(va/128)) 4).1=m.getD (dF (wrap .u32 (eU (root*128+4*(va/128)) 4))) 0:=by
   simp only[kL,AM,Tree.m,dd,wi];rfl
  rw[ld]
  generalize m.getD (dF (wrap .u32 (eU (root*128+4*(va/128)) 4))) 0=w
  have fo:XL w=bf .u32 (bg .u32 w 8) 255:=(fld w).2.2.2.2
  rw[fo,IY (I9 _ _)]
  have pK:decide (bf .u32 (bg .u32 w 8) 255>=(P:Int))=!decide (bf .u32 (bg .u32 w 8) 255<(P:Int)):=by
   by_cases hq:bf .u32 (bg .u32 w 8) 255<(P:Int)
   ·rw[dY hq,dN (by omega)];rfl
   ·rw[dN hq,dY (by omega)];rfl
  rw[pK]
  generalize decide (bf .u32 (bg .u32 w 8) 255<(P:Int))=d
  rcases ha with rfl|rfl|rfl
  ·show _=(bif bf .u32 w 1==0 then _ else bif bf .u32 w 4==0 then _ else bif !d then _ else _)
   have:TE w 1=(bif bf .u32 w 1==0 then false else !(bf .u32 w 4==0)):=rfl
   rw[this]
   cases bf .u32 w 1==0<;>cases bf .u32 w 4==0<;>cases d<;>rfl
  ·show _=(bif bf .u32 w 1==0 then _ else bif !d then _ else _)
   have:TE w 2=(bif bf .u32 w 1==0 then false else true):=rfl
   rw[this]
   cases bf .u32 w 1==0<;>cases d<;>rfl
  ·show _=(bif bf .u32 w 1==0 then _ else bif bf .u32 w 2==0 then _ else bif !d then _ else _)
   have:TE w 3=(bif bf .u32 w 1==0 then false else !(bf .u32 w 2==0)):=rfl
   rw[this]
   cases bf .u32 w 1==0<;>cases bf .u32 w 2==0<;>cases d<;>rfl
 ·rw[dN c1,dN c2,dY (show root>=P by omega)];rfl
theorem Zor{a:Int}(ha:U a)(access:Int):Oz m a access=TF m a access:=by
 have gn:jD m=m:=rfl
 have hl:=h.len
 have a0:=ha.1
 simp only[Oz,LF,TF,LG,Tree.m,dd,Qo h ha (.inr rfl),XK,Z9t h ha (.inr rfl),gn]
 cases hw:rV m a 4
 ·rfl
 ·rw[Ly h ha (.inr rfl)]at hw
  have hw:=oY hw
  have wi:rV m a 4=true:=by rw[Ly h ha (.inr rfl)];exact dY hw
  have ld:(kL m a 4).1=m.getD (dF (wrap .u32 (eU a 4))) 0:=by
   simp only[kL,AM,Tree.m,dd,wi];rfl
  have pu:∀v,Bq m a 4 v=m.set (dF (wrap .u32 (eU a 4))) v:=λv=>rfl
  rw[ld,pu,pu]
  have hi:dF (wrap .u32 (eU a 4))<m.length:=by
   rw[eV a0,wrap_u32];omega
  generalize dF (wrap .u32 (eU a 4))=i at*
  rw[Qva hi,List.set_set]
  rfl
end
theorem OA{c:bh}(h0:0<=c.B4.a0)(h:c.B4.a0<=31)(k b:Int):rl c k b=pQ c k b:=by
 have e:=eq_of_beq (Fp (λs=>nS .u32 (ir .u32 (AH (AH s 1 8) 2 16) 1) 2==ir .u32 (nS .u32 (ir .u32 (ir .u32 (nS .u32 s 24) (wrap .u32 (8*Cv (bf .u32 s 1 !=0)))) (wrap .u32 (16*Cv (bf .u32 s 2 !=0)))) 2) 1) 32 (by kernel_rfl) h0 (by omega))
 simp only[rl,OB,pQ,OC,Tree.m,dd,e]
theorem Zlo{c:bh}(h0:0<=c.B4.a0)(h:c.B4.a0<=31):Lq c=TG c:=by
 have e:=eq_of_beq (Fp (λs=>AH (AH s 8 1) 16 2==ir .u32 (ir .u32 (nS .u32 s 3) (wrap .u32 (1*Cv (bf .u32 s 8 !=0)))) (wrap .u32 (2*Cv (bf .u32 s 16 !=0)))) 32 (by kernel_rfl) h0 (by omega))
 simp only[Lq,OD,TG,OE,Tree.m,dd,e]
theorem Z89{c:bh}(h0:0<=c.B4.a0)(h:c.B4.a0<=31):TH c=(!GZ c&&(bf .u32 c.B4.a0 4 !=0)):=
 eq_of_beq (Fp (λs=>(bf .u32 s 5==4)==(!(bf .u32 s 1 !=0)&&(bf .u32 s 4 !=0))) 32 (by kernel_rfl) h0 (by omega))
theorem TJ(c:bh){r:Int}(hr:0<=r/\r<16)(v:Int):uz c r v=lD c r v:=by
 simp only[uz,Fl,lD,Jd,Tree.m]
 by_cases h:r=0
 ·subst h;rfl
 ·rw[dY (show r>0 by omega),dY hr.2,show(r !=0)=true by simpa using h];rfl
theorem zK{a b:Int}(ha:U a)(hb:U b):LH a b=LI a b:=by
 obtain⟨a0,a1⟩:=ha
 obtain⟨b0,b1⟩:=hb
 have i:∀x,wrap .i64 (wrap .i32 x)=wrap .i32 x:=λx=>by rw[wrap_i64,wrap_i32];omega
 have r32:∀x,-2147483648<=wrap .i32 x/\wrap .i32 x<2147483648:=λx=>by rw[wrap_i32];omega
 have q32:∀x y:Int,-2147483648<=x/\x<2147483648-> -2147483648<=eU x y/\eU x y<=2147483648:=λx y hx=>by
  have h1:(eU x y).natAbs<=x.natAbs:=by rw[Int.natAbs_tdiv];exact Nat.div_le_self _ _
  omega
 simp only[LH,LJ,LI,Qa,Tree.m,i]
 cases hb:b==0
 ·have w:∀z,wrap .u32 (wrap .i32 z)=wrap .u32 z:=λz=>by rw[wrap_i32,wrap_u32,wrap_u32];omega
  have w2:wrap .i64 (eU (wrap .i32 a) (wrap .i32 b))=eU (wrap .i32 a) (wrap .i32 b):=by
   have:=q32 _ (wrap .i32 b) (r32 a)
   rw[wrap_i64];omega
  rw[w,w2]
  cases h1:a==2147483648
  ·rfl
  ·cases h2:b==4294967295
   ·rfl
   ·have h1:=eq_of_beq h1
    have h2:=eq_of_beq h2
    subst h1;subst h2
    rfl
 ·rfl
theorem yK{op a b:Int}(h0:1<=op)(h1:op<=23)(ha:U a)(hb:U b):nL op a b=Ed op a b:=by
 have sub:wrap .u32 (a+wrap .u32 (0-b))=wrap .u32 (a-b):=by
  rw[wrap_u32,wrap_u32,wrap_u32];omega
 have rQ:op=1\/op=2\/op=3\/op=4\/op=5\/op=6\/op=7\/op=8\/op=9\/op=10\/op=11\/op=12\/op=13\/op=14\/op=15\/op=16\/op=17\/op=18\/op=19\/op=20\/op=21\/op=22\/op=23:=by omega
 have d:=zK ha hb
 rcases rQ with rfl|rfl|rfl|rfl|rfl|rfl|rfl|rfl|rfl|rfl|rfl|rfl|rfl|rfl|rfl|rfl|rfl|rfl|rfl|rfl|rfl|rfl|rfl
 ·rfl
 ·show(wrap .u32 (a+wrap .u32 (0-b)),true)=(wrap .u32 (a-b),true)
  rw[sub]
 ·rfl
 ·rfl
 ·rfl
 ·rfl
 ·rfl
 ·rfl
 ·rfl
 ·show((LH a b).1,true)=((LI a b).1,true)
  rw[d]
 ·show((LH a b).2,true)=((LI a b).2,true)
  rw[d]
 all_goals rfl
theorem XM{P:Nat}{m:List Int}(h:ep P m){c:bh}(hc:iy c)(jQ:c.B4.a0<=31){va:Int}(hv:U va){size:Int}(hs:size=1\/size=4){access:Int}(ha:access=1\/access=2\/access=3):rW c m va size access=((lF c m va size access).1,(lF c m va size access).2.2,(lF c m va size access).2.1):=by
 have gn:jD m=m:=rfl
 have kn:LC access=true:=by rcases ha with rfl|rfl|rfl<;>rfl
 have ca:Qsh access=(tK access,true):=by rcases ha with rfl|rfl|rfl<;>rfl
 have pg:=Z89 hc.a0.1 jQ
 have wk:=vj h hc.a6 hv ha
 have tc:Oz m (AN m c.B4.a6 va access).F3 access=TF m (AN m c.B4.a6 va access).F3 access:=Zor h (Tree.pp (xab h hc.a6 hv access)).2.2.1 access
 have sz:(bif size !=1 then bif size !=4 then false else true else true)=true:=by rcases hs with rfl|rfl<;>rfl
 simp only[rW,LK,lF,G0,Tree.m,dd,gn,kn,ca,pg,wk,tc,Qo h hv hs,XK]
 rcases hs with rfl|rfl<;>
 ·show(bif _ then _ else _)=_
  cases dE va _ !=0<;>cases GZ c<;>cases bf .u32 c.B4.a0 4 !=0<;>cases(AN m c.B4.a6 va access).F0 !=0<;>cases rV m va _<;>rfl
theorem XN{α:Type}{Q:α->Prop}{c:Bool}{x y:α}(hx:Q x)(hy:Q y):Q (cond c x y):=by cases c<;>assumption
theorem xao(m:List Int)(root:Int){va:Int}(hv:U va)(access:Int):(AN m root va access).F0=0->(AN m root va access).Addr%4=va%4:=by
 have hc:tK access≠0:=by
   simp only[tK,LM,Tree.m]
   cases access==1<;>cases access==3<;>simp
 have q :(λt:rM=>t.F0=0->t.Addr%4=va%4) (AN m root va access):=by
   simp only[AN,GY,Tree.m,dd]
   repeat'(first
     |exact λe=>absurd e hc
     | (intro _
        show wrap .u32 (wrap .u32 (_*128)+dE va 128)%4=va%4
        rw[eF hv.1,wrap_u32,wrap_u32];omega)
     |refine XN (Q:=λt:rM=>t.F0=0->t.Addr%4=va%4) ?_ ?_)
 exact q
theorem vK{c:bh}{m:List Int}{va:Int}(hv:U va){size:Int}(hs:size=1\/size=4){access:Int}(ha:access=1\/access=2\/access=3):(lF c m va size access).2.1=0->(lF c m va size access).1%size=0:=by
 have kn:LC access=true:=by rcases ha with rfl|rfl|rfl<;>rfl
 have hc:tK access≠0:=by
  simp only[tK,LM,Tree.m]
  cases access==1<;>cases access==3<;>simp
 rcases hs with rfl|rfl
 ·intro _;omega
 simp only[lF,G0,Tree.m,dd,kn]
 show(bif dE va 4 !=0 then((0:Int),(3:Int),m)else _).2.1=0->(bif dE va 4 !=0 then((0:Int),(3:Int),m)else _).1%4=0
 rw[eF hv.1]
 cases hz:va%4 !=0
 ·have hz:va%4=0:=by simpa using hz
  have w:=xao m c.B4.a6 hv access
  cases hp:TH c
  ·cases hw:rV m va 4
   ·exactλe=>absurd e hc
   ·exactλ_=>hz
  ·cases hq:(AN m c.B4.a6 va access).F0 !=0
   ·have hq:(AN m c.B4.a6 va access).F0=0:=by simpa using hq
    exactλ_=>(w hq).trans hz
   ·have hq:¬(AN m c.B4.a6 va access).F0=0:=by simpa using hq
    exactλe=>absurd e hq
 ·intro e;cases e
def dj:kJ:={B9:=0,D0:=0,D9:=0,Value:=0}
def jL(c:bh)(m:List Int)(i:gu):bh×List Int×kJ:=
 bif i.Op==32 then((tL c m i).1,(tL c m i).2,dj)else bif i.Op==33 then((tL c m i).1,(tL c m i).2,dj)else bif i.Op==34 then((tL c m i).1,(tL c m i).2,dj)
 else bif i.Op==35 then((Cw c m i).1,(Cw c m i).2,dj)else bif i.Op==36 then((Cw c m i).1,(Cw c m i).2,dj)else((XO c i).1,m,(XO c i).2)
def db(c:bh)(r:Int):Int:=aK (iU.l c.X) r.toNat 0
def oU(c:bh)(m:List Int)(i:gu):bh×kJ×List Int:=
 bif decide (i.Op>=56)then((TL c i).1,(TL c i).2,m)else bif decide (i.Op>=40)then(Z23 c i,dj,m)else bif decide (i.Op>=32)then((G1 c m i).1,dj,(G1 c m i).2)
 else bif i.Op==24 then({X:=(lD c i.A (eg .u32 (wrap .u32 i.bn) 16)).X,Pc:=wrap .u32 ((lD c i.A (eg .u32 (wrap .u32 i.bn) 16)).Pc+4),B4:=(lD c i.A (eg .u32 (wrap .u32 i.bn) 16)).B4},dj,m)
 else bif decide (i.Op<=13)then
  ({X:=(lD c i.A (Ed i.Op (db c i.B) (db c i.C)).1).X,Pc:=wrap .u32 ((lD c i.A (Ed i.Op (db c i.B) (db c i.C)).1).Pc+4),B4:=(lD c i.A (Ed i.Op (db c i.B) (db c i.C)).1).B4},dj,m)
 else({X:=(lD c i.A (Ed i.Op (db c i.B) (wrap .u32 i.bn)).1).X,Pc:=wrap .u32 ((lD c i.A (Ed i.Op (db c i.B) (wrap .u32 i.bn)).1).Pc+4),B4:=(lD c i.A (Ed i.Op (db c i.B) (wrap .u32 i.bn)).1).B4},dj,m)
def px(op:Int):Prop:=op=1\/op=2\/op=3\/op=4\/op=5\/op=6\/op=7\/op=8\/op=9\/op=10\/op=11\/op=12\/op=13\/op=16\/op=17\/op=18\/op=19\/op=20\/op=21\/op=22\/op=23\/op=24\/op=32\/op=33\/op=34\/op=35\/op=36\/op=40\/op=41\/op=42\/op=43\/op=44\/op=45\/op=48\/op=49\/op=56\/op=57\/op=58\/op=59\/op=60\/op=61\/op=62\/op=63\/op=64
theorem zY(c:bh)(r v:Int):(lD c r v).Pc=c.Pc/\(lD c r v).B4=c.B4:=by
 simp only[lD,Jd,Tree.m]
 cases decide (r>0)
 ·exact⟨rfl,rfl⟩
 ·cases decide (r<16)<;>exact⟨rfl,rfl⟩
def Je(c:bh):bh:={X:=c.X,Pc:=wrap .u32 (c.Pc+4),B4:=c.B4}
def va(c:bh)(B bn:Int):Int:=wrap .u32 (aK (iU.l c.X) B.toNat 0+wrap .u32 bn)
def OF(c:bh)(A v size:Int)(f:Int->Int)(y:Int×List Int×Int):bh×List Int:=bif y.2.2 !=0 then(rl c y.2.2 v,y.2.1)else(Je (uz c A (f (Cu y.2.1 y.1 size).1)),y.2.1)
def OG(c:bh)(A v size:Int)(f:Int->Int)(x:Int×Int×List Int):bh×List Int:=bif x.2.1 !=0 then(pQ c x.2.1 v,x.2.2)else(Je (lD c A (f (kL x.2.2 x.1 size).1)),x.2.2)
def TM(c:bh)(A v size:Int)(y:Int×List Int×Int):bh×List Int:=bif y.2.2 !=0 then(rl c y.2.2 v,y.2.1)else(Je c,(LB y.2.1 y.1 size (aK (iU.l c.X) A.toNat 0)).1)
def TN(c:bh)(A v size:Int)(x:Int×Int×List Int):bh×List Int:=bif x.2.1 !=0 then(pQ c x.2.1 v,x.2.2)else(Je c,Bq x.2.2 x.1 size (aK (iU.l c.X) A.toNat 0))
theorem OH(c:bh)(m:List Int)(A B C bn:Int):
 (tL c m ⟨32,A,B,C,bn⟩=OF c A (va c B bn) 4 (λv=>v) (rW c m (va c B bn) 4 2)/\G1 c m ⟨32,A,B,C,bn⟩=OG c A (va c B bn) 4 (λv=>v) (lF c m (va c B bn) 4 2))/\
 (tL c m ⟨33,A,B,C,bn⟩=OF c A (va c B bn) 1 (λv=>DY v 8) (rW c m (va c B bn) 1 2)/\G1 c m ⟨33,A,B,C,bn⟩=OG c A (va c B bn) 1 (λv=>GS v 8) (lF c m (va c B bn) 1 2))/\
 (tL c m ⟨34,A,B,C,bn⟩=OF c A (va c B bn) 1 (λv=>v) (rW c m (va c B bn) 1 2)/\G1 c m ⟨34,A,B,C,bn⟩=OG c A (va c B bn) 1 (λv=>v) (lF c m (va c B bn) 1 2))/\
 (Cw c m ⟨35,A,B,C,bn⟩=TM c A (va c B bn) 4 (rW c m (va c B bn) 4 3)/\G1 c m ⟨35,A,B,C,bn⟩=TN c A (va c B bn) 4 (lF c m (va c B bn) 4 3))/\
 (Cw c m ⟨36,A,B,C,bn⟩=TM c A (va c B bn) 1 (rW c m (va c B bn) 1 3)/\G1 c m ⟨36,A,B,C,bn⟩=TN c A (va c B bn) 1 (lF c m (va c B bn) 1 3)):=
 ⟨⟨by kernel_rfl,by kernel_rfl⟩,⟨by kernel_rfl,by kernel_rfl⟩,⟨by kernel_rfl,by kernel_rfl⟩,⟨by kernel_rfl,by kernel_rfl⟩,⟨by kernel_rfl,by kernel_rfl⟩⟩
theorem qap{P:Nat}{m:List Int}(h:ep P m)(a:Int):DY (kL m a 1).1 8=GS (kL m a 1).1 8:=by
 have:∀x:Int×Bool,(∃w,U w/\x=(bf .u32 w 255,true))\/x=(0,false)->DY x.1 8=GS x.1 8:=λx hx=>by
  rcases hx with⟨w,hw,rfl⟩|rfl
  ·have e:=Cq hw
   exact sx8 (by show 0<=bf .u32 w 255;omega) (by show bf .u32 w 255<256;omega)
  ·rfl
 refine this _ ?_
 simp only[kL,AM,Tree.m,dd]
 cases rV m a 1
 ·exact .inr rfl
 ·exact .inl ⟨_,AJ (AK h.u _) _,rfl⟩
section
variable {P:Nat} {m:List Int} (h:ep P m) {c:bh} (hc:iy c) (jQ:c.B4.a0<=31)
include h hc jQ
omit jQ in
theorem XP{v:Int}(hv:U v){size:Int}(hs:size=1\/size=4)(access:Int):ep P (lF c m v size access).2.2/\U (lF c m v size access).1/\((lF c m v size access).2.1=0->(lF c m v size access).1<128*P):=(Tree.pp (TO h hc hv hs access)).2
theorem XQ{A v:Int}(hA:0<=A/\A<16)(hv:U v){size:Int}(hs:size=1\/size=4){f g:Int->Int}(hf:∀{m':List Int},ep P m'->∀a,f (kL m' a size).1=g (kL m' a size).1):OF c A v size f (rW c m v size 2)=OG c A v size g (lF c m v size 2):=by
 rw[XM h hc jQ hv hs (.inr (.inl rfl))]
 obtain⟨k,u,_⟩:=XP h hc hv hs 2
 generalize lF c m v size 2=x at*
 simp only[OF,OG,Qo k u hs,OA hc.a0.1 jQ,TJ c hA,hf k]
theorem qk{A v:Int}(hv:U v){size:Int}(hs:size=1\/size=4):TM c A v size (rW c m v size 3)=TN c A v size (lF c m v size 3):=by
 rw[XM h hc jQ hv hs (.inr (.inr rfl))]
 obtain⟨k,u,b⟩:=XP h hc hv hs 3
 have al:=vK (c:=c) (m:=m) hv hs (access:=3) (.inr (.inr rfl))
 generalize lF c m v size 3=x at*
 simp only[TM,TN,Z9t k u hs,OA hc.a0.1 jQ,Ly k u hs]
 cases hq:x.2.1 !=0
 ·have hq:x.2.1=0:=by simpa using hq
  rw[dY ⟨al hq,b hq⟩];rfl
 ·rfl
end
theorem qL(c:bh)(k v:Int):(OI c k v).Pc=c.Pc:=by
 simp only[OI,LN,Tree.m]
 repeat'(first|rfl|refine XN (Q:=λx:bh=>x.Pc=c.Pc) ?_ ?_)
def jf(c:bh)(A v p:Int):bh:={X:=(uz c A v).X,Pc:=p,B4:=(uz c A v).B4}
def Fq(c:bh)(A v p:Int):bh:={X:=(lD c A v).X,Pc:=p,B4:=(lD c A v).B4}
def jH(c:bh):Int:=wrap .u32 (c.Pc+4)
theorem OJ(c:bh){A:Int}(hA:0<=A/\A<16)(v p:Int):jf c A v p=Fq c A v p:=by
 unfold jf Fq;rw[TJ c hA]
theorem XR(c:bh)(A v:Int):Je (lD c A v)=Fq c A v (jH c):=by
 unfold Je Fq jH;rw[(zY c A v).1]
theorem LO(t:Bool)(x y:bh)(m:List Int):((bif t then(x,dj)else(y,dj)).1,m,(bif t then(x,dj)else(y,dj)).2)=((bif t then x else y),m,dj):=by cases t<;>rfl
def G2(op:Int):Bool:=decide (op=1)||decide (op=2)||decide (op=3)||decide (op=4)||decide (op=5)||decide (op=6)||decide (op=7)||decide (op=8)||decide (op=9)||decide (op=10)||decide (op=11)||decide (op=12)||decide (op=13)||decide (op=16)||decide (op=17)||decide (op=18)||decide (op=19)||decide (op=20)||decide (op=21)||decide (op=22)||decide (op=23)||decide (op=24)||decide (op=32)||decide (op=33)||decide (op=34)||decide (op=35)||decide (op=36)||decide (op=40)||decide (op=41)||decide (op=42)||decide (op=43)||decide (op=44)||decide (op=45)||decide (op=48)||decide (op=49)||decide (op=56)||decide (op=57)||decide (op=58)||decide (op=59)||decide (op=60)||decide (op=61)||decide (op=62)||decide (op=63)||decide (op=64)
section
variable {P:Nat} {m:List Int} (h:ep P m) {c:bh} (hc:iy c) (jQ:c.B4.a0<=31) {A B C bn:Int} (hA:0<=A/\A<16)
include h hc jQ hA
theorem xk{op:Int}(rQ:px op):jL c m ⟨op,A,B,C,bn⟩=((oU c m ⟨op,A,B,C,bn⟩).1,(oU c m ⟨op,A,B,C,bn⟩).2.2,(oU c m ⟨op,A,B,C,bn⟩).2.1):=by
 have py:∀{k y:Int},1<=k->k<=23->U y->((jf c A (nL k (db c B) y).1 (jH c),m,dj):bh×List Int×kJ)=(Je (lD c A (Ed k (db c B) y).1),m,dj):=λh1 h2 hy=>by
  rw[yK h1 h2 (show U (db c B) from hc.r _) hy,XR,OJ c hA]
 have uC:U (db c C):=hc.r _
 have uI:U (wrap .u32 bn):=fg _
 obtain⟨⟨l1,l2⟩,⟨l3,l4⟩,⟨l5,l6⟩,⟨l7,l8⟩,⟨l9,l10⟩⟩:=OH c m A B C bn
 have Ee:U (va c B bn):=fg _
 rcases rQ with rfl|rfl|rfl|rfl|rfl|rfl|rfl|rfl|rfl|rfl|rfl|rfl|rfl|rfl|rfl|rfl|rfl|rfl|rfl|rfl|rfl|rfl|rfl|rfl|rfl|rfl|rfl|rfl|rfl|rfl|rfl|rfl|rfl|rfl|rfl|rfl|rfl|rfl|rfl|rfl|rfl|rfl|rfl|rfl
 ·exact(show jL c m ⟨1,A,B,C,bn⟩=(jf c A (nL 1 (db c B) (db c C)).1 (jH c),m,dj) by kernel_rfl).trans ((py (by decide) (by decide) uC).trans (by kernel_rfl))
 ·exact(show jL c m ⟨2,A,B,C,bn⟩=(jf c A (nL 2 (db c B) (db c C)).1 (jH c),m,dj) by kernel_rfl).trans ((py (by decide) (by decide) uC).trans (by kernel_rfl))
 ·exact(show jL c m ⟨3,A,B,C,bn⟩=(jf c A (nL 3 (db c B) (db c C)).1 (jH c),m,dj) by kernel_rfl).trans ((py (by decide) (by decide) uC).trans (by kernel_rfl))
 ·exact(show jL c m ⟨4,A,B,C,bn⟩=(jf c A (nL 4 (db c B) (db c C)).1 (jH c),m,dj) by kernel_rfl).trans ((py (by decide) (by decide) uC).trans (by kernel_rfl))
 ·exact(show jL c m ⟨5,A,B,C,bn⟩=(jf c A (nL 5 (db c B) (db c C)).1 (jH c),m,dj) by kernel_rfl).trans ((py (by decide) (by decide) uC).trans (by kernel_rfl))
 ·exact(show jL c m ⟨6,A,B,C,bn⟩=(jf c A (nL 6 (db c B) (db c C)).1 (jH c),m,dj) by kernel_rfl).trans ((py (by decide) (by decide) uC).trans (by kernel_rfl))
 ·exact(show jL c m ⟨7,A,B,C,bn⟩=(jf c A (nL 7 (db c B) (db c C)).1 (jH c),m,dj) by kernel_rfl).trans ((py (by decide) (by decide) uC).trans (by kernel_rfl))
 ·exact(show jL c m ⟨8,A,B,C,bn⟩=(jf c A (nL 8 (db c B) (db c C)).1 (jH c),m,dj) by kernel_rfl).trans ((py (by decide) (by decide) uC).trans (by kernel_rfl))
 ·exact(show jL c m ⟨9,A,B,C,bn⟩=(jf c A (nL 9 (db c B) (db c C)).1 (jH c),m,dj) by kernel_rfl).trans ((py (by decide) (by decide) uC).trans (by kernel_rfl))
 ·exact(show jL c m ⟨10,A,B,C,bn⟩=(jf c A (nL 10 (db c B) (db c C)).1 (jH c),m,dj) by kernel_rfl).trans ((py (by decide) (by decide) uC).trans (by kernel_rfl))
 ·exact(show jL c m ⟨11,A,B,C,bn⟩=(jf c A (nL 11 (db c B) (db c C)).1 (jH c),m,dj) by kernel_rfl).trans ((py (by decide) (by decide) uC).trans (by kernel_rfl))
 ·exact(show jL c m ⟨12,A,B,C,bn⟩=(jf c A (nL 12 (db c B) (db c C)).1 (jH c),m,dj) by kernel_rfl).trans ((py (by decide) (by decide) uC).trans (by kernel_rfl))
 ·exact(show jL c m ⟨13,A,B,C,bn⟩=(jf c A (nL 13 (db c B) (db c C)).1 (jH c),m,dj) by kernel_rfl).trans ((py (by decide) (by decide) uC).trans (by kernel_rfl))
 ·exact(show jL c m ⟨16,A,B,C,bn⟩=(jf c A (nL 16 (db c B) (wrap .u32 bn)).1 (jH c),m,dj) by kernel_rfl).trans ((py (by decide) (by decide) uI).trans (by kernel_rfl))
 ·exact(show jL c m ⟨17,A,B,C,bn⟩=(jf c A (nL 17 (db c B) (wrap .u32 bn)).1 (jH c),m,dj) by kernel_rfl).trans ((py (by decide) (by decide) uI).trans (by kernel_rfl))
 ·exact(show jL c m ⟨18,A,B,C,bn⟩=(jf c A (nL 18 (db c B) (wrap .u32 bn)).1 (jH c),m,dj) by kernel_rfl).trans ((py (by decide) (by decide) uI).trans (by kernel_rfl))
 ·exact(show jL c m ⟨19,A,B,C,bn⟩=(jf c A (nL 19 (db c B) (wrap .u32 bn)).1 (jH c),m,dj) by kernel_rfl).trans ((py (by decide) (by decide) uI).trans (by kernel_rfl))
 ·exact(show jL c m ⟨20,A,B,C,bn⟩=(jf c A (nL 20 (db c B) (wrap .u32 bn)).1 (jH c),m,dj) by kernel_rfl).trans ((py (by decide) (by decide) uI).trans (by kernel_rfl))
 ·exact(show jL c m ⟨21,A,B,C,bn⟩=(jf c A (nL 21 (db c B) (wrap .u32 bn)).1 (jH c),m,dj) by kernel_rfl).trans ((py (by decide) (by decide) uI).trans (by kernel_rfl))
 ·exact(show jL c m ⟨22,A,B,C,bn⟩=(jf c A (nL 22 (db c B) (wrap .u32 bn)).1 (jH c),m,dj) by kernel_rfl).trans ((py (by decide) (by decide) uI).trans (by kernel_rfl))
 ·exact(show jL c m ⟨23,A,B,C,bn⟩=(jf c A (nL 23 (db c B) (wrap .u32 bn)).1 (jH c),m,dj) by kernel_rfl).trans ((py (by decide) (by decide) uI).trans (by kernel_rfl))
 ·refine(show jL c m ⟨24,A,B,C,bn⟩=(jf c A (eg .u32 (wrap .u32 bn) 16) (jH c),m,dj) by kernel_rfl).trans ?_
  rw[OJ c hA,<-XR];kernel_rfl
 ·have e:=XQ h hc jQ hA Ee (.inr rfl) (f:=λv=>v) (g:=λv=>v) (λ_ _=>rfl)
  rw[<-l1,<-l2]at e
  refine(show jL c m ⟨32,A,B,C,bn⟩=((tL c m ⟨32,A,B,C,bn⟩).1,(tL c m ⟨32,A,B,C,bn⟩).2,dj) by kernel_rfl).trans ?_
  rw[e];kernel_rfl
 ·have e:=XQ h hc jQ hA Ee (.inl rfl) (f:=λv=>DY v 8) (g:=λv=>GS v 8) (λhm a=>qap hm a)
  rw[<-l3,<-l4]at e
  refine(show jL c m ⟨33,A,B,C,bn⟩=((tL c m ⟨33,A,B,C,bn⟩).1,(tL c m ⟨33,A,B,C,bn⟩).2,dj) by kernel_rfl).trans ?_
  rw[e];kernel_rfl
 ·have e:=XQ h hc jQ hA Ee (.inl rfl) (f:=λv=>v) (g:=λv=>v) (λ_ _=>rfl)
  rw[<-l5,<-l6]at e
  refine(show jL c m ⟨34,A,B,C,bn⟩=((tL c m ⟨34,A,B,C,bn⟩).1,(tL c m ⟨34,A,B,C,bn⟩).2,dj) by kernel_rfl).trans ?_
  rw[e];kernel_rfl
 ·have e:=qk h hc jQ (A:=A) Ee (.inr rfl)
  rw[<-l7,<-l8]at e
  refine(show jL c m ⟨35,A,B,C,bn⟩=((Cw c m ⟨35,A,B,C,bn⟩).1,(Cw c m ⟨35,A,B,C,bn⟩).2,dj) by kernel_rfl).trans ?_
  rw[e];kernel_rfl
 ·have e:=qk h hc jQ (A:=A) Ee (.inl rfl)
  rw[<-l9,<-l10]at e
  refine(show jL c m ⟨36,A,B,C,bn⟩=((Cw c m ⟨36,A,B,C,bn⟩).1,(Cw c m ⟨36,A,B,C,bn⟩).2,dj) by kernel_rfl).trans ?_
  rw[e];kernel_rfl
 ·exact(show jL c m ⟨40,A,B,C,bn⟩=((bif(rp 40 (db c A) (db c B))then((⟨c.X,wrap .u32 (c.Pc+wrap .u32 (4*wrap .u32 bn)),c.B4⟩:bh),dj)else(⟨c.X,jH c,c.B4⟩,dj)).1,m,(bif(rp 40 (db c A) (db c B))then((⟨c.X,wrap .u32 (c.Pc+wrap .u32 (4*wrap .u32 bn)),c.B4⟩:bh),dj)else(⟨c.X,jH c,c.B4⟩,dj)).2) by kernel_rfl).trans ((LO (rp 40 (db c A) (db c B)) ⟨c.X,wrap .u32 (c.Pc+wrap .u32 (4*wrap .u32 bn)),c.B4⟩ ⟨c.X,jH c,c.B4⟩ m).trans (by kernel_rfl))
 ·exact(show jL c m ⟨41,A,B,C,bn⟩=((bif(rp 41 (db c A) (db c B))then((⟨c.X,wrap .u32 (c.Pc+wrap .u32 (4*wrap .u32 bn)),c.B4⟩:bh),dj)else(⟨c.X,jH c,c.B4⟩,dj)).1,m,(bif(rp 41 (db c A) (db c B))then((⟨c.X,wrap .u32 (c.Pc+wrap .u32 (4*wrap .u32 bn)),c.B4⟩:bh),dj)else(⟨c.X,jH c,c.B4⟩,dj)).2) by kernel_rfl).trans ((LO (rp 41 (db c A) (db c B)) ⟨c.X,wrap .u32 (c.Pc+wrap .u32 (4*wrap .u32 bn)),c.B4⟩ ⟨c.X,jH c,c.B4⟩ m).trans (by kernel_rfl))
 ·exact(show jL c m ⟨42,A,B,C,bn⟩=((bif(rp 42 (db c A) (db c B))then((⟨c.X,wrap .u32 (c.Pc+wrap .u32 (4*wrap .u32 bn)),c.B4⟩:bh),dj)else(⟨c.X,jH c,c.B4⟩,dj)).1,m,(bif(rp 42 (db c A) (db c B))then((⟨c.X,wrap .u32 (c.Pc+wrap .u32 (4*wrap .u32 bn)),c.B4⟩:bh),dj)else(⟨c.X,jH c,c.B4⟩,dj)).2) by kernel_rfl).trans ((LO (rp 42 (db c A) (db c B)) ⟨c.X,wrap .u32 (c.Pc+wrap .u32 (4*wrap .u32 bn)),c.B4⟩ ⟨c.X,jH c,c.B4⟩ m).trans (by kernel_rfl))
 ·exact(show jL c m ⟨43,A,B,C,bn⟩=((bif(rp 43 (db c A) (db c B))then((⟨c.X,wrap .u32 (c.Pc+wrap .u32 (4*wrap .u32 bn)),c.B4⟩:bh),dj)else(⟨c.X,jH c,c.B4⟩,dj)).1,m,(bif(rp 43 (db c A) (db c B))then((⟨c.X,wrap .u32 (c.Pc+wrap .u32 (4*wrap .u32 bn)),c.B4⟩:bh),dj)else(⟨c.X,jH c,c.B4⟩,dj)).2) by kernel_rfl).trans ((LO (rp 43 (db c A) (db c B)) ⟨c.X,wrap .u32 (c.Pc+wrap .u32 (4*wrap .u32 bn)),c.B4⟩ ⟨c.X,jH c,c.B4⟩ m).trans (by kernel_rfl))
 ·exact(show jL c m ⟨44,A,B,C,bn⟩=((bif(rp 44 (db c A) (db c B))then((⟨c.X,wrap .u32 (c.Pc+wrap .u32 (4*wrap .u32 bn)),c.B4⟩:bh),dj)else(⟨c.X,jH c,c.B4⟩,dj)).1,m,(bif(rp 44 (db c A) (db c B))then((⟨c.X,wrap .u32 (c.Pc+wrap .u32 (4*wrap .u32 bn)),c.B4⟩:bh),dj)else(⟨c.X,jH c,c.B4⟩,dj)).2) by kernel_rfl).trans ((LO (rp 44 (db c A) (db c B)) ⟨c.X,wrap .u32 (c.Pc+wrap .u32 (4*wrap .u32 bn)),c.B4⟩ ⟨c.X,jH c,c.B4⟩ m).trans (by kernel_rfl))
 ·exact(show jL c m ⟨45,A,B,C,bn⟩=((bif(rp 45 (db c A) (db c B))then((⟨c.X,wrap .u32 (c.Pc+wrap .u32 (4*wrap .u32 bn)),c.B4⟩:bh),dj)else(⟨c.X,jH c,c.B4⟩,dj)).1,m,(bif(rp 45 (db c A) (db c B))then((⟨c.X,wrap .u32 (c.Pc+wrap .u32 (4*wrap .u32 bn)),c.B4⟩:bh),dj)else(⟨c.X,jH c,c.B4⟩,dj)).2) by kernel_rfl).trans ((LO (rp 45 (db c A) (db c B)) ⟨c.X,wrap .u32 (c.Pc+wrap .u32 (4*wrap .u32 bn)),c.B4⟩ ⟨c.X,jH c,c.B4⟩ m).trans (by kernel_rfl))
 ·refine(show jL c m ⟨48,A,B,C,bn⟩=(jf c A (jH c) (wrap .u32 ((uz c A (jH c)).Pc+wrap .u32 (4*wrap .u32 bn))),m,dj) by kernel_rfl).trans ?_
  rw[OJ c hA,TJ c hA,(zY c A (jH c)).1];kernel_rfl
 ·refine(show jL c m ⟨49,A,B,C,bn⟩=(jf c A (jH c) (va c B bn),m,dj) by kernel_rfl).trans ?_
  rw[OJ c hA];kernel_rfl
 ·refine(show jL c m ⟨56,A,B,C,bn⟩=(rl c 7 0,m,dj) by kernel_rfl).trans ?_
  rw[OA hc.a0.1 jQ];kernel_rfl
 ·refine(show jL c m ⟨57,A,B,C,bn⟩=(Lq c,m,dj) by kernel_rfl).trans ?_
  rw[Zlo hc.a0.1 jQ];kernel_rfl
 ·refine(show jL c m ⟨58,A,B,C,bn⟩=(jf c A (aK (A8.l c.B4) bn.toNat 0) (jH c),m,dj) by kernel_rfl).trans ?_
  rw[OJ c hA,<-XR];kernel_rfl
 ·have e:=qL c (wrap .i64 bn) (db c A)
  refine(show jL c m ⟨59,A,B,C,bn⟩=((⟨(OI c (wrap .i64 bn) (db c A)).X,wrap .u32 (c.Pc+4),(OI c (wrap .i64 bn) (db c A)).B4⟩:bh),m,dj) by kernel_rfl).trans ?_
  rw[<-e];kernel_rfl
 ·exact(show jL c m ⟨60,A,B,C,bn⟩=((oU c m ⟨60,A,B,C,bn⟩).1,(oU c m ⟨60,A,B,C,bn⟩).2.2,(oU c m ⟨60,A,B,C,bn⟩).2.1) by kernel_rfl)
 ·exact(show jL c m ⟨61,A,B,C,bn⟩=((oU c m ⟨61,A,B,C,bn⟩).1,(oU c m ⟨61,A,B,C,bn⟩).2.2,(oU c m ⟨61,A,B,C,bn⟩).2.1) by kernel_rfl)
 ·exact(show jL c m ⟨62,A,B,C,bn⟩=((oU c m ⟨62,A,B,C,bn⟩).1,(oU c m ⟨62,A,B,C,bn⟩).2.2,(oU c m ⟨62,A,B,C,bn⟩).2.1) by kernel_rfl)
 ·exact(show jL c m ⟨63,A,B,C,bn⟩=((oU c m ⟨63,A,B,C,bn⟩).1,(oU c m ⟨63,A,B,C,bn⟩).2.2,(oU c m ⟨63,A,B,C,bn⟩).2.1) by kernel_rfl)
 ·exact(show jL c m ⟨64,A,B,C,bn⟩=((oU c m ⟨64,A,B,C,bn⟩).1,(oU c m ⟨64,A,B,C,bn⟩).2.2,(oU c m ⟨64,A,B,C,bn⟩).2.1) by kernel_rfl)
end
theorem zap{op:Int}(h0:0<=op)(h1:op<256)(h:oR op≠0):px op:=by
 have e:=oY (Fp (λop=>decide (oR op=0\/G2 op=true)) 256 (by kernel_rfl) h0 h1)
 rcases e with e|e
 ·exact absurd e h
 ·simpa only[G2,px,aI,decide_eq_true_eq,or_assoc]using e
theorem zk{op:Int}(o:px op):1<=op/\op<=64:=by
 unfold px at o
 rcases o with h|h|h|h|h|h|h|h|h|h|h|h|h|h|h|h|h|h|h|h|h|h|h|h|h|h|h|h|h|h|h|h|h|h|h|h|h|h|h|h|h|h|h|h<;>(rw[h];decide)
theorem yk{w:Int}(hw:U w):(rm w).2=true->px (rm w).1.Op:=by
 have uv:bg .u32 w 24=w/16777216:=by have:=DT (a:=w) 24 (by decide);simpa using this
 obtain⟨w0,w1⟩:=hw
 have eo:wrap .i64 (w/16777216)=w/16777216:=DM (by omega) (by omega)
 have q:(λr:gu×Bool=>r.2=true->px r.1.Op) (rm w):=by
  simp only[rm,Q6,Tree.m,dd,uv,eo]
  cases hf:oR (w/16777216)==0
  ·have g:px (w/16777216):=zap (by omega) (by omega) (by simpa using hf)
   repeat'(first
    |exactλ_=>g
    |exactλe=>eZ (show false=true from e)
    |refine XN (Q:=λr:gu×Bool=>r.2=true->px r.1.Op) ?_ ?_)
  ·exactλe=>eZ (show false=true from e)
 exact q
section
variable (c:bh) (m:List Int)
def Ef(x:Int×Int×List Int)(w:Int)(d:gu×Bool):bh×kJ×List Int:=
 bif x.2.1 !=0 then(pQ c x.2.1 c.Pc,dj,x.2.2)else bif !d.2 then(pQ c 1 w,dj,x.2.2)else bif GR d.1.Op then(bif bf .u32 c.B4.a0 1==0 then(pQ c 2 w,dj,x.2.2)else oU c x.2.2 d.1)else oU c x.2.2 d.1
def OK(y:Int×List Int×Int)(d:gu×Bool):bh×List Int×kJ:=
 bif y.2.2 !=0 then(rl c y.2.2 c.Pc,y.2.1,dj)else bif !d.2 then(rl c 1 y.1,y.2.1,dj)else bif Ot d.1.Op then(bif !GZ c then(rl c 2 y.1,y.2.1,dj)else jL c y.2.1 d.1)else jL c y.2.1 d.1
theorem G3:pR c m=Ef c (lF c m c.Pc 4 1) (kL (lF c m c.Pc 4 1).2.2 (lF c m c.Pc 4 1).1 4).1 (rm (kL (lF c m c.Pc 4 1).2.2 (lF c m c.Pc 4 1).1 4).1):=by kernel_rfl
theorem xap:wJ c m=OK c (TP c m) (Ow (TP c m).1):=by kernel_rfl
theorem xL:TP c m=bif(rW c m c.Pc 4 1).2.2 !=0 then(0,(rW c m c.Pc 4 1).2.1,(rW c m c.Pc 4 1).2.2)else((Cu (rW c m c.Pc 4 1).2.1 (rW c m c.Pc 4 1).1 4).1,(rW c m c.Pc 4 1).2.1,0):=by kernel_rfl
end
theorem Zer{P:Nat}{m:List Int}(h:ep P m){c:bh}(hc:iy c)(jQ:c.B4.a0<=31):wJ c m=((pR c m).1,(pR c m).2.2,(pR c m).2.1):=by
 obtain⟨k,u,b⟩:=XP h hc hc.pc (.inr rfl) 1
 have tr:∀k b,rl c k b=pQ c k b:=OA hc.a0.1 jQ
 rw[xap,G3,xL,XM h hc jQ hc.pc (.inr rfl) (.inl rfl)]
 generalize lF c m c.Pc 4 1=x at*
 cases hx:x.2.1 !=0
 ·rw [Qo k u (.inr rfl)]
  have hw:U (kL x.2.2 x.1 4).1:=(Tree.pp (OL k u (.inr rfl))).2
  generalize(kL x.2.2 x.1 4).1=w at*
  show OK c (w,x.2.2,0) (Ow w)=_
  rw[xi hw]
  have o:=yk hw
  have i:=Tree.post _ (Znr w)
  change(rm w).2=true->sM (rm w).1 at i
  generalize rm w=d at*
  obtain⟨⟨op,A,B,C,bn⟩,ok⟩:=d
  cases ok
  ·simp only[OK,Ef,hx,tr];rfl
  ·have o:px op:=o rfl
   have i:=i rfl
   have p:=xk (C:=C) (B:=B) (bn:=bn) k hc jQ i.a o
   have pv:Ot op=GR op:=zam (by have:=zk o;omega) (by have:=zk o;omega)
   have kn:(!GZ c)=(bf .u32 c.B4.a0 1==0):=by
    show(!(!(bf .u32 c.B4.a0 1==0)))=_
    exact Bool.not_not _
   simp only[OK,Ef,hx,tr,pv,kn,p]
   cases GR op
   ·rfl
   ·cases bf .u32 c.B4.a0 1==0<;>rfl
 ·simp only[OK,Ef,hx,cond_true,tr]
theorem vk{a b:Int}:decide (a>=b)=!decide (a<b):=by
 by_cases h:a<b
 ·rw[dY h,dN (by omega)];rfl
 ·rw[dN h,dY (by omega)];rfl
def bits(g:Int)(l:List Nat)(s:Int):Int:=l.foldl (λ(a:Int) (i:Nat)=>wrap .i64 (a+wrap .i64 (bf .u32 (bg .u32 g (i:Int)) 1))) s
theorem zL(b:gv):LP b=bits b.C2 [0,1,2,3,4,5,6,7,8,9,10,11,12,13,14,15,16,17,18,19,20,21,22,23,24,25,26,27,28,29,30,31] 0:=by kernel_rfl
theorem zaJ{g:Int}(hg:U g){i:Nat}(hi:i<=32):wrap .i64 (bf .u32 (bg .u32 g (i:Int)) 1)=g/2^i%2:=by
 rw[Fs (AJ hg _),DT i hi]
 have:0<=g/2^i%2/\g/2^i%2<2:=by omega
 exact DM (by omega) (by omega)
theorem yL{g:Int}(hg:U g)(l:List Nat):∀s:Int,(∀i∈l,i<=32)->0<=s->s+l.length<=1000->bits g l s=s+(l.map λi=>g/2^i%2).sum:=by
 induction l with
 |nil=>intro s _ _ _;simp[bits]
 |cons i l ih=>
  intro s hl h0 h1
  have h1:s+(l.length+1)<=1000:=by simpa using h1
  have hb:0<=g/2^i%2/\g/2^i%2<2:=by omega
  have e:bits g (i::l) s=bits g l (s+g/2^i%2):=by
   show bits g l (wrap .i64 (s+wrap .i64 (bf .u32 (bg .u32 g (i:Int)) 1)))=_
   rw[zaJ hg (hl i (by simp)),DM (by omega) (by omega)]
  rw[e,ih _ (λj hj=>hl j (by simp[hj])) (by omega) (by omega)]
  simp;omega
theorem Zpg(n:ia)(port:Int):Lo n port=OM n port:=by
 simp only[Lo,Om,OM,ON,Tree.m]
 cases n.C5<;>cases n.B5<;>rfl
theorem Z5v(t:iW):tI t=TQ t:=by
 simp only[tI,Tn,TQ,XS,Tree.m]
 cases t.D3<;>cases t.D2<;>rfl
theorem Zik(n:ia)(p:Int):pw n p=TR n p:=by
 simp only[pw,Le,TR,XT,Tree.m]
 cases n.C5<;>cases n.B5<;>rfl
theorem Zdb(d:fp)(p:Int):kd d p=TS d p:=by
  simp only[kd,wG,Og,IX,TS,XU,Tree.m,dd,vk]
  cases decide (d.ae>64)
  . by_cases s:d.B7=0\/d.B7=1\/d.B7=2\/d.B7=3
    . rcases s with s|s|s|s<;>rw[s]
      . rfl
      . by_cases c1:d.D6=1
        . rw[c1];cases decide (d.B6<d.ae)<;>cases decide (wrap .i64 d.B2<p)<;>cases decide (d.B8=[])<;>rfl
        . by_cases c2:d.D6=2
          . rw[c2];cases decide (d.B6<d.ae)<;>cases decide (wrap .i64 d.B2<p)<;>cases(d.B8.length:Int)==128<;>rfl
          . rw[show(d.D6==1)=false by simpa using c1,show(d.D6==2)=false by simpa using c2]
            cases decide (d.B6<d.ae)<;>cases decide (wrap .i64 d.B2<p)<;>rfl
      . rfl
      . rfl
    . rw[show(d.B7==0)=false by simp;omega,show(d.B7==1)=false by simp;omega,show(d.B7==2)=false by simp;omega,show(d.B7==3)=false by simp;omega]
      by_cases n:d.B7<0
      . rw[dY n];rfl
      . rw[dN n,dY (show d.B7>3 by omega)];rfl
  . rfl
theorem vL(c:iV):TT c=TU c:=by
 show(!decide (c.D1=[]))=decide ((c.D1.length:Int)>0)
 cases c.D1 with
 |nil=>rfl
 |cons a l=>rw[dN (by simp),dY (by simp)];rfl
theorem qaq(k:List UInt8):decide (k=[])=((k.length:Int)==0):=by
 cases k with
 |nil=>rfl
 |cons a l=>
  rw[dN (by simp)]
  exact(beq_eq_false_iff_ne.2 (by simp;omega)).symm
theorem Zpp(c:iV)(port:Int):XV c port=Jf c port:=by
 simp only[XV,IZ,Jf,G4,Tree.m,qaq]
 cases port==0
 ·rfl
 ·cases(c.D1.length:Int)==0<;>rfl
theorem qM(t:iW)(v:Int):Oh t v=OO v:=by
 simp only[Oh,Tm,OO,OP,Tree.m]
 cases h:v==0
 ·rw[show(v !=0)=true by simp only[bne,h];rfl];rfl
 ·rw[show(v !=0)=false by simp only[bne,h];rfl,eq_of_beq h];rfl
section
variable {P:Nat} {m:List Int} (h:ep P m)
include h
theorem Z83(f:Int):IV m f=Q2 m f:=by
 have a:=rT h
 have b:=DZ h
 simp only[IV,Oa,Q2,OQ,Tree.m,dd,a,b]
theorem Za6(f:Int):GG m f=Q2 m f:=by
 have a:=rT h
 have b:=DZ h
 simp only[GG,Ob,Q2,OQ,Tree.m,dd,a,b]
theorem Zfn(d:fp)(port v dh:Int):XW d m port v dh=OR d m port v dh:=by
  have pg:=Z83 h
  have pa:=Zfc h
  have rq: ∀d a,XX d a=XY d a:=λ_ _=>rfl
  simp only[XW,Lg,Qw9,Lf,OR,G5,Tree.m,dd,pg,pa,rq]
  cases port==4
  . cases port==5
    . cases h6:port==6
      . rw[show(port !=6)=true by simp only[bne,h6];rfl];rfl
      . rw [show(port !=6)=false by simp only[bne,h6];rfl]
        by_cases v1:v=1
        . subst v1
          cases hs:d.B7==0
          . rw[show(d.B7 !=0)=true by simp only[bne,hs];rfl];rfl
          . rw[show(d.B7 !=0)=false by simp only[bne,hs];rfl];rfl
        . by_cases v2:v=2
          . subst v2
            cases hs:d.B7==0
            . rw[show(d.B7 !=0)=true by simp only[bne,hs];rfl];rfl
            . rw[show(d.B7 !=0)=false by simp only[bne,hs];rfl];rfl
          . rw[show(v==1)=false by simpa using v1,show(v==2)=false by simpa using v2]
            cases v==0
            . rfl
            . have:Lh d=(bif d.B7==2 then true else d.B7==3):=rfl
              rw[this]
              cases d.B7==2<;>cases d.B7==3<;>rfl
    . rfl
  . rfl
theorem Zj6(n:ia)(port v dh:Int):XZ n m port v dh=TV n m port v dh:=by
  have pg:=Za6 h
  have pa:=Zfc h
  simp only[XZ,Lj,Zc0,Li,TV,LQ,Tree.m,dd,pg,pa]
  have g1:decide (n.E0>=1)=!decide (n.E0<1):=vk
  have g2:decide (n.E0<=128)=!decide (n.E0>128):=by
    by_cases h:n.E0>128
    . rw[dY h,dN (by omega)];rfl
    . rw[dN h,dY (by omega)];rfl
  rw[g1,g2]
  cases port==7
  . cases port==8
    . cases h9:port==9
      . rw[show(port !=9)=true by simp only[bne,h9];rfl];rfl
      . rw [show(port !=9)=false by simp only[bne,h9];rfl]
        by_cases v1:v=1
        . subst v1
          cases decide (n.E0<1)<;>cases decide (n.E0>128)<;>cases Q2 m n.Frame<;>rfl
        . by_cases v2:v=2
          . subst v2;rfl
          . rw[show(v==1)=false by simpa using v1,show(v==2)=false by simpa using v2]
            cases v==0<;>rfl
    . rfl
  . rfl
theorem Zd{d:fp}(hd:ox d)(e:gx):X0 d m e=((Jg d m e).1,(Jg d m e).2.2,(Jg d m e).2.1):=by
 have gn:jD m=m:=rfl
 have pg:=Z83 h d.B2
 have lp:decide ((e.C9.length:Int)>0)=!decide (e.C9=[]):=by
  cases e.C9 with
  |nil=>rfl
  |cons a l=>rw[dY (by simp),dN (by simp)];rfl
 have bad:(e.C9.length:Int)≠128->Q2 m d.B2=true->Ec m (wrap .i64 d.B2) e.C9=(m,false):=λhl hp=>by
  rw[Ft h hd.ib]at hp
  have hp:=oY hp
  have h1:=hd.ib.1
  have h3:=h.p2
  have ew:i64.wrap d.B2=d.B2:=DM (by omega) (by omega)
  simp only[Ec,GB,Tree.m,dd,gn,ew,Tz h,dY (⟨h1,hp⟩:0<=d.B2/\d.B2<P),show((e.C9.length:Int) !=128)=true by simpa using hl]
  rfl
 have ey:(e.C9.length:Int)=128->Q2 m d.B2=true->Ec m (wrap .i64 d.B2) e.C9=(Ox m (wrap .i64 d.B2) e.C9,true):=λhl hp=>by
  rw[Ft h hd.ib]at hp
  have hp:=oY hp
  have h1:=hd.ib.1
  have h3:=h.p2
  have ew:i64.wrap d.B2=d.B2:=DM (by omega) (by omega)
  rw[ew];exact Zhz h h1 hp (by omega)
 simp only[X0,Lc,Jg,G6,Tree.m,dd,gn,pg,lp]
 cases d.B7 !=1
 ·cases e.B9 !=4
  ·cases decide (e.N>1)
   ·cases e.N==1
    ·cases decide (e.C9=[])<;>rfl
    ·cases hc:d.D6==1
     ·cases decide (e.C9=[])<;>rfl
     ·by_cases hl:(e.C9.length:Int)=128
      ·rw[show((e.C9.length:Int) !=128)=false by simpa using hl]
       cases hp:Q2 m d.B2
       ·rfl
       ·rw[ey hl hp];rfl
      ·rw[show((e.C9.length:Int) !=128)=true by simpa using hl]
       cases hp:Q2 m d.B2
       ·rfl
       ·rw[bad hl hp];rfl
   ·rfl
  ·rfl
 ·rfl
theorem Zfu{n:ia}(hn:pr n)(frame:List UInt8):X1 n m frame=((LR n m frame).1,(LR n m frame).2.2,(LR n m frame).2.1):=by
  have gn:jD m=m:=rfl
  have pg:=Za6 h n.C0
  simp only[X1,Ld,LR,LS,Tree.m,dd,gn,pg]
  cases !n.C5
  . cases decide ((frame.length:Int)<1)
    . cases hf:decide ((frame.length:Int)>128)
      . cases hp:Q2 m n.C0
        . rfl
        . rw[Ft h hn.buffer]at hp
          have hp:=oY hp
          have h1:=hn.buffer.1
          have h3:=h.p2
          have ew:i64.wrap n.C0=n.C0:=DM (by omega) (by omega)
          have hf:=oN hf
          obtain⟨b1,b2⟩:=(Tree.pp (zj h h1 hp)).2
          change AL m n.C0 (Eb m n.C0).1 at b1
          have tk:dB (dF ((Eb m n.C0).1.length:Int)-dF (frame.length:Int)) (dC (dF (frame.length:Int)) (Eb m n.C0).1)=(Eb m n.C0).1.drop frame.length:=by
            rw[eD,eD]
            exact List.take_of_length_le (by simp)
          rw[ew,tk,Zgd h h1 hp (by omega) b1]
          rfl
      . rfl
    . rfl
  . rfl
end
def X2:List UInt8:=(dD 256).map λn=>eX (n%2+n/2%2+n/4%2+n/8%2+n/16%2+n/32%2+n/64%2+n/128%2)
def pt(n:Int):Int:=((eW (X2.getD n.toNat 0):Nat):Int)
theorem xM(x:Int):X3 x=wrap .i64 (wrap .u8 (wrap .u8 (wrap .u8 (pt (bg .u32 x 24)+pt (bf .u32 (bg .u32 x 16) 255))+pt (bf .u32 (bg .u32 x 8) 255))+pt (bf .u32 x 255))):=by kernel_rfl
theorem OS{a:Int}(h0:0<=a)(h1:a<256):pt a=a%2+a/2%2+a/4%2+a/8%2+a/16%2+a/32%2+a/64%2+a/128%2:=
 eq_of_beq (Fp (λa=>pt a==a%2+a/2%2+a/4%2+a/8%2+a/16%2+a/32%2+a/64%2+a/128%2) 256 (by kernel_rfl) h0 h1)
theorem ql{g:Int}(hg:U g):bits g [0,1,2,3,4,5,6,7,8,9,10,11,12,13,14,15,16,17,18,19,20,21,22,23,24,25,26,27,28,29,30,31] 0=pt (g%256)+pt (g/256%256)+pt (g/65536%256)+pt (g/16777216):=by
 rw[yL hg _ 0 (by decide) (by decide) (by decide),OS (by omega) (by omega),OS (by omega) (by omega),OS (by omega) (by omega),OS (by have:=hg.1;omega) (by have:=hg.2;omega)]
 obtain⟨g0,g1⟩:=hg
 simp only[List.map_cons,List.map_nil,List.sum_cons,List.sum_nil]
 have e:∀i j:Nat,∀k:Int,i<8->k=2^j->g/2^(i+j)%2=(g/k%256)/2^i%2:=λi j k hi hk=>by
  subst hk
  rw[Nat.add_comm,dR,<-fA (dQ (dO (by decide)))]
  generalize g/2^j=x
  have:i=0\/i=1\/i=2\/i=3\/i=4\/i=5\/i=6\/i=7:=by omega
  rcases this with rfl|rfl|rfl|rfl|rfl|rfl|rfl|rfl<;>simp<;>omega
 have e0:∀i:Nat,i<8->g/2^i%2=(g%256)/2^i%2:=λi hi=>by have:=e i 0 1 hi rfl;simpa using this
 have e24:g/16777216%256=g/16777216:=by omega
 rw[e0 0 (by decide),e0 1 (by decide),e0 2 (by decide),e0 3 (by decide),e0 4 (by decide),e0 5 (by decide),e0 6 (by decide),e0 7 (by decide)]
 rw[e 0 8 256 (by decide) (by decide),e 1 8 256 (by decide) (by decide),e 2 8 256 (by decide) (by decide),e 3 8 256 (by decide) (by decide),e 4 8 256 (by decide) (by decide),e 5 8 256 (by decide) (by decide),e 6 8 256 (by decide) (by decide),e 7 8 256 (by decide) (by decide)]
 rw[e 0 16 65536 (by decide) (by decide),e 1 16 65536 (by decide) (by decide),e 2 16 65536 (by decide) (by decide),e 3 16 65536 (by decide) (by decide),e 4 16 65536 (by decide) (by decide),e 5 16 65536 (by decide) (by decide),e 6 16 65536 (by decide) (by decide),e 7 16 65536 (by decide) (by decide)]
 rw[e 0 24 16777216 (by decide) (by decide),e 1 24 16777216 (by decide) (by decide),e 2 24 16777216 (by decide) (by decide),e 3 24 16777216 (by decide) (by decide),e 4 24 16777216 (by decide) (by decide),e 5 24 16777216 (by decide) (by decide),e 6 24 16777216 (by decide) (by decide),e 7 24 16777216 (by decide) (by decide),e24]
 generalize g%256=a
 generalize g/256%256=b
 generalize g/65536%256=c
 generalize g/16777216=d
 simp only[show(2:Int)^0=1 from rfl,show(2:Int)^1=2 from rfl,show(2:Int)^2=4 from rfl,show(2:Int)^3=8 from rfl,show(2:Int)^4=16 from rfl,show(2:Int)^5=32 from rfl,show(2:Int)^6=64 from rfl,show(2:Int)^7=128 from rfl,Int.ediv_one]
 omega
theorem wK{a:Int}(h0:0<=a)(h1:a<256):0<=pt a/\pt a<=8:=by rw[OS h0 h1];omega
theorem Z8r{b:gv}(hg:U b.C2):TW b=LP b/\0<=LP b/\LP b<=32:=by
 obtain⟨s8,Bp,uv⟩:=GW b.C2
 have u8:U (bg .u32 b.C2 8):=AJ hg _
 have u16:U (bg .u32 b.C2 16):=AJ hg _
 have e:TW b=X3 b.C2:=rfl
 rw[e,xM,zL,ql hg,Cq u8,Cq u16,Cq hg,s8,Bp,uv]
 obtain⟨g0,g1⟩:=hg
 have p0:=wK (a:=b.C2%256) (by omega) (by omega)
 have p1:=wK (a:=b.C2/256%256) (by omega) (by omega)
 have p2:=wK (a:=b.C2/65536%256) (by omega) (by omega)
 have p3:=wK (a:=b.C2/16777216) (by omega) (by omega)
 have w8:∀x,wrap .u8 x=x%256:=λx=>wrap_u8 x
 rw[w8,w8,w8,wrap_i64]
 omega
theorem Zhh{b:gv}(h:okB b):OT b=OU b:=by
 obtain⟨e,l0,l1⟩:=Z8r h.2
 obtain⟨t0,t1⟩:=h.1
 simp only[OT,LU,OU,Q9,Tree.m,dd,e]
 rw[wrap_u32,wrap_u64,wrap_u64,dM l0 (by omega),dM l0 (by omega),dM t0 (by omega)]
theorem Zos{b:gv}(h:okB b)(port:Int):X4 b port=Jh b port:=by
 simp only[X4,Lp,Jh,LV,Tree.m,dd,(Z8r h.2).1]
theorem zaq(g:Int)(z:Nat):g%2^(z+1)=g%2^z+2^z*(g/2^z%2):=by
 have hp:(0:Int)<2^z:=dO (by decide)
 have h1:=fB g (2^z)
 have h2:=fB (g/2^z) 2
 have h3:(g/2^z)/2=g/2^(z+1):=by rw[fC,fA (dQ hp)]
 have h4:=fB g (2^(z+1))
 rw[h3]at h2
 have h5:(2:Int)^(z+1)*(g/2^(z+1))=2^z*(2*(g/2^(z+1))):=by rw[fC,Int.mul_assoc]
 have h6:(2:Int)^z*(g/2^z)=2^z*(2*(g/2^(z+1)))+2^z*(g/2^z%2):=by rw[<-Int.mul_add,h2]
 omega
theorem xaJ{b:gv}(hg:U b.C2){P:Nat}(hP:P<=32):(LW b P).w (λr=>r=decide (b.C2<2^P)):=by
 unfold LW
 have fin:∀v:Int,0<=v->v<=32->wrap .u64 v=(v.toNat:Int):=λv h0 h1=>by rw[wrap_u64];omega
 refine ga (inv:=λz:Int=>0<=z/\z<=32/\b.C2%2^z.toNat<2^P) (μ:=TX b P) ⟨by decide,by decide,by have:(0:Int)<2^P:=dO (by decide);simpa using this⟩ (cO _) λz ⟨z0,z1,z2⟩=>?_
 refine aa (λhb=>?_) (λhb=>?_)
 ·have hb:=oY hb
  have ew:i64.wrap (z+1)=z+1:=DM (by omega) (by omega)
  have bt:bf .u32 (bg .u32 b.C2 (wrap .u64 z)) 1=b.C2/2^z.toNat%2:=by
   rw[fin z z0 z1,Fs (AJ hg _),DT _ (by omega)]
  have bp:=zaq b.C2 z.toNat
  have zt:(z+1).toNat=z.toNat+1:=by omega
  refine ba (dY (by rw[wrap_u64];omega)) ?_
  rw[bt]
  refine aa (λe=>aa (λhp=>?_) (λhp=>fh ?_)) (λe=>fh ?_)
  ·have e:=eq_of_beq e
   have hp:=oY hp
   show false=_
   refine(dN λcg=>?_).symm
   have hle:(2:Int)^P<=2^z.toNat:=by exact_mod_cast dT (show 0<2 by decide) (show P<=z.toNat by omega)
   have:b.C2/2^z.toNat=0:=Int.ediv_eq_zero_of_lt hg.1 (by omega)
   rw[this]at e;cases e
  ·have e:=eq_of_beq e
   have hp:=oN hp
   show(0<=i64.wrap (z+1)/\i64.wrap (z+1)<=32/\b.C2%2^(i64.wrap (z+1)).toNat<2^P)/\(32-i64.wrap (z+1)).toNat<(32-z).toNat
   rw[ew,zt]
   have hle:(2:Int)^(z.toNat+1)<=2^P:=by exact_mod_cast dT (show 0<2 by decide) (show z.toNat+1<=P by omega)
   have:=Int.emod_lt_of_pos b.C2 (show(0:Int)<2^(z.toNat+1) from dO (by decide))
   exact⟨⟨by omega,by omega,by omega⟩,by omega⟩
  ·have e:¬b.C2/2^z.toNat%2=1:=by simpa using e
   have e:b.C2/2^z.toNat%2=0:=by omega
   rw[e]at bp
   show(0<=i64.wrap (z+1)/\i64.wrap (z+1)<=32/\b.C2%2^(i64.wrap (z+1)).toNat<2^P)/\(32-i64.wrap (z+1)).toNat<(32-z).toNat
   rw[ew,zt,bp]
   exact⟨⟨by omega,by omega,by omega⟩,by omega⟩
 ·have hb:=oN hb
  have:z=32:=by omega
  subst this
  show true=_
  refine(dY ?_).symm
  have h2:b.C2%2^(32:Int).toNat=b.C2:=dM hg.1 hg.2
  rwa [h2]at z2
theorem Zj{b:gv}(hg:U b.C2){P:Nat}(hP:P<=32):uu b P=TY b P:=by
 have r:=(Tree.pp (xaJ hg hP)).2
 change TY b P=_ at r
 rw[r,eI,Oj hg,decide_eq_true_eq]
theorem OV:strings_Repeat [(0:UInt8)] 128=cQ 128 0:=by kernel_rfl
theorem qaK{P:Nat}{m:List Int}(hm:ep P m){b:gv}{port:Int}{v:Int}(hv:U v)(hp:v<P)(Ji:port=10)(hb:(bf .u32 (bg .u32 b.C2 v) 1==0)=true):(Br b m port v).w (λr=>r.1={C7:=b.C7,C2:=ir .u32 b.C2 (eg .u32 1 v)}/\ep P r.2/\∀k:Nat,lC r.2 k=if v*128<=k/\(k:Int)<v*128+128 then 0 else lC m k):=by
 have wC:decide (0<=v)=true:=dY hv.1
 have h2:=hm.p2
 have pg:Q2 m v=true:=by rw[Ft hm hv];exact dY hp
 obtain⟨v1,v2⟩:=hv
 subst Ji
 unfold Br
 refine aa (λ_=>ar λx0 hx=>aa (λ_=>ba wC (aa (λ_=>ba wC ?_) (λh=>by rw[hb]at h;cases h))) (λh=>by rw[hx,pg]at h;cases h)) (λh=>by cases h)
 refine ga (inv:=λz=>0<=z.1/\z.1<=32/\ep P z.2/\∀k:Nat,lC z.2 k=if v*128<=k/\(k:Int)<v*128+4*z.1 then 0 else lC m k) (μ:=X5 b m 10 v) ⟨show(0:Int)<=0 by decide,show(0:Int)<=32 by decide,hm,λk=>by rw[if_neg];show¬(_/\_<_+4*(0:Int));omega⟩ (cO _) (λz hz=>?_)
 obtain⟨z1,z2,z3,z4⟩:=hz
 have hl:=z3.len
 refine aa (λh=>?_) (λh=>⟨rfl,z3,λk=>?_⟩)
 ·have h:=oY h
  have e:wrap i64 (wrap i64 (wrap i64 v*32)+z.1)=v*32+z.1:=by rw[wrap_i64,wrap_i64,wrap_i64];omega
  refine ba (by rw[e];simp[bJ];omega) (fh ?_)
  have ew:i64.wrap (z.1+1)=z.1+1:=by rw[wrap_i64];omega
  show(0<=i64.wrap (z.1+1)/\i64.wrap (z.1+1)<=32/\ep P (dG _ _ _)/\∀k:Nat,lC (dG z.2 (dF (wrap i64 (wrap i64 (wrap i64 v*32)+z.1))) 0) k=if v*128<=(k:Int)/\(k:Int)<v*128+4*i64.wrap (z.1+1)then 0 else _)/\(32-i64.wrap (z.1+1)).toNat<(32-z.1).toNat
  rw[ew,e]
  refine⟨⟨by omega,by omega,⟨by simp[hl],z3.p1,z3.p2,DR z3.u ek _⟩,λk=>?_⟩,by omega⟩
  rw[Xz (by omega)]
  by_cases hc:k/4=(v*32+z.1).toNat
  ·rw[if_pos hc,if_pos (by omega)]
   have:k%4=0\/k%4=1\/k%4=2\/k%4=3:=by omega
   rcases this with h|h|h|h<;>rw[h]<;>rfl
  ·rw[if_neg hc,z4 k]
   by_cases hd:v*128<=(k:Int)/\(k:Int)<v*128+4*z.1
   ·rw[if_pos hd,if_pos (by omega)]
   ·rw[if_neg hd,if_neg (by omega)]
 ·have h:=oN h
  show lC z.2 k=_
  rw[z4 k,show z.1=32 by omega];rfl
theorem X6{g v:Int}(hg:U g)(v0:0<=v)(v1:v<32):(bf .u32 g (eg .u32 1 v)==0)=(bf .u32 (bg .u32 g v) 1==0):=by
 obtain⟨z,rfl⟩:∃z:Nat,v=z:=⟨v.toNat,by omega⟩
 obtain⟨n,rfl⟩:∃n:Nat,g=n:=⟨g.toNat,by have:=hg.1;omega⟩
 have hz:z<32:=by omega
 have cg:(2:Nat)^z<4294967296:=by have:=eC (show 1<2 by omega) hz;simpa using this
 rw[Fs (AJ hg _),DT z (by omega),xh v0 v1,eD]
 have hc:((2:Int)^z)=((2^z:Nat):Int):=by simp
 generalize hq:2^z=q at*
 rw[hc,Xq hg ⟨by omega,by omega⟩,eD,eD,<-hq]
 have e1:(n&&&2^z)=0↔n/2^z%2=0:=by
  have t:n.testBit z=decide (n/2^z%2=1):=Nat.testBit_eq_decide_div_mod_eq
  constructor
  ·intro h
   have h2:(n&&&2^z).testBit z=false:=by rw[h];exact fD z
   rw[fE,Nat.testBit_two_pow_self,Bool.and_true,t]at h2
   have:=oN h2
   omega
  ·intro h
   have t0:n.testBit z=false:=by rw[t];exact dN (by omega)
   apply eM
   intro i
   rw[fE,Nat.testBit_two_pow,fD]
   by_cases hi:z=i
   ·subst hi;rw[t0];rfl
   ·rw[dN hi,Bool.and_false]
 rw[eI,beq_iff_eq,beq_iff_eq]
 constructor
 ·intro h;have:=e1.1 (by omega);omega
 ·intro h;have:=e1.2 (by omega);omega
theorem Zjo{P:Nat}{m:List Int}(h:ep P m){b:gv}(hb:okB b)(port:Int){v:Int}(hv:U v):G7 b m port v=AO b m port v:=by
  have gn:jD m=m:=rfl
  have hp:=rT h
  have h2:=h.p2
  have ew:i64.wrap v=v:=DM (by have:=hv.1;omega) (by have:=hv.2;omega)
  have pe:=Ft h hv
  by_cases X7:v<32
  . have bv :=X6 hb.2 hv.1 X7
    by_cases Ji:port=10
    . by_cases hP:v<P
      . cases hz:bf .u32 (bg .u32 b.C2 v) 1==0
        . simp only[G7,DV,AO,Br,Tree.m,dd,gn,hp,ew,pe,bv,hz,Ji,dY hP,dN (show¬v>=32 by omega)]
          rfl
        . obtain⟨g1,g2,g3⟩:=(Tree.pp (qaK h hv hP Ji hz)).2
          change(AO b m port v).1=_ at g1
          change ep P (AO b m port v).2 at g2
          change∀k:Nat,lC (AO b m port v).2 k=_ at g3
          obtain⟨s1,s2,s3⟩:=(Tree.pp (XB h hv.1 hP (s:=cQ 128 0) (by simp))).2
          have em:(Ec m v (cQ 128 0)).1=(AO b m port v).2:=by
            refine Xy (s2.len.trans g2.len.symm) s2.u g2.u λk=> ?_
            rw[g3 k]
            refine(s3 k).trans ?_
            by_cases hk:v*128<=(k:Int)/\(k:Int)<v*128+128
            . rw[if_pos hk,if_pos hk]
              have:(cQ 128 (0:UInt8)).getD ((k:Int)-v*128).toNat 0=0:=by
                rw[cP,List.getElem?_replicate]
                split<;>rfl
              rw[this];rfl
            . rw[if_neg hk,if_neg hk]
          have el:G7 b m port v=({C7:=b.C7,C2:=ir .u32 b.C2 (eg .u32 1 v)},(Ec m v (cQ 128 0)).1):=by
            simp only[G7,DV,Tree.m,dd,gn,hp,ew,bv,hz,Ji,dY hP,dN (show¬v>=32 by omega),OV]
            rfl
          rw[el,em,<-g1]
      . simp only[G7,DV,AO,Br,Tree.m,dd,gn,hp,ew,pe,Ji,dN hP,dN (show¬v>=32 by omega)]
        rfl
    . simp only[G7,DV,AO,Br,Tree.m,dd,gn,dY X7,dN (show¬v>=32 by omega),show(port==10)=false by simpa using Ji]
      cases port==11<;>rfl
  . simp only[G7,DV,AO,Br,Tree.m,dd,gn,pe,dN X7,dY (show v>=32 by omega),dN (show¬v<P by omega)]
    cases port==10<;>cases port==11<;>rfl
structure sP(m:au):Prop where
 me:iy m.B1
 mem:∀w∈m.Mem,U w
 kS:ox m.A7
 sN:pr m.C3
 uA:okB m.A2
 lU:0<=m.A1
theorem OW(m:List Int)(hm:∀w∈m,U w):lT m=wI m/\(lT m=0\/∃P:Nat,1<=P/\ep P m):=by
 refine⟨rfl,?_⟩
 simp only[lT,Lb,Tree.m]
 cases h1:dE (m.length:Int) 32 !=0
 ·cases h2:decide ((m.length:Int)>1024)
  ·have h1:dE (m.length:Int) 32=0:=by simpa using h1
   have h2:=oN h2
   rw[eF (by omega)]at h1
   by_cases h0:m.length=0
   ·left;rw[h0];rfl
   ·right;exact⟨m.length/32,by omega,⟨by omega,by omega,by omega,hm⟩⟩
  ·left;rfl
 ·left;rfl
theorem Cx{a x:Bool}:(bif !a then false else x)=true↔a=true/\x=true:=by cases a<;>simp
theorem yM(m:au):pS m=true↔ ¬(wI m.Mem<1)/\mM m.B1/\Qiu m.A3=true/\TQ m.A9=true/\TS m.A7 (wI m.Mem)=true/\TR m.C3 (wI m.Mem)=true/\TY m.A2 (wI m.Mem)=true/\m.A1<=1152921504606846976/\¬(m.A4=true/\m.A6=true):=by
 simp only[pS,X8,Tree.m,dd]
 rw[nd,nd,nd,nd,nd,nd,Cx,Cx,Cx,Cx,Cx]
 simp only[decide_eq_false_iff_not,Int.not_lt,bne_eq_false_iff_eq,gt_iff_lt]
 have l:((bif decide (m.A1<=1152921504606846976)then(bif m.A4 then !m.A6 else true)else false)=true)↔m.A1<=1152921504606846976/\¬(m.A4=true/\m.A6=true):=by
  by_cases hc:m.A1<=1152921504606846976
  ·rw[dY hc]
   cases m.A4<;>cases m.A6<;>simp[hc]
  ·rw[dN hc];simp[hc]
 rw[l]
 constructor
 ·rintro⟨a1,a2,a3,a4,a5,a6,a7⟩
  exact⟨by omega,⟨a2,a3,a4,a5,a6⟩,a7⟩
 ·rintro⟨a1,⟨a2,a3,a4,a5,a6⟩,a7⟩
  exact⟨by omega,a2,a3,a4,a5,a6,a7⟩
theorem LX{m:au}(h:sP m):nc m=pS m:=by
 rw[eI,GM,yM,yg]
 obtain⟨e,c⟩:=OW m.Mem h.mem
 simp only[aE,<-e]
 rcases c with c|⟨P,hP,hm⟩
 ·constructor
  ·rintro⟨a,_⟩;exact absurd c a
  ·rintro⟨a,_⟩;omega
 ·rw[rT hm,Z5v,Zdb,Zik,Zj h.uA.2 hm.p2]
  constructor
  ·rintro⟨a1,a2,a3,a4,a5,a6,a7,a8,a9⟩;exact⟨by omega,a2,a5,a6,a7,a8,a9,a3,a4⟩
  ·rintro⟨a1,a2,a5,a6,a7,a8,a9,a3,a4⟩;exact⟨by omega,a2,a3,a4,a5,a6,a7,a8,a9⟩
def TZ(a b c d e:Bool):Int:=ir .u32 (ir .u32 (ir .u32 (ir .u32 (Eg a 0) (Eg b 1)) (Eg c 2)) (Eg d 3)) (Eg e 4)
theorem Jj(m:au):T0 m=TZ (X9 m.A9) (TT m.A3) (Lh m.A7) (Ya m.C3) (OT m.A2):=by
 unfold T0 LY
 simp only[Tree.m,dd]
 generalize X9 m.A9=a
 generalize TT m.A3=b
 generalize Lh m.A7=c
 generalize Ya m.C3=d
 generalize OT m.A2=e
 cases a<;>cases b<;>cases c<;>cases d<;>cases e<;>kernel_rfl
theorem Zpl(a b c d e:Bool):0<=TZ a b c d e/\TZ a b c d e<32:=by
 cases a<;>cases b<;>cases c<;>cases d<;>cases e<;>decide
theorem Cy(m:au):OX m=TZ (Yb m.A9) (TU m.A3) (Yc m.A7) (Yd m.C3) (OU m.A2):=rfl
section
variable {m:au} (h:sP m)
include h
theorem Zoj:T0 m=OX m:=by
 rw[Jj,Cy,vL,Zhh h.uA];rfl
theorem Qys:LZ m=Bs m:=by
 have e:=Zoj h
 simp only[LZ,G8,Bs,L0,Tree.m,dd,e]
theorem Ze9:Ls m=sQ m:=by
 have e:=Qys h
 simp only[Ls,G9,sQ,L1,Tree.m,dd,e]
theorem T8:AI m=!mN m:=by
 have e1:=LX h
 have e2:=Ze9 h
 have e3:decide (m.A1>=1152921504606846976)=!decide (m.A1<1152921504606846976):=vk
 simp only[AI,I5,mN,Jk,Tree.m,dd,e1,e2,e3]
 cases pS m<;>cases m.A6<;>cases sQ m<;>cases decide (m.A1<1152921504606846976)<;>rfl
theorem Z8a:0<=Bs m/\Bs m<32:=by
 have e:Bs m=bf .u32 (OX m) m.B1.B4.a7:=rfl
 have l:=Zpl (Yb m.A9) (TU m.A3) (Yc m.A7) (Yd m.C3) (OU m.A2)
 rw[<-Cy]at l
 rw[e,Xq ⟨l.1,by omega⟩ h.me.a7]
 have:=eB (n:=(OX m).toNat) (m:=m.B1.B4.a7.toNat)
 omega
def low(l:Int):Int:=if l%2=1 then 0 else if l/2%2=1 then 1 else if l/4%2=1 then 2 else if l/8%2=1 then 3 else 4
end
theorem wM{l:Int}(h0:0<=l)(h1:l<32):l=0\/l=1\/l=2\/l=3\/l=4\/l=5\/l=6\/l=7\/l=8\/l=9\/l=10\/l=11\/l=12\/l=13\/l=14\/l=15\/l=16\/l=17\/l=18\/l=19\/l=20\/l=21\/l=22\/l=23\/l=24\/l=25\/l=26\/l=27\/l=28\/l=29\/l=30\/l=31:=by omega
def Jl(m:au)(l:Int):bh:=bif bf .u32 m.B1.B4.a0 2==0 then m.B1 else bif l==0 then m.B1 else pQ m.B1 (wrap .i64 (16+low l)) 0
theorem OY{m:au}(h:sP m):lV m=Jl m (Bs m):=by
 obtain⟨l0,l1⟩:=Z8a h
 unfold lV L2
 simp only[Tree.m,dd]
 revert l0 l1
 generalize Bs m=l
 intro l0 l1
 unfold Jl
 cases bf .u32 m.B1.B4.a0 2==0
 ·rcases wM l0 l1 with rfl|rfl|rfl|rfl|rfl|rfl|rfl|rfl|rfl|rfl|rfl|rfl|rfl|rfl|rfl|rfl|rfl|rfl|rfl|rfl|rfl|rfl|rfl|rfl|rfl|rfl|rfl|rfl|rfl|rfl|rfl|rfl<;>kernel_rfl
 ·rfl
def Ye(m:au)(c:bh):au:={B1:=c,Mem:=m.Mem,A3:=m.A3,A9:=m.A9,A7:=m.A7,C3:=m.C3,A2:=m.A2,A1:=m.A1,A4:=false,A6:=m.A6}
theorem Z8y{m:au}(h:sP m)(jQ:m.B1.B4.a0<=31):nu m=Ye m (lV m):=by
 obtain⟨l0,l1⟩:=Z8a h
 have tr:∀k b,rl m.B1 k b=pQ m.B1 k b:=OA h.me.a0.1 jQ
 have e:LZ (Ye m m.B1)=Bs m:=Qys (m:=Ye m m.B1) ⟨h.me,h.mem,h.kS,h.sN,h.uA,h.lU⟩
 rw[OY h]
 unfold nu GN
 simp only[Tree.m,dd]
 rw[show LZ {B1:=m.B1,Mem:=m.Mem,A3:=m.A3,A9:=m.A9,A7:=m.A7,C3:=m.C3,A2:=m.A2,A1:=m.A1,A4:=false,A6:=m.A6}=Bs m from e]
 revert l0 l1
 generalize Bs m=l
 intro l0 l1
 unfold Jl
 simp only[<-tr]
 cases bf .u32 m.B1.B4.a0 2==0
 ·rcases wM l0 l1 with rfl|rfl|rfl|rfl|rfl|rfl|rfl|rfl|rfl|rfl|rfl|rfl|rfl|rfl|rfl|rfl|rfl|rfl|rfl|rfl|rfl|rfl|rfl|rfl|rfl|rfl|rfl|rfl|rfl|rfl|rfl|rfl<;>(show _=_;kernel_rfl)
 ·rfl
theorem Ha{p:Int}:p=0\/p=1\/p=2\/p=3\/p=4\/p=5\/p=6\/p=7\/p=8\/p=9\/p=10\/p=11\/p<0\/12<=p:=by omega
theorem xaq{m:au}(hb:okB m.A2)(port clock:Int):uB m port clock=((wN m port clock).2,(wN m port clock).1):=by
 have e1:=Zpp m.A3
 have e2:∀p,Ol m.A7 p=T9 m.A7 p:=λ_=>rfl
 have e3:=Zpg m.C3
 have e4:=Zos hb
 have e5:Xh m.A9=Ua m.A9:=rfl
 simp only[uB,Ln,wN,Gy,Tree.m,dd,e1,e2,e3,e4,e5]
 rcases Ha (p:=port)with rfl|rfl|rfl|rfl|rfl|rfl|rfl|rfl|rfl|rfl|rfl|rfl|h|h
 all_goals first|rfl|skip
 ·have n:∀k:Int,0<=k->(port==k)=false:=λk hk=>beq_eq_false_iff_ne.2 (by omega)
  have c:Jf m.A3 port=(m.A3,0):=by
   simp only[Jf,G4,Tree.m,n 0 (by decide),n 1 (by decide),cond_false]
  simp only[n 0 (by decide),n 1 (by decide),n 2 (by decide),n 3 (by decide),n 4 (by decide),n 5 (by decide),n 6 (by decide),n 7 (by decide),n 8 (by decide),n 9 (by decide),n 10 (by decide),n 11 (by decide),cond_false,dY (show port<=1 by omega),cond_true,c]
 ·have n:∀k:Int,k<12->(port==k)=false:=λk hk=>beq_eq_false_iff_ne.2 (by omega)
  have c:Jh m.A2 port=0:=by
   simp only[Jh,LV,Tree.m,n 10 (by decide),n 11 (by decide),cond_false]
  simp only[n 0 (by decide),n 1 (by decide),n 2 (by decide),n 3 (by decide),n 4 (by decide),n 5 (by decide),n 6 (by decide),n 7 (by decide),n 8 (by decide),n 9 (by decide),n 10 (by decide),n 11 (by decide),cond_false,dN (show¬port<=1 by omega),dN (show¬port<=6 by omega),dN (show¬port<=9 by omega),c]
theorem vM{P:Nat}{m:au}(hm:ep P m.Mem)(hb:okB m.A2)(port:Int){v:Int}(hv:U v):Fu m port v m.A1=((AP m port v).2,(AP m port v).1):=by
 have e1:=Zfn hm m.A7
 have e2:=Zj6 hm m.C3
 have e3:=Zjo hm hb port hv
 have e4:=qM m.A9 v
 simp only[Fu,Lm,AP,EZ,Tree.m,dd,e1,e2,e3,e4]
 rcases Ha (p:=port)with rfl|rfl|rfl|rfl|rfl|rfl|rfl|rfl|rfl|rfl|rfl|rfl|h|h
 all_goals first|rfl|skip
 ·have n:∀k:Int,0<=k->(port==k)=false:=λk hk=>beq_eq_false_iff_ne.2 (by omega)
  simp only[n 0 (by decide),n 1 (by decide),n 2 (by decide),n 3 (by decide),n 4 (by decide),n 5 (by decide),n 6 (by decide),n 7 (by decide),n 8 (by decide),n 9 (by decide),n 10 (by decide),n 11 (by decide),cond_false,dY (show port<=2 by omega),cond_true]
 ·have n:∀k:Int,k<12->(port==k)=false:=λk hk=>beq_eq_false_iff_ne.2 (by omega)
  have c:AO m.A2 m.Mem port v=(m.A2,m.Mem):=by
   simp only[AO,Br,Tree.m,n 10 (by decide),n 11 (by decide),cond_false]
  simp only[n 0 (by decide),n 1 (by decide),n 2 (by decide),n 3 (by decide),n 4 (by decide),n 5 (by decide),n 6 (by decide),n 7 (by decide),n 8 (by decide),n 9 (by decide),n 10 (by decide),n 11 (by decide),cond_false,dN (show¬port<=2 by omega),dN (show¬port<=6 by omega),dN (show¬port<=9 by omega),c]
def tick(n:au)(c:bh)(w h:Bool):au:={B1:=c,Mem:=n.Mem,A3:=n.A3,A9:=n.A9,A7:=n.A7,C3:=n.C3,A2:=n.A2,A1:=wrap .u64 (n.A1+1),A4:=w,A6:=h}
def Cz(m:au)(c:bh)(mem:List Int):au:={B1:=c,Mem:=mem,A3:=m.A3,A9:=m.A9,A7:=m.A7,C3:=m.C3,A2:=m.A2,A1:=m.A1,A4:=false,A6:=m.A6}
def Fv(n:au)(e:kJ)(clock dh:Int):au×List dx:=
 bif e.B9==1 then
  (bif e.D9 !=0 then(tick (uB n e.D0 clock).1 {X:=iU.of 0 (dG (iU.l (uB n e.D0 clock).1.B1.X) e.D9.toNat (uB n e.D0 clock).2),Pc:=(uB n e.D0 clock).1.B1.Pc,B4:=(uB n e.D0 clock).1.B1.B4} (uB n e.D0 clock).1.A4 (uB n e.D0 clock).1.A6,[])
  else(tick (uB n e.D0 clock).1 (uB n e.D0 clock).1.B1 (uB n e.D0 clock).1.A4 (uB n e.D0 clock).1.A6,[]))
 else bif e.B9==2 then(tick (Fu n e.D0 e.Value dh).1 (Fu n e.D0 e.Value dh).1.B1 (Fu n e.D0 e.Value dh).1.A4 (Fu n e.D0 e.Value dh).1.A6,(Fu n e.D0 e.Value dh).2)
 else bif e.B9==3 then(tick n n.B1 true n.A6,[])else bif e.B9==4 then(tick n n.B1 n.A4 true,[])else(tick n n.B1 n.A4 n.A6,[])
def CA(n:au)(e:kJ)(clock:Int):List dx×au:=
 bif e.B9==1 then([],tick (wN n e.D0 clock).2 (lD (wN n e.D0 clock).2.B1 e.D9 (wN n e.D0 clock).1) (wN n e.D0 clock).2.A4 (wN n e.D0 clock).2.A6)
 else bif e.B9==2 then((AP n e.D0 e.Value).1,tick (AP n e.D0 e.Value).2 (AP n e.D0 e.Value).2.B1 (AP n e.D0 e.Value).2.A4 (AP n e.D0 e.Value).2.A6)
 else bif e.B9==3 then([],tick n n.B1 true n.A6)else bif e.B9==4 then([],tick n n.B1 n.A4 true)else([],tick n n.B1 n.A4 n.A6)
theorem yY(m:au)(clock:Int):fv m clock=CA (Cz m (pR (lV m) m.Mem).1 (pR (lV m) m.Mem).2.2) (pR (lV m) m.Mem).2.1 clock:=by kernel_rfl
theorem Zmn(m:au)(clock:Int):AQ m clock=bif !AI m then(m,[])else Fv {B1:=(wJ (nu m).B1 (nu m).Mem).1,Mem:=(wJ (nu m).B1 (nu m).Mem).2.1,A3:=(nu m).A3,A9:=(nu m).A9,A7:=(nu m).A7,C3:=(nu m).C3,A2:=(nu m).A2,A1:=(nu m).A1,A4:=(nu m).A4,A6:=(nu m).A6} (wJ (nu m).B1 (nu m).Mem).2.2 clock m.A1:=by kernel_rfl
theorem qar(m:List Int):Yf m=m:=by
 simp[Yf,L3,Tree.m]
theorem Hb(m:au):Jm m=m:=by
 simp only[Jm,Gz,Tree.m,dd,qar]
theorem Yg(m:au)(clock:Int):Yh m clock=bif mN m then(m,[])else((fv m clock).2,(fv m clock).1):=by
 simp only[Yh,Z27,Tree.m,dd,Hb]
theorem qN{P:Nat}{n:au}(hm:ep P n.Mem)(hb:okB n.A2){e:kJ}(hr:0<=e.D9/\e.D9<16)(hv:U e.Value)(clock:Int):Fv n e clock n.A1=((CA n e clock).2,(CA n e clock).1):=by
 unfold Fv CA
 rw[xaq hb e.D0 clock,vM hm hb e.D0 hv]
 cases e.B9==1
 ·cases e.B9==2
  ·cases e.B9==3
   ·cases e.B9==4<;>rfl
   ·rfl
  ·rfl
 ·generalize wN n e.D0 clock=r
  have s:=TJ r.2.B1 hr r.1
  show(bif e.D9 !=0 then _ else _)=(tick r.2 (lD r.2.B1 e.D9 r.1) r.2.A4 r.2.A6,[])
  rw[<-s]
  simp only[uz,Fl,Tree.m]
  cases e.D9 !=0<;>rfl
theorem Zeg{m:au}(h:sP m)(clock:Int):AQ m clock=Yh m clock:=by
 rw[Zmn,Yg,T8 h]
 cases hs:mN m
 ·have hr:AI m=true:=by rw[T8 h,hs];rfl
  obtain⟨hm,hh,Oe⟩:=Tt hr
  obtain⟨g1,g2,g3,g4,g5⟩:=(GM m).1 hm
  rcases(OW m.Mem h.mem).2 with c|⟨P,hP,gy⟩
  ·exact absurd c g1
  have Yi:rj P m:=⟨h.me,gy,h.kS,h.sN,h.uA.1,h.uA.2⟩
  obtain⟨b1,b2,b3,_⟩:=(Tree.pp (Xk Yi g2)).2
  change mM (nu m).B1 at b1
  change rj P (nu m)at b2
  change(nu m).Mem=m.Mem at b3
  have be:=Z8y h g2.st
  have Ub:mM (lV m):=by have:=b1;rw[be]at this;exact this
  have L4:iy (lV m):=by have:=b2.me;rw[be]at this;exact this
  have ex:=Zer gy L4 Ub.st
  have er:=(Tree.pp (Zmm L4 gy)).2
  change 0<=(wJ (lV m) m.Mem).2.2.D9/\(wJ (lV m) m.Mem).2.2.D9<16 at er
  obtain⟨d1,d2,d3⟩:=(Tree.pp (Fa L4 gy)).2
  change U (pR (lV m) m.Mem).2.1.Value at d2
  change ep P (pR (lV m) m.Mem).2.2 at d3
  rw[ex]at er
  rw[yY,be]
  show Fv {B1:=(wJ (lV m) m.Mem).1,Mem:=(wJ (lV m) m.Mem).2.1,A3:=m.A3,A9:=m.A9,A7:=m.A7,C3:=m.C3,A2:=m.A2,A1:=m.A1,A4:=false,A6:=m.A6} (wJ (lV m) m.Mem).2.2 clock m.A1=_
  rw[ex]
  exact qN (n:=Cz m (pR (lV m) m.Mem).1 (pR (lV m) m.Mem).2.2) d3 h.uA er d2 clock
 ·rfl
theorem Zac{m:au}(h:sP m)(e:gx):L5 m e=OZ m e:=by
 have gn:jD m.Mem=m.Mem:=rfl
 have mm:=LX h
 have t1:Tl m.A9=Uc m.A9:=rfl
 have t2:∀b,Qol m.A3 b=Yj m.A3 b:=λ_=>rfl
 simp only[L5,GQ,OZ,Ud,lL,Fw,Tree.m,dd,Hb,gn,t1,t2]
 rw[show nc {B1:=m.B1,Mem:=m.Mem,A3:=m.A3,A9:=m.A9,A7:=m.A7,C3:=m.C3,A2:=m.A2,A1:=m.A1,A4:=m.A4,A6:=m.A6}=pS m from mm]
 cases hM:pS m
 ·rfl
 have hM':nc m=true:=mm.trans hM
 rcases(OW m.Mem h.mem).2 with c|⟨P,hP,gy⟩
 ·exact absurd c ((GM m).1 hM').1
 have cs:=Zd gy h.kS e
 have rs:=Zfu gy h.sN e.C9
 clear mm hM hM' gn h
 obtain⟨c,mem,con,ti,d,n,b,ct,w,hl⟩:=m
 cases hl
 ·by_cases k2:e.B9=2
  ·rw[k2];cases e.N==0<;>cases decide (e.C9=[])<;>rfl
  by_cases k3:e.B9=3
  ·rw[k3];cases decide (e.N<=255)<;>cases decide (e.C9=[])<;>rfl
  by_cases k4:e.B9=4
  ·rw[k4,cs];rfl
  by_cases k5:e.B9=5
  ·rw[k5,rs];cases e.N==0<;>rfl
  by_cases k6:e.B9=6
  ·rw[k6];cases decide (e.C9=[])<;>rfl
  ·rw[show(e.B9==2)=false by simpa using k2,show(e.B9==3)=false by simpa using k3,show(e.B9==4)=false by simpa using k4,show(e.B9==5)=false by simpa using k5,show(e.B9==6)=false by simpa using k6]
   rfl
 ·rfl
section
variable {m:au} (h:sP m) (hl:m.Mem.length<=1024)
include h
theorem wO(hm:nc m=true):∃P,rj P m/\nI P m:=by
 rcases(OW m.Mem h.mem).2 with c|⟨P,hP,gy⟩
 ·exact absurd c ((GM m).1 hm).1
 ·exact⟨P,⟨h.me,gy,h.kS,h.sN,h.uA.1,h.uA.2⟩,⟨h.me,gy,h.kS,h.sN,h.uA,h.lU⟩⟩
include hl
theorem xl{clock:Int}(hk:U clock):O0 m clock/\(AQ m clock).2.length<=1/\(AQ m clock).1.Mem.length<=1024:=by
 cases hr:AI m
 ·have e:AQ m clock=(m,[]):=by rw[Zmn,hr];rfl
  rw[e]
  refine⟨?_,aT _,hl⟩
  have gn:jD m.Mem=m.Mem:=rfl
  show(GP m clock).p
  unfold Tree.p GP
  refine cz (by show m.Mem.length<=35184372088832;omega) (ar λl hl=>?_)
  rw[gn]at hl;subst hl
  refine cz (Tree.pp (Xn (m:=⟨_,_,_,_,_,_,m.A2,_,_,_⟩) h.uA.2)).1 (ar λx1 nK=>aa (λ_=>trivial) (λhb=>?_))
  have:x1=false:=nK.trans hr
  rw[this]at hb;cases hb
 ·obtain⟨P,s,_⟩:=wO h (Tt hr).1
  have g:=Tree.pp (vh s h.lU hk)
  have ml:=g.2.2.ok.mem.len
  have mp:=g.2.2.ok.mem.p2
  exact⟨g.1,g.2.1,by show(GP m clock).m.1.Mem.length<=1024;omega⟩
omit h hl in
theorem xN{P:Nat}(h:nI P m){e:gx}(he:U e.N):(Fw m e).w (λx=>nI P x.2):=by
 have k:=h
 obtain⟨h1,h2,h3,h4,h5,h7⟩:=h
 unfold Fw
 repeat'(first
  |exact k
  |exact⟨h1,h2,h3,h4,⟨he,h5.2⟩,h7⟩
  |exact ar λ_ _=>⟨h1,h2,h3,h4,h5,h7⟩
  |exact bm (qad _ _) λ_ _=>⟨h1,h2,h3,h4,h5,h7⟩
  |exact bm (Znv h2 h3 _) λx hx=>⟨h1,hx.2,hx.1,h4,h5,h7⟩
  |exact bm (Zmr h2 h4 _) λx hx=>⟨h1,hx.2,h3,hx.1,h5,h7⟩
  |refine aa (λ_=>?_) (λ_=>?_))
theorem Zpf{e:gx}(he:U e.N):Qdl m e:=by
 cases hm:nc m
 ·have gn:jD m.Mem=m.Mem:=rfl
  show(GQ m e).p
  unfold Tree.p GQ
  refine cz (by show m.Mem.length<=35184372088832;omega) (ar λl hl=>?_)
  rw[gn]at hl;subst hl
  refine cz (Tree.pp (Tu (m:=⟨_,_,_,_,_,_,m.A2,_,_,_⟩) h.uA.2)).1 (ar λx1 nK=>aa (λ_=>trivial) (λhb=>?_))
  have:x1=false:=nK.trans hm
  rw[this]at hb;cases hb
 ·obtain⟨P,s,o⟩:=wO h hm
  exact(Tree.pp (Zmx o he)).1

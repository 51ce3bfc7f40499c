import Derived.Test.YthjfindbamdacaaGreatDoorAuditComparesLaws2
import Derived.Test.YthjfindbamdacaaGreatDoorAuditComparesNewsB
import Derived.Test.YthjfindbamdacaaGreatDoorAuditComparesZt
open Nat renaming lt_succ_self->cO,blt->bJ,le_refl->aO,zero_le->aT,le_trans->bH,min_le_left->cY,le_of_eq->dL,pow_le_pow_right->dT,and_le_left->eB,pow_lt_pow_right->eC,two_pow_pos->eG,two_pow_add_eq_or_of_lt->eK,eq_of_testBit_eq->eM,testBit_mod_two_pow->eN,testBit->eO,zero_testBit->fD,testBit_and->fE
open List renaming replicate->cP,append->cQ,mem_cons->cR,not_mem_nil->cS,length_replicate->cU,length_take->bD,length_drop->bF,mem_of_mem_take->cV,mem_of_mem_drop->cW,length_singleton->cX,take->cZ,drop->dA,ext_getElem->bN,range->dB,getD_eq_getElem?_getD->dC,append_assoc->dD,set->dG,length_set->dH,length_cons->dI,length_nil->dJ,length->dK,getD->aK,getElem?_take->aU
open Int renaming tmod->dE,toNat->dF,emod_eq_of_lt->dM,pow_pos->dO,fdiv_eq_ediv_of_nonneg->dP,le_of_lt->dQ,pow_add->dR,mul_le_mul_of_nonneg_right->dS,lt_or_le->dV,toNat_natCast->eD,tmod_eq_emod_of_nonneg->eF,toNat_of_nonneg->eH,fdiv->eJ,tdiv->eU,tdiv_eq_ediv_of_nonneg->eV,ediv_ediv_of_nonneg->fA,mul_ediv_add_emod->fB,pow_succ->fC
open Bool renaming or_eq_true->aI,eq_iff_iff->eI,noConfusion->eZ
open UInt8 renaming toNat_lt->dU,toNat->eW,ofNat->eX
open BitVec renaming ofInt->dW,toNat_ofInt->dX,toNat_or->dZ,toNat_and->eA,getLsbD->eQ,eq_of_toNat_eq->eR,ofInt_natCast->eS,toNat_ofNat->eT
open Prod renaming ext->eY
set_option maxRecDepth 100000
set_option linter.all false
namespace Go.Proofs.YthjfindbamdacaaGreatDoor
open Go Go.GD
open Go.IntKind(wrap i64 u32 u64 u8 wrap_i64 wrap_u32 wrap_u64 wrap_u8 wrap_i32)
theorem zG(i:gj):U (oB i).1:=by
 refine Tree.post (Sd i) (W:=λr=>U r.1) ?_
 unfold Sd
 exact aq λ_ _=>aa (λ_=>eh) (λ_=>mC _ _)
theorem J8(l:List Int)(hl:l.length*8<=reachBytes):(MV l).w (λr=>(r.length:Int)=l.length/\∀w∈r,U w):=by
 have sW:l.length*8<=140737488351232:=hl
 have app:∀{r:List Int} {x:Int},(∀w∈r,U w)->U x->∀w∈r++[x],U w:=λhr hx w hw=>by
  rw[List.mem_append]at hw
  rcases hw with hw|hw
  ·exact hr w hw
  ·rw[List.mem_singleton.1 hw];exact hx
 unfold MV
 refine fg (inv:=λz=>Qq1 l z/\∀w∈z.2,U w) (μ:=Se l) ⟨⟨by omega,by simp,by simp⟩,by simp⟩ (cO _) (λv0 hv=>?_)
 obtain⟨⟨h1,h2,h3⟩,h4⟩:=hv
 refine aa (λh=>?_) (λh=>?_)
 ·have h:=oY h
  have next:∀x:Int,U x->(Qq1 l (wrap i64 (v0.1+1),v0.2++[x])/\∀w∈v0.2++[x],U w)/\Se l (wrap i64 (v0.1+1),v0.2++[x])<Se l v0:=λx hx=>by
   have hw:i64.wrap (v0.1+1)=v0.1+1:=by rw[wrap_i64];omega
   rw[hw]
   refine⟨⟨⟨?_,?_,?_⟩,app h4 hx⟩,?_⟩
   ·show 0<=v0.1+1;omega
   ·show v0.1+1<=l.length;omega
   ·show((v0.2++[x]).length:Int)=v0.1+1;simp;omega
   ·show(l.length-(v0.1+1)).toNat<(l.length-v0.1).toNat;omega
  have hb:(Nat.beq 1 1&&bJ 0 1&&decide (0<=v0.1/\v0.1<(l.length:Int)))=true:=by simp[bJ];omega
  have hc:decide (4*(v0.2.length+1)<=140737488355328)=true:=dY (by omega)
  exact ax hb (aa (λ_=>ax hb (ax hc (next _ (fj _)))) (λ_=>ax hb (cr (xV _) (aq λx0 _=>aq λx1 hx=>ax hc (next _ (by rw[hx];exact zG _))))))
 ·have h:=oN h
  exact⟨by show(v0.2.length:Int)=l.length;omega,h4⟩
section
variable {P:Nat} {m:au} (h:kH P m)
include h
theorem MW(port:Int){clock:Int}(hc:U clock):(H8 m port clock).w (λx=>U x.1/\kH P x.2/\x.2.A0=m.A0):=by
 have k:=(⟨h,rfl⟩:kH P m/\m.A0=m.A0)
 obtain⟨h1,h2,h3,h4,h5,h7⟩:=h
 unfold H8
 exact aa (λ_=>aq λx hx=>⟨hx▸Zho _ _,⟨⟨h1,h2,h3,h4,h5,h7⟩,rfl⟩⟩) (λ_=>aa (λ_=>⟨hc,k⟩) (λ_=>aa (λ_=>aq λx hx=>⟨hx▸qz _,k⟩) (λ_=>aa (λ_=>aq λx hx=>⟨hx▸zU h3 _,k⟩) (λ_=>aa (λ_=>aq λx hx=>⟨hx▸qax h4 _,k⟩) (λ_=>aq λx hx=>⟨hx▸Zhr h5.1 _,k⟩)))))
theorem xaz(port:Int){v:Int}(hv:U v):(FW m port v).w (λx=>x.1.length<=1/\kH P x.2/\x.2.A0=m.A0):=by
 have k:=(⟨h,rfl⟩:kH P m/\m.A0=m.A0)
 obtain⟨h1,h2,h3,h4,h5,h7⟩:=h
 unfold FW
 exact aa (λ_=>⟨aO _,k⟩) (λ_=>aa (λ_=>⟨aT _,k⟩) (λ_=>aa (λ_=>aq λ_ _=>⟨aT _,⟨⟨h1,h2,h3,h4,h5,h7⟩,rfl⟩⟩) (λ_=>aa (λ_=>bm (yy h2 h3 _ hv _) λx hx=>⟨hx.2,⟨⟨h1,h2,hx.1,h4,h5,h7⟩,rfl⟩⟩) (λ_=>aa (λ_=>bm (xU h2 h4 _ hv _) λx hx=>⟨hx.2,⟨⟨h1,h2,h3,hx.1,h5,h7⟩,rfl⟩⟩) (λ_=>bm (zaK h2 h5 _ hv) λx hx=>⟨aT _,⟨⟨h1,hx.2,h3,h4,hx.1,h7⟩,rfl⟩⟩)))))
theorem Sf{clock:Int}(hc:U clock):(MX m clock).w (λx=>x.1.length<=1/\kH P x.2/\x.2.A0=wrap .u64 (m.A0+1)):=by
 obtain⟨h1,h2,h3,h4,h5,h7⟩:=h
 unfold MX
 refine bm (VZ h1) λx0 c0=>bm (H9 c0 h2) λx1 hx=>?_
 obtain⟨c1,v1,m1⟩:=hx
 refine aa (λ_=>Sg (MW (m:=⟨_,_,_,_,_,_,_,_,_,_⟩) ⟨c1,m1,h3,h4,h5,h7⟩ _ hc) λx2 hx=>?_) (λ_=>aa (λ_=>bm (xaz (m:=⟨_,_,_,_,_,_,_,_,_,_⟩) ⟨c1,m1,h3,h4,h5,h7⟩ _ v1) λx4 hx=>?_) (λ_=>?_))
 ·obtain⟨u,⟨k1,k2,k3,k4,k5,k7⟩,k6⟩:=hx
  exact bm (Er k1 _ u) λx3 h3=>⟨aT _,⟨h3,k2,k3,k4,k5,w0 _⟩,congrArg (λn=>wrap .u64 (n+1)) k6⟩
 ·obtain⟨u,⟨k1,k2,k3,k4,k5,k7⟩,k6⟩:=hx
  exact⟨u,⟨k1,k2,k3,k4,k5,w0 _⟩,congrArg (λn=>wrap .u64 (n+1)) k6⟩
 ·repeat'(first
   |exact⟨aT _,⟨c1,m1,h3,h4,h5,w0 _⟩,rfl⟩
   |refine aa (λ_=>?_) (λ_=>?_))
theorem yW:(FX m).w (λx=>kH P x/\x.A0=m.A0):=by
 obtain⟨h1,h2,h3,h4,h5,h7⟩:=h
 unfold FX
 exact bm (y7 h2) λx hx=>⟨⟨h1,by rw[hx];exact h2,h3,h4,h5,h7⟩,rfl⟩
end
theorem sd(n:Nat):∀w∈cP n (0:Int),U w:=λw hw=>by rw[(List.mem_replicate.1 hw).2];exact eh
theorem zaf:kH 0 ⟨⟨⟨0,0,0,0,0,0,0,0,0,0,0,0,0,0,0,0⟩,0,⟨0,0,0,0,0,0,0,0⟩⟩,[],⟨[]⟩,⟨false,0,false⟩,⟨0,0,0,0,0,0,0,[]⟩,⟨0,0,false,0,false,0⟩,⟨0,0⟩,0,false,false⟩:=
 ⟨⟨sd 16,eh,sd 8⟩,⟨rfl,by omega,by omega,λw hw=>by cases hw⟩,⟨eh,eh,eh,eh⟩,⟨eh,eh,eh,eh⟩,⟨eh,eh⟩,by decide⟩
theorem Sh{P:Nat}{m:au}(h:kH P m)(hc:0<=m.A0):(Q4 m [] 87).w (λx=>∃Q,kH Q x.1):=by
 have z:∃Q,kH Q _:=⟨0,zaf⟩
 unfold Q4
 refine aq λx0 _=>aa (λ_=>z) λ_=>aa (λ_=>z) λ_=>aa (λ_=>z) λ_=>cr (show J9 [] by show([]:List ep).length<=1000000000000;decide) (aq λx1 _=>aa (λ_=>z) λ_=>bm (yW h) λx2 hx=>?_)
 refine fg (inv:=λv:au×List fm=>kH P v.1/\0<=v.1.A0/\v.2.length+(87-v.1.A0).toNat<=87) (μ:=MY m [] 87) ⟨hx.1,by rw[hx.2];exact hc,by rw[hx.2];show 0+_<=87;omega⟩ (cO _) λv0 ⟨a1,a2,a3⟩=>?_
 refine aa (λhb=>aa (λ_=>?_) (λ_=>⟨P,a1⟩)) (λ_=>⟨P,a1⟩)
 have hb:=oY hb
 refine fg (inv:=λ_=>True) (μ:=MZ m [] 87 v0) trivial (cO _) λv1 _=>?_
 refine aa (λ_=>⟨P,a1⟩) λ_=>bm (xy _) λx3 _=>aa (λ_=>⟨P,a1⟩) λ_=>bm (zy a1.lS a1.mem) λx4 _=>aa (λ_=>z) λ_=>bm (Sf a1 eh) λx5 h5=>?_
 obtain⟨b1,b2,b3⟩:=h5
 refine ax (dY (by omega)) (ek ?_)
 have e:x5.2.A0=v0.1.A0+1:=by rw[b3,wrap_u64];omega
 show(_/\_/\_)/\(_:Nat)<_
 refine⟨⟨b2,by show 0<=x5.2.A0;omega,by show(v0.2++x5.1).length+(87-x5.2.A0).toNat<=87;rw[lA];omega⟩,by show(87-x5.2.A0).toNat<(87-v0.1.A0).toNat;omega⟩
set_option synthInstance.maxHeartbeats 2000000
set_option synthInstance.maxSize 100000
noncomputable section
instance yG (src:List UInt8):Ck (Qir src):=ra (t:=M0 src) (by delta M0;infer_instance)
instance zC (s:List UInt8):Ck (Qhb s):=ra (t:=M1 s) (by delta M1;infer_instance)
instance yC (n:Int):Ck (Es n):=let d:Decidable (Es n):=(by delta Es;infer_instance);⟨@decide _ d,@oY _ d⟩
instance qf (n:Int):Ck (V0 n):=ra (t:=Et n) (by delta Et;infer_instance)
instance xaf (r:Int):Ck (Qnq r):=ra (t:=Ia r) (by delta Ia;infer_instance)
instance vW (s:List UInt8):Ck (V1 s):=ra (t:=M3 s) (by delta M3;infer_instance)
instance Zo9 (op:Int):Ck (Qcu op):=ra (t:=M4 op) (by delta M4;infer_instance)
instance Zn8 (s:List UInt8):Ck (Ka s):=ra (t:=M5 s) (by delta M5;infer_instance)
instance xf (dz:List UInt8):Ck (M6 dz):=ra (t:=M7 dz) (by delta M7;infer_instance)
instance vC (s:List UInt8):Ck (Qh7 s):=ra (t:=M8 s) (by delta M8;infer_instance)
instance zf (l:List kX) (p:List UInt8):Ck (M9 l p):=ra (t:=Na l p) (by delta Na;infer_instance)
instance qD (s:List UInt8):Ck (Qhl s):=ra (t:=Nb s) (by delta Nb;infer_instance)
instance yf (l:List nM) (label:List UInt8):Ck (FY l label):=let d:Decidable (FY l label):=(by delta FY;infer_instance);⟨@decide _ d,@oY _ d⟩
instance qX (src:List UInt8):Ck (Ql8 src):=ra (t:=Nc src) (by delta Nc;infer_instance)
instance xX (st:j8) (v:Int):Ck (Nd st v):=ra (t:=Nf st v) (by delta Nf;infer_instance)
instance Zo8 (src:List UInt8):Ck (V2 src):=ra (t:=Ng src) (by delta Ng;infer_instance)
theorem qg:V2 ((108:UInt8)::(BH++Kb++(Kc++Kd)++(Ke++Z6++(Kf++Kg))++(Kh++Ki++(Kj++Kk)++(Kl++Km++(Kn++Ko))))):=ck inferInstance (by kernel_rfl)
def inU(x:Int):Bool:=decide (0<=x)&&decide (x<4294967296)
theorem qag(l:List Int)(h:(Nat.ble l.length 160&&List.all l inU)=true):l.length<=160/\∀w∈l,U w:=by
 rw[aE]at h
 refine⟨lE h.1,λw hw=>?_⟩
 have:=List.all_eq_true.1 h.2 w hw
 simp only[inU,aE,decide_eq_true_eq]at this
 exact this
theorem Nh:(Kp (cQ (cQ (cQ (cQ Si Kb) (cQ Kc Kd)) (cQ (cQ Ke Z6) (cQ Kf Kg))) (cQ (cQ (cQ Kh Ki) (cQ Kj Kk)) (cQ (cQ Kl Km) (cQ Kn Ko))))).1.length<=160/\∀w∈(Kp (cQ (cQ (cQ (cQ Si Kb) (cQ Kc Kd)) (cQ (cQ Ke Z6) (cQ Kf Kg))) (cQ (cQ (cQ Kh Ki) (cQ Kj Kk)) (cQ (cQ Kl Km) (cQ Kn Ko))))).1,U w:=qag _ (by kernel_rfl)
end
theorem Ib(i:List Int)(hu:∀w∈i,U w)(hl:i.length<=256):(Dl 8 4 i).w (λx=>kH 8 x.1/\x.1.A0=0):=by
 unfold Dl
 refine aa (λh=>absurd h (by decide)) λ_=>aa (λh=>absurd h (by decide)) λ_=>aa (λh=>absurd h (by decide)) λ_=>aa (λh=>absurd h (by decide)) λ_=>aa (λh=>?_) λ_=>aq λx0 e0=>cr (Zci _) (aq λx1 e1=>?_)
 ·have h:=oY h
  rw[show i64.wrap (8*32)=256 by decide]at h
  omega
 have hx:x1=cP 256 0:=by rw[e1];kernel_rfl
 have c0:ir x0:=by rw[e0];exact⟨by
  intro w hw
  simp only[V3,Sj,Tree.m,fv.l,cR,cS,or_false,or_self]at hw
  rw[hw];exact eh,eh,by
  intro w hw
  simp only[V3,Sj,Tree.m,A8.l,cR,cS,or_false,or_self]at hw
  rcases hw with rfl|rfl
  ·exact⟨by omega,by omega⟩
  ·exact eh⟩
 have hz:∀w∈x1,U w:=by rw[hx];exact sd 256
 have hn:x1.length=256:=by rw[hx,cU]
 refine⟨⟨c0,⟨?_,by omega,by omega,λw hw=>?_⟩,⟨eh,eh,eh,eh⟩,⟨eh,eh,eh,eh⟩,⟨eh,eh⟩,Int.le_refl _⟩,rfl⟩
 ·simp only[lA,bD,bF,hn];omega
 ·rcases List.mem_append.1 hw with h1|h1
  ·exact hu w (cV h1)
  ·exact hz w (cW h1)
theorem xg(kind:Int)(l:List Int)(hl:l.length*8<=reachBytes):(BI kind l).w (λx=>∃Q,kH Q x):=by
 have sW:l.length*8<=140737488351232:=hl
 unfold BI
 refine cr (Ic (by decide)) (aq λx0 _=>aa (λ_=>cr qg (aq λx1 e1=>?_)) (λ_=>?_))
 ·obtain⟨q1,q2⟩:x1.1.length<=160/\∀w∈x1.1,U w:=by rw[e1];exact Nh
  refine fg (inv:=λv:List Int=>v.length<=160/\∀w∈v,U w) (μ:=Ni kind l) ⟨q1,q2⟩ (cO _) λv0 ⟨a1,a2⟩=>?_
  refine aa (λhb=>?_) (λ_=>?_)
  ·have hb:=oY hb
   refine ax (dY (by omega)) (ek ?_)
   show(_/\_)/\(_:Nat)<_
   refine⟨⟨by rw[lA,cX];omega,λw hw=>?_⟩,by show 160-(v0++[0]).length<160-v0.length;rw[lA,cX];omega⟩
   rcases List.mem_append.1 hw with h1|h1
   ·exact a2 w h1
   ·rw[List.mem_singleton.1 h1];exact eh
  ·refine bm (J8 l hl) λx2 ⟨b1,b2⟩=>ax (dY (by omega)) ?_
   have hu:∀w∈v0++x2,U w:=λw hw=>(List.mem_append.1 hw).elim (a2 w) (b2 w)
   refine aa (λhb=>?_) (λhb=>?_)
   ·have hb:=oY hb
    refine ax (by simp[bJ];rw[lA]at hb;omega) (bm (Ib _ (λw hw=>hu w (cW (cV hw))) (by rw[bD];exact bH (cY _ _) (by decide))) λx3 ⟨c1,c2⟩=>aa (λ_=>bm (Sh c1 (by omega)) λx4 hx=>hx) (λ_=>⟨8,c1⟩))
   ·have hb:=oN hb
    exact bm (Ib _ hu (by omega)) λx3 ⟨c1,c2⟩=>aa (λ_=>bm (Sh c1 (by omega)) λx4 hx=>hx) (λ_=>⟨8,c1⟩)
 ·refine bm (J8 l hl) λx2 ⟨b1,b2⟩=>ax (dY (by omega)) ?_
  refine aa (λhb=>?_) (λhb=>?_)
  ·have hb:=oY hb
   refine ax (by simp[bJ];omega) (bm (Ib _ (λw hw=>b2 w (cW (cV hw))) (by rw[bD];exact bH (cY _ _) (by decide))) λx3 ⟨c1,c2⟩=>aa (λ_=>bm (Sh c1 (by omega)) λx4 hx=>hx) (λ_=>⟨8,c1⟩))
  ·have hb:=oN hb
   exact bm (Ib _ b2 (by omega)) λx3 ⟨c1,c2⟩=>aa (λ_=>bm (Sh c1 (by omega)) λx4 hx=>hx) (λ_=>⟨8,c1⟩)
noncomputable section
def jm:List Int:=(Kp (cQ (cQ (cQ (cQ Si Kb) (cQ Kc Kd)) (cQ (cQ Ke Z6) (cQ Kf Kg))) (cQ (cQ (cQ Kh Ki) (cQ Kj Kk)) (cQ (cQ Kl Km) (cQ Kn Ko))))).1
def s9:List Int:=jm++cP (160-jm.length) 0
theorem Nj(t0 t1 t2 t3 t4 t5 t6 t7 t8 t9 t10 t11 t12 t13 t14 t15 t16 t17 t18 t19 t20 t21 t22 t23 t24 t25 t26 t27 t28 t29 t30 t31 t32 t33 t34 t35 t36 t37 t38 t39 t40 t41 t42 t43 t44 t45 t46 t47 t48 t49 t50 t51 t52 t53 t54 t55 t56 t57 t58 t59 t60 t61 t62 t63 t64 t65 t66 t67 t68 t69 t70 t71 t72 t73 t74 t75 t76 t77 t78 t79 t80 t81 t82 t83 t84 t85 t86 t87 t88 t89 t90 t91 t92 t93 t94 t95:Int):(Ie (kI 8 4 (s9++[t0,t1,t2,t3,t4,t5,t6,t7,t8,t9,t10,t11,t12,t13,t14,t15,t16,t17,t18,t19,t20,t21,t22,t23,t24,t25,t26,t27,t28,t29,t30,t31,t32,t33,t34,t35,t36,t37,t38,t39,t40,t41,t42,t43,t44,t45,t46,t47,t48,t49,t50,t51,t52,t53,t54,t55,t56,t57,t58,t59,t60,t61,t62,t63,t64,t65,t66,t67,t68,t69,t70,t71,t72,t73,t74,t75,t76,t77,t78,t79,t80,t81,t82,t83,t84,t85,t86,t87,t88,t89,t90,t91,t92,t93,t94,t95])).1 [] 87).2.2.2=0:=by kernel_rfl
end
attribute [local irreducible] Kp
theorem zg(i j:List Int)(hi:i.length<=256)(hj:j.length<=256)(e:i++cP (256-i.length) 0=j++cP (256-j.length) 0):kI 8 4 i=kI 8 4 j:=by
 have w:i64.wrap (8*32)=256:=by decide
 have m:Sk 8=cP 256 0:=by kernel_rfl
 have d:∀k:List Int,k.length<=256->decide ((k.length:Int)>256)=false:=λk h=>dN (by omega)
 have mem:∀k:List Int,k.length<=256->cZ (min k.length (cP 256 (0:Int)).length) k++dA (min k.length (cP 256 (0:Int)).length) (cP 256 0)=k++cP (256-k.length) 0:=λk h=>by
  rw[cU,Nat.min_eq_left h,List.take_length,List.drop_replicate]
 have r:Sk 8=cP 256 0:=by kernel_rfl
 simp only[kI,Dl,Tree.m,w,dj,r,d i hi,d j hj]
 simp only[mem i hi,mem j hj,e]
theorem Ig(t:List Int)(ht:t.length=96):t=[t.getD 0 0,t.getD 1 0,t.getD 2 0,t.getD 3 0,t.getD 4 0,t.getD 5 0,t.getD 6 0,t.getD 7 0,t.getD 8 0,t.getD 9 0,t.getD 10 0,t.getD 11 0,t.getD 12 0,t.getD 13 0,t.getD 14 0,t.getD 15 0,t.getD 16 0,t.getD 17 0,t.getD 18 0,t.getD 19 0,t.getD 20 0,t.getD 21 0,t.getD 22 0,t.getD 23 0,t.getD 24 0,t.getD 25 0,t.getD 26 0,t.getD 27 0,t.getD 28 0,t.getD 29 0,t.getD 30 0,t.getD 31 0,t.getD 32 0,t.getD 33 0,t.getD 34 0,t.getD 35 0,t.getD 36 0,t.getD 37 0,t.getD 38 0,t.getD 39 0,t.getD 40 0,t.getD 41 0,t.getD 42 0,t.getD 43 0,t.getD 44 0,t.getD 45 0,t.getD 46 0,t.getD 47 0,t.getD 48 0,t.getD 49 0,t.getD 50 0,t.getD 51 0,t.getD 52 0,t.getD 53 0,t.getD 54 0,t.getD 55 0,t.getD 56 0,t.getD 57 0,t.getD 58 0,t.getD 59 0,t.getD 60 0,t.getD 61 0,t.getD 62 0,t.getD 63 0,t.getD 64 0,t.getD 65 0,t.getD 66 0,t.getD 67 0,t.getD 68 0,t.getD 69 0,t.getD 70 0,t.getD 71 0,t.getD 72 0,t.getD 73 0,t.getD 74 0,t.getD 75 0,t.getD 76 0,t.getD 77 0,t.getD 78 0,t.getD 79 0,t.getD 80 0,t.getD 81 0,t.getD 82 0,t.getD 83 0,t.getD 84 0,t.getD 85 0,t.getD 86 0,t.getD 87 0,t.getD 88 0,t.getD 89 0,t.getD 90 0,t.getD 91 0,t.getD 92 0,t.getD 93 0,t.getD 94 0,t.getD 95 0]:=by
 apply bN
 ·rw[ht];rfl
 ·intro i h1 h2
  have e:∀j (hj:j<96),[t.getD 0 0,t.getD 1 0,t.getD 2 0,t.getD 3 0,t.getD 4 0,t.getD 5 0,t.getD 6 0,t.getD 7 0,t.getD 8 0,t.getD 9 0,t.getD 10 0,t.getD 11 0,t.getD 12 0,t.getD 13 0,t.getD 14 0,t.getD 15 0,t.getD 16 0,t.getD 17 0,t.getD 18 0,t.getD 19 0,t.getD 20 0,t.getD 21 0,t.getD 22 0,t.getD 23 0,t.getD 24 0,t.getD 25 0,t.getD 26 0,t.getD 27 0,t.getD 28 0,t.getD 29 0,t.getD 30 0,t.getD 31 0,t.getD 32 0,t.getD 33 0,t.getD 34 0,t.getD 35 0,t.getD 36 0,t.getD 37 0,t.getD 38 0,t.getD 39 0,t.getD 40 0,t.getD 41 0,t.getD 42 0,t.getD 43 0,t.getD 44 0,t.getD 45 0,t.getD 46 0,t.getD 47 0,t.getD 48 0,t.getD 49 0,t.getD 50 0,t.getD 51 0,t.getD 52 0,t.getD 53 0,t.getD 54 0,t.getD 55 0,t.getD 56 0,t.getD 57 0,t.getD 58 0,t.getD 59 0,t.getD 60 0,t.getD 61 0,t.getD 62 0,t.getD 63 0,t.getD 64 0,t.getD 65 0,t.getD 66 0,t.getD 67 0,t.getD 68 0,t.getD 69 0,t.getD 70 0,t.getD 71 0,t.getD 72 0,t.getD 73 0,t.getD 74 0,t.getD 75 0,t.getD 76 0,t.getD 77 0,t.getD 78 0,t.getD 79 0,t.getD 80 0,t.getD 81 0,t.getD 82 0,t.getD 83 0,t.getD 84 0,t.getD 85 0,t.getD 86 0,t.getD 87 0,t.getD 88 0,t.getD 89 0,t.getD 90 0,t.getD 91 0,t.getD 92 0,t.getD 93 0,t.getD 94 0,t.getD 95 0][j]'hj=t.getD j 0:=by
   intro j hj
   have:[t.getD 0 0,t.getD 1 0,t.getD 2 0,t.getD 3 0,t.getD 4 0,t.getD 5 0,t.getD 6 0,t.getD 7 0,t.getD 8 0,t.getD 9 0,t.getD 10 0,t.getD 11 0,t.getD 12 0,t.getD 13 0,t.getD 14 0,t.getD 15 0,t.getD 16 0,t.getD 17 0,t.getD 18 0,t.getD 19 0,t.getD 20 0,t.getD 21 0,t.getD 22 0,t.getD 23 0,t.getD 24 0,t.getD 25 0,t.getD 26 0,t.getD 27 0,t.getD 28 0,t.getD 29 0,t.getD 30 0,t.getD 31 0,t.getD 32 0,t.getD 33 0,t.getD 34 0,t.getD 35 0,t.getD 36 0,t.getD 37 0,t.getD 38 0,t.getD 39 0,t.getD 40 0,t.getD 41 0,t.getD 42 0,t.getD 43 0,t.getD 44 0,t.getD 45 0,t.getD 46 0,t.getD 47 0,t.getD 48 0,t.getD 49 0,t.getD 50 0,t.getD 51 0,t.getD 52 0,t.getD 53 0,t.getD 54 0,t.getD 55 0,t.getD 56 0,t.getD 57 0,t.getD 58 0,t.getD 59 0,t.getD 60 0,t.getD 61 0,t.getD 62 0,t.getD 63 0,t.getD 64 0,t.getD 65 0,t.getD 66 0,t.getD 67 0,t.getD 68 0,t.getD 69 0,t.getD 70 0,t.getD 71 0,t.getD 72 0,t.getD 73 0,t.getD 74 0,t.getD 75 0,t.getD 76 0,t.getD 77 0,t.getD 78 0,t.getD 79 0,t.getD 80 0,t.getD 81 0,t.getD 82 0,t.getD 83 0,t.getD 84 0,t.getD 85 0,t.getD 86 0,t.getD 87 0,t.getD 88 0,t.getD 89 0,t.getD 90 0,t.getD 91 0,t.getD 92 0,t.getD 93 0,t.getD 94 0,t.getD 95 0]=(dB 96).map (λk=>t.getD k 0):=rfl
   simp only[this,List.getElem_map,List.getElem_range]
  rw[e i (by omega),dC,List.getElem?_eq_getElem h1]
  rfl
theorem zX(t:List Int)(ht:t.length=96):(Ie (kI 8 4 (s9++t)).1 [] 87).2.2.2=0:=by
 rw[Ig t ht]
 exact Nj _ _ _ _ _ _ _ _ _ _ _ _ _ _ _ _ _ _ _ _ _ _ _ _ _ _ _ _ _ _ _ _ _ _ _ _ _ _ _ _ _ _ _ _ _ _ _ _ _ _ _ _ _ _ _ _ _ _ _ _ _ _ _ _ _ _ _ _ _ _ _ _ _ _ _ _ _ _ _ _ _ _ _ _ _ _ _ _ _ _ _ _ _ _ _ _
theorem yg:s9.length=160:=by
 have h:jm.length<=160:=Nh.1
 unfold s9
 rw[lA,cU];omega
theorem zag{P:Nat}{m:au}(h:kH P m):(Q4 m [] 87).w (λx=>x.2.2.2=0->kH P x.1):=by
 have z:∀{k:Int} {p:Prop},k≠0->k=0->p:=λa b=>absurd b a
 unfold Q4
 refine aq λx0 _=>aa (λ_=>z (by decide)) λ_=>aa (λ_=>z (by decide)) λ_=>aa (λ_=>z (by decide)) λ_=>cr (show J9 [] by show([]:List ep).length<=1000000000000;decide) (aq λx1 _=>aa (λ_=>z (by decide)) λ_=>bm (yW h) λx2 hx=>?_)
 have hc:=h.pM
 refine fg (inv:=λv:au×List fm=>kH P v.1/\v.2.length+(87-v.1.A0).toNat<=87) (μ:=MY m [] 87) ⟨hx.1,by rw[hx.2];show 0+_<=87;omega⟩ (cO _) λv0 ⟨a1,a3⟩=>?_
 have a2:=a1.pM
 refine aa (λhb=>aa (λ_=>?_) (λ_=>λ_=>a1)) (λ_=>λ_=>a1)
 have hb:=oY hb
 refine fg (inv:=λ_=>True) (μ:=MZ m [] 87 v0) trivial (cO _) λv1 _=>?_
 refine aa (λ_=>λ_=>a1) λ_=>bm (xy _) λx3 _=>aa (λ_=>λ_=>a1) λ_=>bm (zy a1.lS a1.mem) λx4 _=>aa (λ_=>z (by decide)) λ_=>bm (Sf a1 eh) λx5 h5=>?_
 obtain⟨b1,b2,b3⟩:=h5
 refine ax (dY (by omega)) (ek ?_)
 have e:x5.2.A0=v0.1.A0+1:=by rw[b3,wrap_u64];omega
 show(_/\_)/\(_:Nat)<_
 refine⟨⟨b2,by show(v0.2++x5.1).length+(87-x5.2.A0).toNat<=87;rw[lA];omega⟩,by show(87-x5.2.A0).toNat<(87-v0.1.A0).toNat;omega⟩
theorem Zhg(kind:Int)(l:List Int)(hl:l.length*8<=reachBytes)(h40:l.length<=60):(BI kind l).w (kH 8):=by
 unfold BI
 refine cr (Ic (by decide)) (aq λx0 mU=>aa (λ_=>cr qg (aq λx1 e1=>?_)) (λhk=>?_))
 ·have eb:x1.1=jm:=by rw[e1];rfl
  obtain⟨q1,q2⟩:jm.length<=160/\∀w∈jm,U w:=Nh
  refine fg (inv:=λv:List Int=>v.length<=160/\v=jm++cP (v.length-jm.length) 0) (μ:=Ni kind l) ⟨by rw[eb];exact q1,by rw[eb];simp⟩ (cO _) λv0 ⟨a1,a2⟩=>?_
  have a3:jm.length<=v0.length:=by rw[a2,lA];omega
  refine aa (λhb=>?_) (λhb=>?_)
  ·have hb:=oY hb
   refine ax (dY (by omega)) (ek ?_)
   show(_/\_)/\(_:Nat)<_
   refine⟨⟨by rw[lA,cX];omega,?_⟩,by show 160-(v0++[0]).length<160-v0.length;rw[lA,cX];omega⟩
   show v0++[0]=jm++cP ((v0++[0]).length-jm.length) 0
   rw[lA,cX,show v0.length+1-jm.length=(v0.length-jm.length)+1 by omega,List.replicate_succ',<-dD,<-a2]
  ·have hb:=oN hb
   have hv:v0=s9:=by
    unfold s9
    rw[show(160:Nat)=v0.length by omega]
    exact a2
   subst hv
   have hp:=yg
   have V4:∀w∈s9,U w:=λw hw=>(List.mem_append.1 hw).elim (q2 w) (sd _ w)
   refine bm (J8 l hl) λx2 ⟨b1,b2⟩=>ax (dY (by omega)) ?_
   have hu:∀w∈s9++x2,U w:=λw hw=>(List.mem_append.1 hw).elim (V4 w) (b2 w)
   have hlen:(s9++x2).length<=256:=by rw[lA];omega
   refine aa (λhb=>?_) (λhb=>?_)
   ·have hb:=oY hb;omega
   ·have nw:=Tree.pp (Ib _ hu hlen)
    refine cr nw.1 (aq λx3 h3=>?_)
    have c1:kH 8 x3.1:=by rw[h3];exact nw.2.1
    have rn:=Tree.pp (zag c1)
    refine aa (λ_=>cr rn.1 (aq λx4 hx=>?_)) (λ_=>c1)
    have e:x3=kI 8 4 (s9++(x2++cP (96-x2.length) 0)):=by
     rw[h3]
     have Ih:(x2++cP (96-x2.length) (0:Int)).length=96:=by rw[lA,cU];omega
     refine zg _ _ hlen (by rw[lA,Ih];omega) ?_
     rw[lA,lA,Ih,hp,dD,dD,dD,show 256-(160+96)=0 by omega,show 256-(160+x2.length)=96-x2.length by omega]
     simp
    have h0:x4.2.2.2=0:=by
     rw[hx,e]
     exact zX _ (by rw[lA,cU];omega)
    exact(by rw[hx];exact rn.2:x4.2.2.2=0->kH 8 x4.1) h0
 ·have hk:=oN hk
  refine bm (J8 l hl) λx2 ⟨b1,b2⟩=>ax (dY (by omega)) ?_
  refine aa (λhb=>?_) (λhb=>?_)
  ·have hb:=oY hb;omega
  ·have nw:=Tree.pp (Ib _ b2 (by omega))
   refine cr nw.1 (aq λx3 h3=>?_)
   have c1:kH 8 x3.1:=by rw[h3];exact nw.2.1
   exact aa (λh=>absurd (eq_of_beq h) (by omega)) (λ_=>c1)
def out(f:Int)(m m':List Int):Prop:=∀j:Nat,¬(f*32<=j/\(j:Int)<f*32+32)->m'.getD j 0=m.getD j 0
theorem Kq(f:Int)(m:List Int):out f m m:=λ_ _=>rfl
theorem u7(l:List Int)(i j:Nat)(v:Int)(h:i≠j):(l.set i v).getD j 0=l.getD j 0:=by
 simp only[dC,List.getElem?_set_ne h]
theorem rl{P:Nat}{m:List Int}(h:ei P m):lC m=P:=by
 obtain⟨h1,h2,h3,_⟩:=h
 simp only[lC,Kr,Tree.m]
 have e:(m.length:Int)=32*P:=by omega
 rw[e]
 have e1:(dE (32*(P:Int)) 32 !=0)=false:=by simp[Int.mul_tmod_right]
 have e2:decide ((32*(P:Int))>1024)=false:=dN (by omega)
 rw[e1,e2]
 simp only[cond_false]
 rw[Int.mul_tdiv_cancel_left _ (by decide),wrap_i64];omega
theorem yX{P:Nat}{m:List Int}(h:ei P m)(f:Int):Ii m f=true->0<=f/\f<P:=by
 have hp:=rl h
 simp only[Ii,Nk,Tree.m,dj,hp]
 cases h1:decide (f>=0)
 ·intro h;cases h
 ·intro h;exact⟨oY h1,oY h⟩
theorem V5{P:Nat}{m:List Int}(h:ei P m)(f:Int)(s:List UInt8):(FZ m f s).w (λr=>ei P r.1/\out f m r.1/\(r.2=false->r.1=m)):=by
 have gp:jy m=m:=rfl
 have h2:=h.p2
 unfold FZ
 refine cr (rm h) (aq λx0 mU=>aq λx1 nm=>?_)
 rw[gp]at mU;subst mU
 refine aa (λ_=>⟨h,Kq _ _,λ_=>rfl⟩) λhb=>aa (λ_=>⟨h,Kq _ _,λ_=>rfl⟩) λhs=>?_
 have hb:x1=true:=by simpa using hb
 obtain⟨f0,f1⟩:=yX h f (nm.symm.trans hb)
 have hs:(s.length:Int)=128:=by simpa using hs
 refine fg (inv:=λz:Int×List Int=>0<=z.1/\z.1<=32/\ei P z.2/\out f x0 z.2) (μ:=V6 x0 f s) ⟨show(0:Int)<=0 by decide,show(0:Int)<=32 by decide,h,Kq _ _⟩ (cO _) λz ⟨z1,z2,z3,z4⟩=>?_
 refine aa (λhb=>?_) (λ_=>⟨z3,z4,λh=>by cases h⟩)
 have hb:=oY hb
 have e1:i64.wrap (4*z.1)=4*z.1:=by rw[wrap_i64];omega
 have e2:i64.wrap (i64.wrap (4*z.1)+4)=4*z.1+4:=by rw[wrap_i64,wrap_i64];omega
 have e3:i64.wrap (i64.wrap (f*32)+z.1)=f*32+z.1:=by rw[wrap_i64,wrap_i64];omega
 have hl:=z3.len
 have hlen:(cZ (dF (i64.wrap (i64.wrap (4*z.1)+4))-dF (i64.wrap (4*z.1))) (dA (dF (i64.wrap (4*z.1))) s)).length=4:=by
  rw[e2,e1,bD,bF];omega
 refine ax (dY (by rw[e2,e1];omega)) ?_
 refine ax (dY (by rw[hlen];decide)) (ax (dY (by rw[hlen];decide)) (ax (dY (by rw[hlen];decide)) (ax (dY (by rw[hlen];decide)) (ax (by rw[e3];simp[bJ];omega) (ek ?_)))))
 show(_/\_/\ei P (dG _ _ _)/\out f x0 (dG _ _ _))/\(_:Nat)<_
 have ew:i64.wrap (z.1+1)=z.1+1:=by rw[wrap_i64];omega
 rw[e3]
 refine⟨⟨by rw[ew];omega,by rw[ew];omega,⟨by rw[dH];exact hl,z3.p1,z3.p2,Dm z3.u (mC _ _) _⟩,λj hj=>?_⟩,by show(32-i64.wrap (z.1+1)).toNat<(32-z.1).toNat;rw[ew];omega⟩
 rw[u7 _ _ _ _ (by omega)]
 exact z4 j hj
theorem qaA(w:List Int)(h:w.length<=32):(Eu w).w (λr=>r.length=4*w.length):=by
 have e0:i64.wrap (4*(w.length:Int))=4*w.length:=by rw[wrap_i64];omega
 unfold Eu
 refine ax (by rw[e0];simp[bJ,D.plain];omega) ?_
 refine fg (inv:=λz:Int×List Int=>0<=z.1/\z.1<=w.length/\(z.2.length:Int)=4*z.1) (μ:=Nl w) ⟨by decide,by show(0:Int)<=w.length;omega,rfl⟩ (cO _) λz ⟨z1,z2,z3⟩=>?_
 refine aa (λhb=>?_) (λhb=>?_)
 ·have hb:=oY hb
  have ew:i64.wrap (z.1+1)=z.1+1:=by rw[wrap_i64];omega
  refine ax (by simp[bJ];omega) (ax (dY (by omega)) (ek ?_))
  show(_/\_/\_)/\(_:Nat)<_
  refine⟨⟨by rw[ew];omega,by rw[ew];omega,by rw[ew,lA];simp only[dI,dJ];omega⟩,by show(w.length-i64.wrap (z.1+1)).toNat<(w.length-z.1).toNat;rw[ew];omega⟩
 ·have hb:=oN hb
  show(bytesOf z.2).length=_
  rw[Nn];omega
theorem V7{P:Nat}{m:List Int}(h:ei P m)(f:Int):(F0 m f).w (λr=>0<=f->f<P->r.1.length=128):=by
 have hl:=h.len
 have h2:=h.p2
 unfold F0
 refine aq λx0 mU=>aa (λhb=>λf0 f1=>?_) (λhb=>?_)
 ·have hp:=rl h
  have hb:x0=false:=by simpa using hb
  rw[hb]at mU
  simp only[Ii,Nk,Tree.m,dj,hp]at mU
  rw[dY f0]at mU
  exact absurd f1 (oN mU.symm)
 ·have hb:x0=true:=by simpa using hb
  obtain⟨f0,f1⟩:=yX h f (mU.symm.trans hb)
  have e1:i64.wrap (f*32)=f*32:=by rw[wrap_i64];omega
  have e2:i64.wrap (i64.wrap (f*32)+32)=f*32+32:=by rw[wrap_i64,wrap_i64];omega
  have hlen:(cZ (dF (i64.wrap (i64.wrap (f*32)+32))-dF (i64.wrap (f*32))) (dA (dF (i64.wrap (f*32))) m)).length=32:=by
   rw[e2,e1,bD,bF];omega
  refine ax (by rw[e2,e1];simp[bJ];omega) ?_
  refine cr (by show dK _<=1000000000000;rw[hlen];decide) (aq λx1 h1=>?_)
  have h1:x1.length=4*(cZ (dF (i64.wrap (i64.wrap (f*32)+32))-dF (i64.wrap (f*32))) (dA (dF (i64.wrap (f*32))) m)).length:=by rw[h1];exact(Tree.pp (qaA _ (dL hlen))).2
  intro _ _
  show x1.length=128
  rw[h1,hlen]
theorem Sl{f:Int}(hf:U f){P:Nat}(hP:P<=32)(h:decide (u64.wrap f<u64.wrap (P:Int))=true):0<=f/\f<P:=by
 have h:=oY h
 obtain⟨h1,h2⟩:=hf
 rw[wrap_u64,wrap_u64,dM h1 (by omega),dM (by omega) (by omega)]at h
 exact⟨h1,h⟩
theorem Zlx{P:Nat}{m:List Int}(h:ei P m){d:fe}(hd:oc d)(e:jX):(Ks d m e).w (λr=>oc r.1/\ei P r.2.1/\out d.B0 m r.2.1/\(r.2.2=false->r.2.1=m)/\(∀p,j5 d p=true->j5 r.1 p=true)):=by
 have gp:jy m=m:=rfl
 have cq:∀b:Bool,oc d/\ei P m/\out d.B0 m m/\(b=false->m=m)/\(∀p,j5 d p=true->j5 d p=true):=λb=>⟨hd,h,Kq _ _,λ_=>rfl,λ_ h=>h⟩
 have F1:∀{p:Int},j5 d p=true->decide (d.ab>64)=false:=fun{p} hm=>by
  cases hb:decide (d.ab>64)
  ·rfl
  ·have:j5 d p=false:=by simp only[j5,u9,Tree.m];rw[hb];rfl
   rw[this]at hm;cases hm
 have m2:∀p,j5 d p=true->j5 {ab:=d.ab,B9:=d.B9,Frame:=d.Frame,B5:=2,D1:=0,B4:=0,B0:=0,B6:=[]} p=true:=λp hm=>by
  simp only[j5,u9,Tree.m];rw[F1 hm];rfl
 have m3:∀p,j5 d p=true->j5 {ab:=d.ab,B9:=d.B9,Frame:=d.Frame,B5:=3,D1:=0,B4:=0,B0:=0,B6:=[]} p=true:=λp hm=>by
  simp only[j5,u9,Tree.m];rw[F1 hm];rfl
 unfold Ks
 refine aa (λ_=>cr (rm h) (aq λx hx=>by rw[gp]at hx;subst hx;exact cq _)) λ_=>aa (λ_=>cr (rm h) (aq λx hx=>by rw[gp]at hx;subst hx;exact cq _)) λ_=>aa (λ_=>cr (rm h) (aq λx hx=>by rw[gp]at hx;subst hx;exact cq _)) λ_=>cr (rm h) (aq λx3 F3=>?_)
 rw[gp]at F3;subst F3
 have fin:∀{m':List Int},ei P m'->out d.B0 x3 m'->(Tree.br (e.N==1) (.lf (({ab:=d.ab,B9:=d.B9,Frame:=d.Frame,B5:=2,D1:=0,B4:=0,B0:=0,B6:=[]}:fe),m',true)) (.lf (({ab:=d.ab,B9:=d.B9,Frame:=d.Frame,B5:=3,D1:=0,B4:=0,B0:=0,B6:=[]}:fe),m',true))).w (λr=>oc r.1/\ei P r.2.1/\out d.B0 x3 r.2.1/\(r.2.2=false->r.2.1=x3)/\(∀p,j5 d p=true->j5 r.1 p=true)):=λhm ho=>
  aa (λ_=>⟨⟨hd.block,hd.frame,eh,eh⟩,hm,ho,(λh=>by cases h),m2⟩) (λ_=>⟨⟨hd.block,hd.frame,eh,eh⟩,hm,ho,(λh=>by cases h),m3⟩)
 have nod:(Tree.br (!decide (e.D2=[])) (.lf (d,x3,false)) (Tree.br (e.N==1) (.lf (({ab:=d.ab,B9:=d.B9,Frame:=d.Frame,B5:=2,D1:=0,B4:=0,B0:=0,B6:=[]}:fe),x3,true)) (.lf (({ab:=d.ab,B9:=d.B9,Frame:=d.Frame,B5:=3,D1:=0,B4:=0,B0:=0,B6:=[]}:fe),x3,true)))).w (λr=>oc r.1/\ei P r.2.1/\out d.B0 x3 r.2.1/\(r.2.2=false->r.2.1=x3)/\(∀p,j5 d p=true->j5 r.1 p=true)):=
  aa (λ_=>cq _) (λ_=>fin h (Kq _ _))
 refine aa (λ_=>aa (λ_=>aq λx4 No=>aa (λ_=>cq _) λhb=>?_) (λ_=>nod)) (λ_=>nod)
 have hp:=rl h
 have hb:x4=true:=by simpa using hb
 rw[hb]at No
 simp only[Ij,Np,Tree.m,dj,hp]at No
 obtain⟨f0,f1⟩:=Sl hd.gr h.p2 No.symm
 have ef:i64.wrap d.B0=d.B0:=by have:=h.p2;rw[wrap_i64];omega
 refine bm (V5 h _ _) λx5 ⟨h5,o5,k5⟩=>?_
 rw[ef]at o5
 exact aa (λhf=>⟨hd,h5,o5,λ_=>k5 (by simpa using hf),λ_ h=>h⟩) (λ_=>fin h5 o5)
theorem vg{P:Nat}{m:List Int}(h:ei P m){n:gq}(hn:oR n)(frame:List UInt8):(Kt n m frame).w (λr=>oR r.1/\ei P r.2.1/\out n.B7 m r.2.1/\(r.2.2=false->r.2.1=m)/\(∀p,oU n p=true->oU r.1 p=true)):=by
 have gp:jy m=m:=rfl
 have cq:oR n/\ei P m/\out n.B7 m m/\(false=false->m=m)/\(∀p,oU n p=true->oU n p=true):=⟨hn,h,Kq _ _,λ_=>rfl,λ_ h=>h⟩
 unfold Kt
 refine aa (λ_=>cr (rm h) (aq λx hx=>by rw[gp]at hx;subst hx;exact cq)) λhpo=>aa (λ_=>cr (rm h) (aq λx hx=>by rw[gp]at hx;subst hx;exact cq)) λl1=>aa (λ_=>cr (rm h) (aq λx hx=>by rw[gp]at hx;subst hx;exact cq)) λl2=>aq λx3 F3=>aa (λ_=>cr (rm h) (aq λx hx=>by rw[gp]at hx;subst hx;exact cq)) λhb=>?_
 have l1:=oN l1
 have l2:=oN l2
 have hp:=rl h
 have hb:x3=true:=by simpa using hb
 rw[hb]at F3
 simp only[F4,Nq,Tree.m,dj,hp]at F3
 obtain⟨f0,f1⟩:=Sl hn.buffer h.p2 F3.symm
 have ef:i64.wrap n.B7=n.B7:=by have:=h.p2;rw[wrap_i64];omega
 refine bm (V7 h _) λx5 h5=>?_
 rw[ef]at h5
 have h5:=h5 f0 f1
 have BE:(maxLen:Nat)=9223372036854775807:=rfl
 refine ax (dY (by omega)) (ax (dY (by simp only[bD,bF,BE];omega)) (bm (V5 h _ _) λx6 ⟨h6,o6,_⟩=>?_))
 rw[ef]at o6
 have hg:u32.wrap (frame.length:Int)=frame.length:=by rw[wrap_u32];omega
 refine⟨⟨hn.frame,hn.len,eh,fj _⟩,h6,o6,(λh=>by cases h),λp _=>?_⟩
 simp only[oU,Ku,Tree.m]
 rw[hg,dY (show(frame.length:Int)>=1 by omega),dY (show(frame.length:Int)<=128 by omega)]
 rfl
theorem xag(c:iO)(b:Int):(Nr c b).w (λr=>ta c=true->ta r.1=true):=by
 have BE:(maxLen:Nat)=9223372036854775807:=rfl
 unfold Nr
 refine aa (λ_=>λh=>h) (λhb=>?_)
 have hb:=oN hb
 refine ax (dY (by rw[BE];omega)) ?_
 intro _
 show decide (((c.C5++[_]).length:Int)<=16)=true
 rw[lA,cX]
 exact dY (by omega)
theorem vG(t:iS)(h:te t=true):te (Sm t).1=true:=by
 simp only[Sm,V8,Tree.m]
 cases ha:t.C9
 ·exact h
 ·rfl
theorem qh(m:au):se m=(ta m.A2&&(te m.A7&&(j5 m.A6 (lC m.Mem)&&(oU m.C1 (lC m.Mem)&&tV m.A1 (lC m.Mem))))):=by
 simp only[se,Dn,Tree.m,dj]
 cases ta m.A2<;>cases te m.A7<;>cases j5 m.A6 (lC m.Mem)<;>cases oU m.C1 (lC m.Mem)<;>rfl
theorem zaA{b c:gh}(h:c.C0=b.C0)(p:Int):tV c p=tV b p:=by
 simp only[tV,F5,Tree.m,h]
theorem Ik{a x y:Bool}(h:x=true->y=true):(bif a then false else x)=true->(bif a then false else y)=true:=by cases a<;>simp_all
def chain(b1 b2 b3 b4 b5 b6 b7 w h dev:Bool):Bool:=bif b1 then false else bif b2 then false else bif b3 then false else bif b4 then false else bif b5 then false else bif b6 then false else bif b7 then false else bif w then(bif h then false else dev)else dev
theorem Zmo{b1 b2 b3 b4 b5 b6 b7 w h d d':Bool}(hd:d=true->d'=true):chain b1 b2 b3 b4 b5 b6 b7 w h d=true->chain b1 b2 b3 b4 b5 b6 b7 w h d'=true:=by
 refine Ik (Ik (Ik (Ik (Ik (Ik (Ik ?_))))))
 cases w
 ·exact hd
 ·cases h
  ·exact hd
  ·exactλh=>h
def Ev(p:Int)(c:bg)(ct:Int)(w h dev:Bool):Bool:=chain (p==0) (c.X.a0 !=0) (decide (c.B2.a0>31)) (decide (c.B2.a7>31)) (decide (c.B2.a6>255)) (dE c.B2.a1 4 !=0) (decide (ct>1152921504606846976)) w h dev
theorem xh{p:Int}{c:bg}{ct:Int}{w h d d':Bool}(hd:d=true->d'=true)(g:Ev p c ct w h d=true):Ev p c ct w h d'=true:=Zmo hd g
theorem vX(m:au):mF m=Ev (lC m.Mem) m.A9 m.A0 m.A3 m.A4 (se m):=rfl
theorem Qs{m n:au}(hp:lC n.Mem=lC m.Mem)(V9:n.A9=m.A9)(Ns:n.A0=m.A0)(hw:n.A3=m.A3)(hh:n.A4=m.A4)
 (hc:ta m.A2=true->ta n.A2=true) (ht:te m.A7=true->te n.A7=true) (hd:∀p,j5 m.A6 p=true->j5 n.A6 p=true) (hn:∀p,oU m.C1 p=true->oU n.C1 p=true) (hb:n.A1.C0=m.A1.C0) (h:mF m=true):mF n=true:=by
 have dev:se m=true->se n=true:=λh=>by
  rw[qh]at h⊢
  simp only[aE]at h⊢
  rw[hp,zaA hb]
  exact⟨hc h.1,ht h.2.1,hd _ h.2.2.1,hn _ h.2.2.2.1,h.2.2.2.2⟩
 rw[vX]at h⊢
 rw[hp,V9,Ns,hw,hh]
 exact xh dev h
section
variable {P:Nat} {m:List Int} (h:ei P m)
include h
theorem Nt{f:Int}(hf:U f){b:Bool}(hx:b=Ij m f)(hb:b=true):0<=f/\f<P:=by
 have hp:=rl h
 rw[hb]at hx
 simp only[Ij,Np,Tree.m,dj,hp]at hx
 exact Sl hf h.p2 hx.symm
theorem F6{f:Int}(hf:U f){b:Bool}(hx:b=F4 m f)(hb:b=true):0<=f/\f<P:=by
 have hp:=rl h
 rw[hb]at hx
 simp only[F4,Nq,Tree.m,dj,hp]at hx
 exact Sl hf h.p2 hx.symm
def sf(P:Nat)(d d':fe):Prop:=oc d'/\(j5 d P=true->j5 d' P=true)
theorem zh{d:fe}(hd:oc d){cmd:Int}(hc:cmd=1\/cmd=2)(dk:Int):(Kv d m cmd dk).w (λr=>sf P d r.1/\r.2.length<=1):=by
 have h2:=h.p2
 have st3:(d.B5 !=0)=false->sf P d {ab:=d.ab,B9:=d.B9,Frame:=d.Frame,B5:=3,D1:=d.D1,B4:=d.B4,B0:=d.B0,B6:=d.B6}:=λhs=>by
  have hs:d.B5=0:=by simpa using hs
  refine⟨⟨hd.block,hd.frame,hd.j6,hd.gr⟩,λhm=>?_⟩
  simp only[j5,u9,Tree.m,hs]at hm⊢
  exact hm
 have F1:j5 d P=true->decide (d.ab>64)=false:=λhm=>by
  cases hb:decide (d.ab>64)
  ·rfl
  ·have:j5 d P=false:=by simp only[j5,u9,Tree.m];rw[hb];rfl
   rw[this]at hm;cases hm
 unfold Kv
 refine aa (λ_=>⟨⟨hd,λh=>h⟩,aT _⟩) λhs=>aa (λ_=>⟨st3 hs,aT _⟩) λhb=>aq λx0 hx=>aa (λ_=>⟨st3 hs,aT _⟩) λhp=>?_
 have hb:=oN hb
 obtain⟨f0,f1⟩:=Nt h hd.frame hx (by simpa using hp)
 have ef:i64.wrap d.Frame=d.Frame:=by rw[wrap_i64];omega
 have e1:decide (d.B9<d.ab)=true:=dY (by omega)
 have e2:decide (i64.wrap d.Frame<(P:Int))=true:=by rw[ef];exact dY f1
 refine aa (λAb=>bm (V7 h _) λx1 h1=>?_) (λAb=>?_)
 ·rw[ef]at h1
  have h1:=h1 f0 f1
  have Ab:=eq_of_beq Ab
  subst Ab
  refine aq λx2 _=>⟨⟨⟨hd.block,hd.frame,hd.block,hd.frame⟩,λhm=>?_⟩,aO _⟩
  simp only[j5,u9,Nu,Il,Tree.m,dj,F1 hm,e1,e2,h1]
  rfl
 ·have hc:cmd=1:=by
   rcases hc with h|h
   ·exact h
   ·rw[h]at Ab;exact absurd Ab (by decide)
  subst hc
  refine aq λx2 _=>⟨⟨⟨hd.block,hd.frame,hd.block,hd.frame⟩,λhm=>?_⟩,aO _⟩
  simp only[j5,u9,Nu,Il,Tree.m,dj,F1 hm,e1,e2]
  rfl
theorem qah{d:fe}(hd:oc d)(port:Int){v:Int}(hv:U v)(dk:Int):(Kw d m port v dk).w (λr=>sf P d r.1/\r.2.length<=1):=by
 have cq:sf P d d:=⟨hd,λh=>h⟩
 have e1:∀{k:Int},(v==k)=true->i64.wrap v=k:=λhk=>by
  have:=eq_of_beq hk
  obtain⟨a,b⟩:=hv
  rw[wrap_i64];omega
 unfold Kw
 refine aa (λ_=>⟨⟨⟨hv,hd.frame,hd.j6,hd.gr⟩,λh=>h⟩,aT _⟩) λ_=>aa (λ_=>⟨⟨⟨hd.block,hv,hd.j6,hd.gr⟩,λh=>h⟩,aT _⟩) λ_=>aa (λ_=>aa (λhk=>bm (zh h hd (.inl (e1 hk)) _) λx hx=>hx) λ_=>aa (λhk=>bm (zh h hd (.inr (e1 hk)) _) λx hx=>hx) λ_=>aa (λ_=>aq λx hx=>aa (λhb=>?_) (λ_=>⟨cq,aT _⟩)) (λ_=>⟨cq,aT _⟩)) (λ_=>⟨cq,aT _⟩)
 refine⟨⟨⟨hd.block,hd.frame,hd.j6,hd.gr⟩,λhm=>?_⟩,aT _⟩
 rw[hb]at hx
 simp only[Kx,Qj,Tree.m]at hx
 cases h2:d.B5==2
 ·rw[h2]at hx
  have h3:d.B5=3:=eq_of_beq hx.symm
  simp only[j5,u9,Tree.m,h3]at hm⊢
  exact hm
 ·have h3:d.B5=2:=eq_of_beq h2
  simp only[j5,u9,Tree.m,h3]at hm⊢
  exact hm
def BJ(P:Nat)(n n':gq):Prop:=oR n'/\(oU n P=true->oU n' P=true)
theorem xaA{n:gq}(hn:oR n)(dk:Int):(Ky n m dk).w (λr=>r.length<=1):=by
 have h2:=h.p2
 unfold Ky
 refine aa (λ_=>aT _) λl1=>aa (λ_=>aT _) λl2=>aq λx0 hx=>aa (λ_=>aT _) λhp=>bm (V7 h _) λx1 h1=>?_
 have l1:=oN l1
 have l2:=oN l2
 obtain⟨f0,f1⟩:=F6 h hn.frame hx (by simpa using hp)
 have ef:i64.wrap n.Frame=n.Frame:=by rw[wrap_i64];omega
 rw[ef]at h1
 have h1:=h1 f0 f1
 exact ax (dY (by omega)) (aO _)
theorem qaB{n:gq}(hn:oR n)(port:Int){v:Int}(hv:U v)(dk:Int):(Kz n m port v dk).w (λr=>BJ P n r.1/\r.2.length<=1):=by
 have h2:=h.p2
 have cq:BJ P n n:=⟨hn,λh=>h⟩
 unfold Kz
 refine aa (λ_=>⟨⟨⟨hv,hn.len,hn.buffer,hn.F7⟩,λh=>h⟩,aT _⟩) λ_=>aa (λ_=>⟨⟨⟨hn.frame,hv,hn.buffer,hn.F7⟩,λh=>h⟩,aT _⟩) λ_=>aa (λ_=>aa (λ_=>bm (xaA h hn _) λx hx=>⟨cq,hx⟩) λ_=>aa (λ_=>aq λx hx=>aa (λhb=>aa (λnp=>aa (λnr=>?_) (λ_=>⟨cq,aT _⟩)) (λ_=>⟨cq,aT _⟩)) (λ_=>⟨cq,aT _⟩)) λ_=>aa (λ_=>?_) (λ_=>⟨cq,aT _⟩)) (λ_=>⟨cq,aT _⟩)
 ·obtain⟨f0,f1⟩:=F6 h hn.frame hx hb
  have np:n.C2=false:=by simpa using np
  have nr:n.B3=false:=by simpa using nr
  have e2:decide (i64.wrap n.Frame>=(P:Int))=false:=dN (by rw[wrap_i64];omega)
  refine⟨⟨⟨hn.frame,hn.len,hn.frame,hn.F7⟩,λhm=>?_⟩,aT _⟩
  simp only[oU,Ku,Tree.m,np,nr,e2]at hm⊢
  cases hb:(n.B7 !=0)
  ·rw[hb]at hm;exact hm
  ·rw[hb]at hm;cases hm
 ·refine⟨⟨⟨hn.frame,hn.len,hn.buffer,eh⟩,λhm=>?_⟩,aT _⟩
  simp only[oU,Ku,Tree.m]at hm⊢
  revert hm
  cases n.C2<;>cases n.B3<;>cases decide (i64.wrap n.B7>=(P:Int))<;>cases(n.B7 !=0)<;>simp
end
theorem zah(t:iS)(v:Int):te (Nv t v)=true:=by
 simp only[Nv,Sn,te,So,Tree.m]
 cases h:(v !=0)
 ·have:v=0:=by simpa using h
  subst this;rfl
 ·rfl
theorem Dp{a:Int}(k:Nat)(hk:k<=32):bf .u32 a k=a/2^k:=by
 unfold bf
 have e:min (k:Int).toNat u32.bits=k:=by show min (k:Int).toNat 32=k;omega
 have hp:(0:Int)<2^k:=dO (by decide)
 rw[e,dP _ (dQ hp)]
def KA(x:Int)(n:Nat):Prop:=x<2^n/\(n=0\/(2:Int)^(n-1)<=x)
theorem Wa{x q:Int}{n k:Nat}(hq:q=x/2^k)(h0:0<q)(h:KA q n):KA x (n+k):=by
 have hp:(0:Int)<2^k:=dO (by decide)
 obtain⟨h1,h2⟩:=h
 have hn:n≠0:=λe=>by subst e;simp at h1;omega
 refine⟨?_,.inr ?_⟩
 ·rw[dR]
  have:x<(x/2^k+1)*2^k:=Int.lt_ediv_add_one_mul_self x hp
  have h3:(x/2^k+1)*2^k<=2^n*2^k:=dS (by omega) (dQ hp)
  omega
 ·have h2:=h2.resolve_left hn
  have e:n+k-1=(n-1)+k:=by omega
  rw[e,dR]
  have h3:(2:Int)^(n-1)*2^k<=q*2^k:=dS h2 (dQ hp)
  have h4:q*2^k<=x:=by rw[hq];exact Int.ediv_mul_le x (Int.ne_of_gt hp)
  omega
theorem qH{x:Int}{n p:Nat}(h:KA x n)(hx:x<2^p):n<=p:=by
 obtain⟨h1,h2⟩:=h
 rcases h2 with h2|h2
 ·omega
 ·rcases Nat.lt_or_ge p n with cj|pk
  ·have:(2:Int)^p<=2^(n-1):=by
    have:=dT (show 0<2 by omega) (show p<=n-1 by omega)
    exact_mod_cast this
   omega
  ·exact pk
theorem Zh{x:Int}{n p:Nat}(h:KA x n)(hn:n<=p):x<2^p:=by
 have:(2:Int)^n<=2^p:=by
  have:=dT (show 0<2 by omega) hn
  exact_mod_cast this
 exact Int.lt_of_lt_of_le h.1 this
def BK(i:Nat):Bool:=match(wa (i:Int))with
 |.ofNat n=>decide ((i:Int)<2^n)&&(Nat.beq n 0||decide ((2:Int)^(n-1)<=i))&&decide (n<=8)
 |_=>false
theorem Sp{q:Int}(h0:0<=q)(h1:q<256):∃n:Nat,wa q=n/\KA q n/\n<=8:=by
 have all:List.all (dB 256) BK=true:=by kernel_rfl
 have:=List.all_eq_true.1 all q.toNat (List.mem_range.2 (by omega))
 have hq:((q.toNat:Nat):Int)=q:=by omega
 unfold BK at this
 rw[hq]at this
 split at this
 ·rename_i n hn
  simp only[aE,aI,decide_eq_true_eq]at this
  refine⟨n,hn,⟨this.1.1,?_⟩,this.2⟩
  rcases this.1.2 with h|h
  ·exact .inl (bE h)
  ·exact .inr h
 ·cases this
theorem zaB{x:Int}(h:U x)(hx:16777216<=x):wa x=24+wa (x/16777216):=by
 obtain⟨h0,h1⟩:=h
 have AN:bf .u32 x 16=x/65536:=Dp 16 (by omega)
 have tW:bf .u32 (x/65536) 8=x/16777216:=by rw[show((8:Int))=((8:Nat):Int) from rfl,Dp 8 (by omega)];omega
 have d1:decide (x>=65536)=true:=dY (by omega)
 have d2:decide (x/65536>=256)=true:=dY (by omega)
 have d3:decide (x/16777216>=65536)=false:=dN (by omega)
 have d4:decide (x/16777216>=256)=false:=dN (by omega)
 have u:u8.wrap (x/16777216)=x/16777216:=by rw[wrap_u8];omega
 simp only[wa,Dq,Tree.m,AN,tW,d1,d2,d3,d4,u,cond_true,cond_false]
 generalize(aK _ (dF (x/16777216)) (0:UInt8))=b
 have hb:=dU b
 rw[wrap_i64,wrap_i64,wrap_i64,wrap_i64]
 omega
theorem xaB{x:Int}(h0:65536<=x)(h1:x<16777216):wa x=16+wa (x/65536):=by
 have AN:bf .u32 x 16=x/65536:=Dp 16 (by omega)
 have d1:decide (x>=65536)=true:=dY (by omega)
 have d2:decide (x/65536>=256)=false:=dN (by omega)
 have d3:decide (x/65536>=65536)=false:=dN (by omega)
 have u:u8.wrap (x/65536)=x/65536:=by rw[wrap_u8];omega
 simp only[wa,Dq,Tree.m,AN,d1,d2,d3,u,cond_true,cond_false]
 generalize(aK _ (dF (x/65536)) (0:UInt8))=b
 have hb:=dU b
 rw[wrap_i64,wrap_i64,wrap_i64]
 omega
theorem Nw{x:Int}(h0:256<=x)(h1:x<65536):wa x=8+wa (x/256):=by
 have s8:bf .u32 x 8=x/256:=Dp 8 (by omega)
 have d1:decide (x>=65536)=false:=dN (by omega)
 have d2:decide (x>=256)=true:=dY (by omega)
 have d3:decide (x/256>=65536)=false:=dN (by omega)
 have d4:decide (x/256>=256)=false:=dN (by omega)
 have u:u8.wrap (x/256)=x/256:=by rw[wrap_u8];omega
 simp only[wa,Dq,Tree.m,s8,d1,d2,d3,d4,u,cond_true,cond_false]
 generalize(aK _ (dF (x/256)) (0:UInt8))=b
 have hb:=dU b
 rw[wrap_i64,wrap_i64,wrap_i64,wrap_i64]
 omega
theorem Zlq{x:Int}(h:U x):∃n:Nat,wa x=n/\KA x n:=by
 obtain⟨h0,h1⟩:=h
 rcases dV x 256 with a|a
 ·obtain⟨n,e,l,_⟩:=Sp h0 a
  exact⟨n,e,l⟩
 ·rcases dV x 65536 with b|b
  ·obtain⟨n,e,l,_⟩:=Sp (q:=x/256) (by omega) (by omega)
   exact⟨n+8,by rw[Nw a b,e];omega,Wa (k:=8) rfl (by omega) l⟩
  ·rcases dV x 16777216 with c|c
   ·obtain⟨n,e,l,_⟩:=Sp (q:=x/65536) (by omega) (by omega)
    exact⟨n+16,by rw[xaB b c,e];omega,Wa (k:=16) rfl (by omega) l⟩
   ·obtain⟨n,e,l,_⟩:=Sp (q:=x/16777216) (by omega) (by omega)
    exact⟨n+24,by rw[zaB ⟨h0,h1⟩ c,e];omega,Wa (k:=24) rfl (by omega) l⟩
theorem Nx{b:gh}(h:U b.C0){P:Nat}:tV b P=true↔b.C0<2^P:=by
 obtain⟨n,e,l⟩:=Zlq h
 have hp:(if(0:Int)>(P:Int)then(0:Int)else P)=P:=by rw[if_neg (by omega)]
 simp only[tV,F5,Tree.m,dj,e,hp,decide_eq_true_eq]
 constructor
 ·intro h;exact Zh l (by omega)
 ·intro h;have:=qH l h;omega
theorem Wb{a:Int}(h:U a){P:Nat}(h1:a<2^P):(dW 32 a).toNat<2^P:=by
 obtain⟨a0,a1⟩:=h
 rw[dX,dM a0 (by omega)]
 have:((2^P:Nat):Int)=(2:Int)^P:=by exact_mod_cast rfl
 omega
theorem Ny{a b:Int}(ha:U a)(hb:U b){P:Nat}(hP:P<=32)(h1:a<2^P)(h2:b<2^P):ie .u32 a b<2^P:=by
 have e:(dW 32 a|||dW 32 b).toNat<2^P:=by
  rw[dZ]
  exact Nat.or_lt_two_pow (Wb ha h1) (Wb hb h2)
 have hc:((2^P:Nat):Int)=(2:Int)^P:=by exact_mod_cast rfl
 have l:=(dW 32 a|||dW 32 b).isLt
 show wrap .u32 ((dW 32 a|||dW 32 b).toNat:Int)<2^P
 rw[wrap_u32]
 omega
theorem xah{a b:Int}(ha:U a){P:Nat}(h1:a<2^P):nC .u32 a b<2^P:=by
 have e:(dW 32 a&&&~~~dW 32 b).toNat<2^P:=by
  rw[eA]
  exact Nat.lt_of_le_of_lt eB (Wb ha h1)
 have hc:((2^P:Nat):Int)=(2:Int)^P:=by exact_mod_cast rfl
 have l:=(dW 32 a&&&~~~dW 32 b).isLt
 show wrap .u32 ((dW 32 a&&&~~~dW 32 b).toNat:Int)<2^P
 rw[wrap_u32]
 omega
theorem yh{v:Int}(h0:0<=v)(h1:v<32):ea .u32 1 v=2^v.toNat:=by
 have e:min v.toNat u32.bits=v.toNat:=by show min v.toNat 32=v.toNat;omega
 obtain⟨n,rfl⟩:∃n:Nat,v=n:=⟨v.toNat,by omega⟩
 have hn:n<32:=by omega
 have cj:(2:Nat)^n<4294967296:=by
  have:=eC (show 1<2 by omega) hn
  simpa using this
 have hc:((2^n:Nat):Int)=(2:Int)^n:=by exact_mod_cast rfl
 unfold ea
 rw[e,wrap_u32,Int.one_mul,eD,<-hc]
 clear hc e
 generalize(2:Nat)^n=z at*
 omega
def BL(P:Nat)(b b':gh):Prop:=okB b'/\(tV b P=true->tV b' P=true)
theorem Zn1{P:Nat}{m:List Int}(h:ei P m){b:gh}(hb:okB b)(port:Int){v:Int}(hv:U v):(Dr b m port v).w (λr=>BL P b r.1/\ei P r.2):=by
 have gp:jy m=m:=rfl
 have h2:=h.p2
 have hp:=rl h
 have cq:(Tree.an (mh m) (.lv (jy m) λx=>.lf (b,x))).w (λr=>BL P b r.1/\ei P r.2):=cr (rm h) (aq λx hx=>by rw[gp]at hx;subst hx;exact⟨⟨hb,λh=>h⟩,h⟩)
 unfold Dr
 refine aa (λ_=>cq) λcj=>ax (dY hv.1) (aa (λ_=>aq λx1 hx=>aa (λIm=>aa (λ_=>cr ⟨by decide,by decide,by decide⟩ (aq λx2 _=>bm (V5 h _ _) λx3 ⟨h3,_⟩=>?_)) (λ_=>cq)) (λ_=>cq)) (λ_=>aa (λ_=>cr (rm h) (aq λx hx=>?_)) (λ_=>cq)))
 ·have cj:=oN cj
  have Im:=oY Im
  rw[hx,hp]at Im
  obtain⟨v0,v1⟩:=hv
  have ev:i64.wrap v=v:=by rw[wrap_i64];omega
  rw[ev]at Im
  refine⟨⟨⟨hb.1,fj _⟩,λhm=>?_⟩,h3⟩
  rw[Nx hb.2]at hm
  rw[Nx (fj _)]
  have hs:ea .u32 1 v<2^P:=by
   rw[yh v0 (by omega)]
   have:=eC (show 1<2 by omega) (show v.toNat<P by omega)
   exact_mod_cast this
  exact Ny hb.2 (fj _) h2 hm hs
 ·rw[gp]at hx;subst hx
  refine⟨⟨⟨hb.1,fj _⟩,λhm=>?_⟩,h⟩
  rw[Nx hb.2]at hm
  rw[Nx (fj _)]
  exact xah hb.2 hm
structure kept(P:Nat)(m n:au):Prop where
 ok:pN P n
 dev:se m=true->se n=true
 lS:n.A9=m.A9
 pM:n.A0=m.A0
 wait:n.A3=m.A3
 halt:n.A4=m.A4
theorem Zd3{P:Nat}{m:au}(h:pN P m):kept P m m:=⟨h,λh=>h,rfl,rfl,rfl,rfl⟩
theorem KB{P:Nat}{m n:au}(hm:ei P m.Mem)(hn:ei P n.Mem)(hc:ta m.A2=true->ta n.A2=true)(ht:te m.A7=true->te n.A7=true)
 (hd:j5 m.A6 P=true->j5 n.A6 P=true) (hk:oU m.C1 P=true->oU n.C1 P=true) (hb:tV m.A1 P=true->tV n.A1 P=true) (h:se m=true):se n=true:=by
 rw[qh]at h⊢
 rw[rl hm]at h
 rw[rl hn]
 simp only[aE]at h⊢
 exact⟨hc h.1,ht h.2.1,hd h.2.2.1,hk h.2.2.2.1,hb h.2.2.2.2⟩
theorem Zgt{P:Nat}{m:au}(h:pN P m)(port:Int){v:Int}(hv:U v)(dk:Int):(KC m port v dk).w (λr=>kept P m r.1/\r.2.length<=1):=by
 have k:=Zd3 h
 obtain⟨h1,h2,h3,h4,h5,h6⟩:=h
 have id:∀{p:Prop},p->p:=λh=>h
 have D:∀(x:fe×List fm),(sf P m.A6 x.1/\x.2.length<=1)->kept P m {A9:=m.A9,Mem:=m.Mem,A2:=m.A2,A7:=m.A7,A6:=x.1,C1:=m.C1,A1:=m.A1,A0:=m.A0,A3:=m.A3,A4:=m.A4}/\x.2.length<=1:=λx hx=>
  ⟨⟨⟨h1,h2,hx.1.1,h4,h5,h6⟩,KB h2 h2 id id hx.1.2 id id,rfl,rfl,rfl,rfl⟩,hx.2⟩
 have N:∀(x:gq×List fm),(BJ P m.C1 x.1/\x.2.length<=1)->kept P m {A9:=m.A9,Mem:=m.Mem,A2:=m.A2,A7:=m.A7,A6:=m.A6,C1:=x.1,A1:=m.A1,A0:=m.A0,A3:=m.A3,A4:=m.A4}/\x.2.length<=1:=λx hx=>
  ⟨⟨⟨h1,h2,h3,hx.1.1,h5,h6⟩,KB h2 h2 id id id hx.1.2 id,rfl,rfl,rfl,rfl⟩,hx.2⟩
 have B:∀(x:gh×List Int),(BL P m.A1 x.1/\ei P x.2)->kept P m {A9:=m.A9,Mem:=x.2,A2:=m.A2,A7:=m.A7,A6:=m.A6,C1:=m.C1,A1:=x.1,A0:=m.A0,A3:=m.A3,A4:=m.A4}/\([]:List fm).length<=1:=λx hx=>
  ⟨⟨⟨h1,hx.2,h3,h4,hx.1.1.1,hx.1.1.2⟩,KB h2 hx.2 id id id id hx.1.2,rfl,rfl,rfl,rfl⟩,aT _⟩
 unfold KC
 repeat'(first
  |exact⟨k,aO _⟩
  |exact⟨k,aT _⟩
  |exact aq λx hx=>⟨⟨⟨h1,h2,h3,h4,h5,h6⟩,KB h2 h2 id (λ_=>by rw[hx];exact zah _ _) id id id,rfl,rfl,rfl,rfl⟩,aT _⟩
  |exact bm (qah h2 h3 _ hv _) λx hx=>D x hx
  |exact bm (qaB h2 h4 _ hv _) λx hx=>N x hx
  |exact bm (Zn1 h2 ⟨h5,h6⟩ _ hv) λx hx=>B x hx
  |refine aa (λ_=>?_) (λ_=>?_))
theorem Z70(c:iO)(port:Int):(Io c port).w (λr=>U r.2/\(ta c=true->ta r.1=true)):=by
 have u1:U 4294967295:=⟨by omega,by omega⟩
 unfold Io
 refine aa (λ_=>aa (λ_=>⟨u1,λh=>h⟩) (λhb=>ax ?_ (ax ?_ ⟨fj _,λhm=>?_⟩))) (λ_=>aa (λ_=>⟨fj _,λh=>h⟩) (λ_=>⟨eh,λh=>h⟩))
 ·have hb:=oN hb
  have:0<c.C5.length:=List.length_pos_iff.2 hb
  simp[bJ];omega
 ·have hb:=oN hb
  have:0<c.C5.length:=List.length_pos_iff.2 hb
  exact dY (by omega)
 ·have hm:decide ((c.C5.length:Int)<=16)=true:=hm
  have hm:=oY hm
  show decide (((cZ _ (dA _ c.C5)).length:Int)<=16)=true
  refine dY ?_
  rw[bD,bF];omega
theorem Zm9{P:Nat}{m:au}(h:pN P m)(port:Int){clock:Int}(hc:U clock):(KD m port clock).w (λr=>kept P m r.1/\U r.2):=by
 have k:=Zd3 h
 obtain⟨h1,h2,h3,h4,h5,h6⟩:=h
 have id:∀{p:Prop},p->p:=λh=>h
 have ti:∀t,U (Wc t):=λt=>by
  refine Tree.post (Sq t) (W:=U) ?_
  unfold Sq
  exact aa (λ_=>⟨by omega,by omega⟩) (λ_=>eh)
 have di:∀p,U (Nz m.A6 p):=λp=>by
  refine Tree.post (Sr m.A6 p) (W:=U) ?_
  unfold Sr
  exact aa (λ_=>h3.block) (λ_=>aa (λ_=>h3.frame) (λ_=>aa (λ_=>fj _) (λ_=>eh)))
 have ni:∀p,U (KE m.C1 p):=λp=>by
  refine Tree.post (NA m.C1 p) (W:=U) ?_
  unfold NA
  exact aa (λ_=>h4.frame) (λ_=>aa (λ_=>h4.F7) (λ_=>aa (λ_=>aa (λ_=>aa (λ_=>fj _) (λ_=>fj _)) (λ_=>aa (λ_=>fj _) (λ_=>eh))) (λ_=>eh)))
 have bi:∀p,(KF m.A1 p).w U:=λp=>by
  unfold KF
  exact aa (λ_=>h5) (λ_=>aa (λ_=>bm (Zka h6) λ_ _=>fj _) (λ_=>eh))
 have C:∀(x:iO×Int),(U x.2/\(ta m.A2=true->ta x.1=true))->kept P m {A9:=m.A9,Mem:=m.Mem,A2:=x.1,A7:=m.A7,A6:=m.A6,C1:=m.C1,A1:=m.A1,A0:=m.A0,A3:=m.A3,A4:=m.A4}/\U x.2:=λx hx=>
  ⟨⟨⟨h1,h2,h3,h4,h5,h6⟩,KB h2 h2 hx.2 id id id id,rfl,rfl,rfl,rfl⟩,hx.1⟩
 unfold KD
 repeat'(first
  |exact⟨k,hc⟩
  |exact⟨k,eh⟩
  |exact bm (Z70 _ _) λx hx=>C x hx
  |exact Sg (Z70 _ _) λx hx=>C x hx
  |exact aq λx hx=>⟨k,by rw[hx];exact ti _⟩
  |exact aq λx hx=>⟨k,by rw[hx];exact di _⟩
  |exact aq λx hx=>⟨k,by rw[hx];exact ni _⟩
  |exact bm (bi _) λx hx=>⟨k,hx⟩
  |refine aa (λ_=>?_) (λ_=>?_))
structure mi(c:bg):Prop where
 x0:c.X.a0=0
 st:c.B2.a0<=31
 en:c.B2.a7<=31
 rt:c.B2.a6<=255
 ve:dE c.B2.a1 4=0
theorem mi.pc{c:bg}(h:mi c)(p:Int):mi {X:=c.X,Pc:=p,B2:=c.B2}:=⟨h.x0,h.st,h.en,h.rt,h.ve⟩
theorem F8(a:Int):bb .u32 a 31<=31:=by
 have e:(dW 32 a&&&dW 32 31).toNat<=31:=by
  rw[eA]
  exact bH Nat.and_le_right (by decide)
 show wrap .u32 ((dW 32 a&&&dW 32 31).toNat:Int)<=31
 rw[wrap_u32];omega
theorem Ew(a:Int):bb .u32 a 255<=255:=by have:=BM a;omega
theorem NB(a:Int):dE (nC .u32 a 3) 4=0:=by
 have e:(dW 32 a&&&~~~dW 32 3).toNat%4=0:=by
  rw[eA,show(~~~dW 32 3).toNat=4294967292 by decide]
  have:=Nat.and_mod_two_pow (a:=(dW 32 a).toNat) (b:=4294967292) (n:=2)
  simpa using this
 have l:=(dW 32 a&&&~~~dW 32 3).isLt
 show dE (wrap .u32 ((dW 32 a&&&~~~dW 32 3).toNat:Int)) 4=0
 rw[wrap_u32,eF (by omega)]
 omega
theorem F9{f:Int->Int}(h:(dB 32).all (λn=>decide (f n<=31))=true){s:Int}(h0:0<=s)(h1:s<=31):f s<=31:=by
 have:=List.all_eq_true.1 h s.toNat (List.mem_range.2 (by omega))
 have e:((s.toNat:Nat):Int)=s:=by omega
 rw[e]at this
 exact oY this
theorem Ip{c:bg}(h:ir c)(m:mi c)(k b:Int):mi (pO c k b):=
 ⟨m.x0,F9 (f:=λs=>nC .u32 (ie .u32 (Af (Af s 1 8) 2 16) 1) 2) (by kernel_rfl) h.a0.1 m.st,m.en,m.rt,m.ve⟩
theorem Znd{c:bg}(h:ir c)(m:mi c):mi (KG c):=
 ⟨m.x0,F9 (f:=λs=>Af (Af s 8 1) 16 2) (by kernel_rfl) h.a0.1 m.st,m.en,m.rt,m.ve⟩
theorem KH{c:bg}(m:mi c){r:Int}(hr:0<=r/\r<16)(v:Int):(Ey c r v).w mi:=by
 unfold Ey
 refine aa (λhn=>ax (rc hr) ?_) (λ_=>m)
 have hn:r≠0:=by simpa using hn
 obtain⟨n,e⟩:∃n:Nat,r.toNat=n+1:=⟨r.toNat-1,by omega⟩
 refine⟨?_,m.st,m.en,m.rt,m.ve⟩
 show(fv.of 0 (dG (fv.l c.X) r.toNat v)).a0=0
 rw[e]
 exact m.x0
theorem vh{c:bg}(m:mi c)(k v:Int):(Iq c k v).w mi:=by
 unfold Iq
 refine aa (λhk=>ax (by rw[eq_of_beq hk];decide) ?_) λ_=>aa (λhk=>ax (by rw[eq_of_beq hk];decide) ?_) λ_=>aa (λhk=>ax (by rw[eq_of_beq hk];decide) ?_) λ_=>aa (λhk=>ax (by rw[eq_of_beq hk];decide) ?_) λ_=>aa (λhk=>ax (by rw[eq_of_beq hk];decide) ?_) λ_=>aa (λhk=>ax (by rw[eq_of_beq hk];decide) ?_) λ_=>aa (λhk=>ax (by rw[eq_of_beq hk];decide) ?_) λ_=>aa (λhk=>ax (by rw[eq_of_beq hk];decide) ?_) (λ_=>m)
 all_goals(have hk:=eq_of_beq hk;subst hk)
 ·exact⟨m.x0,F8 _,m.en,m.rt,m.ve⟩
 ·exact⟨m.x0,m.st,F8 _,m.rt,m.ve⟩
 ·exact⟨m.x0,m.st,m.en,Ew _,m.ve⟩
 ·exact⟨m.x0,m.st,m.en,m.rt,NB _⟩
 ·exact⟨m.x0,m.st,m.en,m.rt,m.ve⟩
 ·exact⟨m.x0,m.st,m.en,m.rt,m.ve⟩
 ·exact⟨m.x0,m.st,m.en,m.rt,m.ve⟩
 ·exact⟨m.x0,m.st,m.en,m.rt,m.ve⟩
section
variable {c:bg} (h:ir c) (m:mi c) {i:gj} (hi:sg i)
include h m hi
theorem Zgj:(Ez c i).w (λr=>mi r.1):=by
 unfold Ez
 refine ax (rc hi.a) (ax (rc hi.b) ?_)
 repeat'(first
  |refine aa (λ_=>?_) (λ_=>?_)
  |exact bm (KH m hi.a _) λx hx=>hx.pc _
  |exact aq λx _=>aa (λ_=>m.pc _) (λ_=>m.pc _)
  |exact aq λx hx=>by rw[hx];exact Ip h m _ _
  |exact aq λx hx=>by rw[hx];exact Znd h m
  |exact ax (by have:=hi.jj (by simp_all);simp[bJ];omega) (bm (KH m hi.a _) λx hx=>hx.pc _)
  |exact bm (vh m _ _) λx hx=>hx.pc _
  |refine ax (rc hi.c) ?_
  |exact bm (KI _ (h.r _) (fj _)) λy hy=>bm (KH m hi.a _) λx hx=>hx.pc _
  |exact bm (KI _ (h.r _) (h.r _)) λy hy=>bm (KH m hi.a _) λx hx=>hx.pc _
  |refine bu ?_)
 all_goals exact m.pc _
theorem xH{P:Nat}{mem:List Int}(hm:ei P mem):(Ir c mem i).w (λr=>mi r.1):=by
 have w:=Ss i.Op
 unfold Ir
 refine ax (rc hi.b) (aq λx0 h0=>?_)
 rw[<-h0]at w
 refine bm (NC hm (fj _) w 2) λx1 h1=>aa (λ_=>aq λy hy=>by rw[hy];exact Ip h m _ _) (λ_=>aq λx3 h3=>?_)
 rw[h0,<-h3]at w
 exact bm (Is h1.2 h1.1 w) λx4 h4=>aa (λ_=>bm (Wd h4.1 8) λy hy=>bm (KH m hi.a _) λx hx=>hx.pc _) (λ_=>bm (KH m hi.a _) λx hx=>hx.pc _)
theorem qi{P:Nat}{mem:List Int}(hm:ei P mem):(It c mem i).w (λr=>mi r.1):=by
 have w:=Ss i.Op
 unfold It
 refine ax (rc hi.b) (aq λx0 h0=>?_)
 rw[<-h0]at w
 refine bm (NC hm (fj _) w 3) λx1 h1=>aa (λ_=>aq λy hy=>by rw[hy];exact Ip h m _ _) (λ_=>aq λx3 h3=>ax (rc hi.a) ?_)
 rw[h0,<-h3]at w
 exact bm (Z0 h1.2 h1.1 w (h.r _)) λx hx=>m.pc _
end
theorem zH{c:bg}(h:ir c)(m:mi c){P:Nat}{mem:List Int}(hm:ei P mem):(EA c mem).w (λr=>mi r.1):=by
 unfold EA
 refine bm (We hm h) λx0 h0=>aa (λ_=>aq λy hy=>by rw[hy];exact Ip h m _ _) (λ_=>bm (Wf _) λx2 h2=>aa (λ_=>aq λy hy=>by rw[hy];exact Ip h m _ _) (λhb=>?_))
 have hi:=h2 (by simpa using hb)
 refine aq λx4 _=>?_
 repeat'(first
  |refine aa (λ_=>?_) (λ_=>?_)
  |exact bm (xH h m hi h0.2) λx hx=>hx
  |exact bm (qi h m hi h0.2) λx hx=>hx
  |exact bm (Zgj h m hi) λx hx=>hx
  |exact aq λy hy=>by rw[hy];exact Ip h m _ _
  |refine aq λ_ _=>?_)
theorem Zhc{c:bg}(h:ir c){i:gj}(hi:sg i):(Ez c i).w (λr=>0<=r.2.D7/\r.2.D7<16):=by
 have z:(0:Int)<=0/\(0:Int)<16:=⟨by decide,by decide⟩
 unfold Ez
 refine ax (rc hi.a) (ax (rc hi.b) ?_)
 repeat'(first
  |refine aa (λ_=>?_) (λ_=>?_)
  |exact bm (Dt h hi.a (fj _)) λx hx=>z
  |exact aq λx _=>aa (λ_=>z) (λ_=>z)
  |exact aq λx hx=>z
  |exact ax (by have:=hi.jj (by simp_all);simp[bJ];omega) (bm (Dt h hi.a (h.a _)) λx hx=>z)
  |exact bm (Zkp h _ (h.r _)) λx hx=>z
  |refine ax (rc hi.c) ?_
  |exact bm (KI _ (h.r _) (fj _)) λy hy=>bm (Dt h hi.a hy) λx hx=>z
  |exact bm (KI _ (h.r _) (h.r _)) λy hy=>bm (Dt h hi.a hy) λx hx=>z
  |refine bu ?_)
 all_goals first|exact z|exact hi.a
theorem Zkc{c:bg}(h:ir c){P:Nat}{mem:List Int}(hm:ei P mem):(EA c mem).w (λr=>0<=r.2.2.D7/\r.2.2.D7<16):=by
 have z:(0:Int)<=0/\(0:Int)<16:=⟨by decide,by decide⟩
 unfold EA
 refine bm (We hm h) λx0 h0=>aa (λ_=>aq λy hy=>z) (λ_=>bm (Wf _) λx2 h2=>aa (λ_=>aq λy hy=>z) (λhb=>?_))
 have hi:=h2 (by simpa using hb)
 refine aq λx4 _=>?_
 repeat'(first
  |refine aa (λ_=>?_) (λ_=>?_)
  |exact bm (Z0s h hi h0.2) λx hx=>z
  |exact bm (Qx3 h hi h0.2) λx hx=>z
  |exact bm (Zhc h hi) λx hx=>hx
  |exact aq λy hy=>z
  |refine aq λ_ _=>?_)
theorem mG{a x:Bool}:(bif a then false else x)=true↔a=false/\x=true:=by cases a<;>simp
theorem Ga(m:au):mF m=true↔lC m.Mem≠0/\mi m.A9/\m.A0<=1152921504606846976/\¬(m.A3=true/\m.A4=true)/\se m=true:=by
 rw[vX]
 unfold Ev chain
 rw[mG,mG,mG,mG,mG,mG,mG]
 simp only[decide_eq_false_iff_not,Int.not_lt,beq_eq_false_iff_ne,bne_eq_false_iff_eq,gt_iff_lt]
 constructor
 ·rintro⟨a1,a2,a3,a4,a5,a6,a7,a8⟩
  refine⟨a1,⟨a2,a3,a4,a5,a6⟩,a7,?_,?_⟩
  ·rintro⟨w,h⟩;rw[w,h]at a8;cases a8
  ·revert a8;cases m.A3
   ·exactλh=>h
   ·cases m.A4
    ·exactλh=>h
    ·intro h;cases h
 ·rintro⟨a1,⟨a2,a3,a4,a5,a6⟩,a7,a8,a9⟩
  refine⟨a1,a2,a3,a4,a5,a6,a7,?_⟩
  rw[a9]
  cases hw:m.A3
  ·rfl
  ·cases hh:m.A4
   ·rfl
   ·exact absurd ⟨hw,hh⟩ a8
theorem Su{m:au}(h:Ag m=true):mF m=true/\m.A4=false/\m.A0<1152921504606846976:=by
 simp only[Ag,Iu,Tree.m,dj]at h
 cases h1:mF m
 ·rw[h1]at h;cases h
 ·cases h2:m.A4
  ·rw[h1,h2]at h
   cases h3:KJ m
   ·rw[h3]at h
    have h:decide (m.A0<1152921504606846976)=true:=h
    exact⟨rfl,rfl,oY h⟩
   ·rw[h3]at h;cases h
  ·rw[h1,h2]at h;cases h
theorem Wg{P:Nat}{m:au}(h:pN P m)(g:mi m.A9):(Gb m).w (λr=>mi r.A9/\pN P r/\r.Mem=m.Mem/\r.A3=false/\r.A4=m.A4/\r.A0=m.A0/\r.A2=m.A2/\r.A7=m.A7/\r.A6=m.A6/\r.C1=m.C1/\r.A1=m.A1):=by
 obtain⟨h1,h2,h3,h4,h5,h6⟩:=h
 unfold Gb
 refine aa (λ_=>⟨g,⟨h1,h2,h3,h4,h5,h6⟩,rfl,rfl,rfl,rfl,rfl,rfl,rfl,rfl,rfl⟩) (λ_=>bm (Wh (m:=⟨_,_,_,_,_,_,m.A1,_,_,_⟩) h6) λx0 _=>fg (inv:=λz=>0<=z/\z<=5) (μ:=Wi m) ⟨by omega,by omega⟩ (cO _) (λz hz=>?_))
 obtain⟨z1,z2⟩:=hz
 refine aa (λhb=>ax (dY z1) (aa (λ_=>aq λx1 hx=>⟨by rw[hx];exact Ip h1 g _ _,⟨by rw[hx];exact Gc h1 _ eh,h2,h3,h4,h5,h6⟩,rfl,rfl,rfl,rfl,rfl,rfl,rfl,rfl,rfl⟩) (λ_=>ek ?_))) (λ_=>⟨g,⟨h1,h2,h3,h4,h5,h6⟩,rfl,rfl,rfl,rfl,rfl,rfl,rfl,rfl,rfl⟩)
 have hb:=oY hb
 show(0<=i64.wrap (z+1)/\i64.wrap (z+1)<=5)/\(5-i64.wrap (z+1)).toNat<(5-z).toNat
 have ew:i64.wrap (z+1)=z+1:=by rw[wrap_i64];omega
 rw[ew];omega
structure Good(P:Nat)(m r:au):Prop where
 ok:pN P r
 pM:0<=r.A0
 may:mF m=true->mF r=true
 or:r=m\/r.A0=m.A0+1
theorem xi{P:Nat}{m:au}(h:pN P m)(FR:0<=m.A0){clock:Int}(hk:U clock):(Gd m clock).w (λr=>r.2.length<=1/\Good P m r.1):=by
 have gp:jy m.Mem=m.Mem:=rfl
 unfold Gd
 refine cr (rm h.mem) (aq λl hl=>?_)
 rw[gp]at hl;subst hl
 refine cr (Tree.pp (Wj (m:=⟨_,_,_,_,_,_,m.A1,_,_,_⟩) h.given)).1 (aq λx1 nm=>aa (λ_=>⟨aT _,h,FR,λh=>h,.inl rfl⟩) (λhb=>?_))
 have hr:Ag m=true:=by rw[<-show x1=Ag m from nm];simpa using hb
 obtain⟨hm,hh,Ns⟩:=Su hr
 obtain⟨g1,g2,g3,g4,g5⟩:=(Ga m).1 hm
 have hP:(P:Int)≠0:=by rw[<-rl h.mem];exact g1
 have fin:∀(n:au),pN P n->mi n.A9->se n=true->n.A0=m.A0->¬(n.A3=true/\n.A4=true)->Good P m {A9:=n.A9,Mem:=n.Mem,A2:=n.A2,A7:=n.A7,A6:=n.A6,C1:=n.C1,A1:=n.A1,A0:=wrap .u64 (n.A0+1),A3:=n.A3,A4:=n.A4}:=λn a b c d e=>by
  have ec:wrap .u64 (n.A0+1)=m.A0+1:=by rw[d,wrap_u64];omega
  refine⟨⟨a.lS,a.mem,a.kJ,a.si,a.target,a.given⟩,?_,λ_=>(Ga _).2 ⟨?_,b,?_,e,c⟩,.inr ec⟩
  ·show 0<=wrap .u64 (n.A0+1);omega
  ·show lC n.Mem≠0;rw[rl a.mem];exact hP
  ·show wrap .u64 (n.A0+1)<=_;omega
 refine bm (Wg (m:=⟨_,_,m.A2,m.A7,m.A6,m.C1,m.A1,m.A0,m.A3,m.A4⟩) ⟨h.lS,h.mem,h.kJ,h.si,h.target,h.given⟩ g2) λx2 Iv=>?_
 obtain⟨b1,b2,b3,b4,b5,b6,b7,b8,b9,b10,b11⟩:=Iv
 have ex:=Tree.pp (zx b2.lS b2.mem)
 have em:=Tree.pp (zH b2.lS b1 b2.mem)
 have er:=Tree.pp (Zkc b2.lS b2.mem)
 refine cr ex.1 (aq λx3 h3=>?_)
 obtain⟨e1,e2,e3⟩:ir x3.1/\ei P x3.2.1/\U x3.2.2.Value:=by rw[h3];exact ex.2
 have f1:mi x3.1:=by rw[h3];exact em.2
 have r1:0<=x3.2.2.D7/\x3.2.2.D7<16:=by rw[h3];exact er.2
 have Wk:pN P ⟨x3.1,x3.2.1,x2.A2,x2.A7,x2.A6,x2.C1,x2.A1,x2.A0,x2.A3,x2.A4⟩:=⟨e1,e2,b2.kJ,b2.si,b2.target,b2.given⟩
 have dev:∀(w h:Bool),se ⟨x3.1,x3.2.1,x2.A2,x2.A7,x2.A6,x2.C1,x2.A1,x2.A0,w,h⟩=true:=λw hh=>by
  have id:∀{p:Prop},p->p:=λh=>h
  refine KB (m:=m) (P:=P) h.mem e2 ?_ ?_ ?_ ?_ ?_ g5
  ·show _->ta x2.A2=true;rw[b7];exact id
  ·show _->te x2.A7=true;rw[b8];exact id
  ·show _->j5 x2.A6 P=true;rw[b9];exact id
  ·show _->oU x2.C1 P=true;rw[b10];exact id
  ·show _->tV x2.A1 P=true;rw[b11];exact id
 have hw:x2.A3=false:=b4
 have hh2:x2.A4=false:=b5.trans hh
 have BN:x2.A0=m.A0:=b6
 refine aa (λ_=>?_) λ_=>aa (λ_=>?_) λ_=>aa (λ_=>?_) λ_=>aa (λ_=>?_) λ_=>?_
 ·refine bm (Zm9 Wk _ hk) λx4 h4=>?_
  obtain⟨k,u⟩:=h4
  have kc:x4.1.A9=x3.1:=k.lS
  have kt:x4.1.A0=m.A0:=k.pM.trans BN
  have kw:¬(x4.1.A3=true/\x4.1.A4=true):=λe=>by have:x4.1.A3=x2.A3:=k.wait;rw[this,hw]at e;cases e.1
  have km:mi x4.1.A9:=by rw[kc];exact f1
  refine aa (λhn=>ax (rc r1) ⟨aT _,?_⟩) (λ_=>⟨aT _,fin x4.1 k.ok km (k.dev (dev _ _)) kt kw⟩)
  have hn:x3.2.2.D7≠0:=by simpa using hn
  obtain⟨q,e⟩:∃q:Nat,x3.2.2.D7.toNat=q+1:=⟨x3.2.2.D7.toNat-1,by omega⟩
  refine fin ⟨⟨fv.of 0 (dG (fv.l x4.1.A9.X) x3.2.2.D7.toNat x4.2),x4.1.A9.Pc,x4.1.A9.B2⟩,x4.1.Mem,x4.1.A2,x4.1.A7,x4.1.A6,x4.1.C1,x4.1.A1,x4.1.A0,x4.1.A3,x4.1.A4⟩ ⟨⟨Wl k.ok.lS.x u _,k.ok.lS.pc,k.ok.lS.jj⟩,k.ok.mem,k.ok.kJ,k.ok.si,k.ok.target,k.ok.given⟩ ⟨?_,km.st,km.en,km.rt,km.ve⟩ (k.dev (dev _ _)) kt kw
  show(fv.of 0 (dG (fv.l x4.1.A9.X) x3.2.2.D7.toNat x4.2)).a0=0
  rw[e]
  exact km.x0
 ·refine bm (Zgt Wk _ e3 _) λx5 h5=>?_
  obtain⟨k,u⟩:=h5
  have kc:x5.1.A9=x3.1:=k.lS
  exact⟨u,fin x5.1 k.ok (by rw[kc];exact f1) (k.dev (dev _ _)) (k.pM.trans BN) (λe=>by have:x5.1.A3=x2.A3:=k.wait;rw[this,hw]at e;cases e.1)⟩
 ·exact⟨aT _,fin ⟨x3.1,x3.2.1,x2.A2,x2.A7,x2.A6,x2.C1,x2.A1,x2.A0,true,x2.A4⟩ ⟨e1,e2,b2.kJ,b2.si,b2.target,b2.given⟩ f1 (dev _ _) BN (λe=>by have e2:x2.A4=true:=e.2;rw[hh2]at e2;cases e2)⟩
 ·exact⟨aT _,fin ⟨x3.1,x3.2.1,x2.A2,x2.A7,x2.A6,x2.C1,x2.A1,x2.A0,x2.A3,true⟩ ⟨e1,e2,b2.kJ,b2.si,b2.target,b2.given⟩ f1 (dev _ _) BN (λe=>by have e2:x2.A3=true:=e.1;rw[hw]at e2;cases e2)⟩
 ·exact⟨aT _,fin ⟨x3.1,x3.2.1,x2.A2,x2.A7,x2.A6,x2.C1,x2.A1,x2.A0,x2.A3,x2.A4⟩ Wk f1 (dev _ _) BN (λe=>by have e2:x2.A3=true:=e.1;rw[hw]at e2;cases e2)⟩
theorem Zki{P:Nat}{m:au}(h:kH P m){e:jX}(he:U e.N):(Ge m e).w (λr=>(mF m=true->mF r.1=true)/\r.1.A0=m.A0/\U r.1.A1.C0):=by
 obtain⟨h1,h2,h3,h4,h5,h7⟩:=h
 have gp:jy m.Mem=m.Mem:=rfl
 have pg:∀{m':List Int},ei P m'->lC m'=lC m.Mem:=λh=>by rw[rl h,rl h2]
 have cq:(mF m=true->mF m=true)/\m.A0=m.A0/\U m.A1.C0:=⟨λh=>h,rfl,h5.2⟩
 unfold Ge
 refine cr (rm h2) (aq λl hl=>?_)
 rw[gp]at hl;subst hl
 refine bm (Zl (m:=⟨_,_,_,_,_,_,m.A1,_,_,_⟩) h5.2) λx1 _=>aa (λ_=>cq) λ_=>aa (λ_=>cq) λ_=>?_
 refine aa (λ_=>aa (λ_=>aa (λ_=>aq λx hx=>?_) (λ_=>cq)) (λ_=>cq)) λ_=>aa (λ_=>aa (λ_=>aa (λ_=>bm (xag _ _) λx hx=>?_) (λ_=>cq)) (λ_=>cq)) λ_=>aa (λhk=>bm (Zlx h2 h3 e) λx hx=>?_) λ_=>aa (λhk=>aa (λ_=>bm (vg h2 h4 _) λx hx=>?_) (λ_=>cq)) λ_=>aa (λ_=>aa (λ_=>?_) (λ_=>cq)) (λ_=>cq)
 ·exact⟨Qs rfl rfl rfl rfl rfl (λh=>h) (λh=>by rw[hx];exact vG _ h) (λ_ h=>h) (λ_ h=>h) rfl,rfl,h5.2⟩
 ·exact⟨Qs rfl rfl rfl rfl rfl hx (λh=>h) (λ_ h=>h) (λ_ h=>h) rfl,rfl,h5.2⟩
 ·obtain⟨a1,a2,a3,a4,a5⟩:=hx
  exact⟨Qs (pg a2) rfl rfl rfl rfl (λh=>h) (λh=>h) a5 (λ_ h=>h) rfl,rfl,h5.2⟩
 ·obtain⟨a1,a2,a3,a4,a5⟩:=hx
  exact⟨Qs (pg a2) rfl rfl rfl rfl (λh=>h) (λh=>h) (λ_ h=>h) a5 rfl,rfl,h5.2⟩
 ·exact⟨Qs rfl rfl rfl rfl rfl (λh=>h) (λh=>h) (λ_ h=>h) (λ_ h=>h) rfl,rfl,h5.2⟩
theorem KK{a:Int}(h:U a):(dW 32 a).toNat=a.toNat:=by
 obtain⟨h1,h2⟩:=h
 rw[dX];omega
theorem Wm{a b:Int}(ha:U a)(hb:U b):bb .u32 a b=((a.toNat&&&b.toNat:Nat):Int):=by
 have l:=(dW 32 a&&&dW 32 b).isLt
 have e:(dW 32 a&&&dW 32 b).toNat=a.toNat&&&b.toNat:=by rw[eA,KK ha,KK hb]
 show wrap .u32 ((dW 32 a&&&dW 32 b).toNat:Int)=_
 rw[wrap_u32,<-e];omega
theorem qaC{a b:Int}(ha:U a)(hb:U b):ie .u32 a b=((a.toNat|||b.toNat:Nat):Int):=by
 have l:=(dW 32 a|||dW 32 b).isLt
 have e:(dW 32 a|||dW 32 b).toNat=a.toNat|||b.toNat:=by rw[dZ,KK ha,KK hb]
 show wrap .u32 ((dW 32 a|||dW 32 b).toNat:Int)=_
 rw[wrap_u32,<-e];omega
theorem Wn{a:Int}(ha:U a)(k:Nat)(hk:k<=32){q:Int}(hq:q=((2^k-1:Nat):Int)):bb .u32 a q=a%2^k:=by
 have hp:2^k<=2^32:=dT (by decide) hk
 have h1:(2:Nat)^32=4294967296:=by decide
 have tX:=eG k
 subst hq
 rw[Wm ha ⟨by omega,by omega⟩,eD,Nat.and_two_pow_sub_one_eq_mod]
 have:=ha.1
 rw[Int.natCast_emod,eH this]
 simp
theorem m15{a:Int}(ha:U a):bb .u32 a 15=a%16:=Wn ha 4 (by decide) rfl
theorem BO{a:Int}(ha:U a):bb .u32 a 255=a%256:=Wn ha 8 (by decide) rfl
theorem Iw{a:Int}(ha:U a):bb .u32 a 65535=a%65536:=Wn ha 16 (by decide) rfl
theorem EB(p:Int->Bool)(N:Nat)(h:(dB N).all (λn=>p n)=true){s:Int}(h0:0<=s)(h1:s<N):p s=true:=by
 have:=List.all_eq_true.1 h s.toNat (List.mem_range.2 (by omega))
 rwa [eH h0]at this
theorem Dk{x:Int}(h0: -9223372036854775808<=x)(h1:x<9223372036854775808):wrap .i64 x=x:=by rw[wrap_i64];omega
theorem ND(a:Int):bf .u32 a 0=a:=by have:=Dp (a:=a) 0 (by decide);simpa using this
theorem fld(w:Int):tf w 24 8=bb .u32 (bf .u32 w 24) 255/\tf w 20 4=bb .u32 (bf .u32 w 20) 15/\tf w 16 4=bb .u32 (bf .u32 w 16) 15/\tf w 0 16=bb .u32 (bf .u32 w 0) 65535/\tf w 8 8=bb .u32 (bf .u32 w 8) 255:=
 ⟨by kernel_rfl,by kernel_rfl,by kernel_rfl,by kernel_rfl,by kernel_rfl⟩
def BP(f:Int):wS×Bool:=
 bif f==1 then(⟨false,false,false,0,0⟩,true)else bif f==2 then(⟨true,true,true,0,0⟩,true)else bif f==3 then(⟨true,true,false,-32768,32767⟩,true)
 else bif f==4 then(⟨true,true,false,0,65535⟩,true)else bif f==5 then(⟨true,true,false,0,31⟩,true)else bif f==6 then(⟨true,false,false,0,65535⟩,true)
 else bif f==7 then(⟨true,false,false,-32768,32767⟩,true)else bif f==8 then(⟨true,false,false,0,7⟩,true)else bif f==9 then(⟨true,false,false,0,11⟩,true)else(⟨false,false,false,0,0⟩,false)
def BQ(x y:wS×Bool):Bool:=x.1.a==y.1.a&&x.1.b==y.1.b&&x.1.c==y.1.c&&x.1.low==y.1.low&&x.1.D3==y.1.D3&&x.2==y.2
theorem yH{x y:wS×Bool}(h:BQ x y=true):x=y:=by
 obtain⟨⟨a,b,c,d,e⟩,f⟩:=x
 obtain⟨⟨a',b',c',d',e'⟩,f'⟩:=y
 simp only[BQ,aE,beq_iff_eq]at h
 obtain⟨⟨⟨⟨⟨rfl,rfl⟩,rfl⟩,rfl⟩,rfl⟩,rfl⟩:=h
 rfl
theorem qY{op:Int}(h0:0<=op)(h1:op<256):Sv op=BP (oC op):=by
 exact yH (EB (λop=>BQ (Sv op) (BP (oC op))) 256 (by kernel_rfl) h0 h1)
theorem zi{op:Int}(h0:0<=op)(h1:op<256):oC op=0\/oC op=1\/oC op=2\/oC op=3\/oC op=4\/oC op=5\/oC op=6\/oC op=7\/oC op=8\/oC op=9:=by
 have:=oY (EB (λop=>decide (0<=oC op/\oC op<=9)) 256 (by kernel_rfl) h0 h1)
 omega
theorem qai{op:Int}(h0:0<=op)(h1:op<256):NF op=Gf op:=by
 exact eq_of_beq (EB (λop=>NF op==Gf op) 256 (by kernel_rfl) h0 h1)
theorem vH{a x y:Bool}:(cond a x y=true)↔((a=true/\x=true)\/(a=false/\y=true)):=by cases a<;>simp
theorem Wo{i:gj}(h0:0<=i.Op)(h1:i.Op<256)(hi:wrap .i64 i.bh=i.bh):Ix i=Du i:=by
 rw[eI]
 simp only[Ix,NG,Tree.m,dj,Du,NH,qY h0 h1,hi]
 rcases zi h0 h1 with h|h|h|h|h|h|h|h|h|h<;>rw[h]<;>
 simp[BP,KL,Sw,KM,Sx,Wp,Wq,Tree.m,dj,vH]<;>omega
theorem Wr{x:Int}(h0:0<=x)(h1:x<65536):wrap .i32 (Dv x 16)=wrap .i32 (wrap .i16 x):=by
 have e:Dv x 16=wrap .u32 (bf .i32 (wrap .i32 (ea .u32 x 16)) 16):=by kernel_rfl
 have e2:∀y,bf .i32 y 16=y/65536:=λy=>by
  show eJ y 65536=_
  rw[dP _ (by decide)]
 have e3:ea .u32 x 16=wrap .u32 (x*65536):=rfl
 have e4:wrap .i16 x=(x+32768)%65536-32768:=by
  simp[wrap,IntKind.bits,IntKind.signed]
  split<;>omega
 rw[e,e2,e3,e4]
 simp only[wrap_i32,wrap_u32]
 omega
theorem sx8{x:Int}(h0:0<=x)(h1:x<256):Dv x 8=Gg x 8:=by
 exact eq_of_beq (EB (λx=>Dv x 8==Gg x 8) 256 (by kernel_rfl) h0 h1)
theorem yi{w:Int}(hw:U w):NI w=pP w:=by
 obtain⟨f1,f2,f3,f4,_⟩:=fld w
 obtain⟨w0,w1⟩:=hw
 have tW:bf .u32 w 24=w/16777216:=by have:=Dp (a:=w) 24 (by decide);simpa using this
 have s20:U (bf .u32 w 20):=Ah ⟨w0,w1⟩ _
 have AN:U (bf .u32 w 16):=Ah ⟨w0,w1⟩ _
 rw[BO (Ah ⟨w0,w1⟩ _),tW]at f1
 rw[m15 s20]at f2
 rw[m15 AN]at f3
 rw[ND]at f4
 have g1:w/16777216%256=w/16777216:=by omega
 rw[g1]at f1
 have o0:0<=w/16777216:=by omega
 have o1:w/16777216<256:=by omega
 have eo:wrap .i64 (w/16777216)=w/16777216:=Dk (by omega) (by omega)
 have i32:∀x,wrap .i64 (wrap .i32 x)=wrap .i32 x:=λx=>by rw[wrap_i64,wrap_i32];omega
 have l0:=Iw ⟨w0,w1⟩
 have lx:=Wr (x:=bb .u32 w 65535) (by omega) (by omega)
 simp only[NI,KN,pP,Gh,Tree.m,dj,f1,f2,f3,f4,tW,eo,qY o0 o1,m15 s20,m15 AN,lx]
 generalize w/16777216=op at*
 generalize wrap .i64 (bf .u32 w 20%16)=a
 generalize wrap .i64 (bf .u32 w 16%16)=b
 generalize bb .u32 w 65535=l
 rw[Wo (i:=⟨op,a,b,wrap .i64 l,0⟩) o0 o1 rfl,Wo (i:=⟨op,a,b,0,wrap .i32 (wrap .i16 l)⟩) o0 o1 (i32 _),Wo (i:=⟨op,a,b,0,wrap .i32 l⟩) o0 o1 (i32 _)]
 rcases zi o0 o1 with h|h|h|h|h|h|h|h|h|h<;>rw[h]<;>rfl
theorem zai(x v:BitVec 32)(s:Nat)(hs:s<=24):((x&&&~~~(255#32<<<s))|||((v&&&255#32)<<<s)).toNat=2^(s+8)*(x.toNat/2^(s+8))+(2^s*(v.toNat%256)+x.toNat%2^s):=by
 have hx:=x.isLt
 have h1:x.toNat%2^s<2^s:=Nat.mod_lt _ (eG s)
 have h2:2^s*(v.toNat%256)+x.toNat%2^s<2^(s+8):=by
  have:v.toNat%256<256:=Nat.mod_lt _ (by decide)
  have h3:2^s*(v.toNat%256)<=2^s*255:=Nat.mul_le_mul_left _ (by omega)
  have:2^(s+8)=2^s*256:=by rw[Nat.pow_add]
  omega
 rw[eK h2,eK h1]
 apply eM
 intro i
 rw[BitVec.testBit_toNat]
 simp only[BitVec.getLsbD_or,BitVec.getLsbD_and,BitVec.getLsbD_not,BitVec.getLsbD_shiftLeft,Nat.testBit_or,Nat.testBit_two_pow_mul,eN,Nat.testBit_div_two_pow,BitVec.getLsbD_ofNat]
 have Ws:∀j,eO 255 j=decide (j<8):=λj=>by
  rw[show 255=2^8-1 from rfl,Nat.testBit_two_pow_sub_one]
 have Wt:∀n j,eO (n%256) j=(decide (j<8)&&eO n j):=λn j=>by
  rw[show 256=2^8 from rfl,eN]
 rw[Ws,Wt]
 by_cases hi:i<32
 ·by_cases a1:i<s
  ·have a2:¬(s<=i):=by omega
   have a3:¬(s+8<=i):=by omega
   simp[hi,a1,a2,a3,eQ]
  ·by_cases a4:s+8<=i
   ·have a2:¬(i-s<8):=by omega
    have a5:i-(s+8)+(s+8)=i:=by omega
    have a6:s<=i:=by omega
    simp[hi,a1,a2,a4,a5,a6,eQ]
   ·have a2:(i-s<8):=by omega
    have a6:s<=i:=by omega
    have a7:i-s<32:=by omega
    simp[hi,a1,a2,a4,a6,a7,eQ]
 ·have a0:x.toNat.testBit i=false:=Nat.testBit_lt_two_pow (Nat.lt_of_lt_of_le hx (dT (by decide) (by omega)))
  have a1:¬(i<s):=by omega
  have a2:¬(i-s<8):=by omega
  have a4:s+8<=i:=by omega
  have a5:i-(s+8)+(s+8)=i:=by omega
  simp[hi,a0,a1,a2,a4,a5]
theorem Z6b(b:BitVec 32):dW 32 (wrap .u32 (b.toNat:Int))=b:=by
 have:=b.isLt
 rw[wrap_u32]
 apply eR
 rw[dX];omega
theorem Zmm(x:Int):dW 32 (wrap .u32 x)=dW 32 x:=by
 apply eR
 rw[dX,dX,wrap_u32]
 have:((2^32:Nat):Int)=4294967296:=by decide
 rw[this,Int.emod_emod_of_dvd _ (Int.dvd_refl _)]
theorem Zce{x:Int}(hx:U x)(s:Nat)(hs:s<=32):dW 32 (ea .u32 x s)=dW 32 x<<<s:=by
 obtain⟨n,rfl⟩:∃n:Nat,x=n:=⟨x.toNat,by have:=hx.1;omega⟩
 have e:min (dF (s:Int)) u32.bits=s:=by show min (dF (s:Int)) 32=s;omega
 unfold ea
 rw[e,Zmm]
 have e2:((n:Int)*2^s)=((n*2^s:Nat):Int):=by simp
 have:=hx.2
 rw[e2,eS,eS]
 apply eR
 rw[BitVec.toNat_shiftLeft,eT,eT,Nat.shiftLeft_eq,Nat.mod_mul_mod]
def tY(W v:Int)(s:Nat):Int:=ie .u32 (nC .u32 W (ea .u32 255 s)) (ea .u32 (bb .u32 v 255) s)
theorem xai{W v:Int}(hW:U W)(hv:U v)(s:Nat)(hs:s<=24):tY W v s=2^(s+8)*(W/2^(s+8))+(2^s*(v%256)+W%2^s):=by
 have e:=zai (dW 32 W) (dW 32 v) s hs
 have l:=((dW 32 W&&&~~~(255#32<<<s))|||((dW 32 v&&&255#32)<<<s)).isLt
 have h1:dW 32 (nC .u32 W (ea .u32 255 s))=dW 32 W&&&~~~(255#32<<<s):=by
  show dW 32 (wrap .u32 (dW 32 W&&&~~~dW 32 (ea .u32 255 s)).toNat)=_
  rw[Z6b,Zce ⟨by decide,by decide⟩ s (by omega)]
  rfl
 have h2:dW 32 (ea .u32 (bb .u32 v 255) s)=(dW 32 v&&&255#32)<<<s:=by
  rw[Zce (Iy _ _) s (by omega)]
  congr 1
  show dW 32 (wrap .u32 (dW 32 v&&&dW 32 255).toNat)=_
  rw[Z6b];rfl
 show wrap .u32 ((dW 32 (nC .u32 W (ea .u32 255 s))|||dW 32 (ea .u32 (bb .u32 v 255) s)).toNat:Int)=_
 rw[h1,h2]
 have lw:wrap .u32 ((((dW 32 W&&&~~~(255#32<<<s))|||((dW 32 v&&&255#32)<<<s)).toNat:Nat):Int)=(((dW 32 W&&&~~~(255#32<<<s))|||((dW 32 v&&&255#32)<<<s)).toNat:Nat):=by rw[wrap_u32];omega
 rw[lw,e,KK hW,KK hv]
 obtain⟨n,rfl⟩:∃n:Nat,W=n:=⟨W.toNat,by have:=hW.1;omega⟩
 obtain⟨k,rfl⟩:∃n:Nat,v=n:=⟨v.toNat,by have:=hv.1;omega⟩
 simp
def sj(w:Int)(k:Nat):Int:=if k=0 then w%256 else if k=1 then w/256%256 else if k=2 then w/65536%256 else w/16777216%256
def kY(m:List Int)(a:Nat):Int:=sj (m.getD (a/4) 0) (a%4)
theorem vi(w:Int)(k:Nat):0<=sj w k/\sj w k<256:=by
 unfold sj
 split
 ·omega
 ·split
  ·omega
  ·split<;>omega
theorem qaj{w v:Int}(hw:U w)(hv:U v)(h:∀k,k<4->sj w k=sj v k):w=v:=by
 have h0:=h 0 (by omega)
 have h1:=h 1 (by omega)
 have h2:=h 2 (by omega)
 have h3:=h 3 (by omega)
 simp[sj]at h0 h1 h2 h3
 obtain⟨a,b⟩:=hw
 obtain⟨c,d⟩:=hv
 omega
theorem Wu{m n:List Int}(hl:m.length=n.length)(hm:∀w∈m,U w)(hn:∀w∈n,U w)(h:∀a,kY m a=kY n a):m=n:=by
 refine bN hl λi h1 h2=>?_
 have e1:m[i]=m.getD i 0:=by simp[aK,h1]
 have e2:n[i]=n.getD i 0:=by simp[aK,h2]
 rw[e1,e2]
 refine qaj (Ai hm i) (Ai hn i) λk hk=>?_
 have:=h (4*i+k)
 simp only[kY]at this
 rwa [show(4*i+k)/4=i by omega,show(4*i+k)%4=k by omega]at this
theorem Qsg{l:List Int}{i:Nat}(h:i<l.length)(v:Int):(l.set i v).getD i 0=v:=by
 simp[aK,h]
theorem Wv{m:List Int}{i:Nat}(hi:i<m.length)(v:Int)(a:Nat):kY (m.set i v) a=if a/4=i then sj v (a%4)else kY m a:=by
 unfold kY
 split
 ·rename_i h;rw[h,Qsg hi]
 ·rename_i h;rw[u7 _ _ _ _ (λe=>h e.symm)]
theorem zaj{W v:Int}(hW:U W)(hv:U v){j:Nat}(hj:j<4){k:Nat}(hk:k<4):sj (tY W v (8*j)) k=if k=j then v%256 else sj W k:=by
 have h:=xai hW hv (8*j) (by omega)
 rw[h]
 obtain⟨w0,w1⟩:=hW
 have h0:0<=v%256:=by omega
 have h1:v%256<256:=by omega
 generalize v%256=b at*
 clear h
 have hj:j=0\/j=1\/j=2\/j=3:=by omega
 have hk:k=0\/k=1\/k=2\/k=3:=by omega
 rcases hj with rfl|rfl|rfl|rfl<;>rcases hk with rfl|rfl|rfl|rfl<;>simp[sj]<;>omega
theorem xaj{m:List Int}{a v:Int}(ha:U a):AO m a 1 v=m.set (a/4).toNat (tY (m.getD (a/4).toNat 0) v (8*(a%4).toNat)):=by
 obtain⟨a0,a1⟩:=ha
 have e1:wrap .u32 (eU a 4)=a/4:=by rw[wrap_u32,eV a0];omega
 have e2:wrap .u32 (8*dE a 4)=((8*(a%4).toNat:Nat):Int):=by rw[wrap_u32,eF a0];omega
 have e3:((1:Int)==4)=false:=rfl
 simp only[AO,Qd,Tree.m,e1,e2,e3,cond_false]
 rfl
theorem qj{P:Nat}{m:List Int}(h:ei P m){a v:Int}(ha:U a)(hl:a<128*P)(hv:U v):ei P (AO m a 1 v)/\∀b:Nat,kY (AO m a 1 v) b=if(b:Int)=a then v%256 else kY m b:=by
 have hlen:=h.len
 have a0:=ha.1
 rw[xaj ha]
 have hi:(a/4).toNat<m.length:=by omega
 refine⟨⟨by rw[dH];exact hlen,h.p1,h.p2,Dm h.u (mC _ _) _⟩,λb=>?_⟩
 rw[Wv hi]
 by_cases hb:b/4=(a/4).toNat
 ·rw[if_pos hb,zaj (Ai h.u _) hv (by omega) (by omega)]
  by_cases hc:b%4=(a%4).toNat
  ·rw[if_pos hc,if_pos (by omega)]
  ·rw[if_neg hc,if_neg (by omega),kY,hb]
 ·rw[if_neg hb,if_neg (by omega)]
theorem xY{P:Nat}{m:List Int}(h:ei P m){frame:Int}(f0:0<=frame)(f1:frame<P)(s:List UInt8):(Gi m frame s).w (λr=>ei P r/\∀b:Nat,kY r b=if frame*128<=b/\(b:Int)<frame*128+min s.length 128 then((s.getD (b-frame*128).toNat 0).toNat:Int)else kY m b):=by
 unfold Gi
 have h3:=h.p2
 refine fg (inv:=λz=>0<=z.1/\z.1<=min s.length 128/\ei P z.2/\∀b:Nat,kY z.2 b=if frame*128<=b/\(b:Int)<frame*128+z.1 then((s.getD (b-frame*128).toNat 0).toNat:Int)else kY m b) (μ:=Ww m frame s) ⟨show(0:Int)<=0 by decide,by show(0:Int)<=_;omega,h,λb=>by rw[if_neg];show¬(_/\_<_+(0:Int));omega⟩ (cO _) (λv0 u5=>?_)
 obtain⟨i,mm⟩:=v0
 obtain⟨i0,i1,hm,hy⟩:=u5
 have i0:0<=i:=i0
 have i1:i<=min s.length 128:=i1
 have hm:ei P mm:=hm
 have fin:∀r:List Int,r=mm->i=min s.length 128->ei P r/\∀b:Nat,kY r b=if frame*128<=b/\(b:Int)<frame*128+min s.length 128 then((s.getD (b-frame*128).toNat 0).toNat:Int)else kY m b:=λr hr hi=>by
  subst hr;refine⟨hm,λb=>?_⟩
  rw[hy b];simp only[hi]
 refine aa (λh1=>aa (λh2=>ax ?_ ?_) (λh2=>fin mm rfl ?_)) (λh1=>fin mm rfl ?_)
 ·have:=oY h1
  simp[bJ];omega
 ·have h1:i<s.length:=oY h1
  have h2:i<128:=oY h2
  have e:wrap u32 (wrap i64 (wrap i64 (frame*128)+i))=frame*128+i:=by
   rw[wrap_u32,wrap_i64,wrap_i64];omega
  show(Tree.an (Sy mm (wrap u32 (wrap i64 (wrap i64 (frame*128)+i))) 1 _) (Tree.lv _ _)).w _
  rw[e]
  have hu:U (frame*128+i):=⟨by omega,by omega⟩
  have hvU:∀n:Nat,U (wrap .u32 (n:Int)):=λn=>fj _
  obtain⟨g1,_⟩:=Tree.pp (BR hm (size:=1) (addr:=frame*128+i) hu (by rw[hm.len];omega) (hvU (eW (s.getD i.toNat 0))))
  obtain⟨g2,g3⟩:=qj hm hu (by omega) (hvU (eW (s.getD i.toNat 0)))
  refine cr g1 (aq λx0 mU=>?_)
  rw[mU]
  have ew:i64.wrap (i+1)=i+1:=by rw[wrap_i64];omega
  refine ek ?_
  show(0<=i64.wrap (i+1)/\i64.wrap (i+1)<=min s.length 128/\ei P _/\∀b:Nat,kY _ b=if frame*128<=b/\(b:Int)<frame*128+i64.wrap (i+1)then _ else _)/\(128-i64.wrap (i+1)).toNat<(128-i).toNat
  rw[ew]
  refine⟨⟨by omega,by omega,g2,λb=>?_⟩,by omega⟩
  rw[show AO mm (frame*128+i) 1 _=_ from rfl,g3 b]
  by_cases hb:(b:Int)=frame*128+i
  ·rw[if_pos hb,if_pos (by omega),wrap_u32]
   have:=(s.getD i.toNat 0).toNat_lt
   rw[show(b-frame*128).toNat=i.toNat by omega];omega
  ·rw[if_neg hb,hy b]
   show(if frame*128<=(b:Int)/\(b:Int)<frame*128+i then _ else _)=_
   by_cases hc:frame*128<=(b:Int)/\(b:Int)<frame*128+i
   ·rw[if_pos hc,if_pos (by omega)]
   ·rw[if_neg hc,if_neg (by omega)]
 ·have h1:i<s.length:=oY h1
  have h2:¬i<128:=oN h2
  omega
 ·have h1:¬i<s.length:=oN h1
  omega
theorem xj{x y:Int}(hx:U x)(hy:U y)(k:Nat)(hk:x<2^k)(h:x+y*2^k<4294967296):ie .u32 x (y*2^k)=x+y*2^k:=by
 obtain⟨n,rfl⟩:∃n:Nat,x=n:=⟨x.toNat,by have:=hx.1;omega⟩
 obtain⟨z,rfl⟩:∃n:Nat,y=n:=⟨y.toNat,by have:=hy.1;omega⟩
 have e:((z:Int)*2^k)=((z*2^k:Nat):Int):=by simp
 rw[e]at h⊢
 have hn:n<2^k:=by exact_mod_cast hk
 rw[qaC hx ⟨by omega,by omega⟩,eD,eD,Nat.or_comm,Nat.mul_comm,<-eK hn]
 omega
theorem four{a b c d:Int}(ha:0<=a/\a<256)(hb:0<=b/\b<256)(hc:0<=c/\c<256)(hd:0<=d/\d<256):ie .u32 (ie .u32 (ie .u32 (wrap .u32 a) (ea .u32 (wrap .u32 b) 8)) (ea .u32 (wrap .u32 c) 16)) (ea .u32 (wrap .u32 d) 24)=a+b*2^8+c*2^16+d*2^24:=by
 have w:∀{x:Int},0<=x/\x<256->wrap .u32 x=x:=λhx=>by rw[wrap_u32];omega
 have s8:∀{x:Int},0<=x/\x<256->ea .u32 x 8=x*2^8:=fun{x} hx=>by show wrap .u32 (x*2^8)=_;rw[wrap_u32];omega
 have AN:∀{x:Int},0<=x/\x<256->ea .u32 x 16=x*2^16:=fun{x} hx=>by show wrap .u32 (x*2^16)=_;rw[wrap_u32];omega
 have tW:∀{x:Int},0<=x/\x<256->ea .u32 x 24=x*2^24:=fun{x} hx=>by show wrap .u32 (x*2^24)=_;rw[wrap_u32];omega
 rw[w ha,w hb,w hc,w hd,s8 hb,AN hc,tW hd]
 rw[xj ⟨by omega,by omega⟩ ⟨by omega,by omega⟩ 8 (by omega) (by omega),xj ⟨by omega,by omega⟩ ⟨by omega,by omega⟩ 16 (by omega) (by omega),xj ⟨by omega,by omega⟩ ⟨by omega,by omega⟩ 24 (by omega) (by omega)]
theorem qI{a b c d:Int}(ha:0<=a/\a<256)(hb:0<=b/\b<256)(hc:0<=c/\c<256)(hd:0<=d/\d<256)(k:Nat)(hk:k<4):sj (a+b*2^8+c*2^16+d*2^24) k=if k=0 then a else if k=1 then b else if k=2 then c else d:=by
 have hk:k=0\/k=1\/k=2\/k=3:=by omega
 rcases hk with rfl|rfl|rfl|rfl<;>simp[sj]<;>omega
theorem Sz{P:Nat}{m:List Int}(h:ei P m)(f:Int):Ii m f=decide (0<=f/\f<P):=by
 have hp:=rl h
 simp only[Ii,Nk,Tree.m,dj,hp]
 by_cases h1:0<=f
 ·rw[dY h1];simp[h1]
 ·rw[dN h1];simp[h1]
theorem xI(s:List UInt8)(a b k:Nat)(h:k<b):(cZ b (dA a s)).getD k 0=s.getD (a+k) 0:=by
 simp[dC,aU,h]
theorem Gj(x:UInt8):0<=(x.toNat:Int)/\(x.toNat:Int)<256:=by have:=x.toNat_lt;omega
theorem Wx{P:Nat}{m:List Int}(h:ei P m){f:Int}(f0:0<=f)(f1:f<P){s:List UInt8}(hs:s.length=128):(FZ m f s).w (λr=>r.2=true/\ei P r.1/\∀b:Nat,kY r.1 b=if f*128<=b/\(b:Int)<f*128+128 then((s.getD (b-f*128).toNat 0).toNat:Int)else kY m b):=by
 have gp:jy m=m:=rfl
 have h2:=h.p2
 unfold FZ
 refine cr (rm h) (aq λx0 mU=>aq λx1 nm=>?_)
 rw[gp]at mU;subst mU
 rw[Sz h,dY ⟨f0,f1⟩]at nm
 subst nm
 refine aa (λhb=>by cases hb) λ_=>aa (λhb=>by simp[hs]at hb) λ_=>?_
 refine fg (inv:=λz:Int×List Int=>0<=z.1/\z.1<=32/\ei P z.2/\∀b:Nat,kY z.2 b=if f*128<=b/\(b:Int)<f*128+4*z.1 then((s.getD (b-f*128).toNat 0).toNat:Int)else kY x0 b) (μ:=V6 x0 f s) ⟨show(0:Int)<=0 by decide,show(0:Int)<=32 by decide,h,λb=>by rw[if_neg];show¬(_/\_<_+4*(0:Int));omega⟩ (cO _) λz ⟨z1,z2,z3,z4⟩=>?_
 refine aa (λhb=>?_) (λhb=>⟨rfl,z3,λb=>?_⟩)
 ·have hb:=oY hb
  have e1:i64.wrap (4*z.1)=4*z.1:=by rw[wrap_i64];omega
  have e2:i64.wrap (i64.wrap (4*z.1)+4)=4*z.1+4:=by rw[wrap_i64,wrap_i64];omega
  have e3:i64.wrap (i64.wrap (f*32)+z.1)=f*32+z.1:=by rw[wrap_i64,wrap_i64];omega
  have hl:=z3.len
  have cut:dF (i64.wrap (i64.wrap (4*z.1)+4))-dF (i64.wrap (4*z.1))=4:=by rw[e2,e1];omega
  have hlen:(cZ (dF (i64.wrap (i64.wrap (4*z.1)+4))-dF (i64.wrap (4*z.1))) (dA (dF (i64.wrap (4*z.1))) s)).length=4:=by
   rw[cut,e1,bD,bF];omega
  refine ax (dY (by rw[e2,e1];omega)) ?_
  refine ax (dY (by rw[hlen];decide)) (ax (dY (by rw[hlen];decide)) (ax (dY (by rw[hlen];decide)) (ax (dY (by rw[hlen];decide)) (ax (by rw[e3];simp[bJ];omega) (ek ?_)))))
  have ew:i64.wrap (z.1+1)=z.1+1:=by rw[wrap_i64];omega
  rw[cut]
  refine⟨⟨by show 0<=i64.wrap (z.1+1);rw[ew];omega,by show i64.wrap (z.1+1)<=32;rw[ew];omega,?_,?_⟩,by show(32-i64.wrap (z.1+1)).toNat<(32-z.1).toNat;rw[ew];omega⟩
  ·show ei P (dG _ _ _)
   exact⟨by rw[dH];exact hl,z3.p1,z3.p2,Dm z3.u (mC _ _) _⟩
  ·intro b
   show kY (dG z.2 (dF (i64.wrap (i64.wrap (f*32)+z.1))) _) b=if f*128<=(b:Int)/\(b:Int)<f*128+4*i64.wrap (z.1+1)then _ else _
   rw[e3,ew,four (Gj _) (Gj _) (Gj _) (Gj _),Wv (by omega)]
   have g:∀k:Nat,k<4->(cZ 4 (dA (dF (i64.wrap (4*z.1))) s)).getD k 0=s.getD ((4*z.1).toNat+k) 0:=λk hk=>by rw[e1];exact xI _ _ _ _ hk
   by_cases hc:b/4=(f*32+z.1).toNat
   ·have SA:f*128<=(b:Int)/\(b:Int)<f*128+4*(z.1+1):=by omega
    rw[if_pos hc,qI (Gj _) (Gj _) (Gj _) (Gj _) _ (by omega),if_pos SA]
    have hb4:b%4=0\/b%4=1\/b%4=2\/b%4=3:=by omega
    have gi:(b-f*128).toNat=(4*z.1).toNat+b%4:=by omega
    rw[gi]
    rcases hb4 with h4|h4|h4|h4<;>rw[h4]
    ·rw[if_pos rfl,<-g 0 (by omega)];rfl
    ·rw[if_neg (by decide),if_pos rfl,<-g 1 (by omega)];rfl
    ·rw[if_neg (by decide),if_neg (by decide),if_pos rfl,<-g 2 (by omega)];rfl
    ·rw[if_neg (by decide),if_neg (by decide),if_neg (by decide),<-g 3 (by omega)];rfl
   ·rw[if_neg hc,z4 b]
    by_cases hd:f*128<=(b:Int)/\(b:Int)<f*128+4*z.1
    ·rw[if_pos hd,if_pos (by omega)]
    ·rw[if_neg hd,if_neg (by omega)]
 ·have hb:=oN hb
  show kY z.2 b=_
  rw[z4 b,show z.1=32 by omega]
  rfl
theorem Wy{α:Type}(l l2:List α)(k:Nat)(z:α):(l++l2).getD k z=if k<l.length then l.getD k z else l2.getD (k-l.length) z:=by
 simp only[dC,List.getElem?_append]
 split<;>rfl
theorem u8w{x:Int}:wrap .u8 x=x%256:=wrap_u8 x
theorem Gk(W:Int):bf .u32 W 8=W/256/\bf .u32 W 16=W/65536/\bf .u32 W 24=W/16777216:=by
 refine⟨?_,?_,?_⟩
 ·show eJ W 256=_;rw[dP _ (by decide)]
 ·show eJ W 65536=_;rw[dP _ (by decide)]
 ·show eJ W 16777216=_;rw[dP _ (by decide)]
theorem b4d(W:Int){k:Nat}(hk:k<4):[wrap .u8 W,wrap .u8 (bf .u32 W 8),wrap .u8 (bf .u32 W 16),wrap .u8 (bf .u32 W 24)].getD k 0=sj W k:=by
 obtain⟨a,b,c⟩:=Gk W
 have hk:k=0\/k=1\/k=2\/k=3:=by omega
 rcases hk with rfl|rfl|rfl|rfl<;>simp[sj,a,b,c,u8w]
theorem Wz(l:List Int)(k:Nat)(h:0<=l.getD k 0/\l.getD k 0<256)(hk:k<l.length):(((bytesOf l).getD k 0).toNat:Int)=l.getD k 0:=by
 have e:(bytesOf l).getD k 0=eX (l.getD k 0).toNat:=by
  simp[bytesOf,dC,hk]
 rw[e,UInt8.toNat_ofNat']
 omega
theorem Zh0(l:List UInt8)(k:Nat)(hk:k<l.length):(jq l).getD k 0=((l.getD k 0).toNat:Int):=by
 simp[jq,dC,hk]
theorem zaC(w:List Int)(h:w.length<=32):(Eu w).w (λr=>r.length=4*w.length/\∀k:Nat,k<4*w.length->((r.getD k 0).toNat:Int)=sj (w.getD (k/4) 0) (k%4)):=by
 have e0:i64.wrap (4*(w.length:Int))=4*w.length:=by rw[wrap_i64];omega
 unfold Eu
 refine ax (by rw[e0];simp[bJ,D.plain];omega) ?_
 refine fg (inv:=λz:Int×List Int=>0<=z.1/\z.1<=w.length/\(z.2.length:Int)=4*z.1/\∀k:Nat,(k:Int)<4*z.1->z.2.getD k 0=sj (w.getD (k/4) 0) (k%4)) (μ:=Nl w) ⟨by decide,by show(0:Int)<=w.length;omega,rfl,λk hk=>by have hk:(k:Int)<4*0:=hk;omega⟩ (cO _) λz ⟨z1,z2,z3,z4⟩=>?_
 refine aa (λhb=>?_) (λhb=>?_)
 ·have hb:=oY hb
  have ew:i64.wrap (z.1+1)=z.1+1:=by rw[wrap_i64];omega
  refine ax (by simp[bJ];omega) (ax (dY (by omega)) (ek ?_))
  show(_/\_/\_/\∀k:Nat,(k:Int)<4*i64.wrap (z.1+1)->(z.2++_).getD k 0=_)/\(_:Nat)<_
  refine⟨⟨by rw[ew];omega,by rw[ew];omega,by rw[ew,lA];simp only[dI,dJ];omega,λk hk=>?_⟩,by show(w.length-i64.wrap (z.1+1)).toNat<(w.length-z.1).toNat;rw[ew];omega⟩
  rw[ew]at hk
  rw[Wy]
  split
  ·exact z4 k (by omega)
  ·rename_i hn
   rw[b4d _ (by omega),show z.1.toNat=k/4 by omega,show k-z.2.length=k%4 by omega]
 ·have hb:=oN hb
  show(bytesOf z.2).length=_/\∀k:Nat,_->(((bytesOf z.2).getD k 0).toNat:Int)=_
  refine⟨by rw[Nn];omega,λk hk=>?_⟩
  have e:=z4 k (by omega)
  have:=vi (w.getD (k/4) 0) (k%4)
  rw[Wz _ _ (by rw[e];exact this) (by omega),e]
def Aj(m:List Int)(f:Int)(r:List UInt8):Prop:=r.length=128/\∀k:Nat,k<128->((r.getD k 0).toNat:Int)=kY m ((f*128).toNat+k)
theorem xaC{m:List Int}{f:Int}{r s:List UInt8}(a:Aj m f r)(b:Aj m f s):r=s:=by
 obtain⟨a1,a2⟩:=a
 obtain⟨b1,b2⟩:=b
 refine bN (by omega) λi h1 h2=>?_
 have e:=(a2 i (by omega)).trans (b2 i (by omega)).symm
 have e1:r[i]=r.getD i 0:=by simp[aK,h1]
 have e2:s[i]=s.getD i 0:=by simp[aK,h2]
 rw[e1,e2]
 exact UInt8.toNat_inj.1 (by omega)
theorem zj{P:Nat}{m:List Int}(h:ei P m){f:Int}(f0:0<=f)(f1:f<P):(F0 m f).w (λr=>Aj m f r.1/\r.2=true):=by
 have hl:=h.len
 have h2:=h.p2
 unfold F0
 refine aq λx0 mU=>?_
 rw[Sz h,dY ⟨f0,f1⟩]at mU
 subst mU
 refine aa (λhb=>by cases hb) (λhb=>?_)
 have e1:i64.wrap (f*32)=f*32:=by rw[wrap_i64];omega
 have e2:i64.wrap (i64.wrap (f*32)+32)=f*32+32:=by rw[wrap_i64,wrap_i64];omega
 have cut:dF (i64.wrap (i64.wrap (f*32)+32))-dF (i64.wrap (f*32))=32:=by rw[e2,e1];omega
 have hlen:(cZ 32 (dA (dF (i64.wrap (f*32))) m)).length=32:=by
  rw[e1,bD,bF];omega
 refine ax (by rw[e2,e1];simp[bJ];omega) ?_
 rw[cut]
 refine cr (by show dK _<=1000000000000;rw[hlen];decide) (aq λx1 h1=>?_)
 have t:=(Tree.pp (zaC _ (dL hlen))).2
 rw[hlen,show(Eu (cZ 32 (dA (dF (i64.wrap (f*32))) m))).m=x1 from h1.symm]at t
 refine⟨⟨t.1,λk hk=>?_⟩,rfl⟩
 show((x1.getD k 0).toNat:Int)=_
 rw[t.2 k hk,kY,e1]
 have g:(cZ 32 (dA (dF (f*32)) m)).getD (k/4) 0=m.getD ((f*32).toNat+k/4) 0:=by
  simp[dC,aU,show k/4<32 by omega]
 rw[g,show((f*128).toNat+k)/4=(f*32).toNat+k/4 by omega,show((f*128).toNat+k)%4=k%4 by omega]
theorem qaD(x:Int):WA x 4=bytesOf [wrap .u8 (bf .u32 x 0),wrap .u8 (bf .u32 x 8),wrap .u8 (bf .u32 x 16),wrap .u8 (bf .u32 x 24)]:=by kernel_rfl
theorem qak{P:Nat}{m:List Int}(hm:ei P m){frame:Int}(f0:0<=frame)(f1:frame<P):(Q9 m frame).w (λr=>Aj m frame r.1/\r.2=true):=by
 have hp:=Dw hm
 have hl:=hm.len
 have h2:=hm.p2
 unfold Q9
 refine aa (λh=>by have:=oY h;omega) (λh=>aq λx0 hx=>aa (λh1=>by have:=oY h1;rw[hx,hp]at this;omega) (λh1=>?_))
 refine fg (inv:=λz:Int×List Int=>0<=z.1/\z.1<=32/\(z.2.length:Int)=4*z.1/\∀k:Nat,(k:Int)<4*z.1->z.2.getD k 0=kY m ((frame*128).toNat+k)) (μ:=WB m frame) ⟨by decide,by decide,rfl,λk hk=>by have hk:(k:Int)<4*0:=hk;omega⟩ (cO _) (λz hz=>?_)
 obtain⟨z1,z2,z3,z4⟩:=hz
 refine aa (λhb=>?_) (λhb=>?_)
 ·have hb:=oY hb
  have e:wrap i64 (wrap i64 (frame*32)+z.1)=frame*32+z.1:=by rw[wrap_i64,wrap_i64];omega
  refine ax (by rw[e];simp[bJ];omega) (cr (show(4:Int)<=1000000000000 by decide) (aq λx1 h4=>?_))
  rw[qaD,ND,e]at h4
  have l4:x1.length=4:=by rw[h4];rfl
  refine ax (dY (by rw[SB,l4];omega)) (ek ?_)
  show(0<=i64.wrap (z.1+1)/\i64.wrap (z.1+1)<=32/\((z.2++jq x1).length:Int)=4*i64.wrap (z.1+1)/\∀k:Nat,(k:Int)<4*i64.wrap (z.1+1)->(z.2++jq x1).getD k 0=_)/\(32-i64.wrap (z.1+1)).toNat<(32-z.1).toNat
  have ew:i64.wrap (z.1+1)=z.1+1:=by rw[wrap_i64];omega
  rw[ew]
  refine⟨⟨by omega,by omega,by rw[lA,SB,l4];omega,λk hk=>?_⟩,by omega⟩
  rw[Wy]
  split
  ·exact z4 k (by omega)
  ·rename_i hn
   have Dx:k-z.2.length<4:=by omega
   rw[Zh0 _ _ (by omega),h4]
   have d:=b4d (m.getD (frame*32+z.1).toNat 0) Dx
   rw[Wz _ _ (by rw[d];exact vi _ _) (by simpa using Dx),d,kY]
   rw[show((frame*128).toNat+k)/4=(frame*32+z.1).toNat by omega,show((frame*128).toNat+k)%4=k-z.2.length by omega]
 ·have hb:=oN hb
  refine⟨⟨?_,λk hk=>?_⟩,rfl⟩
  ·show(bytesOf z.2).length=128
   rw[Nn];omega
  ·show(((bytesOf z.2).getD k 0).toNat:Int)=_
   have e:=z4 k (by omega)
   rw[Wz _ _ (by rw[e];exact vi _ _) (by omega),e]
theorem Zcf{P:Nat}{m:List Int}(h:ei P m)(f:Int):Dy m f=KO m f:=by
 by_cases hf:0<=f/\f<P
 ·have a:=(Tree.pp (zj h hf.1 hf.2)).2
  have b:=(Tree.pp (qak h hf.1 hf.2)).2
  exact eY (xaC a.1 b.1) (a.2.trans b.2.symm)
 ·have hp:=Dw h
  have e1:Dy m f=([],false):=by
   simp only[Dy,F0,Tree.m,dj,Sz h,dN hf];rfl
  have e2:KO m f=([],false):=by
   simp only[KO,Q9,Tree.m,dj,hp]
   by_cases h0:f<0
   ·rw[dY h0];rfl
   ·rw[dN h0,dY (show f>=P by omega)];rfl
  rw[e1,e2]
section
variable {P:Nat} {m:List Int} (h:ei P m)
include h
theorem Zco{f:Int}(f0:0<=f)(f1:f<P){s:List UInt8}(hs:s.length=128):Dz m f s=(NJ m f s,true):=by
 have a:=(Tree.pp (Wx h f0 f1 hs)).2
 have b:=(Tree.pp (xY h f0 f1 s)).2
 refine eY (Wu (a.2.1.len.trans b.1.len.symm) a.2.1.u b.1.u λk=>?_) a.1
 have e:((min s.length 128:Nat):Int)=128:=by rw[hs];rfl
 have b2:=b.2 k
 have a2:=a.2.2 k
 rw[e]at b2
 exact a2.trans b2.symm
theorem Zfe{f:Int}(f0:0<=f)(f1:f<P){s r:List UInt8}(hs:s.length<=128)(hr:Aj m f r):Dz m f (s++r.drop s.length)=(NJ m f s,true):=by
 have hl:(s++r.drop s.length).length=128:=by have:=hr.1;simp;omega
 have a:=(Tree.pp (Wx h f0 f1 hl)).2
 have b:=(Tree.pp (xY h f0 f1 s)).2
 refine eY (Wu (a.2.1.len.trans b.1.len.symm) a.2.1.u b.1.u λk=>?_) a.1
 have b2:=b.2 k
 have a2:=a.2.2 k
 refine a2.trans (Eq.trans ?_ b2.symm)
 by_cases hc:f*128<=(k:Int)/\(k:Int)<f*128+128
 ·rw [if_pos hc,Wy]
  by_cases hd:(k-f*128).toNat<s.length
  ·rw[if_pos hd,if_pos (by omega)]
  ·rw[if_neg hd,if_neg (by omega)]
   have e:(r.drop s.length).getD ((k-f*128).toNat-s.length) 0=r.getD (k-f*128).toNat 0:=by
    simp[dC,show s.length+((k-f*128).toNat-s.length)=(k-f*128).toNat by omega]
   rw[e,hr.2 _ (by omega),show(f*128).toNat+(k-f*128).toNat=k by omega]
 ·rw[if_neg hc,if_neg (by omega)]
theorem KP{a:Int}(ha:U a){size:Int}(hs:size=1\/size=4):rp m a size=decide (a%size=0/\a<128*P):=by
 have hq:=Dw h
 have h2:=h.p2
 have a0:=ha.1
 have e:wrap u32 size=size:=by rcases hs with rfl|rfl<;>decide
 have e0:decide (wrap u32 size≠0)=true:=by rcases hs with rfl|rfl<;>decide
 have t:dE a (wrap u32 size)=a%size:=by rw[e,eF a0]
 have l:∀x,x=wc m->a%size=0->decide (a<wrap u32 (wrap i64 (128*x)))=decide (a%size=0/\a<128*P):=λx hx hz=>by
  rw[hx,hq,wrap_u32,wrap_i64]
  exact decide_eq_decide.2 ⟨λh=>⟨hz,by omega⟩,λh=>by omega⟩
 refine Tree.post (Iz m a size) (W:=λb=>b=decide (a%size=0/\a<128*P)) ?_
 unfold Iz
 refine aa (λh1=>aa (λh4=>?_) (λ_=>?_)) (λ_=>?_)
 ·have h1:¬size=1:=by simpa using h1
  have h4:¬size=4:=by simpa using h4
  omega
 all_goals
  refine ax e0 (aa (λhb=>aq λx hx=>l x hx ?_) (λhb=>?_))
  ·rw[t]at hb;exact eq_of_beq hb
  ·rw[t]at hb
   exact(dN (λh=>by rw[h.1]at hb;cases hb)).symm
theorem Z1j{a:Int}(ha:U a){size:Int}(hs:size=1\/size=4):WC m a size=rp m a size:=by
 rw[KP h ha hs]
 have hq:=WD h
 have h2:=h.p2
 have a0:=ha.1
 have a1:=ha.2
 have e:wrap u32 size=size:=by rcases hs with rfl|rfl<;>decide
 have e0:decide (wrap u32 size≠0)=true:=by rcases hs with rfl|rfl<;>decide
 have t:dE a (wrap u32 size)=a%size:=by rw[e,eF a0]
 have l:∀x,x=lC m->a%size=0->decide (wrap u64 (wrap u64 a+wrap u64 size)<=wrap u64 (wrap u64 x*128))=decide (a%size=0/\a<128*P):=λx hx hz=>by
  rw[hx,hq]
  simp only[wrap_u64]
  refine decide_eq_decide.2 ⟨λh=>⟨hz,?_⟩,λh=>?_⟩<;>rcases hs with rfl|rfl<;>omega
 refine Tree.post (IA m a size) (W:=λb=>b=decide (a%size=0/\a<128*P)) ?_
 unfold IA
 refine aa (λh1=>aa (λh4=>?_) (λ_=>?_)) (λ_=>?_)
 ·have h1:¬size=1:=by simpa using h1
  have h4:¬size=4:=by simpa using h4
  omega
 all_goals
  refine ax e0 (aa (λhb=>?_) (λhb=>aq λx hx=>l x hx ?_))
  ·rw[t]at hb
   exact(dN (λh=>by rw[h.1]at hb;cases hb)).symm
  ·rw[t]at hb;simpa using hb
end
theorem WE(w:Int):tf w 0 8=bb .u32 (bf .u32 w 0) 255/\tf w 8 8=bb .u32 (bf .u32 w 8) 255/\tf w 16 8=bb .u32 (bf .u32 w 16) 255/\tf w 24 8=bb .u32 (bf .u32 w 24) 255:=
 ⟨by kernel_rfl,by kernel_rfl,by kernel_rfl,by kernel_rfl⟩
theorem WG(w v:Int):KQ w 0 8 v=tY w v 0/\KQ w 8 8 v=tY w v 8/\KQ w 16 8 v=tY w v 16/\KQ w 24 8 v=tY w v 24:=
 ⟨by kernel_rfl,by kernel_rfl,by kernel_rfl,by kernel_rfl⟩
theorem yj{a:Int}(ha:U a):wrap .i64 (wrap .i64 (dE a 4)*8)=8*(a%4)/\wrap .u32 (8*dE a 4)=8*(a%4):=by
 obtain⟨a0,a1⟩:=ha
 rw[eF a0]
 exact⟨by rw[wrap_i64,wrap_i64];omega,by rw[wrap_u32];omega⟩
section
variable {P:Nat} {m:List Int} (h:ei P m)
include h
theorem NK{a:Int}(ha:U a){size:Int}(hs:size=1\/size=4):BS m a size=kB m a size:=by
 have e:=Z1j h ha hs
 obtain⟨s1,s2⟩:=yj ha
 have f:tf (m.getD (dF (wrap .u32 (eU a 4))) 0) (8*(a%4)) 8=bb .u32 (bf .u32 (m.getD (dF (wrap .u32 (eU a 4))) 0) (8*(a%4))) 255:=by
  obtain⟨f0,f1,f2,f3⟩:=WE (m.getD (dF (wrap .u32 (eU a 4))) 0)
  have:a%4=0\/a%4=1\/a%4=2\/a%4=3:=by omega
  rcases this with h|h|h|h<;>rw[h]
  ·exact f0
  ·exact f1
  ·exact f2
  ·exact f3
 simp only[BS,KR,kB,Ak,Tree.m,dj,e,s1,s2,f]
omit h in
theorem WH(a size:Int):(kB m a size).2=rp m a size:=by
 simp only[kB,Ak,Tree.m,dj]
 cases rp m a size
 ·rfl
 ·cases size==1<;>rfl
theorem Z7p{a:Int}(ha:U a){size:Int}(hs:size=1\/size=4)(v:Int):KS m a size v=bif rp m a size then(AO m a size v,true)else(m,false):=by
 have gp:jy m=m:=rfl
 have e:=Z1j h ha hs
 obtain⟨s1,s2⟩:=yj ha
 have f:∀w,KQ w (8*(a%4)) 8 v=ie .u32 (nC .u32 w (ea .u32 255 (8*(a%4)))) (ea .u32 (bb .u32 v 255) (8*(a%4))):=λw=>by
  obtain⟨f0,f1,f2,f3⟩:=WG w v
  have:a%4=0\/a%4=1\/a%4=2\/a%4=3:=by omega
  rcases this with h|h|h|h<;>rw[h]
  ·exact f0
  ·exact f1
  ·exact f2
  ·exact f3
 simp only[KS,KT,AO,Qd,Tree.m,dj,gp,e,s1,s2,f]
 rcases hs with rfl|rfl<;>cases rp m a _<;>rfl
end
section
variable {P:Nat} {m:List Int} (h:ei P m)
include h
theorem vj{root va:Int}(hr:U root)(hv:U va){access:Int}(ha:access=1\/access=2\/access=3):SC m root va access=Al m root va access:=by
 have hp:=Dw h
 have h2:=h.p2
 have hlen:=h.len
 obtain⟨r1,r2⟩:=hr
 obtain⟨v1,v2⟩:=hv
 have Im:∀{f:Int},U f->NL m f=decide (f<P):=λhf=>vS h hf
 have eP:wrap .u32 (P:Int)=P:=by rw[wrap_u32];omega
 have kn:KU access=true:=by rcases ha with rfl|rfl|rfl<;>rfl
 have ca:Qiz access=(tg access,true):=by rcases ha with rfl|rfl|rfl<;>rfl
 simp only[SC,KV,Al,Gl,Tree.m,dj,hp,eP,kn,ca,Im ⟨r1,r2⟩]
 by_cases c1:va>=4096
 ·rw[dY c1];rfl
 by_cases c2:root<P
 ·have eE:wrap u32 (wrap u32 (root*128)+wrap u32 (4*wrap u32 (eU va 128)))=root*128+4*(va/128):=by
   rw[eV v1,wrap_u32,wrap_u32,wrap_u32,wrap_u32];omega
  have hE:U (root*128+4*(va/128)):=⟨by omega,by omega⟩
  have wi:rp m (root*128+4*(va/128)) 4=true:=by
   rw[KP h hE (.inr rfl)];exact dY ⟨by omega,by omega⟩
  rw[dN c1,dY c2,dN (show¬root>=P by omega),eE,NK h hE (.inr rfl),WH,wi]
  have ld:(kB m (root*128+4*(va/128)) 4).1=m.getD (dF (wrap .u32 (eU (root*128+4*(va/128)) 4))) 0:=by
   simp only[kB,Ak,Tree.m,dj,wi];rfl
  rw[ld]
  generalize m.getD (dF (wrap .u32 (eU (root*128+4*(va/128)) 4))) 0=w
  have fo:WI w=bb .u32 (bf .u32 w 8) 255:=(fld w).2.2.2.2
  rw[fo,Im (Iy _ _)]
  have pk:decide (bb .u32 (bf .u32 w 8) 255>=(P:Int))=!decide (bb .u32 (bf .u32 w 8) 255<(P:Int)):=by
   by_cases hq:bb .u32 (bf .u32 w 8) 255<(P:Int)
   ·rw[dY hq,dN (by omega)];rfl
   ·rw[dN hq,dY (by omega)];rfl
  rw[pk]
  generalize decide (bb .u32 (bf .u32 w 8) 255<(P:Int))=d
  rcases ha with rfl|rfl|rfl
  ·show _=(bif bb .u32 w 1==0 then _ else bif bb .u32 w 4==0 then _ else bif !d then _ else _)
   have:SD w 1=(bif bb .u32 w 1==0 then false else !(bb .u32 w 4==0)):=rfl
   rw[this]
   cases bb .u32 w 1==0<;>cases bb .u32 w 4==0<;>cases d<;>rfl
  ·show _=(bif bb .u32 w 1==0 then _ else bif !d then _ else _)
   have:SD w 2=(bif bb .u32 w 1==0 then false else true):=rfl
   rw[this]
   cases bb .u32 w 1==0<;>cases d<;>rfl
  ·show _=(bif bb .u32 w 1==0 then _ else bif bb .u32 w 2==0 then _ else bif !d then _ else _)
   have:SD w 3=(bif bb .u32 w 1==0 then false else !(bb .u32 w 2==0)):=rfl
   rw[this]
   cases bb .u32 w 1==0<;>cases bb .u32 w 2==0<;>cases d<;>rfl
 ·rw[dN c1,dN c2,dY (show root>=P by omega)];rfl
theorem Znf{a:Int}(ha:U a)(access:Int):Qb m a access=SE m a access:=by
 have gp:jy m=m:=rfl
 have hl:=h.len
 have a0:=ha.1
 simp only[Qb,KW,SE,KX,Tree.m,dj,NK h ha (.inr rfl),WH,Z7p h ha (.inr rfl),gp]
 cases hw:rp m a 4
 ·rfl
 ·rw[KP h ha (.inr rfl)]at hw
  have hw:=oY hw
  have wi:rp m a 4=true:=by rw[KP h ha (.inr rfl)];exact dY hw
  have ld:(kB m a 4).1=m.getD (dF (wrap .u32 (eU a 4))) 0:=by
   simp only[kB,Ak,Tree.m,dj,wi];rfl
  have pu:∀v,AO m a 4 v=m.set (dF (wrap .u32 (eU a 4))) v:=λv=>rfl
  rw[ld,pu,pu]
  have hi:dF (wrap .u32 (eU a 4))<m.length:=by
   rw[eV a0,wrap_u32];omega
  generalize dF (wrap .u32 (eU a 4))=i at*
  rw[Qsg hi,List.set_set]
  rfl
end
theorem NM{c:bg}(h0:0<=c.B2.a0)(h:c.B2.a0<=31)(k b:Int):pO c k b=px c k b:=by
 have e:=eq_of_beq (EB (λs=>nC .u32 (ie .u32 (Af (Af s 1 8) 2 16) 1) 2==ie .u32 (nC .u32 (ie .u32 (ie .u32 (nC .u32 s 24) (wrap .u32 (8*BT (bb .u32 s 1 !=0)))) (wrap .u32 (16*BT (bb .u32 s 2 !=0)))) 2) 1) 32 (by kernel_rfl) h0 (by omega))
 simp only[pO,NN,px,NO,Tree.m,dj,e]
theorem Zhn{c:bg}(h0:0<=c.B2.a0)(h:c.B2.a0<=31):KG c=SF c:=by
 have e:=eq_of_beq (EB (λs=>Af (Af s 8 1) 16 2==ie .u32 (ie .u32 (nC .u32 s 3) (wrap .u32 (1*BT (bb .u32 s 8 !=0)))) (wrap .u32 (2*BT (bb .u32 s 16 !=0)))) 32 (by kernel_rfl) h0 (by omega))
 simp only[KG,NP,SF,NQ,Tree.m,dj,e]
theorem Z62{c:bg}(h0:0<=c.B2.a0)(h:c.B2.a0<=31):SG c=(!Gm c&&(bb .u32 c.B2.a0 4 !=0)):=
 eq_of_beq (EB (λs=>(bb .u32 s 5==4)==(!(bb .u32 s 1 !=0)&&(bb .u32 s 4 !=0))) 32 (by kernel_rfl) h0 (by omega))
theorem SH(c:bg){r:Int}(hr:0<=r/\r<16)(v:Int):tZ c r v=ll c r v:=by
 simp only[tZ,Ey,ll,IB,Tree.m]
 by_cases h:r=0
 ·subst h;rfl
 ·rw[dY (show r>0 by omega),dY hr.2,show(r !=0)=true by simpa using h];rfl
theorem zI{a b:Int}(ha:U a)(hb:U b):KY a b=KZ a b:=by
 obtain⟨a0,a1⟩:=ha
 obtain⟨b0,b1⟩:=hb
 have i:∀x,wrap .i64 (wrap .i32 x)=wrap .i32 x:=λx=>by rw[wrap_i64,wrap_i32];omega
 have r32:∀x,-2147483648<=wrap .i32 x/\wrap .i32 x<2147483648:=λx=>by rw[wrap_i32];omega
 have q32:∀x y:Int,-2147483648<=x/\x<2147483648-> -2147483648<=eU x y/\eU x y<=2147483648:=λx y hx=>by
  have h1:(eU x y).natAbs<=x.natAbs:=by rw[Int.natAbs_tdiv];exact Nat.div_le_self _ _
  omega
 simp only[KY,K0,KZ,K1,Tree.m,i]
 cases hb:b==0
 ·have w:∀z,wrap .u32 (wrap .i32 z)=wrap .u32 z:=λz=>by rw[wrap_i32,wrap_u32,wrap_u32];omega
  have w2:wrap .i64 (eU (wrap .i32 a) (wrap .i32 b))=eU (wrap .i32 a) (wrap .i32 b):=by
   have:=q32 _ (wrap .i32 b) (r32 a)
   rw[wrap_i64];omega
  rw[w,w2]
  cases h1:a==2147483648
  ·rfl
  ·cases h2:b==4294967295
   ·rfl
   ·have h1:=eq_of_beq h1
    have h2:=eq_of_beq h2
    subst h1;subst h2
    rfl
 ·rfl
theorem yI{op a b:Int}(h0:1<=op)(h1:op<=23)(ha:U a)(hb:U b):nn op a b=DA op a b:=by
 have sub:wrap .u32 (a+wrap .u32 (0-b))=wrap .u32 (a-b):=by
  rw[wrap_u32,wrap_u32,wrap_u32];omega
 have rj:op=1\/op=2\/op=3\/op=4\/op=5\/op=6\/op=7\/op=8\/op=9\/op=10\/op=11\/op=12\/op=13\/op=14\/op=15\/op=16\/op=17\/op=18\/op=19\/op=20\/op=21\/op=22\/op=23:=by omega
 have d:=zI ha hb
 rcases rj with rfl|rfl|rfl|rfl|rfl|rfl|rfl|rfl|rfl|rfl|rfl|rfl|rfl|rfl|rfl|rfl|rfl|rfl|rfl|rfl|rfl|rfl|rfl
 ·rfl
 ·show(wrap .u32 (a+wrap .u32 (0-b)),true)=(wrap .u32 (a-b),true)
  rw[sub]
 ·rfl
 ·rfl
 ·rfl
 ·rfl
 ·rfl
 ·rfl
 ·rfl
 ·show((KY a b).1,true)=((KZ a b).1,true)
  rw[d]
 ·show((KY a b).2,true)=((KZ a b).2,true)
  rw[d]
 all_goals rfl
theorem WJ{P:Nat}{m:List Int}(h:ei P m){c:bg}(hc:ir c)(jL:c.B2.a0<=31){va:Int}(hv:U va){size:Int}(hs:size=1\/size=4){access:Int}(ha:access=1\/access=2\/access=3):rr c m va size access=((Q1 c m va size access).1,(Q1 c m va size access).2.2,(Q1 c m va size access).2.1):=by
 have gp:jy m=m:=rfl
 have kn:KU access=true:=by rcases ha with rfl|rfl|rfl<;>rfl
 have ca:Qqq access=(tg access,true):=by rcases ha with rfl|rfl|rfl<;>rfl
 have pg:=Z62 hc.a0.1 jL
 have wk:=vj h hc.a6 hv ha
 have tc:Qb m (Al m c.B2.a6 va access).E0 access=SE m (Al m c.B2.a6 va access).E0 access:=Znf h (Tree.pp (y8 h hc.a6 hv access)).2.2.1 access
 have sz:(bif size !=1 then bif size !=4 then false else true else true)=true:=by rcases hs with rfl|rfl<;>rfl
 simp only[rr,K3,Q1,Gn,Tree.m,dj,gp,kn,ca,pg,wk,tc,NK h hv hs,WH]
 rcases hs with rfl|rfl<;>
 ·show(bif _ then _ else _)=_
  cases dE va _ !=0<;>cases Gm c<;>cases bb .u32 c.B2.a0 4 !=0<;>cases(Al m c.B2.a6 va access).D9 !=0<;>cases rp m va _<;>rfl
theorem WK{α:Type}{Q:α->Prop}{c:Bool}{x y:α}(hx:Q x)(hy:Q y):Q (cond c x y):=by cases c<;>assumption
theorem zak(m:List Int)(root:Int){va:Int}(hv:U va)(access:Int):(Al m root va access).D9=0->(Al m root va access).Addr%4=va%4:=by
 have hc:tg access≠0:=by
   simp only[tg,K4,Tree.m]
   cases access==1<;>cases access==3<;>simp
 have q :(λt:re=>t.D9=0->t.Addr%4=va%4) (Al m root va access):=by
   simp only[Al,Gl,Tree.m,dj]
   repeat'(first
     |exact λe=>absurd e hc
     | (intro _
        show wrap .u32 (wrap .u32 (_*128)+dE va 128)%4=va%4
        rw[eF hv.1,wrap_u32,wrap_u32];omega)
     |refine WK (Q:=λt:re=>t.D9=0->t.Addr%4=va%4) ?_ ?_)
 exact q
theorem vI{c:bg}{m:List Int}{va:Int}(hv:U va){size:Int}(hs:size=1\/size=4){access:Int}(ha:access=1\/access=2\/access=3):(Q1 c m va size access).2.1=0->(Q1 c m va size access).1%size=0:=by
 have kn:KU access=true:=by rcases ha with rfl|rfl|rfl<;>rfl
 have hc:tg access≠0:=by
  simp only[tg,K4,Tree.m]
  cases access==1<;>cases access==3<;>simp
 rcases hs with rfl|rfl
 ·intro _;omega
 simp only[Q1,Gn,Tree.m,dj,kn]
 show(bif dE va 4 !=0 then((0:Int),(3:Int),m)else _).2.1=0->(bif dE va 4 !=0 then((0:Int),(3:Int),m)else _).1%4=0
 rw[eF hv.1]
 cases hz:va%4 !=0
 ·have hz:va%4=0:=by simpa using hz
  have w:=zak m c.B2.a6 hv access
  cases hp:SG c
  ·cases hw:rp m va 4
   ·exactλe=>absurd e hc
   ·exactλ_=>hz
  ·cases hq:(Al m c.B2.a6 va access).D9 !=0
   ·have hq:(Al m c.B2.a6 va access).D9=0:=by simpa using hq
    exactλ_=>(w hq).trans hz
   ·have hq:¬(Al m c.B2.a6 va access).D9=0:=by simpa using hq
    exactλe=>absurd e hq
 ·intro e;cases e
def dc:kD:={C4:=0,C6:=0,D7:=0,Value:=0}
def Q5(c:bg)(m:List Int)(i:gj):bg×List Int×kD:=
 bif i.Op==32 then((th c m i).1,(th c m i).2,dc)else bif i.Op==33 then((th c m i).1,(th c m i).2,dc)else bif i.Op==34 then((th c m i).1,(th c m i).2,dc)
 else bif i.Op==35 then((BU c m i).1,(BU c m i).2,dc)else bif i.Op==36 then((BU c m i).1,(BU c m i).2,dc)else((WL c i).1,m,(WL c i).2)
def c8(c:bg)(r:Int):Int:=aK (fv.l c.X) r.toNat 0
def oD(c:bg)(m:List Int)(i:gj):bg×kD×List Int:=
 bif decide (i.Op>=56)then((SI c i).1,(SI c i).2,m)else bif decide (i.Op>=40)then(Z1u c i,dc,m)else bif decide (i.Op>=32)then((Gp c m i).1,dc,(Gp c m i).2)
 else bif i.Op==24 then({X:=(ll c i.A (ea .u32 (wrap .u32 i.bh) 16)).X,Pc:=wrap .u32 ((ll c i.A (ea .u32 (wrap .u32 i.bh) 16)).Pc+4),B2:=(ll c i.A (ea .u32 (wrap .u32 i.bh) 16)).B2},dc,m)
 else bif decide (i.Op<=13)then
  ({X:=(ll c i.A (DA i.Op (c8 c i.B) (c8 c i.C)).1).X,Pc:=wrap .u32 ((ll c i.A (DA i.Op (c8 c i.B) (c8 c i.C)).1).Pc+4),B2:=(ll c i.A (DA i.Op (c8 c i.B) (c8 c i.C)).1).B2},dc,m)
 else({X:=(ll c i.A (DA i.Op (c8 c i.B) (wrap .u32 i.bh)).1).X,Pc:=wrap .u32 ((ll c i.A (DA i.Op (c8 c i.B) (wrap .u32 i.bh)).1).Pc+4),B2:=(ll c i.A (DA i.Op (c8 c i.B) (wrap .u32 i.bh)).1).B2},dc,m)
def oV(op:Int):Prop:=op=1\/op=2\/op=3\/op=4\/op=5\/op=6\/op=7\/op=8\/op=9\/op=10\/op=11\/op=12\/op=13\/op=16\/op=17\/op=18\/op=19\/op=20\/op=21\/op=22\/op=23\/op=24\/op=32\/op=33\/op=34\/op=35\/op=36\/op=40\/op=41\/op=42\/op=43\/op=44\/op=45\/op=48\/op=49\/op=56\/op=57\/op=58\/op=59\/op=60\/op=61\/op=62\/op=63\/op=64
theorem zY(c:bg)(r v:Int):(ll c r v).Pc=c.Pc/\(ll c r v).B2=c.B2:=by
 simp only[ll,IB,Tree.m]
 cases decide (r>0)
 ·exact⟨rfl,rfl⟩
 ·cases decide (r<16)<;>exact⟨rfl,rfl⟩
def IC(c:bg):bg:={X:=c.X,Pc:=wrap .u32 (c.Pc+4),B2:=c.B2}
def va(c:bg)(B bh:Int):Int:=wrap .u32 (aK (fv.l c.X) B.toNat 0+wrap .u32 bh)
def NR(c:bg)(A v size:Int)(f:Int->Int)(y:Int×List Int×Int):bg×List Int:=bif y.2.2 !=0 then(pO c y.2.2 v,y.2.1)else(IC (tZ c A (f (BS y.2.1 y.1 size).1)),y.2.1)
def NS(c:bg)(A v size:Int)(f:Int->Int)(x:Int×Int×List Int):bg×List Int:=bif x.2.1 !=0 then(px c x.2.1 v,x.2.2)else(IC (ll c A (f (kB x.2.2 x.1 size).1)),x.2.2)
def SJ(c:bg)(A v size:Int)(y:Int×List Int×Int):bg×List Int:=bif y.2.2 !=0 then(pO c y.2.2 v,y.2.1)else(IC c,(KS y.2.1 y.1 size (aK (fv.l c.X) A.toNat 0)).1)
def SK(c:bg)(A v size:Int)(x:Int×Int×List Int):bg×List Int:=bif x.2.1 !=0 then(px c x.2.1 v,x.2.2)else(IC c,AO x.2.2 x.1 size (aK (fv.l c.X) A.toNat 0))
theorem NT(c:bg)(m:List Int)(A B C bh:Int):
 (th c m ⟨32,A,B,C,bh⟩=NR c A (va c B bh) 4 (λv=>v) (rr c m (va c B bh) 4 2)/\Gp c m ⟨32,A,B,C,bh⟩=NS c A (va c B bh) 4 (λv=>v) (Q1 c m (va c B bh) 4 2))/\
 (th c m ⟨33,A,B,C,bh⟩=NR c A (va c B bh) 1 (λv=>Dv v 8) (rr c m (va c B bh) 1 2)/\Gp c m ⟨33,A,B,C,bh⟩=NS c A (va c B bh) 1 (λv=>Gg v 8) (Q1 c m (va c B bh) 1 2))/\
 (th c m ⟨34,A,B,C,bh⟩=NR c A (va c B bh) 1 (λv=>v) (rr c m (va c B bh) 1 2)/\Gp c m ⟨34,A,B,C,bh⟩=NS c A (va c B bh) 1 (λv=>v) (Q1 c m (va c B bh) 1 2))/\
 (BU c m ⟨35,A,B,C,bh⟩=SJ c A (va c B bh) 4 (rr c m (va c B bh) 4 3)/\Gp c m ⟨35,A,B,C,bh⟩=SK c A (va c B bh) 4 (Q1 c m (va c B bh) 4 3))/\
 (BU c m ⟨36,A,B,C,bh⟩=SJ c A (va c B bh) 1 (rr c m (va c B bh) 1 3)/\Gp c m ⟨36,A,B,C,bh⟩=SK c A (va c B bh) 1 (Q1 c m (va c B bh) 1 3)):=
 ⟨⟨by kernel_rfl,by kernel_rfl⟩,⟨by kernel_rfl,by kernel_rfl⟩,⟨by kernel_rfl,by kernel_rfl⟩,⟨by kernel_rfl,by kernel_rfl⟩,⟨by kernel_rfl,by kernel_rfl⟩⟩
theorem xak{P:Nat}{m:List Int}(h:ei P m)(a:Int):Dv (kB m a 1).1 8=Gg (kB m a 1).1 8:=by
 have:∀x:Int×Bool,(∃w,U w/\x=(bb .u32 w 255,true))\/x=(0,false)->Dv x.1 8=Gg x.1 8:=λx hx=>by
  rcases hx with⟨w,hw,rfl⟩|rfl
  ·have e:=BO hw
   exact sx8 (by show 0<=bb .u32 w 255;omega) (by show bb .u32 w 255<256;omega)
  ·rfl
 refine this _ ?_
 simp only[kB,Ak,Tree.m,dj]
 cases rp m a 1
 ·exact .inr rfl
 ·exact .inl ⟨_,Ah (Ai h.u _) _,rfl⟩
section
variable {P:Nat} {m:List Int} (h:ei P m) {c:bg} (hc:ir c) (jL:c.B2.a0<=31)
include h hc jL
omit jL in
theorem WM{v:Int}(hv:U v){size:Int}(hs:size=1\/size=4)(access:Int):ei P (Q1 c m v size access).2.2/\U (Q1 c m v size access).1/\((Q1 c m v size access).2.1=0->(Q1 c m v size access).1<128*P):=(Tree.pp (SL h hc hv hs access)).2
theorem WN{A v:Int}(hA:0<=A/\A<16)(hv:U v){size:Int}(hs:size=1\/size=4){f g:Int->Int}(hf:∀{m':List Int},ei P m'->∀a,f (kB m' a size).1=g (kB m' a size).1):NR c A v size f (rr c m v size 2)=NS c A v size g (Q1 c m v size 2):=by
 rw[WJ h hc jL hv hs (.inr (.inl rfl))]
 obtain⟨k,u,_⟩:=WM h hc hv hs 2
 generalize Q1 c m v size 2=x at*
 simp only[NR,NS,NK k u hs,NM hc.a0.1 jL,SH c hA,hf k]
theorem qk{A v:Int}(hv:U v){size:Int}(hs:size=1\/size=4):SJ c A v size (rr c m v size 3)=SK c A v size (Q1 c m v size 3):=by
 rw[WJ h hc jL hv hs (.inr (.inr rfl))]
 obtain⟨k,u,b⟩:=WM h hc hv hs 3
 have al:=vI (c:=c) (m:=m) hv hs (access:=3) (.inr (.inr rfl))
 generalize Q1 c m v size 3=x at*
 simp only[SJ,SK,Z7p k u hs,NM hc.a0.1 jL,KP k u hs]
 cases hq:x.2.1 !=0
 ·have hq:x.2.1=0:=by simpa using hq
  rw[dY ⟨al hq,b hq⟩];rfl
 ·rfl
end
theorem qJ(c:bg)(k v:Int):(NU c k v).Pc=c.Pc:=by
 simp only[NU,K5,Tree.m]
 repeat'(first|rfl|refine WK (Q:=λx:bg=>x.Pc=c.Pc) ?_ ?_)
def ja(c:bg)(A v p:Int):bg:={X:=(tZ c A v).X,Pc:=p,B2:=(tZ c A v).B2}
def EC(c:bg)(A v p:Int):bg:={X:=(ll c A v).X,Pc:=p,B2:=(ll c A v).B2}
def jD(c:bg):Int:=wrap .u32 (c.Pc+4)
theorem NV(c:bg){A:Int}(hA:0<=A/\A<16)(v p:Int):ja c A v p=EC c A v p:=by
 unfold ja EC;rw[SH c hA]
theorem WO(c:bg)(A v:Int):IC (ll c A v)=EC c A v (jD c):=by
 unfold IC EC jD;rw[(zY c A v).1]
theorem K6(t:Bool)(x y:bg)(m:List Int):((bif t then(x,dc)else(y,dc)).1,m,(bif t then(x,dc)else(y,dc)).2)=((bif t then x else y),m,dc):=by cases t<;>rfl
def Gq(op:Int):Bool:=decide (op=1)||decide (op=2)||decide (op=3)||decide (op=4)||decide (op=5)||decide (op=6)||decide (op=7)||decide (op=8)||decide (op=9)||decide (op=10)||decide (op=11)||decide (op=12)||decide (op=13)||decide (op=16)||decide (op=17)||decide (op=18)||decide (op=19)||decide (op=20)||decide (op=21)||decide (op=22)||decide (op=23)||decide (op=24)||decide (op=32)||decide (op=33)||decide (op=34)||decide (op=35)||decide (op=36)||decide (op=40)||decide (op=41)||decide (op=42)||decide (op=43)||decide (op=44)||decide (op=45)||decide (op=48)||decide (op=49)||decide (op=56)||decide (op=57)||decide (op=58)||decide (op=59)||decide (op=60)||decide (op=61)||decide (op=62)||decide (op=63)||decide (op=64)
section
variable {P:Nat} {m:List Int} (h:ei P m) {c:bg} (hc:ir c) (jL:c.B2.a0<=31) {A B C bh:Int} (hA:0<=A/\A<16)
include h hc jL hA
theorem xk{op:Int}(rj:oV op):Q5 c m ⟨op,A,B,C,bh⟩=((oD c m ⟨op,A,B,C,bh⟩).1,(oD c m ⟨op,A,B,C,bh⟩).2.2,(oD c m ⟨op,A,B,C,bh⟩).2.1):=by
 have oW:∀{k y:Int},1<=k->k<=23->U y->((ja c A (nn k (c8 c B) y).1 (jD c),m,dc):bg×List Int×kD)=(IC (ll c A (DA k (c8 c B) y).1),m,dc):=λh1 h2 hy=>by
  rw[yI h1 h2 (show U (c8 c B) from hc.r _) hy,WO,NV c hA]
 have uC:U (c8 c C):=hc.r _
 have uI:U (wrap .u32 bh):=fj _
 obtain⟨⟨l1,l2⟩,⟨l3,l4⟩,⟨l5,l6⟩,⟨l7,l8⟩,⟨l9,l10⟩⟩:=NT c m A B C bh
 have DB:U (va c B bh):=fj _
 rcases rj with rfl|rfl|rfl|rfl|rfl|rfl|rfl|rfl|rfl|rfl|rfl|rfl|rfl|rfl|rfl|rfl|rfl|rfl|rfl|rfl|rfl|rfl|rfl|rfl|rfl|rfl|rfl|rfl|rfl|rfl|rfl|rfl|rfl|rfl|rfl|rfl|rfl|rfl|rfl|rfl|rfl|rfl|rfl|rfl
 ·exact(show Q5 c m ⟨1,A,B,C,bh⟩=(ja c A (nn 1 (c8 c B) (c8 c C)).1 (jD c),m,dc) by kernel_rfl).trans ((oW (by decide) (by decide) uC).trans (by kernel_rfl))
 ·exact(show Q5 c m ⟨2,A,B,C,bh⟩=(ja c A (nn 2 (c8 c B) (c8 c C)).1 (jD c),m,dc) by kernel_rfl).trans ((oW (by decide) (by decide) uC).trans (by kernel_rfl))
 ·exact(show Q5 c m ⟨3,A,B,C,bh⟩=(ja c A (nn 3 (c8 c B) (c8 c C)).1 (jD c),m,dc) by kernel_rfl).trans ((oW (by decide) (by decide) uC).trans (by kernel_rfl))
 ·exact(show Q5 c m ⟨4,A,B,C,bh⟩=(ja c A (nn 4 (c8 c B) (c8 c C)).1 (jD c),m,dc) by kernel_rfl).trans ((oW (by decide) (by decide) uC).trans (by kernel_rfl))
 ·exact(show Q5 c m ⟨5,A,B,C,bh⟩=(ja c A (nn 5 (c8 c B) (c8 c C)).1 (jD c),m,dc) by kernel_rfl).trans ((oW (by decide) (by decide) uC).trans (by kernel_rfl))
 ·exact(show Q5 c m ⟨6,A,B,C,bh⟩=(ja c A (nn 6 (c8 c B) (c8 c C)).1 (jD c),m,dc) by kernel_rfl).trans ((oW (by decide) (by decide) uC).trans (by kernel_rfl))
 ·exact(show Q5 c m ⟨7,A,B,C,bh⟩=(ja c A (nn 7 (c8 c B) (c8 c C)).1 (jD c),m,dc) by kernel_rfl).trans ((oW (by decide) (by decide) uC).trans (by kernel_rfl))
 ·exact(show Q5 c m ⟨8,A,B,C,bh⟩=(ja c A (nn 8 (c8 c B) (c8 c C)).1 (jD c),m,dc) by kernel_rfl).trans ((oW (by decide) (by decide) uC).trans (by kernel_rfl))
 ·exact(show Q5 c m ⟨9,A,B,C,bh⟩=(ja c A (nn 9 (c8 c B) (c8 c C)).1 (jD c),m,dc) by kernel_rfl).trans ((oW (by decide) (by decide) uC).trans (by kernel_rfl))
 ·exact(show Q5 c m ⟨10,A,B,C,bh⟩=(ja c A (nn 10 (c8 c B) (c8 c C)).1 (jD c),m,dc) by kernel_rfl).trans ((oW (by decide) (by decide) uC).trans (by kernel_rfl))
 ·exact(show Q5 c m ⟨11,A,B,C,bh⟩=(ja c A (nn 11 (c8 c B) (c8 c C)).1 (jD c),m,dc) by kernel_rfl).trans ((oW (by decide) (by decide) uC).trans (by kernel_rfl))
 ·exact(show Q5 c m ⟨12,A,B,C,bh⟩=(ja c A (nn 12 (c8 c B) (c8 c C)).1 (jD c),m,dc) by kernel_rfl).trans ((oW (by decide) (by decide) uC).trans (by kernel_rfl))
 ·exact(show Q5 c m ⟨13,A,B,C,bh⟩=(ja c A (nn 13 (c8 c B) (c8 c C)).1 (jD c),m,dc) by kernel_rfl).trans ((oW (by decide) (by decide) uC).trans (by kernel_rfl))
 ·exact(show Q5 c m ⟨16,A,B,C,bh⟩=(ja c A (nn 16 (c8 c B) (wrap .u32 bh)).1 (jD c),m,dc) by kernel_rfl).trans ((oW (by decide) (by decide) uI).trans (by kernel_rfl))
 ·exact(show Q5 c m ⟨17,A,B,C,bh⟩=(ja c A (nn 17 (c8 c B) (wrap .u32 bh)).1 (jD c),m,dc) by kernel_rfl).trans ((oW (by decide) (by decide) uI).trans (by kernel_rfl))
 ·exact(show Q5 c m ⟨18,A,B,C,bh⟩=(ja c A (nn 18 (c8 c B) (wrap .u32 bh)).1 (jD c),m,dc) by kernel_rfl).trans ((oW (by decide) (by decide) uI).trans (by kernel_rfl))
 ·exact(show Q5 c m ⟨19,A,B,C,bh⟩=(ja c A (nn 19 (c8 c B) (wrap .u32 bh)).1 (jD c),m,dc) by kernel_rfl).trans ((oW (by decide) (by decide) uI).trans (by kernel_rfl))
 ·exact(show Q5 c m ⟨20,A,B,C,bh⟩=(ja c A (nn 20 (c8 c B) (wrap .u32 bh)).1 (jD c),m,dc) by kernel_rfl).trans ((oW (by decide) (by decide) uI).trans (by kernel_rfl))
 ·exact(show Q5 c m ⟨21,A,B,C,bh⟩=(ja c A (nn 21 (c8 c B) (wrap .u32 bh)).1 (jD c),m,dc) by kernel_rfl).trans ((oW (by decide) (by decide) uI).trans (by kernel_rfl))
 ·exact(show Q5 c m ⟨22,A,B,C,bh⟩=(ja c A (nn 22 (c8 c B) (wrap .u32 bh)).1 (jD c),m,dc) by kernel_rfl).trans ((oW (by decide) (by decide) uI).trans (by kernel_rfl))
 ·exact(show Q5 c m ⟨23,A,B,C,bh⟩=(ja c A (nn 23 (c8 c B) (wrap .u32 bh)).1 (jD c),m,dc) by kernel_rfl).trans ((oW (by decide) (by decide) uI).trans (by kernel_rfl))
 ·refine(show Q5 c m ⟨24,A,B,C,bh⟩=(ja c A (ea .u32 (wrap .u32 bh) 16) (jD c),m,dc) by kernel_rfl).trans ?_
  rw[NV c hA,<-WO];kernel_rfl
 ·have e:=WN h hc jL hA DB (.inr rfl) (f:=λv=>v) (g:=λv=>v) (λ_ _=>rfl)
  rw[<-l1,<-l2]at e
  refine(show Q5 c m ⟨32,A,B,C,bh⟩=((th c m ⟨32,A,B,C,bh⟩).1,(th c m ⟨32,A,B,C,bh⟩).2,dc) by kernel_rfl).trans ?_
  rw[e];kernel_rfl
 ·have e:=WN h hc jL hA DB (.inl rfl) (f:=λv=>Dv v 8) (g:=λv=>Gg v 8) (λhm a=>xak hm a)
  rw[<-l3,<-l4]at e
  refine(show Q5 c m ⟨33,A,B,C,bh⟩=((th c m ⟨33,A,B,C,bh⟩).1,(th c m ⟨33,A,B,C,bh⟩).2,dc) by kernel_rfl).trans ?_
  rw[e];kernel_rfl
 ·have e:=WN h hc jL hA DB (.inl rfl) (f:=λv=>v) (g:=λv=>v) (λ_ _=>rfl)
  rw[<-l5,<-l6]at e
  refine(show Q5 c m ⟨34,A,B,C,bh⟩=((th c m ⟨34,A,B,C,bh⟩).1,(th c m ⟨34,A,B,C,bh⟩).2,dc) by kernel_rfl).trans ?_
  rw[e];kernel_rfl
 ·have e:=qk h hc jL (A:=A) DB (.inr rfl)
  rw[<-l7,<-l8]at e
  refine(show Q5 c m ⟨35,A,B,C,bh⟩=((BU c m ⟨35,A,B,C,bh⟩).1,(BU c m ⟨35,A,B,C,bh⟩).2,dc) by kernel_rfl).trans ?_
  rw[e];kernel_rfl
 ·have e:=qk h hc jL (A:=A) DB (.inl rfl)
  rw[<-l9,<-l10]at e
  refine(show Q5 c m ⟨36,A,B,C,bh⟩=((BU c m ⟨36,A,B,C,bh⟩).1,(BU c m ⟨36,A,B,C,bh⟩).2,dc) by kernel_rfl).trans ?_
  rw[e];kernel_rfl
 ·exact(show Q5 c m ⟨40,A,B,C,bh⟩=((bif(pQ 40 (c8 c A) (c8 c B))then((⟨c.X,wrap .u32 (c.Pc+wrap .u32 (4*wrap .u32 bh)),c.B2⟩:bg),dc)else(⟨c.X,jD c,c.B2⟩,dc)).1,m,(bif(pQ 40 (c8 c A) (c8 c B))then((⟨c.X,wrap .u32 (c.Pc+wrap .u32 (4*wrap .u32 bh)),c.B2⟩:bg),dc)else(⟨c.X,jD c,c.B2⟩,dc)).2) by kernel_rfl).trans ((K6 (pQ 40 (c8 c A) (c8 c B)) ⟨c.X,wrap .u32 (c.Pc+wrap .u32 (4*wrap .u32 bh)),c.B2⟩ ⟨c.X,jD c,c.B2⟩ m).trans (by kernel_rfl))
 ·exact(show Q5 c m ⟨41,A,B,C,bh⟩=((bif(pQ 41 (c8 c A) (c8 c B))then((⟨c.X,wrap .u32 (c.Pc+wrap .u32 (4*wrap .u32 bh)),c.B2⟩:bg),dc)else(⟨c.X,jD c,c.B2⟩,dc)).1,m,(bif(pQ 41 (c8 c A) (c8 c B))then((⟨c.X,wrap .u32 (c.Pc+wrap .u32 (4*wrap .u32 bh)),c.B2⟩:bg),dc)else(⟨c.X,jD c,c.B2⟩,dc)).2) by kernel_rfl).trans ((K6 (pQ 41 (c8 c A) (c8 c B)) ⟨c.X,wrap .u32 (c.Pc+wrap .u32 (4*wrap .u32 bh)),c.B2⟩ ⟨c.X,jD c,c.B2⟩ m).trans (by kernel_rfl))
 ·exact(show Q5 c m ⟨42,A,B,C,bh⟩=((bif(pQ 42 (c8 c A) (c8 c B))then((⟨c.X,wrap .u32 (c.Pc+wrap .u32 (4*wrap .u32 bh)),c.B2⟩:bg),dc)else(⟨c.X,jD c,c.B2⟩,dc)).1,m,(bif(pQ 42 (c8 c A) (c8 c B))then((⟨c.X,wrap .u32 (c.Pc+wrap .u32 (4*wrap .u32 bh)),c.B2⟩:bg),dc)else(⟨c.X,jD c,c.B2⟩,dc)).2) by kernel_rfl).trans ((K6 (pQ 42 (c8 c A) (c8 c B)) ⟨c.X,wrap .u32 (c.Pc+wrap .u32 (4*wrap .u32 bh)),c.B2⟩ ⟨c.X,jD c,c.B2⟩ m).trans (by kernel_rfl))
 ·exact(show Q5 c m ⟨43,A,B,C,bh⟩=((bif(pQ 43 (c8 c A) (c8 c B))then((⟨c.X,wrap .u32 (c.Pc+wrap .u32 (4*wrap .u32 bh)),c.B2⟩:bg),dc)else(⟨c.X,jD c,c.B2⟩,dc)).1,m,(bif(pQ 43 (c8 c A) (c8 c B))then((⟨c.X,wrap .u32 (c.Pc+wrap .u32 (4*wrap .u32 bh)),c.B2⟩:bg),dc)else(⟨c.X,jD c,c.B2⟩,dc)).2) by kernel_rfl).trans ((K6 (pQ 43 (c8 c A) (c8 c B)) ⟨c.X,wrap .u32 (c.Pc+wrap .u32 (4*wrap .u32 bh)),c.B2⟩ ⟨c.X,jD c,c.B2⟩ m).trans (by kernel_rfl))
 ·exact(show Q5 c m ⟨44,A,B,C,bh⟩=((bif(pQ 44 (c8 c A) (c8 c B))then((⟨c.X,wrap .u32 (c.Pc+wrap .u32 (4*wrap .u32 bh)),c.B2⟩:bg),dc)else(⟨c.X,jD c,c.B2⟩,dc)).1,m,(bif(pQ 44 (c8 c A) (c8 c B))then((⟨c.X,wrap .u32 (c.Pc+wrap .u32 (4*wrap .u32 bh)),c.B2⟩:bg),dc)else(⟨c.X,jD c,c.B2⟩,dc)).2) by kernel_rfl).trans ((K6 (pQ 44 (c8 c A) (c8 c B)) ⟨c.X,wrap .u32 (c.Pc+wrap .u32 (4*wrap .u32 bh)),c.B2⟩ ⟨c.X,jD c,c.B2⟩ m).trans (by kernel_rfl))
 ·exact(show Q5 c m ⟨45,A,B,C,bh⟩=((bif(pQ 45 (c8 c A) (c8 c B))then((⟨c.X,wrap .u32 (c.Pc+wrap .u32 (4*wrap .u32 bh)),c.B2⟩:bg),dc)else(⟨c.X,jD c,c.B2⟩,dc)).1,m,(bif(pQ 45 (c8 c A) (c8 c B))then((⟨c.X,wrap .u32 (c.Pc+wrap .u32 (4*wrap .u32 bh)),c.B2⟩:bg),dc)else(⟨c.X,jD c,c.B2⟩,dc)).2) by kernel_rfl).trans ((K6 (pQ 45 (c8 c A) (c8 c B)) ⟨c.X,wrap .u32 (c.Pc+wrap .u32 (4*wrap .u32 bh)),c.B2⟩ ⟨c.X,jD c,c.B2⟩ m).trans (by kernel_rfl))
 ·refine(show Q5 c m ⟨48,A,B,C,bh⟩=(ja c A (jD c) (wrap .u32 ((tZ c A (jD c)).Pc+wrap .u32 (4*wrap .u32 bh))),m,dc) by kernel_rfl).trans ?_
  rw[NV c hA,SH c hA,(zY c A (jD c)).1];kernel_rfl
 ·refine(show Q5 c m ⟨49,A,B,C,bh⟩=(ja c A (jD c) (va c B bh),m,dc) by kernel_rfl).trans ?_
  rw[NV c hA];kernel_rfl
 ·refine(show Q5 c m ⟨56,A,B,C,bh⟩=(pO c 7 0,m,dc) by kernel_rfl).trans ?_
  rw[NM hc.a0.1 jL];kernel_rfl
 ·refine(show Q5 c m ⟨57,A,B,C,bh⟩=(KG c,m,dc) by kernel_rfl).trans ?_
  rw[Zhn hc.a0.1 jL];kernel_rfl
 ·refine(show Q5 c m ⟨58,A,B,C,bh⟩=(ja c A (aK (A8.l c.B2) bh.toNat 0) (jD c),m,dc) by kernel_rfl).trans ?_
  rw[NV c hA,<-WO];kernel_rfl
 ·have e:=qJ c (wrap .i64 bh) (c8 c A)
  refine(show Q5 c m ⟨59,A,B,C,bh⟩=((⟨(NU c (wrap .i64 bh) (c8 c A)).X,wrap .u32 (c.Pc+4),(NU c (wrap .i64 bh) (c8 c A)).B2⟩:bg),m,dc) by kernel_rfl).trans ?_
  rw[<-e];kernel_rfl
 ·exact(show Q5 c m ⟨60,A,B,C,bh⟩=((oD c m ⟨60,A,B,C,bh⟩).1,(oD c m ⟨60,A,B,C,bh⟩).2.2,(oD c m ⟨60,A,B,C,bh⟩).2.1) by kernel_rfl)
 ·exact(show Q5 c m ⟨61,A,B,C,bh⟩=((oD c m ⟨61,A,B,C,bh⟩).1,(oD c m ⟨61,A,B,C,bh⟩).2.2,(oD c m ⟨61,A,B,C,bh⟩).2.1) by kernel_rfl)
 ·exact(show Q5 c m ⟨62,A,B,C,bh⟩=((oD c m ⟨62,A,B,C,bh⟩).1,(oD c m ⟨62,A,B,C,bh⟩).2.2,(oD c m ⟨62,A,B,C,bh⟩).2.1) by kernel_rfl)
 ·exact(show Q5 c m ⟨63,A,B,C,bh⟩=((oD c m ⟨63,A,B,C,bh⟩).1,(oD c m ⟨63,A,B,C,bh⟩).2.2,(oD c m ⟨63,A,B,C,bh⟩).2.1) by kernel_rfl)
 ·exact(show Q5 c m ⟨64,A,B,C,bh⟩=((oD c m ⟨64,A,B,C,bh⟩).1,(oD c m ⟨64,A,B,C,bh⟩).2.2,(oD c m ⟨64,A,B,C,bh⟩).2.1) by kernel_rfl)
end
theorem qal{op:Int}(h0:0<=op)(h1:op<256)(h:oC op≠0):oV op:=by
 have e:=oY (EB (λop=>decide (oC op=0\/Gq op=true)) 256 (by kernel_rfl) h0 h1)
 rcases e with e|e
 ·exact absurd e h
 ·simpa only[Gq,oV,aI,decide_eq_true_eq,or_assoc]using e
theorem zk{op:Int}(o:oV op):1<=op/\op<=64:=by
 unfold oV at o
 rcases o with h|h|h|h|h|h|h|h|h|h|h|h|h|h|h|h|h|h|h|h|h|h|h|h|h|h|h|h|h|h|h|h|h|h|h|h|h|h|h|h|h|h|h|h<;>(rw[h];decide)
theorem yk{w:Int}(hw:U w):(pP w).2=true->oV (pP w).1.Op:=by
 have tW:bf .u32 w 24=w/16777216:=by have:=Dp (a:=w) 24 (by decide);simpa using this
 obtain⟨w0,w1⟩:=hw
 have eo:wrap .i64 (w/16777216)=w/16777216:=Dk (by omega) (by omega)
 have q:(λr:gj×Bool=>r.2=true->oV r.1.Op) (pP w):=by
  simp only[pP,Gh,Tree.m,dj,tW,eo]
  cases hf:oC (w/16777216)==0
  ·have g:oV (w/16777216):=qal (by omega) (by omega) (by simpa using hf)
   repeat'(first
    |exactλ_=>g
    |exactλe=>eZ (show false=true from e)
    |refine WK (Q:=λr:gj×Bool=>r.2=true->oV r.1.Op) ?_ ?_)
  ·exactλe=>eZ (show false=true from e)
 exact q
section
variable (c:bg) (m:List Int)
def DC(x:Int×Int×List Int)(w:Int)(d:gj×Bool):bg×kD×List Int:=
 bif x.2.1 !=0 then(px c x.2.1 c.Pc,dc,x.2.2)else bif !d.2 then(px c 1 w,dc,x.2.2)else bif Gf d.1.Op then(bif bb .u32 c.B2.a0 1==0 then(px c 2 w,dc,x.2.2)else oD c x.2.2 d.1)else oD c x.2.2 d.1
def NW(y:Int×List Int×Int)(d:gj×Bool):bg×List Int×kD:=
 bif y.2.2 !=0 then(pO c y.2.2 c.Pc,y.2.1,dc)else bif !d.2 then(pO c 1 y.1,y.2.1,dc)else bif NF d.1.Op then(bif !Gm c then(pO c 2 y.1,y.2.1,dc)else Q5 c y.2.1 d.1)else Q5 c y.2.1 d.1
theorem Gr:ua c m=DC c (Q1 c m c.Pc 4 1) (kB (Q1 c m c.Pc 4 1).2.2 (Q1 c m c.Pc 4 1).1 4).1 (pP (kB (Q1 c m c.Pc 4 1).2.2 (Q1 c m c.Pc 4 1).1 4).1):=by kernel_rfl
theorem zal:Q7 c m=NW c (SM c m) (NI (SM c m).1):=by kernel_rfl
theorem xJ:SM c m=bif(rr c m c.Pc 4 1).2.2 !=0 then(0,(rr c m c.Pc 4 1).2.1,(rr c m c.Pc 4 1).2.2)else((BS (rr c m c.Pc 4 1).2.1 (rr c m c.Pc 4 1).1 4).1,(rr c m c.Pc 4 1).2.1,0):=by kernel_rfl
end
theorem Zej{P:Nat}{m:List Int}(h:ei P m){c:bg}(hc:ir c)(jL:c.B2.a0<=31):Q7 c m=((ua c m).1,(ua c m).2.2,(ua c m).2.1):=by
 obtain⟨k,u,b⟩:=WM h hc hc.pc (.inr rfl) 1
 have tr:∀k b,pO c k b=px c k b:=NM hc.a0.1 jL
 rw[zal,Gr,xJ,WJ h hc jL hc.pc (.inr rfl) (.inl rfl)]
 generalize Q1 c m c.Pc 4 1=x at*
 cases hx:x.2.1 !=0
 ·rw [NK k u (.inr rfl)]
  have hw:U (kB x.2.2 x.1 4).1:=(Tree.pp (NX k u (.inr rfl))).2
  generalize(kB x.2.2 x.1 4).1=w at*
  show NW c (w,x.2.2,0) (NI w)=_
  rw[yi hw]
  have o:=yk hw
  have i:=Tree.post _ (Zkz w)
  change(pP w).2=true->sg (pP w).1 at i
  generalize pP w=d at*
  obtain⟨⟨op,A,B,C,bh⟩,ok⟩:=d
  cases ok
  ·simp only[NW,DC,hx,tr];rfl
  ·have o:oV op:=o rfl
   have i:=i rfl
   have p:=xk (C:=C) (B:=B) (bh:=bh) k hc jL i.a o
   have pv:NF op=Gf op:=qai (by have:=zk o;omega) (by have:=zk o;omega)
   have kn:(!Gm c)=(bb .u32 c.B2.a0 1==0):=by
    show(!(!(bb .u32 c.B2.a0 1==0)))=_
    exact Bool.not_not _
   simp only[NW,DC,hx,tr,pv,kn,p]
   cases Gf op
   ·rfl
   ·cases bb .u32 c.B2.a0 1==0<;>rfl
 ·simp only[NW,DC,hx,cond_true,tr]
theorem vk{a b:Int}:decide (a>=b)=!decide (a<b):=by
 by_cases h:a<b
 ·rw[dY h,dN (by omega)];rfl
 ·rw[dN h,dY (by omega)];rfl
def bits(g:Int)(l:List Nat)(s:Int):Int:=l.foldl (λ(a:Int) (i:Nat)=>wrap .i64 (a+wrap .i64 (bb .u32 (bf .u32 g (i:Int)) 1))) s
theorem zJ(b:gh):K7 b=bits b.C0 [0,1,2,3,4,5,6,7,8,9,10,11,12,13,14,15,16,17,18,19,20,21,22,23,24,25,26,27,28,29,30,31] 0:=by kernel_rfl
theorem zaD{g:Int}(hg:U g){i:Nat}(hi:i<=32):wrap .i64 (bb .u32 (bf .u32 g (i:Int)) 1)=g/2^i%2:=by
 rw[ED (Ah hg _),Dp i hi]
 have:0<=g/2^i%2/\g/2^i%2<2:=by omega
 exact Dk (by omega) (by omega)
theorem yJ{g:Int}(hg:U g)(l:List Nat):∀s:Int,(∀i∈l,i<=32)->0<=s->s+l.length<=1000->bits g l s=s+(l.map λi=>g/2^i%2).sum:=by
 induction l with
 |nil=>intro s _ _ _;simp[bits]
 |cons i l ih=>
  intro s hl h0 h1
  have h1:s+(l.length+1)<=1000:=by simpa using h1
  have hb:0<=g/2^i%2/\g/2^i%2<2:=by omega
  have e:bits g (i::l) s=bits g l (s+g/2^i%2):=by
   show bits g l (wrap .i64 (s+wrap .i64 (bb .u32 (bf .u32 g (i:Int)) 1)))=_
   rw[zaD hg (hl i (by simp)),Dk (by omega) (by omega)]
  rw[e,ih _ (λj hj=>hl j (by simp[hj])) (by omega) (by omega)]
  simp;omega
theorem Znk(n:gq)(port:Int):KE n port=SN n port:=by
 simp only[KE,NA,SN,NY,Tree.m]
 cases n.C2<;>cases n.B3<;>rfl
theorem Z5h(t:iS):te t=SO t:=by
 simp only[te,So,SO,WQ,Tree.m]
 cases t.C9<;>cases t.C8<;>rfl
theorem Zdp(n:gq)(p:Int):oU n p=SP n p:=by
 simp only[oU,Ku,SP,WR,Tree.m]
 cases n.C2<;>cases n.B3<;>rfl
theorem Zb1(d:fe)(p:Int):j5 d p=SQ d p:=by
  simp only[j5,u9,Nu,Il,SQ,WS,Tree.m,dj,vk]
  cases decide (d.ab>64)
  . by_cases s:d.B5=0\/d.B5=1\/d.B5=2\/d.B5=3
    . rcases s with s|s|s|s<;>rw[s]
      . rfl
      . by_cases c1:d.D1=1
        . rw[c1];cases decide (d.B4<d.ab)<;>cases decide (wrap .i64 d.B0<p)<;>cases decide (d.B6=[])<;>rfl
        . by_cases c2:d.D1=2
          . rw[c2];cases decide (d.B4<d.ab)<;>cases decide (wrap .i64 d.B0<p)<;>cases(d.B6.length:Int)==128<;>rfl
          . rw[show(d.D1==1)=false by simpa using c1,show(d.D1==2)=false by simpa using c2]
            cases decide (d.B4<d.ab)<;>cases decide (wrap .i64 d.B0<p)<;>rfl
      . rfl
      . rfl
    . rw[show(d.B5==0)=false by simp;omega,show(d.B5==1)=false by simp;omega,show(d.B5==2)=false by simp;omega,show(d.B5==3)=false by simp;omega]
      by_cases n:d.B5<0
      . rw[dY n];rfl
      . rw[dN n,dY (show d.B5>3 by omega)];rfl
  . rfl
theorem vJ(c:iO):SR c=SS c:=by
 show(!decide (c.C5=[]))=decide ((c.C5.length:Int)>0)
 cases c.C5 with
 |nil=>rfl
 |cons a l=>rw[dN (by simp),dY (by simp)];rfl
theorem xal(k:List UInt8):decide (k=[])=((k.length:Int)==0):=by
 cases k with
 |nil=>rfl
 |cons a l=>
  rw[dN (by simp)]
  exact(beq_eq_false_iff_ne.2 (by simp;omega)).symm
theorem Zmw(c:iO)(port:Int):WT c port=K8 c port:=by
 simp only[WT,Io,K8,Gs,Tree.m,xal]
 cases port==0
 ·rfl
 ·cases(c.C5.length:Int)==0<;>rfl
theorem qK(t:iS)(v:Int):Nv t v=SU v:=by
 simp only[Nv,Sn,SU,NZ,Tree.m]
 cases h:v==0
 ·rw[show(v !=0)=true by simp only[bne,h];rfl];rfl
 ·rw[show(v !=0)=false by simp only[bne,h];rfl,eq_of_beq h];rfl
section
variable {P:Nat} {m:List Int} (h:ei P m)
include h
theorem Z7h(f:Int):Ij m f=nD m f:=by
 have a:=rl h
 have b:=Dw h
 simp only[Ij,Np,nD,N0,Tree.m,dj,a,b]
theorem Z64(f:Int):F4 m f=nD m f:=by
 have a:=rl h
 have b:=Dw h
 simp only[F4,Nq,nD,N0,Tree.m,dj,a,b]
theorem Zd4(d:fe)(port v dk:Int):WU d m port v dk=SV d m port v dk:=by
  have pg:=Z7h h
  have pa:=Zcf h
  have rq: ∀d a,WV d a=WW d a:=λ_ _=>rfl
  simp only[WU,Kw,Qvk,Kv,SV,Gt,Tree.m,dj,pg,pa,rq]
  cases port==4
  . cases port==5
    . cases h6:port==6
      . rw[show(port !=6)=true by simp only[bne,h6];rfl];rfl
      . rw [show(port !=6)=false by simp only[bne,h6];rfl]
        by_cases v1:v=1
        . subst v1
          cases hs:d.B5==0
          . rw[show(d.B5 !=0)=true by simp only[bne,hs];rfl];rfl
          . rw[show(d.B5 !=0)=false by simp only[bne,hs];rfl];rfl
        . by_cases v2:v=2
          . subst v2
            cases hs:d.B5==0
            . rw[show(d.B5 !=0)=true by simp only[bne,hs];rfl];rfl
            . rw[show(d.B5 !=0)=false by simp only[bne,hs];rfl];rfl
          . rw[show(v==1)=false by simpa using v1,show(v==2)=false by simpa using v2]
            cases v==0
            . rfl
            . have:Kx d=(bif d.B5==2 then true else d.B5==3):=rfl
              rw[this]
              cases d.B5==2<;>cases d.B5==3<;>rfl
    . rfl
  . rfl
theorem Ziv(n:gq)(port v dk:Int):WX n m port v dk=WY n m port v dk:=by
  have pg:=Z64 h
  have pa:=Zcf h
  simp only[WX,Kz,Zaq,Ky,WY,K9,Tree.m,dj,pg,pa]
  have g1:decide (n.D6>=1)=!decide (n.D6<1):=vk
  have g2:decide (n.D6<=128)=!decide (n.D6>128):=by
    by_cases h:n.D6>128
    . rw[dY h,dN (by omega)];rfl
    . rw[dN h,dY (by omega)];rfl
  rw[g1,g2]
  cases port==7
  . cases port==8
    . cases h9:port==9
      . rw[show(port !=9)=true by simp only[bne,h9];rfl];rfl
      . rw [show(port !=9)=false by simp only[bne,h9];rfl]
        by_cases v1:v=1
        . subst v1
          cases decide (n.D6<1)<;>cases decide (n.D6>128)<;>cases nD m n.Frame<;>rfl
        . by_cases v2:v=2
          . subst v2;rfl
          . rw[show(v==1)=false by simpa using v1,show(v==2)=false by simpa using v2]
            cases v==0<;>rfl
    . rfl
  . rfl
theorem Za5{d:fe}(hd:oc d)(e:jX):WZ d m e=((La d m e).1,(La d m e).2.2,(La d m e).2.1):=by
  have gp:jy m=m:=rfl
  have pg:=Z7h h d.B0
  have lp:decide ((e.D2.length:Int)>0)=!decide (e.D2=[]):=by
    cases e.D2 with
    |nil=>rfl
    |cons a l=>rw[dY (by simp),dN (by simp)];rfl
  have bad:(e.D2.length:Int)≠128->nD m d.B0=true->Dz m (wrap .i64 d.B0) e.D2=(m,false):=λhl hp=>by
    rw[EE h hd.gr]at hp
    have hp:=oY hp
    have h1:=hd.gr.1
    have h3:=h.p2
    have ew:i64.wrap d.B0=d.B0:=Dk (by omega) (by omega)
    simp only[Dz,FZ,Tree.m,dj,gp,ew,Sz h,dY (⟨h1,hp⟩:0<=d.B0/\d.B0<P),show((e.D2.length:Int) !=128)=true by simpa using hl]
    rfl
  have e9:(e.D2.length:Int)=128->nD m d.B0=true->Dz m (wrap .i64 d.B0) e.D2=(NJ m (wrap .i64 d.B0) e.D2,true):=λhl hp=>by
    rw[EE h hd.gr]at hp
    have hp:=oY hp
    have h1:=hd.gr.1
    have h3:=h.p2
    have ew:i64.wrap d.B0=d.B0:=Dk (by omega) (by omega)
    rw[ew];exact Zco h h1 hp (by omega)
  simp only[WZ,Ks,La,Gu,Tree.m,dj,gp,pg,lp]
  cases d.B5 !=1
  . cases e.C4 !=4
    . cases decide (e.N>1)
      . cases e.N==1
        . cases decide (e.D2=[])<;>rfl
        . cases hc:d.D1==1
          . cases decide (e.D2=[])<;>rfl
          . by_cases hl:(e.D2.length:Int)=128
            . rw[show((e.D2.length:Int) !=128)=false by simpa using hl]
              cases hp:nD m d.B0
              . rfl
              . rw[e9 hl hp];rfl
            . rw[show((e.D2.length:Int) !=128)=true by simpa using hl]
              cases hp:nD m d.B0
              . rfl
              . rw[bad hl hp];rfl
      . rfl
    . rfl
  . rfl
theorem Zfr{n:gq}(hn:oR n)(frame:List UInt8):W0 n m frame=((N1 n m frame).1,(N1 n m frame).2.2,(N1 n m frame).2.1):=by
  have gp:jy m=m:=rfl
  have pg:=Z64 h n.B7
  simp only[W0,Kt,N1,Lb,Tree.m,dj,gp,pg]
  cases !n.C2
  . cases decide ((frame.length:Int)<1)
    . cases hf:decide ((frame.length:Int)>128)
      . cases hp:nD m n.B7
        . rfl
        . rw[EE h hn.buffer]at hp
          have hp:=oY hp
          have h1:=hn.buffer.1
          have h3:=h.p2
          have ew:i64.wrap n.B7=n.B7:=Dk (by omega) (by omega)
          have hf:=oN hf
          obtain⟨b1,b2⟩:=(Tree.pp (zj h h1 hp)).2
          change Aj m n.B7 (Dy m n.B7).1 at b1
          have tk:cZ (dF ((Dy m n.B7).1.length:Int)-dF (frame.length:Int)) (dA (dF (frame.length:Int)) (Dy m n.B7).1)=(Dy m n.B7).1.drop frame.length:=by
            rw[eD,eD]
            exact List.take_of_length_le (by simp)
          rw[ew,tk,Zfe h h1 hp (by omega) b1]
          rfl
      . rfl
    . rfl
  . rfl
end
def W3:List UInt8:=(dB 256).map λn=>eX (n%2+n/2%2+n/4%2+n/8%2+n/16%2+n/32%2+n/64%2+n/128%2)
def pt(n:Int):Int:=((eW (W3.getD n.toNat 0):Nat):Int)
theorem xK(x:Int):W4 x=wrap .i64 (wrap .u8 (wrap .u8 (wrap .u8 (pt (bf .u32 x 24)+pt (bb .u32 (bf .u32 x 16) 255))+pt (bb .u32 (bf .u32 x 8) 255))+pt (bb .u32 x 255))):=by kernel_rfl
theorem N2{a:Int}(h0:0<=a)(h1:a<256):pt a=a%2+a/2%2+a/4%2+a/8%2+a/16%2+a/32%2+a/64%2+a/128%2:=
 eq_of_beq (EB (λa=>pt a==a%2+a/2%2+a/4%2+a/8%2+a/16%2+a/32%2+a/64%2+a/128%2) 256 (by kernel_rfl) h0 h1)
theorem ql{g:Int}(hg:U g):bits g [0,1,2,3,4,5,6,7,8,9,10,11,12,13,14,15,16,17,18,19,20,21,22,23,24,25,26,27,28,29,30,31] 0=pt (g%256)+pt (g/256%256)+pt (g/65536%256)+pt (g/16777216):=by
 rw[yJ hg _ 0 (by decide) (by decide) (by decide),N2 (by omega) (by omega),N2 (by omega) (by omega),N2 (by omega) (by omega),N2 (by have:=hg.1;omega) (by have:=hg.2;omega)]
 obtain⟨g0,g1⟩:=hg
 simp only[List.map_cons,List.map_nil,List.sum_cons,List.sum_nil]
 have e:∀i j:Nat,∀k:Int,i<8->k=2^j->g/2^(i+j)%2=(g/k%256)/2^i%2:=λi j k hi hk=>by
  subst hk
  rw[Nat.add_comm,dR,<-fA (dQ (dO (by decide)))]
  generalize g/2^j=x
  have:i=0\/i=1\/i=2\/i=3\/i=4\/i=5\/i=6\/i=7:=by omega
  rcases this with rfl|rfl|rfl|rfl|rfl|rfl|rfl|rfl<;>simp<;>omega
 have e0:∀i:Nat,i<8->g/2^i%2=(g%256)/2^i%2:=λi hi=>by have:=e i 0 1 hi rfl;simpa using this
 have e24:g/16777216%256=g/16777216:=by omega
 rw[e0 0 (by decide),e0 1 (by decide),e0 2 (by decide),e0 3 (by decide),e0 4 (by decide),e0 5 (by decide),e0 6 (by decide),e0 7 (by decide)]
 rw[e 0 8 256 (by decide) (by decide),e 1 8 256 (by decide) (by decide),e 2 8 256 (by decide) (by decide),e 3 8 256 (by decide) (by decide),e 4 8 256 (by decide) (by decide),e 5 8 256 (by decide) (by decide),e 6 8 256 (by decide) (by decide),e 7 8 256 (by decide) (by decide)]
 rw[e 0 16 65536 (by decide) (by decide),e 1 16 65536 (by decide) (by decide),e 2 16 65536 (by decide) (by decide),e 3 16 65536 (by decide) (by decide),e 4 16 65536 (by decide) (by decide),e 5 16 65536 (by decide) (by decide),e 6 16 65536 (by decide) (by decide),e 7 16 65536 (by decide) (by decide)]
 rw[e 0 24 16777216 (by decide) (by decide),e 1 24 16777216 (by decide) (by decide),e 2 24 16777216 (by decide) (by decide),e 3 24 16777216 (by decide) (by decide),e 4 24 16777216 (by decide) (by decide),e 5 24 16777216 (by decide) (by decide),e 6 24 16777216 (by decide) (by decide),e 7 24 16777216 (by decide) (by decide),e24]
 generalize g%256=a
 generalize g/256%256=b
 generalize g/65536%256=c
 generalize g/16777216=d
 simp only[show(2:Int)^0=1 from rfl,show(2:Int)^1=2 from rfl,show(2:Int)^2=4 from rfl,show(2:Int)^3=8 from rfl,show(2:Int)^4=16 from rfl,show(2:Int)^5=32 from rfl,show(2:Int)^6=64 from rfl,show(2:Int)^7=128 from rfl,Int.ediv_one]
 omega
theorem we{a:Int}(h0:0<=a)(h1:a<256):0<=pt a/\pt a<=8:=by rw[N2 h0 h1];omega
theorem Z6i{b:gh}(hg:U b.C0):SW b=K7 b/\0<=K7 b/\K7 b<=32:=by
 obtain⟨s8,AN,tW⟩:=Gk b.C0
 have u8:U (bf .u32 b.C0 8):=Ah hg _
 have u16:U (bf .u32 b.C0 16):=Ah hg _
 have e:SW b=W4 b.C0:=rfl
 rw[e,xK,zJ,ql hg,BO u8,BO u16,BO hg,s8,AN,tW]
 obtain⟨g0,g1⟩:=hg
 have p0:=we (a:=b.C0%256) (by omega) (by omega)
 have p1:=we (a:=b.C0/256%256) (by omega) (by omega)
 have p2:=we (a:=b.C0/65536%256) (by omega) (by omega)
 have p3:=we (a:=b.C0/16777216) (by omega) (by omega)
 have w8:∀x,wrap .u8 x=x%256:=λx=>wrap_u8 x
 rw[w8,w8,w8,wrap_i64]
 omega
theorem Zei{b:gh}(h:okB b):N3 b=N4 b:=by
 obtain⟨e,l0,l1⟩:=Z6i h.2
 obtain⟨t0,t1⟩:=h.1
 simp only[N3,Lc,N4,W5,Tree.m,dj,e]
 rw[wrap_u32,wrap_u64,wrap_u64,dM l0 (by omega),dM l0 (by omega),dM t0 (by omega)]
theorem Zma{b:gh}(h:okB b)(port:Int):W6 b port=Ld b port:=by
 simp only[W6,KF,Ld,Le,Tree.m,dj,(Z6i h.2).1]
theorem qam(g:Int)(z:Nat):g%2^(z+1)=g%2^z+2^z*(g/2^z%2):=by
 have hp:(0:Int)<2^z:=dO (by decide)
 have h1:=fB g (2^z)
 have h2:=fB (g/2^z) 2
 have h3:(g/2^z)/2=g/2^(z+1):=by rw[fC,fA (dQ hp)]
 have h4:=fB g (2^(z+1))
 rw[h3]at h2
 have h5:(2:Int)^(z+1)*(g/2^(z+1))=2^z*(2*(g/2^(z+1))):=by rw[fC,Int.mul_assoc]
 have h6:(2:Int)^z*(g/2^z)=2^z*(2*(g/2^(z+1)))+2^z*(g/2^z%2):=by rw[<-Int.mul_add,h2]
 omega
theorem xaD{b:gh}(hg:U b.C0){P:Nat}(hP:P<=32):(Lf b P).w (λr=>r=decide (b.C0<2^P)):=by
 unfold Lf
 have fin:∀v:Int,0<=v->v<=32->wrap .u64 v=(v.toNat:Int):=λv h0 h1=>by rw[wrap_u64];omega
 refine fg (inv:=λz:Int=>0<=z/\z<=32/\b.C0%2^z.toNat<2^P) (μ:=SX b P) ⟨by decide,by decide,by have:(0:Int)<2^P:=dO (by decide);simpa using this⟩ (cO _) λz ⟨z0,z1,z2⟩=>?_
 refine aa (λhb=>?_) (λhb=>?_)
 ·have hb:=oY hb
  have ew:i64.wrap (z+1)=z+1:=Dk (by omega) (by omega)
  have bt:bb .u32 (bf .u32 b.C0 (wrap .u64 z)) 1=b.C0/2^z.toNat%2:=by
   rw[fin z z0 z1,ED (Ah hg _),Dp _ (by omega)]
  have bp:=qam b.C0 z.toNat
  have zt:(z+1).toNat=z.toNat+1:=by omega
  refine ax (dY (by rw[wrap_u64];omega)) ?_
  rw[bt]
  refine aa (λe=>aa (λhp=>?_) (λhp=>ek ?_)) (λe=>ek ?_)
  ·have e:=eq_of_beq e
   have hp:=oY hp
   show false=_
   refine(dN λcj=>?_).symm
   have hle:(2:Int)^P<=2^z.toNat:=by exact_mod_cast dT (show 0<2 by decide) (show P<=z.toNat by omega)
   have:b.C0/2^z.toNat=0:=Int.ediv_eq_zero_of_lt hg.1 (by omega)
   rw[this]at e;cases e
  ·have e:=eq_of_beq e
   have hp:=oN hp
   show(0<=i64.wrap (z+1)/\i64.wrap (z+1)<=32/\b.C0%2^(i64.wrap (z+1)).toNat<2^P)/\(32-i64.wrap (z+1)).toNat<(32-z).toNat
   rw[ew,zt]
   have hle:(2:Int)^(z.toNat+1)<=2^P:=by exact_mod_cast dT (show 0<2 by decide) (show z.toNat+1<=P by omega)
   have:=Int.emod_lt_of_pos b.C0 (show(0:Int)<2^(z.toNat+1) from dO (by decide))
   exact⟨⟨by omega,by omega,by omega⟩,by omega⟩
  ·have e:¬b.C0/2^z.toNat%2=1:=by simpa using e
   have e:b.C0/2^z.toNat%2=0:=by omega
   rw[e]at bp
   show(0<=i64.wrap (z+1)/\i64.wrap (z+1)<=32/\b.C0%2^(i64.wrap (z+1)).toNat<2^P)/\(32-i64.wrap (z+1)).toNat<(32-z).toNat
   rw[ew,zt,bp]
   exact⟨⟨by omega,by omega,by omega⟩,by omega⟩
 ·have hb:=oN hb
  have:z=32:=by omega
  subst this
  show true=_
  refine(dY ?_).symm
  have h2:b.C0%2^(32:Int).toNat=b.C0:=dM hg.1 hg.2
  rwa [h2]at z2
theorem Zhf{b:gh}(hg:U b.C0){P:Nat}(hP:P<=32):tV b P=SY b P:=by
 have r:=(Tree.pp (xaD hg hP)).2
 change SY b P=_ at r
 rw[r,eI,Nx hg,decide_eq_true_eq]
theorem N5:strings_Repeat [(0:UInt8)] 128=cP 128 0:=by kernel_rfl
theorem qaE{P:Nat}{m:List Int}(hm:ei P m){b:gh}{port:Int}{v:Int}(hv:U v)(hp:v<P)(wg:port=10)(hb:(bb .u32 (bf .u32 b.C0 v) 1==0)=true):(AP b m port v).w (λr=>r.1={C3:=b.C3,C0:=ie .u32 b.C0 (ea .u32 1 v)}/\ei P r.2/\∀k:Nat,kY r.2 k=if v*128<=k/\(k:Int)<v*128+128 then 0 else kY m k):=by
 have u5:decide (0<=v)=true:=dY hv.1
 have h2:=hm.p2
 have pg:nD m v=true:=by rw[EE hm hv];exact dY hp
 obtain⟨v1,v2⟩:=hv
 subst wg
 unfold AP
 refine aa (λ_=>aq λx0 hx=>aa (λ_=>ax u5 (aa (λ_=>ax u5 ?_) (λh=>by rw[hb]at h;cases h))) (λh=>by rw[hx,pg]at h;cases h)) (λh=>by cases h)
 refine fg (inv:=λz=>0<=z.1/\z.1<=32/\ei P z.2/\∀k:Nat,kY z.2 k=if v*128<=k/\(k:Int)<v*128+4*z.1 then 0 else kY m k) (μ:=W7 b m 10 v) ⟨show(0:Int)<=0 by decide,show(0:Int)<=32 by decide,hm,λk=>by rw[if_neg];show¬(_/\_<_+4*(0:Int));omega⟩ (cO _) (λz hz=>?_)
 obtain⟨z1,z2,z3,z4⟩:=hz
 have hl:=z3.len
 refine aa (λh=>?_) (λh=>⟨rfl,z3,λk=>?_⟩)
 ·have h:=oY h
  have e:wrap i64 (wrap i64 (wrap i64 v*32)+z.1)=v*32+z.1:=by rw[wrap_i64,wrap_i64,wrap_i64];omega
  refine ax (by rw[e];simp[bJ];omega) (ek ?_)
  have ew:i64.wrap (z.1+1)=z.1+1:=by rw[wrap_i64];omega
  show(0<=i64.wrap (z.1+1)/\i64.wrap (z.1+1)<=32/\ei P (dG _ _ _)/\∀k:Nat,kY (dG z.2 (dF (wrap i64 (wrap i64 (wrap i64 v*32)+z.1))) 0) k=if v*128<=(k:Int)/\(k:Int)<v*128+4*i64.wrap (z.1+1)then 0 else _)/\(32-i64.wrap (z.1+1)).toNat<(32-z.1).toNat
  rw[ew,e]
  refine⟨⟨by omega,by omega,⟨by simp[hl],z3.p1,z3.p2,Dm z3.u eh _⟩,λk=>?_⟩,by omega⟩
  rw[Wv (by omega)]
  by_cases hc:k/4=(v*32+z.1).toNat
  ·rw[if_pos hc,if_pos (by omega)]
   have:k%4=0\/k%4=1\/k%4=2\/k%4=3:=by omega
   rcases this with h|h|h|h<;>rw[h]<;>rfl
  ·rw[if_neg hc,z4 k]
   by_cases hd:v*128<=(k:Int)/\(k:Int)<v*128+4*z.1
   ·rw[if_pos hd,if_pos (by omega)]
   ·rw[if_neg hd,if_neg (by omega)]
 ·have h:=oN h
  show kY z.2 k=_
  rw[z4 k,show z.1=32 by omega];rfl
theorem W8{g v:Int}(hg:U g)(v0:0<=v)(v1:v<32):(bb .u32 g (ea .u32 1 v)==0)=(bb .u32 (bf .u32 g v) 1==0):=by
 obtain⟨z,rfl⟩:∃z:Nat,v=z:=⟨v.toNat,by omega⟩
 obtain⟨n,rfl⟩:∃n:Nat,g=n:=⟨g.toNat,by have:=hg.1;omega⟩
 have hz:z<32:=by omega
 have cj:(2:Nat)^z<4294967296:=by have:=eC (show 1<2 by omega) hz;simpa using this
 rw[ED (Ah hg _),Dp z (by omega),yh v0 v1,eD]
 have hc:((2:Int)^z)=((2^z:Nat):Int):=by simp
 generalize hq:2^z=q at*
 rw[hc,Wm hg ⟨by omega,by omega⟩,eD,eD,<-hq]
 have e1:(n&&&2^z)=0↔n/2^z%2=0:=by
  have t:n.testBit z=decide (n/2^z%2=1):=Nat.testBit_eq_decide_div_mod_eq
  constructor
  ·intro h
   have h2:(n&&&2^z).testBit z=false:=by rw[h];exact fD z
   rw[fE,Nat.testBit_two_pow_self,Bool.and_true,t]at h2
   have:=oN h2
   omega
  ·intro h
   have t0:n.testBit z=false:=by rw[t];exact dN (by omega)
   apply eM
   intro i
   rw[fE,Nat.testBit_two_pow,fD]
   by_cases hi:z=i
   ·subst hi;rw[t0];rfl
   ·rw[dN hi,Bool.and_false]
 rw[eI,beq_iff_eq,beq_iff_eq]
 constructor
 ·intro h;have:=e1.1 (by omega);omega
 ·intro h;have:=e1.2 (by omega);omega
theorem Zhp{P:Nat}{m:List Int}(h:ei P m){b:gh}(hb:okB b)(port:Int){v:Int}(hv:U v):Gv b m port v=AQ b m port v:=by
  have gp:jy m=m:=rfl
  have hp:=rl h
  have h2:=h.p2
  have ew:i64.wrap v=v:=Dk (by have:=hv.1;omega) (by have:=hv.2;omega)
  have pe:=EE h hv
  by_cases W9:v<32
  . have bv :=W8 hb.2 hv.1 W9
    by_cases wg:port=10
    . by_cases hP:v<P
      . cases hz:bb .u32 (bf .u32 b.C0 v) 1==0
        . simp only[Gv,Dr,AQ,AP,Tree.m,dj,gp,hp,ew,pe,bv,hz,wg,dY hP,dN (show¬v>=32 by omega)]
          rfl
        . obtain⟨g1,g2,g3⟩:=(Tree.pp (qaE h hv hP wg hz)).2
          change(AQ b m port v).1=_ at g1
          change ei P (AQ b m port v).2 at g2
          change∀k:Nat,kY (AQ b m port v).2 k=_ at g3
          obtain⟨s1,s2,s3⟩:=(Tree.pp (Wx h hv.1 hP (s:=cP 128 0) (by simp))).2
          have em:(Dz m v (cP 128 0)).1=(AQ b m port v).2:=by
            refine Wu (s2.len.trans g2.len.symm) s2.u g2.u λk=> ?_
            rw[g3 k]
            refine(s3 k).trans ?_
            by_cases hk:v*128<=(k:Int)/\(k:Int)<v*128+128
            . rw[if_pos hk,if_pos hk]
              have:(cP 128 (0:UInt8)).getD ((k:Int)-v*128).toNat 0=0:=by
                rw[dC,List.getElem?_replicate]
                split<;>rfl
              rw[this];rfl
            . rw[if_neg hk,if_neg hk]
          have el:Gv b m port v=({C3:=b.C3,C0:=ie .u32 b.C0 (ea .u32 1 v)},(Dz m v (cP 128 0)).1):=by
            simp only[Gv,Dr,Tree.m,dj,gp,hp,ew,bv,hz,wg,dY hP,dN (show¬v>=32 by omega),N5]
            rfl
          rw[el,em,<-g1]
      . simp only[Gv,Dr,AQ,AP,Tree.m,dj,gp,hp,ew,pe,wg,dN hP,dN (show¬v>=32 by omega)]
        rfl
    . simp only[Gv,Dr,AQ,AP,Tree.m,dj,gp,dY W9,dN (show¬v>=32 by omega),show(port==10)=false by simpa using wg]
      cases port==11<;>rfl
  . simp only[Gv,Dr,AQ,AP,Tree.m,dj,gp,pe,dN W9,dY (show v>=32 by omega),dN (show¬v<P by omega)]
    cases port==10<;>cases port==11<;>rfl
structure sq(m:au):Prop where
 lS:ir m.A9
 mem:∀w∈m.Mem,U w
 kJ:oc m.A6
 si:oR m.C1
 ub:okB m.A1
 pM:0<=m.A0
theorem N6(m:List Int)(hm:∀w∈m,U w):lC m=wc m/\(lC m=0\/∃P:Nat,1<=P/\ei P m):=by
 refine⟨rfl,?_⟩
 simp only[lC,Kr,Tree.m]
 cases h1:dE (m.length:Int) 32 !=0
 ·cases h2:decide ((m.length:Int)>1024)
  ·have h1:dE (m.length:Int) 32=0:=by simpa using h1
   have h2:=oN h2
   rw[eF (by omega)]at h1
   by_cases h0:m.length=0
   ·left;rw[h0];rfl
   ·right;exact⟨m.length/32,by omega,⟨by omega,by omega,by omega,hm⟩⟩
  ·left;rfl
 ·left;rfl
theorem BV{a x:Bool}:(bif !a then false else x)=true↔a=true/\x=true:=by cases a<;>simp
theorem zK(m:au):tj m=true↔ ¬(wc m.Mem<1)/\mi m.A9/\Qhy m.A2=true/\SO m.A7=true/\SQ m.A6 (wc m.Mem)=true/\SP m.C1 (wc m.Mem)=true/\SY m.A1 (wc m.Mem)=true/\m.A0<=1152921504606846976/\¬(m.A3=true/\m.A4=true):=by
 simp only[tj,Xa,Tree.m,dj]
 rw[mG,mG,mG,mG,mG,mG,BV,BV,BV,BV,BV]
 simp only[decide_eq_false_iff_not,Int.not_lt,bne_eq_false_iff_eq,gt_iff_lt]
 have l:((bif decide (m.A0<=1152921504606846976)then(bif m.A3 then !m.A4 else true)else false)=true)↔m.A0<=1152921504606846976/\¬(m.A3=true/\m.A4=true):=by
  by_cases hc:m.A0<=1152921504606846976
  ·rw[dY hc]
   cases m.A3<;>cases m.A4<;>simp[hc]
  ·rw[dN hc];simp[hc]
 rw[l]
 constructor
 ·rintro⟨a1,a2,a3,a4,a5,a6,a7⟩
  exact⟨by omega,⟨a2,a3,a4,a5,a6⟩,a7⟩
 ·rintro⟨a1,⟨a2,a3,a4,a5,a6⟩,a7⟩
  exact⟨by omega,a2,a3,a4,a5,a6,a7⟩
theorem Lg{m:au}(h:sq m):mF m=tj m:=by
 rw[eI,Ga,zK,qh]
 obtain⟨e,c⟩:=N6 m.Mem h.mem
 simp only[aE,<-e]
 rcases c with c|⟨P,hP,hm⟩
 ·constructor
  ·rintro⟨a,_⟩;exact absurd c a
  ·rintro⟨a,_⟩;omega
 ·rw[rl hm,Z5h,Zb1,Zdp,Zhf h.ub.2 hm.p2]
  constructor
  ·rintro⟨a1,a2,a3,a4,a5,a6,a7,a8,a9⟩;exact⟨by omega,a2,a5,a6,a7,a8,a9,a3,a4⟩
  ·rintro⟨a1,a2,a5,a6,a7,a8,a9,a3,a4⟩;exact⟨by omega,a2,a3,a4,a5,a6,a7,a8,a9⟩
def SZ(a b c d e:Bool):Int:=ie .u32 (ie .u32 (ie .u32 (ie .u32 (DD a 0) (DD b 1)) (DD c 2)) (DD d 3)) (DD e 4)
theorem ID(m:au):S0 m=SZ (Xb m.A7) (SR m.A2) (Kx m.A6) (Xc m.C1) (N3 m.A1):=by
 unfold S0 Lh
 simp only[Tree.m,dj]
 generalize Xb m.A7=a
 generalize SR m.A2=b
 generalize Kx m.A6=c
 generalize Xc m.C1=d
 generalize N3 m.A1=e
 cases a<;>cases b<;>cases c<;>cases d<;>cases e<;>kernel_rfl
theorem Zlt(a b c d e:Bool):0<=SZ a b c d e/\SZ a b c d e<32:=by
 cases a<;>cases b<;>cases c<;>cases d<;>cases e<;>decide
theorem BW(m:au):N7 m=SZ (Xd m.A7) (SS m.A2) (Xe m.A6) (Xf m.C1) (N4 m.A1):=rfl
section
variable {m:au} (h:sq m)
include h
theorem Znn:S0 m=N7 m:=by
 rw[ID,BW,vJ,Zei h.ub];rfl
theorem Qwy:Li m=AR m:=by
 have e:=Znn h
 simp only[Li,Gw,AR,Lj,Tree.m,dj,e]
theorem Zfb:KJ m=tl m:=by
 have e:=Qwy h
 simp only[KJ,Gx,tl,Lk,Tree.m,dj,e]
theorem S1:Ag m=!sr m:=by
 have e1:=Lg h
 have e2:=Zfb h
 have e3:decide (m.A0>=1152921504606846976)=!decide (m.A0<1152921504606846976):=vk
 simp only[Ag,Iu,sr,IE,Tree.m,dj,e1,e2,e3]
 cases tj m<;>cases m.A4<;>cases tl m<;>cases decide (m.A0<1152921504606846976)<;>rfl
theorem Z6g:0<=AR m/\AR m<32:=by
 have e:AR m=bb .u32 (N7 m) m.A9.B2.a7:=rfl
 have l:=Zlt (Xd m.A7) (SS m.A2) (Xe m.A6) (Xf m.C1) (N4 m.A1)
 rw[<-BW]at l
 rw[e,Wm ⟨l.1,by omega⟩ h.lS.a7]
 have:=eB (n:=(N7 m).toNat) (m:=m.A9.B2.a7.toNat)
 omega
def low(l:Int):Int:=if l%2=1 then 0 else if l/2%2=1 then 1 else if l/4%2=1 then 2 else if l/8%2=1 then 3 else 4
end
theorem wh{l:Int}(h0:0<=l)(h1:l<32):l=0\/l=1\/l=2\/l=3\/l=4\/l=5\/l=6\/l=7\/l=8\/l=9\/l=10\/l=11\/l=12\/l=13\/l=14\/l=15\/l=16\/l=17\/l=18\/l=19\/l=20\/l=21\/l=22\/l=23\/l=24\/l=25\/l=26\/l=27\/l=28\/l=29\/l=30\/l=31:=by omega
def IF(m:au)(l:Int):bg:=bif bb .u32 m.A9.B2.a0 2==0 then m.A9 else bif l==0 then m.A9 else px m.A9 (wrap .i64 (16+low l)) 0
theorem N8{m:au}(h:sq m):mV m=IF m (AR m):=by
 obtain⟨l0,l1⟩:=Z6g h
 unfold mV Ll
 simp only[Tree.m,dj]
 revert l0 l1
 generalize AR m=l
 intro l0 l1
 unfold IF
 cases bb .u32 m.A9.B2.a0 2==0
 ·rcases wh l0 l1 with rfl|rfl|rfl|rfl|rfl|rfl|rfl|rfl|rfl|rfl|rfl|rfl|rfl|rfl|rfl|rfl|rfl|rfl|rfl|rfl|rfl|rfl|rfl|rfl|rfl|rfl|rfl|rfl|rfl|rfl|rfl|rfl<;>kernel_rfl
 ·rfl
def Xg(m:au)(c:bg):au:={A9:=c,Mem:=m.Mem,A2:=m.A2,A7:=m.A7,A6:=m.A6,C1:=m.C1,A1:=m.A1,A0:=m.A0,A3:=false,A4:=m.A4}
theorem Z6j{m:au}(h:sq m)(jL:m.A9.B2.a0<=31):mW m=Xg m (mV m):=by
 obtain⟨l0,l1⟩:=Z6g h
 have tr:∀k b,pO m.A9 k b=px m.A9 k b:=NM h.lS.a0.1 jL
 have e:Li (Xg m m.A9)=AR m:=Qwy (m:=Xg m m.A9) ⟨h.lS,h.mem,h.kJ,h.si,h.ub,h.pM⟩
 rw[N8 h]
 unfold mW Gb
 simp only[Tree.m,dj]
 rw[show Li {A9:=m.A9,Mem:=m.Mem,A2:=m.A2,A7:=m.A7,A6:=m.A6,C1:=m.C1,A1:=m.A1,A0:=m.A0,A3:=false,A4:=m.A4}=AR m from e]
 revert l0 l1
 generalize AR m=l
 intro l0 l1
 unfold IF
 simp only[<-tr]
 cases bb .u32 m.A9.B2.a0 2==0
 ·rcases wh l0 l1 with rfl|rfl|rfl|rfl|rfl|rfl|rfl|rfl|rfl|rfl|rfl|rfl|rfl|rfl|rfl|rfl|rfl|rfl|rfl|rfl|rfl|rfl|rfl|rfl|rfl|rfl|rfl|rfl|rfl|rfl|rfl|rfl<;>(show _=_;kernel_rfl)
 ·rfl
theorem Gy{p:Int}:p=0\/p=1\/p=2\/p=3\/p=4\/p=5\/p=6\/p=7\/p=8\/p=9\/p=10\/p=11\/p<0\/12<=p:=by omega
theorem zam{m:au}(hb:okB m.A1)(port clock:Int):ud m port clock=((BX m port clock).2,(BX m port clock).1):=by
 have e1:=Zmw m.A2
 have e2:∀p,Nz m.A6 p=Xh m.A6 p:=λ_=>rfl
 have e3:=Znk m.C1
 have e4:=Zma hb
 have e5:Wc m.A7=Xi m.A7:=rfl
 simp only[ud,KD,BX,H8,Tree.m,dj,e1,e2,e3,e4,e5]
 rcases Gy (p:=port)with rfl|rfl|rfl|rfl|rfl|rfl|rfl|rfl|rfl|rfl|rfl|rfl|h|h
 all_goals first|rfl|skip
 ·have n:∀k:Int,0<=k->(port==k)=false:=λk hk=>beq_eq_false_iff_ne.2 (by omega)
  have c:K8 m.A2 port=(m.A2,0):=by
   simp only[K8,Gs,Tree.m,n 0 (by decide),n 1 (by decide),cond_false]
  simp only[n 0 (by decide),n 1 (by decide),n 2 (by decide),n 3 (by decide),n 4 (by decide),n 5 (by decide),n 6 (by decide),n 7 (by decide),n 8 (by decide),n 9 (by decide),n 10 (by decide),n 11 (by decide),cond_false,dY (show port<=1 by omega),cond_true,c]
 ·have n:∀k:Int,k<12->(port==k)=false:=λk hk=>beq_eq_false_iff_ne.2 (by omega)
  have c:Ld m.A1 port=0:=by
   simp only[Ld,Le,Tree.m,n 10 (by decide),n 11 (by decide),cond_false]
  simp only[n 0 (by decide),n 1 (by decide),n 2 (by decide),n 3 (by decide),n 4 (by decide),n 5 (by decide),n 6 (by decide),n 7 (by decide),n 8 (by decide),n 9 (by decide),n 10 (by decide),n 11 (by decide),cond_false,dN (show¬port<=1 by omega),dN (show¬port<=6 by omega),dN (show¬port<=9 by omega),c]
theorem yK{P:Nat}{m:au}(hm:ei P m.Mem)(hb:okB m.A1)(port:Int){v:Int}(hv:U v):EF m port v m.A0=((DE m port v).2,(DE m port v).1):=by
 have e1:=Zd4 hm m.A6
 have e2:=Ziv hm m.C1
 have e3:=Zhp hm hb port hv
 have e4:=qK m.A7 v
 simp only[EF,KC,DE,FW,Tree.m,dj,e1,e2,e3,e4]
 rcases Gy (p:=port)with rfl|rfl|rfl|rfl|rfl|rfl|rfl|rfl|rfl|rfl|rfl|rfl|h|h
 all_goals first|rfl|skip
 ·have n:∀k:Int,0<=k->(port==k)=false:=λk hk=>beq_eq_false_iff_ne.2 (by omega)
  simp only[n 0 (by decide),n 1 (by decide),n 2 (by decide),n 3 (by decide),n 4 (by decide),n 5 (by decide),n 6 (by decide),n 7 (by decide),n 8 (by decide),n 9 (by decide),n 10 (by decide),n 11 (by decide),cond_false,dY (show port<=2 by omega),cond_true]
 ·have n:∀k:Int,k<12->(port==k)=false:=λk hk=>beq_eq_false_iff_ne.2 (by omega)
  have c:AQ m.A1 m.Mem port v=(m.A1,m.Mem):=by
   simp only[AQ,AP,Tree.m,n 10 (by decide),n 11 (by decide),cond_false]
  simp only[n 0 (by decide),n 1 (by decide),n 2 (by decide),n 3 (by decide),n 4 (by decide),n 5 (by decide),n 6 (by decide),n 7 (by decide),n 8 (by decide),n 9 (by decide),n 10 (by decide),n 11 (by decide),cond_false,dN (show¬port<=2 by omega),dN (show¬port<=6 by omega),dN (show¬port<=9 by omega),c]
def tick(n:au)(c:bg)(w h:Bool):au:={A9:=c,Mem:=n.Mem,A2:=n.A2,A7:=n.A7,A6:=n.A6,C1:=n.C1,A1:=n.A1,A0:=wrap .u64 (n.A0+1),A3:=w,A4:=h}
def BY(m:au)(c:bg)(mem:List Int):au:={A9:=c,Mem:=mem,A2:=m.A2,A7:=m.A7,A6:=m.A6,C1:=m.C1,A1:=m.A1,A0:=m.A0,A3:=false,A4:=m.A4}
def EG(n:au)(e:kD)(clock dk:Int):au×List fm:=
 bif e.C4==1 then
  (bif e.D7 !=0 then(tick (ud n e.C6 clock).1 {X:=fv.of 0 (dG (fv.l (ud n e.C6 clock).1.A9.X) e.D7.toNat (ud n e.C6 clock).2),Pc:=(ud n e.C6 clock).1.A9.Pc,B2:=(ud n e.C6 clock).1.A9.B2} (ud n e.C6 clock).1.A3 (ud n e.C6 clock).1.A4,[])
  else(tick (ud n e.C6 clock).1 (ud n e.C6 clock).1.A9 (ud n e.C6 clock).1.A3 (ud n e.C6 clock).1.A4,[]))
 else bif e.C4==2 then(tick (EF n e.C6 e.Value dk).1 (EF n e.C6 e.Value dk).1.A9 (EF n e.C6 e.Value dk).1.A3 (EF n e.C6 e.Value dk).1.A4,(EF n e.C6 e.Value dk).2)
 else bif e.C4==3 then(tick n n.A9 true n.A4,[])else bif e.C4==4 then(tick n n.A9 n.A3 true,[])else(tick n n.A9 n.A3 n.A4,[])
def BZ(n:au)(e:kD)(clock:Int):List fm×au:=
 bif e.C4==1 then([],tick (BX n e.C6 clock).2 (ll (BX n e.C6 clock).2.A9 e.D7 (BX n e.C6 clock).1) (BX n e.C6 clock).2.A3 (BX n e.C6 clock).2.A4)
 else bif e.C4==2 then((DE n e.C6 e.Value).1,tick (DE n e.C6 e.Value).2 (DE n e.C6 e.Value).2.A9 (DE n e.C6 e.Value).2.A3 (DE n e.C6 e.Value).2.A4)
 else bif e.C4==3 then([],tick n n.A9 true n.A4)else bif e.C4==4 then([],tick n n.A9 n.A3 true)else([],tick n n.A9 n.A3 n.A4)
theorem yY(m:au)(clock:Int):ga m clock=BZ (BY m (ua (mV m) m.Mem).1 (ua (mV m) m.Mem).2.2) (ua (mV m) m.Mem).2.1 clock:=by kernel_rfl
theorem Zjt(m:au)(clock:Int):Am m clock=bif !Ag m then(m,[])else EG {A9:=(Q7 (mW m).A9 (mW m).Mem).1,Mem:=(Q7 (mW m).A9 (mW m).Mem).2.1,A2:=(mW m).A2,A7:=(mW m).A7,A6:=(mW m).A6,C1:=(mW m).C1,A1:=(mW m).A1,A0:=(mW m).A0,A3:=(mW m).A3,A4:=(mW m).A4} (Q7 (mW m).A9 (mW m).Mem).2.2 clock m.A0:=by kernel_rfl
theorem xam(m:List Int):Xj m=m:=by
 simp[Xj,Lm,Tree.m]
theorem Ln(m:au):N9 m=m:=by
 simp only[N9,FX,Tree.m,dj,xam]
theorem Xk(m:au)(clock:Int):S3 m clock=bif sr m then(m,[])else((ga m clock).2,(ga m clock).1):=by
 simp only[S3,Lo,Tree.m,dj,Ln]
theorem vK{P:Nat}{n:au}(hm:ei P n.Mem)(hb:okB n.A1){e:kD}(hr:0<=e.D7/\e.D7<16)(hv:U e.Value)(clock:Int):EG n e clock n.A0=((BZ n e clock).2,(BZ n e clock).1):=by
 unfold EG BZ
 rw[zam hb e.C6 clock,yK hm hb e.C6 hv]
 cases e.C4==1
 ·cases e.C4==2
  ·cases e.C4==3
   ·cases e.C4==4<;>rfl
   ·rfl
  ·rfl
 ·generalize BX n e.C6 clock=r
  have s:=SH r.2.A9 hr r.1
  show(bif e.D7 !=0 then _ else _)=(tick r.2 (ll r.2.A9 e.D7 r.1) r.2.A3 r.2.A4,[])
  rw[<-s]
  simp only[tZ,Ey,Tree.m]
  cases e.D7 !=0<;>rfl
theorem Zga{m:au}(h:sq m)(clock:Int):Am m clock=S3 m clock:=by
 rw[Zjt,Xk,S1 h]
 cases hs:sr m
 ·have hr:Ag m=true:=by rw[S1 h,hs];rfl
  obtain⟨hm,hh,Ns⟩:=Su hr
  obtain⟨g1,g2,g3,g4,g5⟩:=(Ga m).1 hm
  rcases(N6 m.Mem h.mem).2 with c|⟨P,hP,gl⟩
  ·exact absurd c g1
  have Xl:pN P m:=⟨h.lS,gl,h.kJ,h.si,h.ub.1,h.ub.2⟩
  obtain⟨b1,b2,b3,_⟩:=(Tree.pp (Wg Xl g2)).2
  change mi (mW m).A9 at b1
  change pN P (mW m)at b2
  change(mW m).Mem=m.Mem at b3
  have be:=Z6j h g2.st
  have S4:mi (mV m):=by have:=b1;rw[be]at this;exact this
  have Lp:ir (mV m):=by have:=b2.lS;rw[be]at this;exact this
  have ex:=Zej gl Lp S4.st
  have er:=(Tree.pp (Zkc Lp gl)).2
  change 0<=(Q7 (mV m) m.Mem).2.2.D7/\(Q7 (mV m) m.Mem).2.2.D7<16 at er
  obtain⟨d1,d2,d3⟩:=(Tree.pp (H9 Lp gl)).2
  change U (ua (mV m) m.Mem).2.1.Value at d2
  change ei P (ua (mV m) m.Mem).2.2 at d3
  rw[ex]at er
  rw[yY,be]
  show EG {A9:=(Q7 (mV m) m.Mem).1,Mem:=(Q7 (mV m) m.Mem).2.1,A2:=m.A2,A7:=m.A7,A6:=m.A6,C1:=m.C1,A1:=m.A1,A0:=m.A0,A3:=false,A4:=m.A4} (Q7 (mV m) m.Mem).2.2 clock m.A0=_
  rw[ex]
  exact vK (n:=BY m (ua (mV m) m.Mem).1 (ua (mV m) m.Mem).2.2) d3 h.ub er d2 clock
 ·rfl
theorem Z89{m:au}(h:sq m)(e:jX):Lq m e=Oa m e:=by
 have gp:jy m.Mem=m.Mem:=rfl
 have mm:=Lg h
 have t1:Sm m.A7=Xm m.A7:=rfl
 have t2:∀b,Qo5 m.A2 b=Z2t m.A2 b:=λ_=>rfl
 simp only[Lq,Ge,Oa,S5,tn,Gz,Tree.m,dj,Ln,gp,t1,t2]
 rw[show mF {A9:=m.A9,Mem:=m.Mem,A2:=m.A2,A7:=m.A7,A6:=m.A6,C1:=m.C1,A1:=m.A1,A0:=m.A0,A3:=m.A3,A4:=m.A4}=tj m from mm]
 cases hM:tj m
 ·rfl
 have hM':mF m=true:=mm.trans hM
 rcases(N6 m.Mem h.mem).2 with c|⟨P,hP,gl⟩
 ·exact absurd c ((Ga m).1 hM').1
 have cs:=Za5 gl h.kJ e
 have rs:=Zfr gl h.si e.D2
 clear mm hM hM' gp h
 obtain⟨c,mem,con,ti,d,n,b,ct,w,hl⟩:=m
 cases hl
 ·by_cases k2:e.C4=2
  ·rw[k2];cases e.N==0<;>cases decide (e.D2=[])<;>rfl
  by_cases k3:e.C4=3
  ·rw[k3];cases decide (e.N<=255)<;>cases decide (e.D2=[])<;>rfl
  by_cases k4:e.C4=4
  ·rw[k4,cs];rfl
  by_cases k5:e.C4=5
  ·rw[k5,rs];cases e.N==0<;>rfl
  by_cases k6:e.C4=6
  ·rw[k6];cases decide (e.D2=[])<;>rfl
  ·rw[show(e.C4==2)=false by simpa using k2,show(e.C4==3)=false by simpa using k3,show(e.C4==4)=false by simpa using k4,show(e.C4==5)=false by simpa using k5,show(e.C4==6)=false by simpa using k6]
   rfl
 ·rfl
section
variable {m:au} (h:sq m) (hl:m.Mem.length<=1024)
include h
theorem wj(hm:mF m=true):∃P,pN P m/\kH P m:=by
 rcases(N6 m.Mem h.mem).2 with c|⟨P,hP,gl⟩
 ·exact absurd c ((Ga m).1 hm).1
 ·exact⟨P,⟨h.lS,gl,h.kJ,h.si,h.ub.1,h.ub.2⟩,⟨h.lS,gl,h.kJ,h.si,h.ub,h.pM⟩⟩
include hl
theorem xl{clock:Int}(hk:U clock):Ob m clock/\(Am m clock).2.length<=1/\(Am m clock).1.Mem.length<=1024:=by
 cases hr:Ag m
 ·have e:Am m clock=(m,[]):=by rw[Zjt,hr];rfl
  rw[e]
  refine⟨?_,aT _,hl⟩
  have gp:jy m.Mem=m.Mem:=rfl
  show(Gd m clock).p
  unfold Tree.p Gd
  refine cr (by show m.Mem.length<=35184372088832;omega) (aq λl hl=>?_)
  rw[gp]at hl;subst hl
  refine cr (Tree.pp (Wj (m:=⟨_,_,_,_,_,_,m.A1,_,_,_⟩) h.ub.2)).1 (aq λx1 nm=>aa (λ_=>trivial) (λhb=>?_))
  have:x1=false:=nm.trans hr
  rw[this]at hb;cases hb
 ·obtain⟨P,s,_⟩:=wj h (Su hr).1
  have g:=Tree.pp (xi s h.pM hk)
  have ml:=g.2.2.ok.mem.len
  have mp:=g.2.2.ok.mem.p2
  exact⟨g.1,g.2.1,by show(Gd m clock).m.1.Mem.length<=1024;omega⟩
omit h hl in
theorem qL{P:Nat}(h:kH P m){e:jX}(he:U e.N):(Gz m e).w (λx=>kH P x.2):=by
 have k:=h
 obtain⟨h1,h2,h3,h4,h5,h7⟩:=h
 unfold Gz
 repeat'(first
  |exact k
  |exact⟨h1,h2,h3,h4,⟨he,h5.2⟩,h7⟩
  |exact aq λ_ _=>⟨h1,h2,h3,h4,h5,h7⟩
  |exact bm (xaK _ _) λ_ _=>⟨h1,h2,h3,h4,h5,h7⟩
  |exact bm (zT h2 h3 _) λx hx=>⟨h1,hx.2,hx.1,h4,h5,h7⟩
  |exact bm (yU h2 h4 _) λx hx=>⟨h1,hx.2,h3,hx.1,h5,h7⟩
  |refine aa (λ_=>?_) (λ_=>?_))
theorem Znr{e:jX}(he:U e.N):Qd6 m e:=by
 cases hm:mF m
 ·have gp:jy m.Mem=m.Mem:=rfl
  show(Ge m e).p
  unfold Tree.p Ge
  refine cr (by show m.Mem.length<=35184372088832;omega) (aq λl hl=>?_)
  rw[gp]at hl;subst hl
  refine cr (Tree.pp (Zl (m:=⟨_,_,_,_,_,_,m.A1,_,_,_⟩) h.ub.2)).1 (aq λx1 nm=>aa (λ_=>trivial) (λhb=>?_))
  have:x1=false:=nm.trans hm
  rw[this]at hb;cases hb
 ·obtain⟨P,s,o⟩:=wj h hm
  exact(Tree.pp (Zki o he)).1

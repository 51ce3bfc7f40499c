import Derived.Test.YtaemmjbkndlkeaaGreatMigrateTellsLaws2
import Derived.Test.YtaemmjbkndlkeaaGreatMigrateTellsNewsB
open Nat renaming lt_succ_self->cN,blt->bN,le_refl->aX,zero_le->bC,le_of_eq->dG,pow_le_pow_right->dO,and_le_left->dV,pow_lt_pow_right->dW,two_pow_pos->eA,two_pow_add_eq_or_of_lt->eF,eq_of_testBit_eq->eG,testBit_mod_two_pow->eH,testBit->eI,zero_testBit->eW,testBit_and->eX
open List renaming replicate->cO,append->cP,mem_cons->cQ,not_mem_nil->cR,length_replicate->cS,length_take->aD,length_drop->aG,take->cU,drop->cV,ext_getElem->bR,range->cW,getD_eq_getElem?_getD->cX,length_singleton->cY,append_assoc->aM,set->dB,length_set->dC,length_cons->dD,length_nil->dE,length->dF,getD->aV,getElem?_take->aF
open Int renaming tmod->cZ,toNat->dA,emod_eq_of_lt->dH,pow_pos->dI,fdiv_eq_ediv_of_nonneg->dJ,le_of_lt->dK,pow_add->dL,mul_le_mul_of_nonneg_right->dM,lt_or_le->dQ,toNat_natCast->dX,tmod_eq_emod_of_nonneg->dZ,toNat_of_nonneg->eB,fdiv->eD,tdiv->eN,tdiv_eq_ediv_of_nonneg->eO,ediv_ediv_of_nonneg->eT,mul_ediv_add_emod->eU,pow_succ->eV
open Bool renaming or_eq_true->aT,eq_iff_iff->eC,noConfusion->eS
open UInt8 renaming toNat_lt->dP,toNat->eQ,ofNat->eR
open BitVec renaming ofInt->dR,toNat_ofInt->dS,toNat_or->dT,toNat_and->dU,getLsbD->eJ,eq_of_toNat_eq->eK,ofInt_natCast->eL,toNat_ofNat->eM
set_option maxRecDepth 100000
set_option linter.all false
namespace Go.Proofs.YtaemmjbkndlkeaaGreat
open Go Go.GD
open Go.IntKind(wrap i64 u32 u64 u8 wrap_i64 wrap_u32 wrap_u64 wrap_u8 wrap_i32)
variable {A W a access clock f frame g op q r size v w x:Int}{P k n p:Nat}{b:ie}{c:cq}{d:gk}{mem:List Int}{s:List UInt8}
theorem yJ(i:ig):U (pz i).1:=by
 refine Tree.post (U5 i) (W:=λr=>U r.1) ?_
 unfold U5
 exact ai λ_ _=>aa (λ_=>gm) (λ_=>nC _ _)
theorem yd(l:List Int)(hl:l.length*8<=reachBytes):(OQ l).w (λr=>(r.length:Int)=l.length/\∀w∈r,U w):=by
 have rr:l.length*8<=140737488351232:=hl
 have app:∀{r:List Int} {x:Int},(∀w∈r,U w)->U x->∀w∈r++[x],U w:=λhr hx w hw=>by
  rw[List.mem_append]at hw
  rcases hw with hw|hw
  ·exact hr w hw
  ·rw[List.mem_singleton.1 hw];exact hx
 unfold OQ
 refine ed (inv:=λz=>Qyb l z/\∀w∈z.2,U w) (μ:=U6 l) ⟨⟨by omega,by simp,by simp⟩,by simp⟩ (cN _) (λv0 hv=>?_)
 obtain⟨⟨h1,h2,h3⟩,h4⟩:=hv
 refine aa (λh=>?_) (λh=>?_)
 ·have h:=oY h
  have next:∀x:Int,U x->(Qyb l (wrap i64 (v0.1+1),v0.2++[x])/\∀w∈v0.2++[x],U w)/\U6 l (wrap i64 (v0.1+1),v0.2++[x])<U6 l v0:=λx hx=>by
   have hw:i64.wrap (v0.1+1)=v0.1+1:=by rw[wrap_i64];omega
   rw[hw]
   refine⟨⟨⟨?_,?_,?_⟩,app h4 hx⟩,?_⟩
   ·show 0<=v0.1+1;omega
   ·show v0.1+1<=l.length;omega
   ·show((v0.2++[x]).length:Int)=v0.1+1;simp;omega
   ·show(l.length-(v0.1+1)).toNat<(l.length-v0.1).toNat;omega
  have hb:(Nat.beq 1 1&&bN 0 1&&decide (0<=v0.1/\v0.1<(l.length:Int)))=true:=by simp[bN];omega
  have hc:decide (4*(v0.2.length+1)<=140737488355328)=true:=dY (by omega)
  exact ar hb (aa (λ_=>ar hb (ar hc (next _ (fv _)))) (λ_=>ar hb (bz (y3 _) (ai λx0 _=>ai λx1 hx=>ar hc (next _ (by rw[hx];exact yJ _))))))
 ·have h:=oN h
  exact⟨by show(v0.2.length:Int)=l.length;omega,h4⟩
section
variable {P:Nat} {m:bj} (h:sw P m)
include h
theorem OR(port:Int)(hc:U clock):(OS m port clock).w (λx=>U x.1/\sw P x.2/\x.2.B9=m.B9):=by
 have k:=(⟨h,rfl⟩:sw P m/\m.B9=m.B9)
 obtain⟨h1,h2,h3,h4,h5,h7⟩:=h
 unfold OS
 exact aa (λ_=>ai λx hx=>⟨hx▸Zuj _ _,⟨⟨h1,h2,h3,h4,h5,h7⟩,rfl⟩⟩) (λ_=>aa (λ_=>⟨hc,k⟩) (λ_=>aa (λ_=>ai λx hx=>⟨hx▸yB _,k⟩) (λ_=>aa (λ_=>ai λx hx=>⟨hx▸y0 h3 _,k⟩) (λ_=>aa (λ_=>ai λx hx=>⟨hx▸qaH h4 _,k⟩) (λ_=>ai λx hx=>⟨hx▸Zrw h5.1 _,k⟩)))))
theorem qaJ(port:Int)(hv:U v):(LQ m port v).w (λx=>x.1.length<=1/\sw P x.2/\x.2.B9=m.B9):=by
 have k:=(⟨h,rfl⟩:sw P m/\m.B9=m.B9)
 obtain⟨h1,h2,h3,h4,h5,h7⟩:=h
 unfold LQ
 exact aa (λ_=>⟨aX _,k⟩) (λ_=>aa (λ_=>⟨bC _,k⟩) (λ_=>aa (λ_=>ai λ_ _=>⟨bC _,⟨⟨h1,h2,h3,h4,h5,h7⟩,rfl⟩⟩) (λ_=>aa (λ_=>cf (zB h2 h3 _ hv _) λx hx=>⟨hx.2,⟨⟨h1,h2,hx.1,h4,h5,h7⟩,rfl⟩⟩) (λ_=>aa (λ_=>cf (vZ h2 h4 _ hv _) λx hx=>⟨hx.2,⟨⟨h1,h2,h3,hx.1,h5,h7⟩,rfl⟩⟩) (λ_=>cf (qaU h2 h5 _ hv) λx hx=>⟨bC _,⟨⟨h1,hx.2,h3,h4,hx.1,h7⟩,rfl⟩⟩)))))
theorem Y2(hc:U clock):(OT m clock).w (λx=>x.1.length<=1/\sw P x.2/\x.2.B9=wrap .u64 (m.B9+1)):=by
 obtain⟨h1,h2,h3,h4,h5,h7⟩:=h
 unfold OT
 refine cf (Z0s h1) λx0 c0=>cf (OU c0 h2) λx1 hx=>?_
 obtain⟨c1,v1,m1⟩:=hx
 refine aa (λ_=>U7 (OR (m:=⟨_,_,_,_,_,_,_,_,_,_⟩) ⟨c1,m1,h3,h4,h5,h7⟩ _ hc) λx2 hx=>?_) (λ_=>aa (λ_=>cf (qaJ (m:=⟨_,_,_,_,_,_,_,_,_,_⟩) ⟨c1,m1,h3,h4,h5,h7⟩ _ v1) λx4 hx=>?_) (λ_=>?_))
 ·obtain⟨u,⟨k1,k2,k3,k4,k5,k7⟩,k6⟩:=hx
  exact cf (FC k1 _ u) λx3 h3=>⟨bC _,⟨h3,k2,k3,k4,k5,w0 _⟩,congrArg (λn=>wrap .u64 (n+1)) k6⟩
 ·obtain⟨u,⟨k1,k2,k3,k4,k5,k7⟩,k6⟩:=hx
  exact⟨u,⟨k1,k2,k3,k4,k5,w0 _⟩,congrArg (λn=>wrap .u64 (n+1)) k6⟩
 ·repeat'(first
   |exact⟨bC _,⟨c1,m1,h3,h4,h5,w0 _⟩,rfl⟩
   |refine aa (λ_=>?_) (λ_=>?_))
theorem y7:(LR m).w (λx=>sw P x/\x.B9=m.B9):=by
 obtain⟨h1,h2,h3,h4,h5,h7⟩:=h
 unfold LR
 exact cf (qaT h2) λx hx=>⟨⟨h1,by rw[hx];exact h2,h3,h4,h5,h7⟩,rfl⟩
end
theorem CO(n:Nat):∀w∈cO n (0:Int),U w:=λw hw=>by rw[(List.mem_replicate.1 hw).2];exact gm
set_option synthInstance.maxHeartbeats 2000000
set_option synthInstance.maxSize 100000
noncomputable section
instance vJ (src:List UInt8):Ck (Qpm src):=uE (t:=OV src) (by delta OV;infer_instance)
instance zF (s:List UInt8):Ck (Qnk s):=uE (t:=OW s) (by delta OW;infer_instance)
instance yF (n:Int):Ck (FD n):=let d:Decidable (FD n):=(by delta FD;infer_instance);⟨@decide _ d,@oY _ d⟩
instance vd (n:Int):Ck (Qjr n):=uE (t:=JB n) (by delta JB;infer_instance)
instance xak (r:Int):Ck (Quz r):=uE (t:=JC r) (by delta JC;infer_instance)
instance v7 (s:List UInt8):Ck (Y3 s):=uE (t:=OX s) (by delta OX;infer_instance)
instance Zzr (op:Int):Ck (Qhm op):=uE (t:=OY op) (by delta OY;infer_instance)
instance Zzg (s:List UInt8):Ck (LS s):=uE (t:=OZ s) (by delta OZ;infer_instance)
instance qe (eh:List UInt8):Ck (O0 eh):=uE (t:=O1 eh) (by delta O1;infer_instance)
instance vF (s:List UInt8):Ck (Qnc s):=uE (t:=O2 s) (by delta O2;infer_instance)
instance xe (l:List lQ) (p:List UInt8):Ck (O3 l p):=uE (t:=O4 l p) (by delta O4;infer_instance)
instance qG (s:List UInt8):Ck (Qm0 s):=uE (t:=O5 s) (by delta O5;infer_instance)
instance ze (l:List oL) (label:List UInt8):Ck (Hv l label):=let d:Decidable (Hv l label):=(by delta Hv;infer_instance);⟨@decide _ d,@oY _ d⟩
instance z8 (src:List UInt8):Ck (Qsq src):=uE (t:=O6 src) (by delta O6;infer_instance)
instance y8 (st:kQ) (v:Int):Ck (O7 st v):=uE (t:=O8 st v) (by delta O8;infer_instance)
instance Zzs (src:List UInt8):Ck (Y4 src):=uE (t:=O9 src) (by delta O9;infer_instance)
theorem qal:Y4 ((108:UInt8)::(CP++LU++(LV++LW)++(LX++LY++(LZ++L0))++(L1++L2++(L3++L4)++(L5++L6++(L7++L8))))):=ck inferInstance (by kernel_rfl)
def inU(x:Int):Bool:=decide (0<=x)&&decide (x<4294967296)
theorem zal(l:List Int)(h:(Nat.ble l.length 160&&List.all l inU)=true):l.length<=160/\∀w∈l,U w:=by
 rw[aE]at h
 refine⟨lE h.1,λw hw=>?_⟩
 have:=List.all_eq_true.1 h.2 w hw
 simp only[inU,aE,decide_eq_true_eq]at this
 exact this
theorem ye:(L9 (cP (cP (cP (cP U8 LU) (cP LV LW)) (cP (cP LX LY) (cP LZ L0))) (cP (cP (cP L1 L2) (cP L3 L4)) (cP (cP L5 L6) (cP L7 L8))))).1.length<=160/\∀w∈(L9 (cP (cP (cP (cP U8 LU) (cP LV LW)) (cP (cP LX LY) (cP LZ L0))) (cP (cP (cP L1 L2) (cP L3 L4)) (cP (cP L5 L6) (cP L7 L8))))).1,U w:=zal _ (by kernel_rfl)
end
theorem CQ(i:List Int)(hu:∀w∈i,U w)(hl:i.length<=256):(Hw 8 4 i).w (λx=>sw 8 x.1/\x.1.B9=0):=by
 unfold Hw
 refine aa (λh=>absurd h (by decide)) λ_=>aa (λh=>absurd h (by decide)) λ_=>aa (λh=>absurd h (by decide)) λ_=>aa (λh=>absurd h (by decide)) λ_=>aa (λh=>?_) λ_=>ai λx0 e0=>bz (Zod _) (ai λx1 e1=>?_)
 ·have h:=oY h
  rw[show i64.wrap (8*32)=256 by decide]at h
  omega
 have hx:x1=cO 256 0:=by rw[e1];kernel_rfl
 have c0:je x0:=by rw[e0];exact⟨by
  intro w hw
  simp only[Y5,U9,Tree.m,jg.l,cQ,cR,or_false,or_self]at hw
  rw[hw];exact gm,gm,by
  intro w hw
  simp only[Y5,U9,Tree.m,A8.l,cQ,cR,or_false,or_self]at hw
  rcases hw with rfl|rfl
  ·exact⟨by omega,by omega⟩
  ·exact gm⟩
 have hz:∀w∈x1,U w:=by rw[hx];exact CO 256
 have hn:x1.length=256:=by rw[hx,cS]
 refine⟨⟨c0,⟨?_,by omega,by omega,λw hw=>?_⟩,⟨gm,gm,gm,gm⟩,⟨gm,gm,gm,gm⟩,⟨gm,gm⟩,Int.le_refl _⟩,rfl⟩
 ·simp only[lA,aD,aG,hn];omega
 ·rcases List.mem_append.1 hw with h1|h1
  ·exact hu w (List.mem_of_mem_take h1)
  ·exact hz w (List.mem_of_mem_drop h1)
noncomputable section
def j8:List Int:=(L9 (cP (cP (cP (cP U8 LU) (cP LV LW)) (cP (cP LX LY) (cP LZ L0))) (cP (cP (cP L1 L2) (cP L3 L4)) (cP (cP L5 L6) (cP L7 L8))))).1
def ur:List Int:=j8++cO (160-j8.length) 0
theorem Pa(t0 t1 t2 t3 t4 t5 t6 t7 t8 t9 t10 t11 t12 t13 t14 t15 t16 t17 t18 t19 t20 t21 t22 t23 t24 t25 t26 t27 t28 t29 t30 t31 t32 t33 t34 t35 t36 t37 t38 t39 t40 t41 t42 t43 t44 t45 t46 t47 t48 t49 t50 t51 t52 t53 t54 t55 t56 t57 t58 t59 t60 t61 t62 t63 t64 t65 t66 t67 t68 t69 t70 t71 t72 t73 t74 t75 t76 t77 t78 t79 t80 t81 t82 t83 t84 t85 t86 t87 t88 t89 t90 t91 t92 t93 t94 t95:Int):(Ma (lT 8 4 (ur++[t0,t1,t2,t3,t4,t5,t6,t7,t8,t9,t10,t11,t12,t13,t14,t15,t16,t17,t18,t19,t20,t21,t22,t23,t24,t25,t26,t27,t28,t29,t30,t31,t32,t33,t34,t35,t36,t37,t38,t39,t40,t41,t42,t43,t44,t45,t46,t47,t48,t49,t50,t51,t52,t53,t54,t55,t56,t57,t58,t59,t60,t61,t62,t63,t64,t65,t66,t67,t68,t69,t70,t71,t72,t73,t74,t75,t76,t77,t78,t79,t80,t81,t82,t83,t84,t85,t86,t87,t88,t89,t90,t91,t92,t93,t94,t95])).1 [] 87).2.2.2=0:=by kernel_rfl
end
attribute [local irreducible] L9
theorem qf(i j:List Int)(hi:i.length<=256)(hj:j.length<=256)(e:i++cO (256-i.length) 0=j++cO (256-j.length) 0):lT 8 4 i=lT 8 4 j:=by
 have w:i64.wrap (8*32)=256:=by decide
 have m:Mb 8=cO 256 0:=by kernel_rfl
 have d:∀k:List Int,k.length<=256->decide ((k.length:Int)>256)=false:=λk h=>dN (by omega)
 have mem:∀k:List Int,k.length<=256->cU (min k.length (cO 256 (0:Int)).length) k++cV (min k.length (cO 256 (0:Int)).length) (cO 256 0)=k++cO (256-k.length) 0:=λk h=>by
  rw[cS,Nat.min_eq_left h,List.take_length,List.drop_replicate]
 have r:Mb 8=cO 256 0:=by kernel_rfl
 simp only[lT,Hw,Tree.m,w,eu,r,d i hi,d j hj]
 simp only[mem i hi,mem j hj,e]
theorem JD(t:List Int)(ht:t.length=96):t=[t.getD 0 0,t.getD 1 0,t.getD 2 0,t.getD 3 0,t.getD 4 0,t.getD 5 0,t.getD 6 0,t.getD 7 0,t.getD 8 0,t.getD 9 0,t.getD 10 0,t.getD 11 0,t.getD 12 0,t.getD 13 0,t.getD 14 0,t.getD 15 0,t.getD 16 0,t.getD 17 0,t.getD 18 0,t.getD 19 0,t.getD 20 0,t.getD 21 0,t.getD 22 0,t.getD 23 0,t.getD 24 0,t.getD 25 0,t.getD 26 0,t.getD 27 0,t.getD 28 0,t.getD 29 0,t.getD 30 0,t.getD 31 0,t.getD 32 0,t.getD 33 0,t.getD 34 0,t.getD 35 0,t.getD 36 0,t.getD 37 0,t.getD 38 0,t.getD 39 0,t.getD 40 0,t.getD 41 0,t.getD 42 0,t.getD 43 0,t.getD 44 0,t.getD 45 0,t.getD 46 0,t.getD 47 0,t.getD 48 0,t.getD 49 0,t.getD 50 0,t.getD 51 0,t.getD 52 0,t.getD 53 0,t.getD 54 0,t.getD 55 0,t.getD 56 0,t.getD 57 0,t.getD 58 0,t.getD 59 0,t.getD 60 0,t.getD 61 0,t.getD 62 0,t.getD 63 0,t.getD 64 0,t.getD 65 0,t.getD 66 0,t.getD 67 0,t.getD 68 0,t.getD 69 0,t.getD 70 0,t.getD 71 0,t.getD 72 0,t.getD 73 0,t.getD 74 0,t.getD 75 0,t.getD 76 0,t.getD 77 0,t.getD 78 0,t.getD 79 0,t.getD 80 0,t.getD 81 0,t.getD 82 0,t.getD 83 0,t.getD 84 0,t.getD 85 0,t.getD 86 0,t.getD 87 0,t.getD 88 0,t.getD 89 0,t.getD 90 0,t.getD 91 0,t.getD 92 0,t.getD 93 0,t.getD 94 0,t.getD 95 0]:=by
 apply bR
 ·rw[ht];rfl
 ·intro i h1 h2
  have e:∀j (hj:j<96),[t.getD 0 0,t.getD 1 0,t.getD 2 0,t.getD 3 0,t.getD 4 0,t.getD 5 0,t.getD 6 0,t.getD 7 0,t.getD 8 0,t.getD 9 0,t.getD 10 0,t.getD 11 0,t.getD 12 0,t.getD 13 0,t.getD 14 0,t.getD 15 0,t.getD 16 0,t.getD 17 0,t.getD 18 0,t.getD 19 0,t.getD 20 0,t.getD 21 0,t.getD 22 0,t.getD 23 0,t.getD 24 0,t.getD 25 0,t.getD 26 0,t.getD 27 0,t.getD 28 0,t.getD 29 0,t.getD 30 0,t.getD 31 0,t.getD 32 0,t.getD 33 0,t.getD 34 0,t.getD 35 0,t.getD 36 0,t.getD 37 0,t.getD 38 0,t.getD 39 0,t.getD 40 0,t.getD 41 0,t.getD 42 0,t.getD 43 0,t.getD 44 0,t.getD 45 0,t.getD 46 0,t.getD 47 0,t.getD 48 0,t.getD 49 0,t.getD 50 0,t.getD 51 0,t.getD 52 0,t.getD 53 0,t.getD 54 0,t.getD 55 0,t.getD 56 0,t.getD 57 0,t.getD 58 0,t.getD 59 0,t.getD 60 0,t.getD 61 0,t.getD 62 0,t.getD 63 0,t.getD 64 0,t.getD 65 0,t.getD 66 0,t.getD 67 0,t.getD 68 0,t.getD 69 0,t.getD 70 0,t.getD 71 0,t.getD 72 0,t.getD 73 0,t.getD 74 0,t.getD 75 0,t.getD 76 0,t.getD 77 0,t.getD 78 0,t.getD 79 0,t.getD 80 0,t.getD 81 0,t.getD 82 0,t.getD 83 0,t.getD 84 0,t.getD 85 0,t.getD 86 0,t.getD 87 0,t.getD 88 0,t.getD 89 0,t.getD 90 0,t.getD 91 0,t.getD 92 0,t.getD 93 0,t.getD 94 0,t.getD 95 0][j]'hj=t.getD j 0:=by
   intro j hj
   have:[t.getD 0 0,t.getD 1 0,t.getD 2 0,t.getD 3 0,t.getD 4 0,t.getD 5 0,t.getD 6 0,t.getD 7 0,t.getD 8 0,t.getD 9 0,t.getD 10 0,t.getD 11 0,t.getD 12 0,t.getD 13 0,t.getD 14 0,t.getD 15 0,t.getD 16 0,t.getD 17 0,t.getD 18 0,t.getD 19 0,t.getD 20 0,t.getD 21 0,t.getD 22 0,t.getD 23 0,t.getD 24 0,t.getD 25 0,t.getD 26 0,t.getD 27 0,t.getD 28 0,t.getD 29 0,t.getD 30 0,t.getD 31 0,t.getD 32 0,t.getD 33 0,t.getD 34 0,t.getD 35 0,t.getD 36 0,t.getD 37 0,t.getD 38 0,t.getD 39 0,t.getD 40 0,t.getD 41 0,t.getD 42 0,t.getD 43 0,t.getD 44 0,t.getD 45 0,t.getD 46 0,t.getD 47 0,t.getD 48 0,t.getD 49 0,t.getD 50 0,t.getD 51 0,t.getD 52 0,t.getD 53 0,t.getD 54 0,t.getD 55 0,t.getD 56 0,t.getD 57 0,t.getD 58 0,t.getD 59 0,t.getD 60 0,t.getD 61 0,t.getD 62 0,t.getD 63 0,t.getD 64 0,t.getD 65 0,t.getD 66 0,t.getD 67 0,t.getD 68 0,t.getD 69 0,t.getD 70 0,t.getD 71 0,t.getD 72 0,t.getD 73 0,t.getD 74 0,t.getD 75 0,t.getD 76 0,t.getD 77 0,t.getD 78 0,t.getD 79 0,t.getD 80 0,t.getD 81 0,t.getD 82 0,t.getD 83 0,t.getD 84 0,t.getD 85 0,t.getD 86 0,t.getD 87 0,t.getD 88 0,t.getD 89 0,t.getD 90 0,t.getD 91 0,t.getD 92 0,t.getD 93 0,t.getD 94 0,t.getD 95 0]=(cW 96).map (λk=>t.getD k 0):=rfl
   simp only[this,List.getElem_map,List.getElem_range]
  rw[e i (by omega),cX,List.getElem?_eq_getElem h1]
  rfl
theorem v8(t:List Int)(ht:t.length=96):(Ma (lT 8 4 (ur++t)).1 [] 87).2.2.2=0:=by
 rw[JD t ht]
 exact Pa ..
theorem xf:ur.length=160:=by
 have h:j8.length<=160:=ye.1
 unfold ur
 rw[lA,cS];omega
theorem xal{m:bj}(h:sw P m):(JE m [] 87).w (λx=>x.2.2.2=0->sw P x.1):=by
 have z:∀{k:Int} {p:Prop},k≠0->k=0->p:=λa b=>absurd b a
 unfold JE
 refine ai λx0 _=>aa (λ_=>z (by decide)) λ_=>aa (λ_=>z (by decide)) λ_=>aa (λ_=>z (by decide)) λ_=>bz (show Pb [] by show([]:List rB).length<=1000000000000;decide) (ai λx1 _=>aa (λ_=>z (by decide)) λ_=>cf (y7 h) λx2 hx=>?_)
 have hc:=h.uu
 refine ed (inv:=λv:bj×List ir=>sw P v.1/\v.2.length+(87-v.1.B9).toNat<=87) (μ:=Y6 m [] 87) ⟨hx.1,by rw[hx.2];show 0+_<=87;omega⟩ (cN _) λv0 ⟨a1,a3⟩=>?_
 have a2:=a1.uu
 refine aa (λhb=>aa (λ_=>?_) (λ_=>λ_=>a1)) (λ_=>λ_=>a1)
 have hb:=oY hb
 refine ed (inv:=λ_=>True) (μ:=Y7 m [] 87 v0) trivial (cN _) λv1 _=>?_
 refine aa (λ_=>λ_=>a1) λ_=>cf (qag _) λx3 _=>aa (λ_=>λ_=>a1) λ_=>cf (xaG a1.oV a1.mem) λx4 _=>aa (λ_=>z (by decide)) λ_=>cf (Y2 a1 gm) λx5 h5=>?_
 obtain⟨b1,b2,b3⟩:=h5
 refine ar (dY (by omega)) (dj ?_)
 have e:x5.2.B9=v0.1.B9+1:=by rw[b3,wrap_u64];omega
 show(_/\_)/\(_:Nat)<_
 refine⟨⟨b2,by show(v0.2++x5.1).length+(87-x5.2.B9).toNat<=87;rw[lA];omega⟩,by show(87-x5.2.B9).toNat<(87-v0.1.B9).toNat;omega⟩
theorem Zsg(kind:Int)(l:List Int)(hl:l.length*8<=reachBytes)(h40:l.length<=60):(Q8 kind l).w (sw 8):=by
 unfold Q8
 refine bz (Mc (by decide)) (ai λx0 nT=>aa (λ_=>bz qal (ai λx1 e1=>?_)) (λhk=>?_))
 ·have eb:x1.1=j8:=by rw[e1];rfl
  obtain⟨q1,q2⟩:j8.length<=160/\∀w∈j8,U w:=ye
  refine ed (inv:=λv:List Int=>v.length<=160/\v=j8++cO (v.length-j8.length) 0) (μ:=Qg kind l) ⟨by rw[eb];exact q1,by rw[eb];simp⟩ (cN _) λv0 ⟨a1,a2⟩=>?_
  have a3:j8.length<=v0.length:=by rw[a2,lA];omega
  refine aa (λhb=>?_) (λhb=>?_)
  ·have hb:=oY hb
   refine ar (dY (by omega)) (dj ?_)
   show(_/\_)/\(_:Nat)<_
   refine⟨⟨by rw[lA,cY];omega,?_⟩,by show 160-(v0++[0]).length<160-v0.length;rw[lA,cY];omega⟩
   show v0++[0]=j8++cO ((v0++[0]).length-j8.length) 0
   rw[lA,cY,show v0.length+1-j8.length=(v0.length-j8.length)+1 by omega,List.replicate_succ',<-aM,<-a2]
  ·have hb:=oN hb
   have hv:v0=ur:=by
    unfold ur
    rw[show(160:Nat)=v0.length by omega]
    exact a2
   subst hv
   have hp:=xf
   have Y8:∀w∈ur,U w:=λw hw=>(List.mem_append.1 hw).elim (q2 w) (CO _ w)
   refine cf (yd l hl) λx2 ⟨b1,b2⟩=>ar (dY (by omega)) ?_
   have hu:∀w∈ur++x2,U w:=λw hw=>(List.mem_append.1 hw).elim (Y8 w) (b2 w)
   have hlen:(ur++x2).length<=256:=by rw[lA];omega
   refine aa (λhb=>?_) (λhb=>?_)
   ·have hb:=oY hb;omega
   ·have nw:=Tree.pp (CQ _ hu hlen)
    refine bz nw.1 (ai λx3 h3=>?_)
    have c1:sw 8 x3.1:=by rw[h3];exact nw.2.1
    have rn:=Tree.pp (xal c1)
    refine aa (λ_=>bz rn.1 (ai λx4 hx=>?_)) (λ_=>c1)
    have e:x3=lT 8 4 (ur++(x2++cO (96-x2.length) 0)):=by
     rw[h3]
     have JF:(x2++cO (96-x2.length) (0:Int)).length=96:=by rw[lA,cS];omega
     refine qf _ _ hlen (by rw[lA,JF];omega) ?_
     rw[lA,lA,JF,hp,aM,aM,aM,show 256-(160+96)=0 by omega,show 256-(160+x2.length)=96-x2.length by omega]
     simp
    have h0:x4.2.2.2=0:=by
     rw[hx,e]
     exact v8 _ (by rw[lA,cS];omega)
    exact(by rw[hx];exact rn.2:x4.2.2.2=0->sw 8 x4.1) h0
 ·have hk:=oN hk
  refine cf (yd l hl) λx2 ⟨b1,b2⟩=>ar (dY (by omega)) ?_
  refine aa (λhb=>?_) (λhb=>?_)
  ·have hb:=oY hb;omega
  ·have nw:=Tree.pp (CQ _ b2 (by omega))
   refine bz nw.1 (ai λx3 h3=>?_)
   have c1:sw 8 x3.1:=by rw[h3];exact nw.2.1
   exact aa (λh=>absurd (eq_of_beq h) (by omega)) (λ_=>c1)
def out(f:Int)(m m':List Int):Prop:=∀j:Nat,¬(f*32<=j/\(j:Int)<f*32+32)->m'.getD j 0=m.getD j 0
theorem Y9(f:Int)(m:List Int):out f m m:=λ_ _=>rfl
theorem Aa(l:List Int)(i j:Nat)(v:Int)(h:i≠j):(l.set i v).getD j 0=l.getD j 0:=by
 simp only[cX,List.getElem?_set_ne h]
theorem uv{m:List Int}(h:dy P m):jX m=P:=by
 obtain⟨h1,h2,h3,_⟩:=h
 simp only[jX,Hx,Tree.m]
 have e:(m.length:Int)=32*P:=by omega
 rw[e]
 have e1:(cZ (32*(P:Int)) 32 !=0)=false:=by simp[Int.mul_tmod_right]
 have e2:decide ((32*(P:Int))>1024)=false:=dN (by omega)
 rw[e1,e2]
 simp only[cond_false]
 rw[Int.mul_tdiv_cancel_left _ (by decide),wrap_i64];omega
theorem y9{m:List Int}(h:dy P m)(f:Int):FE m f=true->0<=f/\f<P:=by
 have hp:=uv h
 simp only[FE,Md,Tree.m,eu,hp]
 cases h1:decide (f>=0)
 ·intro h;cases h
 ·intro h;exact⟨oY h1,oY h⟩
theorem zf{m:List Int}(h:dy P m)(f:Int)(s:List UInt8):(JG m f s).w (λr=>dy P r.1/\out f m r.1/\(r.2=false->r.1=m)):=by
 have jH:kU m=m:=rfl
 have h2:=h.p2
 unfold JG
 refine bz (Hy h) (ai λx0 nT=>ai λx1 pP=>?_)
 rw[jH]at nT;subst nT
 refine aa (λ_=>⟨h,Y9 _ _,λ_=>rfl⟩) λhb=>aa (λ_=>⟨h,Y9 _ _,λ_=>rfl⟩) λhs=>?_
 have hb:x1=true:=by simpa using hb
 obtain⟨f0,f1⟩:=y9 h f (pP.symm.trans hb)
 have hs:(s.length:Int)=128:=by simpa using hs
 refine ed (inv:=λz:Int×List Int=>0<=z.1/\z.1<=32/\dy P z.2/\out f x0 z.2) (μ:=ZA x0 f s) ⟨show(0:Int)<=0 by decide,show(0:Int)<=32 by decide,h,Y9 _ _⟩ (cN _) λz ⟨z1,z2,z3,z4⟩=>?_
 refine aa (λhb=>?_) (λ_=>⟨z3,z4,λh=>by cases h⟩)
 have hb:=oY hb
 have e1:i64.wrap (4*z.1)=4*z.1:=by rw[wrap_i64];omega
 have e2:i64.wrap (i64.wrap (4*z.1)+4)=4*z.1+4:=by rw[wrap_i64,wrap_i64];omega
 have e3:i64.wrap (i64.wrap (f*32)+z.1)=f*32+z.1:=by rw[wrap_i64,wrap_i64];omega
 have hl:=z3.len
 have hlen:(cU (dA (i64.wrap (i64.wrap (4*z.1)+4))-dA (i64.wrap (4*z.1))) (cV (dA (i64.wrap (4*z.1))) s)).length=4:=by
  rw[e2,e1,aD,aG];omega
 refine ar (dY (by rw[e2,e1];omega)) ?_
 refine ar (dY (by rw[hlen];decide)) (ar (dY (by rw[hlen];decide)) (ar (dY (by rw[hlen];decide)) (ar (dY (by rw[hlen];decide)) (ar (by rw[e3];simp[bN];omega) (dj ?_)))))
 show(_/\_/\dy P (dB _ _ _)/\out f x0 (dB _ _ _))/\(_:Nat)<_
 have ew:i64.wrap (z.1+1)=z.1+1:=by rw[wrap_i64];omega
 rw[e3]
 refine⟨⟨by rw[ew];omega,by rw[ew];omega,⟨by rw[dC];exact hl,z3.p1,z3.p2,EF z3.u (nC _ _) _⟩,λj hj=>?_⟩,by show(32-i64.wrap (z.1+1)).toNat<(32-z.1).toNat;rw[ew];omega⟩
 rw[Aa _ _ _ _ (by omega)]
 exact z4 j hj
theorem zaJ(w:List Int)(h:w.length<=32):(Q6 w).w (λr=>r.length=4*w.length):=by
 have e0:i64.wrap (4*(w.length:Int))=4*w.length:=by rw[wrap_i64];omega
 unfold Q6
 refine ar (by rw[e0];simp[bN,D.plain];omega) ?_
 refine ed (inv:=λz:Int×List Int=>0<=z.1/\z.1<=w.length/\(z.2.length:Int)=4*z.1) (μ:=Pd w) ⟨by decide,by show(0:Int)<=w.length;omega,rfl⟩ (cN _) λz ⟨z1,z2,z3⟩=>?_
 refine aa (λhb=>?_) (λhb=>?_)
 ·have hb:=oY hb
  have ew:i64.wrap (z.1+1)=z.1+1:=by rw[wrap_i64];omega
  refine ar (by simp[bN];omega) (ar (dY (by omega)) (dj ?_))
  show(_/\_/\_)/\(_:Nat)<_
  refine⟨⟨by rw[ew];omega,by rw[ew];omega,by rw[ew,lA];simp only[dD,dE];omega⟩,by show(w.length-i64.wrap (z.1+1)).toNat<(w.length-z.1).toNat;rw[ew];omega⟩
 ·have hb:=oN hb
  show(bytesOf z.2).length=_
  rw[Pe];omega
theorem yf{m:List Int}(h:dy P m)(f:Int):(EG m f).w (λr=>0<=f->f<P->r.1.length=128):=by
 have hl:=h.len
 have h2:=h.p2
 unfold EG
 refine ai λx0 nT=>aa (λhb=>λf0 f1=>?_) (λhb=>?_)
 ·have hp:=uv h
  have hb:x0=false:=by simpa using hb
  rw[hb]at nT
  simp only[FE,Md,Tree.m,eu,hp]at nT
  rw[dY f0]at nT
  exact absurd f1 (oN nT.symm)
 ·have hb:x0=true:=by simpa using hb
  obtain⟨f0,f1⟩:=y9 h f (nT.symm.trans hb)
  have e1:i64.wrap (f*32)=f*32:=by rw[wrap_i64];omega
  have e2:i64.wrap (i64.wrap (f*32)+32)=f*32+32:=by rw[wrap_i64,wrap_i64];omega
  have hlen:(cU (dA (i64.wrap (i64.wrap (f*32)+32))-dA (i64.wrap (f*32))) (cV (dA (i64.wrap (f*32))) m)).length=32:=by
   rw[e2,e1,aD,aG];omega
  refine ar (by rw[e2,e1];simp[bN];omega) ?_
  refine bz (by show dF _<=1000000000000;rw[hlen];decide) (ai λx1 h1=>?_)
  have h1:x1.length=4*(cU (dA (i64.wrap (i64.wrap (f*32)+32))-dA (i64.wrap (f*32))) (cV (dA (i64.wrap (f*32))) m)).length:=by rw[h1];exact(Tree.pp (zaJ _ (dG hlen))).2
  intro _ _
  show x1.length=128
  rw[h1,hlen]
theorem qaa(hf:U f)(hP:P<=32)(h:decide (u64.wrap f<u64.wrap (P:Int))=true):0<=f/\f<P:=by
 have h:=oY h
 obtain⟨h1,h2⟩:=hf
 rw[wrap_u64,wrap_u64,dH h1 (by omega),dH (by omega) (by omega)]at h
 exact⟨h1,h⟩
theorem zaa(m:bj):Ab m=(BL m.B3&&(BM m.C1&&(r3 m.B6 (jX m.Mem)&&(Ac m.D4 (jX m.Mem)&&BN m.B0 (jX m.Mem))))):=by
 simp only[Ab,Hz,Tree.m,eu]
 cases BL m.B3<;>cases BM m.C1<;>cases r3 m.B6 (jX m.Mem)<;>cases Ac m.D4 (jX m.Mem)<;>rfl
def chain(b1 b2 b3 b4 b5 b6 b7 w h dev:Bool):Bool:=bif b1 then false else bif b2 then false else bif b3 then false else bif b4 then false else bif b5 then false else bif b6 then false else bif b7 then false else bif w then(bif h then false else dev)else dev
def Pf(p:Int)(c:cq)(ct:Int)(w h dev:Bool):Bool:=chain (p==0) (c.X.a0 !=0) (decide (c.C4.a0>31)) (decide (c.C4.a7>31)) (decide (c.C4.a6>255)) (cZ c.C4.a1 4 !=0) (decide (ct>1152921504606846976)) w h dev
theorem xaJ(m:bj):BO m=Pf (jX m.Mem) m.B2 m.B9 m.B4 m.B8 (Ab m):=rfl
section
variable {P:Nat} {m:List Int} (h:dy P m)
include h
theorem Pg(hf:U f){b:Bool}(hx:b=Ph m f)(hb:b=true):0<=f/\f<P:=by
 have hp:=uv h
 rw[hb]at hx
 simp only[Ph,Va,Tree.m,eu,hp]at hx
 exact qaa hf h.p2 hx.symm
theorem HA(hf:U f){b:Bool}(hx:b=Me m f)(hb:b=true):0<=f/\f<P:=by
 have hp:=uv h
 rw[hb]at hx
 simp only[Me,Qp,Tree.m,eu,hp]at hx
 exact qaa hf h.p2 hx.symm
def tu(P:Nat)(d d':gk):Prop:=Bc d'/\(r3 d P=true->r3 d' P=true)
theorem vf(hd:Bc d){cmd:Int}(hc:cmd=1\/cmd=2)(fw:Int):(Mf d m cmd fw).w (λr=>tu P d r.1/\r.2.length<=1):=by
 have h2:=h.p2
 have st3:(d.C9 !=0)=false->tu P d {ab:=d.ab,C8:=d.C8,Frame:=d.Frame,C9:=3,F5:=d.F5,C5:=d.C5,C6:=d.C6,C7:=d.C7}:=λhs=>by
  have hs:d.C9=0:=by simpa using hs
  refine⟨⟨hd.block,hd.frame,hd.kN,hd.kO⟩,λhm=>?_⟩
  simp only[r3,FG,Tree.m,hs]at hm⊢
  exact hm
 have Pj:r3 d P=true->decide (d.ab>64)=false:=λhm=>by
  cases hb:decide (d.ab>64)
  ·rfl
  ·have:r3 d P=false:=by simp only[r3,FG,Tree.m];rw[hb];rfl
   rw[this]at hm;cases hm
 unfold Mf
 refine aa (λ_=>⟨⟨hd,λh=>h⟩,bC _⟩) λhs=>aa (λ_=>⟨st3 hs,bC _⟩) λhb=>ai λx0 hx=>aa (λ_=>⟨st3 hs,bC _⟩) λhp=>?_
 have hb:=oN hb
 obtain⟨f0,f1⟩:=Pg h hd.frame hx (by simpa using hp)
 have ef:i64.wrap d.Frame=d.Frame:=by rw[wrap_i64];omega
 have e1:decide (d.C8<d.ab)=true:=dY (by omega)
 have e2:decide (i64.wrap d.Frame<(P:Int))=true:=by rw[ef];exact dY f1
 refine aa (λBb=>cf (yf h _) λx1 h1=>?_) (λBb=>?_)
 ·rw[ef]at h1
  have h1:=h1 f0 f1
  have Bb:=eq_of_beq Bb
  subst Bb
  refine ai λx2 _=>⟨⟨⟨hd.block,hd.frame,hd.block,hd.frame⟩,λhm=>?_⟩,aX _⟩
  simp only[r3,FG,Vb,Pk,Tree.m,eu,Pj hm,e1,e2,h1]
  rfl
 ·have hc:cmd=1:=by
   rcases hc with h|h
   ·exact h
   ·rw[h]at Bb;exact absurd Bb (by decide)
  subst hc
  refine ai λx2 _=>⟨⟨⟨hd.block,hd.frame,hd.block,hd.frame⟩,λhm=>?_⟩,aX _⟩
  simp only[r3,FG,Vb,Pk,Tree.m,eu,Pj hm,e1,e2]
  rfl
theorem qam(hd:Bc d)(port:Int)(hv:U v)(fw:Int):(Mg d m port v fw).w (λr=>tu P d r.1/\r.2.length<=1):=by
 have dv:tu P d d:=⟨hd,λh=>h⟩
 have e1:∀{k:Int},(v==k)=true->i64.wrap v=k:=λhk=>by
  have:=eq_of_beq hk
  obtain⟨a,b⟩:=hv
  rw[wrap_i64];omega
 unfold Mg
 refine aa (λ_=>⟨⟨⟨hv,hd.frame,hd.kN,hd.kO⟩,λh=>h⟩,bC _⟩) λ_=>aa (λ_=>⟨⟨⟨hd.block,hv,hd.kN,hd.kO⟩,λh=>h⟩,bC _⟩) λ_=>aa (λ_=>aa (λhk=>cf (vf h hd (.inl (e1 hk)) _) λx hx=>hx) λ_=>aa (λhk=>cf (vf h hd (.inr (e1 hk)) _) λx hx=>hx) λ_=>aa (λ_=>ai λx hx=>aa (λhb=>?_) (λ_=>⟨dv,bC _⟩)) (λ_=>⟨dv,bC _⟩)) (λ_=>⟨dv,bC _⟩)
 refine⟨⟨⟨hd.block,hd.frame,hd.kN,hd.kO⟩,λhm=>?_⟩,bC _⟩
 rw[hb]at hx
 simp only[Mh,ZB,Tree.m]at hx
 cases h2:d.C9==2
 ·rw[h2]at hx
  have h3:d.C9=3:=eq_of_beq hx.symm
  simp only[r3,FG,Tree.m,h3]at hm⊢
  exact hm
 ·have h3:d.C9=2:=eq_of_beq h2
  simp only[r3,FG,Tree.m,h3]at hm⊢
  exact hm
def CR(P:Nat)(n n':iq):Prop:=u7 n'/\(Ac n P=true->Ac n' P=true)
theorem qaK{n:iq}(hn:u7 n)(fw:Int):(Mi n m fw).w (λr=>r.length<=1):=by
 have h2:=h.p2
 unfold Mi
 refine aa (λ_=>bC _) λl1=>aa (λ_=>bC _) λl2=>ai λx0 hx=>aa (λ_=>bC _) λhp=>cf (yf h _) λx1 h1=>?_
 have l1:=oN l1
 have l2:=oN l2
 obtain⟨f0,f1⟩:=HA h hn.frame hx (by simpa using hp)
 have ef:i64.wrap n.Frame=n.Frame:=by rw[wrap_i64];omega
 rw[ef]at h1
 have h1:=h1 f0 f1
 exact ar (dY (by omega)) (aX _)
theorem zaK{n:iq}(hn:u7 n)(port:Int){v:Int}(hv:U v)(fw:Int):(Mj n m port v fw).w (λr=>CR P n r.1/\r.2.length<=1):=by
 have h2:=h.p2
 have dv:CR P n n:=⟨hn,λh=>h⟩
 unfold Mj
 refine aa (λ_=>⟨⟨⟨hv,hn.len,hn.buffer,hn.HB⟩,λh=>h⟩,bC _⟩) λ_=>aa (λ_=>⟨⟨⟨hn.frame,hv,hn.buffer,hn.HB⟩,λh=>h⟩,bC _⟩) λ_=>aa (λ_=>aa (λ_=>cf (qaK h hn _) λx hx=>⟨dv,hx⟩) λ_=>aa (λ_=>ai λx hx=>aa (λhb=>aa (λnp=>aa (λnr=>?_) (λ_=>⟨dv,bC _⟩)) (λ_=>⟨dv,bC _⟩)) (λ_=>⟨dv,bC _⟩)) λ_=>aa (λ_=>?_) (λ_=>⟨dv,bC _⟩)) (λ_=>⟨dv,bC _⟩)
 ·obtain⟨f0,f1⟩:=HA h hn.frame hx hb
  have np:n.D2=false:=by simpa using np
  have nr:n.C3=false:=by simpa using nr
  have e2:decide (i64.wrap n.Frame>=(P:Int))=false:=dN (by rw[wrap_i64];omega)
  refine⟨⟨⟨hn.frame,hn.len,hn.frame,hn.HB⟩,λhm=>?_⟩,bC _⟩
  simp only[Ac,Pl,Tree.m,np,nr,e2]at hm⊢
  cases hb:(n.D5 !=0)
  ·rw[hb]at hm;exact hm
  ·rw[hb]at hm;cases hm
 ·refine⟨⟨⟨hn.frame,hn.len,hn.buffer,gm⟩,λhm=>?_⟩,bC _⟩
  simp only[Ac,Pl,Tree.m]at hm⊢
  revert hm
  cases n.D2<;>cases n.C3<;>cases decide (i64.wrap n.D5>=(P:Int))<;>cases(n.D5 !=0)<;>simp
end
theorem zam(t:jx)(v:Int):BM (Pm t v)=true:=by
 simp only[Pm,Vc,BM,Vd,Tree.m]
 cases h:(v !=0)
 ·have:v=0:=by simpa using h
  subst this;rfl
 ·rfl
theorem EH(k:Nat)(hk:k<=32):bn .u32 a k=a/2^k:=by
 unfold bn
 have e:min (k:Int).toNat u32.bits=k:=by show min (k:Int).toNat 32=k;omega
 have hp:(0:Int)<2^k:=dI (by decide)
 rw[e,dJ _ (dK hp)]
def Mk(x:Int)(n:Nat):Prop:=x<2^n/\(n=0\/(2:Int)^(n-1)<=x)
theorem ZC(hq:q=x/2^k)(h0:0<q)(h:Mk q n):Mk x (n+k):=by
 have hp:(0:Int)<2^k:=dI (by decide)
 obtain⟨h1,h2⟩:=h
 have hn:n≠0:=λe=>by subst e;simp at h1;omega
 refine⟨?_,.inr ?_⟩
 ·rw[dL]
  have:x<(x/2^k+1)*2^k:=Int.lt_ediv_add_one_mul_self x hp
  have h3:(x/2^k+1)*2^k<=2^n*2^k:=dM (by omega) (dK hp)
  omega
 ·have h2:=h2.resolve_left hn
  have e:n+k-1=(n-1)+k:=by omega
  rw[e,dL]
  have h3:(2:Int)^(n-1)*2^k<=q*2^k:=dM h2 (dK hp)
  have h4:q*2^k<=x:=by rw[hq];exact Int.ediv_mul_le x (Int.ne_of_gt hp)
  omega
theorem qK(h:Mk x n)(hx:x<2^p):n<=p:=by
 obtain⟨h1,h2⟩:=h
 rcases h2 with h2|h2
 ·omega
 ·rcases Nat.lt_or_ge p n with bc|e6
  ·have:(2:Int)^p<=2^(n-1):=by
    have:=dO (show 0<2 by omega) (show p<=n-1 by omega)
    exact_mod_cast this
   omega
  ·exact e6
theorem Ztj(h:Mk x n)(hn:n<=p):x<2^p:=by
 have:(2:Int)^n<=2^p:=by
  have:=dO (show 0<2 by omega) hn
  exact_mod_cast this
 exact Int.lt_of_lt_of_le h.1 this
def CS(i:Nat):Bool:=match(Ad (i:Int))with
 |.ofNat n=>decide ((i:Int)<2^n)&&(Nat.beq n 0||decide ((2:Int)^(n-1)<=i))&&decide (n<=8)
 |_=>false
theorem Ve(h0:0<=q)(h1:q<256):∃n:Nat,Ad q=n/\Mk q n/\n<=8:=by
 have all:List.all (cW 256) CS=true:=by kernel_rfl
 have:=List.all_eq_true.1 all q.toNat (List.mem_range.2 (by omega))
 have hq:((q.toNat:Nat):Int)=q:=by omega
 unfold CS at this
 rw[hq]at this
 split at this
 ·rename_i n hn
  simp only[aE,aT,decide_eq_true_eq]at this
  refine⟨n,hn,⟨this.1.1,?_⟩,this.2⟩
  rcases this.1.2 with h|h
  ·exact .inl (bE h)
  ·exact .inr h
 ·cases this
theorem xaK(h:U x)(hx:16777216<=x):Ad x=24+Ad (x/16777216):=by
 obtain⟨h0,h1⟩:=h
 have BP:bn .u32 x 16=x/65536:=EH 16 (by omega)
 have u9:bn .u32 (x/65536) 8=x/16777216:=by rw[show((8:Int))=((8:Nat):Int) from rfl,EH 8 (by omega)];omega
 have d1:decide (x>=65536)=true:=dY (by omega)
 have d2:decide (x/65536>=256)=true:=dY (by omega)
 have d3:decide (x/16777216>=65536)=false:=dN (by omega)
 have d4:decide (x/16777216>=256)=false:=dN (by omega)
 have u:u8.wrap (x/16777216)=x/16777216:=by rw[wrap_u8];omega
 simp only[Ad,EI,Tree.m,BP,u9,d1,d2,d3,d4,u,cond_true,cond_false]
 generalize(aV _ (dA (x/16777216)) (0:UInt8))=b
 have hb:=dP b
 rw[wrap_i64,wrap_i64,wrap_i64,wrap_i64]
 omega
theorem qaL(h0:65536<=x)(h1:x<16777216):Ad x=16+Ad (x/65536):=by
 have BP:bn .u32 x 16=x/65536:=EH 16 (by omega)
 have d1:decide (x>=65536)=true:=dY (by omega)
 have d2:decide (x/65536>=256)=false:=dN (by omega)
 have d3:decide (x/65536>=65536)=false:=dN (by omega)
 have u:u8.wrap (x/65536)=x/65536:=by rw[wrap_u8];omega
 simp only[Ad,EI,Tree.m,BP,d1,d2,d3,u,cond_true,cond_false]
 generalize(aV _ (dA (x/65536)) (0:UInt8))=b
 have hb:=dP b
 rw[wrap_i64,wrap_i64,wrap_i64]
 omega
theorem Pn(h0:256<=x)(h1:x<65536):Ad x=8+Ad (x/256):=by
 have s8:bn .u32 x 8=x/256:=EH 8 (by omega)
 have d1:decide (x>=65536)=false:=dN (by omega)
 have d2:decide (x>=256)=true:=dY (by omega)
 have d3:decide (x/256>=65536)=false:=dN (by omega)
 have d4:decide (x/256>=256)=false:=dN (by omega)
 have u:u8.wrap (x/256)=x/256:=by rw[wrap_u8];omega
 simp only[Ad,EI,Tree.m,s8,d1,d2,d3,d4,u,cond_true,cond_false]
 generalize(aV _ (dA (x/256)) (0:UInt8))=b
 have hb:=dP b
 rw[wrap_i64,wrap_i64,wrap_i64,wrap_i64]
 omega
theorem Zy0(h:U x):∃n:Nat,Ad x=n/\Mk x n:=by
 obtain⟨h0,h1⟩:=h
 rcases dQ x 256 with a|a
 ·obtain⟨n,e,l,_⟩:=Ve h0 a
  exact⟨n,e,l⟩
 ·rcases dQ x 65536 with b|b
  ·obtain⟨n,e,l,_⟩:=Ve (q:=x/256) (by omega) (by omega)
   exact⟨n+8,by rw[Pn a b,e];omega,ZC (k:=8) rfl (by omega) l⟩
  ·rcases dQ x 16777216 with c|c
   ·obtain⟨n,e,l,_⟩:=Ve (q:=x/65536) (by omega) (by omega)
    exact⟨n+16,by rw[qaL b c,e];omega,ZC (k:=16) rfl (by omega) l⟩
   ·obtain⟨n,e,l,_⟩:=Ve (q:=x/16777216) (by omega) (by omega)
    exact⟨n+24,by rw[xaK ⟨h0,h1⟩ c,e];omega,ZC (k:=24) rfl (by omega) l⟩
theorem Po(h:U b.D1):BN b P=true↔b.D1<2^P:=by
 obtain⟨n,e,l⟩:=Zy0 h
 have hp:(if(0:Int)>(P:Int)then(0:Int)else P)=P:=by rw[if_neg (by omega)]
 simp only[BN,JH,Tree.m,eu,e,hp,decide_eq_true_eq]
 constructor
 ·intro h;exact Ztj l (by omega)
 ·intro h;have:=qK l h;omega
theorem ZD(h:U a)(h1:a<2^P):(dR 32 a).toNat<2^P:=by
 obtain⟨a0,a1⟩:=h
 rw[dS,dH a0 (by omega)]
 have:((2^P:Nat):Int)=(2:Int)^P:=by exact_mod_cast rfl
 omega
theorem Pp{a b:Int}(ha:U a)(hb:U b)(hP:P<=32)(h1:a<2^P)(h2:b<2^P):ja .u32 a b<2^P:=by
 have e:(dR 32 a|||dR 32 b).toNat<2^P:=by
  rw[dT]
  exact Nat.or_lt_two_pow (ZD ha h1) (ZD hb h2)
 have hc:((2^P:Nat):Int)=(2:Int)^P:=by exact_mod_cast rfl
 have l:=(dR 32 a|||dR 32 b).isLt
 show wrap .u32 ((dR 32 a|||dR 32 b).toNat:Int)<2^P
 rw[wrap_u32]
 omega
theorem xam{a b:Int}(ha:U a)(h1:a<2^P):oA .u32 a b<2^P:=by
 have e:(dR 32 a&&&~~~dR 32 b).toNat<2^P:=by
  rw[dU]
  exact Nat.lt_of_le_of_lt dV (ZD ha h1)
 have hc:((2^P:Nat):Int)=(2:Int)^P:=by exact_mod_cast rfl
 have l:=(dR 32 a&&&~~~dR 32 b).isLt
 show wrap .u32 ((dR 32 a&&&~~~dR 32 b).toNat:Int)<2^P
 rw[wrap_u32]
 omega
theorem qg(h0:0<=v)(h1:v<32):ei .u32 1 v=2^v.toNat:=by
 have e:min v.toNat u32.bits=v.toNat:=by show min v.toNat 32=v.toNat;omega
 obtain⟨n,rfl⟩:∃n:Nat,v=n:=⟨v.toNat,by omega⟩
 have hn:n<32:=by omega
 have bc:(2:Nat)^n<4294967296:=by
  have:=dW (show 1<2 by omega) hn
  simpa using this
 have hc:((2^n:Nat):Int)=(2:Int)^n:=by exact_mod_cast rfl
 unfold ei
 rw[e,wrap_u32,Int.one_mul,dX,<-hc]
 clear hc e
 generalize(2:Nat)^n=z at*
 omega
def CU(P:Nat)(b b':ie):Prop:=okB b'/\(BN b P=true->BN b' P=true)
theorem Zy2{m:List Int}(h:dy P m)(hb:okB b)(port:Int)(hv:U v):(EJ b m port v).w (λr=>CU P b r.1/\dy P r.2):=by
 have jH:kU m=m:=rfl
 have h2:=h.p2
 have hp:=uv h
 have dv:(Tree.an (oB m) (.lv (kU m) λx=>.lf (b,x))).w (λr=>CU P b r.1/\dy P r.2):=bz (Hy h) (ai λx hx=>by rw[jH]at hx;subst hx;exact⟨⟨hb,λh=>h⟩,h⟩)
 unfold EJ
 refine aa (λ_=>dv) λbc=>ar (dY hv.1) (aa (λ_=>ai λx1 hx=>aa (λJI=>aa (λ_=>bz ⟨by decide,by decide,by decide⟩ (ai λx2 _=>cf (zf h _ _) λx3 ⟨h3,_⟩=>?_)) (λ_=>dv)) (λ_=>dv)) (λ_=>aa (λ_=>bz (Hy h) (ai λx hx=>?_)) (λ_=>dv)))
 ·have bc:=oN bc
  have JI:=oY JI
  rw[hx,hp]at JI
  obtain⟨v0,v1⟩:=hv
  have ev:i64.wrap v=v:=by rw[wrap_i64];omega
  rw[ev]at JI
  refine⟨⟨⟨hb.1,fv _⟩,λhm=>?_⟩,h3⟩
  rw[Po hb.2]at hm
  rw[Po (fv _)]
  have hs:ei .u32 1 v<2^P:=by
   rw[qg v0 (by omega)]
   have:=dW (show 1<2 by omega) (show v.toNat<P by omega)
   exact_mod_cast this
  exact Pp hb.2 (fv _) h2 hm hs
 ·rw[jH]at hx;subst hx
  refine⟨⟨⟨hb.1,fv _⟩,λhm=>?_⟩,h⟩
  rw[Po hb.2]at hm
  rw[Po (fv _)]
  exact xam hb.2 hm
structure kept(P:Nat)(m n:bj):Prop where
 ok:Bd P n
 dev:Ab m=true->Ab n=true
 oV:n.B2=m.B2
 uu:n.B9=m.B9
 wait:n.B4=m.B4
 halt:n.B8=m.B8
theorem Zq9{m:bj}(h:Bd P m):kept P m m:=⟨h,λh=>h,rfl,rfl,rfl,rfl⟩
theorem JJ{m n:bj}(hm:dy P m.Mem)(hn:dy P n.Mem)(hc:BL m.B3=true->BL n.B3=true)(ht:BM m.C1=true->BM n.C1=true)
 (hd:r3 m.B6 P=true->r3 n.B6 P=true) (hk:Ac m.D4 P=true->Ac n.D4 P=true) (hb:BN m.B0 P=true->BN n.B0 P=true) (h:Ab m=true):Ab n=true:=by
 rw[zaa]at h⊢
 rw[uv hm]at h
 rw[uv hn]
 simp only[aE]at h⊢
 exact⟨hc h.1,ht h.2.1,hd h.2.2.1,hk h.2.2.2.1,hb h.2.2.2.2⟩
theorem Zt1{m:bj}(h:Bd P m)(port:Int)(hv:U v)(fw:Int):(Ml m port v fw).w (λr=>kept P m r.1/\r.2.length<=1):=by
 have k:=Zq9 h
 obtain⟨h1,h2,h3,h4,h5,h6⟩:=h
 have id:∀{p:Prop},p->p:=λh=>h
 have D:∀(x:gk×List ir),(tu P m.B6 x.1/\x.2.length<=1)->kept P m {B2:=m.B2,Mem:=m.Mem,B3:=m.B3,C1:=m.C1,B6:=x.1,D4:=m.D4,B0:=m.B0,B9:=m.B9,B4:=m.B4,B8:=m.B8}/\x.2.length<=1:=λx hx=>
  ⟨⟨⟨h1,h2,hx.1.1,h4,h5,h6⟩,JJ h2 h2 id id hx.1.2 id id,rfl,rfl,rfl,rfl⟩,hx.2⟩
 have N:∀(x:iq×List ir),(CR P m.D4 x.1/\x.2.length<=1)->kept P m {B2:=m.B2,Mem:=m.Mem,B3:=m.B3,C1:=m.C1,B6:=m.B6,D4:=x.1,B0:=m.B0,B9:=m.B9,B4:=m.B4,B8:=m.B8}/\x.2.length<=1:=λx hx=>
  ⟨⟨⟨h1,h2,h3,hx.1.1,h5,h6⟩,JJ h2 h2 id id id hx.1.2 id,rfl,rfl,rfl,rfl⟩,hx.2⟩
 have B:∀(x:ie×List Int),(CU P m.B0 x.1/\dy P x.2)->kept P m {B2:=m.B2,Mem:=x.2,B3:=m.B3,C1:=m.C1,B6:=m.B6,D4:=m.D4,B0:=x.1,B9:=m.B9,B4:=m.B4,B8:=m.B8}/\([]:List ir).length<=1:=λx hx=>
  ⟨⟨⟨h1,hx.2,h3,h4,hx.1.1.1,hx.1.1.2⟩,JJ h2 hx.2 id id id id hx.1.2,rfl,rfl,rfl,rfl⟩,bC _⟩
 unfold Ml
 repeat'(first
  |exact⟨k,aX _⟩
  |exact⟨k,bC _⟩
  |exact ai λx hx=>⟨⟨⟨h1,h2,h3,h4,h5,h6⟩,JJ h2 h2 id (λ_=>by rw[hx];exact zam _ _) id id id,rfl,rfl,rfl,rfl⟩,bC _⟩
  |exact cf (qam h2 h3 _ hv _) λx hx=>D x hx
  |exact cf (zaK h2 h4 _ hv _) λx hx=>N x hx
  |exact cf (Zy2 h2 ⟨h5,h6⟩ _ hv) λx hx=>B x hx
  |refine aa (λ_=>?_) (λ_=>?_))
theorem Zhy(c:jn)(port:Int):(JK c port).w (λr=>U r.2/\(BL c=true->BL r.1=true)):=by
 have u1:U 4294967295:=⟨by omega,by omega⟩
 unfold JK
 refine aa (λ_=>aa (λ_=>⟨u1,λh=>h⟩) (λhb=>ar ?_ (ar ?_ ⟨fv _,λhm=>?_⟩))) (λ_=>aa (λ_=>⟨fv _,λh=>h⟩) (λ_=>⟨gm,λh=>h⟩))
 ·have hb:=oN hb
  have:0<c.D9.length:=List.length_pos_iff.2 hb
  simp[bN];omega
 ·have hb:=oN hb
  have:0<c.D9.length:=List.length_pos_iff.2 hb
  exact dY (by omega)
 ·have hm:decide ((c.D9.length:Int)<=16)=true:=hm
  have hm:=oY hm
  show decide (((cU _ (cV _ c.D9)).length:Int)<=16)=true
  refine dY ?_
  rw[aD,aG];omega
theorem Zz3{m:bj}(h:Bd P m)(port:Int)(hc:U clock):(Mm m port clock).w (λr=>kept P m r.1/\U r.2):=by
 have k:=Zq9 h
 obtain⟨h1,h2,h3,h4,h5,h6⟩:=h
 have id:∀{p:Prop},p->p:=λh=>h
 have ti:∀t,U (ZE t):=λt=>by
  refine Tree.post (Vf t) (W:=U) ?_
  unfold Vf
  exact aa (λ_=>⟨by omega,by omega⟩) (λ_=>gm)
 have di:∀p,U (Pq m.B6 p):=λp=>by
  refine Tree.post (Vg m.B6 p) (W:=U) ?_
  unfold Vg
  exact aa (λ_=>h3.block) (λ_=>aa (λ_=>h3.frame) (λ_=>aa (λ_=>fv _) (λ_=>gm)))
 have ni:∀p,U (Mn m.D4 p):=λp=>by
  refine Tree.post (Pr m.D4 p) (W:=U) ?_
  unfold Pr
  exact aa (λ_=>h4.frame) (λ_=>aa (λ_=>h4.HB) (λ_=>aa (λ_=>aa (λ_=>aa (λ_=>fv _) (λ_=>fv _)) (λ_=>aa (λ_=>fv _) (λ_=>gm))) (λ_=>gm)))
 have bi:∀p,(Mo m.B0 p).w U:=λp=>by
  unfold Mo
  exact aa (λ_=>h5) (λ_=>aa (λ_=>cf (Zw6 h6) λ_ _=>fv _) (λ_=>gm))
 have C:∀(x:jn×Int),(U x.2/\(BL m.B3=true->BL x.1=true))->kept P m {B2:=m.B2,Mem:=m.Mem,B3:=x.1,C1:=m.C1,B6:=m.B6,D4:=m.D4,B0:=m.B0,B9:=m.B9,B4:=m.B4,B8:=m.B8}/\U x.2:=λx hx=>
  ⟨⟨⟨h1,h2,h3,h4,h5,h6⟩,JJ h2 h2 hx.2 id id id id,rfl,rfl,rfl,rfl⟩,hx.1⟩
 unfold Mm
 repeat'(first
  |exact⟨k,hc⟩
  |exact⟨k,gm⟩
  |exact cf (Zhy _ _) λx hx=>C x hx
  |exact U7 (Zhy _ _) λx hx=>C x hx
  |exact ai λx hx=>⟨k,by rw[hx];exact ti _⟩
  |exact ai λx hx=>⟨k,by rw[hx];exact di _⟩
  |exact ai λx hx=>⟨k,by rw[hx];exact ni _⟩
  |exact cf (bi _) λx hx=>⟨k,hx⟩
  |refine aa (λ_=>?_) (λ_=>?_))
structure nU(c:cq):Prop where
 x0:c.X.a0=0
 st:c.C4.a0<=31
 en:c.C4.a7<=31
 rt:c.C4.a6<=255
 ve:cZ c.C4.a1 4=0
theorem nU.pc(h:nU c)(p:Int):nU {X:=c.X,Pc:=p,C4:=c.C4}:=⟨h.x0,h.st,h.en,h.rt,h.ve⟩
theorem HC(a:Int):bm .u32 a 31<=31:=by
 have e:(dR 32 a&&&dR 32 31).toNat<=31:=by
  rw[dU]
  exact Nat.le_trans Nat.and_le_right (by decide)
 show wrap .u32 ((dR 32 a&&&dR 32 31).toNat:Int)<=31
 rw[wrap_u32];omega
theorem FH(a:Int):bm .u32 a 255<=255:=by have:=CV a;omega
theorem Ps(a:Int):cZ (oA .u32 a 3) 4=0:=by
 have e:(dR 32 a&&&~~~dR 32 3).toNat%4=0:=by
  rw[dU,show(~~~dR 32 3).toNat=4294967292 by decide]
  have:=Nat.and_mod_two_pow (a:=(dR 32 a).toNat) (b:=4294967292) (n:=2)
  simpa using this
 have l:=(dR 32 a&&&~~~dR 32 3).isLt
 show cZ (wrap .u32 ((dR 32 a&&&~~~dR 32 3).toNat:Int)) 4=0
 rw[wrap_u32,dZ (by omega)]
 omega
theorem HD{f:Int->Int}(h:(cW 32).all (λn=>decide (f n<=31))=true){s:Int}(h0:0<=s)(h1:s<=31):f s<=31:=by
 have:=List.all_eq_true.1 h s.toNat (List.mem_range.2 (by omega))
 have e:((s.toNat:Nat):Int)=s:=by omega
 rw[e]at this
 exact oY this
theorem JL(h:je c)(m:nU c)(k b:Int):nU (r4 c k b):=
 ⟨m.x0,HD (f:=λs=>oA .u32 (ja .u32 (Be (Be s 1 8) 2 16) 1) 2) (by kernel_rfl) h.a0.1 m.st,m.en,m.rt,m.ve⟩
theorem Zza(h:je c)(m:nU c):nU (Mp c):=
 ⟨m.x0,HD (f:=λs=>Be (Be s 8 1) 16 2) (by kernel_rfl) h.a0.1 m.st,m.en,m.rt,m.ve⟩
theorem Mq(m:nU c)(hr:0<=r/\r<16)(v:Int):(FI c r v).w nU:=by
 unfold FI
 refine aa (λhn=>ar (rc hr) ?_) (λ_=>m)
 have hn:r≠0:=by simpa using hn
 obtain⟨n,e⟩:∃n:Nat,r.toNat=n+1:=⟨r.toNat-1,by omega⟩
 refine⟨?_,m.st,m.en,m.rt,m.ve⟩
 show(jg.of 0 (dB (jg.l c.X) r.toNat v)).a0=0
 rw[e]
 exact m.x0
theorem xg(m:nU c)(k v:Int):(JM c k v).w nU:=by
 unfold JM
 refine aa (λhk=>ar (by rw[eq_of_beq hk];decide) ?_) λ_=>aa (λhk=>ar (by rw[eq_of_beq hk];decide) ?_) λ_=>aa (λhk=>ar (by rw[eq_of_beq hk];decide) ?_) λ_=>aa (λhk=>ar (by rw[eq_of_beq hk];decide) ?_) λ_=>aa (λhk=>ar (by rw[eq_of_beq hk];decide) ?_) λ_=>aa (λhk=>ar (by rw[eq_of_beq hk];decide) ?_) λ_=>aa (λhk=>ar (by rw[eq_of_beq hk];decide) ?_) λ_=>aa (λhk=>ar (by rw[eq_of_beq hk];decide) ?_) (λ_=>m)
 all_goals(have hk:=eq_of_beq hk;subst hk)
 ·exact⟨m.x0,HC _,m.en,m.rt,m.ve⟩
 ·exact⟨m.x0,m.st,HC _,m.rt,m.ve⟩
 ·exact⟨m.x0,m.st,m.en,FH _,m.ve⟩
 ·exact⟨m.x0,m.st,m.en,m.rt,Ps _⟩
 ·exact⟨m.x0,m.st,m.en,m.rt,m.ve⟩
 ·exact⟨m.x0,m.st,m.en,m.rt,m.ve⟩
 ·exact⟨m.x0,m.st,m.en,m.rt,m.ve⟩
 ·exact⟨m.x0,m.st,m.en,m.rt,m.ve⟩
section
variable {c:cq} (h:je c) (m:nU c) {i:ig} (hi:tv i)
include h m hi
theorem Zuo:(FJ c i).w (λr=>nU r.1):=by
 unfold FJ
 refine ar (rc hi.a) (ar (rc hi.b) ?_)
 repeat'(first
  |refine aa (λ_=>?_) (λ_=>?_)
  |exact cf (Mq m hi.a _) λx hx=>hx.pc _
  |exact ai λx _=>aa (λ_=>m.pc _) (λ_=>m.pc _)
  |exact ai λx hx=>by rw[hx];exact JL h m _ _
  |exact ai λx hx=>by rw[hx];exact Zza h m
  |exact ar (by have:=hi.jK (by simp_all);simp[bN];omega) (cf (Mq m hi.a _) λx hx=>hx.pc _)
  |exact cf (xg m _ _) λx hx=>hx.pc _
  |refine ar (rc hi.c) ?_
  |exact cf (Mr _ (h.r _) (fv _)) λy hy=>cf (Mq m hi.a _) λx hx=>hx.pc _
  |exact cf (Mr _ (h.r _) (h.r _)) λy hy=>cf (Mq m hi.a _) λx hx=>hx.pc _
  |refine aw ?_)
 all_goals exact m.pc _
theorem xK(hm:dy P mem):(JN c mem i).w (λr=>nU r.1):=by
 have w:=Vh i.Op
 unfold JN
 refine ar (rc hi.b) (ai λx0 h0=>?_)
 rw[<-h0]at w
 refine cf (Pt hm (fv _) w 2) λx1 h1=>aa (λ_=>ai λy hy=>by rw[hy];exact JL h m _ _) (λ_=>ai λx3 h3=>?_)
 rw[h0,<-h3]at w
 exact cf (JO h1.2 h1.1 w) λx4 h4=>aa (λ_=>cf (ZF h4.1 8) λy hy=>cf (Mq m hi.a _) λx hx=>hx.pc _) (λ_=>cf (Mq m hi.a _) λx hx=>hx.pc _)
theorem zg(hm:dy P mem):(JP c mem i).w (λr=>nU r.1):=by
 have w:=Vh i.Op
 unfold JP
 refine ar (rc hi.b) (ai λx0 h0=>?_)
 rw[<-h0]at w
 refine cf (Pt hm (fv _) w 3) λx1 h1=>aa (λ_=>ai λy hy=>by rw[hy];exact JL h m _ _) (λ_=>ai λx3 h3=>ar (rc hi.a) ?_)
 rw[h0,<-h3]at w
 exact cf (Vi h1.2 h1.1 w (h.r _)) λx hx=>m.pc _
end
theorem zK(h:je c)(m:nU c)(hm:dy P mem):(FK c mem).w (λr=>nU r.1):=by
 unfold FK
 refine cf (ZG hm h) λx0 h0=>aa (λ_=>ai λy hy=>by rw[hy];exact JL h m _ _) (λ_=>cf (ZH _) λx2 h2=>aa (λ_=>ai λy hy=>by rw[hy];exact JL h m _ _) (λhb=>?_))
 have hi:=h2 (by simpa using hb)
 refine ai λx4 _=>?_
 repeat'(first
  |refine aa (λ_=>?_) (λ_=>?_)
  |exact cf (xK h m hi h0.2) λx hx=>hx
  |exact cf (zg h m hi h0.2) λx hx=>hx
  |exact cf (Zuo h m hi) λx hx=>hx
  |exact ai λy hy=>by rw[hy];exact JL h m _ _
  |refine ai λ_ _=>?_)
theorem Zte(h:je c){i:ig}(hi:tv i):(FJ c i).w (λr=>0<=r.2.F9/\r.2.F9<16):=by
 have z:(0:Int)<=0/\(0:Int)<16:=⟨by decide,by decide⟩
 unfold FJ
 refine ar (rc hi.a) (ar (rc hi.b) ?_)
 repeat'(first
  |refine aa (λ_=>?_) (λ_=>?_)
  |exact cf (EK h hi.a (fv _)) λx hx=>z
  |exact ai λx _=>aa (λ_=>z) (λ_=>z)
  |exact ai λx hx=>z
  |exact ar (by have:=hi.jK (by simp_all);simp[bN];omega) (cf (EK h hi.a (h.a _)) λx hx=>z)
  |exact cf (Zwv h _ (h.r _)) λx hx=>z
  |refine ar (rc hi.c) ?_
  |exact cf (Mr _ (h.r _) (fv _)) λy hy=>cf (EK h hi.a hy) λx hx=>z
  |exact cf (Mr _ (h.r _) (h.r _)) λy hy=>cf (EK h hi.a hy) λx hx=>z
  |refine aw ?_)
 all_goals first|exact z|exact hi.a
theorem Zwo(h:je c)(hm:dy P mem):(FK c mem).w (λr=>0<=r.2.2.F9/\r.2.2.F9<16):=by
 have z:(0:Int)<=0/\(0:Int)<16:=⟨by decide,by decide⟩
 unfold FK
 refine cf (ZG hm h) λx0 h0=>aa (λ_=>ai λy hy=>z) (λ_=>cf (ZH _) λx2 h2=>aa (λ_=>ai λy hy=>z) (λhb=>?_))
 have hi:=h2 (by simpa using hb)
 refine ai λx4 _=>?_
 repeat'(first
  |refine aa (λ_=>?_) (λ_=>?_)
  |exact cf (Zdd h hi h0.2) λx hx=>z
  |exact cf (Z66 h hi h0.2) λx hx=>z
  |exact cf (Zte h hi) λx hx=>hx
  |exact ai λy hy=>z
  |refine ai λ_ _=>?_)
theorem nD{a x:Bool}:(bif a then false else x)=true↔a=false/\x=true:=by cases a<;>simp
theorem Ms(m:bj):BO m=true↔jX m.Mem≠0/\nU m.B2/\m.B9<=1152921504606846976/\¬(m.B4=true/\m.B8=true)/\Ab m=true:=by
 rw[xaJ]
 unfold Pf chain
 rw[nD,nD,nD,nD,nD,nD,nD]
 simp only[decide_eq_false_iff_not,Int.not_lt,beq_eq_false_iff_ne,bne_eq_false_iff_eq,gt_iff_lt]
 constructor
 ·rintro⟨a1,a2,a3,a4,a5,a6,a7,a8⟩
  refine⟨a1,⟨a2,a3,a4,a5,a6⟩,a7,?_,?_⟩
  ·rintro⟨w,h⟩;rw[w,h]at a8;cases a8
  ·revert a8;cases m.B4
   ·exactλh=>h
   ·cases m.B8
    ·exactλh=>h
    ·intro h;cases h
 ·rintro⟨a1,⟨a2,a3,a4,a5,a6⟩,a7,a8,a9⟩
  refine⟨a1,a2,a3,a4,a5,a6,a7,?_⟩
  rw[a9]
  cases hw:m.B4
  ·rfl
  ·cases hh:m.B8
   ·rfl
   ·exact absurd ⟨hw,hh⟩ a8
theorem Zuv{m:bj}(h:FL m=true):BO m=true/\m.B8=false/\m.B9<1152921504606846976:=by
 simp only[FL,JQ,Tree.m,eu]at h
 cases h1:BO m
 ·rw[h1]at h;cases h
 ·cases h2:m.B8
  ·rw[h1,h2]at h
   cases h3:Vj m
   ·rw[h3]at h
    have h:decide (m.B9<1152921504606846976)=true:=h
    exact⟨rfl,rfl,oY h⟩
   ·rw[h3]at h;cases h
  ·rw[h1,h2]at h;cases h
theorem Zqw{m:bj}(h:Bd P m)(g:nU m.B2):(Mt m).w (λr=>nU r.B2/\Bd P r/\r.Mem=m.Mem/\r.B4=false/\r.B8=m.B8/\r.B9=m.B9/\r.B3=m.B3/\r.C1=m.C1/\r.B6=m.B6/\r.D4=m.D4/\r.B0=m.B0):=by
 obtain⟨h1,h2,h3,h4,h5,h6⟩:=h
 unfold Mt
 refine aa (λ_=>⟨g,⟨h1,h2,h3,h4,h5,h6⟩,rfl,rfl,rfl,rfl,rfl,rfl,rfl,rfl,rfl⟩) (λ_=>cf (Zh3 (m:=⟨_,_,_,_,_,_,m.B0,_,_,_⟩) h6) λx0 _=>ed (inv:=λz=>0<=z/\z<=5) (μ:=Qnu m) ⟨by omega,by omega⟩ (cN _) (λz hz=>?_))
 obtain⟨z1,z2⟩:=hz
 refine aa (λhb=>ar (dY z1) (aa (λ_=>ai λx1 hx=>⟨by rw[hx];exact JL h1 g _ _,⟨by rw[hx];exact JR h1 _ gm,h2,h3,h4,h5,h6⟩,rfl,rfl,rfl,rfl,rfl,rfl,rfl,rfl,rfl⟩) (λ_=>dj ?_))) (λ_=>⟨g,⟨h1,h2,h3,h4,h5,h6⟩,rfl,rfl,rfl,rfl,rfl,rfl,rfl,rfl,rfl⟩)
 have hb:=oY hb
 show(0<=i64.wrap (z+1)/\i64.wrap (z+1)<=5)/\(5-i64.wrap (z+1)).toNat<(5-z).toNat
 have ew:i64.wrap (z+1)=z+1:=by rw[wrap_i64];omega
 rw[ew];omega
structure Good(P:Nat)(m r:bj):Prop where
 ok:Bd P r
 uu:0<=r.B9
 may:BO m=true->BO r=true
 or:r=m\/r.B9=m.B9+1
theorem ZI{m:bj}(h:Bd P m)(Hr:0<=m.B9)(hk:U clock):(Pu m clock).w (λr=>r.2.length<=1/\Good P m r.1):=by
 have jH:kU m.Mem=m.Mem:=rfl
 unfold Pu
 refine bz (Hy h.mem) (ai λl hl=>?_)
 rw[jH]at hl;subst hl
 refine bz (Tree.pp (zaF (m:=⟨_,_,_,_,_,_,m.B0,_,_,_⟩) h.given)).1 (ai λx1 pP=>aa (λ_=>⟨bC _,h,Hr,λh=>h,.inl rfl⟩) (λhb=>?_))
 have hr:FL m=true:=by rw[<-show x1=FL m from pP];simpa using hb
 obtain⟨hm,hh,hct⟩:=Zuv hr
 obtain⟨g1,g2,g3,g4,g5⟩:=(Ms m).1 hm
 have hP:(P:Int)≠0:=by rw[<-uv h.mem];exact g1
 have fin:∀(n:bj),Bd P n->nU n.B2->Ab n=true->n.B9=m.B9->¬(n.B4=true/\n.B8=true)->Good P m {B2:=n.B2,Mem:=n.Mem,B3:=n.B3,C1:=n.C1,B6:=n.B6,D4:=n.D4,B0:=n.B0,B9:=wrap .u64 (n.B9+1),B4:=n.B4,B8:=n.B8}:=λn a b c d e=>by
  have ec:wrap .u64 (n.B9+1)=m.B9+1:=by rw[d,wrap_u64];omega
  refine⟨⟨a.oV,a.mem,a.mV,a.Ae,a.target,a.given⟩,?_,λ_=>(Ms _).2 ⟨?_,b,?_,e,c⟩,.inr ec⟩
  ·show 0<=wrap .u64 (n.B9+1);omega
  ·show jX n.Mem≠0;rw[uv a.mem];exact hP
  ·show wrap .u64 (n.B9+1)<=_;omega
 refine cf (Zqw (m:=⟨_,_,m.B3,m.C1,m.B6,m.D4,m.B0,m.B9,m.B4,m.B8⟩) ⟨h.oV,h.mem,h.mV,h.Ae,h.target,h.given⟩ g2) λx2 JS=>?_
 obtain⟨b1,b2,b3,b4,b5,b6,b7,b8,b9,b10,b11⟩:=JS
 have ex:=Tree.pp (xaE b2.oV b2.mem)
 have em:=Tree.pp (zK b2.oV b1 b2.mem)
 have er:=Tree.pp (Zwo b2.oV b2.mem)
 refine bz ex.1 (ai λx3 h3=>?_)
 obtain⟨e1,e2,e3⟩:je x3.1/\dy P x3.2.1/\U x3.2.2.Value:=by rw[h3];exact ex.2
 have f1:nU x3.1:=by rw[h3];exact em.2
 have r1:0<=x3.2.2.F9/\x3.2.2.F9<16:=by rw[h3];exact er.2
 have ZJ:Bd P ⟨x3.1,x3.2.1,x2.B3,x2.C1,x2.B6,x2.D4,x2.B0,x2.B9,x2.B4,x2.B8⟩:=⟨e1,e2,b2.mV,b2.Ae,b2.target,b2.given⟩
 have dev:∀(w h:Bool),Ab ⟨x3.1,x3.2.1,x2.B3,x2.C1,x2.B6,x2.D4,x2.B0,x2.B9,w,h⟩=true:=λw hh=>by
  have id:∀{p:Prop},p->p:=λh=>h
  refine JJ (m:=m) (P:=P) h.mem e2 ?_ ?_ ?_ ?_ ?_ g5
  ·show _->BL x2.B3=true;rw[b7];exact id
  ·show _->BM x2.C1=true;rw[b8];exact id
  ·show _->r3 x2.B6 P=true;rw[b9];exact id
  ·show _->Ac x2.D4 P=true;rw[b10];exact id
  ·show _->BN x2.B0 P=true;rw[b11];exact id
 have hw:x2.B4=false:=b4
 have hh2:x2.B8=false:=b5.trans hh
 have CW:x2.B9=m.B9:=b6
 refine aa (λ_=>?_) λ_=>aa (λ_=>?_) λ_=>aa (λ_=>?_) λ_=>aa (λ_=>?_) λ_=>?_
 ·refine cf (Zz3 ZJ _ hk) λx4 h4=>?_
  obtain⟨k,u⟩:=h4
  have kc:x4.1.B2=x3.1:=k.oV
  have kt:x4.1.B9=m.B9:=k.uu.trans CW
  have kw:¬(x4.1.B4=true/\x4.1.B8=true):=λe=>by have:x4.1.B4=x2.B4:=k.wait;rw[this,hw]at e;cases e.1
  have km:nU x4.1.B2:=by rw[kc];exact f1
  refine aa (λhn=>ar (rc r1) ⟨bC _,?_⟩) (λ_=>⟨bC _,fin x4.1 k.ok km (k.dev (dev _ _)) kt kw⟩)
  have hn:x3.2.2.F9≠0:=by simpa using hn
  obtain⟨q,e⟩:∃q:Nat,x3.2.2.F9.toNat=q+1:=⟨x3.2.2.F9.toNat-1,by omega⟩
  refine fin ⟨⟨jg.of 0 (dB (jg.l x4.1.B2.X) x3.2.2.F9.toNat x4.2),x4.1.B2.Pc,x4.1.B2.C4⟩,x4.1.Mem,x4.1.B3,x4.1.C1,x4.1.B6,x4.1.D4,x4.1.B0,x4.1.B9,x4.1.B4,x4.1.B8⟩ ⟨⟨ZK k.ok.oV.x u _,k.ok.oV.pc,k.ok.oV.jK⟩,k.ok.mem,k.ok.mV,k.ok.Ae,k.ok.target,k.ok.given⟩ ⟨?_,km.st,km.en,km.rt,km.ve⟩ (k.dev (dev _ _)) kt kw
  show(jg.of 0 (dB (jg.l x4.1.B2.X) x3.2.2.F9.toNat x4.2)).a0=0
  rw[e]
  exact km.x0
 ·refine cf (Zt1 ZJ _ e3 _) λx5 h5=>?_
  obtain⟨k,u⟩:=h5
  have kc:x5.1.B2=x3.1:=k.oV
  exact⟨u,fin x5.1 k.ok (by rw[kc];exact f1) (k.dev (dev _ _)) (k.uu.trans CW) (λe=>by have:x5.1.B4=x2.B4:=k.wait;rw[this,hw]at e;cases e.1)⟩
 ·exact⟨bC _,fin ⟨x3.1,x3.2.1,x2.B3,x2.C1,x2.B6,x2.D4,x2.B0,x2.B9,true,x2.B8⟩ ⟨e1,e2,b2.mV,b2.Ae,b2.target,b2.given⟩ f1 (dev _ _) CW (λe=>by have e2:x2.B8=true:=e.2;rw[hh2]at e2;cases e2)⟩
 ·exact⟨bC _,fin ⟨x3.1,x3.2.1,x2.B3,x2.C1,x2.B6,x2.D4,x2.B0,x2.B9,x2.B4,true⟩ ⟨e1,e2,b2.mV,b2.Ae,b2.target,b2.given⟩ f1 (dev _ _) CW (λe=>by have e2:x2.B4=true:=e.1;rw[hw]at e2;cases e2)⟩
 ·exact⟨bC _,fin ⟨x3.1,x3.2.1,x2.B3,x2.C1,x2.B6,x2.D4,x2.B0,x2.B9,x2.B4,x2.B8⟩ ZJ f1 (dev _ _) CW (λe=>by have e2:x2.B4=true:=e.1;rw[hw]at e2;cases e2)⟩
theorem Mu(h:U a):(dR 32 a).toNat=a.toNat:=by
 obtain⟨h1,h2⟩:=h
 rw[dS];omega
theorem ZL{a b:Int}(ha:U a)(hb:U b):bm .u32 a b=((a.toNat&&&b.toNat:Nat):Int):=by
 have l:=(dR 32 a&&&dR 32 b).isLt
 have e:(dR 32 a&&&dR 32 b).toNat=a.toNat&&&b.toNat:=by rw[dU,Mu ha,Mu hb]
 show wrap .u32 ((dR 32 a&&&dR 32 b).toNat:Int)=_
 rw[wrap_u32,<-e];omega
theorem zaL{a b:Int}(ha:U a)(hb:U b):ja .u32 a b=((a.toNat|||b.toNat:Nat):Int):=by
 have l:=(dR 32 a|||dR 32 b).isLt
 have e:(dR 32 a|||dR 32 b).toNat=a.toNat|||b.toNat:=by rw[dT,Mu ha,Mu hb]
 show wrap .u32 ((dR 32 a|||dR 32 b).toNat:Int)=_
 rw[wrap_u32,<-e];omega
theorem ZM(ha:U a)(k:Nat)(hk:k<=32)(hq:q=((2^k-1:Nat):Int)):bm .u32 a q=a%2^k:=by
 have hp:2^k<=2^32:=dO (by decide) hk
 have h1:(2:Nat)^32=4294967296:=by decide
 have wa:=eA k
 subst hq
 rw[ZL ha ⟨by omega,by omega⟩,dX,Nat.and_two_pow_sub_one_eq_mod]
 have:=ha.1
 rw[Int.natCast_emod,eB this]
 simp
theorem m15(ha:U a):bm .u32 a 15=a%16:=ZM ha 4 (by decide) rfl
theorem CX(ha:U a):bm .u32 a 255=a%256:=ZM ha 8 (by decide) rfl
theorem JT(ha:U a):bm .u32 a 65535=a%65536:=ZM ha 16 (by decide) rfl
theorem FM(p:Int->Bool)(N:Nat)(h:(cW N).all (λn=>p n)=true){s:Int}(h0:0<=s)(h1:s<N):p s=true:=by
 have:=List.all_eq_true.1 h s.toNat (List.mem_range.2 (by omega))
 rwa [eB h0]at this
theorem Ju(h0: -9223372036854775808<=x)(h1:x<9223372036854775808):wrap .i64 x=x:=by rw[wrap_i64];omega
theorem Pv(a:Int):bn .u32 a 0=a:=by have:=EH (a:=a) 0 (by decide);simpa using this
theorem fld(w:Int):uw w 24 8=bm .u32 (bn .u32 w 24) 255/\uw w 20 4=bm .u32 (bn .u32 w 20) 15/\uw w 16 4=bm .u32 (bn .u32 w 16) 15/\uw w 0 16=bm .u32 (bn .u32 w 0) 65535/\uw w 8 8=bm .u32 (bn .u32 w 8) 255:=
 ⟨by kernel_rfl,by kernel_rfl,by kernel_rfl,by kernel_rfl,by kernel_rfl⟩
def CY(f:Int):AQ×Bool:=
 bif f==1 then(⟨false,false,false,0,0⟩,true)else bif f==2 then(⟨true,true,true,0,0⟩,true)else bif f==3 then(⟨true,true,false,-32768,32767⟩,true)
 else bif f==4 then(⟨true,true,false,0,65535⟩,true)else bif f==5 then(⟨true,true,false,0,31⟩,true)else bif f==6 then(⟨true,false,false,0,65535⟩,true)
 else bif f==7 then(⟨true,false,false,-32768,32767⟩,true)else bif f==8 then(⟨true,false,false,0,7⟩,true)else bif f==9 then(⟨true,false,false,0,11⟩,true)else(⟨false,false,false,0,0⟩,false)
def CZ(x y:AQ×Bool):Bool:=x.1.a==y.1.a&&x.1.b==y.1.b&&x.1.c==y.1.c&&x.1.low==y.1.low&&x.1.F6==y.1.F6&&x.2==y.2
theorem yK{x y:AQ×Bool}(h:CZ x y=true):x=y:=by
 obtain⟨⟨a,b,c,d,e⟩,f⟩:=x
 obtain⟨⟨a',b',c',d',e'⟩,f'⟩:=y
 simp only[CZ,aE,beq_iff_eq]at h
 obtain⟨⟨⟨⟨⟨rfl,rfl⟩,rfl⟩,rfl⟩,rfl⟩,rfl⟩:=h
 rfl
theorem xaa(h0:0<=op)(h1:op<256):Vk op=CY (pA op):=by
 exact yK (FM (λop=>CZ (Vk op) (CY (pA op))) 256 (by kernel_rfl) h0 h1)
theorem yg(h0:0<=op)(h1:op<256):pA op=0\/pA op=1\/pA op=2\/pA op=3\/pA op=4\/pA op=5\/pA op=6\/pA op=7\/pA op=8\/pA op=9:=by
 have:=oY (FM (λop=>decide (0<=pA op/\pA op<=9)) 256 (by kernel_rfl) h0 h1)
 omega
theorem qan(h0:0<=op)(h1:op<256):Pw op=Mv op:=by
 exact eq_of_beq (FM (λop=>Pw op==Mv op) 256 (by kernel_rfl) h0 h1)
theorem vK{a x y:Bool}:(cond a x y=true)↔((a=true/\x=true)\/(a=false/\y=true)):=by cases a<;>simp
theorem ZN{i:ig}(h0:0<=i.Op)(h1:i.Op<256)(hi:wrap .i64 i.cv=i.cv):JU i=FN i:=by
 rw[eC]
 simp only[JU,Px,Tree.m,eu,FN,Py,xaa h0 h1,hi]
 rcases yg h0 h1 with h|h|h|h|h|h|h|h|h|h<;>rw[h]<;>
 simp[CY,Mw,Vl,Mx,Vm,ZO,ZP,Tree.m,eu,vK]<;>omega
theorem ZQ(h0:0<=x)(h1:x<65536):wrap .i32 (EL x 16)=wrap .i32 (wrap .i16 x):=by
 have e:EL x 16=wrap .u32 (bn .i32 (wrap .i32 (ei .u32 x 16)) 16):=by kernel_rfl
 have e2:∀y,bn .i32 y 16=y/65536:=λy=>by
  show eD y 65536=_
  rw[dJ _ (by decide)]
 have e3:ei .u32 x 16=wrap .u32 (x*65536):=rfl
 have e4:wrap .i16 x=(x+32768)%65536-32768:=by
  simp[wrap,IntKind.bits,IntKind.signed]
  split<;>omega
 rw[e,e2,e3,e4]
 simp only[wrap_i32,wrap_u32]
 omega
theorem sx8(h0:0<=x)(h1:x<256):EL x 8=HE x 8:=by
 exact eq_of_beq (FM (λx=>EL x 8==HE x 8) 256 (by kernel_rfl) h0 h1)
theorem vg(hw:U w):Pz w=BQ w:=by
 obtain⟨f1,f2,f3,f4,_⟩:=fld w
 obtain⟨w0,w1⟩:=hw
 have u9:bn .u32 w 24=w/16777216:=by have:=EH (a:=w) 24 (by decide);simpa using this
 have s20:U (bn .u32 w 20):=Bf ⟨w0,w1⟩ _
 have BP:U (bn .u32 w 16):=Bf ⟨w0,w1⟩ _
 rw[CX (Bf ⟨w0,w1⟩ _),u9]at f1
 rw[m15 s20]at f2
 rw[m15 BP]at f3
 rw[Pv]at f4
 have g1:w/16777216%256=w/16777216:=by omega
 rw[g1]at f1
 have o0:0<=w/16777216:=by omega
 have o1:w/16777216<256:=by omega
 have eo:wrap .i64 (w/16777216)=w/16777216:=Ju (by omega) (by omega)
 have i32:∀x,wrap .i64 (wrap .i32 x)=wrap .i32 x:=λx=>by rw[wrap_i64,wrap_i32];omega
 have l0:=JT ⟨w0,w1⟩
 have lx:=ZQ (x:=bm .u32 w 65535) (by omega) (by omega)
 simp only[Pz,My,BQ,Mz,Tree.m,eu,f1,f2,f3,f4,u9,eo,xaa o0 o1,m15 s20,m15 BP,lx]
 generalize w/16777216=op at*
 generalize wrap .i64 (bn .u32 w 20%16)=a
 generalize wrap .i64 (bn .u32 w 16%16)=b
 generalize bm .u32 w 65535=l
 rw[ZN (i:=⟨op,a,b,wrap .i64 l,0⟩) o0 o1 rfl,ZN (i:=⟨op,a,b,0,wrap .i32 (wrap .i16 l)⟩) o0 o1 (i32 _),ZN (i:=⟨op,a,b,0,wrap .i32 l⟩) o0 o1 (i32 _)]
 rcases yg o0 o1 with h|h|h|h|h|h|h|h|h|h<;>rw[h]<;>rfl
theorem zan(x v:BitVec 32)(s:Nat)(hs:s<=24):((x&&&~~~(255#32<<<s))|||((v&&&255#32)<<<s)).toNat=2^(s+8)*(x.toNat/2^(s+8))+(2^s*(v.toNat%256)+x.toNat%2^s):=by
 have hx:=x.isLt
 have h1:x.toNat%2^s<2^s:=Nat.mod_lt _ (eA s)
 have h2:2^s*(v.toNat%256)+x.toNat%2^s<2^(s+8):=by
  have:v.toNat%256<256:=Nat.mod_lt _ (by decide)
  have h3:2^s*(v.toNat%256)<=2^s*255:=Nat.mul_le_mul_left _ (by omega)
  have:2^(s+8)=2^s*256:=by rw[Nat.pow_add]
  omega
 rw[eF h2,eF h1]
 apply eG
 intro i
 rw[BitVec.testBit_toNat]
 simp only[BitVec.getLsbD_or,BitVec.getLsbD_and,BitVec.getLsbD_not,BitVec.getLsbD_shiftLeft,Nat.testBit_or,Nat.testBit_two_pow_mul,eH,Nat.testBit_div_two_pow,BitVec.getLsbD_ofNat]
 have ZR:∀j,eI 255 j=decide (j<8):=λj=>by
  rw[show 255=2^8-1 from rfl,Nat.testBit_two_pow_sub_one]
 have ZS:∀n j,eI (n%256) j=(decide (j<8)&&eI n j):=λn j=>by
  rw[show 256=2^8 from rfl,eH]
 rw[ZR,ZS]
 by_cases hi:i<32
 ·by_cases a1:i<s
  ·have a2:¬(s<=i):=by omega
   have a3:¬(s+8<=i):=by omega
   simp[hi,a1,a2,a3,eJ]
  ·by_cases a4:s+8<=i
   ·have a2:¬(i-s<8):=by omega
    have a5:i-(s+8)+(s+8)=i:=by omega
    have a6:s<=i:=by omega
    simp[hi,a1,a2,a4,a5,a6,eJ]
   ·have a2:(i-s<8):=by omega
    have a6:s<=i:=by omega
    have a7:i-s<32:=by omega
    simp[hi,a1,a2,a4,a6,a7,eJ]
 ·have a0:x.toNat.testBit i=false:=Nat.testBit_lt_two_pow (Nat.lt_of_lt_of_le hx (dO (by decide) (by omega)))
  have a1:¬(i<s):=by omega
  have a2:¬(i-s<8):=by omega
  have a4:s+8<=i:=by omega
  have a5:i-(s+8)+(s+8)=i:=by omega
  simp[hi,a0,a1,a2,a4,a5]
theorem Zgu(b:BitVec 32):dR 32 (wrap .u32 (b.toNat:Int))=b:=by
 have:=b.isLt
 rw[wrap_u32]
 apply eK
 rw[dS];omega
theorem Zya(x:Int):dR 32 (wrap .u32 x)=dR 32 x:=by
 apply eK
 rw[dS,dS,wrap_u32]
 have:((2^32:Nat):Int)=4294967296:=by decide
 rw[this,Int.emod_emod_of_dvd _ (Int.dvd_refl _)]
theorem Zq7(hx:U x)(s:Nat)(hs:s<=32):dR 32 (ei .u32 x s)=dR 32 x<<<s:=by
 obtain⟨n,rfl⟩:∃n:Nat,x=n:=⟨x.toNat,by have:=hx.1;omega⟩
 have e:min (dA (s:Int)) u32.bits=s:=by show min (dA (s:Int)) 32=s;omega
 unfold ei
 rw[e,Zya]
 have e2:((n:Int)*2^s)=((n*2^s:Nat):Int):=by simp
 have:=hx.2
 rw[e2,eL,eL]
 apply eK
 rw[BitVec.toNat_shiftLeft,eM,eM,Nat.shiftLeft_eq,Nat.mod_mul_mod]
def wc(W v:Int)(s:Nat):Int:=ja .u32 (oA .u32 W (ei .u32 255 s)) (ei .u32 (bm .u32 v 255) s)
theorem xan(hW:U W)(hv:U v)(s:Nat)(hs:s<=24):wc W v s=2^(s+8)*(W/2^(s+8))+(2^s*(v%256)+W%2^s):=by
 have e:=zan (dR 32 W) (dR 32 v) s hs
 have l:=((dR 32 W&&&~~~(255#32<<<s))|||((dR 32 v&&&255#32)<<<s)).isLt
 have h1:dR 32 (oA .u32 W (ei .u32 255 s))=dR 32 W&&&~~~(255#32<<<s):=by
  show dR 32 (wrap .u32 (dR 32 W&&&~~~dR 32 (ei .u32 255 s)).toNat)=_
  rw[Zgu,Zq7 ⟨by decide,by decide⟩ s (by omega)]
  rfl
 have h2:dR 32 (ei .u32 (bm .u32 v 255) s)=(dR 32 v&&&255#32)<<<s:=by
  rw[Zq7 (JV _ _) s (by omega)]
  congr 1
  show dR 32 (wrap .u32 (dR 32 v&&&dR 32 255).toNat)=_
  rw[Zgu];rfl
 show wrap .u32 ((dR 32 (oA .u32 W (ei .u32 255 s))|||dR 32 (ei .u32 (bm .u32 v 255) s)).toNat:Int)=_
 rw[h1,h2]
 have lw:wrap .u32 ((((dR 32 W&&&~~~(255#32<<<s))|||((dR 32 v&&&255#32)<<<s)).toNat:Nat):Int)=(((dR 32 W&&&~~~(255#32<<<s))|||((dR 32 v&&&255#32)<<<s)).toNat:Nat):=by rw[wrap_u32];omega
 rw[lw,e,Mu hW,Mu hv]
 obtain⟨n,rfl⟩:∃n:Nat,W=n:=⟨W.toNat,by have:=hW.1;omega⟩
 obtain⟨k,rfl⟩:∃n:Nat,v=n:=⟨v.toNat,by have:=hv.1;omega⟩
 simp
def tw(w:Int)(k:Nat):Int:=if k=0 then w%256 else if k=1 then w/256%256 else if k=2 then w/65536%256 else w/16777216%256
def kv(m:List Int)(a:Nat):Int:=tw (m.getD (a/4) 0) (a%4)
theorem qh(w:Int)(k:Nat):0<=tw w k/\tw w k<256:=by
 unfold tw
 split
 ·omega
 ·split
  ·omega
  ·split<;>omega
theorem qao(hw:U w)(hv:U v)(h:∀k,k<4->tw w k=tw v k):w=v:=by
 have h0:=h 0 (by omega)
 have h1:=h 1 (by omega)
 have h2:=h 2 (by omega)
 have h3:=h 3 (by omega)
 simp[tw]at h0 h1 h2 h3
 obtain⟨a,b⟩:=hw
 obtain⟨c,d⟩:=hv
 omega
theorem ZT{m n:List Int}(hl:m.length=n.length)(hm:∀w∈m,U w)(hn:∀w∈n,U w)(h:∀a,kv m a=kv n a):m=n:=by
 refine bR hl λi h1 h2=>?_
 have e1:m[i]=m.getD i 0:=by simp[aV,h1]
 have e2:n[i]=n.getD i 0:=by simp[aV,h2]
 rw[e1,e2]
 refine qao (Bg hm i) (Bg hn i) λk hk=>?_
 have:=h (4*i+k)
 simp only[kv]at this
 rwa [show(4*i+k)/4=i by omega,show(4*i+k)%4=k by omega]at this
theorem Z10{l:List Int}{i:Nat}(h:i<l.length)(v:Int):(l.set i v).getD i 0=v:=by
 simp[aV,h]
theorem ZU{m:List Int}{i:Nat}(hi:i<m.length)(v:Int)(a:Nat):kv (m.set i v) a=if a/4=i then tw v (a%4)else kv m a:=by
 unfold kv
 split
 ·rename_i h;rw[h,Z10 hi]
 ·rename_i h;rw[Aa _ _ _ _ (λe=>h e.symm)]
theorem zao(hW:U W)(hv:U v){j:Nat}(hj:j<4)(hk:k<4):tw (wc W v (8*j)) k=if k=j then v%256 else tw W k:=by
 have h:=xan hW hv (8*j) (by omega)
 rw[h]
 obtain⟨w0,w1⟩:=hW
 have h0:0<=v%256:=by omega
 have h1:v%256<256:=by omega
 generalize v%256=b at*
 clear h
 have hj:j=0\/j=1\/j=2\/j=3:=by omega
 have hk:k=0\/k=1\/k=2\/k=3:=by omega
 rcases hj with rfl|rfl|rfl|rfl<;>rcases hk with rfl|rfl|rfl|rfl<;>simp[tw]<;>omega
theorem xao{m:List Int}(ha:U a):BR m a 1 v=m.set (a/4).toNat (wc (m.getD (a/4).toNat 0) v (8*(a%4).toNat)):=by
 obtain⟨a0,a1⟩:=ha
 have e1:wrap .u32 (eN a 4)=a/4:=by rw[wrap_u32,eO a0];omega
 have e2:wrap .u32 (8*cZ a 4)=((8*(a%4).toNat:Nat):Int):=by rw[wrap_u32,dZ a0];omega
 have e3:((1:Int)==4)=false:=rfl
 simp only[BR,JW,Tree.m,e1,e2,e3,cond_false]
 rfl
theorem xh{m:List Int}(h:dy P m)(ha:U a)(hl:a<128*P)(hv:U v):dy P (BR m a 1 v)/\∀b:Nat,kv (BR m a 1 v) b=if(b:Int)=a then v%256 else kv m b:=by
 have hlen:=h.len
 have a0:=ha.1
 rw[xao ha]
 have hi:(a/4).toNat<m.length:=by omega
 refine⟨⟨by rw[dC];exact hlen,h.p1,h.p2,EF h.u (nC _ _) _⟩,λb=>?_⟩
 rw[ZU hi]
 by_cases hb:b/4=(a/4).toNat
 ·rw[if_pos hb,zao (Bg h.u _) hv (by omega) (by omega)]
  by_cases hc:b%4=(a%4).toNat
  ·rw[if_pos hc,if_pos (by omega)]
  ·rw[if_neg hc,if_neg (by omega),kv,hb]
 ·rw[if_neg hb,if_neg (by omega)]
theorem qab{m:List Int}(h:dy P m)(f0:0<=frame)(f1:frame<P)(s:List UInt8):(PA m frame s).w (λr=>dy P r/\∀b:Nat,kv r b=if frame*128<=b/\(b:Int)<frame*128+min s.length 128 then((s.getD (b-frame*128).toNat 0).toNat:Int)else kv m b):=by
 unfold PA
 have h3:=h.p2
 refine ed (inv:=λz=>0<=z.1/\z.1<=min s.length 128/\dy P z.2/\∀b:Nat,kv z.2 b=if frame*128<=b/\(b:Int)<frame*128+z.1 then((s.getD (b-frame*128).toNat 0).toNat:Int)else kv m b) (μ:=Qut m frame s) ⟨show(0:Int)<=0 by decide,by show(0:Int)<=_;omega,h,λb=>by rw[if_neg];show¬(_/\_<_+(0:Int));omega⟩ (cN _) (λv0 BK=>?_)
 obtain⟨i,mm⟩:=v0
 obtain⟨i0,i1,hm,hy⟩:=BK
 have i0:0<=i:=i0
 have i1:i<=min s.length 128:=i1
 have hm:dy P mm:=hm
 have fin:∀r:List Int,r=mm->i=min s.length 128->dy P r/\∀b:Nat,kv r b=if frame*128<=b/\(b:Int)<frame*128+min s.length 128 then((s.getD (b-frame*128).toNat 0).toNat:Int)else kv m b:=λr hr hi=>by
  subst hr;refine⟨hm,λb=>?_⟩
  rw[hy b];simp only[hi]
 refine aa (λh1=>aa (λh2=>ar ?_ ?_) (λh2=>fin mm rfl ?_)) (λh1=>fin mm rfl ?_)
 ·have:=oY h1
  simp[bN];omega
 ·have h1:i<s.length:=oY h1
  have h2:i<128:=oY h2
  have e:wrap u32 (wrap i64 (wrap i64 (frame*128)+i))=frame*128+i:=by
   rw[wrap_u32,wrap_i64,wrap_i64];omega
  show(Tree.an (Vn mm (wrap u32 (wrap i64 (wrap i64 (frame*128)+i))) 1 _) (Tree.lv _ _)).w _
  rw[e]
  have hu:U (frame*128+i):=⟨by omega,by omega⟩
  have hvU:∀n:Nat,U (wrap .u32 (n:Int)):=λn=>fv _
  obtain⟨g1,_⟩:=Tree.pp (HF hm (size:=1) (addr:=frame*128+i) hu (by rw[hm.len];omega) (hvU (eQ (s.getD i.toNat 0))))
  obtain⟨g2,g3⟩:=xh hm hu (by omega) (hvU (eQ (s.getD i.toNat 0)))
  refine bz g1 (ai λx0 nT=>?_)
  rw[nT]
  have ew:i64.wrap (i+1)=i+1:=by rw[wrap_i64];omega
  refine dj ?_
  show(0<=i64.wrap (i+1)/\i64.wrap (i+1)<=min s.length 128/\dy P _/\∀b:Nat,kv _ b=if frame*128<=b/\(b:Int)<frame*128+i64.wrap (i+1)then _ else _)/\(128-i64.wrap (i+1)).toNat<(128-i).toNat
  rw[ew]
  refine⟨⟨by omega,by omega,g2,λb=>?_⟩,by omega⟩
  rw[show BR mm (frame*128+i) 1 _=_ from rfl,g3 b]
  by_cases hb:(b:Int)=frame*128+i
  ·rw[if_pos hb,if_pos (by omega),wrap_u32]
   have:=(s.getD i.toNat 0).toNat_lt
   rw[show(b-frame*128).toNat=i.toNat by omega];omega
  ·rw[if_neg hb,hy b]
   show(if frame*128<=(b:Int)/\(b:Int)<frame*128+i then _ else _)=_
   by_cases hc:frame*128<=(b:Int)/\(b:Int)<frame*128+i
   ·rw[if_pos hc,if_pos (by omega)]
   ·rw[if_neg hc,if_neg (by omega)]
 ·have h1:i<s.length:=oY h1
  have h2:¬i<128:=oN h2
  omega
 ·have h1:¬i<s.length:=oN h1
  omega
theorem zh{x y:Int}(hx:U x)(hy:U y)(k:Nat)(hk:x<2^k)(h:x+y*2^k<4294967296):ja .u32 x (y*2^k)=x+y*2^k:=by
 obtain⟨n,rfl⟩:∃n:Nat,x=n:=⟨x.toNat,by have:=hx.1;omega⟩
 obtain⟨z,rfl⟩:∃n:Nat,y=n:=⟨y.toNat,by have:=hy.1;omega⟩
 have e:((z:Int)*2^k)=((z*2^k:Nat):Int):=by simp
 rw[e]at h⊢
 have hn:n<2^k:=by exact_mod_cast hk
 rw[zaL hx ⟨by omega,by omega⟩,dX,dX,Nat.or_comm,Nat.mul_comm,<-eF hn]
 omega
theorem four{a b c d:Int}(ha:0<=a/\a<256)(hb:0<=b/\b<256)(hc:0<=c/\c<256)(hd:0<=d/\d<256):ja .u32 (ja .u32 (ja .u32 (wrap .u32 a) (ei .u32 (wrap .u32 b) 8)) (ei .u32 (wrap .u32 c) 16)) (ei .u32 (wrap .u32 d) 24)=a+b*2^8+c*2^16+d*2^24:=by
 have w:∀{x:Int},0<=x/\x<256->wrap .u32 x=x:=λhx=>by rw[wrap_u32];omega
 have s8:∀{x:Int},0<=x/\x<256->ei .u32 x 8=x*2^8:=fun{x} hx=>by show wrap .u32 (x*2^8)=_;rw[wrap_u32];omega
 have BP:∀{x:Int},0<=x/\x<256->ei .u32 x 16=x*2^16:=fun{x} hx=>by show wrap .u32 (x*2^16)=_;rw[wrap_u32];omega
 have u9:∀{x:Int},0<=x/\x<256->ei .u32 x 24=x*2^24:=fun{x} hx=>by show wrap .u32 (x*2^24)=_;rw[wrap_u32];omega
 rw[w ha,w hb,w hc,w hd,s8 hb,BP hc,u9 hd]
 rw[zh ⟨by omega,by omega⟩ ⟨by omega,by omega⟩ 8 (by omega) (by omega),zh ⟨by omega,by omega⟩ ⟨by omega,by omega⟩ 16 (by omega) (by omega),zh ⟨by omega,by omega⟩ ⟨by omega,by omega⟩ 24 (by omega) (by omega)]
theorem qL{a b c d:Int}(ha:0<=a/\a<256)(hb:0<=b/\b<256)(hc:0<=c/\c<256)(hd:0<=d/\d<256)(k:Nat)(hk:k<4):tw (a+b*2^8+c*2^16+d*2^24) k=if k=0 then a else if k=1 then b else if k=2 then c else d:=by
 have hk:k=0\/k=1\/k=2\/k=3:=by omega
 rcases hk with rfl|rfl|rfl|rfl<;>simp[tw]<;>omega
theorem ZV{m:List Int}(h:dy P m)(f:Int):FE m f=decide (0<=f/\f<P):=by
 have hp:=uv h
 simp only[FE,Md,Tree.m,eu,hp]
 by_cases h1:0<=f
 ·rw[dY h1];simp[h1]
 ·rw[dN h1];simp[h1]
theorem xL(s:List UInt8)(a b k:Nat)(h:k<b):(cU b (cV a s)).getD k 0=s.getD (a+k) 0:=by
 simp[cX,aF,h]
theorem HG(x:UInt8):0<=(x.toNat:Int)/\(x.toNat:Int)<256:=by have:=x.toNat_lt;omega
theorem Vo{m:List Int}(h:dy P m)(f0:0<=f)(f1:f<P)(hs:s.length=128):(JG m f s).w (λr=>r.2=true/\dy P r.1/\∀b:Nat,kv r.1 b=if f*128<=b/\(b:Int)<f*128+128 then((s.getD (b-f*128).toNat 0).toNat:Int)else kv m b):=by
 have jH:kU m=m:=rfl
 have h2:=h.p2
 unfold JG
 refine bz (Hy h) (ai λx0 nT=>ai λx1 pP=>?_)
 rw[jH]at nT;subst nT
 rw[ZV h,dY ⟨f0,f1⟩]at pP
 subst pP
 refine aa (λhb=>by cases hb) λ_=>aa (λhb=>by simp[hs]at hb) λ_=>?_
 refine ed (inv:=λz:Int×List Int=>0<=z.1/\z.1<=32/\dy P z.2/\∀b:Nat,kv z.2 b=if f*128<=b/\(b:Int)<f*128+4*z.1 then((s.getD (b-f*128).toNat 0).toNat:Int)else kv x0 b) (μ:=ZA x0 f s) ⟨show(0:Int)<=0 by decide,show(0:Int)<=32 by decide,h,λb=>by rw[if_neg];show¬(_/\_<_+4*(0:Int));omega⟩ (cN _) λz ⟨z1,z2,z3,z4⟩=>?_
 refine aa (λhb=>?_) (λhb=>⟨rfl,z3,λb=>?_⟩)
 ·have hb:=oY hb
  have e1:i64.wrap (4*z.1)=4*z.1:=by rw[wrap_i64];omega
  have e2:i64.wrap (i64.wrap (4*z.1)+4)=4*z.1+4:=by rw[wrap_i64,wrap_i64];omega
  have e3:i64.wrap (i64.wrap (f*32)+z.1)=f*32+z.1:=by rw[wrap_i64,wrap_i64];omega
  have hl:=z3.len
  have cut:dA (i64.wrap (i64.wrap (4*z.1)+4))-dA (i64.wrap (4*z.1))=4:=by rw[e2,e1];omega
  have hlen:(cU (dA (i64.wrap (i64.wrap (4*z.1)+4))-dA (i64.wrap (4*z.1))) (cV (dA (i64.wrap (4*z.1))) s)).length=4:=by
   rw[cut,e1,aD,aG];omega
  refine ar (dY (by rw[e2,e1];omega)) ?_
  refine ar (dY (by rw[hlen];decide)) (ar (dY (by rw[hlen];decide)) (ar (dY (by rw[hlen];decide)) (ar (dY (by rw[hlen];decide)) (ar (by rw[e3];simp[bN];omega) (dj ?_)))))
  have ew:i64.wrap (z.1+1)=z.1+1:=by rw[wrap_i64];omega
  rw[cut]
  refine⟨⟨by show 0<=i64.wrap (z.1+1);rw[ew];omega,by show i64.wrap (z.1+1)<=32;rw[ew];omega,?_,?_⟩,by show(32-i64.wrap (z.1+1)).toNat<(32-z.1).toNat;rw[ew];omega⟩
  ·show dy P (dB _ _ _)
   exact⟨by rw[dC];exact hl,z3.p1,z3.p2,EF z3.u (nC _ _) _⟩
  ·intro b
   show kv (dB z.2 (dA (i64.wrap (i64.wrap (f*32)+z.1))) _) b=if f*128<=(b:Int)/\(b:Int)<f*128+4*i64.wrap (z.1+1)then _ else _
   rw[e3,ew,four (HG _) (HG _) (HG _) (HG _),ZU (by omega)]
   have g:∀k:Nat,k<4->(cU 4 (cV (dA (i64.wrap (4*z.1))) s)).getD k 0=s.getD ((4*z.1).toNat+k) 0:=λk hk=>by rw[e1];exact xL _ _ _ _ hk
   by_cases hc:b/4=(f*32+z.1).toNat
   ·have Vp:f*128<=(b:Int)/\(b:Int)<f*128+4*(z.1+1):=by omega
    rw[if_pos hc,qL (HG _) (HG _) (HG _) (HG _) _ (by omega),if_pos Vp]
    have hb4:b%4=0\/b%4=1\/b%4=2\/b%4=3:=by omega
    have gi:(b-f*128).toNat=(4*z.1).toNat+b%4:=by omega
    rw[gi]
    rcases hb4 with h4|h4|h4|h4<;>rw[h4]
    ·rw[if_pos rfl,<-g 0 (by omega)];rfl
    ·rw[if_neg (by decide),if_pos rfl,<-g 1 (by omega)];rfl
    ·rw[if_neg (by decide),if_neg (by decide),if_pos rfl,<-g 2 (by omega)];rfl
    ·rw[if_neg (by decide),if_neg (by decide),if_neg (by decide),<-g 3 (by omega)];rfl
   ·rw[if_neg hc,z4 b]
    by_cases hd:f*128<=(b:Int)/\(b:Int)<f*128+4*z.1
    ·rw[if_pos hd,if_pos (by omega)]
    ·rw[if_neg hd,if_neg (by omega)]
 ·have hb:=oN hb
  show kv z.2 b=_
  rw[z4 b,show z.1=32 by omega]
  rfl
theorem Zw5{α:Type}(l l2:List α)(k:Nat)(z:α):(l++l2).getD k z=if k<l.length then l.getD k z else l2.getD (k-l.length) z:=by
 simp only[cX,List.getElem?_append]
 split<;>rfl
theorem u8w:wrap .u8 x=x%256:=wrap_u8 x
theorem HH(W:Int):bn .u32 W 8=W/256/\bn .u32 W 16=W/65536/\bn .u32 W 24=W/16777216:=by
 refine⟨?_,?_,?_⟩
 ·show eD W 256=_;rw[dJ _ (by decide)]
 ·show eD W 65536=_;rw[dJ _ (by decide)]
 ·show eD W 16777216=_;rw[dJ _ (by decide)]
theorem b4d(W:Int)(hk:k<4):[wrap .u8 W,wrap .u8 (bn .u32 W 8),wrap .u8 (bn .u32 W 16),wrap .u8 (bn .u32 W 24)].getD k 0=tw W k:=by
 obtain⟨a,b,c⟩:=HH W
 have hk:k=0\/k=1\/k=2\/k=3:=by omega
 rcases hk with rfl|rfl|rfl|rfl<;>simp[tw,a,b,c,u8w]
theorem ZW(l:List Int)(k:Nat)(h:0<=l.getD k 0/\l.getD k 0<256)(hk:k<l.length):(((bytesOf l).getD k 0).toNat:Int)=l.getD k 0:=by
 have e:(bytesOf l).getD k 0=eR (l.getD k 0).toNat:=by
  simp[bytesOf,cX,hk]
 rw[e,UInt8.toNat_ofNat']
 omega
theorem Zt2(l:List UInt8)(k:Nat)(hk:k<l.length):(pQ l).getD k 0=((l.getD k 0).toNat:Int):=by
 simp[pQ,cX,hk]
theorem xaL(w:List Int)(h:w.length<=32):(Q6 w).w (λr=>r.length=4*w.length/\∀k:Nat,k<4*w.length->((r.getD k 0).toNat:Int)=tw (w.getD (k/4) 0) (k%4)):=by
 have e0:i64.wrap (4*(w.length:Int))=4*w.length:=by rw[wrap_i64];omega
 unfold Q6
 refine ar (by rw[e0];simp[bN,D.plain];omega) ?_
 refine ed (inv:=λz:Int×List Int=>0<=z.1/\z.1<=w.length/\(z.2.length:Int)=4*z.1/\∀k:Nat,(k:Int)<4*z.1->z.2.getD k 0=tw (w.getD (k/4) 0) (k%4)) (μ:=Pd w) ⟨by decide,by show(0:Int)<=w.length;omega,rfl,λk hk=>by have hk:(k:Int)<4*0:=hk;omega⟩ (cN _) λz ⟨z1,z2,z3,z4⟩=>?_
 refine aa (λhb=>?_) (λhb=>?_)
 ·have hb:=oY hb
  have ew:i64.wrap (z.1+1)=z.1+1:=by rw[wrap_i64];omega
  refine ar (by simp[bN];omega) (ar (dY (by omega)) (dj ?_))
  show(_/\_/\_/\∀k:Nat,(k:Int)<4*i64.wrap (z.1+1)->(z.2++_).getD k 0=_)/\(_:Nat)<_
  refine⟨⟨by rw[ew];omega,by rw[ew];omega,by rw[ew,lA];simp only[dD,dE];omega,λk hk=>?_⟩,by show(w.length-i64.wrap (z.1+1)).toNat<(w.length-z.1).toNat;rw[ew];omega⟩
  rw[ew]at hk
  rw[Zw5]
  split
  ·exact z4 k (by omega)
  ·rename_i hn
   rw[b4d _ (by omega),show z.1.toNat=k/4 by omega,show k-z.2.length=k%4 by omega]
 ·have hb:=oN hb
  show(bytesOf z.2).length=_/\∀k:Nat,_->(((bytesOf z.2).getD k 0).toNat:Int)=_
  refine⟨by rw[Pe];omega,λk hk=>?_⟩
  have e:=z4 k (by omega)
  have:=qh (w.getD (k/4) 0) (k%4)
  rw[ZW _ _ (by rw[e];exact this) (by omega),e]
def Da(m:List Int)(f:Int)(r:List UInt8):Prop:=r.length=128/\∀k:Nat,k<128->((r.getD k 0).toNat:Int)=kv m ((f*128).toNat+k)
theorem yh{m:List Int}{r s:List UInt8}(a:Da m f r)(b:Da m f s):r=s:=by
 obtain⟨a1,a2⟩:=a
 obtain⟨b1,b2⟩:=b
 refine bR (by omega) λi h1 h2=>?_
 have e:=(a2 i (by omega)).trans (b2 i (by omega)).symm
 have e1:r[i]=r.getD i 0:=by simp[aV,h1]
 have e2:s[i]=s.getD i 0:=by simp[aV,h2]
 rw[e1,e2]
 exact UInt8.toNat_inj.1 (by omega)
theorem vh{m:List Int}(h:dy P m)(f0:0<=f)(f1:f<P):(EG m f).w (λr=>Da m f r.1/\r.2=true):=by
 have hl:=h.len
 have h2:=h.p2
 unfold EG
 refine ai λx0 nT=>?_
 rw[ZV h,dY ⟨f0,f1⟩]at nT
 subst nT
 refine aa (λhb=>by cases hb) (λhb=>?_)
 have e1:i64.wrap (f*32)=f*32:=by rw[wrap_i64];omega
 have e2:i64.wrap (i64.wrap (f*32)+32)=f*32+32:=by rw[wrap_i64,wrap_i64];omega
 have cut:dA (i64.wrap (i64.wrap (f*32)+32))-dA (i64.wrap (f*32))=32:=by rw[e2,e1];omega
 have hlen:(cU 32 (cV (dA (i64.wrap (f*32))) m)).length=32:=by
  rw[e1,aD,aG];omega
 refine ar (by rw[e2,e1];simp[bN];omega) ?_
 rw[cut]
 refine bz (by show dF _<=1000000000000;rw[hlen];decide) (ai λx1 h1=>?_)
 have t:=(Tree.pp (xaL _ (dG hlen))).2
 rw[hlen,show(Q6 (cU 32 (cV (dA (i64.wrap (f*32))) m))).m=x1 from h1.symm]at t
 refine⟨⟨t.1,λk hk=>?_⟩,rfl⟩
 show((x1.getD k 0).toNat:Int)=_
 rw[t.2 k hk,kv,e1]
 have g:(cU 32 (cV (dA (f*32)) m)).getD (k/4) 0=m.getD ((f*32).toNat+k/4) 0:=by
  simp[cX,aF,show k/4<32 by omega]
 rw[g,show((f*128).toNat+k)/4=(f*32).toNat+k/4 by omega,show((f*128).toNat+k)%4=k%4 by omega]
theorem qaM(x:Int):ZX x 4=bytesOf [wrap .u8 (bn .u32 x 0),wrap .u8 (bn .u32 x 8),wrap .u8 (bn .u32 x 16),wrap .u8 (bn .u32 x 24)]:=by kernel_rfl
theorem ZY{m:List Int}(hm:dy P m)(f0:0<=frame)(f1:frame<P):(HI m frame).w (λr=>Da m frame r.1/\r.2=true):=by
 have hp:=EM hm
 have hl:=hm.len
 have h2:=hm.p2
 unfold HI
 refine aa (λh=>by have:=oY h;omega) (λh=>ai λx0 hx=>aa (λh1=>by have:=oY h1;rw[hx,hp]at this;omega) (λh1=>?_))
 refine ed (inv:=λz:Int×List Int=>0<=z.1/\z.1<=32/\(z.2.length:Int)=4*z.1/\∀k:Nat,(k:Int)<4*z.1->z.2.getD k 0=kv m ((frame*128).toNat+k)) (μ:=ZZ m frame) ⟨by decide,by decide,rfl,λk hk=>by have hk:(k:Int)<4*0:=hk;omega⟩ (cN _) (λz hz=>?_)
 obtain⟨z1,z2,z3,z4⟩:=hz
 refine aa (λhb=>?_) (λhb=>?_)
 ·have hb:=oY hb
  have e:wrap i64 (wrap i64 (frame*32)+z.1)=frame*32+z.1:=by rw[wrap_i64,wrap_i64];omega
  refine ar (by rw[e];simp[bN];omega) (bz (show(4:Int)<=1000000000000 by decide) (ai λx1 h4=>?_))
  rw[qaM,Pv,e]at h4
  have l4:x1.length=4:=by rw[h4];rfl
  refine ar (dY (by rw[Vq,l4];omega)) (dj ?_)
  show(0<=i64.wrap (z.1+1)/\i64.wrap (z.1+1)<=32/\((z.2++pQ x1).length:Int)=4*i64.wrap (z.1+1)/\∀k:Nat,(k:Int)<4*i64.wrap (z.1+1)->(z.2++pQ x1).getD k 0=_)/\(32-i64.wrap (z.1+1)).toNat<(32-z.1).toNat
  have ew:i64.wrap (z.1+1)=z.1+1:=by rw[wrap_i64];omega
  rw[ew]
  refine⟨⟨by omega,by omega,by rw[lA,Vq,l4];omega,λk hk=>?_⟩,by omega⟩
  rw[Zw5]
  split
  ·exact z4 k (by omega)
  ·rename_i hn
   have EN:k-z.2.length<4:=by omega
   rw[Zt2 _ _ (by omega),h4]
   have d:=b4d (m.getD (frame*32+z.1).toNat 0) EN
   rw[ZW _ _ (by rw[d];exact qh _ _) (by simpa using EN),d,kv]
   rw[show((frame*128).toNat+k)/4=(frame*32+z.1).toNat by omega,show((frame*128).toNat+k)%4=k-z.2.length by omega]
 ·have hb:=oN hb
  refine⟨⟨?_,λk hk=>?_⟩,rfl⟩
  ·show(bytesOf z.2).length=128
   rw[Pe];omega
  ·show(((bytesOf z.2).getD k 0).toNat:Int)=_
   have e:=z4 k (by omega)
   rw[ZW _ _ (by rw[e];exact qh _ _) (by omega),e]
theorem Vr{m:List Int}(h:dy P m)(f:Int):jO m f=EO m f:=by
 by_cases hf:0<=f/\f<P
 ·have a:=(Tree.pp (vh h hf.1 hf.2)).2
  have b:=(Tree.pp (ZY h hf.1 hf.2)).2
  exact Prod.ext (yh a.1 b.1) (a.2.trans b.2.symm)
 ·have hp:=EM h
  have e1:jO m f=([],false):=by
   simp only[jO,EG,Tree.m,eu,ZV h,dN hf];rfl
  have e2:EO m f=([],false):=by
   simp only[EO,HI,Tree.m,eu,hp]
   by_cases h0:f<0
   ·rw[dY h0];rfl
   ·rw[dN h0,dY (show f>=P by omega)];rfl
  rw[e1,e2]
section
variable {P:Nat} {m:List Int} (h:dy P m)
include h
theorem Zqb(f0:0<=f)(f1:f<P)(hs:s.length=128):pR m f s=(PB m f s,true):=by
 have a:=(Tree.pp (Vo h f0 f1 hs)).2
 have b:=(Tree.pp (qab h f0 f1 s)).2
 refine Prod.ext (ZT (a.2.1.len.trans b.1.len.symm) a.2.1.u b.1.u λk=>?_) a.1
 have e:((min s.length 128:Nat):Int)=128:=by rw[hs];rfl
 have b2:=b.2 k
 have a2:=a.2.2 k
 rw[e]at b2
 exact a2.trans b2.symm
theorem PC(ha:U a)(hs:size=1\/size=4):we m a size=decide (a%size=0/\a<128*P):=by
 have hq:=EM h
 have h2:=h.p2
 have a0:=ha.1
 have e:wrap u32 size=size:=by rcases hs with rfl|rfl<;>decide
 have e0:decide (wrap u32 size≠0)=true:=by rcases hs with rfl|rfl<;>decide
 have t:cZ a (wrap u32 size)=a%size:=by rw[e,dZ a0]
 have l:∀x,x=oW m->a%size=0->decide (a<wrap u32 (wrap i64 (128*x)))=decide (a%size=0/\a<128*P):=λx hx hz=>by
  rw[hx,hq,wrap_u32,wrap_i64]
  exact decide_eq_decide.2 ⟨λh=>⟨hz,by omega⟩,λh=>by omega⟩
 refine Tree.post (JX m a size) (W:=λb=>b=decide (a%size=0/\a<128*P)) ?_
 unfold JX
 refine aa (λh1=>aa (λh4=>?_) (λ_=>?_)) (λ_=>?_)
 ·have h1:¬size=1:=by simpa using h1
  have h4:¬size=4:=by simpa using h4
  omega
 all_goals
  refine ar e0 (aa (λhb=>ai λx hx=>l x hx ?_) (λhb=>?_))
  ·rw[t]at hb;exact eq_of_beq hb
  ·rw[t]at hb
   exact(dN (λh=>by rw[h.1]at hb;cases hb)).symm
theorem Z9m(ha:U a)(hs:size=1\/size=4):Qkp m a size=we m a size:=by
 rw[PC h ha hs]
 have hq:=Ze4 h
 have h2:=h.p2
 have a0:=ha.1
 have a1:=ha.2
 have e:wrap u32 size=size:=by rcases hs with rfl|rfl<;>decide
 have e0:decide (wrap u32 size≠0)=true:=by rcases hs with rfl|rfl<;>decide
 have t:cZ a (wrap u32 size)=a%size:=by rw[e,dZ a0]
 have l:∀x,x=jX m->a%size=0->decide (wrap u64 (wrap u64 a+wrap u64 size)<=wrap u64 (wrap u64 x*128))=decide (a%size=0/\a<128*P):=λx hx hz=>by
  rw[hx,hq]
  simp only[wrap_u64]
  refine decide_eq_decide.2 ⟨λh=>⟨hz,?_⟩,λh=>?_⟩<;>rcases hs with rfl|rfl<;>omega
 refine Tree.post (JY m a size) (W:=λb=>b=decide (a%size=0/\a<128*P)) ?_
 unfold JY
 refine aa (λh1=>aa (λh4=>?_) (λ_=>?_)) (λ_=>?_)
 ·have h1:¬size=1:=by simpa using h1
  have h4:¬size=4:=by simpa using h4
  omega
 all_goals
  refine ar e0 (aa (λhb=>?_) (λhb=>ai λx hx=>l x hx ?_))
  ·rw[t]at hb
   exact(dN (λh=>by rw[h.1]at hb;cases hb)).symm
  ·rw[t]at hb;simpa using hb
end
theorem Jaa(w:Int):uw w 0 8=bm .u32 (bn .u32 w 0) 255/\uw w 8 8=bm .u32 (bn .u32 w 8) 255/\uw w 16 8=bm .u32 (bn .u32 w 16) 255/\uw w 24 8=bm .u32 (bn .u32 w 24) 255:=
 ⟨by kernel_rfl,by kernel_rfl,by kernel_rfl,by kernel_rfl⟩
theorem Jab(w v:Int):MA w 0 8 v=wc w v 0/\MA w 8 8 v=wc w v 8/\MA w 16 8 v=wc w v 16/\MA w 24 8 v=wc w v 24:=
 ⟨by kernel_rfl,by kernel_rfl,by kernel_rfl,by kernel_rfl⟩
theorem qi(ha:U a):wrap .i64 (wrap .i64 (cZ a 4)*8)=8*(a%4)/\wrap .u32 (8*cZ a 4)=8*(a%4):=by
 obtain⟨a0,a1⟩:=ha
 rw[dZ a0]
 exact⟨by rw[wrap_i64,wrap_i64];omega,by rw[wrap_u32];omega⟩
section
variable {P:Nat} {m:List Int} (h:dy P m)
include h
theorem PD(ha:U a)(hs:size=1\/size=4):Db m a size=pB m a size:=by
 have e:=Z9m h ha hs
 obtain⟨s1,s2⟩:=qi ha
 have f:uw (m.getD (dA (wrap .u32 (eN a 4))) 0) (8*(a%4)) 8=bm .u32 (bn .u32 (m.getD (dA (wrap .u32 (eN a 4))) 0) (8*(a%4))) 255:=by
  obtain⟨f0,f1,f2,f3⟩:=Jaa (m.getD (dA (wrap .u32 (eN a 4))) 0)
  have:a%4=0\/a%4=1\/a%4=2\/a%4=3:=by omega
  rcases this with h|h|h|h<;>rw[h]
  ·exact f0
  ·exact f1
  ·exact f2
  ·exact f3
 simp only[Db,MB,pB,EP,Tree.m,eu,e,s1,s2,f]
omit h in
theorem Zli(a size:Int):(pB m a size).2=we m a size:=by
 simp only[pB,EP,Tree.m,eu]
 cases we m a size
 ·rfl
 ·cases size==1<;>rfl
theorem Zgt(ha:U a)(hs:size=1\/size=4)(v:Int):MC m a size v=bif we m a size then(BR m a size v,true)else(m,false):=by
 have jH:kU m=m:=rfl
 have e:=Z9m h ha hs
 obtain⟨s1,s2⟩:=qi ha
 have f:∀w,MA w (8*(a%4)) 8 v=ja .u32 (oA .u32 w (ei .u32 255 (8*(a%4)))) (ei .u32 (bm .u32 v 255) (8*(a%4))):=λw=>by
  obtain⟨f0,f1,f2,f3⟩:=Jab w v
  have:a%4=0\/a%4=1\/a%4=2\/a%4=3:=by omega
  rcases this with h|h|h|h<;>rw[h]
  ·exact f0
  ·exact f1
  ·exact f2
  ·exact f3
 simp only[MC,MD,BR,JW,Tree.m,eu,jH,e,s1,s2,f]
 rcases hs with rfl|rfl<;>cases we m a _<;>rfl
end
section
variable {P:Nat} {m:List Int} (h:dy P m)
include h
theorem xi{root va:Int}(hr:U root)(hv:U va)(ha:access=1\/access=2\/access=3):Qm m root va access=Bh m root va access:=by
 have hp:=EM h
 have h2:=h.p2
 have hlen:=h.len
 obtain⟨r1,r2⟩:=hr
 obtain⟨v1,v2⟩:=hv
 have JI:∀{f:Int},U f->PE m f=decide (f<P):=λhf=>yY h hf
 have eP:wrap .u32 (P:Int)=P:=by rw[wrap_u32];omega
 have kn:PF access=true:=by rcases ha with rfl|rfl|rfl<;>rfl
 have ca:Qpb access=(Dc access,true):=by rcases ha with rfl|rfl|rfl<;>rfl
 simp only[Qm,ME,Bh,HJ,Tree.m,eu,hp,eP,kn,ca,JI ⟨r1,r2⟩]
 by_cases c1:va>=4096
 ·rw[dY c1];rfl
 by_cases c2:root<P
 ·have eE:wrap u32 (wrap u32 (root*128)+wrap u32 (4*wrap u32 (eN va 128)))=root*128+4*(va/128):=by
   rw[eO v1,wrap_u32,wrap_u32,wrap_u32,wrap_u32];omega
  have hE:U (root*128+4*(va/128)):=⟨by omega,by omega⟩
  have wi:we m (root*128+4*(va/128)) 4=true:=by
   rw[PC h hE (.inr rfl)];exact dY ⟨by omega,by omega⟩
  rw[dN c1,dY c2,dN (show¬root>=P by omega),eE,PD h hE (.inr rfl),Zli,wi]
  have ld:(pB m (root*128+4*(va/128)) 4).1=m.getD (dA (wrap .u32 (eN (root*128+4*(va/128)) 4))) 0:=by
   simp only[pB,EP,Tree.m,eu,wi];rfl
  rw[ld]
  generalize m.getD (dA (wrap .u32 (eN (root*128+4*(va/128)) 4))) 0=w
  have fo:Qi6 w=bm .u32 (bn .u32 w 8) 255:=(fld w).2.2.2.2
  rw[fo,JI (JV _ _)]
  have e6:decide (bm .u32 (bn .u32 w 8) 255>=(P:Int))=!decide (bm .u32 (bn .u32 w 8) 255<(P:Int)):=by
   by_cases hq:bm .u32 (bn .u32 w 8) 255<(P:Int)
   ·rw[dY hq,dN (by omega)];rfl
   ·rw[dN hq,dY (by omega)];rfl
  rw[e6]
  generalize decide (bm .u32 (bn .u32 w 8) 255<(P:Int))=d
  rcases ha with rfl|rfl|rfl
  ·show _=(bif bm .u32 w 1==0 then _ else bif bm .u32 w 4==0 then _ else bif !d then _ else _)
   have:Vs w 1=(bif bm .u32 w 1==0 then false else !(bm .u32 w 4==0)):=rfl
   rw[this]
   cases bm .u32 w 1==0<;>cases bm .u32 w 4==0<;>cases d<;>rfl
  ·show _=(bif bm .u32 w 1==0 then _ else bif !d then _ else _)
   have:Vs w 2=(bif bm .u32 w 1==0 then false else true):=rfl
   rw[this]
   cases bm .u32 w 1==0<;>cases d<;>rfl
  ·show _=(bif bm .u32 w 1==0 then _ else bif bm .u32 w 2==0 then _ else bif !d then _ else _)
   have:Vs w 3=(bif bm .u32 w 1==0 then false else !(bm .u32 w 2==0)):=rfl
   rw[this]
   cases bm .u32 w 1==0<;>cases bm .u32 w 2==0<;>cases d<;>rfl
 ·rw[dN c1,dN c2,dY (show root>=P by omega)];rfl
theorem Zx1(ha:U a)(access:Int):PG m a access=Vt m a access:=by
 have jH:kU m=m:=rfl
 have hl:=h.len
 have a0:=ha.1
 simp only[PG,MF,Vt,MG,Tree.m,eu,PD h ha (.inr rfl),Zli,Zgt h ha (.inr rfl),jH]
 cases hw:we m a 4
 ·rfl
 ·rw[PC h ha (.inr rfl)]at hw
  have hw:=oY hw
  have wi:we m a 4=true:=by rw[PC h ha (.inr rfl)];exact dY hw
  have ld:(pB m a 4).1=m.getD (dA (wrap .u32 (eN a 4))) 0:=by
   simp only[pB,EP,Tree.m,eu,wi];rfl
  have pu:∀v,BR m a 4 v=m.set (dA (wrap .u32 (eN a 4))) v:=λv=>rfl
  rw[ld,pu,pu]
  have hi:dA (wrap .u32 (eN a 4))<m.length:=by
   rw[eO a0,wrap_u32];omega
  generalize dA (wrap .u32 (eN a 4))=i at*
  rw[Z10 hi,List.set_set]
  rfl
end
theorem Qv(h0:0<=c.C4.a0)(h:c.C4.a0<=31)(k b:Int):r4 c k b=rH c k b:=by
 have e:=eq_of_beq (FM (λs=>oA .u32 (ja .u32 (Be (Be s 1 8) 2 16) 1) 2==ja .u32 (oA .u32 (ja .u32 (ja .u32 (oA .u32 s 24) (wrap .u32 (8*De (bm .u32 s 1 !=0)))) (wrap .u32 (16*De (bm .u32 s 2 !=0)))) 2) 1) 32 (by kernel_rfl) h0 (by omega))
 simp only[r4,PH,rH,PI,Tree.m,eu,e]
theorem Zs6(h0:0<=c.C4.a0)(h:c.C4.a0<=31):Mp c=Vu c:=by
 have e:=eq_of_beq (FM (λs=>Be (Be s 8 1) 16 2==ja .u32 (ja .u32 (oA .u32 s 3) (wrap .u32 (1*De (bm .u32 s 8 !=0)))) (wrap .u32 (2*De (bm .u32 s 16 !=0)))) 32 (by kernel_rfl) h0 (by omega))
 simp only[Mp,PJ,Vu,PK,Tree.m,eu,e]
theorem Zy6(h0:0<=c.C4.a0)(h:c.C4.a0<=31):Qwy c=(!JZ c&&(bm .u32 c.C4.a0 4 !=0)):=
 eq_of_beq (FM (λs=>(bm .u32 s 5==4)==(!(bm .u32 s 1 !=0)&&(bm .u32 s 4 !=0))) 32 (by kernel_rfl) h0 (by omega))
theorem Vv(c:cq)(hr:0<=r/\r<16)(v:Int):wg c r v=mf c r v:=by
 simp only[wg,FI,mf,J0,Tree.m]
 by_cases h:r=0
 ·subst h;rfl
 ·rw[dY (show r>0 by omega),dY hr.2,show(r !=0)=true by simpa using h];rfl
theorem zL{a b:Int}(ha:U a)(hb:U b):MH a b=MI a b:=by
 obtain⟨a0,a1⟩:=ha
 obtain⟨b0,b1⟩:=hb
 have i:∀x,wrap .i64 (wrap .i32 x)=wrap .i32 x:=λx=>by rw[wrap_i64,wrap_i32];omega
 have r32:∀x,-2147483648<=wrap .i32 x/\wrap .i32 x<2147483648:=λx=>by rw[wrap_i32];omega
 have q32:∀x y:Int,-2147483648<=x/\x<2147483648-> -2147483648<=eN x y/\eN x y<=2147483648:=λx y hx=>by
  have h1:(eN x y).natAbs<=x.natAbs:=by rw[Int.natAbs_tdiv];exact Nat.div_le_self _ _
  omega
 simp only[MH,MJ,MI,MK,Tree.m,i]
 cases hb:b==0
 ·have w:∀z,wrap .u32 (wrap .i32 z)=wrap .u32 z:=λz=>by rw[wrap_i32,wrap_u32,wrap_u32];omega
  have w2:wrap .i64 (eN (wrap .i32 a) (wrap .i32 b))=eN (wrap .i32 a) (wrap .i32 b):=by
   have:=q32 _ (wrap .i32 b) (r32 a)
   rw[wrap_i64];omega
  rw[w,w2]
  cases h1:a==2147483648
  ·rfl
  ·cases h2:b==4294967295
   ·rfl
   ·have h1:=eq_of_beq h1
    have h2:=eq_of_beq h2
    subst h1;subst h2
    rfl
 ·rfl
theorem yL{op a b:Int}(h0:1<=op)(h1:op<=23)(ha:U a)(hb:U b):om op a b=ER op a b:=by
 have sub:wrap .u32 (a+wrap .u32 (0-b))=wrap .u32 (a-b):=by
  rw[wrap_u32,wrap_u32,wrap_u32];omega
 have sr:op=1\/op=2\/op=3\/op=4\/op=5\/op=6\/op=7\/op=8\/op=9\/op=10\/op=11\/op=12\/op=13\/op=14\/op=15\/op=16\/op=17\/op=18\/op=19\/op=20\/op=21\/op=22\/op=23:=by omega
 have d:=zL ha hb
 rcases sr with rfl|rfl|rfl|rfl|rfl|rfl|rfl|rfl|rfl|rfl|rfl|rfl|rfl|rfl|rfl|rfl|rfl|rfl|rfl|rfl|rfl|rfl|rfl
 ·rfl
 ·show(wrap .u32 (a+wrap .u32 (0-b)),true)=(wrap .u32 (a-b),true)
  rw[sub]
 ·rfl
 ·rfl
 ·rfl
 ·rfl
 ·rfl
 ·rfl
 ·rfl
 ·show((MH a b).1,true)=((MI a b).1,true)
  rw[d]
 ·show((MH a b).2,true)=((MI a b).2,true)
  rw[d]
 all_goals rfl
theorem Qwa{m:List Int}(h:dy P m)(hc:je c)(kj:c.C4.a0<=31){va:Int}(hv:U va)(hs:size=1\/size=4)(ha:access=1\/access=2\/access=3):sx c m va size access=((mw c m va size access).1,(mw c m va size access).2.2,(mw c m va size access).2.1):=by
 have jH:kU m=m:=rfl
 have kn:PF access=true:=by rcases ha with rfl|rfl|rfl<;>rfl
 have ca:Qzz access=(Dc access,true):=by rcases ha with rfl|rfl|rfl<;>rfl
 have pg:=Zy6 hc.a0.1 kj
 have wk:=xi h hc.a6 hv ha
 have tc:PG m (Bh m c.C4.a6 va access).G1 access=Vt m (Bh m c.C4.a6 va access).G1 access:=Zx1 h (Tree.pp (xaf h hc.a6 hv access)).2.2.1 access
 have sz:(bif size !=1 then bif size !=4 then false else true else true)=true:=by rcases hs with rfl|rfl<;>rfl
 simp only[sx,ML,mw,J1,Tree.m,eu,jH,kn,ca,pg,wk,tc,PD h hv hs,Zli]
 rcases hs with rfl|rfl<;>
 ·show(bif _ then _ else _)=_
  cases cZ va _ !=0<;>cases JZ c<;>cases bm .u32 c.C4.a0 4 !=0<;>cases(Bh m c.C4.a6 va access).G0 !=0<;>cases we m va _<;>rfl
theorem Zbe{α:Type}{Q:α->Prop}{c:Bool}{x y:α}(hx:Q x)(hy:Q y):Q (cond c x y):=by cases c<;>assumption
theorem qap(m:List Int)(root:Int){va:Int}(hv:U va)(access:Int):(Bh m root va access).G0=0->(Bh m root va access).Addr%4=va%4:=by
 have hc:Dc access≠0:=by
   simp only[Dc,MM,Tree.m]
   cases access==1<;>cases access==3<;>simp
 have q :(λt:sq=>t.G0=0->t.Addr%4=va%4) (Bh m root va access):=by
   simp only[Bh,HJ,Tree.m,eu]
   repeat'(first
     |exact λe=>absurd e hc
     | (intro _
        show wrap .u32 (wrap .u32 (_*128)+cZ va 128)%4=va%4
        rw[dZ hv.1,wrap_u32,wrap_u32];omega)
     |refine Zbe (Q:=λt:sq=>t.G0=0->t.Addr%4=va%4) ?_ ?_)
 exact q
theorem vL{m:List Int}{va:Int}(hv:U va)(hs:size=1\/size=4)(ha:access=1\/access=2\/access=3):(mw c m va size access).2.1=0->(mw c m va size access).1%size=0:=by
 have kn:PF access=true:=by rcases ha with rfl|rfl|rfl<;>rfl
 have hc:Dc access≠0:=by
  simp only[Dc,MM,Tree.m]
  cases access==1<;>cases access==3<;>simp
 rcases hs with rfl|rfl
 ·intro _;omega
 simp only[mw,J1,Tree.m,eu,kn]
 show(bif cZ va 4 !=0 then((0:Int),(3:Int),m)else _).2.1=0->(bif cZ va 4 !=0 then((0:Int),(3:Int),m)else _).1%4=0
 rw[dZ hv.1]
 cases hz:va%4 !=0
 ·have hz:va%4=0:=by simpa using hz
  have w:=qap m c.C4.a6 hv access
  cases hp:Qwy c
  ·cases hw:we m va 4
   ·exactλe=>absurd e hc
   ·exactλ_=>hz
  ·cases hq:(Bh m c.C4.a6 va access).G0 !=0
   ·have hq:(Bh m c.C4.a6 va access).G0=0:=by simpa using hq
    exactλ_=>(w hq).trans hz
   ·have hq:¬(Bh m c.C4.a6 va access).G0=0:=by simpa using hq
    exactλe=>absurd e hq
 ·intro e;cases e
def dm:ma:={C2:=0,F1:=0,F9:=0,Value:=0}
def j9(c:cq)(m:List Int)(i:ig):cq×List Int×ma:=
 bif i.Op==32 then((uy c m i).1,(uy c m i).2,dm)else bif i.Op==33 then((uy c m i).1,(uy c m i).2,dm)else bif i.Op==34 then((uy c m i).1,(uy c m i).2,dm)
 else bif i.Op==35 then((Df c m i).1,(Df c m i).2,dm)else bif i.Op==36 then((Df c m i).1,(Df c m i).2,dm)else((Qsd c i).1,m,(Qsd c i).2)
def df(c:cq)(r:Int):Int:=aV (jg.l c.X) r.toNat 0
def rI(c:cq)(m:List Int)(i:ig):cq×ma×List Int:=
 bif decide (i.Op>=56)then((Qrj c i).1,(Qrj c i).2,m)else bif decide (i.Op>=40)then(Zd2 c i,dm,m)else bif decide (i.Op>=32)then((HK c m i).1,dm,(HK c m i).2)
 else bif i.Op==24 then({X:=(mf c i.A (ei .u32 (wrap .u32 i.cv) 16)).X,Pc:=wrap .u32 ((mf c i.A (ei .u32 (wrap .u32 i.cv) 16)).Pc+4),C4:=(mf c i.A (ei .u32 (wrap .u32 i.cv) 16)).C4},dm,m)
 else bif decide (i.Op<=13)then
  ({X:=(mf c i.A (ER i.Op (df c i.B) (df c i.C)).1).X,Pc:=wrap .u32 ((mf c i.A (ER i.Op (df c i.B) (df c i.C)).1).Pc+4),C4:=(mf c i.A (ER i.Op (df c i.B) (df c i.C)).1).C4},dm,m)
 else({X:=(mf c i.A (ER i.Op (df c i.B) (wrap .u32 i.cv)).1).X,Pc:=wrap .u32 ((mf c i.A (ER i.Op (df c i.B) (wrap .u32 i.cv)).1).Pc+4),C4:=(mf c i.A (ER i.Op (df c i.B) (wrap .u32 i.cv)).1).C4},dm,m)
def pS(op:Int):Prop:=op=1\/op=2\/op=3\/op=4\/op=5\/op=6\/op=7\/op=8\/op=9\/op=10\/op=11\/op=12\/op=13\/op=16\/op=17\/op=18\/op=19\/op=20\/op=21\/op=22\/op=23\/op=24\/op=32\/op=33\/op=34\/op=35\/op=36\/op=40\/op=41\/op=42\/op=43\/op=44\/op=45\/op=48\/op=49\/op=56\/op=57\/op=58\/op=59\/op=60\/op=61\/op=62\/op=63\/op=64
theorem zab(c:cq)(r v:Int):(mf c r v).Pc=c.Pc/\(mf c r v).C4=c.C4:=by
 simp only[mf,J0,Tree.m]
 cases decide (r>0)
 ·exact⟨rfl,rfl⟩
 ·cases decide (r<16)<;>exact⟨rfl,rfl⟩
def J2(c:cq):cq:={X:=c.X,Pc:=wrap .u32 (c.Pc+4),C4:=c.C4}
def va(c:cq)(B cv:Int):Int:=wrap .u32 (aV (jg.l c.X) B.toNat 0+wrap .u32 cv)
def PL(c:cq)(A v size:Int)(f:Int->Int)(y:Int×List Int×Int):cq×List Int:=bif y.2.2 !=0 then(r4 c y.2.2 v,y.2.1)else(J2 (wg c A (f (Db y.2.1 y.1 size).1)),y.2.1)
def PM(c:cq)(A v size:Int)(f:Int->Int)(x:Int×Int×List Int):cq×List Int:=bif x.2.1 !=0 then(rH c x.2.1 v,x.2.2)else(J2 (mf c A (f (pB x.2.2 x.1 size).1)),x.2.2)
def Vw(c:cq)(A v size:Int)(y:Int×List Int×Int):cq×List Int:=bif y.2.2 !=0 then(r4 c y.2.2 v,y.2.1)else(J2 c,(MC y.2.1 y.1 size (aV (jg.l c.X) A.toNat 0)).1)
def Vx(c:cq)(A v size:Int)(x:Int×Int×List Int):cq×List Int:=bif x.2.1 !=0 then(rH c x.2.1 v,x.2.2)else(J2 c,BR x.2.2 x.1 size (aV (jg.l c.X) A.toNat 0))
theorem PN(c:cq)(m:List Int)(A B C cv:Int):
 (uy c m ⟨32,A,B,C,cv⟩=PL c A (va c B cv) 4 (λv=>v) (sx c m (va c B cv) 4 2)/\HK c m ⟨32,A,B,C,cv⟩=PM c A (va c B cv) 4 (λv=>v) (mw c m (va c B cv) 4 2))/\
 (uy c m ⟨33,A,B,C,cv⟩=PL c A (va c B cv) 1 (λv=>EL v 8) (sx c m (va c B cv) 1 2)/\HK c m ⟨33,A,B,C,cv⟩=PM c A (va c B cv) 1 (λv=>HE v 8) (mw c m (va c B cv) 1 2))/\
 (uy c m ⟨34,A,B,C,cv⟩=PL c A (va c B cv) 1 (λv=>v) (sx c m (va c B cv) 1 2)/\HK c m ⟨34,A,B,C,cv⟩=PM c A (va c B cv) 1 (λv=>v) (mw c m (va c B cv) 1 2))/\
 (Df c m ⟨35,A,B,C,cv⟩=Vw c A (va c B cv) 4 (sx c m (va c B cv) 4 3)/\HK c m ⟨35,A,B,C,cv⟩=Vx c A (va c B cv) 4 (mw c m (va c B cv) 4 3))/\
 (Df c m ⟨36,A,B,C,cv⟩=Vw c A (va c B cv) 1 (sx c m (va c B cv) 1 3)/\HK c m ⟨36,A,B,C,cv⟩=Vx c A (va c B cv) 1 (mw c m (va c B cv) 1 3)):=
 ⟨⟨by kernel_rfl,by kernel_rfl⟩,⟨by kernel_rfl,by kernel_rfl⟩,⟨by kernel_rfl,by kernel_rfl⟩,⟨by kernel_rfl,by kernel_rfl⟩,⟨by kernel_rfl,by kernel_rfl⟩⟩
theorem zap{m:List Int}(h:dy P m)(a:Int):EL (pB m a 1).1 8=HE (pB m a 1).1 8:=by
 have:∀x:Int×Bool,(∃w,U w/\x=(bm .u32 w 255,true))\/x=(0,false)->EL x.1 8=HE x.1 8:=λx hx=>by
  rcases hx with⟨w,hw,rfl⟩|rfl
  ·have e:=CX hw
   exact sx8 (by show 0<=bm .u32 w 255;omega) (by show bm .u32 w 255<256;omega)
  ·rfl
 refine this _ ?_
 simp only[pB,EP,Tree.m,eu]
 cases we m a 1
 ·exact .inr rfl
 ·exact .inl ⟨_,Bf (Bg h.u _) _,rfl⟩
section
variable {P:Nat} {m:List Int} (h:dy P m) {c:cq} (hc:je c) (kj:c.C4.a0<=31)
include h hc kj
omit kj in
theorem Zrr(hv:U v)(hs:size=1\/size=4)(access:Int):dy P (mw c m v size access).2.2/\U (mw c m v size access).1/\((mw c m v size access).2.1=0->(mw c m v size access).1<128*P):=(Tree.pp (Vy h hc hv hs access)).2
theorem Zty(hA:0<=A/\A<16)(hv:U v)(hs:size=1\/size=4){f g:Int->Int}(hf:∀{m':List Int},dy P m'->∀a,f (pB m' a size).1=g (pB m' a size).1):PL c A v size f (sx c m v size 2)=PM c A v size g (mw c m v size 2):=by
 rw[Qwa h hc kj hv hs (.inr (.inl rfl))]
 obtain⟨k,u,_⟩:=Zrr h hc hv hs 2
 generalize mw c m v size 2=x at*
 simp only[PL,PM,PD k u hs,Qv hc.a0.1 kj,Vv c hA,hf k]
theorem zi(hv:U v)(hs:size=1\/size=4):Vw c A v size (sx c m v size 3)=Vx c A v size (mw c m v size 3):=by
 rw[Qwa h hc kj hv hs (.inr (.inr rfl))]
 obtain⟨k,u,b⟩:=Zrr h hc hv hs 3
 have al:=vL (c:=c) (m:=m) hv hs (access:=3) (.inr (.inr rfl))
 generalize mw c m v size 3=x at*
 simp only[Vw,Vx,Zgt k u hs,Qv hc.a0.1 kj,PC k u hs]
 cases hq:x.2.1 !=0
 ·have hq:x.2.1=0:=by simpa using hq
  rw[dY ⟨al hq,b hq⟩];rfl
 ·rfl
end
theorem qM(c:cq)(k v:Int):(PO c k v).Pc=c.Pc:=by
 simp only[PO,MN,Tree.m]
 repeat'(first|rfl|refine Zbe (Q:=λx:cq=>x.Pc=c.Pc) ?_ ?_)
def jz(c:cq)(A v p:Int):cq:={X:=(wg c A v).X,Pc:=p,C4:=(wg c A v).C4}
def FO(c:cq)(A v p:Int):cq:={X:=(mf c A v).X,Pc:=p,C4:=(mf c A v).C4}
def jZ(c:cq):Int:=wrap .u32 (c.Pc+4)
theorem PQ(c:cq)(hA:0<=A/\A<16)(v p:Int):jz c A v p=FO c A v p:=by
 unfold jz FO;rw[Vv c hA]
theorem Zrx(c:cq)(A v:Int):J2 (mf c A v)=FO c A v (jZ c):=by
 unfold J2 FO jZ;rw[(zab c A v).1]
theorem MO(t:Bool)(x y:cq)(m:List Int):((bif t then(x,dm)else(y,dm)).1,m,(bif t then(x,dm)else(y,dm)).2)=((bif t then x else y),m,dm):=by cases t<;>rfl
def HL(op:Int):Bool:=decide (op=1)||decide (op=2)||decide (op=3)||decide (op=4)||decide (op=5)||decide (op=6)||decide (op=7)||decide (op=8)||decide (op=9)||decide (op=10)||decide (op=11)||decide (op=12)||decide (op=13)||decide (op=16)||decide (op=17)||decide (op=18)||decide (op=19)||decide (op=20)||decide (op=21)||decide (op=22)||decide (op=23)||decide (op=24)||decide (op=32)||decide (op=33)||decide (op=34)||decide (op=35)||decide (op=36)||decide (op=40)||decide (op=41)||decide (op=42)||decide (op=43)||decide (op=44)||decide (op=45)||decide (op=48)||decide (op=49)||decide (op=56)||decide (op=57)||decide (op=58)||decide (op=59)||decide (op=60)||decide (op=61)||decide (op=62)||decide (op=63)||decide (op=64)
section
variable {P:Nat} {m:List Int} (h:dy P m) {c:cq} (hc:je c) (kj:c.C4.a0<=31) {A B C cv:Int} (hA:0<=A/\A<16)
include h hc kj hA
theorem yi(sr:pS op):j9 c m ⟨op,A,B,C,cv⟩=((rI c m ⟨op,A,B,C,cv⟩).1,(rI c m ⟨op,A,B,C,cv⟩).2.2,(rI c m ⟨op,A,B,C,cv⟩).2.1):=by
 have pT:∀{k y:Int},1<=k->k<=23->U y->((jz c A (om k (df c B) y).1 (jZ c),m,dm):cq×List Int×ma)=(J2 (mf c A (ER k (df c B) y).1),m,dm):=λh1 h2 hy=>by
  rw[yL h1 h2 (show U (df c B) from hc.r _) hy,Zrx,PQ c hA]
 have uC:U (df c C):=hc.r _
 have uI:U (wrap .u32 cv):=fv _
 obtain⟨⟨l1,l2⟩,⟨l3,l4⟩,⟨l5,l6⟩,⟨l7,l8⟩,⟨l9,l10⟩⟩:=PN c m A B C cv
 have ES:U (va c B cv):=fv _
 rcases sr with rfl|rfl|rfl|rfl|rfl|rfl|rfl|rfl|rfl|rfl|rfl|rfl|rfl|rfl|rfl|rfl|rfl|rfl|rfl|rfl|rfl|rfl|rfl|rfl|rfl|rfl|rfl|rfl|rfl|rfl|rfl|rfl|rfl|rfl|rfl|rfl|rfl|rfl|rfl|rfl|rfl|rfl|rfl|rfl
 ·exact(show j9 c m ⟨1,A,B,C,cv⟩=(jz c A (om 1 (df c B) (df c C)).1 (jZ c),m,dm) by kernel_rfl).trans ((pT (by decide) (by decide) uC).trans (by kernel_rfl))
 ·exact(show j9 c m ⟨2,A,B,C,cv⟩=(jz c A (om 2 (df c B) (df c C)).1 (jZ c),m,dm) by kernel_rfl).trans ((pT (by decide) (by decide) uC).trans (by kernel_rfl))
 ·exact(show j9 c m ⟨3,A,B,C,cv⟩=(jz c A (om 3 (df c B) (df c C)).1 (jZ c),m,dm) by kernel_rfl).trans ((pT (by decide) (by decide) uC).trans (by kernel_rfl))
 ·exact(show j9 c m ⟨4,A,B,C,cv⟩=(jz c A (om 4 (df c B) (df c C)).1 (jZ c),m,dm) by kernel_rfl).trans ((pT (by decide) (by decide) uC).trans (by kernel_rfl))
 ·exact(show j9 c m ⟨5,A,B,C,cv⟩=(jz c A (om 5 (df c B) (df c C)).1 (jZ c),m,dm) by kernel_rfl).trans ((pT (by decide) (by decide) uC).trans (by kernel_rfl))
 ·exact(show j9 c m ⟨6,A,B,C,cv⟩=(jz c A (om 6 (df c B) (df c C)).1 (jZ c),m,dm) by kernel_rfl).trans ((pT (by decide) (by decide) uC).trans (by kernel_rfl))
 ·exact(show j9 c m ⟨7,A,B,C,cv⟩=(jz c A (om 7 (df c B) (df c C)).1 (jZ c),m,dm) by kernel_rfl).trans ((pT (by decide) (by decide) uC).trans (by kernel_rfl))
 ·exact(show j9 c m ⟨8,A,B,C,cv⟩=(jz c A (om 8 (df c B) (df c C)).1 (jZ c),m,dm) by kernel_rfl).trans ((pT (by decide) (by decide) uC).trans (by kernel_rfl))
 ·exact(show j9 c m ⟨9,A,B,C,cv⟩=(jz c A (om 9 (df c B) (df c C)).1 (jZ c),m,dm) by kernel_rfl).trans ((pT (by decide) (by decide) uC).trans (by kernel_rfl))
 ·exact(show j9 c m ⟨10,A,B,C,cv⟩=(jz c A (om 10 (df c B) (df c C)).1 (jZ c),m,dm) by kernel_rfl).trans ((pT (by decide) (by decide) uC).trans (by kernel_rfl))
 ·exact(show j9 c m ⟨11,A,B,C,cv⟩=(jz c A (om 11 (df c B) (df c C)).1 (jZ c),m,dm) by kernel_rfl).trans ((pT (by decide) (by decide) uC).trans (by kernel_rfl))
 ·exact(show j9 c m ⟨12,A,B,C,cv⟩=(jz c A (om 12 (df c B) (df c C)).1 (jZ c),m,dm) by kernel_rfl).trans ((pT (by decide) (by decide) uC).trans (by kernel_rfl))
 ·exact(show j9 c m ⟨13,A,B,C,cv⟩=(jz c A (om 13 (df c B) (df c C)).1 (jZ c),m,dm) by kernel_rfl).trans ((pT (by decide) (by decide) uC).trans (by kernel_rfl))
 ·exact(show j9 c m ⟨16,A,B,C,cv⟩=(jz c A (om 16 (df c B) (wrap .u32 cv)).1 (jZ c),m,dm) by kernel_rfl).trans ((pT (by decide) (by decide) uI).trans (by kernel_rfl))
 ·exact(show j9 c m ⟨17,A,B,C,cv⟩=(jz c A (om 17 (df c B) (wrap .u32 cv)).1 (jZ c),m,dm) by kernel_rfl).trans ((pT (by decide) (by decide) uI).trans (by kernel_rfl))
 ·exact(show j9 c m ⟨18,A,B,C,cv⟩=(jz c A (om 18 (df c B) (wrap .u32 cv)).1 (jZ c),m,dm) by kernel_rfl).trans ((pT (by decide) (by decide) uI).trans (by kernel_rfl))
 ·exact(show j9 c m ⟨19,A,B,C,cv⟩=(jz c A (om 19 (df c B) (wrap .u32 cv)).1 (jZ c),m,dm) by kernel_rfl).trans ((pT (by decide) (by decide) uI).trans (by kernel_rfl))
 ·exact(show j9 c m ⟨20,A,B,C,cv⟩=(jz c A (om 20 (df c B) (wrap .u32 cv)).1 (jZ c),m,dm) by kernel_rfl).trans ((pT (by decide) (by decide) uI).trans (by kernel_rfl))
 ·exact(show j9 c m ⟨21,A,B,C,cv⟩=(jz c A (om 21 (df c B) (wrap .u32 cv)).1 (jZ c),m,dm) by kernel_rfl).trans ((pT (by decide) (by decide) uI).trans (by kernel_rfl))
 ·exact(show j9 c m ⟨22,A,B,C,cv⟩=(jz c A (om 22 (df c B) (wrap .u32 cv)).1 (jZ c),m,dm) by kernel_rfl).trans ((pT (by decide) (by decide) uI).trans (by kernel_rfl))
 ·exact(show j9 c m ⟨23,A,B,C,cv⟩=(jz c A (om 23 (df c B) (wrap .u32 cv)).1 (jZ c),m,dm) by kernel_rfl).trans ((pT (by decide) (by decide) uI).trans (by kernel_rfl))
 ·refine(show j9 c m ⟨24,A,B,C,cv⟩=(jz c A (ei .u32 (wrap .u32 cv) 16) (jZ c),m,dm) by kernel_rfl).trans ?_
  rw[PQ c hA,<-Zrx];kernel_rfl
 ·have e:=Zty h hc kj hA ES (.inr rfl) (f:=λv=>v) (g:=λv=>v) (λ_ _=>rfl)
  rw[<-l1,<-l2]at e
  refine(show j9 c m ⟨32,A,B,C,cv⟩=((uy c m ⟨32,A,B,C,cv⟩).1,(uy c m ⟨32,A,B,C,cv⟩).2,dm) by kernel_rfl).trans ?_
  rw[e];kernel_rfl
 ·have e:=Zty h hc kj hA ES (.inl rfl) (f:=λv=>EL v 8) (g:=λv=>HE v 8) (λhm a=>zap hm a)
  rw[<-l3,<-l4]at e
  refine(show j9 c m ⟨33,A,B,C,cv⟩=((uy c m ⟨33,A,B,C,cv⟩).1,(uy c m ⟨33,A,B,C,cv⟩).2,dm) by kernel_rfl).trans ?_
  rw[e];kernel_rfl
 ·have e:=Zty h hc kj hA ES (.inl rfl) (f:=λv=>v) (g:=λv=>v) (λ_ _=>rfl)
  rw[<-l5,<-l6]at e
  refine(show j9 c m ⟨34,A,B,C,cv⟩=((uy c m ⟨34,A,B,C,cv⟩).1,(uy c m ⟨34,A,B,C,cv⟩).2,dm) by kernel_rfl).trans ?_
  rw[e];kernel_rfl
 ·have e:=zi h hc kj (A:=A) ES (.inr rfl)
  rw[<-l7,<-l8]at e
  refine(show j9 c m ⟨35,A,B,C,cv⟩=((Df c m ⟨35,A,B,C,cv⟩).1,(Df c m ⟨35,A,B,C,cv⟩).2,dm) by kernel_rfl).trans ?_
  rw[e];kernel_rfl
 ·have e:=zi h hc kj (A:=A) ES (.inl rfl)
  rw[<-l9,<-l10]at e
  refine(show j9 c m ⟨36,A,B,C,cv⟩=((Df c m ⟨36,A,B,C,cv⟩).1,(Df c m ⟨36,A,B,C,cv⟩).2,dm) by kernel_rfl).trans ?_
  rw[e];kernel_rfl
 ·exact(show j9 c m ⟨40,A,B,C,cv⟩=((bif(r5 40 (df c A) (df c B))then((⟨c.X,wrap .u32 (c.Pc+wrap .u32 (4*wrap .u32 cv)),c.C4⟩:cq),dm)else(⟨c.X,jZ c,c.C4⟩,dm)).1,m,(bif(r5 40 (df c A) (df c B))then((⟨c.X,wrap .u32 (c.Pc+wrap .u32 (4*wrap .u32 cv)),c.C4⟩:cq),dm)else(⟨c.X,jZ c,c.C4⟩,dm)).2) by kernel_rfl).trans ((MO (r5 40 (df c A) (df c B)) ⟨c.X,wrap .u32 (c.Pc+wrap .u32 (4*wrap .u32 cv)),c.C4⟩ ⟨c.X,jZ c,c.C4⟩ m).trans (by kernel_rfl))
 ·exact(show j9 c m ⟨41,A,B,C,cv⟩=((bif(r5 41 (df c A) (df c B))then((⟨c.X,wrap .u32 (c.Pc+wrap .u32 (4*wrap .u32 cv)),c.C4⟩:cq),dm)else(⟨c.X,jZ c,c.C4⟩,dm)).1,m,(bif(r5 41 (df c A) (df c B))then((⟨c.X,wrap .u32 (c.Pc+wrap .u32 (4*wrap .u32 cv)),c.C4⟩:cq),dm)else(⟨c.X,jZ c,c.C4⟩,dm)).2) by kernel_rfl).trans ((MO (r5 41 (df c A) (df c B)) ⟨c.X,wrap .u32 (c.Pc+wrap .u32 (4*wrap .u32 cv)),c.C4⟩ ⟨c.X,jZ c,c.C4⟩ m).trans (by kernel_rfl))
 ·exact(show j9 c m ⟨42,A,B,C,cv⟩=((bif(r5 42 (df c A) (df c B))then((⟨c.X,wrap .u32 (c.Pc+wrap .u32 (4*wrap .u32 cv)),c.C4⟩:cq),dm)else(⟨c.X,jZ c,c.C4⟩,dm)).1,m,(bif(r5 42 (df c A) (df c B))then((⟨c.X,wrap .u32 (c.Pc+wrap .u32 (4*wrap .u32 cv)),c.C4⟩:cq),dm)else(⟨c.X,jZ c,c.C4⟩,dm)).2) by kernel_rfl).trans ((MO (r5 42 (df c A) (df c B)) ⟨c.X,wrap .u32 (c.Pc+wrap .u32 (4*wrap .u32 cv)),c.C4⟩ ⟨c.X,jZ c,c.C4⟩ m).trans (by kernel_rfl))
 ·exact(show j9 c m ⟨43,A,B,C,cv⟩=((bif(r5 43 (df c A) (df c B))then((⟨c.X,wrap .u32 (c.Pc+wrap .u32 (4*wrap .u32 cv)),c.C4⟩:cq),dm)else(⟨c.X,jZ c,c.C4⟩,dm)).1,m,(bif(r5 43 (df c A) (df c B))then((⟨c.X,wrap .u32 (c.Pc+wrap .u32 (4*wrap .u32 cv)),c.C4⟩:cq),dm)else(⟨c.X,jZ c,c.C4⟩,dm)).2) by kernel_rfl).trans ((MO (r5 43 (df c A) (df c B)) ⟨c.X,wrap .u32 (c.Pc+wrap .u32 (4*wrap .u32 cv)),c.C4⟩ ⟨c.X,jZ c,c.C4⟩ m).trans (by kernel_rfl))
 ·exact(show j9 c m ⟨44,A,B,C,cv⟩=((bif(r5 44 (df c A) (df c B))then((⟨c.X,wrap .u32 (c.Pc+wrap .u32 (4*wrap .u32 cv)),c.C4⟩:cq),dm)else(⟨c.X,jZ c,c.C4⟩,dm)).1,m,(bif(r5 44 (df c A) (df c B))then((⟨c.X,wrap .u32 (c.Pc+wrap .u32 (4*wrap .u32 cv)),c.C4⟩:cq),dm)else(⟨c.X,jZ c,c.C4⟩,dm)).2) by kernel_rfl).trans ((MO (r5 44 (df c A) (df c B)) ⟨c.X,wrap .u32 (c.Pc+wrap .u32 (4*wrap .u32 cv)),c.C4⟩ ⟨c.X,jZ c,c.C4⟩ m).trans (by kernel_rfl))
 ·exact(show j9 c m ⟨45,A,B,C,cv⟩=((bif(r5 45 (df c A) (df c B))then((⟨c.X,wrap .u32 (c.Pc+wrap .u32 (4*wrap .u32 cv)),c.C4⟩:cq),dm)else(⟨c.X,jZ c,c.C4⟩,dm)).1,m,(bif(r5 45 (df c A) (df c B))then((⟨c.X,wrap .u32 (c.Pc+wrap .u32 (4*wrap .u32 cv)),c.C4⟩:cq),dm)else(⟨c.X,jZ c,c.C4⟩,dm)).2) by kernel_rfl).trans ((MO (r5 45 (df c A) (df c B)) ⟨c.X,wrap .u32 (c.Pc+wrap .u32 (4*wrap .u32 cv)),c.C4⟩ ⟨c.X,jZ c,c.C4⟩ m).trans (by kernel_rfl))
 ·refine(show j9 c m ⟨48,A,B,C,cv⟩=(jz c A (jZ c) (wrap .u32 ((wg c A (jZ c)).Pc+wrap .u32 (4*wrap .u32 cv))),m,dm) by kernel_rfl).trans ?_
  rw[PQ c hA,Vv c hA,(zab c A (jZ c)).1];kernel_rfl
 ·refine(show j9 c m ⟨49,A,B,C,cv⟩=(jz c A (jZ c) (va c B cv),m,dm) by kernel_rfl).trans ?_
  rw[PQ c hA];kernel_rfl
 ·refine(show j9 c m ⟨56,A,B,C,cv⟩=(r4 c 7 0,m,dm) by kernel_rfl).trans ?_
  rw[Qv hc.a0.1 kj];kernel_rfl
 ·refine(show j9 c m ⟨57,A,B,C,cv⟩=(Mp c,m,dm) by kernel_rfl).trans ?_
  rw[Zs6 hc.a0.1 kj];kernel_rfl
 ·refine(show j9 c m ⟨58,A,B,C,cv⟩=(jz c A (aV (A8.l c.C4) cv.toNat 0) (jZ c),m,dm) by kernel_rfl).trans ?_
  rw[PQ c hA,<-Zrx];kernel_rfl
 ·have e:=qM c (wrap .i64 cv) (df c A)
  refine(show j9 c m ⟨59,A,B,C,cv⟩=((⟨(PO c (wrap .i64 cv) (df c A)).X,wrap .u32 (c.Pc+4),(PO c (wrap .i64 cv) (df c A)).C4⟩:cq),m,dm) by kernel_rfl).trans ?_
  rw[<-e];kernel_rfl
 ·exact(show j9 c m ⟨60,A,B,C,cv⟩=((rI c m ⟨60,A,B,C,cv⟩).1,(rI c m ⟨60,A,B,C,cv⟩).2.2,(rI c m ⟨60,A,B,C,cv⟩).2.1) by kernel_rfl)
 ·exact(show j9 c m ⟨61,A,B,C,cv⟩=((rI c m ⟨61,A,B,C,cv⟩).1,(rI c m ⟨61,A,B,C,cv⟩).2.2,(rI c m ⟨61,A,B,C,cv⟩).2.1) by kernel_rfl)
 ·exact(show j9 c m ⟨62,A,B,C,cv⟩=((rI c m ⟨62,A,B,C,cv⟩).1,(rI c m ⟨62,A,B,C,cv⟩).2.2,(rI c m ⟨62,A,B,C,cv⟩).2.1) by kernel_rfl)
 ·exact(show j9 c m ⟨63,A,B,C,cv⟩=((rI c m ⟨63,A,B,C,cv⟩).1,(rI c m ⟨63,A,B,C,cv⟩).2.2,(rI c m ⟨63,A,B,C,cv⟩).2.1) by kernel_rfl)
 ·exact(show j9 c m ⟨64,A,B,C,cv⟩=((rI c m ⟨64,A,B,C,cv⟩).1,(rI c m ⟨64,A,B,C,cv⟩).2.2,(rI c m ⟨64,A,B,C,cv⟩).2.1) by kernel_rfl)
end
theorem xap(h0:0<=op)(h1:op<256)(h:pA op≠0):pS op:=by
 have e:=oY (FM (λop=>decide (pA op=0\/HL op=true)) 256 (by kernel_rfl) h0 h1)
 rcases e with e|e
 ·exact absurd e h
 ·simpa only[HL,pS,aT,decide_eq_true_eq,or_assoc]using e
theorem qj(o:pS op):1<=op/\op<=64:=by
 unfold pS at o
 rcases o with h|h|h|h|h|h|h|h|h|h|h|h|h|h|h|h|h|h|h|h|h|h|h|h|h|h|h|h|h|h|h|h|h|h|h|h|h|h|h|h|h|h|h|h<;>(rw[h];decide)
theorem xj(hw:U w):(BQ w).2=true->pS (BQ w).1.Op:=by
 have u9:bn .u32 w 24=w/16777216:=by have:=EH (a:=w) 24 (by decide);simpa using this
 obtain⟨w0,w1⟩:=hw
 have eo:wrap .i64 (w/16777216)=w/16777216:=Ju (by omega) (by omega)
 have q:(λr:ig×Bool=>r.2=true->pS r.1.Op) (BQ w):=by
  simp only[BQ,Mz,Tree.m,eu,u9,eo]
  cases hf:pA (w/16777216)==0
  ·have g:pS (w/16777216):=xap (by omega) (by omega) (by simpa using hf)
   repeat'(first
    |exactλ_=>g
    |exactλe=>eS (show false=true from e)
    |refine Zbe (Q:=λr:ig×Bool=>r.2=true->pS r.1.Op) ?_ ?_)
  ·exactλe=>eS (show false=true from e)
 exact q
section
variable (c:cq) (m:List Int)
def Vz(x:Int×Int×List Int)(w:Int)(d:ig×Bool):cq×ma×List Int:=
 bif x.2.1 !=0 then(rH c x.2.1 c.Pc,dm,x.2.2)else bif !d.2 then(rH c 1 w,dm,x.2.2)else bif Mv d.1.Op then(bif bm .u32 c.C4.a0 1==0 then(rH c 2 w,dm,x.2.2)else rI c x.2.2 d.1)else rI c x.2.2 d.1
def PR(y:Int×List Int×Int)(d:ig×Bool):cq×List Int×ma:=
 bif y.2.2 !=0 then(r4 c y.2.2 c.Pc,y.2.1,dm)else bif !d.2 then(r4 c 1 y.1,y.2.1,dm)else bif Pw d.1.Op then(bif !JZ c then(r4 c 2 y.1,y.2.1,dm)else j9 c y.2.1 d.1)else j9 c y.2.1 d.1
theorem PS:BS c m=Vz c (mw c m c.Pc 4 1) (pB (mw c m c.Pc 4 1).2.2 (mw c m c.Pc 4 1).1 4).1 (BQ (pB (mw c m c.Pc 4 1).2.2 (mw c m c.Pc 4 1).1 4).1):=by kernel_rfl
theorem qaq:Dg c m=PR c (VA c m) (Pz (VA c m).1):=by kernel_rfl
theorem xM:VA c m=bif(sx c m c.Pc 4 1).2.2 !=0 then(0,(sx c m c.Pc 4 1).2.1,(sx c m c.Pc 4 1).2.2)else((Db (sx c m c.Pc 4 1).2.1 (sx c m c.Pc 4 1).1 4).1,(sx c m c.Pc 4 1).2.1,0):=by kernel_rfl
end
theorem zj{m:List Int}(h:dy P m)(hc:je c)(kj:c.C4.a0<=31):Dg c m=((BS c m).1,(BS c m).2.2,(BS c m).2.1):=by
 obtain⟨k,u,b⟩:=Zrr h hc hc.pc (.inr rfl) 1
 have tr:∀k b,r4 c k b=rH c k b:=Qv hc.a0.1 kj
 rw[qaq,PS,xM,Qwa h hc kj hc.pc (.inr rfl) (.inl rfl)]
 generalize mw c m c.Pc 4 1=x at*
 cases hx:x.2.1 !=0
 ·rw [PD k u (.inr rfl)]
  have hw:U (pB x.2.2 x.1 4).1:=(Tree.pp (PU k u (.inr rfl))).2
  generalize(pB x.2.2 x.1 4).1=w at*
  show PR c (w,x.2.2,0) (Pz w)=_
  rw[vg hw]
  have o:=xj hw
  have i:=Tree.post _ (Zwd w)
  change(BQ w).2=true->tv (BQ w).1 at i
  generalize BQ w=d at*
  obtain⟨⟨op,A,B,C,cv⟩,ok⟩:=d
  cases ok
  ·simp only[PR,Vz,hx,tr];rfl
  ·have o:pS op:=o rfl
   have i:=i rfl
   have p:=yi (C:=C) (B:=B) (cv:=cv) k hc kj i.a o
   have pv:Pw op=Mv op:=qan (by have:=qj o;omega) (by have:=qj o;omega)
   have kn:(!JZ c)=(bm .u32 c.C4.a0 1==0):=by
    show(!(!(bm .u32 c.C4.a0 1==0)))=_
    exact Bool.not_not _
   simp only[PR,Vz,hx,tr,pv,kn,p]
   cases Mv op
   ·rfl
   ·cases bm .u32 c.C4.a0 1==0<;>rfl
 ·simp only[PR,Vz,hx,cond_true,tr]
theorem yj{a b:Int}:decide (a>=b)=!decide (a<b):=by
 by_cases h:a<b
 ·rw[dY h,dN (by omega)];rfl
 ·rw[dN h,dY (by omega)];rfl
def bits(g:Int)(l:List Nat)(s:Int):Int:=l.foldl (λ(a:Int) (i:Nat)=>wrap .i64 (a+wrap .i64 (bm .u32 (bn .u32 g (i:Int)) 1))) s
theorem yM(b:ie):MP b=bits b.D1 [0,1,2,3,4,5,6,7,8,9,10,11,12,13,14,15,16,17,18,19,20,21,22,23,24,25,26,27,28,29,30,31] 0:=by kernel_rfl
theorem zaM(hg:U g){i:Nat}(hi:i<=32):wrap .i64 (bm .u32 (bn .u32 g (i:Int)) 1)=g/2^i%2:=by
 rw[FP (Bf hg _),EH i hi]
 have:0<=g/2^i%2/\g/2^i%2<2:=by omega
 exact Ju (by omega) (by omega)
theorem vM(hg:U g)(l:List Nat):∀s:Int,(∀i∈l,i<=32)->0<=s->s+l.length<=1000->bits g l s=s+(l.map λi=>g/2^i%2).sum:=by
 induction l with
 |nil=>intro s _ _ _;simp[bits]
 |cons i l ih=>
  intro s hl h0 h1
  have h1:s+(l.length+1)<=1000:=by simpa using h1
  have hb:0<=g/2^i%2/\g/2^i%2<2:=by omega
  have e:bits g (i::l) s=bits g l (s+g/2^i%2):=by
   show bits g l (wrap .i64 (s+wrap .i64 (bm .u32 (bn .u32 g (i:Int)) 1)))=_
   rw[zaM hg (hl i (by simp)),Ju (by omega) (by omega)]
  rw[e,ih _ (λj hj=>hl j (by simp[hj])) (by omega) (by omega)]
  simp;omega
theorem Zxj(n:iq)(port:Int):Mn n port=VB n port:=by
 simp only[Mn,Pr,VB,PV,Tree.m]
 cases n.D2<;>cases n.C3<;>rfl
theorem Zfw(t:jx):BM t=VC t:=by
 simp only[BM,Vd,VC,Qm3,Tree.m]
 cases t.E0<;>cases t.D8<;>rfl
theorem Zqv(n:iq)(p:Int):Ac n p=VD n p:=by
 simp only[Ac,Pl,VD,Qs5,Tree.m]
 cases n.D2<;>cases n.C3<;>rfl
theorem Zmy(d:gk)(p:Int):r3 d p=VE d p:=by
  simp only[r3,FG,Vb,Pk,VE,Qph,Tree.m,eu,yj]
  cases decide (d.ab>64)
  . by_cases s:d.C9=0\/d.C9=1\/d.C9=2\/d.C9=3
    . rcases s with s|s|s|s<;>rw[s]
      . rfl
      . by_cases c1:d.F5=1
        . rw[c1];cases decide (d.C5<d.ab)<;>cases decide (wrap .i64 d.C6<p)<;>cases decide (d.C7=[])<;>rfl
        . by_cases c2:d.F5=2
          . rw[c2];cases decide (d.C5<d.ab)<;>cases decide (wrap .i64 d.C6<p)<;>cases(d.C7.length:Int)==128<;>rfl
          . rw[show(d.F5==1)=false by simpa using c1,show(d.F5==2)=false by simpa using c2]
            cases decide (d.C5<d.ab)<;>cases decide (wrap .i64 d.C6<p)<;>rfl
      . rfl
      . rfl
    . rw[show(d.C9==0)=false by simp;omega,show(d.C9==1)=false by simp;omega,show(d.C9==2)=false by simp;omega,show(d.C9==3)=false by simp;omega]
      by_cases n:d.C9<0
      . rw[dY n];rfl
      . rw[dN n,dY (show d.C9>3 by omega)];rfl
  . rfl
theorem qN(c:jn):VF c=VG c:=by
 show(!decide (c.D9=[]))=decide ((c.D9.length:Int)>0)
 cases c.D9 with
 |nil=>rfl
 |cons a l=>rw[dN (by simp),dY (by simp)];rfl
theorem zaq(k:List UInt8):decide (k=[])=((k.length:Int)==0):=by
 cases k with
 |nil=>rfl
 |cons a l=>
  rw[dN (by simp)]
  exact(beq_eq_false_iff_ne.2 (by simp;omega)).symm
theorem Zx7(c:jn)(port:Int):Qx5 c port=MQ c port:=by
 simp only[Qx5,JK,MQ,HM,Tree.m,zaq]
 cases port==0
 ·rfl
 ·cases(c.D9.length:Int)==0<;>rfl
theorem xN(t:jx)(v:Int):Pm t v=Z95 v:=by
 simp only[Pm,Vc,Z95,Z5n,Tree.m]
 cases h:v==0
 ·rw[show(v !=0)=true by simp only[bne,h];rfl];rfl
 ·rw[show(v !=0)=false by simp only[bne,h];rfl,eq_of_beq h];rfl
section
variable {P:Nat} {m:List Int} (h:dy P m)
include h
theorem Zyp(f:Int):Ph m f=uz m f:=by
 have a:=uv h
 have b:=EM h
 simp only[Ph,Va,uz,PW,Tree.m,eu,a,b]
theorem Zzj(f:Int):Me m f=uz m f:=by
 have a:=uv h
 have b:=EM h
 simp only[Me,Qp,uz,PW,Tree.m,eu,a,b]
theorem Zop(d:gk)(port v fw:Int):Z97 d m port v fw=Qop d m port v fw:=by
  have pg:=Zyp h
  have pa:=Vr h
  have rq: ∀d a,Qow d a=Qo5 d a:=λ_ _=>rfl
  simp only[Z97,Mg,Z32,Mf,Qop,MR,Tree.m,eu,pg,pa,rq]
  cases port==4
  . cases port==5
    . cases h6:port==6
      . rw[show(port !=6)=true by simp only[bne,h6];rfl];rfl
      . rw [show(port !=6)=false by simp only[bne,h6];rfl]
        by_cases v1:v=1
        . subst v1
          cases hs:d.C9==0
          . rw[show(d.C9 !=0)=true by simp only[bne,hs];rfl];rfl
          . rw[show(d.C9 !=0)=false by simp only[bne,hs];rfl];rfl
        . by_cases v2:v=2
          . subst v2
            cases hs:d.C9==0
            . rw[show(d.C9 !=0)=true by simp only[bne,hs];rfl];rfl
            . rw[show(d.C9 !=0)=false by simp only[bne,hs];rfl];rfl
          . rw[show(v==1)=false by simpa using v1,show(v==2)=false by simpa using v2]
            cases v==0
            . rfl
            . have:Mh d=(bif d.C9==2 then true else d.C9==3):=rfl
              rw[this]
              cases d.C9==2<;>cases d.C9==3<;>rfl
    . rfl
  . rfl
theorem Ztt(n:iq)(port v fw:Int):Zjn n m port v fw=Qso n m port v fw:=by
  have pg:=Zzj h
  have pa:=Vr h
  simp only[Zjn,Mj,Zmd,Mi,Qso,Qc,Tree.m,eu,pg,pa]
  have g1:decide (n.F7>=1)=!decide (n.F7<1):=yj
  have g2:decide (n.F7<=128)=!decide (n.F7>128):=by
    by_cases h:n.F7>128
    . rw[dY h,dN (by omega)];rfl
    . rw[dN h,dY (by omega)];rfl
  rw[g1,g2]
  cases port==7
  . cases port==8
    . cases h9:port==9
      . rw[show(port !=9)=true by simp only[bne,h9];rfl];rfl
      . rw [show(port !=9)=false by simp only[bne,h9];rfl]
        by_cases v1:v=1
        . subst v1
          cases decide (n.F7<1)<;>cases decide (n.F7>128)<;>cases uz m n.Frame<;>rfl
        . by_cases v2:v=2
          . subst v2;rfl
          . rw[show(v==1)=false by simpa using v1,show(v==2)=false by simpa using v2]
            cases v==0<;>rfl
    . rfl
  . rfl
end
def Jac:List UInt8:=(cW 256).map λn=>eR (n%2+n/2%2+n/4%2+n/8%2+n/16%2+n/32%2+n/64%2+n/128%2)
def pt(n:Int):Int:=((eQ (Jac.getD n.toNat 0):Nat):Int)
theorem zN(x:Int):Q7i x=wrap .i64 (wrap .u8 (wrap .u8 (wrap .u8 (pt (bn .u32 x 24)+pt (bm .u32 (bn .u32 x 16) 255))+pt (bm .u32 (bn .u32 x 8) 255))+pt (bm .u32 x 255))):=by kernel_rfl
theorem PX(h0:0<=a)(h1:a<256):pt a=a%2+a/2%2+a/4%2+a/8%2+a/16%2+a/32%2+a/64%2+a/128%2:=
 eq_of_beq (FM (λa=>pt a==a%2+a/2%2+a/4%2+a/8%2+a/16%2+a/32%2+a/64%2+a/128%2) 256 (by kernel_rfl) h0 h1)
theorem qk(hg:U g):bits g [0,1,2,3,4,5,6,7,8,9,10,11,12,13,14,15,16,17,18,19,20,21,22,23,24,25,26,27,28,29,30,31] 0=pt (g%256)+pt (g/256%256)+pt (g/65536%256)+pt (g/16777216):=by
 rw[vM hg _ 0 (by decide) (by decide) (by decide),PX (by omega) (by omega),PX (by omega) (by omega),PX (by omega) (by omega),PX (by have:=hg.1;omega) (by have:=hg.2;omega)]
 obtain⟨g0,g1⟩:=hg
 simp only[List.map_cons,List.map_nil,List.sum_cons,List.sum_nil]
 have e:∀i j:Nat,∀k:Int,i<8->k=2^j->g/2^(i+j)%2=(g/k%256)/2^i%2:=λi j k hi hk=>by
  subst hk
  rw[Nat.add_comm,dL,<-eT (dK (dI (by decide)))]
  generalize g/2^j=x
  have:i=0\/i=1\/i=2\/i=3\/i=4\/i=5\/i=6\/i=7:=by omega
  rcases this with rfl|rfl|rfl|rfl|rfl|rfl|rfl|rfl<;>simp<;>omega
 have e0:∀i:Nat,i<8->g/2^i%2=(g%256)/2^i%2:=λi hi=>by have:=e i 0 1 hi rfl;simpa using this
 have e24:g/16777216%256=g/16777216:=by omega
 rw[e0 0 (by decide),e0 1 (by decide),e0 2 (by decide),e0 3 (by decide),e0 4 (by decide),e0 5 (by decide),e0 6 (by decide),e0 7 (by decide)]
 rw[e 0 8 256 (by decide) (by decide),e 1 8 256 (by decide) (by decide),e 2 8 256 (by decide) (by decide),e 3 8 256 (by decide) (by decide),e 4 8 256 (by decide) (by decide),e 5 8 256 (by decide) (by decide),e 6 8 256 (by decide) (by decide),e 7 8 256 (by decide) (by decide)]
 rw[e 0 16 65536 (by decide) (by decide),e 1 16 65536 (by decide) (by decide),e 2 16 65536 (by decide) (by decide),e 3 16 65536 (by decide) (by decide),e 4 16 65536 (by decide) (by decide),e 5 16 65536 (by decide) (by decide),e 6 16 65536 (by decide) (by decide),e 7 16 65536 (by decide) (by decide)]
 rw[e 0 24 16777216 (by decide) (by decide),e 1 24 16777216 (by decide) (by decide),e 2 24 16777216 (by decide) (by decide),e 3 24 16777216 (by decide) (by decide),e 4 24 16777216 (by decide) (by decide),e 5 24 16777216 (by decide) (by decide),e 6 24 16777216 (by decide) (by decide),e 7 24 16777216 (by decide) (by decide),e24]
 generalize g%256=a
 generalize g/256%256=b
 generalize g/65536%256=c
 generalize g/16777216=d
 simp only[show(2:Int)^0=1 from rfl,show(2:Int)^1=2 from rfl,show(2:Int)^2=4 from rfl,show(2:Int)^3=8 from rfl,show(2:Int)^4=16 from rfl,show(2:Int)^5=32 from rfl,show(2:Int)^6=64 from rfl,show(2:Int)^7=128 from rfl,Int.ediv_one]
 omega
theorem Af(h0:0<=a)(h1:a<256):0<=pt a/\pt a<=8:=by rw[PX h0 h1];omega
theorem Zh7(hg:U b.D1):VH b=MP b/\0<=MP b/\MP b<=32:=by
 obtain⟨s8,BP,u9⟩:=HH b.D1
 have u8:U (bn .u32 b.D1 8):=Bf hg _
 have u16:U (bn .u32 b.D1 16):=Bf hg _
 have e:VH b=Q7i b.D1:=rfl
 rw[e,zN,yM,qk hg,CX u8,CX u16,CX hg,s8,BP,u9]
 obtain⟨g0,g1⟩:=hg
 have p0:=Af (a:=b.D1%256) (by omega) (by omega)
 have p1:=Af (a:=b.D1/256%256) (by omega) (by omega)
 have p2:=Af (a:=b.D1/65536%256) (by omega) (by omega)
 have p3:=Af (a:=b.D1/16777216) (by omega) (by omega)
 have w8:∀x,wrap .u8 x=x%256:=λx=>wrap_u8 x
 rw[w8,w8,w8,wrap_i64]
 omega
theorem Zrk(h:okB b):PY b=PZ b:=by
 obtain⟨e,l0,l1⟩:=Zh7 h.2
 obtain⟨t0,t1⟩:=h.1
 simp only[PY,MS,PZ,Qbe,Tree.m,eu,e]
 rw[wrap_u32,wrap_u64,wrap_u64,dH l0 (by omega),dH l0 (by omega),dH t0 (by omega)]
theorem Zx5(h:okB b)(port:Int):Qxe b port=MT b port:=by
 simp only[Qxe,Mo,MT,MU,Tree.m,eu,(Zh7 h.2).1]
theorem xaq(g:Int)(z:Nat):g%2^(z+1)=g%2^z+2^z*(g/2^z%2):=by
 have hp:(0:Int)<2^z:=dI (by decide)
 have h1:=eU g (2^z)
 have h2:=eU (g/2^z) 2
 have h3:(g/2^z)/2=g/2^(z+1):=by rw[eV,eT (dK hp)]
 have h4:=eU g (2^(z+1))
 rw[h3]at h2
 have h5:(2:Int)^(z+1)*(g/2^(z+1))=2^z*(2*(g/2^(z+1))):=by rw[eV,Int.mul_assoc]
 have h6:(2:Int)^z*(g/2^z)=2^z*(2*(g/2^(z+1)))+2^z*(g/2^z%2):=by rw[<-Int.mul_add,h2]
 omega
theorem xaM(hg:U b.D1)(hP:P<=32):(MV b P).w (λr=>r=decide (b.D1<2^P)):=by
 unfold MV
 have fin:∀v:Int,0<=v->v<=32->wrap .u64 v=(v.toNat:Int):=λv h0 h1=>by rw[wrap_u64];omega
 refine ed (inv:=λz:Int=>0<=z/\z<=32/\b.D1%2^z.toNat<2^P) (μ:=VI b P) ⟨by decide,by decide,by have:(0:Int)<2^P:=dI (by decide);simpa using this⟩ (cN _) λz ⟨z0,z1,z2⟩=>?_
 refine aa (λhb=>?_) (λhb=>?_)
 ·have hb:=oY hb
  have ew:i64.wrap (z+1)=z+1:=Ju (by omega) (by omega)
  have bt:bm .u32 (bn .u32 b.D1 (wrap .u64 z)) 1=b.D1/2^z.toNat%2:=by
   rw[fin z z0 z1,FP (Bf hg _),EH _ (by omega)]
  have bp:=xaq b.D1 z.toNat
  have zt:(z+1).toNat=z.toNat+1:=by omega
  refine ar (dY (by rw[wrap_u64];omega)) ?_
  rw[bt]
  refine aa (λe=>aa (λhp=>?_) (λhp=>dj ?_)) (λe=>dj ?_)
  ·have e:=eq_of_beq e
   have hp:=oY hp
   show false=_
   refine(dN λbc=>?_).symm
   have hle:(2:Int)^P<=2^z.toNat:=by exact_mod_cast dO (show 0<2 by decide) (show P<=z.toNat by omega)
   have:b.D1/2^z.toNat=0:=Int.ediv_eq_zero_of_lt hg.1 (by omega)
   rw[this]at e;cases e
  ·have e:=eq_of_beq e
   have hp:=oN hp
   show(0<=i64.wrap (z+1)/\i64.wrap (z+1)<=32/\b.D1%2^(i64.wrap (z+1)).toNat<2^P)/\(32-i64.wrap (z+1)).toNat<(32-z).toNat
   rw[ew,zt]
   have hle:(2:Int)^(z.toNat+1)<=2^P:=by exact_mod_cast dO (show 0<2 by decide) (show z.toNat+1<=P by omega)
   have:=Int.emod_lt_of_pos b.D1 (show(0:Int)<2^(z.toNat+1) from dI (by decide))
   exact⟨⟨by omega,by omega,by omega⟩,by omega⟩
  ·have e:¬b.D1/2^z.toNat%2=1:=by simpa using e
   have e:b.D1/2^z.toNat%2=0:=by omega
   rw[e]at bp
   show(0<=i64.wrap (z+1)/\i64.wrap (z+1)<=32/\b.D1%2^(i64.wrap (z+1)).toNat<2^P)/\(32-i64.wrap (z+1)).toNat<(32-z).toNat
   rw[ew,zt,bp]
   exact⟨⟨by omega,by omega,by omega⟩,by omega⟩
 ·have hb:=oN hb
  have:z=32:=by omega
  subst this
  show true=_
  refine(dY ?_).symm
  have h2:b.D1%2^(32:Int).toNat=b.D1:=dH hg.1 hg.2
  rwa [h2]at z2
theorem Zug(hg:U b.D1)(hP:P<=32):BN b P=VJ b P:=by
 have r:=(Tree.pp (xaM hg hP)).2
 change VJ b P=_ at r
 rw[r,eC,Po hg,decide_eq_true_eq]
theorem P0:strings_Repeat [(0:UInt8)] 128=cO 128 0:=by kernel_rfl
theorem qaN{m:List Int}(hm:dy P m){port:Int}(hv:U v)(hp:v<P)(J3:port=10)(hb:(bm .u32 (bn .u32 b.D1 v) 1==0)=true):(BT b m port v).w (λr=>r.1={A2:=b.A2,D1:=ja .u32 b.D1 (ei .u32 1 v)}/\dy P r.2/\∀k:Nat,kv r.2 k=if v*128<=k/\(k:Int)<v*128+128 then 0 else kv m k):=by
 have BK:decide (0<=v)=true:=dY hv.1
 have h2:=hm.p2
 have pg:uz m v=true:=by rw[VK hm hv];exact dY hp
 obtain⟨v1,v2⟩:=hv
 subst J3
 unfold BT
 refine aa (λ_=>ai λx0 hx=>aa (λ_=>ar BK (aa (λ_=>ar BK ?_) (λh=>by rw[hb]at h;cases h))) (λh=>by rw[hx,pg]at h;cases h)) (λh=>by cases h)
 refine ed (inv:=λz=>0<=z.1/\z.1<=32/\dy P z.2/\∀k:Nat,kv z.2 k=if v*128<=k/\(k:Int)<v*128+4*z.1 then 0 else kv m k) (μ:=Qne b m 10 v) ⟨show(0:Int)<=0 by decide,show(0:Int)<=32 by decide,hm,λk=>by rw[if_neg];show¬(_/\_<_+4*(0:Int));omega⟩ (cN _) (λz hz=>?_)
 obtain⟨z1,z2,z3,z4⟩:=hz
 have hl:=z3.len
 refine aa (λh=>?_) (λh=>⟨rfl,z3,λk=>?_⟩)
 ·have h:=oY h
  have e:wrap i64 (wrap i64 (wrap i64 v*32)+z.1)=v*32+z.1:=by rw[wrap_i64,wrap_i64,wrap_i64];omega
  refine ar (by rw[e];simp[bN];omega) (dj ?_)
  have ew:i64.wrap (z.1+1)=z.1+1:=by rw[wrap_i64];omega
  show(0<=i64.wrap (z.1+1)/\i64.wrap (z.1+1)<=32/\dy P (dB _ _ _)/\∀k:Nat,kv (dB z.2 (dA (wrap i64 (wrap i64 (wrap i64 v*32)+z.1))) 0) k=if v*128<=(k:Int)/\(k:Int)<v*128+4*i64.wrap (z.1+1)then 0 else _)/\(32-i64.wrap (z.1+1)).toNat<(32-z.1).toNat
  rw[ew,e]
  refine⟨⟨by omega,by omega,⟨by simp[hl],z3.p1,z3.p2,EF z3.u gm _⟩,λk=>?_⟩,by omega⟩
  rw[ZU (by omega)]
  by_cases hc:k/4=(v*32+z.1).toNat
  ·rw[if_pos hc,if_pos (by omega)]
   have:k%4=0\/k%4=1\/k%4=2\/k%4=3:=by omega
   rcases this with h|h|h|h<;>rw[h]<;>rfl
  ·rw[if_neg hc,z4 k]
   by_cases hd:v*128<=(k:Int)/\(k:Int)<v*128+4*z.1
   ·rw[if_pos hd,if_pos (by omega)]
   ·rw[if_neg hd,if_neg (by omega)]
 ·have h:=oN h
  show kv z.2 k=_
  rw[z4 k,show z.1=32 by omega];rfl
theorem Jad(hg:U g)(v0:0<=v)(v1:v<32):(bm .u32 g (ei .u32 1 v)==0)=(bm .u32 (bn .u32 g v) 1==0):=by
 obtain⟨z,rfl⟩:∃z:Nat,v=z:=⟨v.toNat,by omega⟩
 obtain⟨n,rfl⟩:∃n:Nat,g=n:=⟨g.toNat,by have:=hg.1;omega⟩
 have hz:z<32:=by omega
 have bc:(2:Nat)^z<4294967296:=by have:=dW (show 1<2 by omega) hz;simpa using this
 rw[FP (Bf hg _),EH z (by omega),qg v0 v1,dX]
 have hc:((2:Int)^z)=((2^z:Nat):Int):=by simp
 generalize hq:2^z=q at*
 rw[hc,ZL hg ⟨by omega,by omega⟩,dX,dX,<-hq]
 have e1:(n&&&2^z)=0↔n/2^z%2=0:=by
  have t:n.testBit z=decide (n/2^z%2=1):=Nat.testBit_eq_decide_div_mod_eq
  constructor
  ·intro h
   have h2:(n&&&2^z).testBit z=false:=by rw[h];exact eW z
   rw[eX,Nat.testBit_two_pow_self,Bool.and_true,t]at h2
   have:=oN h2
   omega
  ·intro h
   have t0:n.testBit z=false:=by rw[t];exact dN (by omega)
   apply eG
   intro i
   rw[eX,Nat.testBit_two_pow,eW]
   by_cases hi:z=i
   ·subst hi;rw[t0];rfl
   ·rw[dN hi,Bool.and_false]
 rw[eC,beq_iff_eq,beq_iff_eq]
 constructor
 ·intro h;have:=e1.1 (by omega);omega
 ·intro h;have:=e1.2 (by omega);omega
theorem Zsz{m:List Int}(h:dy P m)(hb:okB b)(port:Int)(hv:U v):HN b m port v=BU b m port v:=by
  have jH:kU m=m:=rfl
  have hp:=uv h
  have h2:=h.p2
  have ew:i64.wrap v=v:=Ju (by have:=hv.1;omega) (by have:=hv.2;omega)
  have pe:=VK h hv
  by_cases h32:v<32
  . have bv :=Jad hb.2 hv.1 h32
    by_cases J3:port=10
    . by_cases hP:v<P
      . cases hz:bm .u32 (bn .u32 b.D1 v) 1==0
        . simp only[HN,EJ,BU,BT,Tree.m,eu,jH,hp,ew,pe,bv,hz,J3,dY hP,dN (show¬v>=32 by omega)]
          rfl
        . obtain⟨g1,g2,g3⟩:=(Tree.pp (qaN h hv hP J3 hz)).2
          change(BU b m port v).1=_ at g1
          change dy P (BU b m port v).2 at g2
          change∀k:Nat,kv (BU b m port v).2 k=_ at g3
          obtain⟨s1,s2,s3⟩:=(Tree.pp (Vo h hv.1 hP (s:=cO 128 0) (by simp))).2
          have em:(pR m v (cO 128 0)).1=(BU b m port v).2:=by
            refine ZT (s2.len.trans g2.len.symm) s2.u g2.u λk=> ?_
            rw[g3 k]
            refine(s3 k).trans ?_
            by_cases hk:v*128<=(k:Int)/\(k:Int)<v*128+128
            . rw[if_pos hk,if_pos hk]
              have:(cO 128 (0:UInt8)).getD ((k:Int)-v*128).toNat 0=0:=by
                rw[cX,List.getElem?_replicate]
                split<;>rfl
              rw[this];rfl
            . rw[if_neg hk,if_neg hk]
          have el:HN b m port v=({A2:=b.A2,D1:=ja .u32 b.D1 (ei .u32 1 v)},(pR m v (cO 128 0)).1):=by
            simp only[HN,EJ,Tree.m,eu,jH,hp,ew,bv,hz,J3,dY hP,dN (show¬v>=32 by omega),P0]
            rfl
          rw[el,em,<-g1]
      . simp only[HN,EJ,BU,BT,Tree.m,eu,jH,hp,ew,pe,J3,dN hP,dN (show¬v>=32 by omega)]
        rfl
    . simp only[HN,EJ,BU,BT,Tree.m,eu,jH,dY h32,dN (show¬v>=32 by omega),show(port==10)=false by simpa using J3]
      cases port==11<;>rfl
  . simp only[HN,EJ,BU,BT,Tree.m,eu,jH,pe,dN h32,dY (show v>=32 by omega),dN (show¬v<P by omega)]
    cases port==10<;>cases port==11<;>rfl
structure HO(m:bj):Prop where
 oV:je m.B2
 mem:∀w∈m.Mem,U w
 mV:Bc m.B6
 Ae:u7 m.D4
 MW:okB m.B0
 uu:0<=m.B9
theorem VL(m:List Int)(hm:∀w∈m,U w):jX m=oW m/\(jX m=0\/∃P:Nat,1<=P/\dy P m):=by
 refine⟨rfl,?_⟩
 simp only[jX,Hx,Tree.m]
 cases h1:cZ (m.length:Int) 32 !=0
 ·cases h2:decide ((m.length:Int)>1024)
  ·have h1:cZ (m.length:Int) 32=0:=by simpa using h1
   have h2:=oN h2
   rw[dZ (by omega)]at h1
   by_cases h0:m.length=0
   ·left;rw[h0];rfl
   ·right;exact⟨m.length/32,by omega,⟨by omega,by omega,by omega,hm⟩⟩
  ·left;rfl
 ·left;rfl
theorem Dh{a x:Bool}:(bif !a then false else x)=true↔a=true/\x=true:=by cases a<;>simp
theorem Zwf(m:bj):Ag m=true↔ ¬(oW m.Mem<1)/\nU m.B2/\Qm6 m.B3=true/\VC m.C1=true/\VE m.B6 (oW m.Mem)=true/\VD m.D4 (oW m.Mem)=true/\VJ m.B0 (oW m.Mem)=true/\m.B9<=1152921504606846976/\¬(m.B4=true/\m.B8=true):=by
 simp only[Ag,Z33,Tree.m,eu]
 rw[nD,nD,nD,nD,nD,nD,Dh,Dh,Dh,Dh,Dh]
 simp only[decide_eq_false_iff_not,Int.not_lt,bne_eq_false_iff_eq,gt_iff_lt]
 have l:((bif decide (m.B9<=1152921504606846976)then(bif m.B4 then !m.B8 else true)else false)=true)↔m.B9<=1152921504606846976/\¬(m.B4=true/\m.B8=true):=by
  by_cases hc:m.B9<=1152921504606846976
  ·rw[dY hc]
   cases m.B4<;>cases m.B8<;>simp[hc]
  ·rw[dN hc];simp[hc]
 rw[l]
 constructor
 ·rintro⟨a1,a2,a3,a4,a5,a6,a7⟩
  exact⟨by omega,⟨a2,a3,a4,a5,a6⟩,a7⟩
 ·rintro⟨a1,⟨a2,a3,a4,a5,a6⟩,a7⟩
  exact⟨by omega,a2,a3,a4,a5,a6,a7⟩
theorem Zv{m:bj}(h:HO m):BO m=Ag m:=by
 rw[eC,Ms,Zwf,zaa]
 obtain⟨e,c⟩:=VL m.Mem h.mem
 simp only[aE,<-e]
 rcases c with c|⟨P,hP,hm⟩
 ·constructor
  ·rintro⟨a,_⟩;exact absurd c a
  ·rintro⟨a,_⟩;omega
 ·rw[uv hm,Zfw,Zmy,Zqv,Zug h.MW.2 hm.p2]
  constructor
  ·rintro⟨a1,a2,a3,a4,a5,a6,a7,a8,a9⟩;exact⟨by omega,a2,a5,a6,a7,a8,a9,a3,a4⟩
  ·rintro⟨a1,a2,a5,a6,a7,a8,a9,a3,a4⟩;exact⟨by omega,a2,a3,a4,a5,a6,a7,a8,a9⟩
def VM(a b c d e:Bool):Int:=ja .u32 (ja .u32 (ja .u32 (ja .u32 (ET a 0) (ET b 1)) (ET c 2)) (ET d 3)) (ET e 4)
theorem J4(m:bj):VN m=VM (Qkx m.C1) (VF m.B3) (Mh m.B6) (Qs2 m.D4) (PY m.B0):=by
 unfold VN MX
 simp only[Tree.m,eu]
 generalize Qkx m.C1=a
 generalize VF m.B3=b
 generalize Mh m.B6=c
 generalize Qs2 m.D4=d
 generalize PY m.B0=e
 cases a<;>cases b<;>cases c<;>cases d<;>cases e<;>kernel_rfl
theorem Zzm(a b c d e:Bool):0<=VM a b c d e/\VM a b c d e<32:=by
 cases a<;>cases b<;>cases c<;>cases d<;>cases e<;>decide
theorem Di(m:bj):P1 m=VM (Qbr m.C1) (VG m.B3) (Qdr m.B6) (Qfa m.D4) (PZ m.B0):=rfl
section
variable {m:bj} (h:HO m)
include h
theorem Zxi:VN m=P1 m:=by
 rw[J4,Di,qN,Zrk h.MW];rfl
theorem Z60:MY m=BV m:=by
 have e:=Zxi h
 simp only[MY,MZ,BV,M0,Tree.m,eu,e]
theorem xk:Vj m=J5 m:=by
 have e:=Z60 h
 simp only[Vj,M1,J5,M3,Tree.m,eu,e]
theorem Zok:FL m=!HP m:=by
 have e1:=Zv h
 have e2:=xk h
 have e3:decide (m.B9>=1152921504606846976)=!decide (m.B9<1152921504606846976):=yj
 simp only[FL,JQ,HP,J6,Tree.m,eu,e1,e2,e3]
 cases Ag m<;>cases m.B8<;>cases J5 m<;>cases decide (m.B9<1152921504606846976)<;>rfl
theorem Zhr:0<=BV m/\BV m<32:=by
 have e:BV m=bm .u32 (P1 m) m.B2.C4.a7:=rfl
 have l:=Zzm (Qbr m.C1) (VG m.B3) (Qdr m.B6) (Qfa m.D4) (PZ m.B0)
 rw[<-Di]at l
 rw[e,ZL ⟨l.1,by omega⟩ h.oV.a7]
 have:=dV (n:=(P1 m).toNat) (m:=m.B2.C4.a7.toNat)
 omega
def low(l:Int):Int:=if l%2=1 then 0 else if l/2%2=1 then 1 else if l/4%2=1 then 2 else if l/8%2=1 then 3 else 4
end
theorem Ah{l:Int}(h0:0<=l)(h1:l<32):l=0\/l=1\/l=2\/l=3\/l=4\/l=5\/l=6\/l=7\/l=8\/l=9\/l=10\/l=11\/l=12\/l=13\/l=14\/l=15\/l=16\/l=17\/l=18\/l=19\/l=20\/l=21\/l=22\/l=23\/l=24\/l=25\/l=26\/l=27\/l=28\/l=29\/l=30\/l=31:=by omega
def J7(m:bj)(l:Int):cq:=bif bm .u32 m.B2.C4.a0 2==0 then m.B2 else bif l==0 then m.B2 else rH m.B2 (wrap .i64 (16+low l)) 0
theorem P2{m:bj}(h:HO m):r6 m=J7 m (BV m):=by
 obtain⟨l0,l1⟩:=Zhr h
 unfold r6 M4
 simp only[Tree.m,eu]
 revert l0 l1
 generalize BV m=l
 intro l0 l1
 unfold J7
 cases bm .u32 m.B2.C4.a0 2==0
 ·rcases Ah l0 l1 with rfl|rfl|rfl|rfl|rfl|rfl|rfl|rfl|rfl|rfl|rfl|rfl|rfl|rfl|rfl|rfl|rfl|rfl|rfl|rfl|rfl|rfl|rfl|rfl|rfl|rfl|rfl|rfl|rfl|rfl|rfl|rfl<;>kernel_rfl
 ·rfl
def beg(m:bj)(c:cq):bj:={B2:=c,Mem:=m.Mem,B3:=m.B3,C1:=m.C1,B6:=m.B6,D4:=m.D4,B0:=m.B0,B9:=m.B9,B4:=false,B8:=m.B8}
theorem Zxq{m:bj}(h:HO m)(kj:m.B2.C4.a0<=31):pU m=beg m (r6 m):=by
 obtain⟨l0,l1⟩:=Zhr h
 have tr:∀k b,r4 m.B2 k b=rH m.B2 k b:=Qv h.oV.a0.1 kj
 have e:MY (beg m m.B2)=BV m:=Z60 (m:=beg m m.B2) ⟨h.oV,h.mem,h.mV,h.Ae,h.MW,h.uu⟩
 rw[P2 h]
 unfold pU Mt
 simp only[Tree.m,eu]
 rw[show MY {B2:=m.B2,Mem:=m.Mem,B3:=m.B3,C1:=m.C1,B6:=m.B6,D4:=m.D4,B0:=m.B0,B9:=m.B9,B4:=false,B8:=m.B8}=BV m from e]
 revert l0 l1
 generalize BV m=l
 intro l0 l1
 unfold J7
 simp only[<-tr]
 cases bm .u32 m.B2.C4.a0 2==0
 ·rcases Ah l0 l1 with rfl|rfl|rfl|rfl|rfl|rfl|rfl|rfl|rfl|rfl|rfl|rfl|rfl|rfl|rfl|rfl|rfl|rfl|rfl|rfl|rfl|rfl|rfl|rfl|rfl|rfl|rfl|rfl|rfl|rfl|rfl|rfl<;>(show _=_;kernel_rfl)
 ·rfl
theorem HQ{p:Int}:p=0\/p=1\/p=2\/p=3\/p=4\/p=5\/p=6\/p=7\/p=8\/p=9\/p=10\/p=11\/p<0\/12<=p:=by omega
theorem qar{m:bj}(hb:okB m.B0)(port clock:Int):wh m port clock=((EU m port clock).2,(EU m port clock).1):=by
 have e1:=Zx7 m.B3
 have e2:∀p,Pq m.B6 p=Qsc m.B6 p:=λ_=>rfl
 have e3:=Zxj m.D4
 have e4:=Zx5 hb
 have e5:ZE m.C1=Qot m.C1:=rfl
 simp only[wh,Mm,EU,OS,Tree.m,eu,e1,e2,e3,e4,e5]
 rcases HQ (p:=port)with rfl|rfl|rfl|rfl|rfl|rfl|rfl|rfl|rfl|rfl|rfl|rfl|h|h
 all_goals first|rfl|skip
 ·have n:∀k:Int,0<=k->(port==k)=false:=λk hk=>beq_eq_false_iff_ne.2 (by omega)
  have c:MQ m.B3 port=(m.B3,0):=by
   simp only[MQ,HM,Tree.m,n 0 (by decide),n 1 (by decide),cond_false]
  simp only[n 0 (by decide),n 1 (by decide),n 2 (by decide),n 3 (by decide),n 4 (by decide),n 5 (by decide),n 6 (by decide),n 7 (by decide),n 8 (by decide),n 9 (by decide),n 10 (by decide),n 11 (by decide),cond_false,dY (show port<=1 by omega),cond_true,c]
 ·have n:∀k:Int,k<12->(port==k)=false:=λk hk=>beq_eq_false_iff_ne.2 (by omega)
  have c:MT m.B0 port=0:=by
   simp only[MT,MU,Tree.m,n 10 (by decide),n 11 (by decide),cond_false]
  simp only[n 0 (by decide),n 1 (by decide),n 2 (by decide),n 3 (by decide),n 4 (by decide),n 5 (by decide),n 6 (by decide),n 7 (by decide),n 8 (by decide),n 9 (by decide),n 10 (by decide),n 11 (by decide),cond_false,dN (show¬port<=1 by omega),dN (show¬port<=6 by omega),dN (show¬port<=9 by omega),c]
theorem yN{m:bj}(hm:dy P m.Mem)(hb:okB m.B0)(port:Int)(hv:U v):FQ m port v m.B9=((FR m port v).2,(FR m port v).1):=by
 have e1:=Zop hm m.B6
 have e2:=Ztt hm m.D4
 have e3:=Zsz hm hb port hv
 have e4:=xN m.C1 v
 simp only[FQ,Ml,FR,LQ,Tree.m,eu,e1,e2,e3,e4]
 rcases HQ (p:=port)with rfl|rfl|rfl|rfl|rfl|rfl|rfl|rfl|rfl|rfl|rfl|rfl|h|h
 all_goals first|rfl|skip
 ·have n:∀k:Int,0<=k->(port==k)=false:=λk hk=>beq_eq_false_iff_ne.2 (by omega)
  simp only[n 0 (by decide),n 1 (by decide),n 2 (by decide),n 3 (by decide),n 4 (by decide),n 5 (by decide),n 6 (by decide),n 7 (by decide),n 8 (by decide),n 9 (by decide),n 10 (by decide),n 11 (by decide),cond_false,dY (show port<=2 by omega),cond_true]
 ·have n:∀k:Int,k<12->(port==k)=false:=λk hk=>beq_eq_false_iff_ne.2 (by omega)
  have c:BU m.B0 m.Mem port v=(m.B0,m.Mem):=by
   simp only[BU,BT,Tree.m,n 10 (by decide),n 11 (by decide),cond_false]
  simp only[n 0 (by decide),n 1 (by decide),n 2 (by decide),n 3 (by decide),n 4 (by decide),n 5 (by decide),n 6 (by decide),n 7 (by decide),n 8 (by decide),n 9 (by decide),n 10 (by decide),n 11 (by decide),cond_false,dN (show¬port<=2 by omega),dN (show¬port<=6 by omega),dN (show¬port<=9 by omega),c]
def tick(n:bj)(c:cq)(w h:Bool):bj:={B2:=c,Mem:=n.Mem,B3:=n.B3,C1:=n.C1,B6:=n.B6,D4:=n.D4,B0:=n.B0,B9:=wrap .u64 (n.B9+1),B4:=w,B8:=h}
def HR(m:bj)(c:cq)(mem:List Int):bj:={B2:=c,Mem:=mem,B3:=m.B3,C1:=m.C1,B6:=m.B6,D4:=m.D4,B0:=m.B0,B9:=m.B9,B4:=false,B8:=m.B8}
def FT(n:bj)(e:ma)(clock fw:Int):bj×List ir:=
 bif e.C2==1 then
  (bif e.F9 !=0 then(tick (wh n e.F1 clock).1 {X:=jg.of 0 (dB (jg.l (wh n e.F1 clock).1.B2.X) e.F9.toNat (wh n e.F1 clock).2),Pc:=(wh n e.F1 clock).1.B2.Pc,C4:=(wh n e.F1 clock).1.B2.C4} (wh n e.F1 clock).1.B4 (wh n e.F1 clock).1.B8,[])
  else(tick (wh n e.F1 clock).1 (wh n e.F1 clock).1.B2 (wh n e.F1 clock).1.B4 (wh n e.F1 clock).1.B8,[]))
 else bif e.C2==2 then(tick (FQ n e.F1 e.Value fw).1 (FQ n e.F1 e.Value fw).1.B2 (FQ n e.F1 e.Value fw).1.B4 (FQ n e.F1 e.Value fw).1.B8,(FQ n e.F1 e.Value fw).2)
 else bif e.C2==3 then(tick n n.B2 true n.B8,[])else bif e.C2==4 then(tick n n.B2 n.B4 true,[])else(tick n n.B2 n.B4 n.B8,[])
def FU(n:bj)(e:ma)(clock:Int):List ir×bj:=
 bif e.C2==1 then([],tick (EU n e.F1 clock).2 (mf (EU n e.F1 clock).2.B2 e.F9 (EU n e.F1 clock).1) (EU n e.F1 clock).2.B4 (EU n e.F1 clock).2.B8)
 else bif e.C2==2 then((FR n e.F1 e.Value).1,tick (FR n e.F1 e.Value).2 (FR n e.F1 e.Value).2.B2 (FR n e.F1 e.Value).2.B4 (FR n e.F1 e.Value).2.B8)
 else bif e.C2==3 then([],tick n n.B2 true n.B8)else bif e.C2==4 then([],tick n n.B2 n.B4 true)else([],tick n n.B2 n.B4 n.B8)
theorem zaN(m:bj)(clock:Int):Bi m clock=FU (HR m (BS (r6 m) m.Mem).1 (BS (r6 m) m.Mem).2.2) (BS (r6 m) m.Mem).2.1 clock:=by kernel_rfl
theorem vN(m:bj)(clock:Int):BW m clock=bif !FL m then(m,[])else FT {B2:=(Dg (pU m).B2 (pU m).Mem).1,Mem:=(Dg (pU m).B2 (pU m).Mem).2.1,B3:=(pU m).B3,C1:=(pU m).C1,B6:=(pU m).B6,D4:=(pU m).D4,B0:=(pU m).B0,B9:=(pU m).B9,B4:=(pU m).B4,B8:=(pU m).B8} (Dg (pU m).B2 (pU m).Mem).2.2 clock m.B9:=by kernel_rfl
theorem zar(m:List Int):P3 m=m:=by
 simp[P3,HS,Tree.m]
theorem xab(m:bj):VO m=m:=by
 simp only[VO,LR,Tree.m,eu,zar]
theorem Zv2(m:bj)(clock:Int):P4 m clock=bif HP m then(m,[])else((Bi m clock).2,(Bi m clock).1):=by
 simp only[P4,M5,Tree.m,eu,xab]
theorem qO{n:bj}(hm:dy P n.Mem)(hb:okB n.B0){e:ma}(hr:0<=e.F9/\e.F9<16)(hv:U e.Value)(clock:Int):FT n e clock n.B9=((FU n e clock).2,(FU n e clock).1):=by
 unfold FT FU
 rw[qar hb e.F1 clock,yN hm hb e.F1 hv]
 cases e.C2==1
 ·cases e.C2==2
  ·cases e.C2==3
   ·cases e.C2==4<;>rfl
   ·rfl
  ·rfl
 ·generalize EU n e.F1 clock=r
  have s:=Vv r.2.B2 hr r.1
  show(bif e.F9 !=0 then _ else _)=(tick r.2 (mf r.2.B2 e.F9 r.1) r.2.B4 r.2.B8,[])
  rw[<-s]
  simp only[wg,FI,Tree.m]
  cases e.F9 !=0<;>rfl
theorem Znc{m:bj}(h:HO m)(clock:Int):BW m clock=P4 m clock:=by
 rw[vN,Zv2,Zok h]
 cases hs:HP m
 ·have hr:FL m=true:=by rw[Zok h,hs];rfl
  obtain⟨hm,hh,hct⟩:=Zuv hr
  obtain⟨g1,g2,g3,g4,g5⟩:=(Ms m).1 hm
  rcases(VL m.Mem h.mem).2 with c|⟨P,hP,jy⟩
  ·exact absurd c g1
  have okm:Bd P m:=⟨h.oV,jy,h.mV,h.Ae,h.MW.1,h.MW.2⟩
  obtain⟨b1,b2,b3,_⟩:=(Tree.pp (Zqw okm g2)).2
  change nU (pU m).B2 at b1
  change Bd P (pU m)at b2
  change(pU m).Mem=m.Mem at b3
  have be:=Zxq h g2.st
  have b1':nU (r6 m):=by have:=b1;rw[be]at this;exact this
  have b2':je (r6 m):=by have:=b2.oV;rw[be]at this;exact this
  have ex:=zj jy b2' b1'.st
  have er:=(Tree.pp (Zwo b2' jy)).2
  change 0<=(Dg (r6 m) m.Mem).2.2.F9/\(Dg (r6 m) m.Mem).2.2.F9<16 at er
  obtain⟨d1,d2,d3⟩:=(Tree.pp (OU b2' jy)).2
  change U (BS (r6 m) m.Mem).2.1.Value at d2
  change dy P (BS (r6 m) m.Mem).2.2 at d3
  rw[ex]at er
  rw[zaN,be]
  show FT {B2:=(Dg (r6 m) m.Mem).1,Mem:=(Dg (r6 m) m.Mem).2.1,B3:=m.B3,C1:=m.C1,B6:=m.B6,D4:=m.D4,B0:=m.B0,B9:=m.B9,B4:=false,B8:=m.B8} (Dg (r6 m) m.Mem).2.2 clock m.B9=_
  rw[ex]
  exact qO (n:=HR m (BS (r6 m) m.Mem).1 (BS (r6 m) m.Mem).2.2) d3 h.MW er d2 clock
 ·rfl

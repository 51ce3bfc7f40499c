import Derived.Test.YtaemmjbkndlkeaaGreatMigrateOrdersLaws2
import Derived.Test.YtaemmjbkndlkeaaGreatMigrateOrdersNewsB
open Nat renaming lt_succ_self->cN,blt->bN,le_refl->aX,zero_le->bC,le_of_eq->dG,pow_le_pow_right->dO,and_le_left->dV,pow_lt_pow_right->dW,zero_testBit->eL,testBit_and->eM
open List renaming replicate->cO,append->cP,mem_cons->cQ,not_mem_nil->cR,length_replicate->cS,length_take->aD,length_drop->aG,take->cU,drop->cV,ext_getElem->bR,range->cW,getD_eq_getElem?_getD->cX,length_singleton->cY,append_assoc->aM,set->dB,length_set->dC,length_cons->dD,length_nil->dE,length->dF,getD->aV,getElem?_take->aF
open Int renaming tmod->cZ,toNat->dA,emod_eq_of_lt->dH,pow_pos->dI,fdiv_eq_ediv_of_nonneg->dJ,le_of_lt->dK,pow_add->dL,mul_le_mul_of_nonneg_right->dM,lt_or_le->dQ,toNat_natCast->dX,tmod_eq_emod_of_nonneg->dZ,toNat_of_nonneg->eA,fdiv->eC,tdiv->eF,tdiv_eq_ediv_of_nonneg->eG,ediv_ediv_of_nonneg->eI,mul_ediv_add_emod->eJ,pow_succ->eK
open Bool renaming or_eq_true->aT,eq_iff_iff->eB,noConfusion->eH
open UInt8 renaming toNat_lt->dP,ofNat->eD
open BitVec renaming ofInt->dR,toNat_ofInt->dS,toNat_or->dT,toNat_and->dU
set_option maxRecDepth 100000
set_option linter.all false
namespace Go.Proofs.YtaemmjbkndlkeaaGreat
open Go Go.GD
open Go.IntKind(wrap i64 u32 u64 u8 wrap_i64 wrap_u32 wrap_u64 wrap_u8 wrap_i32)
variable {A a access clock f g op q r size v w x:Int}{P k n p:Nat}{b:gm}{c:bq}{d:fx}{mem:List Int}{s:List UInt8}
theorem vH(i:gw):U (oQ i).1:=by
 refine Tree.post (S6 i) (W:=λr=>U r.1) ?_
 unfold S6
 exact aq λ_ _=>ab (λ_=>gd) (λ_=>nJ _ _)
theorem vd(l:List Int)(hl:l.length*8<=reachBytes):(Nz l).w (λr=>(r.length:Int)=l.length/\∀w∈r,U w):=by
 have pF:l.length*8<=140737488351232:=hl
 have app:∀{r:List Int} {x:Int},(∀w∈r,U w)->U x->∀w∈r++[x],U w:=λhr hx w hw=>by
  rw[List.mem_append]at hw
  rcases hw with hw|hw
  ·exact hr w hw
  ·rw[List.mem_singleton.1 hw];exact hx
 unfold Nz
 refine fj (inv:=λz=>Qum l z/\∀w∈z.2,U w) (μ:=S7 l) ⟨⟨by omega,by simp,by simp⟩,by simp⟩ (cN _) (λv0 hv=>?_)
 obtain⟨⟨h1,h2,h3⟩,h4⟩:=hv
 refine ab (λh=>?_) (λh=>?_)
 ·have h:=oY h
  have next:∀x:Int,U x->(Qum l (wrap i64 (v0.1+1),v0.2++[x])/\∀w∈v0.2++[x],U w)/\S7 l (wrap i64 (v0.1+1),v0.2++[x])<S7 l v0:=λx hx=>by
   have hw:i64.wrap (v0.1+1)=v0.1+1:=by rw[wrap_i64];omega
   rw[hw]
   refine⟨⟨⟨?_,?_,?_⟩,app h4 hx⟩,?_⟩
   ·show 0<=v0.1+1;omega
   ·show v0.1+1<=l.length;omega
   ·show((v0.2++[x]).length:Int)=v0.1+1;simp;omega
   ·show(l.length-(v0.1+1)).toNat<(l.length-v0.1).toNat;omega
  have hb:(Nat.beq 1 1&&bN 0 1&&decide (0<=v0.1/\v0.1<(l.length:Int)))=true:=by simp[bN];omega
  have hc:decide (4*(v0.2.length+1)<=140737488355328)=true:=dY (by omega)
  exact aw hb (ab (λ_=>aw hb (aw hc (next _ (fk _)))) (λ_=>aw hb (c8 (yW _) (aq λx0 _=>aq λx1 hx=>aw hc (next _ (by rw[hx];exact vH _))))))
 ·have h:=oN h
  exact⟨by show(v0.2.length:Int)=l.length;omega,h4⟩
section
variable {P:Nat} {m:bc} (h:rO P m)
include h
theorem NA(port:Int)(hc:U clock):(Qs m port clock).w (λx=>U x.1/\rO P x.2/\x.2.B6=m.B6):=by
 have k:=(⟨h,rfl⟩:rO P m/\m.B6=m.B6)
 obtain⟨h1,h2,h3,h4,h5,h7⟩:=h
 unfold Qs
 exact ab (λ_=>aq λx hx=>⟨hx▸Zm5 _ _,⟨⟨h1,h2,h3,h4,h5,h7⟩,rfl⟩⟩) (λ_=>ab (λ_=>⟨hc,k⟩) (λ_=>ab (λ_=>aq λx hx=>⟨hx▸xA _,k⟩) (λ_=>ab (λ_=>aq λx hx=>⟨hx▸zW h3 _,k⟩) (λ_=>ab (λ_=>aq λx hx=>⟨hx▸zaw h4 _,k⟩) (λ_=>aq λx hx=>⟨hx▸Zm4 h5.1 _,k⟩)))))
theorem zay(port:Int)(hv:U v):(KF m port v).w (λx=>x.1.length<=1/\rO P x.2/\x.2.B6=m.B6):=by
 have k:=(⟨h,rfl⟩:rO P m/\m.B6=m.B6)
 obtain⟨h1,h2,h3,h4,h5,h7⟩:=h
 unfold KF
 exact ab (λ_=>⟨aX _,k⟩) (λ_=>ab (λ_=>⟨bC _,k⟩) (λ_=>ab (λ_=>aq λ_ _=>⟨bC _,⟨⟨h1,h2,h3,h4,h5,h7⟩,rfl⟩⟩) (λ_=>ab (λ_=>cv (qA h2 h3 _ hv _) λx hx=>⟨hx.2,⟨⟨h1,h2,hx.1,h4,h5,h7⟩,rfl⟩⟩) (λ_=>ab (λ_=>cv (xW h2 h4 _ hv _) λx hx=>⟨hx.2,⟨⟨h1,h2,h3,hx.1,h5,h7⟩,rfl⟩⟩) (λ_=>cv (zaJ h2 h5 _ hv) λx hx=>⟨bC _,⟨⟨h1,hx.2,h3,h4,hx.1,h7⟩,rfl⟩⟩)))))
theorem Zb9(hc:U clock):(NB m clock).w (λx=>x.1.length<=1/\rO P x.2/\x.2.B6=wrap .u64 (m.B6+1)):=by
 obtain⟨h1,h2,h3,h4,h5,h7⟩:=h
 unfold NB
 refine cv (Qwl h1) λx0 c0=>cv (NC c0 h2) λx1 hx=>?_
 obtain⟨c1,v1,m1⟩:=hx
 refine ab (λ_=>S8 (NA (m:=⟨_,_,_,_,_,_,_,_,_,_⟩) ⟨c1,m1,h3,h4,h5,h7⟩ _ hc) λx2 hx=>?_) (λ_=>ab (λ_=>cv (zay (m:=⟨_,_,_,_,_,_,_,_,_,_⟩) ⟨c1,m1,h3,h4,h5,h7⟩ _ v1) λx4 hx=>?_) (λ_=>?_))
 ·obtain⟨u,⟨k1,k2,k3,k4,k5,k7⟩,k6⟩:=hx
  exact cv (EK k1 _ u) λx3 h3=>⟨bC _,⟨h3,k2,k3,k4,k5,w0 _⟩,congrArg (λn=>wrap .u64 (n+1)) k6⟩
 ·obtain⟨u,⟨k1,k2,k3,k4,k5,k7⟩,k6⟩:=hx
  exact⟨u,⟨k1,k2,k3,k4,k5,w0 _⟩,congrArg (λn=>wrap .u64 (n+1)) k6⟩
 ·repeat'(first
   |exact⟨bC _,⟨c1,m1,h3,h4,h5,w0 _⟩,rfl⟩
   |refine ab (λ_=>?_) (λ_=>?_))
theorem xay:(Qj m).w (λx=>rO P x/\x.B6=m.B6):=by
 obtain⟨h1,h2,h3,h4,h5,h7⟩:=h
 unfold Qj
 exact cv (qaI h2) λx hx=>⟨⟨h1,by rw[hx];exact h2,h3,h4,h5,h7⟩,rfl⟩
end
theorem BZ(n:Nat):∀w∈cO n (0:Int),U w:=λw hw=>by rw[(List.mem_replicate.1 hw).2];exact gd
set_option synthInstance.maxHeartbeats 2000000
set_option synthInstance.maxSize 100000
noncomputable section
instance qI (src:List UInt8):Ck (Qme src):=tP (t:=ND src) (by delta ND;infer_instance)
instance qE (s:List UInt8):Ck (Qkw s):=tP (t:=NF s) (by delta NF;infer_instance)
instance xE (n:Int):Ck (EL n):=let d:Decidable (EL n):=(by delta EL;infer_instance);⟨@decide _ d,@oY _ d⟩
instance qe (n:Int):Ck (Qhu n):=tP (t:=IF n) (by delta IF;infer_instance)
instance xae (r:Int):Ck (Qsj r):=tP (t:=IG r) (by delta IG;infer_instance)
instance vX (s:List UInt8):Ck (WU s):=tP (t:=NG s) (by delta NG;infer_instance)
instance Zte (op:Int):Ck (Qfh op):=tP (t:=NH op) (by delta NH;infer_instance)
instance Zrl (s:List UInt8):Ck (KG s):=tP (t:=NI s) (by delta NI;infer_instance)
instance xe (ea:List UInt8):Ck (NJ ea):=tP (t:=NK ea) (by delta NK;infer_instance)
instance zE (s:List UInt8):Ck (Qk7 s):=tP (t:=NL s) (by delta NL;infer_instance)
instance ze (l:List ll) (p:List UInt8):Ck (NM l p):=tP (t:=NN l p) (by delta NN;infer_instance)
instance yE (s:List UInt8):Ck (Qk9 s):=tP (t:=NO s) (by delta NO;infer_instance)
instance ye (l:List oi) (label:List UInt8):Ck (GO l label):=let d:Decidable (GO l label):=(by delta GO;infer_instance);⟨@decide _ d,@oY _ d⟩
instance qY (src:List UInt8):Ck (Qpa src):=tP (t:=NP src) (by delta NP;infer_instance)
instance xY (st:kp) (v:Int):Ck (NQ st v):=tP (t:=NR st v) (by delta NR;infer_instance)
instance Ztf (src:List UInt8):Ck (WV src):=tP (t:=NS src) (by delta NS;infer_instance)
theorem qaf:WV ((108:UInt8)::(Ca++KH++(KI++KJ)++(KK++KL++(KM++KN))++(KO++KP++(KQ++KR)++(KS++KT++(KU++KV))))):=ck inferInstance (by kernel_rfl)
def inU(x:Int):Bool:=decide (0<=x)&&decide (x<4294967296)
theorem zaf(l:List Int)(h:(Nat.ble l.length 160&&List.all l inU)=true):l.length<=160/\∀w∈l,U w:=by
 rw[aE]at h
 refine⟨lE h.1,λw hw=>?_⟩
 have:=List.all_eq_true.1 h.2 w hw
 simp only[inU,aE,decide_eq_true_eq]at this
 exact this
theorem qf:(KW (cP (cP (cP (cP S9 KH) (cP KI KJ)) (cP (cP KK KL) (cP KM KN))) (cP (cP (cP KO KP) (cP KQ KR)) (cP (cP KS KT) (cP KU KV))))).1.length<=160/\∀w∈(KW (cP (cP (cP (cP S9 KH) (cP KI KJ)) (cP (cP KK KL) (cP KM KN))) (cP (cP (cP KO KP) (cP KQ KR)) (cP (cP KS KT) (cP KU KV))))).1,U w:=zaf _ (by kernel_rfl)
end
theorem Cb(i:List Int)(hu:∀w∈i,U w)(hl:i.length<=256):(GP 8 4 i).w (λx=>rO 8 x.1/\x.1.B6=0):=by
 unfold GP
 refine ab (λh=>absurd h (by decide)) λ_=>ab (λh=>absurd h (by decide)) λ_=>ab (λh=>absurd h (by decide)) λ_=>ab (λh=>absurd h (by decide)) λ_=>ab (λh=>?_) λ_=>aq λx0 e0=>c8 (Zla _) (aq λx1 e1=>?_)
 ·have h:=oY h
  rw[show i64.wrap (8*32)=256 by decide]at h
  omega
 have hx:x1=cO 256 0:=by rw[e1];kernel_rfl
 have c0:iL x0:=by rw[e0];exact⟨by
  intro w hw
  simp only[WW,Ta,Tree.m,iv.l,cQ,cR,or_false,or_self]at hw
  rw[hw];exact gd,gd,by
  intro w hw
  simp only[WW,Ta,Tree.m,A8.l,cQ,cR,or_false,or_self]at hw
  rcases hw with rfl|rfl
  ·exact⟨by omega,by omega⟩
  ·exact gd⟩
 have hz:∀w∈x1,U w:=by rw[hx];exact BZ 256
 have hn:x1.length=256:=by rw[hx,cS]
 refine⟨⟨c0,⟨?_,by omega,by omega,λw hw=>?_⟩,⟨gd,gd,gd,gd⟩,⟨gd,gd,gd,gd⟩,⟨gd,gd⟩,Int.le_refl _⟩,rfl⟩
 ·simp only[lA,aD,aG,hn];omega
 ·rcases List.mem_append.1 hw with h1|h1
  ·exact hu w (List.mem_of_mem_take h1)
  ·exact hz w (List.mem_of_mem_drop h1)
noncomputable section
def jM:List Int:=(KW (cP (cP (cP (cP S9 KH) (cP KI KJ)) (cP (cP KK KL) (cP KM KN))) (cP (cP (cP KO KP) (cP KQ KR)) (cP (cP KS KT) (cP KU KV))))).1
def tE:List Int:=jM++cO (160-jM.length) 0
theorem NT(t0 t1 t2 t3 t4 t5 t6 t7 t8 t9 t10 t11 t12 t13 t14 t15 t16 t17 t18 t19 t20 t21 t22 t23 t24 t25 t26 t27 t28 t29 t30 t31 t32 t33 t34 t35 t36 t37 t38 t39 t40 t41 t42 t43 t44 t45 t46 t47 t48 t49 t50 t51 t52 t53 t54 t55 t56 t57 t58 t59 t60 t61 t62 t63 t64 t65 t66 t67 t68 t69 t70 t71 t72 t73 t74 t75 t76 t77 t78 t79 t80 t81 t82 t83 t84 t85 t86 t87 t88 t89 t90 t91 t92 t93 t94 t95:Int):(KX (lr 8 4 (tE++[t0,t1,t2,t3,t4,t5,t6,t7,t8,t9,t10,t11,t12,t13,t14,t15,t16,t17,t18,t19,t20,t21,t22,t23,t24,t25,t26,t27,t28,t29,t30,t31,t32,t33,t34,t35,t36,t37,t38,t39,t40,t41,t42,t43,t44,t45,t46,t47,t48,t49,t50,t51,t52,t53,t54,t55,t56,t57,t58,t59,t60,t61,t62,t63,t64,t65,t66,t67,t68,t69,t70,t71,t72,t73,t74,t75,t76,t77,t78,t79,t80,t81,t82,t83,t84,t85,t86,t87,t88,t89,t90,t91,t92,t93,t94,t95])).1 [] 87).2.2.2=0:=by kernel_rfl
end
attribute [local irreducible] KW
theorem xf(i j:List Int)(hi:i.length<=256)(hj:j.length<=256)(e:i++cO (256-i.length) 0=j++cO (256-j.length) 0):lr 8 4 i=lr 8 4 j:=by
 have w:i64.wrap (8*32)=256:=by decide
 have m:Tb 8=cO 256 0:=by kernel_rfl
 have d:∀k:List Int,k.length<=256->decide ((k.length:Int)>256)=false:=λk h=>dN (by omega)
 have mem:∀k:List Int,k.length<=256->cU (min k.length (cO 256 (0:Int)).length) k++cV (min k.length (cO 256 (0:Int)).length) (cO 256 0)=k++cO (256-k.length) 0:=λk h=>by
  rw[cS,Nat.min_eq_left h,List.take_length,List.drop_replicate]
 have r:Tb 8=cO 256 0:=by kernel_rfl
 simp only[lr,GP,Tree.m,w,ee,r,d i hi,d j hj]
 simp only[mem i hi,mem j hj,e]
theorem IH(t:List Int)(ht:t.length=96):t=[t.getD 0 0,t.getD 1 0,t.getD 2 0,t.getD 3 0,t.getD 4 0,t.getD 5 0,t.getD 6 0,t.getD 7 0,t.getD 8 0,t.getD 9 0,t.getD 10 0,t.getD 11 0,t.getD 12 0,t.getD 13 0,t.getD 14 0,t.getD 15 0,t.getD 16 0,t.getD 17 0,t.getD 18 0,t.getD 19 0,t.getD 20 0,t.getD 21 0,t.getD 22 0,t.getD 23 0,t.getD 24 0,t.getD 25 0,t.getD 26 0,t.getD 27 0,t.getD 28 0,t.getD 29 0,t.getD 30 0,t.getD 31 0,t.getD 32 0,t.getD 33 0,t.getD 34 0,t.getD 35 0,t.getD 36 0,t.getD 37 0,t.getD 38 0,t.getD 39 0,t.getD 40 0,t.getD 41 0,t.getD 42 0,t.getD 43 0,t.getD 44 0,t.getD 45 0,t.getD 46 0,t.getD 47 0,t.getD 48 0,t.getD 49 0,t.getD 50 0,t.getD 51 0,t.getD 52 0,t.getD 53 0,t.getD 54 0,t.getD 55 0,t.getD 56 0,t.getD 57 0,t.getD 58 0,t.getD 59 0,t.getD 60 0,t.getD 61 0,t.getD 62 0,t.getD 63 0,t.getD 64 0,t.getD 65 0,t.getD 66 0,t.getD 67 0,t.getD 68 0,t.getD 69 0,t.getD 70 0,t.getD 71 0,t.getD 72 0,t.getD 73 0,t.getD 74 0,t.getD 75 0,t.getD 76 0,t.getD 77 0,t.getD 78 0,t.getD 79 0,t.getD 80 0,t.getD 81 0,t.getD 82 0,t.getD 83 0,t.getD 84 0,t.getD 85 0,t.getD 86 0,t.getD 87 0,t.getD 88 0,t.getD 89 0,t.getD 90 0,t.getD 91 0,t.getD 92 0,t.getD 93 0,t.getD 94 0,t.getD 95 0]:=by
 apply bR
 ·rw[ht];rfl
 ·intro i h1 h2
  have e:∀j (hj:j<96),[t.getD 0 0,t.getD 1 0,t.getD 2 0,t.getD 3 0,t.getD 4 0,t.getD 5 0,t.getD 6 0,t.getD 7 0,t.getD 8 0,t.getD 9 0,t.getD 10 0,t.getD 11 0,t.getD 12 0,t.getD 13 0,t.getD 14 0,t.getD 15 0,t.getD 16 0,t.getD 17 0,t.getD 18 0,t.getD 19 0,t.getD 20 0,t.getD 21 0,t.getD 22 0,t.getD 23 0,t.getD 24 0,t.getD 25 0,t.getD 26 0,t.getD 27 0,t.getD 28 0,t.getD 29 0,t.getD 30 0,t.getD 31 0,t.getD 32 0,t.getD 33 0,t.getD 34 0,t.getD 35 0,t.getD 36 0,t.getD 37 0,t.getD 38 0,t.getD 39 0,t.getD 40 0,t.getD 41 0,t.getD 42 0,t.getD 43 0,t.getD 44 0,t.getD 45 0,t.getD 46 0,t.getD 47 0,t.getD 48 0,t.getD 49 0,t.getD 50 0,t.getD 51 0,t.getD 52 0,t.getD 53 0,t.getD 54 0,t.getD 55 0,t.getD 56 0,t.getD 57 0,t.getD 58 0,t.getD 59 0,t.getD 60 0,t.getD 61 0,t.getD 62 0,t.getD 63 0,t.getD 64 0,t.getD 65 0,t.getD 66 0,t.getD 67 0,t.getD 68 0,t.getD 69 0,t.getD 70 0,t.getD 71 0,t.getD 72 0,t.getD 73 0,t.getD 74 0,t.getD 75 0,t.getD 76 0,t.getD 77 0,t.getD 78 0,t.getD 79 0,t.getD 80 0,t.getD 81 0,t.getD 82 0,t.getD 83 0,t.getD 84 0,t.getD 85 0,t.getD 86 0,t.getD 87 0,t.getD 88 0,t.getD 89 0,t.getD 90 0,t.getD 91 0,t.getD 92 0,t.getD 93 0,t.getD 94 0,t.getD 95 0][j]'hj=t.getD j 0:=by
   intro j hj
   have:[t.getD 0 0,t.getD 1 0,t.getD 2 0,t.getD 3 0,t.getD 4 0,t.getD 5 0,t.getD 6 0,t.getD 7 0,t.getD 8 0,t.getD 9 0,t.getD 10 0,t.getD 11 0,t.getD 12 0,t.getD 13 0,t.getD 14 0,t.getD 15 0,t.getD 16 0,t.getD 17 0,t.getD 18 0,t.getD 19 0,t.getD 20 0,t.getD 21 0,t.getD 22 0,t.getD 23 0,t.getD 24 0,t.getD 25 0,t.getD 26 0,t.getD 27 0,t.getD 28 0,t.getD 29 0,t.getD 30 0,t.getD 31 0,t.getD 32 0,t.getD 33 0,t.getD 34 0,t.getD 35 0,t.getD 36 0,t.getD 37 0,t.getD 38 0,t.getD 39 0,t.getD 40 0,t.getD 41 0,t.getD 42 0,t.getD 43 0,t.getD 44 0,t.getD 45 0,t.getD 46 0,t.getD 47 0,t.getD 48 0,t.getD 49 0,t.getD 50 0,t.getD 51 0,t.getD 52 0,t.getD 53 0,t.getD 54 0,t.getD 55 0,t.getD 56 0,t.getD 57 0,t.getD 58 0,t.getD 59 0,t.getD 60 0,t.getD 61 0,t.getD 62 0,t.getD 63 0,t.getD 64 0,t.getD 65 0,t.getD 66 0,t.getD 67 0,t.getD 68 0,t.getD 69 0,t.getD 70 0,t.getD 71 0,t.getD 72 0,t.getD 73 0,t.getD 74 0,t.getD 75 0,t.getD 76 0,t.getD 77 0,t.getD 78 0,t.getD 79 0,t.getD 80 0,t.getD 81 0,t.getD 82 0,t.getD 83 0,t.getD 84 0,t.getD 85 0,t.getD 86 0,t.getD 87 0,t.getD 88 0,t.getD 89 0,t.getD 90 0,t.getD 91 0,t.getD 92 0,t.getD 93 0,t.getD 94 0,t.getD 95 0]=(cW 96).map (λk=>t.getD k 0):=rfl
   simp only[this,List.getElem_map,List.getElem_range]
  rw[e i (by omega),cX,List.getElem?_eq_getElem h1]
  rfl
theorem zY(t:List Int)(ht:t.length=96):(KX (lr 8 4 (tE++t)).1 [] 87).2.2.2=0:=by
 rw[IH t ht]
 exact NT _ _ _ _ _ _ _ _ _ _ _ _ _ _ _ _ _ _ _ _ _ _ _ _ _ _ _ _ _ _ _ _ _ _ _ _ _ _ _ _ _ _ _ _ _ _ _ _ _ _ _ _ _ _ _ _ _ _ _ _ _ _ _ _ _ _ _ _ _ _ _ _ _ _ _ _ _ _ _ _ _ _ _ _ _ _ _ _ _ _ _ _ _ _ _ _
theorem zf:tE.length=160:=by
 have h:jM.length<=160:=qf.1
 unfold tE
 rw[lA,cS];omega
theorem xaf{m:bc}(h:rO P m):(II m [] 87).w (λx=>x.2.2.2=0->rO P x.1):=by
 have z:∀{k:Int} {p:Prop},k≠0->k=0->p:=λa b=>absurd b a
 unfold II
 refine aq λx0 _=>ab (λ_=>z (by decide)) λ_=>ab (λ_=>z (by decide)) λ_=>ab (λ_=>z (by decide)) λ_=>c8 (show NU [] by show([]:List pK).length<=1000000000000;decide) (aq λx1 _=>ab (λ_=>z (by decide)) λ_=>cv (xay h) λx2 hx=>?_)
 have hc:=h.tF
 refine fj (inv:=λv:bc×List il=>rO P v.1/\v.2.length+(87-v.1.B6).toNat<=87) (μ:=WX m [] 87) ⟨hx.1,by rw[hx.2];show 0+_<=87;omega⟩ (cN _) λv0 ⟨a1,a3⟩=>?_
 have a2:=a1.tF
 refine ab (λhb=>ab (λ_=>?_) (λ_=>λ_=>a1)) (λ_=>λ_=>a1)
 have hb:=oY hb
 refine fj (inv:=λ_=>True) (μ:=WY m [] 87 v0) trivial (cN _) λv1 _=>?_
 refine ab (λ_=>λ_=>a1) λ_=>cv (qaJ _) λx3 _=>ab (λ_=>λ_=>a1) λ_=>cv (qaw a1.oy a1.mem) λx4 _=>ab (λ_=>z (by decide)) λ_=>cv (Zb9 a1 gd) λx5 h5=>?_
 obtain⟨b1,b2,b3⟩:=h5
 refine aw (dY (by omega)) (ep ?_)
 have e:x5.2.B6=v0.1.B6+1:=by rw[b3,wrap_u64];omega
 show(_/\_)/\(_:Nat)<_
 refine⟨⟨b2,by show(v0.2++x5.1).length+(87-x5.2.B6).toNat<=87;rw[lA];omega⟩,by show(87-x5.2.B6).toNat<(87-v0.1.B6).toNat;omega⟩
theorem Zo(kind:Int)(l:List Int)(hl:l.length*8<=reachBytes)(h40:l.length<=60):(IJ kind l).w (rO 8):=by
 unfold IJ
 refine c8 (IK (by decide)) (aq λx0 nV=>ab (λ_=>c8 qaf (aq λx1 e1=>?_)) (λhk=>?_))
 ·have eb:x1.1=jM:=by rw[e1];rfl
  obtain⟨q1,q2⟩:jM.length<=160/\∀w∈jM,U w:=qf
  refine fj (inv:=λv:List Int=>v.length<=160/\v=jM++cO (v.length-jM.length) 0) (μ:=WZ kind l) ⟨by rw[eb];exact q1,by rw[eb];simp⟩ (cN _) λv0 ⟨a1,a2⟩=>?_
  have a3:jM.length<=v0.length:=by rw[a2,lA];omega
  refine ab (λhb=>?_) (λhb=>?_)
  ·have hb:=oY hb
   refine aw (dY (by omega)) (ep ?_)
   show(_/\_)/\(_:Nat)<_
   refine⟨⟨by rw[lA,cY];omega,?_⟩,by show 160-(v0++[0]).length<160-v0.length;rw[lA,cY];omega⟩
   show v0++[0]=jM++cO ((v0++[0]).length-jM.length) 0
   rw[lA,cY,show v0.length+1-jM.length=(v0.length-jM.length)+1 by omega,List.replicate_succ',<-aM,<-a2]
  ·have hb:=oN hb
   have hv:v0=tE:=by
    unfold tE
    rw[show(160:Nat)=v0.length by omega]
    exact a2
   subst hv
   have hp:=zf
   have W0:∀w∈tE,U w:=λw hw=>(List.mem_append.1 hw).elim (q2 w) (BZ _ w)
   refine cv (vd l hl) λx2 ⟨b1,b2⟩=>aw (dY (by omega)) ?_
   have hu:∀w∈tE++x2,U w:=λw hw=>(List.mem_append.1 hw).elim (W0 w) (b2 w)
   have hlen:(tE++x2).length<=256:=by rw[lA];omega
   refine ab (λhb=>?_) (λhb=>?_)
   ·have hb:=oY hb;omega
   ·have nw:=Tree.pp (Cb _ hu hlen)
    refine c8 nw.1 (aq λx3 h3=>?_)
    have c1:rO 8 x3.1:=by rw[h3];exact nw.2.1
    have rn:=Tree.pp (xaf c1)
    refine ab (λ_=>c8 rn.1 (aq λx4 hx=>?_)) (λ_=>c1)
    have e:x3=lr 8 4 (tE++(x2++cO (96-x2.length) 0)):=by
     rw[h3]
     have IL:(x2++cO (96-x2.length) (0:Int)).length=96:=by rw[lA,cS];omega
     refine xf _ _ hlen (by rw[lA,IL];omega) ?_
     rw[lA,lA,IL,hp,aM,aM,aM,show 256-(160+96)=0 by omega,show 256-(160+x2.length)=96-x2.length by omega]
     simp
    have h0:x4.2.2.2=0:=by
     rw[hx,e]
     exact zY _ (by rw[lA,cS];omega)
    exact(by rw[hx];exact rn.2:x4.2.2.2=0->rO 8 x4.1) h0
 ·have hk:=oN hk
  refine cv (vd l hl) λx2 ⟨b1,b2⟩=>aw (dY (by omega)) ?_
  refine ab (λhb=>?_) (λhb=>?_)
  ·have hb:=oY hb;omega
  ·have nw:=Tree.pp (Cb _ b2 (by omega))
   refine c8 nw.1 (aq λx3 h3=>?_)
   have c1:rO 8 x3.1:=by rw[h3];exact nw.2.1
   exact ab (λh=>absurd (eq_of_beq h) (by omega)) (λ_=>c1)
def out(f:Int)(m m':List Int):Prop:=∀j:Nat,¬(f*32<=j/\(j:Int)<f*32+32)->m'.getD j 0=m.getD j 0
theorem W3(f:Int)(m:List Int):out f m m:=λ_ _=>rfl
theorem wA(l:List Int)(i j:Nat)(v:Int)(h:i≠j):(l.set i v).getD j 0=l.getD j 0:=by
 simp only[cX,List.getElem?_set_ne h]
theorem ur{m:List Int}(h:Q1 P m):jQ m=P:=by
 obtain⟨h1,h2,h3,_⟩:=h
 simp only[jQ,GQ,Tree.m]
 have e:(m.length:Int)=32*P:=by omega
 rw[e]
 have e1:(cZ (32*(P:Int)) 32 !=0)=false:=by simp[Int.mul_tmod_right]
 have e2:decide ((32*(P:Int))>1024)=false:=dN (by omega)
 rw[e1,e2]
 simp only[cond_false]
 rw[Int.mul_tdiv_cancel_left _ (by decide),wrap_i64];omega
theorem yY{m:List Int}(h:Q1 P m)(f:Int):EM m f=true->0<=f/\f<P:=by
 have hp:=ur h
 simp only[EM,KY,Tree.m,ee,hp]
 cases h1:decide (f>=0)
 ·intro h;cases h
 ·intro h;exact⟨oY h1,oY h⟩
theorem yf{m:List Int}(h:Q1 P m)(f:Int)(s:List UInt8):(IM m f s).w (λr=>Q1 P r.1/\out f m r.1/\(r.2=false->r.1=m)):=by
 have jm:kA m=m:=rfl
 have h2:=h.p2
 unfold IM
 refine c8 (GR h) (aq λx0 nV=>aq λx1 pd=>?_)
 rw[jm]at nV;subst nV
 refine ab (λ_=>⟨h,W3 _ _,λ_=>rfl⟩) λhb=>ab (λ_=>⟨h,W3 _ _,λ_=>rfl⟩) λhs=>?_
 have hb:x1=true:=by simpa using hb
 obtain⟨f0,f1⟩:=yY h f (pd.symm.trans hb)
 have hs:(s.length:Int)=128:=by simpa using hs
 refine fj (inv:=λz:Int×List Int=>0<=z.1/\z.1<=32/\Q1 P z.2/\out f x0 z.2) (μ:=W4 x0 f s) ⟨show(0:Int)<=0 by decide,show(0:Int)<=32 by decide,h,W3 _ _⟩ (cN _) λz ⟨z1,z2,z3,z4⟩=>?_
 refine ab (λhb=>?_) (λ_=>⟨z3,z4,λh=>by cases h⟩)
 have hb:=oY hb
 have e1:i64.wrap (4*z.1)=4*z.1:=by rw[wrap_i64];omega
 have e2:i64.wrap (i64.wrap (4*z.1)+4)=4*z.1+4:=by rw[wrap_i64,wrap_i64];omega
 have e3:i64.wrap (i64.wrap (f*32)+z.1)=f*32+z.1:=by rw[wrap_i64,wrap_i64];omega
 have hl:=z3.len
 have hlen:(cU (dA (i64.wrap (i64.wrap (4*z.1)+4))-dA (i64.wrap (4*z.1))) (cV (dA (i64.wrap (4*z.1))) s)).length=4:=by
  rw[e2,e1,aD,aG];omega
 refine aw (dY (by rw[e2,e1];omega)) ?_
 refine aw (dY (by rw[hlen];decide)) (aw (dY (by rw[hlen];decide)) (aw (dY (by rw[hlen];decide)) (aw (dY (by rw[hlen];decide)) (aw (by rw[e3];simp[bN];omega) (ep ?_)))))
 show(_/\_/\Q1 P (dB _ _ _)/\out f x0 (dB _ _ _))/\(_:Nat)<_
 have ew:i64.wrap (z.1+1)=z.1+1:=by rw[wrap_i64];omega
 rw[e3]
 refine⟨⟨by rw[ew];omega,by rw[ew];omega,⟨by rw[dC];exact hl,z3.p1,z3.p2,EN z3.u (nJ _ _) _⟩,λj hj=>?_⟩,by show(32-i64.wrap (z.1+1)).toNat<(32-z.1).toNat;rw[ew];omega⟩
 rw[wA _ _ _ _ (by omega)]
 exact z4 j hj
theorem qaz(w:List Int)(h:w.length<=32):(EO w).w (λr=>r.length=4*w.length):=by
 have e0:i64.wrap (4*(w.length:Int))=4*w.length:=by rw[wrap_i64];omega
 unfold EO
 refine aw (by rw[e0];simp[bN,D.plain];omega) ?_
 refine fj (inv:=λz:Int×List Int=>0<=z.1/\z.1<=w.length/\(z.2.length:Int)=4*z.1) (μ:=Q8 w) ⟨by decide,by show(0:Int)<=w.length;omega,rfl⟩ (cN _) λz ⟨z1,z2,z3⟩=>?_
 refine ab (λhb=>?_) (λhb=>?_)
 ·have hb:=oY hb
  have ew:i64.wrap (z.1+1)=z.1+1:=by rw[wrap_i64];omega
  refine aw (by simp[bN];omega) (aw (dY (by omega)) (ep ?_))
  show(_/\_/\_)/\(_:Nat)<_
  refine⟨⟨by rw[ew];omega,by rw[ew];omega,by rw[ew,lA];simp only[dD,dE];omega⟩,by show(w.length-i64.wrap (z.1+1)).toNat<(w.length-z.1).toNat;rw[ew];omega⟩
 ·have hb:=oN hb
  show(bytesOf z.2).length=_
  rw[NV];omega
theorem vf{m:List Int}(h:Q1 P m)(f:Int):(DP m f).w (λr=>0<=f->f<P->r.1.length=128):=by
 have hl:=h.len
 have h2:=h.p2
 unfold DP
 refine aq λx0 nV=>ab (λhb=>λf0 f1=>?_) (λhb=>?_)
 ·have hp:=ur h
  have hb:x0=false:=by simpa using hb
  rw[hb]at nV
  simp only[EM,KY,Tree.m,ee,hp]at nV
  rw[dY f0]at nV
  exact absurd f1 (oN nV.symm)
 ·have hb:x0=true:=by simpa using hb
  obtain⟨f0,f1⟩:=yY h f (nV.symm.trans hb)
  have e1:i64.wrap (f*32)=f*32:=by rw[wrap_i64];omega
  have e2:i64.wrap (i64.wrap (f*32)+32)=f*32+32:=by rw[wrap_i64,wrap_i64];omega
  have hlen:(cU (dA (i64.wrap (i64.wrap (f*32)+32))-dA (i64.wrap (f*32))) (cV (dA (i64.wrap (f*32))) m)).length=32:=by
   rw[e2,e1,aD,aG];omega
  refine aw (by rw[e2,e1];simp[bN];omega) ?_
  refine c8 (by show dF _<=1000000000000;rw[hlen];decide) (aq λx1 h1=>?_)
  have h1:x1.length=4*(cU (dA (i64.wrap (i64.wrap (f*32)+32))-dA (i64.wrap (f*32))) (cV (dA (i64.wrap (f*32))) m)).length:=by rw[h1];exact(Tree.pp (qaz _ (dG hlen))).2
  intro _ _
  show x1.length=128
  rw[h1,hlen]
theorem vY(hf:U f)(hP:P<=32)(h:decide (u64.wrap f<u64.wrap (P:Int))=true):0<=f/\f<P:=by
 have h:=oY h
 obtain⟨h1,h2⟩:=hf
 rw[wrap_u64,wrap_u64,dH h1 (by omega),dH (by omega) (by omega)]at h
 exact⟨h1,h⟩
theorem qZ(m:bc):wC m=(AY m.B2&&(AZ m.B9&&(re m.B7 (jQ m.Mem)&&(wD m.D2 (jQ m.Mem)&&Ba m.A7 (jQ m.Mem))))):=by
 simp only[wC,GS,Tree.m,ee]
 cases AY m.B2<;>cases AZ m.B9<;>cases re m.B7 (jQ m.Mem)<;>cases wD m.D2 (jQ m.Mem)<;>rfl
def chain(b1 b2 b3 b4 b5 b6 b7 w h dev:Bool):Bool:=bif b1 then false else bif b2 then false else bif b3 then false else bif b4 then false else bif b5 then false else bif b6 then false else bif b7 then false else bif w then(bif h then false else dev)else dev
def NW(p:Int)(c:bq)(ct:Int)(w h dev:Bool):Bool:=chain (p==0) (c.X.a0 !=0) (decide (c.C3.a0>31)) (decide (c.C3.a7>31)) (decide (c.C3.a6>255)) (cZ c.C3.a1 4 !=0) (decide (ct>1152921504606846976)) w h dev
theorem zaz(m:bc):Bb m=NW (jQ m.Mem) m.B4 m.B6 m.B3 m.B5 (wC m):=rfl
section
variable {P:Nat} {m:List Int} (h:Q1 P m)
include h
theorem NX(hf:U f){b:Bool}(hx:b=NY m f)(hb:b=true):0<=f/\f<P:=by
 have hp:=ur h
 rw[hb]at hx
 simp only[NY,Tc,Tree.m,ee,hp]at hx
 exact vY hf h.p2 hx.symm
theorem GU(hf:U f){b:Bool}(hx:b=KZ m f)(hb:b=true):0<=f/\f<P:=by
 have hp:=ur h
 rw[hb]at hx
 simp only[KZ,Td,Tree.m,ee,hp]at hx
 exact vY hf h.p2 hx.symm
def sF(P:Nat)(d d':fx):Prop:=Ar d'/\(re d P=true->re d' P=true)
theorem qg(hd:Ar d){cmd:Int}(hc:cmd=1\/cmd=2)(gg:Int):(K0 d m cmd gg).w (λr=>sF P d r.1/\r.2.length<=1):=by
 have h2:=h.p2
 have st3:(d.C7 !=0)=false->sF P d {ae:=d.ae,C8:=d.C8,Frame:=d.Frame,C7:=3,F7:=d.F7,C5:=d.C5,C6:=d.C6,C9:=d.C9}:=λhs=>by
  have hs:d.C7=0:=by simpa using hs
  refine⟨⟨hd.block,hd.frame,hd.ki,hd.kj⟩,λhm=>?_⟩
  simp only[re,EP,Tree.m,hs]at hm⊢
  exact hm
 have NZ:re d P=true->decide (d.ae>64)=false:=λhm=>by
  cases hb:decide (d.ae>64)
  ·rfl
  ·have:re d P=false:=by simp only[re,EP,Tree.m];rw[hb];rfl
   rw[this]at hm;cases hm
 unfold K0
 refine ab (λ_=>⟨⟨hd,λh=>h⟩,bC _⟩) λhs=>ab (λ_=>⟨st3 hs,bC _⟩) λhb=>aq λx0 hx=>ab (λ_=>⟨st3 hs,bC _⟩) λhp=>?_
 have hb:=oN hb
 obtain⟨f0,f1⟩:=NX h hd.frame hx (by simpa using hp)
 have ef:i64.wrap d.Frame=d.Frame:=by rw[wrap_i64];omega
 have e1:decide (d.C8<d.ae)=true:=dY (by omega)
 have e2:decide (i64.wrap d.Frame<(P:Int))=true:=by rw[ef];exact dY f1
 refine ab (λAq=>cv (vf h _) λx1 h1=>?_) (λAq=>?_)
 ·rw[ef]at h1
  have h1:=h1 f0 f1
  have Aq:=eq_of_beq Aq
  subst Aq
  refine aq λx2 _=>⟨⟨⟨hd.block,hd.frame,hd.block,hd.frame⟩,λhm=>?_⟩,aX _⟩
  simp only[re,EP,Te,N0,Tree.m,ee,NZ hm,e1,e2,h1]
  rfl
 ·have hc:cmd=1:=by
   rcases hc with h|h
   ·exact h
   ·rw[h]at Aq;exact absurd Aq (by decide)
  subst hc
  refine aq λx2 _=>⟨⟨⟨hd.block,hd.frame,hd.block,hd.frame⟩,λhm=>?_⟩,aX _⟩
  simp only[re,EP,Te,N0,Tree.m,ee,NZ hm,e1,e2]
  rfl
theorem qag(hd:Ar d)(port:Int)(hv:U v)(gg:Int):(K1 d m port v gg).w (λr=>sF P d r.1/\r.2.length<=1):=by
 have dv:sF P d d:=⟨hd,λh=>h⟩
 have e1:∀{k:Int},(v==k)=true->i64.wrap v=k:=λhk=>by
  have:=eq_of_beq hk
  obtain⟨a,b⟩:=hv
  rw[wrap_i64];omega
 unfold K1
 refine ab (λ_=>⟨⟨⟨hv,hd.frame,hd.ki,hd.kj⟩,λh=>h⟩,bC _⟩) λ_=>ab (λ_=>⟨⟨⟨hd.block,hv,hd.ki,hd.kj⟩,λh=>h⟩,bC _⟩) λ_=>ab (λ_=>ab (λhk=>cv (qg h hd (.inl (e1 hk)) _) λx hx=>hx) λ_=>ab (λhk=>cv (qg h hd (.inr (e1 hk)) _) λx hx=>hx) λ_=>ab (λ_=>aq λx hx=>ab (λhb=>?_) (λ_=>⟨dv,bC _⟩)) (λ_=>⟨dv,bC _⟩)) (λ_=>⟨dv,bC _⟩)
 refine⟨⟨⟨hd.block,hd.frame,hd.ki,hd.kj⟩,λhm=>?_⟩,bC _⟩
 rw[hb]at hx
 simp only[K3,W5,Tree.m]at hx
 cases h2:d.C7==2
 ·rw[h2]at hx
  have h3:d.C7=3:=eq_of_beq hx.symm
  simp only[re,EP,Tree.m,h3]at hm⊢
  exact hm
 ·have h3:d.C7=2:=eq_of_beq h2
  simp only[re,EP,Tree.m,h3]at hm⊢
  exact hm
def Cc(P:Nat)(n n':gx):Prop:=uu n'/\(wD n P=true->wD n' P=true)
theorem xaz{n:gx}(hn:uu n)(gg:Int):(K4 n m gg).w (λr=>r.length<=1):=by
 have h2:=h.p2
 unfold K4
 refine ab (λ_=>bC _) λl1=>ab (λ_=>bC _) λl2=>aq λx0 hx=>ab (λ_=>bC _) λhp=>cv (vf h _) λx1 h1=>?_
 have l1:=oN l1
 have l2:=oN l2
 obtain⟨f0,f1⟩:=GU h hn.frame hx (by simpa using hp)
 have ef:i64.wrap n.Frame=n.Frame:=by rw[wrap_i64];omega
 rw[ef]at h1
 have h1:=h1 f0 f1
 exact aw (dY (by omega)) (aX _)
theorem qaA{n:gx}(hn:uu n)(port:Int){v:Int}(hv:U v)(gg:Int):(K5 n m port v gg).w (λr=>Cc P n r.1/\r.2.length<=1):=by
 have h2:=h.p2
 have dv:Cc P n n:=⟨hn,λh=>h⟩
 unfold K5
 refine ab (λ_=>⟨⟨⟨hv,hn.len,hn.buffer,hn.GV⟩,λh=>h⟩,bC _⟩) λ_=>ab (λ_=>⟨⟨⟨hn.frame,hv,hn.buffer,hn.GV⟩,λh=>h⟩,bC _⟩) λ_=>ab (λ_=>ab (λ_=>cv (xaz h hn _) λx hx=>⟨dv,hx⟩) λ_=>ab (λ_=>aq λx hx=>ab (λhb=>ab (λnp=>ab (λnr=>?_) (λ_=>⟨dv,bC _⟩)) (λ_=>⟨dv,bC _⟩)) (λ_=>⟨dv,bC _⟩)) λ_=>ab (λ_=>?_) (λ_=>⟨dv,bC _⟩)) (λ_=>⟨dv,bC _⟩)
 ·obtain⟨f0,f1⟩:=GU h hn.frame hx hb
  have np:n.D1=false:=by simpa using np
  have nr:n.C4=false:=by simpa using nr
  have e2:decide (i64.wrap n.Frame>=(P:Int))=false:=dN (by rw[wrap_i64];omega)
  refine⟨⟨⟨hn.frame,hn.len,hn.frame,hn.GV⟩,λhm=>?_⟩,bC _⟩
  simp only[wD,N1,Tree.m,np,nr,e2]at hm⊢
  cases hb:(n.D3 !=0)
  ·rw[hb]at hm;exact hm
  ·rw[hb]at hm;cases hm
 ·refine⟨⟨⟨hn.frame,hn.len,hn.buffer,gd⟩,λhm=>?_⟩,bC _⟩
  simp only[wD,N1,Tree.m]at hm⊢
  revert hm
  cases n.D1<;>cases n.C4<;>cases decide (i64.wrap n.D3>=(P:Int))<;>cases(n.D3 !=0)<;>simp
end
theorem zag(t:iV)(v:Int):AZ (N2 t v)=true:=by
 simp only[N2,Tf,AZ,Tg,Tree.m]
 cases h:(v !=0)
 ·have:v=0:=by simpa using h
  subst this;rfl
 ·rfl
theorem DQ(k:Nat)(hk:k<=32):bj .u32 a k=a/2^k:=by
 unfold bj
 have e:min (k:Int).toNat u32.bits=k:=by show min (k:Int).toNat 32=k;omega
 have hp:(0:Int)<2^k:=dI (by decide)
 rw[e,dJ _ (dK hp)]
def K6(x:Int)(n:Nat):Prop:=x<2^n/\(n=0\/(2:Int)^(n-1)<=x)
theorem W6(hq:q=x/2^k)(h0:0<q)(h:K6 q n):K6 x (n+k):=by
 have hp:(0:Int)<2^k:=dI (by decide)
 obtain⟨h1,h2⟩:=h
 have hn:n≠0:=λe=>by subst e;simp at h1;omega
 refine⟨?_,.inr ?_⟩
 ·rw[dL]
  have:x<(x/2^k+1)*2^k:=Int.lt_ediv_add_one_mul_self x hp
  have h3:(x/2^k+1)*2^k<=2^n*2^k:=dM (by omega) (dK hp)
  omega
 ·have h2:=h2.resolve_left hn
  have e:n+k-1=(n-1)+k:=by omega
  rw[e,dL]
  have h3:(2:Int)^(n-1)*2^k<=q*2^k:=dM h2 (dK hp)
  have h4:q*2^k<=x:=by rw[hq];exact Int.ediv_mul_le x (Int.ne_of_gt hp)
  omega
theorem xI(h:K6 x n)(hx:x<2^p):n<=p:=by
 obtain⟨h1,h2⟩:=h
 rcases h2 with h2|h2
 ·omega
 ·rcases Nat.lt_or_ge p n with bd|gh
  ·have:(2:Int)^p<=2^(n-1):=by
    have:=dO (show 0<2 by omega) (show p<=n-1 by omega)
    exact_mod_cast this
   omega
  ·exact gh
theorem Zn3(h:K6 x n)(hn:n<=p):x<2^p:=by
 have:(2:Int)^n<=2^p:=by
  have:=dO (show 0<2 by omega) hn
  exact_mod_cast this
 exact Int.lt_of_lt_of_le h.1 this
def Cd(i:Nat):Bool:=match(wE (i:Int))with
 |.ofNat n=>decide ((i:Int)<2^n)&&(Nat.beq n 0||decide ((2:Int)^(n-1)<=i))&&decide (n<=8)
 |_=>false
theorem Th(h0:0<=q)(h1:q<256):∃n:Nat,wE q=n/\K6 q n/\n<=8:=by
 have all:List.all (cW 256) Cd=true:=by kernel_rfl
 have:=List.all_eq_true.1 all q.toNat (List.mem_range.2 (by omega))
 have hq:((q.toNat:Nat):Int)=q:=by omega
 unfold Cd at this
 rw[hq]at this
 split at this
 ·rename_i n hn
  simp only[aE,aT,decide_eq_true_eq]at this
  refine⟨n,hn,⟨this.1.1,?_⟩,this.2⟩
  rcases this.1.2 with h|h
  ·exact .inl (bE h)
  ·exact .inr h
 ·cases this
theorem zaA(h:U x)(hx:16777216<=x):wE x=24+wE (x/16777216):=by
 obtain⟨h0,h1⟩:=h
 have Bc:bj .u32 x 16=x/65536:=DQ 16 (by omega)
 have uv:bj .u32 (x/65536) 8=x/16777216:=by rw[show((8:Int))=((8:Nat):Int) from rfl,DQ 8 (by omega)];omega
 have d1:decide (x>=65536)=true:=dY (by omega)
 have d2:decide (x/65536>=256)=true:=dY (by omega)
 have d3:decide (x/16777216>=65536)=false:=dN (by omega)
 have d4:decide (x/16777216>=256)=false:=dN (by omega)
 have u:u8.wrap (x/16777216)=x/16777216:=by rw[wrap_u8];omega
 simp only[wE,DR,Tree.m,Bc,uv,d1,d2,d3,d4,u,cond_true,cond_false]
 generalize(aV _ (dA (x/16777216)) (0:UInt8))=b
 have hb:=dP b
 rw[wrap_i64,wrap_i64,wrap_i64,wrap_i64]
 omega
theorem xaA(h0:65536<=x)(h1:x<16777216):wE x=16+wE (x/65536):=by
 have Bc:bj .u32 x 16=x/65536:=DQ 16 (by omega)
 have d1:decide (x>=65536)=true:=dY (by omega)
 have d2:decide (x/65536>=256)=false:=dN (by omega)
 have d3:decide (x/65536>=65536)=false:=dN (by omega)
 have u:u8.wrap (x/65536)=x/65536:=by rw[wrap_u8];omega
 simp only[wE,DR,Tree.m,Bc,d1,d2,d3,u,cond_true,cond_false]
 generalize(aV _ (dA (x/65536)) (0:UInt8))=b
 have hb:=dP b
 rw[wrap_i64,wrap_i64,wrap_i64]
 omega
theorem N3(h0:256<=x)(h1:x<65536):wE x=8+wE (x/256):=by
 have s8:bj .u32 x 8=x/256:=DQ 8 (by omega)
 have d1:decide (x>=65536)=false:=dN (by omega)
 have d2:decide (x>=256)=true:=dY (by omega)
 have d3:decide (x/256>=65536)=false:=dN (by omega)
 have d4:decide (x/256>=256)=false:=dN (by omega)
 have u:u8.wrap (x/256)=x/256:=by rw[wrap_u8];omega
 simp only[wE,DR,Tree.m,s8,d1,d2,d3,d4,u,cond_true,cond_false]
 generalize(aV _ (dA (x/256)) (0:UInt8))=b
 have hb:=dP b
 rw[wrap_i64,wrap_i64,wrap_i64,wrap_i64]
 omega
theorem Zrb(h:U x):∃n:Nat,wE x=n/\K6 x n:=by
 obtain⟨h0,h1⟩:=h
 rcases dQ x 256 with a|a
 ·obtain⟨n,e,l,_⟩:=Th h0 a
  exact⟨n,e,l⟩
 ·rcases dQ x 65536 with b|b
  ·obtain⟨n,e,l,_⟩:=Th (q:=x/256) (by omega) (by omega)
   exact⟨n+8,by rw[N3 a b,e];omega,W6 (k:=8) rfl (by omega) l⟩
  ·rcases dQ x 16777216 with c|c
   ·obtain⟨n,e,l,_⟩:=Th (q:=x/65536) (by omega) (by omega)
    exact⟨n+16,by rw[xaA b c,e];omega,W6 (k:=16) rfl (by omega) l⟩
   ·obtain⟨n,e,l,_⟩:=Th (q:=x/16777216) (by omega) (by omega)
    exact⟨n+24,by rw[zaA ⟨h0,h1⟩ c,e];omega,W6 (k:=24) rfl (by omega) l⟩
theorem N4(h:U b.D0):Ba b P=true↔b.D0<2^P:=by
 obtain⟨n,e,l⟩:=Zrb h
 have hp:(if(0:Int)>(P:Int)then(0:Int)else P)=P:=by rw[if_neg (by omega)]
 simp only[Ba,IN,Tree.m,ee,e,hp,decide_eq_true_eq]
 constructor
 ·intro h;exact Zn3 l (by omega)
 ·intro h;have:=xI l h;omega
theorem W7(h:U a)(h1:a<2^P):(dR 32 a).toNat<2^P:=by
 obtain⟨a0,a1⟩:=h
 rw[dS,dH a0 (by omega)]
 have:((2^P:Nat):Int)=(2:Int)^P:=by exact_mod_cast rfl
 omega
theorem N5{a b:Int}(ha:U a)(hb:U b)(hP:P<=32)(h1:a<2^P)(h2:b<2^P):iJ .u32 a b<2^P:=by
 have e:(dR 32 a|||dR 32 b).toNat<2^P:=by
  rw[dT]
  exact Nat.or_lt_two_pow (W7 ha h1) (W7 hb h2)
 have hc:((2^P:Nat):Int)=(2:Int)^P:=by exact_mod_cast rfl
 have l:=(dR 32 a|||dR 32 b).isLt
 show wrap .u32 ((dR 32 a|||dR 32 b).toNat:Int)<2^P
 rw[wrap_u32]
 omega
theorem xag{a b:Int}(ha:U a)(h1:a<2^P):oR .u32 a b<2^P:=by
 have e:(dR 32 a&&&~~~dR 32 b).toNat<2^P:=by
  rw[dU]
  exact Nat.lt_of_le_of_lt dV (W7 ha h1)
 have hc:((2^P:Nat):Int)=(2:Int)^P:=by exact_mod_cast rfl
 have l:=(dR 32 a&&&~~~dR 32 b).isLt
 show wrap .u32 ((dR 32 a&&&~~~dR 32 b).toNat:Int)<2^P
 rw[wrap_u32]
 omega
theorem xg(h0:0<=v)(h1:v<32):ei .u32 1 v=2^v.toNat:=by
 have e:min v.toNat u32.bits=v.toNat:=by show min v.toNat 32=v.toNat;omega
 obtain⟨n,rfl⟩:∃n:Nat,v=n:=⟨v.toNat,by omega⟩
 have hn:n<32:=by omega
 have bd:(2:Nat)^n<4294967296:=by
  have:=dW (show 1<2 by omega) hn
  simpa using this
 have hc:((2^n:Nat):Int)=(2:Int)^n:=by exact_mod_cast rfl
 unfold ei
 rw[e,wrap_u32,Int.one_mul,dX,<-hc]
 clear hc e
 generalize(2:Nat)^n=z at*
 omega
def Ce(P:Nat)(b b':gm):Prop:=okB b'/\(Ba b P=true->Ba b' P=true)
theorem Zs9{m:List Int}(h:Q1 P m)(hb:okB b)(port:Int)(hv:U v):(DS b m port v).w (λr=>Ce P b r.1/\Q1 P r.2):=by
 have jm:kA m=m:=rfl
 have h2:=h.p2
 have hp:=ur h
 have dv:(Tree.an (nW m) (.lv (kA m) λx=>.lf (b,x))).w (λr=>Ce P b r.1/\Q1 P r.2):=c8 (GR h) (aq λx hx=>by rw[jm]at hx;subst hx;exact⟨⟨hb,λh=>h⟩,h⟩)
 unfold DS
 refine ab (λ_=>dv) λbd=>aw (dY hv.1) (ab (λ_=>aq λx1 hx=>ab (λIP=>ab (λ_=>c8 ⟨by decide,by decide,by decide⟩ (aq λx2 _=>cv (yf h _ _) λx3 ⟨h3,_⟩=>?_)) (λ_=>dv)) (λ_=>dv)) (λ_=>ab (λ_=>c8 (GR h) (aq λx hx=>?_)) (λ_=>dv)))
 ·have bd:=oN bd
  have IP:=oY IP
  rw[hx,hp]at IP
  obtain⟨v0,v1⟩:=hv
  have ev:i64.wrap v=v:=by rw[wrap_i64];omega
  rw[ev]at IP
  refine⟨⟨⟨hb.1,fk _⟩,λhm=>?_⟩,h3⟩
  rw[N4 hb.2]at hm
  rw[N4 (fk _)]
  have hs:ei .u32 1 v<2^P:=by
   rw[xg v0 (by omega)]
   have:=dW (show 1<2 by omega) (show v.toNat<P by omega)
   exact_mod_cast this
  exact N5 hb.2 (fk _) h2 hm hs
 ·rw[jm]at hx;subst hx
  refine⟨⟨⟨hb.1,fk _⟩,λhm=>?_⟩,h⟩
  rw[N4 hb.2]at hm
  rw[N4 (fk _)]
  exact xag hb.2 hm
structure kept(P:Nat)(m n:bc):Prop where
 ok:Au P n
 dev:wC m=true->wC n=true
 oy:n.B4=m.B4
 tF:n.B6=m.B6
 wait:n.B3=m.B3
 halt:n.B5=m.B5
theorem Zle{m:bc}(h:Au P m):kept P m m:=⟨h,λh=>h,rfl,rfl,rfl,rfl⟩
theorem IQ{m n:bc}(hm:Q1 P m.Mem)(hn:Q1 P n.Mem)(hc:AY m.B2=true->AY n.B2=true)(ht:AZ m.B9=true->AZ n.B9=true)
 (hd:re m.B7 P=true->re n.B7 P=true) (hk:wD m.D2 P=true->wD n.D2 P=true) (hb:Ba m.A7 P=true->Ba n.A7 P=true) (h:wC m=true):wC n=true:=by
 rw[qZ]at h⊢
 rw[ur hm]at h
 rw[ur hn]
 simp only[aE]at h⊢
 exact⟨hc h.1,ht h.2.1,hd h.2.2.1,hk h.2.2.2.1,hb h.2.2.2.2⟩
theorem Zng{m:bc}(h:Au P m)(port:Int)(hv:U v)(gg:Int):(K7 m port v gg).w (λr=>kept P m r.1/\r.2.length<=1):=by
 have k:=Zle h
 obtain⟨h1,h2,h3,h4,h5,h6⟩:=h
 have id:∀{p:Prop},p->p:=λh=>h
 have D:∀(x:fx×List il),(sF P m.B7 x.1/\x.2.length<=1)->kept P m {B4:=m.B4,Mem:=m.Mem,B2:=m.B2,B9:=m.B9,B7:=x.1,D2:=m.D2,A7:=m.A7,B6:=m.B6,B3:=m.B3,B5:=m.B5}/\x.2.length<=1:=λx hx=>
  ⟨⟨⟨h1,h2,hx.1.1,h4,h5,h6⟩,IQ h2 h2 id id hx.1.2 id id,rfl,rfl,rfl,rfl⟩,hx.2⟩
 have N:∀(x:gx×List il),(Cc P m.D2 x.1/\x.2.length<=1)->kept P m {B4:=m.B4,Mem:=m.Mem,B2:=m.B2,B9:=m.B9,B7:=m.B7,D2:=x.1,A7:=m.A7,B6:=m.B6,B3:=m.B3,B5:=m.B5}/\x.2.length<=1:=λx hx=>
  ⟨⟨⟨h1,h2,h3,hx.1.1,h5,h6⟩,IQ h2 h2 id id id hx.1.2 id,rfl,rfl,rfl,rfl⟩,hx.2⟩
 have B:∀(x:gm×List Int),(Ce P m.A7 x.1/\Q1 P x.2)->kept P m {B4:=m.B4,Mem:=x.2,B2:=m.B2,B9:=m.B9,B7:=m.B7,D2:=m.D2,A7:=x.1,B6:=m.B6,B3:=m.B3,B5:=m.B5}/\([]:List il).length<=1:=λx hx=>
  ⟨⟨⟨h1,hx.2,h3,h4,hx.1.1.1,hx.1.1.2⟩,IQ h2 hx.2 id id id id hx.1.2,rfl,rfl,rfl,rfl⟩,bC _⟩
 unfold K7
 repeat'(first
  |exact⟨k,aX _⟩
  |exact⟨k,bC _⟩
  |exact aq λx hx=>⟨⟨⟨h1,h2,h3,h4,h5,h6⟩,IQ h2 h2 id (λ_=>by rw[hx];exact zag _ _) id id id,rfl,rfl,rfl,rfl⟩,bC _⟩
  |exact cv (qag h2 h3 _ hv _) λx hx=>D x hx
  |exact cv (qaA h2 h4 _ hv _) λx hx=>N x hx
  |exact cv (Zs9 h2 ⟨h5,h6⟩ _ hv) λx hx=>B x hx
  |refine ab (λ_=>?_) (λ_=>?_))
theorem Zbz(c:iN)(port:Int):(IS c port).w (λr=>U r.2/\(AY c=true->AY r.1=true)):=by
 have u1:U 4294967295:=⟨by omega,by omega⟩
 unfold IS
 refine ab (λ_=>ab (λ_=>⟨u1,λh=>h⟩) (λhb=>aw ?_ (aw ?_ ⟨fk _,λhm=>?_⟩))) (λ_=>ab (λ_=>⟨fk _,λh=>h⟩) (λ_=>⟨gd,λh=>h⟩))
 ·have hb:=oN hb
  have:0<c.D9.length:=List.length_pos_iff.2 hb
  simp[bN];omega
 ·have hb:=oN hb
  have:0<c.D9.length:=List.length_pos_iff.2 hb
  exact dY (by omega)
 ·have hm:decide ((c.D9.length:Int)<=16)=true:=hm
  have hm:=oY hm
  show decide (((cU _ (cV _ c.D9)).length:Int)<=16)=true
  refine dY ?_
  rw[aD,aG];omega
theorem Zsj{m:bc}(h:Au P m)(port:Int)(hc:U clock):(K8 m port clock).w (λr=>kept P m r.1/\U r.2):=by
 have k:=Zle h
 obtain⟨h1,h2,h3,h4,h5,h6⟩:=h
 have id:∀{p:Prop},p->p:=λh=>h
 have ti:∀t,U (W8 t):=λt=>by
  refine Tree.post (Ti t) (W:=U) ?_
  unfold Ti
  exact ab (λ_=>⟨by omega,by omega⟩) (λ_=>gd)
 have di:∀p,U (N6 m.B7 p):=λp=>by
  refine Tree.post (Tj m.B7 p) (W:=U) ?_
  unfold Tj
  exact ab (λ_=>h3.block) (λ_=>ab (λ_=>h3.frame) (λ_=>ab (λ_=>fk _) (λ_=>gd)))
 have ni:∀p,U (K9 m.D2 p):=λp=>by
  refine Tree.post (N7 m.D2 p) (W:=U) ?_
  unfold N7
  exact ab (λ_=>h4.frame) (λ_=>ab (λ_=>h4.GV) (λ_=>ab (λ_=>ab (λ_=>ab (λ_=>fk _) (λ_=>fk _)) (λ_=>ab (λ_=>fk _) (λ_=>gd))) (λ_=>gd)))
 have bi:∀p,(La m.A7 p).w U:=λp=>by
  unfold La
  exact ab (λ_=>h5) (λ_=>ab (λ_=>cv (Zpu h6) λ_ _=>fk _) (λ_=>gd))
 have C:∀(x:iN×Int),(U x.2/\(AY m.B2=true->AY x.1=true))->kept P m {B4:=m.B4,Mem:=m.Mem,B2:=x.1,B9:=m.B9,B7:=m.B7,D2:=m.D2,A7:=m.A7,B6:=m.B6,B3:=m.B3,B5:=m.B5}/\U x.2:=λx hx=>
  ⟨⟨⟨h1,h2,h3,h4,h5,h6⟩,IQ h2 h2 hx.2 id id id id,rfl,rfl,rfl,rfl⟩,hx.1⟩
 unfold K8
 repeat'(first
  |exact⟨k,hc⟩
  |exact⟨k,gd⟩
  |exact cv (Zbz _ _) λx hx=>C x hx
  |exact S8 (Zbz _ _) λx hx=>C x hx
  |exact aq λx hx=>⟨k,by rw[hx];exact ti _⟩
  |exact aq λx hx=>⟨k,by rw[hx];exact di _⟩
  |exact aq λx hx=>⟨k,by rw[hx];exact ni _⟩
  |exact cv (bi _) λx hx=>⟨k,hx⟩
  |refine ab (λ_=>?_) (λ_=>?_))
structure nq(c:bq):Prop where
 x0:c.X.a0=0
 st:c.C3.a0<=31
 en:c.C3.a7<=31
 rt:c.C3.a6<=255
 ve:cZ c.C3.a1 4=0
theorem nq.pc(h:nq c)(p:Int):nq {X:=c.X,Pc:=p,C3:=c.C3}:=⟨h.x0,h.st,h.en,h.rt,h.ve⟩
theorem GW(a:Int):bb .u32 a 31<=31:=by
 have e:(dR 32 a&&&dR 32 31).toNat<=31:=by
  rw[dU]
  exact Nat.le_trans Nat.and_le_right (by decide)
 show wrap .u32 ((dR 32 a&&&dR 32 31).toNat:Int)<=31
 rw[wrap_u32];omega
theorem ER(a:Int):bb .u32 a 255<=255:=by have:=Cf a;omega
theorem N8(a:Int):cZ (oR .u32 a 3) 4=0:=by
 have e:(dR 32 a&&&~~~dR 32 3).toNat%4=0:=by
  rw[dU,show(~~~dR 32 3).toNat=4294967292 by decide]
  have:=Nat.and_mod_two_pow (a:=(dR 32 a).toNat) (b:=4294967292) (n:=2)
  simpa using this
 have l:=(dR 32 a&&&~~~dR 32 3).isLt
 show cZ (wrap .u32 ((dR 32 a&&&~~~dR 32 3).toNat:Int)) 4=0
 rw[wrap_u32,dZ (by omega)]
 omega
theorem GX{f:Int->Int}(h:(cW 32).all (λn=>decide (f n<=31))=true){s:Int}(h0:0<=s)(h1:s<=31):f s<=31:=by
 have:=List.all_eq_true.1 h s.toNat (List.mem_range.2 (by omega))
 have e:((s.toNat:Nat):Int)=s:=by omega
 rw[e]at this
 exact oY this
theorem IT(h:iL c)(m:nq c)(k b:Int):nq (rh c k b):=
 ⟨m.x0,GX (f:=λs=>oR .u32 (iJ .u32 (Av (Av s 1 8) 2 16) 1) 2) (by kernel_rfl) h.a0.1 m.st,m.en,m.rt,m.ve⟩
theorem Zsp(h:iL c)(m:nq c):nq (Lb c):=
 ⟨m.x0,GX (f:=λs=>Av (Av s 8 1) 16 2) (by kernel_rfl) h.a0.1 m.st,m.en,m.rt,m.ve⟩
theorem Lc(m:nq c)(hr:0<=r/\r<16)(v:Int):(ES c r v).w nq:=by
 unfold ES
 refine ab (λhn=>aw (rc hr) ?_) (λ_=>m)
 have hn:r≠0:=by simpa using hn
 obtain⟨n,e⟩:∃n:Nat,r.toNat=n+1:=⟨r.toNat-1,by omega⟩
 refine⟨?_,m.st,m.en,m.rt,m.ve⟩
 show(iv.of 0 (dB (iv.l c.X) r.toNat v)).a0=0
 rw[e]
 exact m.x0
theorem zg(m:nq c)(k v:Int):(IU c k v).w nq:=by
 unfold IU
 refine ab (λhk=>aw (by rw[eq_of_beq hk];decide) ?_) λ_=>ab (λhk=>aw (by rw[eq_of_beq hk];decide) ?_) λ_=>ab (λhk=>aw (by rw[eq_of_beq hk];decide) ?_) λ_=>ab (λhk=>aw (by rw[eq_of_beq hk];decide) ?_) λ_=>ab (λhk=>aw (by rw[eq_of_beq hk];decide) ?_) λ_=>ab (λhk=>aw (by rw[eq_of_beq hk];decide) ?_) λ_=>ab (λhk=>aw (by rw[eq_of_beq hk];decide) ?_) λ_=>ab (λhk=>aw (by rw[eq_of_beq hk];decide) ?_) (λ_=>m)
 all_goals(have hk:=eq_of_beq hk;subst hk)
 ·exact⟨m.x0,GW _,m.en,m.rt,m.ve⟩
 ·exact⟨m.x0,m.st,GW _,m.rt,m.ve⟩
 ·exact⟨m.x0,m.st,m.en,ER _,m.ve⟩
 ·exact⟨m.x0,m.st,m.en,m.rt,N8 _⟩
 ·exact⟨m.x0,m.st,m.en,m.rt,m.ve⟩
 ·exact⟨m.x0,m.st,m.en,m.rt,m.ve⟩
 ·exact⟨m.x0,m.st,m.en,m.rt,m.ve⟩
 ·exact⟨m.x0,m.st,m.en,m.rt,m.ve⟩
section
variable {c:bq} (h:iL c) (m:nq c) {i:gw} (hi:sG i)
include h m hi
theorem Zn2:(ET c i).w (λr=>nq r.1):=by
 unfold ET
 refine aw (rc hi.a) (aw (rc hi.b) ?_)
 repeat'(first
  |refine ab (λ_=>?_) (λ_=>?_)
  |exact cv (Lc m hi.a _) λx hx=>hx.pc _
  |exact aq λx _=>ab (λ_=>m.pc _) (λ_=>m.pc _)
  |exact aq λx hx=>by rw[hx];exact IT h m _ _
  |exact aq λx hx=>by rw[hx];exact Zsp h m
  |exact aw (by have:=hi.jq (by simp_all);simp[bN];omega) (cv (Lc m hi.a _) λx hx=>hx.pc _)
  |exact cv (zg m _ _) λx hx=>hx.pc _
  |refine aw (rc hi.c) ?_
  |exact cv (Ld _ (h.r _) (fk _)) λy hy=>cv (Lc m hi.a _) λx hx=>hx.pc _
  |exact cv (Ld _ (h.r _) (h.r _)) λy hy=>cv (Lc m hi.a _) λx hx=>hx.pc _
  |refine bg ?_)
 all_goals exact m.pc _
theorem zI(hm:Q1 P mem):(IV c mem i).w (λr=>nq r.1):=by
 have w:=Tk i.Op
 unfold IV
 refine aw (rc hi.b) (aq λx0 h0=>?_)
 rw[<-h0]at w
 refine cv (N9 hm (fk _) w 2) λx1 h1=>ab (λ_=>aq λy hy=>by rw[hy];exact IT h m _ _) (λ_=>aq λx3 h3=>?_)
 rw[h0,<-h3]at w
 exact cv (IW h1.2 h1.1 w) λx4 h4=>ab (λ_=>cv (W9 h4.1 8) λy hy=>cv (Lc m hi.a _) λx hx=>hx.pc _) (λ_=>cv (Lc m hi.a _) λx hx=>hx.pc _)
theorem yg(hm:Q1 P mem):(IX c mem i).w (λr=>nq r.1):=by
 have w:=Tk i.Op
 unfold IX
 refine aw (rc hi.b) (aq λx0 h0=>?_)
 rw[<-h0]at w
 refine cv (N9 hm (fk _) w 3) λx1 h1=>ab (λ_=>aq λy hy=>by rw[hy];exact IT h m _ _) (λ_=>aq λx3 h3=>aw (rc hi.a) ?_)
 rw[h0,<-h3]at w
 exact cv (Tl h1.2 h1.1 w (h.r _)) λx hx=>m.pc _
end
theorem yI(h:iL c)(m:nq c)(hm:Q1 P mem):(EU c mem).w (λr=>nq r.1):=by
 unfold EU
 refine cv (Xa hm h) λx0 h0=>ab (λ_=>aq λy hy=>by rw[hy];exact IT h m _ _) (λ_=>cv (Xb _) λx2 h2=>ab (λ_=>aq λy hy=>by rw[hy];exact IT h m _ _) (λhb=>?_))
 have hi:=h2 (by simpa using hb)
 refine aq λx4 _=>?_
 repeat'(first
  |refine ab (λ_=>?_) (λ_=>?_)
  |exact cv (zI h m hi h0.2) λx hx=>hx
  |exact cv (yg h m hi h0.2) λx hx=>hx
  |exact cv (Zn2 h m hi) λx hx=>hx
  |exact aq λy hy=>by rw[hy];exact IT h m _ _
  |refine aq λ_ _=>?_)
theorem Zna(h:iL c){i:gw}(hi:sG i):(ET c i).w (λr=>0<=r.2.F9/\r.2.F9<16):=by
 have z:(0:Int)<=0/\(0:Int)<16:=⟨by decide,by decide⟩
 unfold ET
 refine aw (rc hi.a) (aw (rc hi.b) ?_)
 repeat'(first
  |refine ab (λ_=>?_) (λ_=>?_)
  |exact cv (DT h hi.a (fk _)) λx hx=>z
  |exact aq λx _=>ab (λ_=>z) (λ_=>z)
  |exact aq λx hx=>z
  |exact aw (by have:=hi.jq (by simp_all);simp[bN];omega) (cv (DT h hi.a (h.a _)) λx hx=>z)
  |exact cv (Zpz h _ (h.r _)) λx hx=>z
  |refine aw (rc hi.c) ?_
  |exact cv (Ld _ (h.r _) (fk _)) λy hy=>cv (DT h hi.a hy) λx hx=>z
  |exact cv (Ld _ (h.r _) (h.r _)) λy hy=>cv (DT h hi.a hy) λx hx=>z
  |refine bg ?_)
 all_goals first|exact z|exact hi.a
theorem Zq1(h:iL c)(hm:Q1 P mem):(EU c mem).w (λr=>0<=r.2.2.F9/\r.2.2.F9<16):=by
 have z:(0:Int)<=0/\(0:Int)<16:=⟨by decide,by decide⟩
 unfold EU
 refine cv (Xa hm h) λx0 h0=>ab (λ_=>aq λy hy=>z) (λ_=>cv (Xb _) λx2 h2=>ab (λ_=>aq λy hy=>z) (λhb=>?_))
 have hi:=h2 (by simpa using hb)
 refine aq λx4 _=>?_
 repeat'(first
  |refine ab (λ_=>?_) (λ_=>?_)
  |exact cv (Z8n h hi h0.2) λx hx=>z
  |exact cv (Z1x h hi h0.2) λx hx=>z
  |exact cv (Zna h hi) λx hx=>hx
  |exact aq λy hy=>z
  |refine aq λ_ _=>?_)
theorem mY{a x:Bool}:(bif a then false else x)=true↔a=false/\x=true:=by cases a<;>simp
theorem Lf(m:bc):Bb m=true↔jQ m.Mem≠0/\nq m.B4/\m.B6<=1152921504606846976/\¬(m.B3=true/\m.B5=true)/\wC m=true:=by
 rw[zaz]
 unfold NW chain
 rw[mY,mY,mY,mY,mY,mY,mY]
 simp only[decide_eq_false_iff_not,Int.not_lt,beq_eq_false_iff_ne,bne_eq_false_iff_eq,gt_iff_lt]
 constructor
 ·rintro⟨a1,a2,a3,a4,a5,a6,a7,a8⟩
  refine⟨a1,⟨a2,a3,a4,a5,a6⟩,a7,?_,?_⟩
  ·rintro⟨w,h⟩;rw[w,h]at a8;cases a8
  ·revert a8;cases m.B3
   ·exactλh=>h
   ·cases m.B5
    ·exactλh=>h
    ·intro h;cases h
 ·rintro⟨a1,⟨a2,a3,a4,a5,a6⟩,a7,a8,a9⟩
  refine⟨a1,a2,a3,a4,a5,a6,a7,?_⟩
  rw[a9]
  cases hw:m.B3
  ·rfl
  ·cases hh:m.B5
   ·rfl
   ·exact absurd ⟨hw,hh⟩ a8
theorem Zq0{m:bc}(h:EV m=true):Bb m=true/\m.B5=false/\m.B6<1152921504606846976:=by
 simp only[EV,IY,Tree.m,ee]at h
 cases h1:Bb m
 ·rw[h1]at h;cases h
 ·cases h2:m.B5
  ·rw[h1,h2]at h
   cases h3:Tm m
   ·rw[h3]at h
    have h:decide (m.B6<1152921504606846976)=true:=h
    exact⟨rfl,rfl,oY h⟩
   ·rw[h3]at h;cases h
  ·rw[h1,h2]at h;cases h
theorem Zh5{m:bc}(h:Au P m)(g:nq m.B4):(Lg m).w (λr=>nq r.B4/\Au P r/\r.Mem=m.Mem/\r.B3=false/\r.B5=m.B5/\r.B6=m.B6/\r.B2=m.B2/\r.B9=m.B9/\r.B7=m.B7/\r.D2=m.D2/\r.A7=m.A7):=by
 obtain⟨h1,h2,h3,h4,h5,h6⟩:=h
 unfold Lg
 refine ab (λ_=>⟨g,⟨h1,h2,h3,h4,h5,h6⟩,rfl,rfl,rfl,rfl,rfl,rfl,rfl,rfl,rfl⟩) (λ_=>cv (Zbl (m:=⟨_,_,_,_,_,_,m.A7,_,_,_⟩) h6) λx0 _=>fj (inv:=λz=>0<=z/\z<=5) (μ:=Qjb m) ⟨by omega,by omega⟩ (cN _) (λz hz=>?_))
 obtain⟨z1,z2⟩:=hz
 refine ab (λhb=>aw (dY z1) (ab (λ_=>aq λx1 hx=>⟨by rw[hx];exact IT h1 g _ _,⟨by rw[hx];exact IZ h1 _ gd,h2,h3,h4,h5,h6⟩,rfl,rfl,rfl,rfl,rfl,rfl,rfl,rfl,rfl⟩) (λ_=>ep ?_))) (λ_=>⟨g,⟨h1,h2,h3,h4,h5,h6⟩,rfl,rfl,rfl,rfl,rfl,rfl,rfl,rfl,rfl⟩)
 have hb:=oY hb
 show(0<=i64.wrap (z+1)/\i64.wrap (z+1)<=5)/\(5-i64.wrap (z+1)).toNat<(5-z).toNat
 have ew:i64.wrap (z+1)=z+1:=by rw[wrap_i64];omega
 rw[ew];omega
structure Good(P:Nat)(m r:bc):Prop where
 ok:Au P r
 tF:0<=r.B6
 may:Bb m=true->Bb r=true
 or:r=m\/r.B6=m.B6+1
theorem Xc{m:bc}(h:Au P m)(GK:0<=m.B6)(hk:U clock):(Oa m clock).w (λr=>r.2.length<=1/\Good P m r.1):=by
 have jm:kA m.Mem=m.Mem:=rfl
 unfold Oa
 refine c8 (GR h.mem) (aq λl hl=>?_)
 rw[jm]at hl;subst hl
 refine c8 (Tree.pp (qav (m:=⟨_,_,_,_,_,_,m.A7,_,_,_⟩) h.given)).1 (aq λx1 pd=>ab (λ_=>⟨bC _,h,GK,λh=>h,.inl rfl⟩) (λhb=>?_))
 have hr:EV m=true:=by rw[<-show x1=EV m from pd];simpa using hb
 obtain⟨hm,hh,hct⟩:=Zq0 hr
 obtain⟨g1,g2,g3,g4,g5⟩:=(Lf m).1 hm
 have hP:(P:Int)≠0:=by rw[<-ur h.mem];exact g1
 have fin:∀(n:bc),Au P n->nq n.B4->wC n=true->n.B6=m.B6->¬(n.B3=true/\n.B5=true)->Good P m {B4:=n.B4,Mem:=n.Mem,B2:=n.B2,B9:=n.B9,B7:=n.B7,D2:=n.D2,A7:=n.A7,B6:=wrap .u64 (n.B6+1),B3:=n.B3,B5:=n.B5}:=λn a b c d e=>by
  have ec:wrap .u64 (n.B6+1)=m.B6+1:=by rw[d,wrap_u64];omega
  refine⟨⟨a.oy,a.mem,a.my,a.wF,a.target,a.given⟩,?_,λ_=>(Lf _).2 ⟨?_,b,?_,e,c⟩,.inr ec⟩
  ·show 0<=wrap .u64 (n.B6+1);omega
  ·show jQ n.Mem≠0;rw[ur a.mem];exact hP
  ·show wrap .u64 (n.B6+1)<=_;omega
 refine cv (Zh5 (m:=⟨_,_,m.B2,m.B9,m.B7,m.D2,m.A7,m.B6,m.B3,m.B5⟩) ⟨h.oy,h.mem,h.my,h.wF,h.target,h.given⟩ g2) λx2 I0=>?_
 obtain⟨b1,b2,b3,b4,b5,b6,b7,b8,b9,b10,b11⟩:=I0
 have ex:=Tree.pp (zau b2.oy b2.mem)
 have em:=Tree.pp (yI b2.oy b1 b2.mem)
 have er:=Tree.pp (Zq1 b2.oy b2.mem)
 refine c8 ex.1 (aq λx3 h3=>?_)
 obtain⟨e1,e2,e3⟩:iL x3.1/\Q1 P x3.2.1/\U x3.2.2.Value:=by rw[h3];exact ex.2
 have f1:nq x3.1:=by rw[h3];exact em.2
 have r1:0<=x3.2.2.F9/\x3.2.2.F9<16:=by rw[h3];exact er.2
 have Ob:Au P ⟨x3.1,x3.2.1,x2.B2,x2.B9,x2.B7,x2.D2,x2.A7,x2.B6,x2.B3,x2.B5⟩:=⟨e1,e2,b2.my,b2.wF,b2.target,b2.given⟩
 have dev:∀(w h:Bool),wC ⟨x3.1,x3.2.1,x2.B2,x2.B9,x2.B7,x2.D2,x2.A7,x2.B6,w,h⟩=true:=λw hh=>by
  have id:∀{p:Prop},p->p:=λh=>h
  refine IQ (m:=m) (P:=P) h.mem e2 ?_ ?_ ?_ ?_ ?_ g5
  ·show _->AY x2.B2=true;rw[b7];exact id
  ·show _->AZ x2.B9=true;rw[b8];exact id
  ·show _->re x2.B7 P=true;rw[b9];exact id
  ·show _->wD x2.D2 P=true;rw[b10];exact id
  ·show _->Ba x2.A7 P=true;rw[b11];exact id
 have hw:x2.B3=false:=b4
 have hh2:x2.B5=false:=b5.trans hh
 have Cg:x2.B6=m.B6:=b6
 refine ab (λ_=>?_) λ_=>ab (λ_=>?_) λ_=>ab (λ_=>?_) λ_=>ab (λ_=>?_) λ_=>?_
 ·refine cv (Zsj Ob _ hk) λx4 h4=>?_
  obtain⟨k,u⟩:=h4
  have kc:x4.1.B4=x3.1:=k.oy
  have kt:x4.1.B6=m.B6:=k.tF.trans Cg
  have kw:¬(x4.1.B3=true/\x4.1.B5=true):=λe=>by have:x4.1.B3=x2.B3:=k.wait;rw[this,hw]at e;cases e.1
  have km:nq x4.1.B4:=by rw[kc];exact f1
  refine ab (λhn=>aw (rc r1) ⟨bC _,?_⟩) (λ_=>⟨bC _,fin x4.1 k.ok km (k.dev (dev _ _)) kt kw⟩)
  have hn:x3.2.2.F9≠0:=by simpa using hn
  obtain⟨q,e⟩:∃q:Nat,x3.2.2.F9.toNat=q+1:=⟨x3.2.2.F9.toNat-1,by omega⟩
  refine fin ⟨⟨iv.of 0 (dB (iv.l x4.1.B4.X) x3.2.2.F9.toNat x4.2),x4.1.B4.Pc,x4.1.B4.C3⟩,x4.1.Mem,x4.1.B2,x4.1.B9,x4.1.B7,x4.1.D2,x4.1.A7,x4.1.B6,x4.1.B3,x4.1.B5⟩ ⟨⟨Zn k.ok.oy.x u _,k.ok.oy.pc,k.ok.oy.jq⟩,k.ok.mem,k.ok.my,k.ok.wF,k.ok.target,k.ok.given⟩ ⟨?_,km.st,km.en,km.rt,km.ve⟩ (k.dev (dev _ _)) kt kw
  show(iv.of 0 (dB (iv.l x4.1.B4.X) x3.2.2.F9.toNat x4.2)).a0=0
  rw[e]
  exact km.x0
 ·refine cv (Zng Ob _ e3 _) λx5 h5=>?_
  obtain⟨k,u⟩:=h5
  have kc:x5.1.B4=x3.1:=k.oy
  exact⟨u,fin x5.1 k.ok (by rw[kc];exact f1) (k.dev (dev _ _)) (k.tF.trans Cg) (λe=>by have:x5.1.B3=x2.B3:=k.wait;rw[this,hw]at e;cases e.1)⟩
 ·exact⟨bC _,fin ⟨x3.1,x3.2.1,x2.B2,x2.B9,x2.B7,x2.D2,x2.A7,x2.B6,true,x2.B5⟩ ⟨e1,e2,b2.my,b2.wF,b2.target,b2.given⟩ f1 (dev _ _) Cg (λe=>by have e2:x2.B5=true:=e.2;rw[hh2]at e2;cases e2)⟩
 ·exact⟨bC _,fin ⟨x3.1,x3.2.1,x2.B2,x2.B9,x2.B7,x2.D2,x2.A7,x2.B6,x2.B3,true⟩ ⟨e1,e2,b2.my,b2.wF,b2.target,b2.given⟩ f1 (dev _ _) Cg (λe=>by have e2:x2.B3=true:=e.1;rw[hw]at e2;cases e2)⟩
 ·exact⟨bC _,fin ⟨x3.1,x3.2.1,x2.B2,x2.B9,x2.B7,x2.D2,x2.A7,x2.B6,x2.B3,x2.B5⟩ Ob f1 (dev _ _) Cg (λe=>by have e2:x2.B3=true:=e.1;rw[hw]at e2;cases e2)⟩
theorem Tn(h:U a):(dR 32 a).toNat=a.toNat:=by
 obtain⟨h1,h2⟩:=h
 rw[dS];omega
theorem Xd{a b:Int}(ha:U a)(hb:U b):bb .u32 a b=((a.toNat&&&b.toNat:Nat):Int):=by
 have l:=(dR 32 a&&&dR 32 b).isLt
 have e:(dR 32 a&&&dR 32 b).toNat=a.toNat&&&b.toNat:=by rw[dU,Tn ha,Tn hb]
 show wrap .u32 ((dR 32 a&&&dR 32 b).toNat:Int)=_
 rw[wrap_u32,<-e];omega
theorem qaB{a b:Int}(ha:U a)(hb:U b):iJ .u32 a b=((a.toNat|||b.toNat:Nat):Int):=by
 have l:=(dR 32 a|||dR 32 b).isLt
 have e:(dR 32 a|||dR 32 b).toNat=a.toNat|||b.toNat:=by rw[dT,Tn ha,Tn hb]
 show wrap .u32 ((dR 32 a|||dR 32 b).toNat:Int)=_
 rw[wrap_u32,<-e];omega
theorem Xe(ha:U a)(k:Nat)(hk:k<=32)(hq:q=((2^k-1:Nat):Int)):bb .u32 a q=a%2^k:=by
 have hp:2^k<=2^32:=dO (by decide) hk
 have h1:(2:Nat)^32=4294967296:=by decide
 have uw:=Nat.two_pow_pos k
 subst hq
 rw[Xd ha ⟨by omega,by omega⟩,dX,Nat.and_two_pow_sub_one_eq_mod]
 have:=ha.1
 rw[Int.natCast_emod,eA this]
 simp
theorem m15(ha:U a):bb .u32 a 15=a%16:=Xe ha 4 (by decide) rfl
theorem Ch(ha:U a):bb .u32 a 255=a%256:=Xe ha 8 (by decide) rfl
theorem I1(ha:U a):bb .u32 a 65535=a%65536:=Xe ha 16 (by decide) rfl
theorem EW(p:Int->Bool)(N:Nat)(h:(cW N).all (λn=>p n)=true){s:Int}(h0:0<=s)(h1:s<N):p s=true:=by
 have:=List.all_eq_true.1 h s.toNat (List.mem_range.2 (by omega))
 rwa [eA h0]at this
theorem Iy(h0: -9223372036854775808<=x)(h1:x<9223372036854775808):wrap .i64 x=x:=by rw[wrap_i64];omega
theorem Oc(a:Int):bj .u32 a 0=a:=by have:=DQ (a:=a) 0 (by decide);simpa using this
theorem fld(w:Int):tG w 24 8=bb .u32 (bj .u32 w 24) 255/\tG w 20 4=bb .u32 (bj .u32 w 20) 15/\tG w 16 4=bb .u32 (bj .u32 w 16) 15/\tG w 0 16=bb .u32 (bj .u32 w 0) 65535/\tG w 8 8=bb .u32 (bj .u32 w 8) 255:=
 ⟨by kernel_rfl,by kernel_rfl,by kernel_rfl,by kernel_rfl,by kernel_rfl⟩
def Ci(f:Int):Af×Bool:=
 bif f==1 then(⟨false,false,false,0,0⟩,true)else bif f==2 then(⟨true,true,true,0,0⟩,true)else bif f==3 then(⟨true,true,false,-32768,32767⟩,true)
 else bif f==4 then(⟨true,true,false,0,65535⟩,true)else bif f==5 then(⟨true,true,false,0,31⟩,true)else bif f==6 then(⟨true,false,false,0,65535⟩,true)
 else bif f==7 then(⟨true,false,false,-32768,32767⟩,true)else bif f==8 then(⟨true,false,false,0,7⟩,true)else bif f==9 then(⟨true,false,false,0,11⟩,true)else(⟨false,false,false,0,0⟩,false)
def Cj(x y:Af×Bool):Bool:=x.1.a==y.1.a&&x.1.b==y.1.b&&x.1.c==y.1.c&&x.1.low==y.1.low&&x.1.F6==y.1.F6&&x.2==y.2
theorem vI{x y:Af×Bool}(h:Cj x y=true):x=y:=by
 obtain⟨⟨a,b,c,d,e⟩,f⟩:=x
 obtain⟨⟨a',b',c',d',e'⟩,f'⟩:=y
 simp only[Cj,aE,beq_iff_eq]at h
 obtain⟨⟨⟨⟨⟨rfl,rfl⟩,rfl⟩,rfl⟩,rfl⟩,rfl⟩:=h
 rfl
theorem xZ(h0:0<=op)(h1:op<256):To op=Ci (oU op):=by
 exact vI (EW (λop=>Cj (To op) (Ci (oU op))) 256 (by kernel_rfl) h0 h1)
theorem vg(h0:0<=op)(h1:op<256):oU op=0\/oU op=1\/oU op=2\/oU op=3\/oU op=4\/oU op=5\/oU op=6\/oU op=7\/oU op=8\/oU op=9:=by
 have:=oY (EW (λop=>decide (0<=oU op/\oU op<=9)) 256 (by kernel_rfl) h0 h1)
 omega
theorem qah(h0:0<=op)(h1:op<256):Od op=Lh op:=by
 exact eq_of_beq (EW (λop=>Od op==Lh op) 256 (by kernel_rfl) h0 h1)
theorem qJ{a x y:Bool}:(cond a x y=true)↔((a=true/\x=true)\/(a=false/\y=true)):=by cases a<;>simp
theorem Xf{i:gw}(h0:0<=i.Op)(h1:i.Op<256)(hi:wrap .i64 i.bw=i.bw):I2 i=EY i:=by
 rw[eB]
 simp only[I2,Oe,Tree.m,ee,EY,Of,xZ h0 h1,hi]
 rcases vg h0 h1 with h|h|h|h|h|h|h|h|h|h<;>rw[h]<;>
 simp[Ci,Li,Tp,Lj,Tq,Xg,Xh,Tree.m,ee,qJ]<;>omega
theorem Xi(h0:0<=x)(h1:x<65536):wrap .i32 (DU x 16)=wrap .i32 (wrap .i16 x):=by
 have e:DU x 16=wrap .u32 (bj .i32 (wrap .i32 (ei .u32 x 16)) 16):=by kernel_rfl
 have e2:∀y,bj .i32 y 16=y/65536:=λy=>by
  show eC y 65536=_
  rw[dJ _ (by decide)]
 have e3:ei .u32 x 16=wrap .u32 (x*65536):=rfl
 have e4:wrap .i16 x=(x+32768)%65536-32768:=by
  simp[wrap,IntKind.bits,IntKind.signed]
  split<;>omega
 rw[e,e2,e3,e4]
 simp only[wrap_i32,wrap_u32]
 omega
theorem sx8(h0:0<=x)(h1:x<256):DU x 8=GY x 8:=by
 exact eq_of_beq (EW (λx=>DU x 8==GY x 8) 256 (by kernel_rfl) h0 h1)
theorem qh(hw:U w):Og w=Bd w:=by
 obtain⟨f1,f2,f3,f4,_⟩:=fld w
 obtain⟨w0,w1⟩:=hw
 have uv:bj .u32 w 24=w/16777216:=by have:=DQ (a:=w) 24 (by decide);simpa using this
 have s20:U (bj .u32 w 20):=Qz ⟨w0,w1⟩ _
 have Bc:U (bj .u32 w 16):=Qz ⟨w0,w1⟩ _
 rw[Ch (Qz ⟨w0,w1⟩ _),uv]at f1
 rw[m15 s20]at f2
 rw[m15 Bc]at f3
 rw[Oc]at f4
 have g1:w/16777216%256=w/16777216:=by omega
 rw[g1]at f1
 have o0:0<=w/16777216:=by omega
 have o1:w/16777216<256:=by omega
 have eo:wrap .i64 (w/16777216)=w/16777216:=Iy (by omega) (by omega)
 have i32:∀x,wrap .i64 (wrap .i32 x)=wrap .i32 x:=λx=>by rw[wrap_i64,wrap_i32];omega
 have l0:=I1 ⟨w0,w1⟩
 have lx:=Xi (x:=bb .u32 w 65535) (by omega) (by omega)
 simp only[Og,Lk,Bd,Ll,Tree.m,ee,f1,f2,f3,f4,uv,eo,xZ o0 o1,m15 s20,m15 Bc,lx]
 generalize w/16777216=op at*
 generalize wrap .i64 (bj .u32 w 20%16)=a
 generalize wrap .i64 (bj .u32 w 16%16)=b
 generalize bb .u32 w 65535=l
 rw[Xf (i:=⟨op,a,b,wrap .i64 l,0⟩) o0 o1 rfl,Xf (i:=⟨op,a,b,0,wrap .i32 (wrap .i16 l)⟩) o0 o1 (i32 _),Xf (i:=⟨op,a,b,0,wrap .i32 l⟩) o0 o1 (i32 _)]
 rcases vg o0 o1 with h|h|h|h|h|h|h|h|h|h<;>rw[h]<;>rfl
def EZ(W v:Int)(s:Nat):Int:=iJ .u32 (oR .u32 W (ei .u32 255 s)) (ei .u32 (bb .u32 v 255) s)
def wG(w:Int)(k:Nat):Int:=if k=0 then w%256 else if k=1 then w/256%256 else if k=2 then w/65536%256 else w/16777216%256
def lN(m:List Int)(a:Nat):Int:=wG (m.getD (a/4) 0) (a%4)
theorem xh(w:Int)(k:Nat):0<=wG w k/\wG w k<256:=by
 unfold wG
 split
 ·omega
 ·split
  ·omega
  ·split<;>omega
theorem zah(hw:U w)(hv:U v)(h:∀k,k<4->wG w k=wG v k):w=v:=by
 have h0:=h 0 (by omega)
 have h1:=h 1 (by omega)
 have h2:=h 2 (by omega)
 have h3:=h 3 (by omega)
 simp[wG]at h0 h1 h2 h3
 obtain⟨a,b⟩:=hw
 obtain⟨c,d⟩:=hv
 omega
theorem zh{m n:List Int}(hl:m.length=n.length)(hm:∀w∈m,U w)(hn:∀w∈n,U w)(h:∀a,lN m a=lN n a):m=n:=by
 refine bR hl λi h1 h2=>?_
 have e1:m[i]=m.getD i 0:=by simp[aV,h1]
 have e2:n[i]=n.getD i 0:=by simp[aV,h2]
 rw[e1,e2]
 refine zah (Be hm i) (Be hn i) λk hk=>?_
 have:=h (4*i+k)
 simp only[lN]at this
 rwa [show(4*i+k)/4=i by omega,show(4*i+k)%4=k by omega]at this
theorem Qw4{l:List Int}{i:Nat}(h:i<l.length)(v:Int):(l.set i v).getD i 0=v:=by
 simp[aV,h]
theorem yh{m:List Int}{i:Nat}(hi:i<m.length)(v:Int)(a:Nat):lN (m.set i v) a=if a/4=i then wG v (a%4)else lN m a:=by
 unfold lN
 split
 ·rename_i h;rw[h,Qw4 hi]
 ·rename_i h;rw[wA _ _ _ _ (λe=>h e.symm)]
theorem vh{x y:Int}(hx:U x)(hy:U y)(k:Nat)(hk:x<2^k)(h:x+y*2^k<4294967296):iJ .u32 x (y*2^k)=x+y*2^k:=by
 obtain⟨n,rfl⟩:∃n:Nat,x=n:=⟨x.toNat,by have:=hx.1;omega⟩
 obtain⟨z,rfl⟩:∃n:Nat,y=n:=⟨y.toNat,by have:=hy.1;omega⟩
 have e:((z:Int)*2^k)=((z*2^k:Nat):Int):=by simp
 rw[e]at h⊢
 have hn:n<2^k:=by exact_mod_cast hk
 rw[qaB hx ⟨by omega,by omega⟩,dX,dX,Nat.or_comm,Nat.mul_comm,<-Nat.two_pow_add_eq_or_of_lt hn]
 omega
theorem four{a b c d:Int}(ha:0<=a/\a<256)(hb:0<=b/\b<256)(hc:0<=c/\c<256)(hd:0<=d/\d<256):iJ .u32 (iJ .u32 (iJ .u32 (wrap .u32 a) (ei .u32 (wrap .u32 b) 8)) (ei .u32 (wrap .u32 c) 16)) (ei .u32 (wrap .u32 d) 24)=a+b*2^8+c*2^16+d*2^24:=by
 have w:∀{x:Int},0<=x/\x<256->wrap .u32 x=x:=λhx=>by rw[wrap_u32];omega
 have s8:∀{x:Int},0<=x/\x<256->ei .u32 x 8=x*2^8:=fun{x} hx=>by show wrap .u32 (x*2^8)=_;rw[wrap_u32];omega
 have Bc:∀{x:Int},0<=x/\x<256->ei .u32 x 16=x*2^16:=fun{x} hx=>by show wrap .u32 (x*2^16)=_;rw[wrap_u32];omega
 have uv:∀{x:Int},0<=x/\x<256->ei .u32 x 24=x*2^24:=fun{x} hx=>by show wrap .u32 (x*2^24)=_;rw[wrap_u32];omega
 rw[w ha,w hb,w hc,w hd,s8 hb,Bc hc,uv hd]
 rw[vh ⟨by omega,by omega⟩ ⟨by omega,by omega⟩ 8 (by omega) (by omega),vh ⟨by omega,by omega⟩ ⟨by omega,by omega⟩ 16 (by omega) (by omega),vh ⟨by omega,by omega⟩ ⟨by omega,by omega⟩ 24 (by omega) (by omega)]
theorem xJ{a b c d:Int}(ha:0<=a/\a<256)(hb:0<=b/\b<256)(hc:0<=c/\c<256)(hd:0<=d/\d<256)(k:Nat)(hk:k<4):wG (a+b*2^8+c*2^16+d*2^24) k=if k=0 then a else if k=1 then b else if k=2 then c else d:=by
 have hk:k=0\/k=1\/k=2\/k=3:=by omega
 rcases hk with rfl|rfl|rfl|rfl<;>simp[wG]<;>omega
theorem Xj{m:List Int}(h:Q1 P m)(f:Int):EM m f=decide (0<=f/\f<P):=by
 have hp:=ur h
 simp only[EM,KY,Tree.m,ee,hp]
 by_cases h1:0<=f
 ·rw[dY h1];simp[h1]
 ·rw[dN h1];simp[h1]
theorem zJ(s:List UInt8)(a b k:Nat)(h:k<b):(cU b (cV a s)).getD k 0=s.getD (a+k) 0:=by
 simp[cX,aF,h]
theorem GZ(x:UInt8):0<=(x.toNat:Int)/\(x.toNat:Int)<256:=by have:=x.toNat_lt;omega
theorem Xk{m:List Int}(h:Q1 P m)(f0:0<=f)(f1:f<P)(hs:s.length=128):(IM m f s).w (λr=>r.2=true/\Q1 P r.1/\∀b:Nat,lN r.1 b=if f*128<=b/\(b:Int)<f*128+128 then((s.getD (b-f*128).toNat 0).toNat:Int)else lN m b):=by
 have jm:kA m=m:=rfl
 have h2:=h.p2
 unfold IM
 refine c8 (GR h) (aq λx0 nV=>aq λx1 pd=>?_)
 rw[jm]at nV;subst nV
 rw[Xj h,dY ⟨f0,f1⟩]at pd
 subst pd
 refine ab (λhb=>by cases hb) λ_=>ab (λhb=>by simp[hs]at hb) λ_=>?_
 refine fj (inv:=λz:Int×List Int=>0<=z.1/\z.1<=32/\Q1 P z.2/\∀b:Nat,lN z.2 b=if f*128<=b/\(b:Int)<f*128+4*z.1 then((s.getD (b-f*128).toNat 0).toNat:Int)else lN x0 b) (μ:=W4 x0 f s) ⟨show(0:Int)<=0 by decide,show(0:Int)<=32 by decide,h,λb=>by rw[if_neg];show¬(_/\_<_+4*(0:Int));omega⟩ (cN _) λz ⟨z1,z2,z3,z4⟩=>?_
 refine ab (λhb=>?_) (λhb=>⟨rfl,z3,λb=>?_⟩)
 ·have hb:=oY hb
  have e1:i64.wrap (4*z.1)=4*z.1:=by rw[wrap_i64];omega
  have e2:i64.wrap (i64.wrap (4*z.1)+4)=4*z.1+4:=by rw[wrap_i64,wrap_i64];omega
  have e3:i64.wrap (i64.wrap (f*32)+z.1)=f*32+z.1:=by rw[wrap_i64,wrap_i64];omega
  have hl:=z3.len
  have cut:dA (i64.wrap (i64.wrap (4*z.1)+4))-dA (i64.wrap (4*z.1))=4:=by rw[e2,e1];omega
  have hlen:(cU (dA (i64.wrap (i64.wrap (4*z.1)+4))-dA (i64.wrap (4*z.1))) (cV (dA (i64.wrap (4*z.1))) s)).length=4:=by
   rw[cut,e1,aD,aG];omega
  refine aw (dY (by rw[e2,e1];omega)) ?_
  refine aw (dY (by rw[hlen];decide)) (aw (dY (by rw[hlen];decide)) (aw (dY (by rw[hlen];decide)) (aw (dY (by rw[hlen];decide)) (aw (by rw[e3];simp[bN];omega) (ep ?_)))))
  have ew:i64.wrap (z.1+1)=z.1+1:=by rw[wrap_i64];omega
  rw[cut]
  refine⟨⟨by show 0<=i64.wrap (z.1+1);rw[ew];omega,by show i64.wrap (z.1+1)<=32;rw[ew];omega,?_,?_⟩,by show(32-i64.wrap (z.1+1)).toNat<(32-z.1).toNat;rw[ew];omega⟩
  ·show Q1 P (dB _ _ _)
   exact⟨by rw[dC];exact hl,z3.p1,z3.p2,EN z3.u (nJ _ _) _⟩
  ·intro b
   show lN (dB z.2 (dA (i64.wrap (i64.wrap (f*32)+z.1))) _) b=if f*128<=(b:Int)/\(b:Int)<f*128+4*i64.wrap (z.1+1)then _ else _
   rw[e3,ew,four (GZ _) (GZ _) (GZ _) (GZ _),yh (by omega)]
   have g:∀k:Nat,k<4->(cU 4 (cV (dA (i64.wrap (4*z.1))) s)).getD k 0=s.getD ((4*z.1).toNat+k) 0:=λk hk=>by rw[e1];exact zJ _ _ _ _ hk
   by_cases hc:b/4=(f*32+z.1).toNat
   ·have Ts:f*128<=(b:Int)/\(b:Int)<f*128+4*(z.1+1):=by omega
    rw[if_pos hc,xJ (GZ _) (GZ _) (GZ _) (GZ _) _ (by omega),if_pos Ts]
    have hb4:b%4=0\/b%4=1\/b%4=2\/b%4=3:=by omega
    have gi:(b-f*128).toNat=(4*z.1).toNat+b%4:=by omega
    rw[gi]
    rcases hb4 with h4|h4|h4|h4<;>rw[h4]
    ·rw[if_pos rfl,<-g 0 (by omega)];rfl
    ·rw[if_neg (by decide),if_pos rfl,<-g 1 (by omega)];rfl
    ·rw[if_neg (by decide),if_neg (by decide),if_pos rfl,<-g 2 (by omega)];rfl
    ·rw[if_neg (by decide),if_neg (by decide),if_neg (by decide),<-g 3 (by omega)];rfl
   ·rw[if_neg hc,z4 b]
    by_cases hd:f*128<=(b:Int)/\(b:Int)<f*128+4*z.1
    ·rw[if_pos hd,if_pos (by omega)]
    ·rw[if_neg hd,if_neg (by omega)]
 ·have hb:=oN hb
  show lN z.2 b=_
  rw[z4 b,show z.1=32 by omega]
  rfl
theorem Zpn{α:Type}(l l2:List α)(k:Nat)(z:α):(l++l2).getD k z=if k<l.length then l.getD k z else l2.getD (k-l.length) z:=by
 simp only[cX,List.getElem?_append]
 split<;>rfl
theorem u8w:wrap .u8 x=x%256:=wrap_u8 x
theorem G3(W:Int):bj .u32 W 8=W/256/\bj .u32 W 16=W/65536/\bj .u32 W 24=W/16777216:=by
 refine⟨?_,?_,?_⟩
 ·show eC W 256=_;rw[dJ _ (by decide)]
 ·show eC W 65536=_;rw[dJ _ (by decide)]
 ·show eC W 16777216=_;rw[dJ _ (by decide)]
theorem b4d(W:Int)(hk:k<4):[wrap .u8 W,wrap .u8 (bj .u32 W 8),wrap .u8 (bj .u32 W 16),wrap .u8 (bj .u32 W 24)].getD k 0=wG W k:=by
 obtain⟨a,b,c⟩:=G3 W
 have hk:k=0\/k=1\/k=2\/k=3:=by omega
 rcases hk with rfl|rfl|rfl|rfl<;>simp[wG,a,b,c,u8w]
theorem Xl(l:List Int)(k:Nat)(h:0<=l.getD k 0/\l.getD k 0<256)(hk:k<l.length):(((bytesOf l).getD k 0).toNat:Int)=l.getD k 0:=by
 have e:(bytesOf l).getD k 0=eD (l.getD k 0).toNat:=by
  simp[bytesOf,cX,hk]
 rw[e,UInt8.toNat_ofNat']
 omega
theorem Zmh(l:List UInt8)(k:Nat)(hk:k<l.length):(pf l).getD k 0=((l.getD k 0).toNat:Int):=by
 simp[pf,cX,hk]
theorem zaB(w:List Int)(h:w.length<=32):(EO w).w (λr=>r.length=4*w.length/\∀k:Nat,k<4*w.length->((r.getD k 0).toNat:Int)=wG (w.getD (k/4) 0) (k%4)):=by
 have e0:i64.wrap (4*(w.length:Int))=4*w.length:=by rw[wrap_i64];omega
 unfold EO
 refine aw (by rw[e0];simp[bN,D.plain];omega) ?_
 refine fj (inv:=λz:Int×List Int=>0<=z.1/\z.1<=w.length/\(z.2.length:Int)=4*z.1/\∀k:Nat,(k:Int)<4*z.1->z.2.getD k 0=wG (w.getD (k/4) 0) (k%4)) (μ:=Q8 w) ⟨by decide,by show(0:Int)<=w.length;omega,rfl,λk hk=>by have hk:(k:Int)<4*0:=hk;omega⟩ (cN _) λz ⟨z1,z2,z3,z4⟩=>?_
 refine ab (λhb=>?_) (λhb=>?_)
 ·have hb:=oY hb
  have ew:i64.wrap (z.1+1)=z.1+1:=by rw[wrap_i64];omega
  refine aw (by simp[bN];omega) (aw (dY (by omega)) (ep ?_))
  show(_/\_/\_/\∀k:Nat,(k:Int)<4*i64.wrap (z.1+1)->(z.2++_).getD k 0=_)/\(_:Nat)<_
  refine⟨⟨by rw[ew];omega,by rw[ew];omega,by rw[ew,lA];simp only[dD,dE];omega,λk hk=>?_⟩,by show(w.length-i64.wrap (z.1+1)).toNat<(w.length-z.1).toNat;rw[ew];omega⟩
  rw[ew]at hk
  rw[Zpn]
  split
  ·exact z4 k (by omega)
  ·rename_i hn
   rw[b4d _ (by omega),show z.1.toNat=k/4 by omega,show k-z.2.length=k%4 by omega]
 ·have hb:=oN hb
  show(bytesOf z.2).length=_/\∀k:Nat,_->(((bytesOf z.2).getD k 0).toNat:Int)=_
  refine⟨by rw[NV];omega,λk hk=>?_⟩
  have e:=z4 k (by omega)
  have:=xh (w.getD (k/4) 0) (k%4)
  rw[Xl _ _ (by rw[e];exact this) (by omega),e]
def Cl(m:List Int)(f:Int)(r:List UInt8):Prop:=r.length=128/\∀k:Nat,k<128->((r.getD k 0).toNat:Int)=lN m ((f*128).toNat+k)
theorem qi{m:List Int}{r s:List UInt8}(a:Cl m f r)(b:Cl m f s):r=s:=by
 obtain⟨a1,a2⟩:=a
 obtain⟨b1,b2⟩:=b
 refine bR (by omega) λi h1 h2=>?_
 have e:=(a2 i (by omega)).trans (b2 i (by omega)).symm
 have e1:r[i]=r.getD i 0:=by simp[aV,h1]
 have e2:s[i]=s.getD i 0:=by simp[aV,h2]
 rw[e1,e2]
 exact UInt8.toNat_inj.1 (by omega)
theorem xi{m:List Int}(h:Q1 P m)(f0:0<=f)(f1:f<P):(DP m f).w (λr=>Cl m f r.1/\r.2=true):=by
 have hl:=h.len
 have h2:=h.p2
 unfold DP
 refine aq λx0 nV=>?_
 rw[Xj h,dY ⟨f0,f1⟩]at nV
 subst nV
 refine ab (λhb=>by cases hb) (λhb=>?_)
 have e1:i64.wrap (f*32)=f*32:=by rw[wrap_i64];omega
 have e2:i64.wrap (i64.wrap (f*32)+32)=f*32+32:=by rw[wrap_i64,wrap_i64];omega
 have cut:dA (i64.wrap (i64.wrap (f*32)+32))-dA (i64.wrap (f*32))=32:=by rw[e2,e1];omega
 have hlen:(cU 32 (cV (dA (i64.wrap (f*32))) m)).length=32:=by
  rw[e1,aD,aG];omega
 refine aw (by rw[e2,e1];simp[bN];omega) ?_
 rw[cut]
 refine c8 (by show dF _<=1000000000000;rw[hlen];decide) (aq λx1 h1=>?_)
 have t:=(Tree.pp (zaB _ (dG hlen))).2
 rw[hlen,show(EO (cU 32 (cV (dA (i64.wrap (f*32))) m))).m=x1 from h1.symm]at t
 refine⟨⟨t.1,λk hk=>?_⟩,rfl⟩
 show((x1.getD k 0).toNat:Int)=_
 rw[t.2 k hk,lN,e1]
 have g:(cU 32 (cV (dA (f*32)) m)).getD (k/4) 0=m.getD ((f*32).toNat+k/4) 0:=by
  simp[cX,aF,show k/4<32 by omega]
 rw[g,show((f*128).toNat+k)/4=(f*32).toNat+k/4 by omega,show((f*128).toNat+k)%4=k%4 by omega]
theorem xaB(x:Int):Xm x 4=bytesOf [wrap .u8 (bj .u32 x 0),wrap .u8 (bj .u32 x 8),wrap .u8 (bj .u32 x 16),wrap .u8 (bj .u32 x 24)]:=by kernel_rfl
theorem xah{m:List Int}(hm:Q1 P m){frame:Int}(f0:0<=frame)(f1:frame<P):(G4 m frame).w (λr=>Cl m frame r.1/\r.2=true):=by
 have hp:=DV hm
 have hl:=hm.len
 have h2:=hm.p2
 unfold G4
 refine ab (λh=>by have:=oY h;omega) (λh=>aq λx0 hx=>ab (λh1=>by have:=oY h1;rw[hx,hp]at this;omega) (λh1=>?_))
 refine fj (inv:=λz:Int×List Int=>0<=z.1/\z.1<=32/\(z.2.length:Int)=4*z.1/\∀k:Nat,(k:Int)<4*z.1->z.2.getD k 0=lN m ((frame*128).toNat+k)) (μ:=Xn m frame) ⟨by decide,by decide,rfl,λk hk=>by have hk:(k:Int)<4*0:=hk;omega⟩ (cN _) (λz hz=>?_)
 obtain⟨z1,z2,z3,z4⟩:=hz
 refine ab (λhb=>?_) (λhb=>?_)
 ·have hb:=oY hb
  have e:wrap i64 (wrap i64 (frame*32)+z.1)=frame*32+z.1:=by rw[wrap_i64,wrap_i64];omega
  refine aw (by rw[e];simp[bN];omega) (c8 (show(4:Int)<=1000000000000 by decide) (aq λx1 h4=>?_))
  rw[xaB,Oc,e]at h4
  have l4:x1.length=4:=by rw[h4];rfl
  refine aw (dY (by rw[Tt,l4];omega)) (ep ?_)
  show(0<=i64.wrap (z.1+1)/\i64.wrap (z.1+1)<=32/\((z.2++pf x1).length:Int)=4*i64.wrap (z.1+1)/\∀k:Nat,(k:Int)<4*i64.wrap (z.1+1)->(z.2++pf x1).getD k 0=_)/\(32-i64.wrap (z.1+1)).toNat<(32-z.1).toNat
  have ew:i64.wrap (z.1+1)=z.1+1:=by rw[wrap_i64];omega
  rw[ew]
  refine⟨⟨by omega,by omega,by rw[lA,Tt,l4];omega,λk hk=>?_⟩,by omega⟩
  rw[Zpn]
  split
  ·exact z4 k (by omega)
  ·rename_i hn
   have DW:k-z.2.length<4:=by omega
   rw[Zmh _ _ (by omega),h4]
   have d:=b4d (m.getD (frame*32+z.1).toNat 0) DW
   rw[Xl _ _ (by rw[d];exact xh _ _) (by simpa using DW),d,lN]
   rw[show((frame*128).toNat+k)/4=(frame*32+z.1).toNat by omega,show((frame*128).toNat+k)%4=k-z.2.length by omega]
 ·have hb:=oN hb
  refine⟨⟨?_,λk hk=>?_⟩,rfl⟩
  ·show(bytesOf z.2).length=128
   rw[NV];omega
  ·show(((bytesOf z.2).getD k 0).toNat:Int)=_
   have e:=z4 k (by omega)
   rw[Xl _ _ (by rw[e];exact xh _ _) (by omega),e]
theorem Zha{m:List Int}(h:Q1 P m)(f:Int):jG m f=Lm m f:=by
 by_cases hf:0<=f/\f<P
 ·have a:=(Tree.pp (xi h hf.1 hf.2)).2
  have b:=(Tree.pp (xah h hf.1 hf.2)).2
  exact Prod.ext (qi a.1 b.1) (a.2.trans b.2.symm)
 ·have hp:=DV h
  have e1:jG m f=([],false):=by
   simp only[jG,DP,Tree.m,ee,Xj h,dN hf];rfl
  have e2:Lm m f=([],false):=by
   simp only[Lm,G4,Tree.m,ee,hp]
   by_cases h0:f<0
   ·rw[dY h0];rfl
   ·rw[dN h0,dY (show f>=P by omega)];rfl
  rw[e1,e2]
section
variable {P:Nat} {m:List Int} (h:Q1 P m)
include h
theorem Oh(ha:U a)(hs:size=1\/size=4):uy m a size=decide (a%size=0/\a<128*P):=by
 have hq:=DV h
 have h2:=h.p2
 have a0:=ha.1
 have e:wrap u32 size=size:=by rcases hs with rfl|rfl<;>decide
 have e0:decide (wrap u32 size≠0)=true:=by rcases hs with rfl|rfl<;>decide
 have t:cZ a (wrap u32 size)=a%size:=by rw[e,dZ a0]
 have l:∀x,x=wH m->a%size=0->decide (a<wrap u32 (wrap i64 (128*x)))=decide (a%size=0/\a<128*P):=λx hx hz=>by
  rw[hx,hq,wrap_u32,wrap_i64]
  exact decide_eq_decide.2 ⟨λh=>⟨hz,by omega⟩,λh=>by omega⟩
 refine Tree.post (I3 m a size) (W:=λb=>b=decide (a%size=0/\a<128*P)) ?_
 unfold I3
 refine ab (λh1=>ab (λh4=>?_) (λ_=>?_)) (λ_=>?_)
 ·have h1:¬size=1:=by simpa using h1
  have h4:¬size=4:=by simpa using h4
  omega
 all_goals
  refine aw e0 (ab (λhb=>aq λx hx=>l x hx ?_) (λhb=>?_))
  ·rw[t]at hb;exact eq_of_beq hb
  ·rw[t]at hb
   exact(dN (λh=>by rw[h.1]at hb;cases hb)).symm
theorem Z7m(ha:U a)(hs:size=1\/size=4):Xo m a size=uy m a size:=by
 rw[Oh h ha hs]
 have hq:=Xp h
 have h2:=h.p2
 have a0:=ha.1
 have a1:=ha.2
 have e:wrap u32 size=size:=by rcases hs with rfl|rfl<;>decide
 have e0:decide (wrap u32 size≠0)=true:=by rcases hs with rfl|rfl<;>decide
 have t:cZ a (wrap u32 size)=a%size:=by rw[e,dZ a0]
 have l:∀x,x=jQ m->a%size=0->decide (wrap u64 (wrap u64 a+wrap u64 size)<=wrap u64 (wrap u64 x*128))=decide (a%size=0/\a<128*P):=λx hx hz=>by
  rw[hx,hq]
  simp only[wrap_u64]
  refine decide_eq_decide.2 ⟨λh=>⟨hz,?_⟩,λh=>?_⟩<;>rcases hs with rfl|rfl<;>omega
 refine Tree.post (I4 m a size) (W:=λb=>b=decide (a%size=0/\a<128*P)) ?_
 unfold I4
 refine ab (λh1=>ab (λh4=>?_) (λ_=>?_)) (λ_=>?_)
 ·have h1:¬size=1:=by simpa using h1
  have h4:¬size=4:=by simpa using h4
  omega
 all_goals
  refine aw e0 (ab (λhb=>?_) (λhb=>aq λx hx=>l x hx ?_))
  ·rw[t]at hb
   exact(dN (λh=>by rw[h.1]at hb;cases hb)).symm
  ·rw[t]at hb;simpa using hb
end
theorem Xq(w:Int):tG w 0 8=bb .u32 (bj .u32 w 0) 255/\tG w 8 8=bb .u32 (bj .u32 w 8) 255/\tG w 16 8=bb .u32 (bj .u32 w 16) 255/\tG w 24 8=bb .u32 (bj .u32 w 24) 255:=
 ⟨by kernel_rfl,by kernel_rfl,by kernel_rfl,by kernel_rfl⟩
theorem Xr(w v:Int):Ln w 0 8 v=EZ w v 0/\Ln w 8 8 v=EZ w v 8/\Ln w 16 8 v=EZ w v 16/\Ln w 24 8 v=EZ w v 24:=
 ⟨by kernel_rfl,by kernel_rfl,by kernel_rfl,by kernel_rfl⟩
theorem zi(ha:U a):wrap .i64 (wrap .i64 (cZ a 4)*8)=8*(a%4)/\wrap .u32 (8*cZ a 4)=8*(a%4):=by
 obtain⟨a0,a1⟩:=ha
 rw[dZ a0]
 exact⟨by rw[wrap_i64,wrap_i64];omega,by rw[wrap_u32];omega⟩
section
variable {P:Nat} {m:List Int} (h:Q1 P m)
include h
theorem Oi(ha:U a)(hs:size=1\/size=4):Cm m a size=oV m a size:=by
 have e:=Z7m h ha hs
 obtain⟨s1,s2⟩:=zi ha
 have f:tG (m.getD (dA (wrap .u32 (eF a 4))) 0) (8*(a%4)) 8=bb .u32 (bj .u32 (m.getD (dA (wrap .u32 (eF a 4))) 0) (8*(a%4))) 255:=by
  obtain⟨f0,f1,f2,f3⟩:=Xq (m.getD (dA (wrap .u32 (eF a 4))) 0)
  have:a%4=0\/a%4=1\/a%4=2\/a%4=3:=by omega
  rcases this with h|h|h|h<;>rw[h]
  ·exact f0
  ·exact f1
  ·exact f2
  ·exact f3
 simp only[Cm,Lo,oV,DX,Tree.m,ee,e,s1,s2,f]
omit h in
theorem Xs(a size:Int):(oV m a size).2=uy m a size:=by
 simp only[oV,DX,Tree.m,ee]
 cases uy m a size
 ·rfl
 ·cases size==1<;>rfl
theorem Zd(ha:U a)(hs:size=1\/size=4)(v:Int):Lp m a size v=bif uy m a size then(I5 m a size v,true)else(m,false):=by
 have jm:kA m=m:=rfl
 have e:=Z7m h ha hs
 obtain⟨s1,s2⟩:=zi ha
 have f:∀w,Ln w (8*(a%4)) 8 v=iJ .u32 (oR .u32 w (ei .u32 255 (8*(a%4)))) (ei .u32 (bb .u32 v 255) (8*(a%4))):=λw=>by
  obtain⟨f0,f1,f2,f3⟩:=Xr w v
  have:a%4=0\/a%4=1\/a%4=2\/a%4=3:=by omega
  rcases this with h|h|h|h<;>rw[h]
  ·exact f0
  ·exact f1
  ·exact f2
  ·exact f3
 simp only[Lp,Lq,I5,Lr,Tree.m,ee,jm,e,s1,s2,f]
 rcases hs with rfl|rfl<;>cases uy m a _<;>rfl
end
section
variable {P:Nat} {m:List Int} (h:Q1 P m)
include h
theorem yi{root va:Int}(hr:U root)(hv:U va)(ha:access=1\/access=2\/access=3):Tu m root va access=Aw m root va access:=by
 have hp:=DV h
 have h2:=h.p2
 have hlen:=h.len
 obtain⟨r1,r2⟩:=hr
 obtain⟨v1,v2⟩:=hv
 have IP:∀{f:Int},U f->Oj m f=decide (f<P):=λhf=>vU h hf
 have eP:wrap .u32 (P:Int)=P:=by rw[wrap_u32];omega
 have kn:Ok access=true:=by rcases ha with rfl|rfl|rfl<;>rfl
 have ca:Qm9 access=(Cn access,true):=by rcases ha with rfl|rfl|rfl<;>rfl
 simp only[Tu,Qb,Aw,G5,Tree.m,ee,hp,eP,kn,ca,IP ⟨r1,r2⟩]
 by_cases c1:va>=4096
 ·rw[dY c1];rfl
 by_cases c2:root<P
 ·have eE:wrap u32 (wrap u32 (root*128)+wrap u32 (4*wrap u32 (eF va 128)))=root*128+4*(va/128):=by
   rw[eG v1,wrap_u32,wrap_u32,wrap_u32,wrap_u32];omega
  have hE:U (root*128+4*(va/128)):=⟨by omega,by omega⟩
  have wi:uy m (root*128+4*(va/128)) 4=true:=by
   rw[Oh h hE (.inr rfl)];exact dY ⟨by omega,by omega⟩
  rw[dN c1,dY c2,dN (show¬root>=P by omega),eE,Oi h hE (.inr rfl),Xs,wi]
  have ld:(oV m (root*128+4*(va/128)) 4).1=m.getD (dA (wrap .u32 (eF (root*128+4*(va/128)) 4))) 0:=by
   simp only[oV,DX,Tree.m,ee,wi];rfl
  rw[ld]
  generalize m.getD (dA (wrap .u32 (eF (root*128+4*(va/128)) 4))) 0=w
  have fo:Xt w=bb .u32 (bj .u32 w 8) 255:=(fld w).2.2.2.2
  rw[fo,IP (Ls _ _)]
  have gh:decide (bb .u32 (bj .u32 w 8) 255>=(P:Int))=!decide (bb .u32 (bj .u32 w 8) 255<(P:Int)):=by
   by_cases hq:bb .u32 (bj .u32 w 8) 255<(P:Int)
   ·rw[dY hq,dN (by omega)];rfl
   ·rw[dN hq,dY (by omega)];rfl
  rw[gh]
  generalize decide (bb .u32 (bj .u32 w 8) 255<(P:Int))=d
  rcases ha with rfl|rfl|rfl
  ·show _=(bif bb .u32 w 1==0 then _ else bif bb .u32 w 4==0 then _ else bif !d then _ else _)
   have:Tv w 1=(bif bb .u32 w 1==0 then false else !(bb .u32 w 4==0)):=rfl
   rw[this]
   cases bb .u32 w 1==0<;>cases bb .u32 w 4==0<;>cases d<;>rfl
  ·show _=(bif bb .u32 w 1==0 then _ else bif !d then _ else _)
   have:Tv w 2=(bif bb .u32 w 1==0 then false else true):=rfl
   rw[this]
   cases bb .u32 w 1==0<;>cases d<;>rfl
  ·show _=(bif bb .u32 w 1==0 then _ else bif bb .u32 w 2==0 then _ else bif !d then _ else _)
   have:Tv w 3=(bif bb .u32 w 1==0 then false else !(bb .u32 w 2==0)):=rfl
   rw[this]
   cases bb .u32 w 1==0<;>cases bb .u32 w 2==0<;>cases d<;>rfl
 ·rw[dN c1,dN c2,dY (show root>=P by omega)];rfl
theorem Zsm(ha:U a)(access:Int):Ol m a access=Tw m a access:=by
 have jm:kA m=m:=rfl
 have hl:=h.len
 have a0:=ha.1
 simp only[Ol,Lt,Tw,Lu,Tree.m,ee,Oi h ha (.inr rfl),Xs,Zd h ha (.inr rfl),jm]
 cases hw:uy m a 4
 ·rfl
 ·rw[Oh h ha (.inr rfl)]at hw
  have hw:=oY hw
  have wi:uy m a 4=true:=by rw[Oh h ha (.inr rfl)];exact dY hw
  have ld:(oV m a 4).1=m.getD (dA (wrap .u32 (eF a 4))) 0:=by
   simp only[oV,DX,Tree.m,ee,wi];rfl
  have pu:∀v,I5 m a 4 v=m.set (dA (wrap .u32 (eF a 4))) v:=λv=>rfl
  rw[ld,pu,pu]
  have hi:dA (wrap .u32 (eF a 4))<m.length:=by
   rw[eG a0,wrap_u32];omega
  generalize dA (wrap .u32 (eF a 4))=i at*
  rw[Qw4 hi,List.set_set]
  rfl
end
theorem Qr(h0:0<=c.C3.a0)(h:c.C3.a0<=31)(k b:Int):rh c k b=pP c k b:=by
 have e:=eq_of_beq (EW (λs=>oR .u32 (iJ .u32 (Av (Av s 1 8) 2 16) 1) 2==iJ .u32 (oR .u32 (iJ .u32 (iJ .u32 (oR .u32 s 24) (wrap .u32 (8*Co (bb .u32 s 1 !=0)))) (wrap .u32 (16*Co (bb .u32 s 2 !=0)))) 2) 1) 32 (by kernel_rfl) h0 (by omega))
 simp only[rh,Om,pP,On,Tree.m,ee,e]
theorem Zn0(h0:0<=c.C3.a0)(h:c.C3.a0<=31):Lb c=Tx c:=by
 have e:=eq_of_beq (EW (λs=>Av (Av s 8 1) 16 2==iJ .u32 (iJ .u32 (oR .u32 s 3) (wrap .u32 (1*Co (bb .u32 s 8 !=0)))) (wrap .u32 (2*Co (bb .u32 s 16 !=0)))) 32 (by kernel_rfl) h0 (by omega))
 simp only[Lb,Oo,Tx,Oq,Tree.m,ee,e]
theorem Zri(h0:0<=c.C3.a0)(h:c.C3.a0<=31):Xu c=(!I6 c&&(bb .u32 c.C3.a0 4 !=0)):=
 eq_of_beq (EW (λs=>(bb .u32 s 5==4)==(!(bb .u32 s 1 !=0)&&(bb .u32 s 4 !=0))) 32 (by kernel_rfl) h0 (by omega))
theorem Ty(c:bq)(hr:0<=r/\r<16)(v:Int):uz c r v=lO c r v:=by
 simp only[uz,ES,lO,I7,Tree.m]
 by_cases h:r=0
 ·subst h;rfl
 ·rw[dY (show r>0 by omega),dY hr.2,show(r !=0)=true by simpa using h];rfl
theorem yJ{a b:Int}(ha:U a)(hb:U b):Lv a b=Lw a b:=by
 obtain⟨a0,a1⟩:=ha
 obtain⟨b0,b1⟩:=hb
 have i:∀x,wrap .i64 (wrap .i32 x)=wrap .i32 x:=λx=>by rw[wrap_i64,wrap_i32];omega
 have r32:∀x,-2147483648<=wrap .i32 x/\wrap .i32 x<2147483648:=λx=>by rw[wrap_i32];omega
 have q32:∀x y:Int,-2147483648<=x/\x<2147483648-> -2147483648<=eF x y/\eF x y<=2147483648:=λx y hx=>by
  have h1:(eF x y).natAbs<=x.natAbs:=by rw[Int.natAbs_tdiv];exact Nat.div_le_self _ _
  omega
 simp only[Lv,Lx,Lw,Ly,Tree.m,i]
 cases hb:b==0
 ·have w:∀z,wrap .u32 (wrap .i32 z)=wrap .u32 z:=λz=>by rw[wrap_i32,wrap_u32,wrap_u32];omega
  have w2:wrap .i64 (eF (wrap .i32 a) (wrap .i32 b))=eF (wrap .i32 a) (wrap .i32 b):=by
   have:=q32 _ (wrap .i32 b) (r32 a)
   rw[wrap_i64];omega
  rw[w,w2]
  cases h1:a==2147483648
  ·rfl
  ·cases h2:b==4294967295
   ·rfl
   ·have h1:=eq_of_beq h1
    have h2:=eq_of_beq h2
    subst h1;subst h2
    rfl
 ·rfl
theorem vJ{op a b:Int}(h0:1<=op)(h1:op<=23)(ha:U a)(hb:U b):nK op a b=DY op a b:=by
 have sub:wrap .u32 (a+wrap .u32 (0-b))=wrap .u32 (a-b):=by
  rw[wrap_u32,wrap_u32,wrap_u32];omega
 have rJ:op=1\/op=2\/op=3\/op=4\/op=5\/op=6\/op=7\/op=8\/op=9\/op=10\/op=11\/op=12\/op=13\/op=14\/op=15\/op=16\/op=17\/op=18\/op=19\/op=20\/op=21\/op=22\/op=23:=by omega
 have d:=yJ ha hb
 rcases rJ with rfl|rfl|rfl|rfl|rfl|rfl|rfl|rfl|rfl|rfl|rfl|rfl|rfl|rfl|rfl|rfl|rfl|rfl|rfl|rfl|rfl|rfl|rfl
 ·rfl
 ·show(wrap .u32 (a+wrap .u32 (0-b)),true)=(wrap .u32 (a-b),true)
  rw[sub]
 ·rfl
 ·rfl
 ·rfl
 ·rfl
 ·rfl
 ·rfl
 ·rfl
 ·show((Lv a b).1,true)=((Lw a b).1,true)
  rw[d]
 ·show((Lv a b).2,true)=((Lw a b).2,true)
  rw[d]
 all_goals rfl
theorem Xv{m:List Int}(h:Q1 P m)(hc:iL c)(jV:c.C3.a0<=31){va:Int}(hv:U va)(hs:size=1\/size=4)(ha:access=1\/access=2\/access=3):Q2 c m va size access=((lX c m va size access).1,(lX c m va size access).2.2,(lX c m va size access).2.1):=by
 have jm:kA m=m:=rfl
 have kn:Ok access=true:=by rcases ha with rfl|rfl|rfl<;>rfl
 have ca:Qvh access=(Cn access,true):=by rcases ha with rfl|rfl|rfl<;>rfl
 have pg:=Zri hc.a0.1 jV
 have wk:=yi h hc.a6 hv ha
 have tc:Ol m (Aw m c.C3.a6 va access).G2 access=Tw m (Aw m c.C3.a6 va access).G2 access:=Zsm h (Tree.pp (qaa h hc.a6 hv access)).2.2.1 access
 have sz:(bif size !=1 then bif size !=4 then false else true else true)=true:=by rcases hs with rfl|rfl<;>rfl
 simp only[Q2,Lz,lX,I8,Tree.m,ee,jm,kn,ca,pg,wk,tc,Oi h hv hs,Xs]
 rcases hs with rfl|rfl<;>
 ·show(bif _ then _ else _)=_
  cases cZ va _ !=0<;>cases I6 c<;>cases bb .u32 c.C3.a0 4 !=0<;>cases(Aw m c.C3.a6 va access).G1 !=0<;>cases uy m va _<;>rfl
theorem Xw{α:Type}{Q:α->Prop}{c:Bool}{x y:α}(hx:Q x)(hy:Q y):Q (cond c x y):=by cases c<;>assumption
theorem qai(m:List Int)(root:Int){va:Int}(hv:U va)(access:Int):(Aw m root va access).G1=0->(Aw m root va access).Addr%4=va%4:=by
 have hc:Cn access≠0:=by
   simp only[Cn,LA,Tree.m]
   cases access==1<;>cases access==3<;>simp
 have q :(λt:rI=>t.G1=0->t.Addr%4=va%4) (Aw m root va access):=by
   simp only[Aw,G5,Tree.m,ee]
   repeat'(first
     |exact λe=>absurd e hc
     | (intro _
        show wrap .u32 (wrap .u32 (_*128)+cZ va 128)%4=va%4
        rw[dZ hv.1,wrap_u32,wrap_u32];omega)
     |refine Xw (Q:=λt:rI=>t.G1=0->t.Addr%4=va%4) ?_ ?_)
 exact q
theorem qK{m:List Int}{va:Int}(hv:U va)(hs:size=1\/size=4)(ha:access=1\/access=2\/access=3):(lX c m va size access).2.1=0->(lX c m va size access).1%size=0:=by
 have kn:Ok access=true:=by rcases ha with rfl|rfl|rfl<;>rfl
 have hc:Cn access≠0:=by
  simp only[Cn,LA,Tree.m]
  cases access==1<;>cases access==3<;>simp
 rcases hs with rfl|rfl
 ·intro _;omega
 simp only[lX,I8,Tree.m,ee,kn]
 show(bif cZ va 4 !=0 then((0:Int),(3:Int),m)else _).2.1=0->(bif cZ va 4 !=0 then((0:Int),(3:Int),m)else _).1%4=0
 rw[dZ hv.1]
 cases hz:va%4 !=0
 ·have hz:va%4=0:=by simpa using hz
  have w:=qai m c.C3.a6 hv access
  cases hp:Xu c
  ·cases hw:uy m va 4
   ·exactλe=>absurd e hc
   ·exactλ_=>hz
  ·cases hq:(Aw m c.C3.a6 va access).G1 !=0
   ·have hq:(Aw m c.C3.a6 va access).G1=0:=by simpa using hq
    exactλ_=>(w hq).trans hz
   ·have hq:¬(Aw m c.C3.a6 va access).G1=0:=by simpa using hq
    exactλe=>absurd e hq
 ·intro e;cases e
def dk:lK:={C2:=0,D8:=0,F9:=0,Value:=0}
def jN(c:bq)(m:List Int)(i:gw):bq×List Int×lK:=
 bif i.Op==32 then((tH c m i).1,(tH c m i).2,dk)else bif i.Op==33 then((tH c m i).1,(tH c m i).2,dk)else bif i.Op==34 then((tH c m i).1,(tH c m i).2,dk)
 else bif i.Op==35 then((Cp c m i).1,(Cp c m i).2,dk)else bif i.Op==36 then((Cp c m i).1,(Cp c m i).2,dk)else((Xx c i).1,m,(Xx c i).2)
def df(c:bq)(r:Int):Int:=aV (iv.l c.X) r.toNat 0
def pQ(c:bq)(m:List Int)(i:gw):bq×lK×List Int:=
 bif decide (i.Op>=56)then((Xy c i).1,(Xy c i).2,m)else bif decide (i.Op>=40)then(Z8b c i,dk,m)else bif decide (i.Op>=32)then((G6 c m i).1,dk,(G6 c m i).2)
 else bif i.Op==24 then({X:=(lO c i.A (ei .u32 (wrap .u32 i.bw) 16)).X,Pc:=wrap .u32 ((lO c i.A (ei .u32 (wrap .u32 i.bw) 16)).Pc+4),C3:=(lO c i.A (ei .u32 (wrap .u32 i.bw) 16)).C3},dk,m)
 else bif decide (i.Op<=13)then
  ({X:=(lO c i.A (DY i.Op (df c i.B) (df c i.C)).1).X,Pc:=wrap .u32 ((lO c i.A (DY i.Op (df c i.B) (df c i.C)).1).Pc+4),C3:=(lO c i.A (DY i.Op (df c i.B) (df c i.C)).1).C3},dk,m)
 else({X:=(lO c i.A (DY i.Op (df c i.B) (wrap .u32 i.bw)).1).X,Pc:=wrap .u32 ((lO c i.A (DY i.Op (df c i.B) (wrap .u32 i.bw)).1).Pc+4),C3:=(lO c i.A (DY i.Op (df c i.B) (wrap .u32 i.bw)).1).C3},dk,m)
def pj(op:Int):Prop:=op=1\/op=2\/op=3\/op=4\/op=5\/op=6\/op=7\/op=8\/op=9\/op=10\/op=11\/op=12\/op=13\/op=16\/op=17\/op=18\/op=19\/op=20\/op=21\/op=22\/op=23\/op=24\/op=32\/op=33\/op=34\/op=35\/op=36\/op=40\/op=41\/op=42\/op=43\/op=44\/op=45\/op=48\/op=49\/op=56\/op=57\/op=58\/op=59\/op=60\/op=61\/op=62\/op=63\/op=64
theorem zZ(c:bq)(r v:Int):(lO c r v).Pc=c.Pc/\(lO c r v).C3=c.C3:=by
 simp only[lO,I7,Tree.m]
 cases decide (r>0)
 ·exact⟨rfl,rfl⟩
 ·cases decide (r<16)<;>exact⟨rfl,rfl⟩
def I9(c:bq):bq:={X:=c.X,Pc:=wrap .u32 (c.Pc+4),C3:=c.C3}
def va(c:bq)(B bw:Int):Int:=wrap .u32 (aV (iv.l c.X) B.toNat 0+wrap .u32 bw)
def Ot(c:bq)(A v size:Int)(f:Int->Int)(y:Int×List Int×Int):bq×List Int:=bif y.2.2 !=0 then(rh c y.2.2 v,y.2.1)else(I9 (uz c A (f (Cm y.2.1 y.1 size).1)),y.2.1)
def Ou(c:bq)(A v size:Int)(f:Int->Int)(x:Int×Int×List Int):bq×List Int:=bif x.2.1 !=0 then(pP c x.2.1 v,x.2.2)else(I9 (lO c A (f (oV x.2.2 x.1 size).1)),x.2.2)
def Tz(c:bq)(A v size:Int)(y:Int×List Int×Int):bq×List Int:=bif y.2.2 !=0 then(rh c y.2.2 v,y.2.1)else(I9 c,(Lp y.2.1 y.1 size (aV (iv.l c.X) A.toNat 0)).1)
def TA(c:bq)(A v size:Int)(x:Int×Int×List Int):bq×List Int:=bif x.2.1 !=0 then(pP c x.2.1 v,x.2.2)else(I9 c,I5 x.2.2 x.1 size (aV (iv.l c.X) A.toNat 0))
theorem Ov(c:bq)(m:List Int)(A B C bw:Int):
 (tH c m ⟨32,A,B,C,bw⟩=Ot c A (va c B bw) 4 (λv=>v) (Q2 c m (va c B bw) 4 2)/\G6 c m ⟨32,A,B,C,bw⟩=Ou c A (va c B bw) 4 (λv=>v) (lX c m (va c B bw) 4 2))/\
 (tH c m ⟨33,A,B,C,bw⟩=Ot c A (va c B bw) 1 (λv=>DU v 8) (Q2 c m (va c B bw) 1 2)/\G6 c m ⟨33,A,B,C,bw⟩=Ou c A (va c B bw) 1 (λv=>GY v 8) (lX c m (va c B bw) 1 2))/\
 (tH c m ⟨34,A,B,C,bw⟩=Ot c A (va c B bw) 1 (λv=>v) (Q2 c m (va c B bw) 1 2)/\G6 c m ⟨34,A,B,C,bw⟩=Ou c A (va c B bw) 1 (λv=>v) (lX c m (va c B bw) 1 2))/\
 (Cp c m ⟨35,A,B,C,bw⟩=Tz c A (va c B bw) 4 (Q2 c m (va c B bw) 4 3)/\G6 c m ⟨35,A,B,C,bw⟩=TA c A (va c B bw) 4 (lX c m (va c B bw) 4 3))/\
 (Cp c m ⟨36,A,B,C,bw⟩=Tz c A (va c B bw) 1 (Q2 c m (va c B bw) 1 3)/\G6 c m ⟨36,A,B,C,bw⟩=TA c A (va c B bw) 1 (lX c m (va c B bw) 1 3)):=
 ⟨⟨by kernel_rfl,by kernel_rfl⟩,⟨by kernel_rfl,by kernel_rfl⟩,⟨by kernel_rfl,by kernel_rfl⟩,⟨by kernel_rfl,by kernel_rfl⟩,⟨by kernel_rfl,by kernel_rfl⟩⟩
theorem zai{m:List Int}(h:Q1 P m)(a:Int):DU (oV m a 1).1 8=GY (oV m a 1).1 8:=by
 have:∀x:Int×Bool,(∃w,U w/\x=(bb .u32 w 255,true))\/x=(0,false)->DU x.1 8=GY x.1 8:=λx hx=>by
  rcases hx with⟨w,hw,rfl⟩|rfl
  ·have e:=Ch hw
   exact sx8 (by show 0<=bb .u32 w 255;omega) (by show bb .u32 w 255<256;omega)
  ·rfl
 refine this _ ?_
 simp only[oV,DX,Tree.m,ee]
 cases uy m a 1
 ·exact .inr rfl
 ·exact .inl ⟨_,Qz (Be h.u _) _,rfl⟩
section
variable {P:Nat} {m:List Int} (h:Q1 P m) {c:bq} (hc:iL c) (jV:c.C3.a0<=31)
include h hc jV
omit jV in
theorem Xz(hv:U v)(hs:size=1\/size=4)(access:Int):Q1 P (lX c m v size access).2.2/\U (lX c m v size access).1/\((lX c m v size access).2.1=0->(lX c m v size access).1<128*P):=(Tree.pp (TB h hc hv hs access)).2
theorem XA(hA:0<=A/\A<16)(hv:U v)(hs:size=1\/size=4){f g:Int->Int}(hf:∀{m':List Int},Q1 P m'->∀a,f (oV m' a size).1=g (oV m' a size).1):Ot c A v size f (Q2 c m v size 2)=Ou c A v size g (lX c m v size 2):=by
 rw[Xv h hc jV hv hs (.inr (.inl rfl))]
 obtain⟨k,u,_⟩:=Xz h hc hv hs 2
 generalize lX c m v size 2=x at*
 simp only[Ot,Ou,Oi k u hs,Qr hc.a0.1 jV,Ty c hA,hf k]
theorem qj(hv:U v)(hs:size=1\/size=4):Tz c A v size (Q2 c m v size 3)=TA c A v size (lX c m v size 3):=by
 rw[Xv h hc jV hv hs (.inr (.inr rfl))]
 obtain⟨k,u,b⟩:=Xz h hc hv hs 3
 have al:=qK (c:=c) (m:=m) hv hs (access:=3) (.inr (.inr rfl))
 generalize lX c m v size 3=x at*
 simp only[Tz,TA,Zd k u hs,Qr hc.a0.1 jV,Oh k u hs]
 cases hq:x.2.1 !=0
 ·have hq:x.2.1=0:=by simpa using hq
  rw[dY ⟨al hq,b hq⟩];rfl
 ·rfl
end
theorem xK(c:bq)(k v:Int):(Ow c k v).Pc=c.Pc:=by
 simp only[Ow,LB,Tree.m]
 repeat'(first|rfl|refine Xw (Q:=λx:bq=>x.Pc=c.Pc) ?_ ?_)
def jd(c:bq)(A v p:Int):bq:={X:=(uz c A v).X,Pc:=p,C3:=(uz c A v).C3}
def Fa(c:bq)(A v p:Int):bq:={X:=(lO c A v).X,Pc:=p,C3:=(lO c A v).C3}
def jx(c:bq):Int:=wrap .u32 (c.Pc+4)
theorem Ox(c:bq)(hA:0<=A/\A<16)(v p:Int):jd c A v p=Fa c A v p:=by
 unfold jd Fa;rw[Ty c hA]
theorem Zm(c:bq)(A v:Int):I9 (lO c A v)=Fa c A v (jx c):=by
 unfold I9 Fa jx;rw[(zZ c A v).1]
theorem LC(t:Bool)(x y:bq)(m:List Int):((bif t then(x,dk)else(y,dk)).1,m,(bif t then(x,dk)else(y,dk)).2)=((bif t then x else y),m,dk):=by cases t<;>rfl
def G7(op:Int):Bool:=decide (op=1)||decide (op=2)||decide (op=3)||decide (op=4)||decide (op=5)||decide (op=6)||decide (op=7)||decide (op=8)||decide (op=9)||decide (op=10)||decide (op=11)||decide (op=12)||decide (op=13)||decide (op=16)||decide (op=17)||decide (op=18)||decide (op=19)||decide (op=20)||decide (op=21)||decide (op=22)||decide (op=23)||decide (op=24)||decide (op=32)||decide (op=33)||decide (op=34)||decide (op=35)||decide (op=36)||decide (op=40)||decide (op=41)||decide (op=42)||decide (op=43)||decide (op=44)||decide (op=45)||decide (op=48)||decide (op=49)||decide (op=56)||decide (op=57)||decide (op=58)||decide (op=59)||decide (op=60)||decide (op=61)||decide (op=62)||decide (op=63)||decide (op=64)
section
variable {P:Nat} {m:List Int} (h:Q1 P m) {c:bq} (hc:iL c) (jV:c.C3.a0<=31) {A B C bw:Int} (hA:0<=A/\A<16)
include h hc jV hA
theorem xj(rJ:pj op):jN c m ⟨op,A,B,C,bw⟩=((pQ c m ⟨op,A,B,C,bw⟩).1,(pQ c m ⟨op,A,B,C,bw⟩).2.2,(pQ c m ⟨op,A,B,C,bw⟩).2.1):=by
 have pk:∀{k y:Int},1<=k->k<=23->U y->((jd c A (nK k (df c B) y).1 (jx c),m,dk):bq×List Int×lK)=(I9 (lO c A (DY k (df c B) y).1),m,dk):=λh1 h2 hy=>by
  rw[vJ h1 h2 (show U (df c B) from hc.r _) hy,Zm,Ox c hA]
 have uC:U (df c C):=hc.r _
 have uI:U (wrap .u32 bw):=fk _
 obtain⟨⟨l1,l2⟩,⟨l3,l4⟩,⟨l5,l6⟩,⟨l7,l8⟩,⟨l9,l10⟩⟩:=Ov c m A B C bw
 have DZ:U (va c B bw):=fk _
 rcases rJ with rfl|rfl|rfl|rfl|rfl|rfl|rfl|rfl|rfl|rfl|rfl|rfl|rfl|rfl|rfl|rfl|rfl|rfl|rfl|rfl|rfl|rfl|rfl|rfl|rfl|rfl|rfl|rfl|rfl|rfl|rfl|rfl|rfl|rfl|rfl|rfl|rfl|rfl|rfl|rfl|rfl|rfl|rfl|rfl
 ·exact(show jN c m ⟨1,A,B,C,bw⟩=(jd c A (nK 1 (df c B) (df c C)).1 (jx c),m,dk) by kernel_rfl).trans ((pk (by decide) (by decide) uC).trans (by kernel_rfl))
 ·exact(show jN c m ⟨2,A,B,C,bw⟩=(jd c A (nK 2 (df c B) (df c C)).1 (jx c),m,dk) by kernel_rfl).trans ((pk (by decide) (by decide) uC).trans (by kernel_rfl))
 ·exact(show jN c m ⟨3,A,B,C,bw⟩=(jd c A (nK 3 (df c B) (df c C)).1 (jx c),m,dk) by kernel_rfl).trans ((pk (by decide) (by decide) uC).trans (by kernel_rfl))
 ·exact(show jN c m ⟨4,A,B,C,bw⟩=(jd c A (nK 4 (df c B) (df c C)).1 (jx c),m,dk) by kernel_rfl).trans ((pk (by decide) (by decide) uC).trans (by kernel_rfl))
 ·exact(show jN c m ⟨5,A,B,C,bw⟩=(jd c A (nK 5 (df c B) (df c C)).1 (jx c),m,dk) by kernel_rfl).trans ((pk (by decide) (by decide) uC).trans (by kernel_rfl))
 ·exact(show jN c m ⟨6,A,B,C,bw⟩=(jd c A (nK 6 (df c B) (df c C)).1 (jx c),m,dk) by kernel_rfl).trans ((pk (by decide) (by decide) uC).trans (by kernel_rfl))
 ·exact(show jN c m ⟨7,A,B,C,bw⟩=(jd c A (nK 7 (df c B) (df c C)).1 (jx c),m,dk) by kernel_rfl).trans ((pk (by decide) (by decide) uC).trans (by kernel_rfl))
 ·exact(show jN c m ⟨8,A,B,C,bw⟩=(jd c A (nK 8 (df c B) (df c C)).1 (jx c),m,dk) by kernel_rfl).trans ((pk (by decide) (by decide) uC).trans (by kernel_rfl))
 ·exact(show jN c m ⟨9,A,B,C,bw⟩=(jd c A (nK 9 (df c B) (df c C)).1 (jx c),m,dk) by kernel_rfl).trans ((pk (by decide) (by decide) uC).trans (by kernel_rfl))
 ·exact(show jN c m ⟨10,A,B,C,bw⟩=(jd c A (nK 10 (df c B) (df c C)).1 (jx c),m,dk) by kernel_rfl).trans ((pk (by decide) (by decide) uC).trans (by kernel_rfl))
 ·exact(show jN c m ⟨11,A,B,C,bw⟩=(jd c A (nK 11 (df c B) (df c C)).1 (jx c),m,dk) by kernel_rfl).trans ((pk (by decide) (by decide) uC).trans (by kernel_rfl))
 ·exact(show jN c m ⟨12,A,B,C,bw⟩=(jd c A (nK 12 (df c B) (df c C)).1 (jx c),m,dk) by kernel_rfl).trans ((pk (by decide) (by decide) uC).trans (by kernel_rfl))
 ·exact(show jN c m ⟨13,A,B,C,bw⟩=(jd c A (nK 13 (df c B) (df c C)).1 (jx c),m,dk) by kernel_rfl).trans ((pk (by decide) (by decide) uC).trans (by kernel_rfl))
 ·exact(show jN c m ⟨16,A,B,C,bw⟩=(jd c A (nK 16 (df c B) (wrap .u32 bw)).1 (jx c),m,dk) by kernel_rfl).trans ((pk (by decide) (by decide) uI).trans (by kernel_rfl))
 ·exact(show jN c m ⟨17,A,B,C,bw⟩=(jd c A (nK 17 (df c B) (wrap .u32 bw)).1 (jx c),m,dk) by kernel_rfl).trans ((pk (by decide) (by decide) uI).trans (by kernel_rfl))
 ·exact(show jN c m ⟨18,A,B,C,bw⟩=(jd c A (nK 18 (df c B) (wrap .u32 bw)).1 (jx c),m,dk) by kernel_rfl).trans ((pk (by decide) (by decide) uI).trans (by kernel_rfl))
 ·exact(show jN c m ⟨19,A,B,C,bw⟩=(jd c A (nK 19 (df c B) (wrap .u32 bw)).1 (jx c),m,dk) by kernel_rfl).trans ((pk (by decide) (by decide) uI).trans (by kernel_rfl))
 ·exact(show jN c m ⟨20,A,B,C,bw⟩=(jd c A (nK 20 (df c B) (wrap .u32 bw)).1 (jx c),m,dk) by kernel_rfl).trans ((pk (by decide) (by decide) uI).trans (by kernel_rfl))
 ·exact(show jN c m ⟨21,A,B,C,bw⟩=(jd c A (nK 21 (df c B) (wrap .u32 bw)).1 (jx c),m,dk) by kernel_rfl).trans ((pk (by decide) (by decide) uI).trans (by kernel_rfl))
 ·exact(show jN c m ⟨22,A,B,C,bw⟩=(jd c A (nK 22 (df c B) (wrap .u32 bw)).1 (jx c),m,dk) by kernel_rfl).trans ((pk (by decide) (by decide) uI).trans (by kernel_rfl))
 ·exact(show jN c m ⟨23,A,B,C,bw⟩=(jd c A (nK 23 (df c B) (wrap .u32 bw)).1 (jx c),m,dk) by kernel_rfl).trans ((pk (by decide) (by decide) uI).trans (by kernel_rfl))
 ·refine(show jN c m ⟨24,A,B,C,bw⟩=(jd c A (ei .u32 (wrap .u32 bw) 16) (jx c),m,dk) by kernel_rfl).trans ?_
  rw[Ox c hA,<-Zm];kernel_rfl
 ·have e:=XA h hc jV hA DZ (.inr rfl) (f:=λv=>v) (g:=λv=>v) (λ_ _=>rfl)
  rw[<-l1,<-l2]at e
  refine(show jN c m ⟨32,A,B,C,bw⟩=((tH c m ⟨32,A,B,C,bw⟩).1,(tH c m ⟨32,A,B,C,bw⟩).2,dk) by kernel_rfl).trans ?_
  rw[e];kernel_rfl
 ·have e:=XA h hc jV hA DZ (.inl rfl) (f:=λv=>DU v 8) (g:=λv=>GY v 8) (λhm a=>zai hm a)
  rw[<-l3,<-l4]at e
  refine(show jN c m ⟨33,A,B,C,bw⟩=((tH c m ⟨33,A,B,C,bw⟩).1,(tH c m ⟨33,A,B,C,bw⟩).2,dk) by kernel_rfl).trans ?_
  rw[e];kernel_rfl
 ·have e:=XA h hc jV hA DZ (.inl rfl) (f:=λv=>v) (g:=λv=>v) (λ_ _=>rfl)
  rw[<-l5,<-l6]at e
  refine(show jN c m ⟨34,A,B,C,bw⟩=((tH c m ⟨34,A,B,C,bw⟩).1,(tH c m ⟨34,A,B,C,bw⟩).2,dk) by kernel_rfl).trans ?_
  rw[e];kernel_rfl
 ·have e:=qj h hc jV (A:=A) DZ (.inr rfl)
  rw[<-l7,<-l8]at e
  refine(show jN c m ⟨35,A,B,C,bw⟩=((Cp c m ⟨35,A,B,C,bw⟩).1,(Cp c m ⟨35,A,B,C,bw⟩).2,dk) by kernel_rfl).trans ?_
  rw[e];kernel_rfl
 ·have e:=qj h hc jV (A:=A) DZ (.inl rfl)
  rw[<-l9,<-l10]at e
  refine(show jN c m ⟨36,A,B,C,bw⟩=((Cp c m ⟨36,A,B,C,bw⟩).1,(Cp c m ⟨36,A,B,C,bw⟩).2,dk) by kernel_rfl).trans ?_
  rw[e];kernel_rfl
 ·exact(show jN c m ⟨40,A,B,C,bw⟩=((bif(ri 40 (df c A) (df c B))then((⟨c.X,wrap .u32 (c.Pc+wrap .u32 (4*wrap .u32 bw)),c.C3⟩:bq),dk)else(⟨c.X,jx c,c.C3⟩,dk)).1,m,(bif(ri 40 (df c A) (df c B))then((⟨c.X,wrap .u32 (c.Pc+wrap .u32 (4*wrap .u32 bw)),c.C3⟩:bq),dk)else(⟨c.X,jx c,c.C3⟩,dk)).2) by kernel_rfl).trans ((LC (ri 40 (df c A) (df c B)) ⟨c.X,wrap .u32 (c.Pc+wrap .u32 (4*wrap .u32 bw)),c.C3⟩ ⟨c.X,jx c,c.C3⟩ m).trans (by kernel_rfl))
 ·exact(show jN c m ⟨41,A,B,C,bw⟩=((bif(ri 41 (df c A) (df c B))then((⟨c.X,wrap .u32 (c.Pc+wrap .u32 (4*wrap .u32 bw)),c.C3⟩:bq),dk)else(⟨c.X,jx c,c.C3⟩,dk)).1,m,(bif(ri 41 (df c A) (df c B))then((⟨c.X,wrap .u32 (c.Pc+wrap .u32 (4*wrap .u32 bw)),c.C3⟩:bq),dk)else(⟨c.X,jx c,c.C3⟩,dk)).2) by kernel_rfl).trans ((LC (ri 41 (df c A) (df c B)) ⟨c.X,wrap .u32 (c.Pc+wrap .u32 (4*wrap .u32 bw)),c.C3⟩ ⟨c.X,jx c,c.C3⟩ m).trans (by kernel_rfl))
 ·exact(show jN c m ⟨42,A,B,C,bw⟩=((bif(ri 42 (df c A) (df c B))then((⟨c.X,wrap .u32 (c.Pc+wrap .u32 (4*wrap .u32 bw)),c.C3⟩:bq),dk)else(⟨c.X,jx c,c.C3⟩,dk)).1,m,(bif(ri 42 (df c A) (df c B))then((⟨c.X,wrap .u32 (c.Pc+wrap .u32 (4*wrap .u32 bw)),c.C3⟩:bq),dk)else(⟨c.X,jx c,c.C3⟩,dk)).2) by kernel_rfl).trans ((LC (ri 42 (df c A) (df c B)) ⟨c.X,wrap .u32 (c.Pc+wrap .u32 (4*wrap .u32 bw)),c.C3⟩ ⟨c.X,jx c,c.C3⟩ m).trans (by kernel_rfl))
 ·exact(show jN c m ⟨43,A,B,C,bw⟩=((bif(ri 43 (df c A) (df c B))then((⟨c.X,wrap .u32 (c.Pc+wrap .u32 (4*wrap .u32 bw)),c.C3⟩:bq),dk)else(⟨c.X,jx c,c.C3⟩,dk)).1,m,(bif(ri 43 (df c A) (df c B))then((⟨c.X,wrap .u32 (c.Pc+wrap .u32 (4*wrap .u32 bw)),c.C3⟩:bq),dk)else(⟨c.X,jx c,c.C3⟩,dk)).2) by kernel_rfl).trans ((LC (ri 43 (df c A) (df c B)) ⟨c.X,wrap .u32 (c.Pc+wrap .u32 (4*wrap .u32 bw)),c.C3⟩ ⟨c.X,jx c,c.C3⟩ m).trans (by kernel_rfl))
 ·exact(show jN c m ⟨44,A,B,C,bw⟩=((bif(ri 44 (df c A) (df c B))then((⟨c.X,wrap .u32 (c.Pc+wrap .u32 (4*wrap .u32 bw)),c.C3⟩:bq),dk)else(⟨c.X,jx c,c.C3⟩,dk)).1,m,(bif(ri 44 (df c A) (df c B))then((⟨c.X,wrap .u32 (c.Pc+wrap .u32 (4*wrap .u32 bw)),c.C3⟩:bq),dk)else(⟨c.X,jx c,c.C3⟩,dk)).2) by kernel_rfl).trans ((LC (ri 44 (df c A) (df c B)) ⟨c.X,wrap .u32 (c.Pc+wrap .u32 (4*wrap .u32 bw)),c.C3⟩ ⟨c.X,jx c,c.C3⟩ m).trans (by kernel_rfl))
 ·exact(show jN c m ⟨45,A,B,C,bw⟩=((bif(ri 45 (df c A) (df c B))then((⟨c.X,wrap .u32 (c.Pc+wrap .u32 (4*wrap .u32 bw)),c.C3⟩:bq),dk)else(⟨c.X,jx c,c.C3⟩,dk)).1,m,(bif(ri 45 (df c A) (df c B))then((⟨c.X,wrap .u32 (c.Pc+wrap .u32 (4*wrap .u32 bw)),c.C3⟩:bq),dk)else(⟨c.X,jx c,c.C3⟩,dk)).2) by kernel_rfl).trans ((LC (ri 45 (df c A) (df c B)) ⟨c.X,wrap .u32 (c.Pc+wrap .u32 (4*wrap .u32 bw)),c.C3⟩ ⟨c.X,jx c,c.C3⟩ m).trans (by kernel_rfl))
 ·refine(show jN c m ⟨48,A,B,C,bw⟩=(jd c A (jx c) (wrap .u32 ((uz c A (jx c)).Pc+wrap .u32 (4*wrap .u32 bw))),m,dk) by kernel_rfl).trans ?_
  rw[Ox c hA,Ty c hA,(zZ c A (jx c)).1];kernel_rfl
 ·refine(show jN c m ⟨49,A,B,C,bw⟩=(jd c A (jx c) (va c B bw),m,dk) by kernel_rfl).trans ?_
  rw[Ox c hA];kernel_rfl
 ·refine(show jN c m ⟨56,A,B,C,bw⟩=(rh c 7 0,m,dk) by kernel_rfl).trans ?_
  rw[Qr hc.a0.1 jV];kernel_rfl
 ·refine(show jN c m ⟨57,A,B,C,bw⟩=(Lb c,m,dk) by kernel_rfl).trans ?_
  rw[Zn0 hc.a0.1 jV];kernel_rfl
 ·refine(show jN c m ⟨58,A,B,C,bw⟩=(jd c A (aV (A8.l c.C3) bw.toNat 0) (jx c),m,dk) by kernel_rfl).trans ?_
  rw[Ox c hA,<-Zm];kernel_rfl
 ·have e:=xK c (wrap .i64 bw) (df c A)
  refine(show jN c m ⟨59,A,B,C,bw⟩=((⟨(Ow c (wrap .i64 bw) (df c A)).X,wrap .u32 (c.Pc+4),(Ow c (wrap .i64 bw) (df c A)).C3⟩:bq),m,dk) by kernel_rfl).trans ?_
  rw[<-e];kernel_rfl
 ·exact(show jN c m ⟨60,A,B,C,bw⟩=((pQ c m ⟨60,A,B,C,bw⟩).1,(pQ c m ⟨60,A,B,C,bw⟩).2.2,(pQ c m ⟨60,A,B,C,bw⟩).2.1) by kernel_rfl)
 ·exact(show jN c m ⟨61,A,B,C,bw⟩=((pQ c m ⟨61,A,B,C,bw⟩).1,(pQ c m ⟨61,A,B,C,bw⟩).2.2,(pQ c m ⟨61,A,B,C,bw⟩).2.1) by kernel_rfl)
 ·exact(show jN c m ⟨62,A,B,C,bw⟩=((pQ c m ⟨62,A,B,C,bw⟩).1,(pQ c m ⟨62,A,B,C,bw⟩).2.2,(pQ c m ⟨62,A,B,C,bw⟩).2.1) by kernel_rfl)
 ·exact(show jN c m ⟨63,A,B,C,bw⟩=((pQ c m ⟨63,A,B,C,bw⟩).1,(pQ c m ⟨63,A,B,C,bw⟩).2.2,(pQ c m ⟨63,A,B,C,bw⟩).2.1) by kernel_rfl)
 ·exact(show jN c m ⟨64,A,B,C,bw⟩=((pQ c m ⟨64,A,B,C,bw⟩).1,(pQ c m ⟨64,A,B,C,bw⟩).2.2,(pQ c m ⟨64,A,B,C,bw⟩).2.1) by kernel_rfl)
end
theorem xai(h0:0<=op)(h1:op<256)(h:oU op≠0):pj op:=by
 have e:=oY (EW (λop=>decide (oU op=0\/G7 op=true)) 256 (by kernel_rfl) h0 h1)
 rcases e with e|e
 ·exact absurd e h
 ·simpa only[G7,pj,aT,decide_eq_true_eq,or_assoc]using e
theorem zj(o:pj op):1<=op/\op<=64:=by
 unfold pj at o
 rcases o with h|h|h|h|h|h|h|h|h|h|h|h|h|h|h|h|h|h|h|h|h|h|h|h|h|h|h|h|h|h|h|h|h|h|h|h|h|h|h|h|h|h|h|h<;>(rw[h];decide)
theorem yj(hw:U w):(Bd w).2=true->pj (Bd w).1.Op:=by
 have uv:bj .u32 w 24=w/16777216:=by have:=DQ (a:=w) 24 (by decide);simpa using this
 obtain⟨w0,w1⟩:=hw
 have eo:wrap .i64 (w/16777216)=w/16777216:=Iy (by omega) (by omega)
 have q:(λr:gw×Bool=>r.2=true->pj r.1.Op) (Bd w):=by
  simp only[Bd,Ll,Tree.m,ee,uv,eo]
  cases hf:oU (w/16777216)==0
  ·have g:pj (w/16777216):=xai (by omega) (by omega) (by simpa using hf)
   repeat'(first
    |exactλ_=>g
    |exactλe=>eH (show false=true from e)
    |refine Xw (Q:=λr:gw×Bool=>r.2=true->pj r.1.Op) ?_ ?_)
  ·exactλe=>eH (show false=true from e)
 exact q
section
variable (c:bq) (m:List Int)
def TC(x:Int×Int×List Int)(w:Int)(d:gw×Bool):bq×lK×List Int:=
 bif x.2.1 !=0 then(pP c x.2.1 c.Pc,dk,x.2.2)else bif !d.2 then(pP c 1 w,dk,x.2.2)else bif Lh d.1.Op then(bif bb .u32 c.C3.a0 1==0 then(pP c 2 w,dk,x.2.2)else pQ c x.2.2 d.1)else pQ c x.2.2 d.1
def Oy(y:Int×List Int×Int)(d:gw×Bool):bq×List Int×lK:=
 bif y.2.2 !=0 then(rh c y.2.2 c.Pc,y.2.1,dk)else bif !d.2 then(rh c 1 y.1,y.2.1,dk)else bif Od d.1.Op then(bif !I6 c then(rh c 2 y.1,y.2.1,dk)else jN c y.2.1 d.1)else jN c y.2.1 d.1
theorem Oz:Bf c m=TC c (lX c m c.Pc 4 1) (oV (lX c m c.Pc 4 1).2.2 (lX c m c.Pc 4 1).1 4).1 (Bd (oV (lX c m c.Pc 4 1).2.2 (lX c m c.Pc 4 1).1 4).1):=by kernel_rfl
theorem qaj:Cq c m=Oy c (TE c m) (Og (TE c m).1):=by kernel_rfl
theorem zK:TE c m=bif(Q2 c m c.Pc 4 1).2.2 !=0 then(0,(Q2 c m c.Pc 4 1).2.1,(Q2 c m c.Pc 4 1).2.2)else((Cm (Q2 c m c.Pc 4 1).2.1 (Q2 c m c.Pc 4 1).1 4).1,(Q2 c m c.Pc 4 1).2.1,0):=by kernel_rfl
end
theorem qk{m:List Int}(h:Q1 P m)(hc:iL c)(jV:c.C3.a0<=31):Cq c m=((Bf c m).1,(Bf c m).2.2,(Bf c m).2.1):=by
 obtain⟨k,u,b⟩:=Xz h hc hc.pc (.inr rfl) 1
 have tr:∀k b,rh c k b=pP c k b:=Qr hc.a0.1 jV
 rw[qaj,Oz,zK,Xv h hc jV hc.pc (.inr rfl) (.inl rfl)]
 generalize lX c m c.Pc 4 1=x at*
 cases hx:x.2.1 !=0
 ·rw [Oi k u (.inr rfl)]
  have hw:U (oV x.2.2 x.1 4).1:=(Tree.pp (OA k u (.inr rfl))).2
  generalize(oV x.2.2 x.1 4).1=w at*
  show Oy c (w,x.2.2,0) (Og w)=_
  rw[qh hw]
  have o:=yj hw
  have i:=Tree.post _ (Zor w)
  change(Bd w).2=true->sG (Bd w).1 at i
  generalize Bd w=d at*
  obtain⟨⟨op,A,B,C,bw⟩,ok⟩:=d
  cases ok
  ·simp only[Oy,TC,hx,tr];rfl
  ·have o:pj op:=o rfl
   have i:=i rfl
   have p:=xj (C:=C) (B:=B) (bw:=bw) k hc jV i.a o
   have pv:Od op=Lh op:=qah (by have:=zj o;omega) (by have:=zj o;omega)
   have kn:(!I6 c)=(bb .u32 c.C3.a0 1==0):=by
    show(!(!(bb .u32 c.C3.a0 1==0)))=_
    exact Bool.not_not _
   simp only[Oy,TC,hx,tr,pv,kn,p]
   cases Lh op
   ·rfl
   ·cases bb .u32 c.C3.a0 1==0<;>rfl
 ·simp only[Oy,TC,hx,cond_true,tr]
theorem xk{a b:Int}:decide (a>=b)=!decide (a<b):=by
 by_cases h:a<b
 ·rw[dY h,dN (by omega)];rfl
 ·rw[dN h,dY (by omega)];rfl
def bits(g:Int)(l:List Nat)(s:Int):Int:=l.foldl (λ(a:Int) (i:Nat)=>wrap .i64 (a+wrap .i64 (bb .u32 (bj .u32 g (i:Int)) 1))) s
theorem yK(b:gm):LD b=bits b.D0 [0,1,2,3,4,5,6,7,8,9,10,11,12,13,14,15,16,17,18,19,20,21,22,23,24,25,26,27,28,29,30,31] 0:=by kernel_rfl
theorem qaC(hg:U g){i:Nat}(hi:i<=32):wrap .i64 (bb .u32 (bj .u32 g (i:Int)) 1)=g/2^i%2:=by
 rw[Fb (Qz hg _),DQ i hi]
 have:0<=g/2^i%2/\g/2^i%2<2:=by omega
 exact Iy (by omega) (by omega)
theorem vK(hg:U g)(l:List Nat):∀s:Int,(∀i∈l,i<=32)->0<=s->s+l.length<=1000->bits g l s=s+(l.map λi=>g/2^i%2).sum:=by
 induction l with
 |nil=>intro s _ _ _;simp[bits]
 |cons i l ih=>
  intro s hl h0 h1
  have h1:s+(l.length+1)<=1000:=by simpa using h1
  have hb:0<=g/2^i%2/\g/2^i%2<2:=by omega
  have e:bits g (i::l) s=bits g l (s+g/2^i%2):=by
   show bits g l (wrap .i64 (s+wrap .i64 (bb .u32 (bj .u32 g (i:Int)) 1)))=_
   rw[qaC hg (hl i (by simp)),Iy (by omega) (by omega)]
  rw[e,ih _ (λj hj=>hl j (by simp[hj])) (by omega) (by omega)]
  simp;omega
theorem Zs0(n:gx)(port:Int):K9 n port=TF n port:=by
 simp only[K9,N7,TF,OB,Tree.m]
 cases n.D1<;>cases n.C4<;>rfl
theorem Z9o(t:iV):AZ t=TG t:=by
 simp only[AZ,Tg,TG,XB,Tree.m]
 cases t.F2<;>cases t.E0<;>rfl
theorem Zjf(n:gx)(p:Int):wD n p=TH n p:=by
 simp only[wD,N1,TH,XC,Tree.m]
 cases n.D1<;>cases n.C4<;>rfl
theorem Zg5(d:fx)(p:Int):re d p=TJ d p:=by
  simp only[re,EP,Te,N0,TJ,XD,Tree.m,ee,xk]
  cases decide (d.ae>64)
  . by_cases s:d.C7=0\/d.C7=1\/d.C7=2\/d.C7=3
    . rcases s with s|s|s|s<;>rw[s]
      . rfl
      . by_cases c1:d.F7=1
        . rw[c1];cases decide (d.C5<d.ae)<;>cases decide (wrap .i64 d.C6<p)<;>cases decide (d.C9=[])<;>rfl
        . by_cases c2:d.F7=2
          . rw[c2];cases decide (d.C5<d.ae)<;>cases decide (wrap .i64 d.C6<p)<;>cases(d.C9.length:Int)==128<;>rfl
          . rw[show(d.F7==1)=false by simpa using c1,show(d.F7==2)=false by simpa using c2]
            cases decide (d.C5<d.ae)<;>cases decide (wrap .i64 d.C6<p)<;>rfl
      . rfl
      . rfl
    . rw[show(d.C7==0)=false by simp;omega,show(d.C7==1)=false by simp;omega,show(d.C7==2)=false by simp;omega,show(d.C7==3)=false by simp;omega]
      by_cases n:d.C7<0
      . rw[dY n];rfl
      . rw[dN n,dY (show d.C7>3 by omega)];rfl
  . rfl
theorem qL(c:iN):TL c=TM c:=by
 show(!decide (c.D9=[]))=decide ((c.D9.length:Int)>0)
 cases c.D9 with
 |nil=>rfl
 |cons a l=>rw[dN (by simp),dY (by simp)];rfl
theorem zaj(k:List UInt8):decide (k=[])=((k.length:Int)==0):=by
 cases k with
 |nil=>rfl
 |cons a l=>
  rw[dN (by simp)]
  exact(beq_eq_false_iff_ne.2 (by simp;omega)).symm
theorem Zt6(c:iN)(port:Int):XE c port=LF c port:=by
 simp only[XE,IS,LF,G8,Tree.m,zaj]
 cases port==0
 ·rfl
 ·cases(c.D9.length:Int)==0<;>rfl
theorem xL(t:iV)(v:Int):N2 t v=XF v:=by
 simp only[N2,Tf,XF,XG,Tree.m]
 cases h:v==0
 ·rw[show(v !=0)=true by simp only[bne,h];rfl];rfl
 ·rw[show(v !=0)=false by simp only[bne,h];rfl,eq_of_beq h];rfl
section
variable {P:Nat} {m:List Int} (h:Q1 P m)
include h
theorem Zru(f:Int):NY m f=tI m f:=by
 have a:=ur h
 have b:=DV h
 simp only[NY,Tc,tI,OC,Tree.m,ee,a,b]
theorem Zrx(f:Int):KZ m f=tI m f:=by
 have a:=ur h
 have b:=DV h
 simp only[KZ,Td,tI,OC,Tree.m,ee,a,b]
theorem Zk8(d:fx)(port v gg:Int):XH d m port v gg=XI d m port v gg:=by
  have pg:=Zru h
  have pa:=Zha h
  have rq: ∀d a,XJ d a=XK d a:=λ_ _=>rfl
  simp only[XH,K1,Qyj,K0,XI,LG,Tree.m,ee,pg,pa,rq]
  cases port==4
  . cases port==5
    . cases h6:port==6
      . rw[show(port !=6)=true by simp only[bne,h6];rfl];rfl
      . rw [show(port !=6)=false by simp only[bne,h6];rfl]
        by_cases v1:v=1
        . subst v1
          cases hs:d.C7==0
          . rw[show(d.C7 !=0)=true by simp only[bne,hs];rfl];rfl
          . rw[show(d.C7 !=0)=false by simp only[bne,hs];rfl];rfl
        . by_cases v2:v=2
          . subst v2
            cases hs:d.C7==0
            . rw[show(d.C7 !=0)=true by simp only[bne,hs];rfl];rfl
            . rw[show(d.C7 !=0)=false by simp only[bne,hs];rfl];rfl
          . rw[show(v==1)=false by simpa using v1,show(v==2)=false by simpa using v2]
            cases v==0
            . rfl
            . have:K3 d=(bif d.C7==2 then true else d.C7==3):=rfl
              rw[this]
              cases d.C7==2<;>cases d.C7==3<;>rfl
    . rfl
  . rfl
theorem Znn(n:gx)(port v gg:Int):Zf n m port v gg=Qp n m port v gg:=by
  have pg:=Zrx h
  have pa:=Zha h
  simp only[Zf,K5,Zf2,K4,Qp,LH,Tree.m,ee,pg,pa]
  have g1:decide (n.F8>=1)=!decide (n.F8<1):=xk
  have g2:decide (n.F8<=128)=!decide (n.F8>128):=by
    by_cases h:n.F8>128
    . rw[dY h,dN (by omega)];rfl
    . rw[dN h,dY (by omega)];rfl
  rw[g1,g2]
  cases port==7
  . cases port==8
    . cases h9:port==9
      . rw[show(port !=9)=true by simp only[bne,h9];rfl];rfl
      . rw [show(port !=9)=false by simp only[bne,h9];rfl]
        by_cases v1:v=1
        . subst v1
          cases decide (n.F8<1)<;>cases decide (n.F8>128)<;>cases tI m n.Frame<;>rfl
        . by_cases v2:v=2
          . subst v2;rfl
          . rw[show(v==1)=false by simpa using v1,show(v==2)=false by simpa using v2]
            cases v==0<;>rfl
    . rfl
  . rfl
end
def XL:List UInt8:=(cW 256).map λn=>eD (n%2+n/2%2+n/4%2+n/8%2+n/16%2+n/32%2+n/64%2+n/128%2)
def pt(n:Int):Int:=((UInt8.toNat (XL.getD n.toNat 0):Nat):Int)
theorem zL(x:Int):XM x=wrap .i64 (wrap .u8 (wrap .u8 (wrap .u8 (pt (bj .u32 x 24)+pt (bb .u32 (bj .u32 x 16) 255))+pt (bb .u32 (bj .u32 x 8) 255))+pt (bb .u32 x 255))):=by kernel_rfl
theorem OD(h0:0<=a)(h1:a<256):pt a=a%2+a/2%2+a/4%2+a/8%2+a/16%2+a/32%2+a/64%2+a/128%2:=
 eq_of_beq (EW (λa=>pt a==a%2+a/2%2+a/4%2+a/8%2+a/16%2+a/32%2+a/64%2+a/128%2) 256 (by kernel_rfl) h0 h1)
theorem zk(hg:U g):bits g [0,1,2,3,4,5,6,7,8,9,10,11,12,13,14,15,16,17,18,19,20,21,22,23,24,25,26,27,28,29,30,31] 0=pt (g%256)+pt (g/256%256)+pt (g/65536%256)+pt (g/16777216):=by
 rw[vK hg _ 0 (by decide) (by decide) (by decide),OD (by omega) (by omega),OD (by omega) (by omega),OD (by omega) (by omega),OD (by have:=hg.1;omega) (by have:=hg.2;omega)]
 obtain⟨g0,g1⟩:=hg
 simp only[List.map_cons,List.map_nil,List.sum_cons,List.sum_nil]
 have e:∀i j:Nat,∀k:Int,i<8->k=2^j->g/2^(i+j)%2=(g/k%256)/2^i%2:=λi j k hi hk=>by
  subst hk
  rw[Nat.add_comm,dL,<-eI (dK (dI (by decide)))]
  generalize g/2^j=x
  have:i=0\/i=1\/i=2\/i=3\/i=4\/i=5\/i=6\/i=7:=by omega
  rcases this with rfl|rfl|rfl|rfl|rfl|rfl|rfl|rfl<;>simp<;>omega
 have e0:∀i:Nat,i<8->g/2^i%2=(g%256)/2^i%2:=λi hi=>by have:=e i 0 1 hi rfl;simpa using this
 have e24:g/16777216%256=g/16777216:=by omega
 rw[e0 0 (by decide),e0 1 (by decide),e0 2 (by decide),e0 3 (by decide),e0 4 (by decide),e0 5 (by decide),e0 6 (by decide),e0 7 (by decide)]
 rw[e 0 8 256 (by decide) (by decide),e 1 8 256 (by decide) (by decide),e 2 8 256 (by decide) (by decide),e 3 8 256 (by decide) (by decide),e 4 8 256 (by decide) (by decide),e 5 8 256 (by decide) (by decide),e 6 8 256 (by decide) (by decide),e 7 8 256 (by decide) (by decide)]
 rw[e 0 16 65536 (by decide) (by decide),e 1 16 65536 (by decide) (by decide),e 2 16 65536 (by decide) (by decide),e 3 16 65536 (by decide) (by decide),e 4 16 65536 (by decide) (by decide),e 5 16 65536 (by decide) (by decide),e 6 16 65536 (by decide) (by decide),e 7 16 65536 (by decide) (by decide)]
 rw[e 0 24 16777216 (by decide) (by decide),e 1 24 16777216 (by decide) (by decide),e 2 24 16777216 (by decide) (by decide),e 3 24 16777216 (by decide) (by decide),e 4 24 16777216 (by decide) (by decide),e 5 24 16777216 (by decide) (by decide),e 6 24 16777216 (by decide) (by decide),e 7 24 16777216 (by decide) (by decide),e24]
 generalize g%256=a
 generalize g/256%256=b
 generalize g/65536%256=c
 generalize g/16777216=d
 simp only[show(2:Int)^0=1 from rfl,show(2:Int)^1=2 from rfl,show(2:Int)^2=4 from rfl,show(2:Int)^3=8 from rfl,show(2:Int)^4=16 from rfl,show(2:Int)^5=32 from rfl,show(2:Int)^6=64 from rfl,show(2:Int)^7=128 from rfl,Int.ediv_one]
 omega
theorem wI(h0:0<=a)(h1:a<256):0<=pt a/\pt a<=8:=by rw[OD h0 h1];omega
theorem Zcz(hg:U b.D0):TN b=LD b/\0<=LD b/\LD b<=32:=by
 obtain⟨s8,Bc,uv⟩:=G3 b.D0
 have u8:U (bj .u32 b.D0 8):=Qz hg _
 have u16:U (bj .u32 b.D0 16):=Qz hg _
 have e:TN b=XM b.D0:=rfl
 rw[e,zL,yK,zk hg,Ch u8,Ch u16,Ch hg,s8,Bc,uv]
 obtain⟨g0,g1⟩:=hg
 have p0:=wI (a:=b.D0%256) (by omega) (by omega)
 have p1:=wI (a:=b.D0/256%256) (by omega) (by omega)
 have p2:=wI (a:=b.D0/65536%256) (by omega) (by omega)
 have p3:=wI (a:=b.D0/16777216) (by omega) (by omega)
 have w8:∀x,wrap .u8 x=x%256:=λx=>wrap_u8 x
 rw[w8,w8,w8,wrap_i64]
 omega
theorem Ziq(h:okB b):OE b=OF b:=by
 obtain⟨e,l0,l1⟩:=Zcz h.2
 obtain⟨t0,t1⟩:=h.1
 simp only[OE,LI,OF,XN,Tree.m,ee,e]
 rw[wrap_u32,wrap_u64,wrap_u64,dH l0 (by omega),dH l0 (by omega),dH t0 (by omega)]
theorem Zr9(h:okB b)(port:Int):XO b port=LJ b port:=by
 simp only[XO,La,LJ,LK,Tree.m,ee,(Zcz h.2).1]
theorem xaj(g:Int)(z:Nat):g%2^(z+1)=g%2^z+2^z*(g/2^z%2):=by
 have hp:(0:Int)<2^z:=dI (by decide)
 have h1:=eJ g (2^z)
 have h2:=eJ (g/2^z) 2
 have h3:(g/2^z)/2=g/2^(z+1):=by rw[eK,eI (dK hp)]
 have h4:=eJ g (2^(z+1))
 rw[h3]at h2
 have h5:(2:Int)^(z+1)*(g/2^(z+1))=2^z*(2*(g/2^(z+1))):=by rw[eK,Int.mul_assoc]
 have h6:(2:Int)^z*(g/2^z)=2^z*(2*(g/2^(z+1)))+2^z*(g/2^z%2):=by rw[<-Int.mul_add,h2]
 omega
theorem zaC(hg:U b.D0)(hP:P<=32):(LM b P).w (λr=>r=decide (b.D0<2^P)):=by
 unfold LM
 have fin:∀v:Int,0<=v->v<=32->wrap .u64 v=(v.toNat:Int):=λv h0 h1=>by rw[wrap_u64];omega
 refine fj (inv:=λz:Int=>0<=z/\z<=32/\b.D0%2^z.toNat<2^P) (μ:=TO b P) ⟨by decide,by decide,by have:(0:Int)<2^P:=dI (by decide);simpa using this⟩ (cN _) λz ⟨z0,z1,z2⟩=>?_
 refine ab (λhb=>?_) (λhb=>?_)
 ·have hb:=oY hb
  have ew:i64.wrap (z+1)=z+1:=Iy (by omega) (by omega)
  have bt:bb .u32 (bj .u32 b.D0 (wrap .u64 z)) 1=b.D0/2^z.toNat%2:=by
   rw[fin z z0 z1,Fb (Qz hg _),DQ _ (by omega)]
  have bp:=xaj b.D0 z.toNat
  have zt:(z+1).toNat=z.toNat+1:=by omega
  refine aw (dY (by rw[wrap_u64];omega)) ?_
  rw[bt]
  refine ab (λe=>ab (λhp=>?_) (λhp=>ep ?_)) (λe=>ep ?_)
  ·have e:=eq_of_beq e
   have hp:=oY hp
   show false=_
   refine(dN λbd=>?_).symm
   have hle:(2:Int)^P<=2^z.toNat:=by exact_mod_cast dO (show 0<2 by decide) (show P<=z.toNat by omega)
   have:b.D0/2^z.toNat=0:=Int.ediv_eq_zero_of_lt hg.1 (by omega)
   rw[this]at e;cases e
  ·have e:=eq_of_beq e
   have hp:=oN hp
   show(0<=i64.wrap (z+1)/\i64.wrap (z+1)<=32/\b.D0%2^(i64.wrap (z+1)).toNat<2^P)/\(32-i64.wrap (z+1)).toNat<(32-z).toNat
   rw[ew,zt]
   have hle:(2:Int)^(z.toNat+1)<=2^P:=by exact_mod_cast dO (show 0<2 by decide) (show z.toNat+1<=P by omega)
   have:=Int.emod_lt_of_pos b.D0 (show(0:Int)<2^(z.toNat+1) from dI (by decide))
   exact⟨⟨by omega,by omega,by omega⟩,by omega⟩
  ·have e:¬b.D0/2^z.toNat%2=1:=by simpa using e
   have e:b.D0/2^z.toNat%2=0:=by omega
   rw[e]at bp
   show(0<=i64.wrap (z+1)/\i64.wrap (z+1)<=32/\b.D0%2^(i64.wrap (z+1)).toNat<2^P)/\(32-i64.wrap (z+1)).toNat<(32-z).toNat
   rw[ew,zt,bp]
   exact⟨⟨by omega,by omega,by omega⟩,by omega⟩
 ·have hb:=oN hb
  have:z=32:=by omega
  subst this
  show true=_
  refine(dY ?_).symm
  have h2:b.D0%2^(32:Int).toNat=b.D0:=dH hg.1 hg.2
  rwa [h2]at z2
theorem Zm0(hg:U b.D0)(hP:P<=32):Ba b P=TP b P:=by
 have r:=(Tree.pp (zaC hg hP)).2
 change TP b P=_ at r
 rw[r,eB,N4 hg,decide_eq_true_eq]
theorem OG:strings_Repeat [(0:UInt8)] 128=cO 128 0:=by kernel_rfl
theorem xaC{m:List Int}(hm:Q1 P m){port:Int}(hv:U v)(hp:v<P)(Cr:port=10)(hb:(bb .u32 (bj .u32 b.D0 v) 1==0)=true):(Bg b m port v).w (λr=>r.1={A2:=b.A2,D0:=iJ .u32 b.D0 (ei .u32 1 v)}/\Q1 P r.2/\∀k:Nat,lN r.2 k=if v*128<=k/\(k:Int)<v*128+128 then 0 else lN m k):=by
 have DO:decide (0<=v)=true:=dY hv.1
 have h2:=hm.p2
 have pg:tI m v=true:=by rw[TQ hm hv];exact dY hp
 obtain⟨v1,v2⟩:=hv
 subst Cr
 unfold Bg
 refine ab (λ_=>aq λx0 hx=>ab (λ_=>aw DO (ab (λ_=>aw DO ?_) (λh=>by rw[hb]at h;cases h))) (λh=>by rw[hx,pg]at h;cases h)) (λh=>by cases h)
 refine fj (inv:=λz=>0<=z.1/\z.1<=32/\Q1 P z.2/\∀k:Nat,lN z.2 k=if v*128<=k/\(k:Int)<v*128+4*z.1 then 0 else lN m k) (μ:=XP b m 10 v) ⟨show(0:Int)<=0 by decide,show(0:Int)<=32 by decide,hm,λk=>by rw[if_neg];show¬(_/\_<_+4*(0:Int));omega⟩ (cN _) (λz hz=>?_)
 obtain⟨z1,z2,z3,z4⟩:=hz
 have hl:=z3.len
 refine ab (λh=>?_) (λh=>⟨rfl,z3,λk=>?_⟩)
 ·have h:=oY h
  have e:wrap i64 (wrap i64 (wrap i64 v*32)+z.1)=v*32+z.1:=by rw[wrap_i64,wrap_i64,wrap_i64];omega
  refine aw (by rw[e];simp[bN];omega) (ep ?_)
  have ew:i64.wrap (z.1+1)=z.1+1:=by rw[wrap_i64];omega
  show(0<=i64.wrap (z.1+1)/\i64.wrap (z.1+1)<=32/\Q1 P (dB _ _ _)/\∀k:Nat,lN (dB z.2 (dA (wrap i64 (wrap i64 (wrap i64 v*32)+z.1))) 0) k=if v*128<=(k:Int)/\(k:Int)<v*128+4*i64.wrap (z.1+1)then 0 else _)/\(32-i64.wrap (z.1+1)).toNat<(32-z.1).toNat
  rw[ew,e]
  refine⟨⟨by omega,by omega,⟨by simp[hl],z3.p1,z3.p2,EN z3.u gd _⟩,λk=>?_⟩,by omega⟩
  rw[yh (by omega)]
  by_cases hc:k/4=(v*32+z.1).toNat
  ·rw[if_pos hc,if_pos (by omega)]
   have:k%4=0\/k%4=1\/k%4=2\/k%4=3:=by omega
   rcases this with h|h|h|h<;>rw[h]<;>rfl
  ·rw[if_neg hc,z4 k]
   by_cases hd:v*128<=(k:Int)/\(k:Int)<v*128+4*z.1
   ·rw[if_pos hd,if_pos (by omega)]
   ·rw[if_neg hd,if_neg (by omega)]
 ·have h:=oN h
  show lN z.2 k=_
  rw[z4 k,show z.1=32 by omega];rfl
theorem XQ(hg:U g)(v0:0<=v)(v1:v<32):(bb .u32 g (ei .u32 1 v)==0)=(bb .u32 (bj .u32 g v) 1==0):=by
 obtain⟨z,rfl⟩:∃z:Nat,v=z:=⟨v.toNat,by omega⟩
 obtain⟨n,rfl⟩:∃n:Nat,g=n:=⟨g.toNat,by have:=hg.1;omega⟩
 have hz:z<32:=by omega
 have bd:(2:Nat)^z<4294967296:=by have:=dW (show 1<2 by omega) hz;simpa using this
 rw[Fb (Qz hg _),DQ z (by omega),xg v0 v1,dX]
 have hc:((2:Int)^z)=((2^z:Nat):Int):=by simp
 generalize hq:2^z=q at*
 rw[hc,Xd hg ⟨by omega,by omega⟩,dX,dX,<-hq]
 have e1:(n&&&2^z)=0↔n/2^z%2=0:=by
  have t:n.testBit z=decide (n/2^z%2=1):=Nat.testBit_eq_decide_div_mod_eq
  constructor
  ·intro h
   have h2:(n&&&2^z).testBit z=false:=by rw[h];exact eL z
   rw[eM,Nat.testBit_two_pow_self,Bool.and_true,t]at h2
   have:=oN h2
   omega
  ·intro h
   have t0:n.testBit z=false:=by rw[t];exact dN (by omega)
   apply Nat.eq_of_testBit_eq
   intro i
   rw[eM,Nat.testBit_two_pow,eL]
   by_cases hi:z=i
   ·subst hi;rw[t0];rfl
   ·rw[dN hi,Bool.and_false]
 rw[eB,beq_iff_eq,beq_iff_eq]
 constructor
 ·intro h;have:=e1.1 (by omega);omega
 ·intro h;have:=e1.2 (by omega);omega
theorem Znw{m:List Int}(h:Q1 P m)(hb:okB b)(port:Int)(hv:U v):G9 b m port v=Bh b m port v:=by
  have jm:kA m=m:=rfl
  have hp:=ur h
  have h2:=h.p2
  have ew:i64.wrap v=v:=Iy (by have:=hv.1;omega) (by have:=hv.2;omega)
  have pe:=TQ h hv
  by_cases XR:v<32
  . have bv :=XQ hb.2 hv.1 XR
    by_cases Cr:port=10
    . by_cases hP:v<P
      . cases hz:bb .u32 (bj .u32 b.D0 v) 1==0
        . simp only[G9,DS,Bh,Bg,Tree.m,ee,jm,hp,ew,pe,bv,hz,Cr,dY hP,dN (show¬v>=32 by omega)]
          rfl
        . obtain⟨g1,g2,g3⟩:=(Tree.pp (xaC h hv hP Cr hz)).2
          change(Bh b m port v).1=_ at g1
          change Q1 P (Bh b m port v).2 at g2
          change∀k:Nat,lN (Bh b m port v).2 k=_ at g3
          obtain⟨s1,s2,s3⟩:=(Tree.pp (Xk h hv.1 hP (s:=cO 128 0) (by simp))).2
          have em:(rP m v (cO 128 0)).1=(Bh b m port v).2:=by
            refine zh (s2.len.trans g2.len.symm) s2.u g2.u λk=> ?_
            rw[g3 k]
            refine(s3 k).trans ?_
            by_cases hk:v*128<=(k:Int)/\(k:Int)<v*128+128
            . rw[if_pos hk,if_pos hk]
              have:(cO 128 (0:UInt8)).getD ((k:Int)-v*128).toNat 0=0:=by
                rw[cX,List.getElem?_replicate]
                split<;>rfl
              rw[this];rfl
            . rw[if_neg hk,if_neg hk]
          have el:G9 b m port v=({A2:=b.A2,D0:=iJ .u32 b.D0 (ei .u32 1 v)},(rP m v (cO 128 0)).1):=by
            simp only[G9,DS,Tree.m,ee,jm,hp,ew,bv,hz,Cr,dY hP,dN (show¬v>=32 by omega),OG]
            rfl
          rw[el,em,<-g1]
      . simp only[G9,DS,Bh,Bg,Tree.m,ee,jm,hp,ew,pe,Cr,dN hP,dN (show¬v>=32 by omega)]
        rfl
    . simp only[G9,DS,Bh,Bg,Tree.m,ee,jm,dY XR,dN (show¬v>=32 by omega),show(port==10)=false by simpa using Cr]
      cases port==11<;>rfl
  . simp only[G9,DS,Bh,Bg,Tree.m,ee,jm,pe,dN XR,dY (show v>=32 by omega),dN (show¬v<P by omega)]
    cases port==10<;>cases port==11<;>rfl
structure LN(m:bc):Prop where
 oy:iL m.B4
 mem:∀w∈m.Mem,U w
 my:Ar m.B7
 wF:uu m.D2
 LO:okB m.A7
 tF:0<=m.B6
theorem Zi4(m:List Int)(hm:∀w∈m,U w):jQ m=wH m/\(jQ m=0\/∃P:Nat,1<=P/\Q1 P m):=by
 refine⟨rfl,?_⟩
 simp only[jQ,GQ,Tree.m]
 cases h1:cZ (m.length:Int) 32 !=0
 ·cases h2:decide ((m.length:Int)>1024)
  ·have h1:cZ (m.length:Int) 32=0:=by simpa using h1
   have h2:=oN h2
   rw[dZ (by omega)]at h1
   by_cases h0:m.length=0
   ·left;rw[h0];rfl
   ·right;exact⟨m.length/32,by omega,⟨by omega,by omega,by omega,hm⟩⟩
  ·left;rfl
 ·left;rfl
theorem Cs{a x:Bool}:(bif !a then false else x)=true↔a=true/\x=true:=by cases a<;>simp
theorem yL(m:bc):Ja m=true↔ ¬(wH m.Mem<1)/\nq m.B4/\Qkg m.B2=true/\TG m.B9=true/\TJ m.B7 (wH m.Mem)=true/\TH m.D2 (wH m.Mem)=true/\TP m.A7 (wH m.Mem)=true/\m.B6<=1152921504606846976/\¬(m.B3=true/\m.B5=true):=by
 simp only[Ja,XS,Tree.m,ee]
 rw[mY,mY,mY,mY,mY,mY,Cs,Cs,Cs,Cs,Cs]
 simp only[decide_eq_false_iff_not,Int.not_lt,bne_eq_false_iff_eq,gt_iff_lt]
 have l:((bif decide (m.B6<=1152921504606846976)then(bif m.B3 then !m.B5 else true)else false)=true)↔m.B6<=1152921504606846976/\¬(m.B3=true/\m.B5=true):=by
  by_cases hc:m.B6<=1152921504606846976
  ·rw[dY hc]
   cases m.B3<;>cases m.B5<;>simp[hc]
  ·rw[dN hc];simp[hc]
 rw[l]
 constructor
 ·rintro⟨a1,a2,a3,a4,a5,a6,a7⟩
  exact⟨by omega,⟨a2,a3,a4,a5,a6⟩,a7⟩
 ·rintro⟨a1,⟨a2,a3,a4,a5,a6⟩,a7⟩
  exact⟨by omega,a2,a3,a4,a5,a6,a7⟩
theorem Zqk{m:bc}(h:LN m):Bb m=Ja m:=by
 rw[eB,Lf,yL,qZ]
 obtain⟨e,c⟩:=Zi4 m.Mem h.mem
 simp only[aE,<-e]
 rcases c with c|⟨P,hP,hm⟩
 ·constructor
  ·rintro⟨a,_⟩;exact absurd c a
  ·rintro⟨a,_⟩;omega
 ·rw[ur hm,Z9o,Zg5,Zjf,Zm0 h.LO.2 hm.p2]
  constructor
  ·rintro⟨a1,a2,a3,a4,a5,a6,a7,a8,a9⟩;exact⟨by omega,a2,a5,a6,a7,a8,a9,a3,a4⟩
  ·rintro⟨a1,a2,a5,a6,a7,a8,a9,a3,a4⟩;exact⟨by omega,a2,a3,a4,a5,a6,a7,a8,a9⟩
def TR(a b c d e:Bool):Int:=iJ .u32 (iJ .u32 (iJ .u32 (iJ .u32 (Ea a 0) (Ea b 1)) (Ea c 2)) (Ea d 3)) (Ea e 4)
theorem Jb(m:bc):TS m=TR (XT m.B9) (TL m.B2) (K3 m.B7) (XU m.D2) (OE m.A7):=by
 unfold TS LP
 simp only[Tree.m,ee]
 generalize XT m.B9=a
 generalize TL m.B2=b
 generalize K3 m.B7=c
 generalize XU m.D2=d
 generalize OE m.A7=e
 cases a<;>cases b<;>cases c<;>cases d<;>cases e<;>kernel_rfl
theorem Zre(a b c d e:Bool):0<=TR a b c d e/\TR a b c d e<32:=by
 cases a<;>cases b<;>cases c<;>cases d<;>cases e<;>decide
theorem Ct(m:bc):OH m=TR (XV m.B9) (TM m.B2) (XW m.B7) (XX m.D2) (OF m.A7):=rfl
section
variable {m:bc} (h:LN m)
include h
theorem Zsa:TS m=OH m:=by
 rw[Jb,Ct,qL,Ziq h.LO];rfl
theorem Z16:LQ m=Bi m:=by
 have e:=Zsa h
 simp only[LQ,LR,Bi,LS,Tree.m,ee,e]
theorem yk:Tm m=Jc m:=by
 have e:=Z16 h
 simp only[Tm,Q9,Jc,LU,Tree.m,ee,e]
theorem Zix:EV m=!Ha m:=by
 have e1:=Zqk h
 have e2:=yk h
 have e3:decide (m.B6>=1152921504606846976)=!decide (m.B6<1152921504606846976):=xk
 simp only[EV,IY,Ha,TT,Tree.m,ee,e1,e2,e3]
 cases Ja m<;>cases m.B5<;>cases Jc m<;>cases decide (m.B6<1152921504606846976)<;>rfl
theorem Zbv:0<=Bi m/\Bi m<32:=by
 have e:Bi m=bb .u32 (OH m) m.B4.C3.a7:=rfl
 have l:=Zre (XV m.B9) (TM m.B2) (XW m.B7) (XX m.D2) (OF m.A7)
 rw[<-Ct]at l
 rw[e,Xd ⟨l.1,by omega⟩ h.oy.a7]
 have:=dV (n:=(OH m).toNat) (m:=m.B4.C3.a7.toNat)
 omega
def low(l:Int):Int:=if l%2=1 then 0 else if l/2%2=1 then 1 else if l/4%2=1 then 2 else if l/8%2=1 then 3 else 4
end
theorem wJ{l:Int}(h0:0<=l)(h1:l<32):l=0\/l=1\/l=2\/l=3\/l=4\/l=5\/l=6\/l=7\/l=8\/l=9\/l=10\/l=11\/l=12\/l=13\/l=14\/l=15\/l=16\/l=17\/l=18\/l=19\/l=20\/l=21\/l=22\/l=23\/l=24\/l=25\/l=26\/l=27\/l=28\/l=29\/l=30\/l=31:=by omega
def Jd(m:bc)(l:Int):bq:=bif bb .u32 m.B4.C3.a0 2==0 then m.B4 else bif l==0 then m.B4 else pP m.B4 (wrap .i64 (16+low l)) 0
theorem OI{m:bc}(h:LN m):rj m=Jd m (Bi m):=by
 obtain⟨l0,l1⟩:=Zbv h
 unfold rj LV
 simp only[Tree.m,ee]
 revert l0 l1
 generalize Bi m=l
 intro l0 l1
 unfold Jd
 cases bb .u32 m.B4.C3.a0 2==0
 ·rcases wJ l0 l1 with rfl|rfl|rfl|rfl|rfl|rfl|rfl|rfl|rfl|rfl|rfl|rfl|rfl|rfl|rfl|rfl|rfl|rfl|rfl|rfl|rfl|rfl|rfl|rfl|rfl|rfl|rfl|rfl|rfl|rfl|rfl|rfl<;>kernel_rfl
 ·rfl
def XY(m:bc)(c:bq):bc:={B4:=c,Mem:=m.Mem,B2:=m.B2,B9:=m.B9,B7:=m.B7,D2:=m.D2,A7:=m.A7,B6:=m.B6,B3:=false,B5:=m.B5}
theorem Zsb{m:bc}(h:LN m)(jV:m.B4.C3.a0<=31):pn m=XY m (rj m):=by
 obtain⟨l0,l1⟩:=Zbv h
 have tr:∀k b,rh m.B4 k b=pP m.B4 k b:=Qr h.oy.a0.1 jV
 have e:LQ (XY m m.B4)=Bi m:=Z16 (m:=XY m m.B4) ⟨h.oy,h.mem,h.my,h.wF,h.LO,h.tF⟩
 rw[OI h]
 unfold pn Lg
 simp only[Tree.m,ee]
 rw[show LQ {B4:=m.B4,Mem:=m.Mem,B2:=m.B2,B9:=m.B9,B7:=m.B7,D2:=m.D2,A7:=m.A7,B6:=m.B6,B3:=false,B5:=m.B5}=Bi m from e]
 revert l0 l1
 generalize Bi m=l
 intro l0 l1
 unfold Jd
 simp only[<-tr]
 cases bb .u32 m.B4.C3.a0 2==0
 ·rcases wJ l0 l1 with rfl|rfl|rfl|rfl|rfl|rfl|rfl|rfl|rfl|rfl|rfl|rfl|rfl|rfl|rfl|rfl|rfl|rfl|rfl|rfl|rfl|rfl|rfl|rfl|rfl|rfl|rfl|rfl|rfl|rfl|rfl|rfl<;>(show _=_;kernel_rfl)
 ·rfl
theorem Hb{p:Int}:p=0\/p=1\/p=2\/p=3\/p=4\/p=5\/p=6\/p=7\/p=8\/p=9\/p=10\/p=11\/p<0\/12<=p:=by omega
theorem qak{m:bc}(hb:okB m.A7)(port clock:Int):uA m port clock=((Ql m port clock).2,(Ql m port clock).1):=by
 have e1:=Zt6 m.B2
 have e2:∀p,N6 m.B7 p=XZ m.B7 p:=λ_=>rfl
 have e3:=Zs0 m.D2
 have e4:=Zr9 hb
 have e5:W8 m.B9=Qm m.B9:=rfl
 simp only[uA,K8,Ql,Qs,Tree.m,ee,e1,e2,e3,e4,e5]
 rcases Hb (p:=port)with rfl|rfl|rfl|rfl|rfl|rfl|rfl|rfl|rfl|rfl|rfl|rfl|h|h
 all_goals first|rfl|skip
 ·have n:∀k:Int,0<=k->(port==k)=false:=λk hk=>beq_eq_false_iff_ne.2 (by omega)
  have c:LF m.B2 port=(m.B2,0):=by
   simp only[LF,G8,Tree.m,n 0 (by decide),n 1 (by decide),cond_false]
  simp only[n 0 (by decide),n 1 (by decide),n 2 (by decide),n 3 (by decide),n 4 (by decide),n 5 (by decide),n 6 (by decide),n 7 (by decide),n 8 (by decide),n 9 (by decide),n 10 (by decide),n 11 (by decide),cond_false,dY (show port<=1 by omega),cond_true,c]
 ·have n:∀k:Int,k<12->(port==k)=false:=λk hk=>beq_eq_false_iff_ne.2 (by omega)
  have c:LJ m.A7 port=0:=by
   simp only[LJ,LK,Tree.m,n 10 (by decide),n 11 (by decide),cond_false]
  simp only[n 0 (by decide),n 1 (by decide),n 2 (by decide),n 3 (by decide),n 4 (by decide),n 5 (by decide),n 6 (by decide),n 7 (by decide),n 8 (by decide),n 9 (by decide),n 10 (by decide),n 11 (by decide),cond_false,dN (show¬port<=1 by omega),dN (show¬port<=6 by omega),dN (show¬port<=9 by omega),c]
theorem vL{m:bc}(hm:Q1 P m.Mem)(hb:okB m.A7)(port:Int)(hv:U v):Fc m port v m.B6=((Fe m port v).2,(Fe m port v).1):=by
 have e1:=Zk8 hm m.B7
 have e2:=Znn hm m.D2
 have e3:=Znw hm hb port hv
 have e4:=xL m.B9 v
 simp only[Fc,K7,Fe,KF,Tree.m,ee,e1,e2,e3,e4]
 rcases Hb (p:=port)with rfl|rfl|rfl|rfl|rfl|rfl|rfl|rfl|rfl|rfl|rfl|rfl|h|h
 all_goals first|rfl|skip
 ·have n:∀k:Int,0<=k->(port==k)=false:=λk hk=>beq_eq_false_iff_ne.2 (by omega)
  simp only[n 0 (by decide),n 1 (by decide),n 2 (by decide),n 3 (by decide),n 4 (by decide),n 5 (by decide),n 6 (by decide),n 7 (by decide),n 8 (by decide),n 9 (by decide),n 10 (by decide),n 11 (by decide),cond_false,dY (show port<=2 by omega),cond_true]
 ·have n:∀k:Int,k<12->(port==k)=false:=λk hk=>beq_eq_false_iff_ne.2 (by omega)
  have c:Bh m.A7 m.Mem port v=(m.A7,m.Mem):=by
   simp only[Bh,Bg,Tree.m,n 10 (by decide),n 11 (by decide),cond_false]
  simp only[n 0 (by decide),n 1 (by decide),n 2 (by decide),n 3 (by decide),n 4 (by decide),n 5 (by decide),n 6 (by decide),n 7 (by decide),n 8 (by decide),n 9 (by decide),n 10 (by decide),n 11 (by decide),cond_false,dN (show¬port<=2 by omega),dN (show¬port<=6 by omega),dN (show¬port<=9 by omega),c]
def tick(n:bc)(c:bq)(w h:Bool):bc:={B4:=c,Mem:=n.Mem,B2:=n.B2,B9:=n.B9,B7:=n.B7,D2:=n.D2,A7:=n.A7,B6:=wrap .u64 (n.B6+1),B3:=w,B5:=h}
def Hc(m:bc)(c:bq)(mem:List Int):bc:={B4:=c,Mem:=mem,B2:=m.B2,B9:=m.B9,B7:=m.B7,D2:=m.D2,A7:=m.A7,B6:=m.B6,B3:=false,B5:=m.B5}
def Ff(n:bc)(e:lK)(clock gg:Int):bc×List il:=
 bif e.C2==1 then
  (bif e.F9 !=0 then(tick (uA n e.D8 clock).1 {X:=iv.of 0 (dB (iv.l (uA n e.D8 clock).1.B4.X) e.F9.toNat (uA n e.D8 clock).2),Pc:=(uA n e.D8 clock).1.B4.Pc,C3:=(uA n e.D8 clock).1.B4.C3} (uA n e.D8 clock).1.B3 (uA n e.D8 clock).1.B5,[])
  else(tick (uA n e.D8 clock).1 (uA n e.D8 clock).1.B4 (uA n e.D8 clock).1.B3 (uA n e.D8 clock).1.B5,[]))
 else bif e.C2==2 then(tick (Fc n e.D8 e.Value gg).1 (Fc n e.D8 e.Value gg).1.B4 (Fc n e.D8 e.Value gg).1.B3 (Fc n e.D8 e.Value gg).1.B5,(Fc n e.D8 e.Value gg).2)
 else bif e.C2==3 then(tick n n.B4 true n.B5,[])else bif e.C2==4 then(tick n n.B4 n.B3 true,[])else(tick n n.B4 n.B3 n.B5,[])
def Fg(n:bc)(e:lK)(clock:Int):List il×bc:=
 bif e.C2==1 then([],tick (Ql n e.D8 clock).2 (lO (Ql n e.D8 clock).2.B4 e.F9 (Ql n e.D8 clock).1) (Ql n e.D8 clock).2.B3 (Ql n e.D8 clock).2.B5)
 else bif e.C2==2 then((Fe n e.D8 e.Value).1,tick (Fe n e.D8 e.Value).2 (Fe n e.D8 e.Value).2.B4 (Fe n e.D8 e.Value).2.B3 (Fe n e.D8 e.Value).2.B5)
 else bif e.C2==3 then([],tick n n.B4 true n.B5)else bif e.C2==4 then([],tick n n.B4 n.B3 true)else([],tick n n.B4 n.B3 n.B5)
theorem qaD(m:bc)(clock:Int):Ax m clock=Fg (Hc m (Bf (rj m) m.Mem).1 (Bf (rj m) m.Mem).2.2) (Bf (rj m) m.Mem).2.1 clock:=by kernel_rfl
theorem qM(m:bc)(clock:Int):Eb m clock=bif !EV m then(m,[])else Ff {B4:=(Cq (pn m).B4 (pn m).Mem).1,Mem:=(Cq (pn m).B4 (pn m).Mem).2.1,B2:=(pn m).B2,B9:=(pn m).B9,B7:=(pn m).B7,D2:=(pn m).D2,A7:=(pn m).A7,B6:=(pn m).B6,B3:=(pn m).B3,B5:=(pn m).B5} (Cq (pn m).B4 (pn m).Mem).2.2 clock m.B6:=by kernel_rfl
theorem zak(m:List Int):X0 m=m:=by
 simp[X0,Qf,Tree.m]
theorem yZ(m:bc):TU m=m:=by
 simp only[TU,Qj,Tree.m,ee,zak]
theorem Zp6(m:bc)(clock:Int):X1 m clock=bif Ha m then(m,[])else((Ax m clock).2,(Ax m clock).1):=by
 simp only[X1,Z6k,Tree.m,ee,yZ]
theorem xM{n:bc}(hm:Q1 P n.Mem)(hb:okB n.A7){e:lK}(hr:0<=e.F9/\e.F9<16)(hv:U e.Value)(clock:Int):Ff n e clock n.B6=((Fg n e clock).2,(Fg n e clock).1):=by
 unfold Ff Fg
 rw[qak hb e.D8 clock,vL hm hb e.D8 hv]
 cases e.C2==1
 ·cases e.C2==2
  ·cases e.C2==3
   ·cases e.C2==4<;>rfl
   ·rfl
  ·rfl
 ·generalize Ql n e.D8 clock=r
  have s:=Ty r.2.B4 hr r.1
  show(bif e.F9 !=0 then _ else _)=(tick r.2 (lO r.2.B4 e.F9 r.1) r.2.B3 r.2.B5,[])
  rw[<-s]
  simp only[uz,ES,Tree.m]
  cases e.F9 !=0<;>rfl
theorem vk{m:bc}(h:LN m)(clock:Int):Eb m clock=X1 m clock:=by
 rw[qM,Zp6,Zix h]
 cases hs:Ha m
 ·have hr:EV m=true:=by rw[Zix h,hs];rfl
  obtain⟨hm,hh,hct⟩:=Zq0 hr
  obtain⟨g1,g2,g3,g4,g5⟩:=(Lf m).1 hm
  rcases(Zi4 m.Mem h.mem).2 with c|⟨P,hP,jc⟩
  ·exact absurd c g1
  have okm:Au P m:=⟨h.oy,jc,h.my,h.wF,h.LO.1,h.LO.2⟩
  obtain⟨b1,b2,b3,_⟩:=(Tree.pp (Zh5 okm g2)).2
  change nq (pn m).B4 at b1
  change Au P (pn m)at b2
  change(pn m).Mem=m.Mem at b3
  have be:=Zsb h g2.st
  have b1':nq (rj m):=by have:=b1;rw[be]at this;exact this
  have X2:iL (rj m):=by have:=b2.oy;rw[be]at this;exact this
  have ex:=qk jc X2 b1'.st
  have er:=(Tree.pp (Zq1 X2 jc)).2
  change 0<=(Cq (rj m) m.Mem).2.2.F9/\(Cq (rj m) m.Mem).2.2.F9<16 at er
  obtain⟨d1,d2,d3⟩:=(Tree.pp (NC X2 jc)).2
  change U (Bf (rj m) m.Mem).2.1.Value at d2
  change Q1 P (Bf (rj m) m.Mem).2.2 at d3
  rw[ex]at er
  rw[qaD,be]
  show Ff {B4:=(Cq (rj m) m.Mem).1,Mem:=(Cq (rj m) m.Mem).2.1,B2:=m.B2,B9:=m.B9,B7:=m.B7,D2:=m.D2,A7:=m.A7,B6:=m.B6,B3:=false,B5:=m.B5} (Cq (rj m) m.Mem).2.2 clock m.B6=_
  rw[ex]
  exact xM (n:=Hc m (Bf (rj m) m.Mem).1 (Bf (rj m) m.Mem).2.2) d3 h.LO er d2 clock
 ·rfl

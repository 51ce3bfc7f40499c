import Derived.Test.YtaemmjbkndlkeaaGreatMigrateCancelsLaws2
import Derived.Test.YtaemmjbkndlkeaaGreatMigrateCancelsNewsB
open Nat renaming lt_succ_self->cN,blt->bN,le_refl->aX,zero_le->bC,le_of_eq->dG,pow_le_pow_right->dO,and_le_left->dV,pow_lt_pow_right->dW,zero_testBit->eL,testBit_and->eM
open List renaming replicate->cO,append->cP,mem_cons->cQ,not_mem_nil->cR,length_replicate->cS,length_take->aD,length_drop->aG,take->cU,drop->cV,ext_getElem->bR,range->cW,getD_eq_getElem?_getD->cX,length_singleton->cY,append_assoc->aM,set->dB,length_set->dC,length_cons->dD,length_nil->dE,length->dF,getD->aV,getElem?_take->aF
open Int renaming tmod->cZ,toNat->dA,emod_eq_of_lt->dH,pow_pos->dI,fdiv_eq_ediv_of_nonneg->dJ,le_of_lt->dK,pow_add->dL,mul_le_mul_of_nonneg_right->dM,lt_or_le->dQ,toNat_natCast->dX,tmod_eq_emod_of_nonneg->dZ,toNat_of_nonneg->eA,fdiv->eC,tdiv->eF,tdiv_eq_ediv_of_nonneg->eG,ediv_ediv_of_nonneg->eI,mul_ediv_add_emod->eJ,pow_succ->eK
open Bool renaming or_eq_true->aT,eq_iff_iff->eB,noConfusion->eH
open UInt8 renaming toNat_lt->dP,ofNat->eD
open BitVec renaming ofInt->dR,toNat_ofInt->dS,toNat_or->dT,toNat_and->dU
set_option maxRecDepth 100000
set_option linter.all false
namespace Go.Proofs.YtaemmjbkndlkeaaGreat
open Go Go.GD
open Go.IntKind(wrap i64 u32 u64 u8 wrap_i64 wrap_u32 wrap_u64 wrap_u8 wrap_i32)
variable {A a access clock f g op q r size v w x:Int}{P k n p:Nat}{b:gw}{c:bq}{d:gg}{mem:List Int}{s:List UInt8}
theorem qI(i:ik):U (oZ i).1:=by
 refine Tree.post (S6 i) (W:=λr=>U r.1) ?_
 unfold S6
 exact aq λ_ _=>ae (λ_=>gu) (λ_=>nS _ _)
theorem yd(l:List Int)(hl:l.length*8<=reachBytes):(NF l).w (λr=>(r.length:Int)=l.length/\∀w∈r,U w):=by
 have pR:l.length*8<=140737488351232:=hl
 have app:∀{r:List Int} {x:Int},(∀w∈r,U w)->U x->∀w∈r++[x],U w:=λhr hx w hw=>by
  rw[List.mem_append]at hw
  rcases hw with hw|hw
  ·exact hr w hw
  ·rw[List.mem_singleton.1 hw];exact hx
 unfold NF
 refine fv (inv:=λz=>Quc l z/\∀w∈z.2,U w) (μ:=S7 l) ⟨⟨by omega,by simp,by simp⟩,by simp⟩ (cN _) (λv0 hv=>?_)
 obtain⟨⟨h1,h2,h3⟩,h4⟩:=hv
 refine ae (λh=>?_) (λh=>?_)
 ·have h:=oY h
  have next:∀x:Int,U x->(Quc l (wrap i64 (v0.1+1),v0.2++[x])/\∀w∈v0.2++[x],U w)/\S7 l (wrap i64 (v0.1+1),v0.2++[x])<S7 l v0:=λx hx=>by
   have hw:i64.wrap (v0.1+1)=v0.1+1:=by rw[wrap_i64];omega
   rw[hw]
   refine⟨⟨⟨?_,?_,?_⟩,app h4 hx⟩,?_⟩
   ·show 0<=v0.1+1;omega
   ·show v0.1+1<=l.length;omega
   ·show((v0.2++[x]).length:Int)=v0.1+1;simp;omega
   ·show(l.length-(v0.1+1)).toNat<(l.length-v0.1).toNat;omega
  have hb:(Nat.beq 1 1&&bN 0 1&&decide (0<=v0.1/\v0.1<(l.length:Int)))=true:=by simp[bN];omega
  have hc:decide (4*(v0.2.length+1)<=140737488355328)=true:=dY (by omega)
  exact aw hb (ae (λ_=>aw hb (aw hc (next _ (ga _)))) (λ_=>aw hb (df (qX _) (aq λx0 _=>aq λx1 hx=>aw hc (next _ (by rw[hx];exact qI _))))))
 ·have h:=oN h
  exact⟨by show(v0.2.length:Int)=l.length;omega,h4⟩
section
variable {P:Nat} {m:bd} (h:rV P m)
include h
theorem NG(port:Int)(hc:U clock):(NH m port clock).w (λx=>U x.1/\rV P x.2/\x.2.B7=m.B7):=by
 have k:=(⟨h,rfl⟩:rV P m/\m.B7=m.B7)
 obtain⟨h1,h2,h3,h4,h5,h7⟩:=h
 unfold NH
 exact ae (λ_=>aq λx hx=>⟨hx▸Zmi _ _,⟨⟨h1,h2,h3,h4,h5,h7⟩,rfl⟩⟩) (λ_=>ae (λ_=>⟨hc,k⟩) (λ_=>ae (λ_=>aq λx hx=>⟨hx▸xA _,k⟩) (λ_=>ae (λ_=>aq λx hx=>⟨hx▸vW h3 _,k⟩) (λ_=>ae (λ_=>aq λx hx=>⟨hx▸xax h4 _,k⟩) (λ_=>aq λx hx=>⟨hx▸Zm2 h5.1 _,k⟩)))))
theorem xaz(port:Int)(hv:U v):(KI m port v).w (λx=>x.1.length<=1/\rV P x.2/\x.2.B7=m.B7):=by
 have k:=(⟨h,rfl⟩:rV P m/\m.B7=m.B7)
 obtain⟨h1,h2,h3,h4,h5,h7⟩:=h
 unfold KI
 exact ae (λ_=>⟨aX _,k⟩) (λ_=>ae (λ_=>⟨bC _,k⟩) (λ_=>ae (λ_=>aq λ_ _=>⟨bC _,⟨⟨h1,h2,h3,h4,h5,h7⟩,rfl⟩⟩) (λ_=>ae (λ_=>cj (qA h2 h3 _ hv _) λx hx=>⟨hx.2,⟨⟨h1,h2,hx.1,h4,h5,h7⟩,rfl⟩⟩) (λ_=>ae (λ_=>cj (yW h2 h4 _ hv _) λx hx=>⟨hx.2,⟨⟨h1,h2,h3,hx.1,h5,h7⟩,rfl⟩⟩) (λ_=>cj (zaL h2 h5 _ hv) λx hx=>⟨bC _,⟨⟨h1,hx.2,h3,h4,hx.1,h7⟩,rfl⟩⟩)))))
theorem Zbx(hc:U clock):(NI m clock).w (λx=>x.1.length<=1/\rV P x.2/\x.2.B7=wrap .u64 (m.B7+1)):=by
 obtain⟨h1,h2,h3,h4,h5,h7⟩:=h
 unfold NI
 refine cj (Qxs h1) λx0 c0=>cj (NJ c0 h2) λx1 hx=>?_
 obtain⟨c1,v1,m1⟩:=hx
 refine ae (λ_=>S8 (NG (m:=⟨_,_,_,_,_,_,_,_,_,_⟩) ⟨c1,m1,h3,h4,h5,h7⟩ _ hc) λx2 hx=>?_) (λ_=>ae (λ_=>cj (xaz (m:=⟨_,_,_,_,_,_,_,_,_,_⟩) ⟨c1,m1,h3,h4,h5,h7⟩ _ v1) λx4 hx=>?_) (λ_=>?_))
 ·obtain⟨u,⟨k1,k2,k3,k4,k5,k7⟩,k6⟩:=hx
  exact cj (EF k1 _ u) λx3 h3=>⟨bC _,⟨h3,k2,k3,k4,k5,w0 _⟩,congrArg (λn=>wrap .u64 (n+1)) k6⟩
 ·obtain⟨u,⟨k1,k2,k3,k4,k5,k7⟩,k6⟩:=hx
  exact⟨u,⟨k1,k2,k3,k4,k5,w0 _⟩,congrArg (λn=>wrap .u64 (n+1)) k6⟩
 ·repeat'(first
   |exact⟨bC _,⟨c1,m1,h3,h4,h5,w0 _⟩,rfl⟩
   |refine ae (λ_=>?_) (λ_=>?_))
theorem qaA:(KJ m).w (λx=>rV P x/\x.B7=m.B7):=by
 obtain⟨h1,h2,h3,h4,h5,h7⟩:=h
 unfold KJ
 exact cj (qaK h2) λx hx=>⟨⟨h1,by rw[hx];exact h2,h3,h4,h5,h7⟩,rfl⟩
end
theorem Ca(n:Nat):∀w∈cO n (0:Int),U w:=λw hw=>by rw[(List.mem_replicate.1 hw).2];exact gu
set_option synthInstance.maxHeartbeats 2000000
set_option synthInstance.maxSize 100000
noncomputable section
instance xI (src:List UInt8):Ck (Qma src):=tT (t:=NK src) (by delta NK;infer_instance)
instance qE (s:List UInt8):Ck (Qkm s):=tT (t:=NL s) (by delta NL;infer_instance)
instance xE (n:Int):Ck (EG n):=let d:Decidable (EG n):=(by delta EG;infer_instance);⟨@decide _ d,@oY _ d⟩
instance vd (n:Int):Ck (Qhf n):=tT (t:=Iu n) (by delta Iu;infer_instance)
instance zaf (r:Int):Ck (Qrc r):=tT (t:=Iw r) (by delta Iw;infer_instance)
instance xY (s:List UInt8):Ck (W0 s):=tT (t:=NM s) (by delta NM;infer_instance)
instance Ztu (op:Int):Ck (Qex op):=tT (t:=NN op) (by delta NN;infer_instance)
instance Zrp (s:List UInt8):Ck (KK s):=tT (t:=NO s) (by delta NO;infer_instance)
instance qe (ey:List UInt8):Ck (NP ey):=tT (t:=NQ ey) (by delta NQ;infer_instance)
instance zE (s:List UInt8):Ck (Qku s):=tT (t:=NR s) (by delta NR;infer_instance)
instance xe (l:List ll) (p:List UInt8):Ck (NS l p):=tT (t:=NT l p) (by delta NT;infer_instance)
instance yE (s:List UInt8):Ck (Qj5 s):=tT (t:=NU s) (by delta NU;infer_instance)
instance ze (l:List ot) (label:List UInt8):Ck (GC l label):=let d:Decidable (GC l label):=(by delta GC;infer_instance);⟨@decide _ d,@oY _ d⟩
instance zY (src:List UInt8):Ck (Qo0 src):=tT (t:=NV src) (by delta NV;infer_instance)
instance yY (st:kE) (v:Int):Ck (NW st v):=tT (t:=NX st v) (by delta NX;infer_instance)
instance Ztt (src:List UInt8):Ck (W3 src):=tT (t:=NY src) (by delta NY;infer_instance)
theorem xaf:W3 ((108:UInt8)::(Cb++KL++(KM++KN)++(KO++KP++(KQ++KR))++(KS++KT++(KU++KV)++(KW++KX++(KY++KZ))))):=ck inferInstance (by kernel_rfl)
def inU(x:Int):Bool:=decide (0<=x)&&decide (x<4294967296)
theorem qag(l:List Int)(h:(Nat.ble l.length 160&&List.all l inU)=true):l.length<=160/\∀w∈l,U w:=by
 rw[aE]at h
 refine⟨lE h.1,λw hw=>?_⟩
 have:=List.all_eq_true.1 h.2 w hw
 simp only[inU,aE,decide_eq_true_eq]at this
 exact this
theorem ye:(K0 (cP (cP (cP (cP Zg KL) (cP KM KN)) (cP (cP KO KP) (cP KQ KR))) (cP (cP (cP KS KT) (cP KU KV)) (cP (cP KW KX) (cP KY KZ))))).1.length<=160/\∀w∈(K0 (cP (cP (cP (cP Zg KL) (cP KM KN)) (cP (cP KO KP) (cP KQ KR))) (cP (cP (cP KS KT) (cP KU KV)) (cP (cP KW KX) (cP KY KZ))))).1,U w:=qag _ (by kernel_rfl)
end
theorem Cc(i:List Int)(hu:∀w∈i,U w)(hl:i.length<=256):(GF 8 4 i).w (λx=>rV 8 x.1/\x.1.B7=0):=by
 unfold GF
 refine ae (λh=>absurd h (by decide)) λ_=>ae (λh=>absurd h (by decide)) λ_=>ae (λh=>absurd h (by decide)) λ_=>ae (λh=>absurd h (by decide)) λ_=>ae (λh=>?_) λ_=>aq λx0 e0=>df (Zh8 _) (aq λx1 e1=>?_)
 ·have h:=oY h
  rw[show i64.wrap (8*32)=256 by decide]at h
  omega
 have hx:x1=cO 256 0:=by rw[e1];kernel_rfl
 have c0:iX x0:=by rw[e0];exact⟨by
  intro w hw
  simp only[W4,S9,Tree.m,iv.l,cQ,cR,or_false,or_self]at hw
  rw[hw];exact gu,gu,by
  intro w hw
  simp only[W4,S9,Tree.m,A8.l,cQ,cR,or_false,or_self]at hw
  rcases hw with rfl|rfl
  ·exact⟨by omega,by omega⟩
  ·exact gu⟩
 have hz:∀w∈x1,U w:=by rw[hx];exact Ca 256
 have hn:x1.length=256:=by rw[hx,cS]
 refine⟨⟨c0,⟨?_,by omega,by omega,λw hw=>?_⟩,⟨gu,gu,gu,gu⟩,⟨gu,gu,gu,gu⟩,⟨gu,gu⟩,Int.le_refl _⟩,rfl⟩
 ·simp only[lA,aD,aG,hn];omega
 ·rcases List.mem_append.1 hw with h1|h1
  ·exact hu w (List.mem_of_mem_take h1)
  ·exact hz w (List.mem_of_mem_drop h1)
noncomputable section
def jR:List Int:=(K0 (cP (cP (cP (cP Zg KL) (cP KM KN)) (cP (cP KO KP) (cP KQ KR))) (cP (cP (cP KS KT) (cP KU KV)) (cP (cP KW KX) (cP KY KZ))))).1
def tK:List Int:=jR++cO (160-jR.length) 0
theorem NZ(t0 t1 t2 t3 t4 t5 t6 t7 t8 t9 t10 t11 t12 t13 t14 t15 t16 t17 t18 t19 t20 t21 t22 t23 t24 t25 t26 t27 t28 t29 t30 t31 t32 t33 t34 t35 t36 t37 t38 t39 t40 t41 t42 t43 t44 t45 t46 t47 t48 t49 t50 t51 t52 t53 t54 t55 t56 t57 t58 t59 t60 t61 t62 t63 t64 t65 t66 t67 t68 t69 t70 t71 t72 t73 t74 t75 t76 t77 t78 t79 t80 t81 t82 t83 t84 t85 t86 t87 t88 t89 t90 t91 t92 t93 t94 t95:Int):(K1 (lr 8 4 (tK++[t0,t1,t2,t3,t4,t5,t6,t7,t8,t9,t10,t11,t12,t13,t14,t15,t16,t17,t18,t19,t20,t21,t22,t23,t24,t25,t26,t27,t28,t29,t30,t31,t32,t33,t34,t35,t36,t37,t38,t39,t40,t41,t42,t43,t44,t45,t46,t47,t48,t49,t50,t51,t52,t53,t54,t55,t56,t57,t58,t59,t60,t61,t62,t63,t64,t65,t66,t67,t68,t69,t70,t71,t72,t73,t74,t75,t76,t77,t78,t79,t80,t81,t82,t83,t84,t85,t86,t87,t88,t89,t90,t91,t92,t93,t94,t95])).1 [] 87).2.2.2=0:=by kernel_rfl
end
attribute [local irreducible] K0
theorem qf(i j:List Int)(hi:i.length<=256)(hj:j.length<=256)(e:i++cO (256-i.length) 0=j++cO (256-j.length) 0):lr 8 4 i=lr 8 4 j:=by
 have w:i64.wrap (8*32)=256:=by decide
 have m:Ta 8=cO 256 0:=by kernel_rfl
 have d:∀k:List Int,k.length<=256->decide ((k.length:Int)>256)=false:=λk h=>dN (by omega)
 have mem:∀k:List Int,k.length<=256->cU (min k.length (cO 256 (0:Int)).length) k++cV (min k.length (cO 256 (0:Int)).length) (cO 256 0)=k++cO (256-k.length) 0:=λk h=>by
  rw[cS,Nat.min_eq_left h,List.take_length,List.drop_replicate]
 have r:Ta 8=cO 256 0:=by kernel_rfl
 simp only[lr,GF,Tree.m,w,e9,r,d i hi,d j hj]
 simp only[mem i hi,mem j hj,e]
theorem Ix(t:List Int)(ht:t.length=96):t=[t.getD 0 0,t.getD 1 0,t.getD 2 0,t.getD 3 0,t.getD 4 0,t.getD 5 0,t.getD 6 0,t.getD 7 0,t.getD 8 0,t.getD 9 0,t.getD 10 0,t.getD 11 0,t.getD 12 0,t.getD 13 0,t.getD 14 0,t.getD 15 0,t.getD 16 0,t.getD 17 0,t.getD 18 0,t.getD 19 0,t.getD 20 0,t.getD 21 0,t.getD 22 0,t.getD 23 0,t.getD 24 0,t.getD 25 0,t.getD 26 0,t.getD 27 0,t.getD 28 0,t.getD 29 0,t.getD 30 0,t.getD 31 0,t.getD 32 0,t.getD 33 0,t.getD 34 0,t.getD 35 0,t.getD 36 0,t.getD 37 0,t.getD 38 0,t.getD 39 0,t.getD 40 0,t.getD 41 0,t.getD 42 0,t.getD 43 0,t.getD 44 0,t.getD 45 0,t.getD 46 0,t.getD 47 0,t.getD 48 0,t.getD 49 0,t.getD 50 0,t.getD 51 0,t.getD 52 0,t.getD 53 0,t.getD 54 0,t.getD 55 0,t.getD 56 0,t.getD 57 0,t.getD 58 0,t.getD 59 0,t.getD 60 0,t.getD 61 0,t.getD 62 0,t.getD 63 0,t.getD 64 0,t.getD 65 0,t.getD 66 0,t.getD 67 0,t.getD 68 0,t.getD 69 0,t.getD 70 0,t.getD 71 0,t.getD 72 0,t.getD 73 0,t.getD 74 0,t.getD 75 0,t.getD 76 0,t.getD 77 0,t.getD 78 0,t.getD 79 0,t.getD 80 0,t.getD 81 0,t.getD 82 0,t.getD 83 0,t.getD 84 0,t.getD 85 0,t.getD 86 0,t.getD 87 0,t.getD 88 0,t.getD 89 0,t.getD 90 0,t.getD 91 0,t.getD 92 0,t.getD 93 0,t.getD 94 0,t.getD 95 0]:=by
 apply bR
 ·rw[ht];rfl
 ·intro i h1 h2
  have e:∀j (hj:j<96),[t.getD 0 0,t.getD 1 0,t.getD 2 0,t.getD 3 0,t.getD 4 0,t.getD 5 0,t.getD 6 0,t.getD 7 0,t.getD 8 0,t.getD 9 0,t.getD 10 0,t.getD 11 0,t.getD 12 0,t.getD 13 0,t.getD 14 0,t.getD 15 0,t.getD 16 0,t.getD 17 0,t.getD 18 0,t.getD 19 0,t.getD 20 0,t.getD 21 0,t.getD 22 0,t.getD 23 0,t.getD 24 0,t.getD 25 0,t.getD 26 0,t.getD 27 0,t.getD 28 0,t.getD 29 0,t.getD 30 0,t.getD 31 0,t.getD 32 0,t.getD 33 0,t.getD 34 0,t.getD 35 0,t.getD 36 0,t.getD 37 0,t.getD 38 0,t.getD 39 0,t.getD 40 0,t.getD 41 0,t.getD 42 0,t.getD 43 0,t.getD 44 0,t.getD 45 0,t.getD 46 0,t.getD 47 0,t.getD 48 0,t.getD 49 0,t.getD 50 0,t.getD 51 0,t.getD 52 0,t.getD 53 0,t.getD 54 0,t.getD 55 0,t.getD 56 0,t.getD 57 0,t.getD 58 0,t.getD 59 0,t.getD 60 0,t.getD 61 0,t.getD 62 0,t.getD 63 0,t.getD 64 0,t.getD 65 0,t.getD 66 0,t.getD 67 0,t.getD 68 0,t.getD 69 0,t.getD 70 0,t.getD 71 0,t.getD 72 0,t.getD 73 0,t.getD 74 0,t.getD 75 0,t.getD 76 0,t.getD 77 0,t.getD 78 0,t.getD 79 0,t.getD 80 0,t.getD 81 0,t.getD 82 0,t.getD 83 0,t.getD 84 0,t.getD 85 0,t.getD 86 0,t.getD 87 0,t.getD 88 0,t.getD 89 0,t.getD 90 0,t.getD 91 0,t.getD 92 0,t.getD 93 0,t.getD 94 0,t.getD 95 0][j]'hj=t.getD j 0:=by
   intro j hj
   have:[t.getD 0 0,t.getD 1 0,t.getD 2 0,t.getD 3 0,t.getD 4 0,t.getD 5 0,t.getD 6 0,t.getD 7 0,t.getD 8 0,t.getD 9 0,t.getD 10 0,t.getD 11 0,t.getD 12 0,t.getD 13 0,t.getD 14 0,t.getD 15 0,t.getD 16 0,t.getD 17 0,t.getD 18 0,t.getD 19 0,t.getD 20 0,t.getD 21 0,t.getD 22 0,t.getD 23 0,t.getD 24 0,t.getD 25 0,t.getD 26 0,t.getD 27 0,t.getD 28 0,t.getD 29 0,t.getD 30 0,t.getD 31 0,t.getD 32 0,t.getD 33 0,t.getD 34 0,t.getD 35 0,t.getD 36 0,t.getD 37 0,t.getD 38 0,t.getD 39 0,t.getD 40 0,t.getD 41 0,t.getD 42 0,t.getD 43 0,t.getD 44 0,t.getD 45 0,t.getD 46 0,t.getD 47 0,t.getD 48 0,t.getD 49 0,t.getD 50 0,t.getD 51 0,t.getD 52 0,t.getD 53 0,t.getD 54 0,t.getD 55 0,t.getD 56 0,t.getD 57 0,t.getD 58 0,t.getD 59 0,t.getD 60 0,t.getD 61 0,t.getD 62 0,t.getD 63 0,t.getD 64 0,t.getD 65 0,t.getD 66 0,t.getD 67 0,t.getD 68 0,t.getD 69 0,t.getD 70 0,t.getD 71 0,t.getD 72 0,t.getD 73 0,t.getD 74 0,t.getD 75 0,t.getD 76 0,t.getD 77 0,t.getD 78 0,t.getD 79 0,t.getD 80 0,t.getD 81 0,t.getD 82 0,t.getD 83 0,t.getD 84 0,t.getD 85 0,t.getD 86 0,t.getD 87 0,t.getD 88 0,t.getD 89 0,t.getD 90 0,t.getD 91 0,t.getD 92 0,t.getD 93 0,t.getD 94 0,t.getD 95 0]=(cW 96).map (λk=>t.getD k 0):=rfl
   simp only[this,List.getElem_map,List.getElem_range]
  rw[e i (by omega),cX,List.getElem?_eq_getElem h1]
  rfl
theorem vY(t:List Int)(ht:t.length=96):(K1 (lr 8 4 (tK++t)).1 [] 87).2.2.2=0:=by
 rw[Ix t ht]
 exact NZ _ _ _ _ _ _ _ _ _ _ _ _ _ _ _ _ _ _ _ _ _ _ _ _ _ _ _ _ _ _ _ _ _ _ _ _ _ _ _ _ _ _ _ _ _ _ _ _ _ _ _ _ _ _ _ _ _ _ _ _ _ _ _ _ _ _ _ _ _ _ _ _ _ _ _ _ _ _ _ _ _ _ _ _ _ _ _ _ _ _ _ _ _ _ _ _
theorem xf:tK.length=160:=by
 have h:jR.length<=160:=ye.1
 unfold tK
 rw[lA,cS];omega
theorem zag{m:bd}(h:rV P m):(IA m [] 87).w (λx=>x.2.2.2=0->rV P x.1):=by
 have z:∀{k:Int} {p:Prop},k≠0->k=0->p:=λa b=>absurd b a
 unfold IA
 refine aq λx0 _=>ae (λ_=>z (by decide)) λ_=>ae (λ_=>z (by decide)) λ_=>ae (λ_=>z (by decide)) λ_=>df (show N0 [] by show([]:List pV).length<=1000000000000;decide) (aq λx1 _=>ae (λ_=>z (by decide)) λ_=>cj (qaA h) λx2 hx=>?_)
 have hc:=h.tL
 refine fv (inv:=λv:bd×List iB=>rV P v.1/\v.2.length+(87-v.1.B7).toNat<=87) (μ:=W5 m [] 87) ⟨hx.1,by rw[hx.2];show 0+_<=87;omega⟩ (cN _) λv0 ⟨a1,a3⟩=>?_
 have a2:=a1.tL
 refine ae (λhb=>ae (λ_=>?_) (λ_=>λ_=>a1)) (λ_=>λ_=>a1)
 have hb:=oY hb
 refine fv (inv:=λ_=>True) (μ:=W6 m [] 87 v0) trivial (cN _) λv1 _=>?_
 refine ae (λ_=>λ_=>a1) λ_=>cj (qaL _) λx3 _=>ae (λ_=>λ_=>a1) λ_=>cj (zax a1.oB a1.mem) λx4 _=>ae (λ_=>z (by decide)) λ_=>cj (Zbx a1 gu) λx5 h5=>?_
 obtain⟨b1,b2,b3⟩:=h5
 refine aw (dY (by omega)) (ff ?_)
 have e:x5.2.B7=v0.1.B7+1:=by rw[b3,wrap_u64];omega
 show(_/\_)/\(_:Nat)<_
 refine⟨⟨b2,by show(v0.2++x5.1).length+(87-x5.2.B7).toNat<=87;rw[lA];omega⟩,by show(87-x5.2.B7).toNat<(87-v0.1.B7).toNat;omega⟩
theorem Znj(kind:Int)(l:List Int)(hl:l.length*8<=reachBytes)(h40:l.length<=60):(IB kind l).w (rV 8):=by
 unfold IB
 refine df (K3 (by decide)) (aq λx0 ob=>ae (λ_=>df xaf (aq λx1 e1=>?_)) (λhk=>?_))
 ·have eb:x1.1=jR:=by rw[e1];rfl
  obtain⟨q1,q2⟩:jR.length<=160/\∀w∈jR,U w:=ye
  refine fv (inv:=λv:List Int=>v.length<=160/\v=jR++cO (v.length-jR.length) 0) (μ:=W7 kind l) ⟨by rw[eb];exact q1,by rw[eb];simp⟩ (cN _) λv0 ⟨a1,a2⟩=>?_
  have a3:jR.length<=v0.length:=by rw[a2,lA];omega
  refine ae (λhb=>?_) (λhb=>?_)
  ·have hb:=oY hb
   refine aw (dY (by omega)) (ff ?_)
   show(_/\_)/\(_:Nat)<_
   refine⟨⟨by rw[lA,cY];omega,?_⟩,by show 160-(v0++[0]).length<160-v0.length;rw[lA,cY];omega⟩
   show v0++[0]=jR++cO ((v0++[0]).length-jR.length) 0
   rw[lA,cY,show v0.length+1-jR.length=(v0.length-jR.length)+1 by omega,List.replicate_succ',<-aM,<-a2]
  ·have hb:=oN hb
   have hv:v0=tK:=by
    unfold tK
    rw[show(160:Nat)=v0.length by omega]
    exact a2
   subst hv
   have hp:=xf
   have W8:∀w∈tK,U w:=λw hw=>(List.mem_append.1 hw).elim (q2 w) (Ca _ w)
   refine cj (yd l hl) λx2 ⟨b1,b2⟩=>aw (dY (by omega)) ?_
   have hu:∀w∈tK++x2,U w:=λw hw=>(List.mem_append.1 hw).elim (W8 w) (b2 w)
   have hlen:(tK++x2).length<=256:=by rw[lA];omega
   refine ae (λhb=>?_) (λhb=>?_)
   ·have hb:=oY hb;omega
   ·have nw:=Tree.pp (Cc _ hu hlen)
    refine df nw.1 (aq λx3 h3=>?_)
    have c1:rV 8 x3.1:=by rw[h3];exact nw.2.1
    have rn:=Tree.pp (zag c1)
    refine ae (λ_=>df rn.1 (aq λx4 hx=>?_)) (λ_=>c1)
    have e:x3=lr 8 4 (tK++(x2++cO (96-x2.length) 0)):=by
     rw[h3]
     have IC:(x2++cO (96-x2.length) (0:Int)).length=96:=by rw[lA,cS];omega
     refine qf _ _ hlen (by rw[lA,IC];omega) ?_
     rw[lA,lA,IC,hp,aM,aM,aM,show 256-(160+96)=0 by omega,show 256-(160+x2.length)=96-x2.length by omega]
     simp
    have h0:x4.2.2.2=0:=by
     rw[hx,e]
     exact vY _ (by rw[lA,cS];omega)
    exact(by rw[hx];exact rn.2:x4.2.2.2=0->rV 8 x4.1) h0
 ·have hk:=oN hk
  refine cj (yd l hl) λx2 ⟨b1,b2⟩=>aw (dY (by omega)) ?_
  refine ae (λhb=>?_) (λhb=>?_)
  ·have hb:=oY hb;omega
  ·have nw:=Tree.pp (Cc _ b2 (by omega))
   refine df nw.1 (aq λx3 h3=>?_)
   have c1:rV 8 x3.1:=by rw[h3];exact nw.2.1
   exact ae (λh=>absurd (eq_of_beq h) (by omega)) (λ_=>c1)
def out(f:Int)(m m':List Int):Prop:=∀j:Nat,¬(f*32<=j/\(j:Int)<f*32+32)->m'.getD j 0=m.getD j 0
theorem W9(f:Int)(m:List Int):out f m m:=λ_ _=>rfl
theorem wz(l:List Int)(i j:Nat)(v:Int)(h:i≠j):(l.set i v).getD j 0=l.getD j 0:=by
 simp only[cX,List.getElem?_set_ne h]
theorem uy{m:List Int}(h:fg P m):jW m=P:=by
 obtain⟨h1,h2,h3,_⟩:=h
 simp only[jW,GG,Tree.m]
 have e:(m.length:Int)=32*P:=by omega
 rw[e]
 have e1:(cZ (32*(P:Int)) 32 !=0)=false:=by simp[Int.mul_tmod_right]
 have e2:decide ((32*(P:Int))>1024)=false:=dN (by omega)
 rw[e1,e2]
 simp only[cond_false]
 rw[Int.mul_tdiv_cancel_left _ (by decide),wrap_i64];omega
theorem qZ{m:List Int}(h:fg P m)(f:Int):EH m f=true->0<=f/\f<P:=by
 have hp:=uy h
 simp only[EH,K4,Tree.m,e9,hp]
 cases h1:decide (f>=0)
 ·intro h;cases h
 ·intro h;exact⟨oY h1,oY h⟩
theorem zf{m:List Int}(h:fg P m)(f:Int)(s:List UInt8):(ID m f s).w (λr=>fg P r.1/\out f m r.1/\(r.2=false->r.1=m)):=by
 have ju:kK m=m:=rfl
 have h2:=h.p2
 unfold ID
 refine df (GH h) (aq λx0 ob=>aq λx1 pA=>?_)
 rw[ju]at ob;subst ob
 refine ae (λ_=>⟨h,W9 _ _,λ_=>rfl⟩) λhb=>ae (λ_=>⟨h,W9 _ _,λ_=>rfl⟩) λhs=>?_
 have hb:x1=true:=by simpa using hb
 obtain⟨f0,f1⟩:=qZ h f (pA.symm.trans hb)
 have hs:(s.length:Int)=128:=by simpa using hs
 refine fv (inv:=λz:Int×List Int=>0<=z.1/\z.1<=32/\fg P z.2/\out f x0 z.2) (μ:=Xa x0 f s) ⟨show(0:Int)<=0 by decide,show(0:Int)<=32 by decide,h,W9 _ _⟩ (cN _) λz ⟨z1,z2,z3,z4⟩=>?_
 refine ae (λhb=>?_) (λ_=>⟨z3,z4,λh=>by cases h⟩)
 have hb:=oY hb
 have e1:i64.wrap (4*z.1)=4*z.1:=by rw[wrap_i64];omega
 have e2:i64.wrap (i64.wrap (4*z.1)+4)=4*z.1+4:=by rw[wrap_i64,wrap_i64];omega
 have e3:i64.wrap (i64.wrap (f*32)+z.1)=f*32+z.1:=by rw[wrap_i64,wrap_i64];omega
 have hl:=z3.len
 have hlen:(cU (dA (i64.wrap (i64.wrap (4*z.1)+4))-dA (i64.wrap (4*z.1))) (cV (dA (i64.wrap (4*z.1))) s)).length=4:=by
  rw[e2,e1,aD,aG];omega
 refine aw (dY (by rw[e2,e1];omega)) ?_
 refine aw (dY (by rw[hlen];decide)) (aw (dY (by rw[hlen];decide)) (aw (dY (by rw[hlen];decide)) (aw (dY (by rw[hlen];decide)) (aw (by rw[e3];simp[bN];omega) (ff ?_)))))
 show(_/\_/\fg P (dB _ _ _)/\out f x0 (dB _ _ _))/\(_:Nat)<_
 have ew:i64.wrap (z.1+1)=z.1+1:=by rw[wrap_i64];omega
 rw[e3]
 refine⟨⟨by rw[ew];omega,by rw[ew];omega,⟨by rw[dC];exact hl,z3.p1,z3.p2,EI z3.u (nS _ _) _⟩,λj hj=>?_⟩,by show(32-i64.wrap (z.1+1)).toNat<(32-z.1).toNat;rw[ew];omega⟩
 rw[wz _ _ _ _ (by omega)]
 exact z4 j hj
theorem zaA(w:List Int)(h:w.length<=32):(EJ w).w (λr=>r.length=4*w.length):=by
 have e0:i64.wrap (4*(w.length:Int))=4*w.length:=by rw[wrap_i64];omega
 unfold EJ
 refine aw (by rw[e0];simp[bN,D.plain];omega) ?_
 refine fv (inv:=λz:Int×List Int=>0<=z.1/\z.1<=w.length/\(z.2.length:Int)=4*z.1) (μ:=N1 w) ⟨by decide,by show(0:Int)<=w.length;omega,rfl⟩ (cN _) λz ⟨z1,z2,z3⟩=>?_
 refine ae (λhb=>?_) (λhb=>?_)
 ·have hb:=oY hb
  have ew:i64.wrap (z.1+1)=z.1+1:=by rw[wrap_i64];omega
  refine aw (by simp[bN];omega) (aw (dY (by omega)) (ff ?_))
  show(_/\_/\_)/\(_:Nat)<_
  refine⟨⟨by rw[ew];omega,by rw[ew];omega,by rw[ew,lA];simp only[dD,dE];omega⟩,by show(w.length-i64.wrap (z.1+1)).toNat<(w.length-z.1).toNat;rw[ew];omega⟩
 ·have hb:=oN hb
  show(bytesOf z.2).length=_
  rw[Qk];omega
theorem yf{m:List Int}(h:fg P m)(f:Int):(DN m f).w (λr=>0<=f->f<P->r.1.length=128):=by
 have hl:=h.len
 have h2:=h.p2
 unfold DN
 refine aq λx0 ob=>ae (λhb=>λf0 f1=>?_) (λhb=>?_)
 ·have hp:=uy h
  have hb:x0=false:=by simpa using hb
  rw[hb]at ob
  simp only[EH,K4,Tree.m,e9,hp]at ob
  rw[dY f0]at ob
  exact absurd f1 (oN ob.symm)
 ·have hb:x0=true:=by simpa using hb
  obtain⟨f0,f1⟩:=qZ h f (ob.symm.trans hb)
  have e1:i64.wrap (f*32)=f*32:=by rw[wrap_i64];omega
  have e2:i64.wrap (i64.wrap (f*32)+32)=f*32+32:=by rw[wrap_i64,wrap_i64];omega
  have hlen:(cU (dA (i64.wrap (i64.wrap (f*32)+32))-dA (i64.wrap (f*32))) (cV (dA (i64.wrap (f*32))) m)).length=32:=by
   rw[e2,e1,aD,aG];omega
  refine aw (by rw[e2,e1];simp[bN];omega) ?_
  refine df (by show dF _<=1000000000000;rw[hlen];decide) (aq λx1 h1=>?_)
  have h1:x1.length=4*(cU (dA (i64.wrap (i64.wrap (f*32)+32))-dA (i64.wrap (f*32))) (cV (dA (i64.wrap (f*32))) m)).length:=by rw[h1];exact(Tree.pp (zaA _ (dG hlen))).2
  intro _ _
  show x1.length=128
  rw[h1,hlen]
theorem xZ(hf:U f)(hP:P<=32)(h:decide (u64.wrap f<u64.wrap (P:Int))=true):0<=f/\f<P:=by
 have h:=oY h
 obtain⟨h1,h2⟩:=hf
 rw[wrap_u64,wrap_u64,dH h1 (by omega),dH (by omega) (by omega)]at h
 exact⟨h1,h⟩
theorem zZ(m:bd):wA m=(Ba m.B3&&(Q8 m.B8&&(rB m.B5 (jW m.Mem)&&(wC m.D1 (jW m.Mem)&&Bb m.A7 (jW m.Mem))))):=by
 simp only[wA,GI,Tree.m,e9]
 cases Ba m.B3<;>cases Q8 m.B8<;>cases rB m.B5 (jW m.Mem)<;>cases wC m.D1 (jW m.Mem)<;>rfl
def chain(b1 b2 b3 b4 b5 b6 b7 w h dev:Bool):Bool:=bif b1 then false else bif b2 then false else bif b3 then false else bif b4 then false else bif b5 then false else bif b6 then false else bif b7 then false else bif w then(bif h then false else dev)else dev
def N2(p:Int)(c:bq)(ct:Int)(w h dev:Bool):Bool:=chain (p==0) (c.X.a0 !=0) (decide (c.C3.a0>31)) (decide (c.C3.a7>31)) (decide (c.C3.a6>255)) (cZ c.C3.a1 4 !=0) (decide (ct>1152921504606846976)) w h dev
theorem xaA(m:bd):Bc m=N2 (jW m.Mem) m.B2 m.B7 m.B4 m.B6 (wA m):=rfl
section
variable {P:Nat} {m:List Int} (h:fg P m)
include h
theorem N3(hf:U f){b:Bool}(hx:b=N4 m f)(hb:b=true):0<=f/\f<P:=by
 have hp:=uy h
 rw[hb]at hx
 simp only[N4,Tb,Tree.m,e9,hp]at hx
 exact xZ hf h.p2 hx.symm
theorem GJ(hf:U f){b:Bool}(hx:b=K5 m f)(hb:b=true):0<=f/\f<P:=by
 have hp:=uy h
 rw[hb]at hx
 simp only[K5,Tc,Tree.m,e9,hp]at hx
 exact xZ hf h.p2 hx.symm
def sL(P:Nat)(d d':gg):Prop:=Au d'/\(rB d P=true->rB d' P=true)
theorem vf(hd:Au d){cmd:Int}(hc:cmd=1\/cmd=2)(gv:Int):(K6 d m cmd gv).w (λr=>sL P d r.1/\r.2.length<=1):=by
 have h2:=h.p2
 have st3:(d.C8 !=0)=false->sL P d {ab:=d.ab,C9:=d.C9,Frame:=d.Frame,C8:=3,F6:=d.F6,C5:=d.C5,C6:=d.C6,C7:=d.C7}:=λhs=>by
  have hs:d.C8=0:=by simpa using hs
  refine⟨⟨hd.block,hd.frame,hd.kA,hd.kB⟩,λhm=>?_⟩
  simp only[rB,EK,Tree.m,hs]at hm⊢
  exact hm
 have N5:rB d P=true->decide (d.ab>64)=false:=λhm=>by
  cases hb:decide (d.ab>64)
  ·rfl
  ·have:rB d P=false:=by simp only[rB,EK,Tree.m];rw[hb];rfl
   rw[this]at hm;cases hm
 unfold K6
 refine ae (λ_=>⟨⟨hd,λh=>h⟩,bC _⟩) λhs=>ae (λ_=>⟨st3 hs,bC _⟩) λhb=>aq λx0 hx=>ae (λ_=>⟨st3 hs,bC _⟩) λhp=>?_
 have hb:=oN hb
 obtain⟨f0,f1⟩:=N3 h hd.frame hx (by simpa using hp)
 have ef:i64.wrap d.Frame=d.Frame:=by rw[wrap_i64];omega
 have e1:decide (d.C9<d.ab)=true:=dY (by omega)
 have e2:decide (i64.wrap d.Frame<(P:Int))=true:=by rw[ef];exact dY f1
 refine ae (λAr=>cj (yf h _) λx1 h1=>?_) (λAr=>?_)
 ·rw[ef]at h1
  have h1:=h1 f0 f1
  have Ar:=eq_of_beq Ar
  subst Ar
  refine aq λx2 _=>⟨⟨⟨hd.block,hd.frame,hd.block,hd.frame⟩,λhm=>?_⟩,aX _⟩
  simp only[rB,EK,Td,N6,Tree.m,e9,N5 hm,e1,e2,h1]
  rfl
 ·have hc:cmd=1:=by
   rcases hc with h|h
   ·exact h
   ·rw[h]at Ar;exact absurd Ar (by decide)
  subst hc
  refine aq λx2 _=>⟨⟨⟨hd.block,hd.frame,hd.block,hd.frame⟩,λhm=>?_⟩,aX _⟩
  simp only[rB,EK,Td,N6,Tree.m,e9,N5 hm,e1,e2]
  rfl
theorem xag(hd:Au d)(port:Int)(hv:U v)(gv:Int):(K7 d m port v gv).w (λr=>sL P d r.1/\r.2.length<=1):=by
 have ed:sL P d d:=⟨hd,λh=>h⟩
 have e1:∀{k:Int},(v==k)=true->i64.wrap v=k:=λhk=>by
  have:=eq_of_beq hk
  obtain⟨a,b⟩:=hv
  rw[wrap_i64];omega
 unfold K7
 refine ae (λ_=>⟨⟨⟨hv,hd.frame,hd.kA,hd.kB⟩,λh=>h⟩,bC _⟩) λ_=>ae (λ_=>⟨⟨⟨hd.block,hv,hd.kA,hd.kB⟩,λh=>h⟩,bC _⟩) λ_=>ae (λ_=>ae (λhk=>cj (vf h hd (.inl (e1 hk)) _) λx hx=>hx) λ_=>ae (λhk=>cj (vf h hd (.inr (e1 hk)) _) λx hx=>hx) λ_=>ae (λ_=>aq λx hx=>ae (λhb=>?_) (λ_=>⟨ed,bC _⟩)) (λ_=>⟨ed,bC _⟩)) (λ_=>⟨ed,bC _⟩)
 refine⟨⟨⟨hd.block,hd.frame,hd.kA,hd.kB⟩,λhm=>?_⟩,bC _⟩
 rw[hb]at hx
 simp only[K8,Xb,Tree.m]at hx
 cases h2:d.C8==2
 ·rw[h2]at hx
  have h3:d.C8=3:=eq_of_beq hx.symm
  simp only[rB,EK,Tree.m,h3]at hm⊢
  exact hm
 ·have h3:d.C8=2:=eq_of_beq h2
  simp only[rB,EK,Tree.m,h3]at hm⊢
  exact hm
def Cd(P:Nat)(n n':ic):Prop:=uz n'/\(wC n P=true->wC n' P=true)
theorem qaB{n:ic}(hn:uz n)(gv:Int):(K9 n m gv).w (λr=>r.length<=1):=by
 have h2:=h.p2
 unfold K9
 refine ae (λ_=>bC _) λl1=>ae (λ_=>bC _) λl2=>aq λx0 hx=>ae (λ_=>bC _) λhp=>cj (yf h _) λx1 h1=>?_
 have l1:=oN l1
 have l2:=oN l2
 obtain⟨f0,f1⟩:=GJ h hn.frame hx (by simpa using hp)
 have ef:i64.wrap n.Frame=n.Frame:=by rw[wrap_i64];omega
 rw[ef]at h1
 have h1:=h1 f0 f1
 exact aw (dY (by omega)) (aX _)
theorem zaB{n:ic}(hn:uz n)(port:Int){v:Int}(hv:U v)(gv:Int):(La n m port v gv).w (λr=>Cd P n r.1/\r.2.length<=1):=by
 have h2:=h.p2
 have ed:Cd P n n:=⟨hn,λh=>h⟩
 unfold La
 refine ae (λ_=>⟨⟨⟨hv,hn.len,hn.buffer,hn.GK⟩,λh=>h⟩,bC _⟩) λ_=>ae (λ_=>⟨⟨⟨hn.frame,hv,hn.buffer,hn.GK⟩,λh=>h⟩,bC _⟩) λ_=>ae (λ_=>ae (λ_=>cj (qaB h hn _) λx hx=>⟨ed,hx⟩) λ_=>ae (λ_=>aq λx hx=>ae (λhb=>ae (λnp=>ae (λnr=>?_) (λ_=>⟨ed,bC _⟩)) (λ_=>⟨ed,bC _⟩)) (λ_=>⟨ed,bC _⟩)) λ_=>ae (λ_=>?_) (λ_=>⟨ed,bC _⟩)) (λ_=>⟨ed,bC _⟩)
 ·obtain⟨f0,f1⟩:=GJ h hn.frame hx hb
  have np:n.D2=false:=by simpa using np
  have nr:n.C4=false:=by simpa using nr
  have e2:decide (i64.wrap n.Frame>=(P:Int))=false:=dN (by rw[wrap_i64];omega)
  refine⟨⟨⟨hn.frame,hn.len,hn.frame,hn.GK⟩,λhm=>?_⟩,bC _⟩
  simp only[wC,N7,Tree.m,np,nr,e2]at hm⊢
  cases hb:(n.D4 !=0)
  ·rw[hb]at hm;exact hm
  ·rw[hb]at hm;cases hm
 ·refine⟨⟨⟨hn.frame,hn.len,hn.buffer,gu⟩,λhm=>?_⟩,bC _⟩
  simp only[wC,N7,Tree.m]at hm⊢
  revert hm
  cases n.D2<;>cases n.C4<;>cases decide (i64.wrap n.D4>=(P:Int))<;>cases(n.D4 !=0)<;>simp
end
theorem qah(t:iW)(v:Int):Q8 (N8 t v)=true:=by
 simp only[N8,Te,Q8,Tf,Tree.m]
 cases h:(v !=0)
 ·have:v=0:=by simpa using h
  subst this;rfl
 ·rfl
theorem DO(k:Nat)(hk:k<=32):bb .u32 a k=a/2^k:=by
 unfold bb
 have e:min (k:Int).toNat u32.bits=k:=by show min (k:Int).toNat 32=k;omega
 have hp:(0:Int)<2^k:=dI (by decide)
 rw[e,dJ _ (dK hp)]
def Lb(x:Int)(n:Nat):Prop:=x<2^n/\(n=0\/(2:Int)^(n-1)<=x)
theorem Xc(hq:q=x/2^k)(h0:0<q)(h:Lb q n):Lb x (n+k):=by
 have hp:(0:Int)<2^k:=dI (by decide)
 obtain⟨h1,h2⟩:=h
 have hn:n≠0:=λe=>by subst e;simp at h1;omega
 refine⟨?_,.inr ?_⟩
 ·rw[dL]
  have:x<(x/2^k+1)*2^k:=Int.lt_ediv_add_one_mul_self x hp
  have h3:(x/2^k+1)*2^k<=2^n*2^k:=dM (by omega) (dK hp)
  omega
 ·have h2:=h2.resolve_left hn
  have e:n+k-1=(n-1)+k:=by omega
  rw[e,dL]
  have h3:(2:Int)^(n-1)*2^k<=q*2^k:=dM h2 (dK hp)
  have h4:q*2^k<=x:=by rw[hq];exact Int.ediv_mul_le x (Int.ne_of_gt hp)
  omega
theorem zI(h:Lb x n)(hx:x<2^p):n<=p:=by
 obtain⟨h1,h2⟩:=h
 rcases h2 with h2|h2
 ·omega
 ·rcases Nat.lt_or_ge p n with bg|gz
  ·have:(2:Int)^p<=2^(n-1):=by
    have:=dO (show 0<2 by omega) (show p<=n-1 by omega)
    exact_mod_cast this
   omega
  ·exact gz
theorem Znf(h:Lb x n)(hn:n<=p):x<2^p:=by
 have:(2:Int)^n<=2^p:=by
  have:=dO (show 0<2 by omega) hn
  exact_mod_cast this
 exact Int.lt_of_lt_of_le h.1 this
def Ce(i:Nat):Bool:=match(wD (i:Int))with
 |.ofNat n=>decide ((i:Int)<2^n)&&(Nat.beq n 0||decide ((2:Int)^(n-1)<=i))&&decide (n<=8)
 |_=>false
theorem Tg(h0:0<=q)(h1:q<256):∃n:Nat,wD q=n/\Lb q n/\n<=8:=by
 have all:List.all (cW 256) Ce=true:=by kernel_rfl
 have:=List.all_eq_true.1 all q.toNat (List.mem_range.2 (by omega))
 have hq:((q.toNat:Nat):Int)=q:=by omega
 unfold Ce at this
 rw[hq]at this
 split at this
 ·rename_i n hn
  simp only[aE,aT,decide_eq_true_eq]at this
  refine⟨n,hn,⟨this.1.1,?_⟩,this.2⟩
  rcases this.1.2 with h|h
  ·exact .inl (bE h)
  ·exact .inr h
 ·cases this
theorem xaB(h:U x)(hx:16777216<=x):wD x=24+wD (x/16777216):=by
 obtain⟨h0,h1⟩:=h
 have Bd:bb .u32 x 16=x/65536:=DO 16 (by omega)
 have uA:bb .u32 (x/65536) 8=x/16777216:=by rw[show((8:Int))=((8:Nat):Int) from rfl,DO 8 (by omega)];omega
 have d1:decide (x>=65536)=true:=dY (by omega)
 have d2:decide (x/65536>=256)=true:=dY (by omega)
 have d3:decide (x/16777216>=65536)=false:=dN (by omega)
 have d4:decide (x/16777216>=256)=false:=dN (by omega)
 have u:u8.wrap (x/16777216)=x/16777216:=by rw[wrap_u8];omega
 simp only[wD,DP,Tree.m,Bd,uA,d1,d2,d3,d4,u,cond_true,cond_false]
 generalize(aV _ (dA (x/16777216)) (0:UInt8))=b
 have hb:=dP b
 rw[wrap_i64,wrap_i64,wrap_i64,wrap_i64]
 omega
theorem qaC(h0:65536<=x)(h1:x<16777216):wD x=16+wD (x/65536):=by
 have Bd:bb .u32 x 16=x/65536:=DO 16 (by omega)
 have d1:decide (x>=65536)=true:=dY (by omega)
 have d2:decide (x/65536>=256)=false:=dN (by omega)
 have d3:decide (x/65536>=65536)=false:=dN (by omega)
 have u:u8.wrap (x/65536)=x/65536:=by rw[wrap_u8];omega
 simp only[wD,DP,Tree.m,Bd,d1,d2,d3,u,cond_true,cond_false]
 generalize(aV _ (dA (x/65536)) (0:UInt8))=b
 have hb:=dP b
 rw[wrap_i64,wrap_i64,wrap_i64]
 omega
theorem N9(h0:256<=x)(h1:x<65536):wD x=8+wD (x/256):=by
 have s8:bb .u32 x 8=x/256:=DO 8 (by omega)
 have d1:decide (x>=65536)=false:=dN (by omega)
 have d2:decide (x>=256)=true:=dY (by omega)
 have d3:decide (x/256>=65536)=false:=dN (by omega)
 have d4:decide (x/256>=256)=false:=dN (by omega)
 have u:u8.wrap (x/256)=x/256:=by rw[wrap_u8];omega
 simp only[wD,DP,Tree.m,s8,d1,d2,d3,d4,u,cond_true,cond_false]
 generalize(aV _ (dA (x/256)) (0:UInt8))=b
 have hb:=dP b
 rw[wrap_i64,wrap_i64,wrap_i64,wrap_i64]
 omega
theorem Zro(h:U x):∃n:Nat,wD x=n/\Lb x n:=by
 obtain⟨h0,h1⟩:=h
 rcases dQ x 256 with a|a
 ·obtain⟨n,e,l,_⟩:=Tg h0 a
  exact⟨n,e,l⟩
 ·rcases dQ x 65536 with b|b
  ·obtain⟨n,e,l,_⟩:=Tg (q:=x/256) (by omega) (by omega)
   exact⟨n+8,by rw[N9 a b,e];omega,Xc (k:=8) rfl (by omega) l⟩
  ·rcases dQ x 16777216 with c|c
   ·obtain⟨n,e,l,_⟩:=Tg (q:=x/65536) (by omega) (by omega)
    exact⟨n+16,by rw[qaC b c,e];omega,Xc (k:=16) rfl (by omega) l⟩
   ·obtain⟨n,e,l,_⟩:=Tg (q:=x/16777216) (by omega) (by omega)
    exact⟨n+24,by rw[xaB ⟨h0,h1⟩ c,e];omega,Xc (k:=24) rfl (by omega) l⟩
theorem Oa(h:U b.D0):Bb b P=true↔b.D0<2^P:=by
 obtain⟨n,e,l⟩:=Zro h
 have hp:(if(0:Int)>(P:Int)then(0:Int)else P)=P:=by rw[if_neg (by omega)]
 simp only[Bb,IE,Tree.m,e9,e,hp,decide_eq_true_eq]
 constructor
 ·intro h;exact Znf l (by omega)
 ·intro h;have:=zI l h;omega
theorem Xd(h:U a)(h1:a<2^P):(dR 32 a).toNat<2^P:=by
 obtain⟨a0,a1⟩:=h
 rw[dS,dH a0 (by omega)]
 have:((2^P:Nat):Int)=(2:Int)^P:=by exact_mod_cast rfl
 omega
theorem Ob{a b:Int}(ha:U a)(hb:U b)(hP:P<=32)(h1:a<2^P)(h2:b<2^P):iU .u32 a b<2^P:=by
 have e:(dR 32 a|||dR 32 b).toNat<2^P:=by
  rw[dT]
  exact Nat.or_lt_two_pow (Xd ha h1) (Xd hb h2)
 have hc:((2^P:Nat):Int)=(2:Int)^P:=by exact_mod_cast rfl
 have l:=(dR 32 a|||dR 32 b).isLt
 show wrap .u32 ((dR 32 a|||dR 32 b).toNat:Int)<2^P
 rw[wrap_u32]
 omega
theorem zah{a b:Int}(ha:U a)(h1:a<2^P):o4 .u32 a b<2^P:=by
 have e:(dR 32 a&&&~~~dR 32 b).toNat<2^P:=by
  rw[dU]
  exact Nat.lt_of_le_of_lt dV (Xd ha h1)
 have hc:((2^P:Nat):Int)=(2:Int)^P:=by exact_mod_cast rfl
 have l:=(dR 32 a&&&~~~dR 32 b).isLt
 show wrap .u32 ((dR 32 a&&&~~~dR 32 b).toNat:Int)<2^P
 rw[wrap_u32]
 omega
theorem qg(h0:0<=v)(h1:v<32):fh .u32 1 v=2^v.toNat:=by
 have e:min v.toNat u32.bits=v.toNat:=by show min v.toNat 32=v.toNat;omega
 obtain⟨n,rfl⟩:∃n:Nat,v=n:=⟨v.toNat,by omega⟩
 have hn:n<32:=by omega
 have bg:(2:Nat)^n<4294967296:=by
  have:=dW (show 1<2 by omega) hn
  simpa using this
 have hc:((2^n:Nat):Int)=(2:Int)^n:=by exact_mod_cast rfl
 unfold fh
 rw[e,wrap_u32,Int.one_mul,dX,<-hc]
 clear hc e
 generalize(2:Nat)^n=z at*
 omega
def Cf(P:Nat)(b b':gw):Prop:=okB b'/\(Bb b P=true->Bb b' P=true)
theorem Zrk{m:List Int}(h:fg P m)(hb:okB b)(port:Int)(hv:U v):(DQ b m port v).w (λr=>Cf P b r.1/\fg P r.2):=by
 have ju:kK m=m:=rfl
 have h2:=h.p2
 have hp:=uy h
 have ed:(Tree.an (oc m) (.lv (kK m) λx=>.lf (b,x))).w (λr=>Cf P b r.1/\fg P r.2):=df (GH h) (aq λx hx=>by rw[ju]at hx;subst hx;exact⟨⟨hb,λh=>h⟩,h⟩)
 unfold DQ
 refine ae (λ_=>ed) λbg=>aw (dY hv.1) (ae (λ_=>aq λx1 hx=>ae (λIF=>ae (λ_=>df ⟨by decide,by decide,by decide⟩ (aq λx2 _=>cj (zf h _ _) λx3 ⟨h3,_⟩=>?_)) (λ_=>ed)) (λ_=>ed)) (λ_=>ae (λ_=>df (GH h) (aq λx hx=>?_)) (λ_=>ed)))
 ·have bg:=oN bg
  have IF:=oY IF
  rw[hx,hp]at IF
  obtain⟨v0,v1⟩:=hv
  have ev:i64.wrap v=v:=by rw[wrap_i64];omega
  rw[ev]at IF
  refine⟨⟨⟨hb.1,ga _⟩,λhm=>?_⟩,h3⟩
  rw[Oa hb.2]at hm
  rw[Oa (ga _)]
  have hs:fh .u32 1 v<2^P:=by
   rw[qg v0 (by omega)]
   have:=dW (show 1<2 by omega) (show v.toNat<P by omega)
   exact_mod_cast this
  exact Ob hb.2 (ga _) h2 hm hs
 ·rw[ju]at hx;subst hx
  refine⟨⟨⟨hb.1,ga _⟩,λhm=>?_⟩,h⟩
  rw[Oa hb.2]at hm
  rw[Oa (ga _)]
  exact zah hb.2 hm
structure kept(P:Nat)(m n:bd):Prop where
 ok:Av P n
 dev:wA m=true->wA n=true
 oB:n.B2=m.B2
 tL:n.B7=m.B7
 wait:n.B4=m.B4
 halt:n.B6=m.B6
theorem Zkr{m:bd}(h:Av P m):kept P m m:=⟨h,λh=>h,rfl,rfl,rfl,rfl⟩
theorem IG{m n:bd}(hm:fg P m.Mem)(hn:fg P n.Mem)(hc:Ba m.B3=true->Ba n.B3=true)(ht:Q8 m.B8=true->Q8 n.B8=true)
 (hd:rB m.B5 P=true->rB n.B5 P=true) (hk:wC m.D1 P=true->wC n.D1 P=true) (hb:Bb m.A7 P=true->Bb n.A7 P=true) (h:wA m=true):wA n=true:=by
 rw[zZ]at h⊢
 rw[uy hm]at h
 rw[uy hn]
 simp only[aE]at h⊢
 exact⟨hc h.1,ht h.2.1,hd h.2.2.1,hk h.2.2.2.1,hb h.2.2.2.2⟩
theorem Zou{m:bd}(h:Av P m)(port:Int)(hv:U v)(gv:Int):(Lc m port v gv).w (λr=>kept P m r.1/\r.2.length<=1):=by
 have k:=Zkr h
 obtain⟨h1,h2,h3,h4,h5,h6⟩:=h
 have id:∀{p:Prop},p->p:=λh=>h
 have D:∀(x:gg×List iB),(sL P m.B5 x.1/\x.2.length<=1)->kept P m {B2:=m.B2,Mem:=m.Mem,B3:=m.B3,B8:=m.B8,B5:=x.1,D1:=m.D1,A7:=m.A7,B7:=m.B7,B4:=m.B4,B6:=m.B6}/\x.2.length<=1:=λx hx=>
  ⟨⟨⟨h1,h2,hx.1.1,h4,h5,h6⟩,IG h2 h2 id id hx.1.2 id id,rfl,rfl,rfl,rfl⟩,hx.2⟩
 have N:∀(x:ic×List iB),(Cd P m.D1 x.1/\x.2.length<=1)->kept P m {B2:=m.B2,Mem:=m.Mem,B3:=m.B3,B8:=m.B8,B5:=m.B5,D1:=x.1,A7:=m.A7,B7:=m.B7,B4:=m.B4,B6:=m.B6}/\x.2.length<=1:=λx hx=>
  ⟨⟨⟨h1,h2,h3,hx.1.1,h5,h6⟩,IG h2 h2 id id id hx.1.2 id,rfl,rfl,rfl,rfl⟩,hx.2⟩
 have B:∀(x:gw×List Int),(Cf P m.A7 x.1/\fg P x.2)->kept P m {B2:=m.B2,Mem:=x.2,B3:=m.B3,B8:=m.B8,B5:=m.B5,D1:=m.D1,A7:=x.1,B7:=m.B7,B4:=m.B4,B6:=m.B6}/\([]:List iB).length<=1:=λx hx=>
  ⟨⟨⟨h1,hx.2,h3,h4,hx.1.1.1,hx.1.1.2⟩,IG h2 hx.2 id id id id hx.1.2,rfl,rfl,rfl,rfl⟩,bC _⟩
 unfold Lc
 repeat'(first
  |exact⟨k,aX _⟩
  |exact⟨k,bC _⟩
  |exact aq λx hx=>⟨⟨⟨h1,h2,h3,h4,h5,h6⟩,IG h2 h2 id (λ_=>by rw[hx];exact qah _ _) id id id,rfl,rfl,rfl,rfl⟩,bC _⟩
  |exact cj (xag h2 h3 _ hv _) λx hx=>D x hx
  |exact cj (zaB h2 h4 _ hv _) λx hx=>N x hx
  |exact cj (Zrk h2 ⟨h5,h6⟩ _ hv) λx hx=>B x hx
  |refine ae (λ_=>?_) (λ_=>?_))
theorem Zby(c:iH)(port:Int):(IH c port).w (λr=>U r.2/\(Ba c=true->Ba r.1=true)):=by
 have u1:U 4294967295:=⟨by omega,by omega⟩
 unfold IH
 refine ae (λ_=>ae (λ_=>⟨u1,λh=>h⟩) (λhb=>aw ?_ (aw ?_ ⟨ga _,λhm=>?_⟩))) (λ_=>ae (λ_=>⟨ga _,λh=>h⟩) (λ_=>⟨gu,λh=>h⟩))
 ·have hb:=oN hb
  have:0<c.D9.length:=List.length_pos_iff.2 hb
  simp[bN];omega
 ·have hb:=oN hb
  have:0<c.D9.length:=List.length_pos_iff.2 hb
  exact dY (by omega)
 ·have hm:decide ((c.D9.length:Int)<=16)=true:=hm
  have hm:=oY hm
  show decide (((cU _ (cV _ c.D9)).length:Int)<=16)=true
  refine dY ?_
  rw[aD,aG];omega
theorem Zs7{m:bd}(h:Av P m)(port:Int)(hc:U clock):(Ld m port clock).w (λr=>kept P m r.1/\U r.2):=by
 have k:=Zkr h
 obtain⟨h1,h2,h3,h4,h5,h6⟩:=h
 have id:∀{p:Prop},p->p:=λh=>h
 have ti:∀t,U (Xe t):=λt=>by
  refine Tree.post (Th t) (W:=U) ?_
  unfold Th
  exact ae (λ_=>⟨by omega,by omega⟩) (λ_=>gu)
 have di:∀p,U (Oc m.B5 p):=λp=>by
  refine Tree.post (Ti m.B5 p) (W:=U) ?_
  unfold Ti
  exact ae (λ_=>h3.block) (λ_=>ae (λ_=>h3.frame) (λ_=>ae (λ_=>ga _) (λ_=>gu)))
 have ni:∀p,U (Lf m.D1 p):=λp=>by
  refine Tree.post (Od m.D1 p) (W:=U) ?_
  unfold Od
  exact ae (λ_=>h4.frame) (λ_=>ae (λ_=>h4.GK) (λ_=>ae (λ_=>ae (λ_=>ae (λ_=>ga _) (λ_=>ga _)) (λ_=>ae (λ_=>ga _) (λ_=>gu))) (λ_=>gu)))
 have bi:∀p,(Lg m.A7 p).w U:=λp=>by
  unfold Lg
  exact ae (λ_=>h5) (λ_=>ae (λ_=>cj (Zpa h6) λ_ _=>ga _) (λ_=>gu))
 have C:∀(x:iH×Int),(U x.2/\(Ba m.B3=true->Ba x.1=true))->kept P m {B2:=m.B2,Mem:=m.Mem,B3:=x.1,B8:=m.B8,B5:=m.B5,D1:=m.D1,A7:=m.A7,B7:=m.B7,B4:=m.B4,B6:=m.B6}/\U x.2:=λx hx=>
  ⟨⟨⟨h1,h2,h3,h4,h5,h6⟩,IG h2 h2 hx.2 id id id id,rfl,rfl,rfl,rfl⟩,hx.1⟩
 unfold Ld
 repeat'(first
  |exact⟨k,hc⟩
  |exact⟨k,gu⟩
  |exact cj (Zby _ _) λx hx=>C x hx
  |exact S8 (Zby _ _) λx hx=>C x hx
  |exact aq λx hx=>⟨k,by rw[hx];exact ti _⟩
  |exact aq λx hx=>⟨k,by rw[hx];exact di _⟩
  |exact aq λx hx=>⟨k,by rw[hx];exact ni _⟩
  |exact cj (bi _) λx hx=>⟨k,hx⟩
  |refine ae (λ_=>?_) (λ_=>?_))
structure nC(c:bq):Prop where
 x0:c.X.a0=0
 st:c.C3.a0<=31
 en:c.C3.a7<=31
 rt:c.C3.a6<=255
 ve:cZ c.C3.a1 4=0
theorem nC.pc(h:nC c)(p:Int):nC {X:=c.X,Pc:=p,C3:=c.C3}:=⟨h.x0,h.st,h.en,h.rt,h.ve⟩
theorem GL(a:Int):ba .u32 a 31<=31:=by
 have e:(dR 32 a&&&dR 32 31).toNat<=31:=by
  rw[dU]
  exact Nat.le_trans Nat.and_le_right (by decide)
 show wrap .u32 ((dR 32 a&&&dR 32 31).toNat:Int)<=31
 rw[wrap_u32];omega
theorem EL(a:Int):ba .u32 a 255<=255:=by have:=Cg a;omega
theorem Oe(a:Int):cZ (o4 .u32 a 3) 4=0:=by
 have e:(dR 32 a&&&~~~dR 32 3).toNat%4=0:=by
  rw[dU,show(~~~dR 32 3).toNat=4294967292 by decide]
  have:=Nat.and_mod_two_pow (a:=(dR 32 a).toNat) (b:=4294967292) (n:=2)
  simpa using this
 have l:=(dR 32 a&&&~~~dR 32 3).isLt
 show cZ (wrap .u32 ((dR 32 a&&&~~~dR 32 3).toNat:Int)) 4=0
 rw[wrap_u32,dZ (by omega)]
 omega
theorem GM{f:Int->Int}(h:(cW 32).all (λn=>decide (f n<=31))=true){s:Int}(h0:0<=s)(h1:s<=31):f s<=31:=by
 have:=List.all_eq_true.1 h s.toNat (List.mem_range.2 (by omega))
 have e:((s.toNat:Nat):Int)=s:=by omega
 rw[e]at this
 exact oY this
theorem II(h:iX c)(m:nC c)(k b:Int):nC (rC c k b):=
 ⟨m.x0,GM (f:=λs=>o4 .u32 (iU .u32 (Aw (Aw s 1 8) 2 16) 1) 2) (by kernel_rfl) h.a0.1 m.st,m.en,m.rt,m.ve⟩
theorem Zsp(h:iX c)(m:nC c):nC (Lh c):=
 ⟨m.x0,GM (f:=λs=>Aw (Aw s 8 1) 16 2) (by kernel_rfl) h.a0.1 m.st,m.en,m.rt,m.ve⟩
theorem Li(m:nC c)(hr:0<=r/\r<16)(v:Int):(EM c r v).w nC:=by
 unfold EM
 refine ae (λhn=>aw (rc hr) ?_) (λ_=>m)
 have hn:r≠0:=by simpa using hn
 obtain⟨n,e⟩:∃n:Nat,r.toNat=n+1:=⟨r.toNat-1,by omega⟩
 refine⟨?_,m.st,m.en,m.rt,m.ve⟩
 show(iv.of 0 (dB (iv.l c.X) r.toNat v)).a0=0
 rw[e]
 exact m.x0
theorem xg(m:nC c)(k v:Int):(IJ c k v).w nC:=by
 unfold IJ
 refine ae (λhk=>aw (by rw[eq_of_beq hk];decide) ?_) λ_=>ae (λhk=>aw (by rw[eq_of_beq hk];decide) ?_) λ_=>ae (λhk=>aw (by rw[eq_of_beq hk];decide) ?_) λ_=>ae (λhk=>aw (by rw[eq_of_beq hk];decide) ?_) λ_=>ae (λhk=>aw (by rw[eq_of_beq hk];decide) ?_) λ_=>ae (λhk=>aw (by rw[eq_of_beq hk];decide) ?_) λ_=>ae (λhk=>aw (by rw[eq_of_beq hk];decide) ?_) λ_=>ae (λhk=>aw (by rw[eq_of_beq hk];decide) ?_) (λ_=>m)
 all_goals(have hk:=eq_of_beq hk;subst hk)
 ·exact⟨m.x0,GL _,m.en,m.rt,m.ve⟩
 ·exact⟨m.x0,m.st,GL _,m.rt,m.ve⟩
 ·exact⟨m.x0,m.st,m.en,EL _,m.ve⟩
 ·exact⟨m.x0,m.st,m.en,m.rt,Oe _⟩
 ·exact⟨m.x0,m.st,m.en,m.rt,m.ve⟩
 ·exact⟨m.x0,m.st,m.en,m.rt,m.ve⟩
 ·exact⟨m.x0,m.st,m.en,m.rt,m.ve⟩
 ·exact⟨m.x0,m.st,m.en,m.rt,m.ve⟩
section
variable {c:bq} (h:iX c) (m:nC c) {i:ik} (hi:Qh i)
include h m hi
theorem Zoq:(EN c i).w (λr=>nC r.1):=by
 unfold EN
 refine aw (rc hi.a) (aw (rc hi.b) ?_)
 repeat'(first
  |refine ae (λ_=>?_) (λ_=>?_)
  |exact cj (Li m hi.a _) λx hx=>hx.pc _
  |exact aq λx _=>ae (λ_=>m.pc _) (λ_=>m.pc _)
  |exact aq λx hx=>by rw[hx];exact II h m _ _
  |exact aq λx hx=>by rw[hx];exact Zsp h m
  |exact aw (by have:=hi.jy (by simp_all);simp[bN];omega) (cj (Li m hi.a _) λx hx=>hx.pc _)
  |exact cj (xg m _ _) λx hx=>hx.pc _
  |refine aw (rc hi.c) ?_
  |exact cj (Lj _ (h.r _) (ga _)) λy hy=>cj (Li m hi.a _) λx hx=>hx.pc _
  |exact cj (Lj _ (h.r _) (h.r _)) λy hy=>cj (Li m hi.a _) λx hx=>hx.pc _
  |refine bh ?_)
 all_goals exact m.pc _
theorem yI(hm:fg P mem):(IK c mem i).w (λr=>nC r.1):=by
 have w:=Tj i.Op
 unfold IK
 refine aw (rc hi.b) (aq λx0 h0=>?_)
 rw[<-h0]at w
 refine cj (Of hm (ga _) w 2) λx1 h1=>ae (λ_=>aq λy hy=>by rw[hy];exact II h m _ _) (λ_=>aq λx3 h3=>?_)
 rw[h0,<-h3]at w
 exact cj (Qv h1.2 h1.1 w) λx4 h4=>ae (λ_=>cj (Xf h4.1 8) λy hy=>cj (Li m hi.a _) λx hx=>hx.pc _) (λ_=>cj (Li m hi.a _) λx hx=>hx.pc _)
theorem zg(hm:fg P mem):(IL c mem i).w (λr=>nC r.1):=by
 have w:=Tj i.Op
 unfold IL
 refine aw (rc hi.b) (aq λx0 h0=>?_)
 rw[<-h0]at w
 refine cj (Of hm (ga _) w 3) λx1 h1=>ae (λ_=>aq λy hy=>by rw[hy];exact II h m _ _) (λ_=>aq λx3 h3=>aw (rc hi.a) ?_)
 rw[h0,<-h3]at w
 exact cj (Tk h1.2 h1.1 w (h.r _)) λx hx=>m.pc _
end
theorem vI(h:iX c)(m:nC c)(hm:fg P mem):(EO c mem).w (λr=>nC r.1):=by
 unfold EO
 refine cj (Xg hm h) λx0 h0=>ae (λ_=>aq λy hy=>by rw[hy];exact II h m _ _) (λ_=>cj (Xh _) λx2 h2=>ae (λ_=>aq λy hy=>by rw[hy];exact II h m _ _) (λhb=>?_))
 have hi:=h2 (by simpa using hb)
 refine aq λx4 _=>?_
 repeat'(first
  |refine ae (λ_=>?_) (λ_=>?_)
  |exact cj (yI h m hi h0.2) λx hx=>hx
  |exact cj (zg h m hi h0.2) λx hx=>hx
  |exact cj (Zoq h m hi) λx hx=>hx
  |exact aq λy hy=>by rw[hy];exact II h m _ _
  |refine aq λ_ _=>?_)
theorem Zn7(h:iX c){i:ik}(hi:Qh i):(EN c i).w (λr=>0<=r.2.F9/\r.2.F9<16):=by
 have z:(0:Int)<=0/\(0:Int)<16:=⟨by decide,by decide⟩
 unfold EN
 refine aw (rc hi.a) (aw (rc hi.b) ?_)
 repeat'(first
  |refine ae (λ_=>?_) (λ_=>?_)
  |exact cj (DR h hi.a (ga _)) λx hx=>z
  |exact aq λx _=>ae (λ_=>z) (λ_=>z)
  |exact aq λx hx=>z
  |exact aw (by have:=hi.jy (by simp_all);simp[bN];omega) (cj (DR h hi.a (h.a _)) λx hx=>z)
  |exact cj (Zpp h _ (h.r _)) λx hx=>z
  |refine aw (rc hi.c) ?_
  |exact cj (Lj _ (h.r _) (ga _)) λy hy=>cj (DR h hi.a hy) λx hx=>z
  |exact cj (Lj _ (h.r _) (h.r _)) λy hy=>cj (DR h hi.a hy) λx hx=>z
  |refine bh ?_)
 all_goals first|exact z|exact hi.a
theorem Zpf(h:iX c)(hm:fg P mem):(EO c mem).w (λr=>0<=r.2.2.F9/\r.2.2.F9<16):=by
 have z:(0:Int)<=0/\(0:Int)<16:=⟨by decide,by decide⟩
 unfold EO
 refine cj (Xg hm h) λx0 h0=>ae (λ_=>aq λy hy=>z) (λ_=>cj (Xh _) λx2 h2=>ae (λ_=>aq λy hy=>z) (λhb=>?_))
 have hi:=h2 (by simpa using hb)
 refine aq λx4 _=>?_
 repeat'(first
  |refine ae (λ_=>?_) (λ_=>?_)
  |exact cj (Z8d h hi h0.2) λx hx=>z
  |exact cj (Z1u h hi h0.2) λx hx=>z
  |exact cj (Zn7 h hi) λx hx=>hx
  |exact aq λy hy=>z
  |refine aq λ_ _=>?_)
theorem nb{a x:Bool}:(bif a then false else x)=true↔a=false/\x=true:=by cases a<;>simp
theorem Lk(m:bd):Bc m=true↔jW m.Mem≠0/\nC m.B2/\m.B7<=1152921504606846976/\¬(m.B4=true/\m.B6=true)/\wA m=true:=by
 rw[xaA]
 unfold N2 chain
 rw[nb,nb,nb,nb,nb,nb,nb]
 simp only[decide_eq_false_iff_not,Int.not_lt,beq_eq_false_iff_ne,bne_eq_false_iff_eq,gt_iff_lt]
 constructor
 ·rintro⟨a1,a2,a3,a4,a5,a6,a7,a8⟩
  refine⟨a1,⟨a2,a3,a4,a5,a6⟩,a7,?_,?_⟩
  ·rintro⟨w,h⟩;rw[w,h]at a8;cases a8
  ·revert a8;cases m.B4
   ·exactλh=>h
   ·cases m.B6
    ·exactλh=>h
    ·intro h;cases h
 ·rintro⟨a1,⟨a2,a3,a4,a5,a6⟩,a7,a8,a9⟩
  refine⟨a1,a2,a3,a4,a5,a6,a7,?_⟩
  rw[a9]
  cases hw:m.B4
  ·rfl
  ·cases hh:m.B6
   ·rfl
   ·exact absurd ⟨hw,hh⟩ a8
theorem Zqa{m:bd}(h:EP m=true):Bc m=true/\m.B6=false/\m.B7<1152921504606846976:=by
 simp only[EP,IM,Tree.m,e9]at h
 cases h1:Bc m
 ·rw[h1]at h;cases h
 ·cases h2:m.B6
  ·rw[h1,h2]at h
   cases h3:Tl m
   ·rw[h3]at h
    have h:decide (m.B7<1152921504606846976)=true:=h
    exact⟨rfl,rfl,oY h⟩
   ·rw[h3]at h;cases h
  ·rw[h1,h2]at h;cases h
theorem Zjb{m:bd}(h:Av P m)(g:nC m.B2):(Ll m).w (λr=>nC r.B2/\Av P r/\r.Mem=m.Mem/\r.B4=false/\r.B6=m.B6/\r.B7=m.B7/\r.B3=m.B3/\r.B8=m.B8/\r.B5=m.B5/\r.D1=m.D1/\r.A7=m.A7):=by
 obtain⟨h1,h2,h3,h4,h5,h6⟩:=h
 unfold Ll
 refine ae (λ_=>⟨g,⟨h1,h2,h3,h4,h5,h6⟩,rfl,rfl,rfl,rfl,rfl,rfl,rfl,rfl,rfl⟩) (λ_=>cj (Zbc (m:=⟨_,_,_,_,_,_,m.A7,_,_,_⟩) h6) λx0 _=>fv (inv:=λz=>0<=z/\z<=5) (μ:=Qjb m) ⟨by omega,by omega⟩ (cN _) (λz hz=>?_))
 obtain⟨z1,z2⟩:=hz
 refine ae (λhb=>aw (dY z1) (ae (λ_=>aq λx1 hx=>⟨by rw[hx];exact II h1 g _ _,⟨by rw[hx];exact IN h1 _ gu,h2,h3,h4,h5,h6⟩,rfl,rfl,rfl,rfl,rfl,rfl,rfl,rfl,rfl⟩) (λ_=>ff ?_))) (λ_=>⟨g,⟨h1,h2,h3,h4,h5,h6⟩,rfl,rfl,rfl,rfl,rfl,rfl,rfl,rfl,rfl⟩)
 have hb:=oY hb
 show(0<=i64.wrap (z+1)/\i64.wrap (z+1)<=5)/\(5-i64.wrap (z+1)).toNat<(5-z).toNat
 have ew:i64.wrap (z+1)=z+1:=by rw[wrap_i64];omega
 rw[ew];omega
structure Good(P:Nat)(m r:bd):Prop where
 ok:Av P r
 tL:0<=r.B7
 may:Bc m=true->Bc r=true
 or:r=m\/r.B7=m.B7+1
theorem Xi{m:bd}(h:Av P m)(Gy:0<=m.B7)(hk:U clock):(Qc m clock).w (λr=>r.2.length<=1/\Good P m r.1):=by
 have ju:kK m.Mem=m.Mem:=rfl
 unfold Qc
 refine df (GH h.mem) (aq λl hl=>?_)
 rw[ju]at hl;subst hl
 refine df (Tree.pp (zaw (m:=⟨_,_,_,_,_,_,m.A7,_,_,_⟩) h.given)).1 (aq λx1 pA=>ae (λ_=>⟨bC _,h,Gy,λh=>h,.inl rfl⟩) (λhb=>?_))
 have hr:EP m=true:=by rw[<-show x1=EP m from pA];simpa using hb
 obtain⟨hm,hh,hct⟩:=Zqa hr
 obtain⟨g1,g2,g3,g4,g5⟩:=(Lk m).1 hm
 have hP:(P:Int)≠0:=by rw[<-uy h.mem];exact g1
 have fin:∀(n:bd),Av P n->nC n.B2->wA n=true->n.B7=m.B7->¬(n.B4=true/\n.B6=true)->Good P m {B2:=n.B2,Mem:=n.Mem,B3:=n.B3,B8:=n.B8,B5:=n.B5,D1:=n.D1,A7:=n.A7,B7:=wrap .u64 (n.B7+1),B4:=n.B4,B6:=n.B6}:=λn a b c d e=>by
  have ec:wrap .u64 (n.B7+1)=m.B7+1:=by rw[d,wrap_u64];omega
  refine⟨⟨a.oB,a.mem,a.mw,a.wE,a.target,a.given⟩,?_,λ_=>(Lk _).2 ⟨?_,b,?_,e,c⟩,.inr ec⟩
  ·show 0<=wrap .u64 (n.B7+1);omega
  ·show jW n.Mem≠0;rw[uy a.mem];exact hP
  ·show wrap .u64 (n.B7+1)<=_;omega
 refine cj (Zjb (m:=⟨_,_,m.B3,m.B8,m.B5,m.D1,m.A7,m.B7,m.B4,m.B6⟩) ⟨h.oB,h.mem,h.mw,h.wE,h.target,h.given⟩ g2) λx2 IP=>?_
 obtain⟨b1,b2,b3,b4,b5,b6,b7,b8,b9,b10,b11⟩:=IP
 have ex:=Tree.pp (xav b2.oB b2.mem)
 have em:=Tree.pp (vI b2.oB b1 b2.mem)
 have er:=Tree.pp (Zpf b2.oB b2.mem)
 refine df ex.1 (aq λx3 h3=>?_)
 obtain⟨e1,e2,e3⟩:iX x3.1/\fg P x3.2.1/\U x3.2.2.Value:=by rw[h3];exact ex.2
 have f1:nC x3.1:=by rw[h3];exact em.2
 have r1:0<=x3.2.2.F9/\x3.2.2.F9<16:=by rw[h3];exact er.2
 have Xj:Av P ⟨x3.1,x3.2.1,x2.B3,x2.B8,x2.B5,x2.D1,x2.A7,x2.B7,x2.B4,x2.B6⟩:=⟨e1,e2,b2.mw,b2.wE,b2.target,b2.given⟩
 have dev:∀(w h:Bool),wA ⟨x3.1,x3.2.1,x2.B3,x2.B8,x2.B5,x2.D1,x2.A7,x2.B7,w,h⟩=true:=λw hh=>by
  have id:∀{p:Prop},p->p:=λh=>h
  refine IG (m:=m) (P:=P) h.mem e2 ?_ ?_ ?_ ?_ ?_ g5
  ·show _->Ba x2.B3=true;rw[b7];exact id
  ·show _->Q8 x2.B8=true;rw[b8];exact id
  ·show _->rB x2.B5 P=true;rw[b9];exact id
  ·show _->wC x2.D1 P=true;rw[b10];exact id
  ·show _->Bb x2.A7 P=true;rw[b11];exact id
 have hw:x2.B4=false:=b4
 have hh2:x2.B6=false:=b5.trans hh
 have Ch:x2.B7=m.B7:=b6
 refine ae (λ_=>?_) λ_=>ae (λ_=>?_) λ_=>ae (λ_=>?_) λ_=>ae (λ_=>?_) λ_=>?_
 ·refine cj (Zs7 Xj _ hk) λx4 h4=>?_
  obtain⟨k,u⟩:=h4
  have kc:x4.1.B2=x3.1:=k.oB
  have kt:x4.1.B7=m.B7:=k.tL.trans Ch
  have kw:¬(x4.1.B4=true/\x4.1.B6=true):=λe=>by have:x4.1.B4=x2.B4:=k.wait;rw[this,hw]at e;cases e.1
  have km:nC x4.1.B2:=by rw[kc];exact f1
  refine ae (λhn=>aw (rc r1) ⟨bC _,?_⟩) (λ_=>⟨bC _,fin x4.1 k.ok km (k.dev (dev _ _)) kt kw⟩)
  have hn:x3.2.2.F9≠0:=by simpa using hn
  obtain⟨q,e⟩:∃q:Nat,x3.2.2.F9.toNat=q+1:=⟨x3.2.2.F9.toNat-1,by omega⟩
  refine fin ⟨⟨iv.of 0 (dB (iv.l x4.1.B2.X) x3.2.2.F9.toNat x4.2),x4.1.B2.Pc,x4.1.B2.C3⟩,x4.1.Mem,x4.1.B3,x4.1.B8,x4.1.B5,x4.1.D1,x4.1.A7,x4.1.B7,x4.1.B4,x4.1.B6⟩ ⟨⟨Xk k.ok.oB.x u _,k.ok.oB.pc,k.ok.oB.jy⟩,k.ok.mem,k.ok.mw,k.ok.wE,k.ok.target,k.ok.given⟩ ⟨?_,km.st,km.en,km.rt,km.ve⟩ (k.dev (dev _ _)) kt kw
  show(iv.of 0 (dB (iv.l x4.1.B2.X) x3.2.2.F9.toNat x4.2)).a0=0
  rw[e]
  exact km.x0
 ·refine cj (Zou Xj _ e3 _) λx5 h5=>?_
  obtain⟨k,u⟩:=h5
  have kc:x5.1.B2=x3.1:=k.oB
  exact⟨u,fin x5.1 k.ok (by rw[kc];exact f1) (k.dev (dev _ _)) (k.tL.trans Ch) (λe=>by have:x5.1.B4=x2.B4:=k.wait;rw[this,hw]at e;cases e.1)⟩
 ·exact⟨bC _,fin ⟨x3.1,x3.2.1,x2.B3,x2.B8,x2.B5,x2.D1,x2.A7,x2.B7,true,x2.B6⟩ ⟨e1,e2,b2.mw,b2.wE,b2.target,b2.given⟩ f1 (dev _ _) Ch (λe=>by have e2:x2.B6=true:=e.2;rw[hh2]at e2;cases e2)⟩
 ·exact⟨bC _,fin ⟨x3.1,x3.2.1,x2.B3,x2.B8,x2.B5,x2.D1,x2.A7,x2.B7,x2.B4,true⟩ ⟨e1,e2,b2.mw,b2.wE,b2.target,b2.given⟩ f1 (dev _ _) Ch (λe=>by have e2:x2.B4=true:=e.1;rw[hw]at e2;cases e2)⟩
 ·exact⟨bC _,fin ⟨x3.1,x3.2.1,x2.B3,x2.B8,x2.B5,x2.D1,x2.A7,x2.B7,x2.B4,x2.B6⟩ Xj f1 (dev _ _) Ch (λe=>by have e2:x2.B4=true:=e.1;rw[hw]at e2;cases e2)⟩
theorem Tm(h:U a):(dR 32 a).toNat=a.toNat:=by
 obtain⟨h1,h2⟩:=h
 rw[dS];omega
theorem Xl{a b:Int}(ha:U a)(hb:U b):ba .u32 a b=((a.toNat&&&b.toNat:Nat):Int):=by
 have l:=(dR 32 a&&&dR 32 b).isLt
 have e:(dR 32 a&&&dR 32 b).toNat=a.toNat&&&b.toNat:=by rw[dU,Tm ha,Tm hb]
 show wrap .u32 ((dR 32 a&&&dR 32 b).toNat:Int)=_
 rw[wrap_u32,<-e];omega
theorem zaC{a b:Int}(ha:U a)(hb:U b):iU .u32 a b=((a.toNat|||b.toNat:Nat):Int):=by
 have l:=(dR 32 a|||dR 32 b).isLt
 have e:(dR 32 a|||dR 32 b).toNat=a.toNat|||b.toNat:=by rw[dT,Tm ha,Tm hb]
 show wrap .u32 ((dR 32 a|||dR 32 b).toNat:Int)=_
 rw[wrap_u32,<-e];omega
theorem Xm(ha:U a)(k:Nat)(hk:k<=32)(hq:q=((2^k-1:Nat):Int)):ba .u32 a q=a%2^k:=by
 have hp:2^k<=2^32:=dO (by decide) hk
 have h1:(2:Nat)^32=4294967296:=by decide
 have uB:=Nat.two_pow_pos k
 subst hq
 rw[Xl ha ⟨by omega,by omega⟩,dX,Nat.and_two_pow_sub_one_eq_mod]
 have:=ha.1
 rw[Int.natCast_emod,eA this]
 simp
theorem m15(ha:U a):ba .u32 a 15=a%16:=Xm ha 4 (by decide) rfl
theorem Ci(ha:U a):ba .u32 a 255=a%256:=Xm ha 8 (by decide) rfl
theorem IQ(ha:U a):ba .u32 a 65535=a%65536:=Xm ha 16 (by decide) rfl
theorem ER(p:Int->Bool)(N:Nat)(h:(cW N).all (λn=>p n)=true){s:Int}(h0:0<=s)(h1:s<N):p s=true:=by
 have:=List.all_eq_true.1 h s.toNat (List.mem_range.2 (by omega))
 rwa [eA h0]at this
theorem Il(h0: -9223372036854775808<=x)(h1:x<9223372036854775808):wrap .i64 x=x:=by rw[wrap_i64];omega
theorem Og(a:Int):bb .u32 a 0=a:=by have:=DO (a:=a) 0 (by decide);simpa using this
theorem fld(w:Int):tM w 24 8=ba .u32 (bb .u32 w 24) 255/\tM w 20 4=ba .u32 (bb .u32 w 20) 15/\tM w 16 4=ba .u32 (bb .u32 w 16) 15/\tM w 0 16=ba .u32 (bb .u32 w 0) 65535/\tM w 8 8=ba .u32 (bb .u32 w 8) 255:=
 ⟨by kernel_rfl,by kernel_rfl,by kernel_rfl,by kernel_rfl,by kernel_rfl⟩
def Cj(f:Int):Ag×Bool:=
 bif f==1 then(⟨false,false,false,0,0⟩,true)else bif f==2 then(⟨true,true,true,0,0⟩,true)else bif f==3 then(⟨true,true,false,-32768,32767⟩,true)
 else bif f==4 then(⟨true,true,false,0,65535⟩,true)else bif f==5 then(⟨true,true,false,0,31⟩,true)else bif f==6 then(⟨true,false,false,0,65535⟩,true)
 else bif f==7 then(⟨true,false,false,-32768,32767⟩,true)else bif f==8 then(⟨true,false,false,0,7⟩,true)else bif f==9 then(⟨true,false,false,0,11⟩,true)else(⟨false,false,false,0,0⟩,false)
def Cl(x y:Ag×Bool):Bool:=x.1.a==y.1.a&&x.1.b==y.1.b&&x.1.c==y.1.c&&x.1.low==y.1.low&&x.1.F5==y.1.F5&&x.2==y.2
theorem qJ{x y:Ag×Bool}(h:Cl x y=true):x=y:=by
 obtain⟨⟨a,b,c,d,e⟩,f⟩:=x
 obtain⟨⟨a',b',c',d',e'⟩,f'⟩:=y
 simp only[Cl,aE,beq_iff_eq]at h
 obtain⟨⟨⟨⟨⟨rfl,rfl⟩,rfl⟩,rfl⟩,rfl⟩,rfl⟩:=h
 rfl
theorem yZ(h0:0<=op)(h1:op<256):Tn op=Cj (o5 op):=by
 exact qJ (ER (λop=>Cl (Tn op) (Cj (o5 op))) 256 (by kernel_rfl) h0 h1)
theorem yg(h0:0<=op)(h1:op<256):o5 op=0\/o5 op=1\/o5 op=2\/o5 op=3\/o5 op=4\/o5 op=5\/o5 op=6\/o5 op=7\/o5 op=8\/o5 op=9:=by
 have:=oY (ER (λop=>decide (0<=o5 op/\o5 op<=9)) 256 (by kernel_rfl) h0 h1)
 omega
theorem xah(h0:0<=op)(h1:op<256):Oh op=Lm op:=by
 exact eq_of_beq (ER (λop=>Oh op==Lm op) 256 (by kernel_rfl) h0 h1)
theorem xJ{a x y:Bool}:(cond a x y=true)↔((a=true/\x=true)\/(a=false/\y=true)):=by cases a<;>simp
theorem Xn{i:ik}(h0:0<=i.Op)(h1:i.Op<256)(hi:wrap .i64 i.bz=i.bz):IS i=Q9 i:=by
 rw[eB]
 simp only[IS,Oi,Tree.m,e9,Q9,Oj,yZ h0 h1,hi]
 rcases yg h0 h1 with h|h|h|h|h|h|h|h|h|h<;>rw[h]<;>
 simp[Cj,Ln,To,Lo,Tp,Xo,Xp,Tree.m,e9,xJ]<;>omega
theorem Xq(h0:0<=x)(h1:x<65536):wrap .i32 (DS x 16)=wrap .i32 (wrap .i16 x):=by
 have e:DS x 16=wrap .u32 (bb .i32 (wrap .i32 (fh .u32 x 16)) 16):=by kernel_rfl
 have e2:∀y,bb .i32 y 16=y/65536:=λy=>by
  show eC y 65536=_
  rw[dJ _ (by decide)]
 have e3:fh .u32 x 16=wrap .u32 (x*65536):=rfl
 have e4:wrap .i16 x=(x+32768)%65536-32768:=by
  simp[wrap,IntKind.bits,IntKind.signed]
  split<;>omega
 rw[e,e2,e3,e4]
 simp only[wrap_i32,wrap_u32]
 omega
theorem sx8(h0:0<=x)(h1:x<256):DS x 8=GN x 8:=by
 exact eq_of_beq (ER (λx=>DS x 8==GN x 8) 256 (by kernel_rfl) h0 h1)
theorem vg(hw:U w):Qj w=Be w:=by
 obtain⟨f1,f2,f3,f4,_⟩:=fld w
 obtain⟨w0,w1⟩:=hw
 have uA:bb .u32 w 24=w/16777216:=by have:=DO (a:=w) 24 (by decide);simpa using this
 have s20:U (bb .u32 w 20):=Ax ⟨w0,w1⟩ _
 have Bd:U (bb .u32 w 16):=Ax ⟨w0,w1⟩ _
 rw[Ci (Ax ⟨w0,w1⟩ _),uA]at f1
 rw[m15 s20]at f2
 rw[m15 Bd]at f3
 rw[Og]at f4
 have g1:w/16777216%256=w/16777216:=by omega
 rw[g1]at f1
 have o0:0<=w/16777216:=by omega
 have o1:w/16777216<256:=by omega
 have eo:wrap .i64 (w/16777216)=w/16777216:=Il (by omega) (by omega)
 have i32:∀x,wrap .i64 (wrap .i32 x)=wrap .i32 x:=λx=>by rw[wrap_i64,wrap_i32];omega
 have l0:=IQ ⟨w0,w1⟩
 have lx:=Xq (x:=ba .u32 w 65535) (by omega) (by omega)
 simp only[Qj,Lp,Be,Lq,Tree.m,e9,f1,f2,f3,f4,uA,eo,yZ o0 o1,m15 s20,m15 Bd,lx]
 generalize w/16777216=op at*
 generalize wrap .i64 (bb .u32 w 20%16)=a
 generalize wrap .i64 (bb .u32 w 16%16)=b
 generalize ba .u32 w 65535=l
 rw[Xn (i:=⟨op,a,b,wrap .i64 l,0⟩) o0 o1 rfl,Xn (i:=⟨op,a,b,0,wrap .i32 (wrap .i16 l)⟩) o0 o1 (i32 _),Xn (i:=⟨op,a,b,0,wrap .i32 l⟩) o0 o1 (i32 _)]
 rcases yg o0 o1 with h|h|h|h|h|h|h|h|h|h<;>rw[h]<;>rfl
def ES(W v:Int)(s:Nat):Int:=iU .u32 (o4 .u32 W (fh .u32 255 s)) (fh .u32 (ba .u32 v 255) s)
def wF(w:Int)(k:Nat):Int:=if k=0 then w%256 else if k=1 then w/256%256 else if k=2 then w/65536%256 else w/16777216%256
def lJ(m:List Int)(a:Nat):Int:=wF (m.getD (a/4) 0) (a%4)
theorem qh(w:Int)(k:Nat):0<=wF w k/\wF w k<256:=by
 unfold wF
 split
 ·omega
 ·split
  ·omega
  ·split<;>omega
theorem qai(hw:U w)(hv:U v)(h:∀k,k<4->wF w k=wF v k):w=v:=by
 have h0:=h 0 (by omega)
 have h1:=h 1 (by omega)
 have h2:=h 2 (by omega)
 have h3:=h 3 (by omega)
 simp[wF]at h0 h1 h2 h3
 obtain⟨a,b⟩:=hw
 obtain⟨c,d⟩:=hv
 omega
theorem xh{m n:List Int}(hl:m.length=n.length)(hm:∀w∈m,U w)(hn:∀w∈n,U w)(h:∀a,lJ m a=lJ n a):m=n:=by
 refine bR hl λi h1 h2=>?_
 have e1:m[i]=m.getD i 0:=by simp[aV,h1]
 have e2:n[i]=n.getD i 0:=by simp[aV,h2]
 rw[e1,e2]
 refine qai (Bf hm i) (Bf hn i) λk hk=>?_
 have:=h (4*i+k)
 simp only[lJ]at this
 rwa [show(4*i+k)/4=i by omega,show(4*i+k)%4=k by omega]at this
theorem Qx6{l:List Int}{i:Nat}(h:i<l.length)(v:Int):(l.set i v).getD i 0=v:=by
 simp[aV,h]
theorem zh{m:List Int}{i:Nat}(hi:i<m.length)(v:Int)(a:Nat):lJ (m.set i v) a=if a/4=i then wF v (a%4)else lJ m a:=by
 unfold lJ
 split
 ·rename_i h;rw[h,Qx6 hi]
 ·rename_i h;rw[wz _ _ _ _ (λe=>h e.symm)]
theorem yh{x y:Int}(hx:U x)(hy:U y)(k:Nat)(hk:x<2^k)(h:x+y*2^k<4294967296):iU .u32 x (y*2^k)=x+y*2^k:=by
 obtain⟨n,rfl⟩:∃n:Nat,x=n:=⟨x.toNat,by have:=hx.1;omega⟩
 obtain⟨z,rfl⟩:∃n:Nat,y=n:=⟨y.toNat,by have:=hy.1;omega⟩
 have e:((z:Int)*2^k)=((z*2^k:Nat):Int):=by simp
 rw[e]at h⊢
 have hn:n<2^k:=by exact_mod_cast hk
 rw[zaC hx ⟨by omega,by omega⟩,dX,dX,Nat.or_comm,Nat.mul_comm,<-Nat.two_pow_add_eq_or_of_lt hn]
 omega
theorem four{a b c d:Int}(ha:0<=a/\a<256)(hb:0<=b/\b<256)(hc:0<=c/\c<256)(hd:0<=d/\d<256):iU .u32 (iU .u32 (iU .u32 (wrap .u32 a) (fh .u32 (wrap .u32 b) 8)) (fh .u32 (wrap .u32 c) 16)) (fh .u32 (wrap .u32 d) 24)=a+b*2^8+c*2^16+d*2^24:=by
 have w:∀{x:Int},0<=x/\x<256->wrap .u32 x=x:=λhx=>by rw[wrap_u32];omega
 have s8:∀{x:Int},0<=x/\x<256->fh .u32 x 8=x*2^8:=fun{x} hx=>by show wrap .u32 (x*2^8)=_;rw[wrap_u32];omega
 have Bd:∀{x:Int},0<=x/\x<256->fh .u32 x 16=x*2^16:=fun{x} hx=>by show wrap .u32 (x*2^16)=_;rw[wrap_u32];omega
 have uA:∀{x:Int},0<=x/\x<256->fh .u32 x 24=x*2^24:=fun{x} hx=>by show wrap .u32 (x*2^24)=_;rw[wrap_u32];omega
 rw[w ha,w hb,w hc,w hd,s8 hb,Bd hc,uA hd]
 rw[yh ⟨by omega,by omega⟩ ⟨by omega,by omega⟩ 8 (by omega) (by omega),yh ⟨by omega,by omega⟩ ⟨by omega,by omega⟩ 16 (by omega) (by omega),yh ⟨by omega,by omega⟩ ⟨by omega,by omega⟩ 24 (by omega) (by omega)]
theorem zJ{a b c d:Int}(ha:0<=a/\a<256)(hb:0<=b/\b<256)(hc:0<=c/\c<256)(hd:0<=d/\d<256)(k:Nat)(hk:k<4):wF (a+b*2^8+c*2^16+d*2^24) k=if k=0 then a else if k=1 then b else if k=2 then c else d:=by
 have hk:k=0\/k=1\/k=2\/k=3:=by omega
 rcases hk with rfl|rfl|rfl|rfl<;>simp[wF]<;>omega
theorem Xr{m:List Int}(h:fg P m)(f:Int):EH m f=decide (0<=f/\f<P):=by
 have hp:=uy h
 simp only[EH,K4,Tree.m,e9,hp]
 by_cases h1:0<=f
 ·rw[dY h1];simp[h1]
 ·rw[dN h1];simp[h1]
theorem yJ(s:List UInt8)(a b k:Nat)(h:k<b):(cU b (cV a s)).getD k 0=s.getD (a+k) 0:=by
 simp[cX,aF,h]
theorem GO(x:UInt8):0<=(x.toNat:Int)/\(x.toNat:Int)<256:=by have:=x.toNat_lt;omega
theorem Xs{m:List Int}(h:fg P m)(f0:0<=f)(f1:f<P)(hs:s.length=128):(ID m f s).w (λr=>r.2=true/\fg P r.1/\∀b:Nat,lJ r.1 b=if f*128<=b/\(b:Int)<f*128+128 then((s.getD (b-f*128).toNat 0).toNat:Int)else lJ m b):=by
 have ju:kK m=m:=rfl
 have h2:=h.p2
 unfold ID
 refine df (GH h) (aq λx0 ob=>aq λx1 pA=>?_)
 rw[ju]at ob;subst ob
 rw[Xr h,dY ⟨f0,f1⟩]at pA
 subst pA
 refine ae (λhb=>by cases hb) λ_=>ae (λhb=>by simp[hs]at hb) λ_=>?_
 refine fv (inv:=λz:Int×List Int=>0<=z.1/\z.1<=32/\fg P z.2/\∀b:Nat,lJ z.2 b=if f*128<=b/\(b:Int)<f*128+4*z.1 then((s.getD (b-f*128).toNat 0).toNat:Int)else lJ x0 b) (μ:=Xa x0 f s) ⟨show(0:Int)<=0 by decide,show(0:Int)<=32 by decide,h,λb=>by rw[if_neg];show¬(_/\_<_+4*(0:Int));omega⟩ (cN _) λz ⟨z1,z2,z3,z4⟩=>?_
 refine ae (λhb=>?_) (λhb=>⟨rfl,z3,λb=>?_⟩)
 ·have hb:=oY hb
  have e1:i64.wrap (4*z.1)=4*z.1:=by rw[wrap_i64];omega
  have e2:i64.wrap (i64.wrap (4*z.1)+4)=4*z.1+4:=by rw[wrap_i64,wrap_i64];omega
  have e3:i64.wrap (i64.wrap (f*32)+z.1)=f*32+z.1:=by rw[wrap_i64,wrap_i64];omega
  have hl:=z3.len
  have cut:dA (i64.wrap (i64.wrap (4*z.1)+4))-dA (i64.wrap (4*z.1))=4:=by rw[e2,e1];omega
  have hlen:(cU (dA (i64.wrap (i64.wrap (4*z.1)+4))-dA (i64.wrap (4*z.1))) (cV (dA (i64.wrap (4*z.1))) s)).length=4:=by
   rw[cut,e1,aD,aG];omega
  refine aw (dY (by rw[e2,e1];omega)) ?_
  refine aw (dY (by rw[hlen];decide)) (aw (dY (by rw[hlen];decide)) (aw (dY (by rw[hlen];decide)) (aw (dY (by rw[hlen];decide)) (aw (by rw[e3];simp[bN];omega) (ff ?_)))))
  have ew:i64.wrap (z.1+1)=z.1+1:=by rw[wrap_i64];omega
  rw[cut]
  refine⟨⟨by show 0<=i64.wrap (z.1+1);rw[ew];omega,by show i64.wrap (z.1+1)<=32;rw[ew];omega,?_,?_⟩,by show(32-i64.wrap (z.1+1)).toNat<(32-z.1).toNat;rw[ew];omega⟩
  ·show fg P (dB _ _ _)
   exact⟨by rw[dC];exact hl,z3.p1,z3.p2,EI z3.u (nS _ _) _⟩
  ·intro b
   show lJ (dB z.2 (dA (i64.wrap (i64.wrap (f*32)+z.1))) _) b=if f*128<=(b:Int)/\(b:Int)<f*128+4*i64.wrap (z.1+1)then _ else _
   rw[e3,ew,four (GO _) (GO _) (GO _) (GO _),zh (by omega)]
   have g:∀k:Nat,k<4->(cU 4 (cV (dA (i64.wrap (4*z.1))) s)).getD k 0=s.getD ((4*z.1).toNat+k) 0:=λk hk=>by rw[e1];exact yJ _ _ _ _ hk
   by_cases hc:b/4=(f*32+z.1).toNat
   ·have Tq:f*128<=(b:Int)/\(b:Int)<f*128+4*(z.1+1):=by omega
    rw[if_pos hc,zJ (GO _) (GO _) (GO _) (GO _) _ (by omega),if_pos Tq]
    have hb4:b%4=0\/b%4=1\/b%4=2\/b%4=3:=by omega
    have gi:(b-f*128).toNat=(4*z.1).toNat+b%4:=by omega
    rw[gi]
    rcases hb4 with h4|h4|h4|h4<;>rw[h4]
    ·rw[if_pos rfl,<-g 0 (by omega)];rfl
    ·rw[if_neg (by decide),if_pos rfl,<-g 1 (by omega)];rfl
    ·rw[if_neg (by decide),if_neg (by decide),if_pos rfl,<-g 2 (by omega)];rfl
    ·rw[if_neg (by decide),if_neg (by decide),if_neg (by decide),<-g 3 (by omega)];rfl
   ·rw[if_neg hc,z4 b]
    by_cases hd:f*128<=(b:Int)/\(b:Int)<f*128+4*z.1
    ·rw[if_pos hd,if_pos (by omega)]
    ·rw[if_neg hd,if_neg (by omega)]
 ·have hb:=oN hb
  show lJ z.2 b=_
  rw[z4 b,show z.1=32 by omega]
  rfl
theorem Zqs{α:Type}(l l2:List α)(k:Nat)(z:α):(l++l2).getD k z=if k<l.length then l.getD k z else l2.getD (k-l.length) z:=by
 simp only[cX,List.getElem?_append]
 split<;>rfl
theorem u8w:wrap .u8 x=x%256:=wrap_u8 x
theorem GP(W:Int):bb .u32 W 8=W/256/\bb .u32 W 16=W/65536/\bb .u32 W 24=W/16777216:=by
 refine⟨?_,?_,?_⟩
 ·show eC W 256=_;rw[dJ _ (by decide)]
 ·show eC W 65536=_;rw[dJ _ (by decide)]
 ·show eC W 16777216=_;rw[dJ _ (by decide)]
theorem b4d(W:Int)(hk:k<4):[wrap .u8 W,wrap .u8 (bb .u32 W 8),wrap .u8 (bb .u32 W 16),wrap .u8 (bb .u32 W 24)].getD k 0=wF W k:=by
 obtain⟨a,b,c⟩:=GP W
 have hk:k=0\/k=1\/k=2\/k=3:=by omega
 rcases hk with rfl|rfl|rfl|rfl<;>simp[wF,a,b,c,u8w]
theorem Xt(l:List Int)(k:Nat)(h:0<=l.getD k 0/\l.getD k 0<256)(hk:k<l.length):(((bytesOf l).getD k 0).toNat:Int)=l.getD k 0:=by
 have e:(bytesOf l).getD k 0=eD (l.getD k 0).toNat:=by
  simp[bytesOf,cX,hk]
 rw[e,UInt8.toNat_ofNat']
 omega
theorem Znl(l:List UInt8)(k:Nat)(hk:k<l.length):(pB l).getD k 0=((l.getD k 0).toNat:Int):=by
 simp[pB,cX,hk]
theorem xaC(w:List Int)(h:w.length<=32):(EJ w).w (λr=>r.length=4*w.length/\∀k:Nat,k<4*w.length->((r.getD k 0).toNat:Int)=wF (w.getD (k/4) 0) (k%4)):=by
 have e0:i64.wrap (4*(w.length:Int))=4*w.length:=by rw[wrap_i64];omega
 unfold EJ
 refine aw (by rw[e0];simp[bN,D.plain];omega) ?_
 refine fv (inv:=λz:Int×List Int=>0<=z.1/\z.1<=w.length/\(z.2.length:Int)=4*z.1/\∀k:Nat,(k:Int)<4*z.1->z.2.getD k 0=wF (w.getD (k/4) 0) (k%4)) (μ:=N1 w) ⟨by decide,by show(0:Int)<=w.length;omega,rfl,λk hk=>by have hk:(k:Int)<4*0:=hk;omega⟩ (cN _) λz ⟨z1,z2,z3,z4⟩=>?_
 refine ae (λhb=>?_) (λhb=>?_)
 ·have hb:=oY hb
  have ew:i64.wrap (z.1+1)=z.1+1:=by rw[wrap_i64];omega
  refine aw (by simp[bN];omega) (aw (dY (by omega)) (ff ?_))
  show(_/\_/\_/\∀k:Nat,(k:Int)<4*i64.wrap (z.1+1)->(z.2++_).getD k 0=_)/\(_:Nat)<_
  refine⟨⟨by rw[ew];omega,by rw[ew];omega,by rw[ew,lA];simp only[dD,dE];omega,λk hk=>?_⟩,by show(w.length-i64.wrap (z.1+1)).toNat<(w.length-z.1).toNat;rw[ew];omega⟩
  rw[ew]at hk
  rw[Zqs]
  split
  ·exact z4 k (by omega)
  ·rename_i hn
   rw[b4d _ (by omega),show z.1.toNat=k/4 by omega,show k-z.2.length=k%4 by omega]
 ·have hb:=oN hb
  show(bytesOf z.2).length=_/\∀k:Nat,_->(((bytesOf z.2).getD k 0).toNat:Int)=_
  refine⟨by rw[Qk];omega,λk hk=>?_⟩
  have e:=z4 k (by omega)
  have:=qh (w.getD (k/4) 0) (k%4)
  rw[Xt _ _ (by rw[e];exact this) (by omega),e]
def Cm(m:List Int)(f:Int)(r:List UInt8):Prop:=r.length=128/\∀k:Nat,k<128->((r.getD k 0).toNat:Int)=lJ m ((f*128).toNat+k)
theorem vh{m:List Int}{r s:List UInt8}(a:Cm m f r)(b:Cm m f s):r=s:=by
 obtain⟨a1,a2⟩:=a
 obtain⟨b1,b2⟩:=b
 refine bR (by omega) λi h1 h2=>?_
 have e:=(a2 i (by omega)).trans (b2 i (by omega)).symm
 have e1:r[i]=r.getD i 0:=by simp[aV,h1]
 have e2:s[i]=s.getD i 0:=by simp[aV,h2]
 rw[e1,e2]
 exact UInt8.toNat_inj.1 (by omega)
theorem qi{m:List Int}(h:fg P m)(f0:0<=f)(f1:f<P):(DN m f).w (λr=>Cm m f r.1/\r.2=true):=by
 have hl:=h.len
 have h2:=h.p2
 unfold DN
 refine aq λx0 ob=>?_
 rw[Xr h,dY ⟨f0,f1⟩]at ob
 subst ob
 refine ae (λhb=>by cases hb) (λhb=>?_)
 have e1:i64.wrap (f*32)=f*32:=by rw[wrap_i64];omega
 have e2:i64.wrap (i64.wrap (f*32)+32)=f*32+32:=by rw[wrap_i64,wrap_i64];omega
 have cut:dA (i64.wrap (i64.wrap (f*32)+32))-dA (i64.wrap (f*32))=32:=by rw[e2,e1];omega
 have hlen:(cU 32 (cV (dA (i64.wrap (f*32))) m)).length=32:=by
  rw[e1,aD,aG];omega
 refine aw (by rw[e2,e1];simp[bN];omega) ?_
 rw[cut]
 refine df (by show dF _<=1000000000000;rw[hlen];decide) (aq λx1 h1=>?_)
 have t:=(Tree.pp (xaC _ (dG hlen))).2
 rw[hlen,show(EJ (cU 32 (cV (dA (i64.wrap (f*32))) m))).m=x1 from h1.symm]at t
 refine⟨⟨t.1,λk hk=>?_⟩,rfl⟩
 show((x1.getD k 0).toNat:Int)=_
 rw[t.2 k hk,lJ,e1]
 have g:(cU 32 (cV (dA (f*32)) m)).getD (k/4) 0=m.getD ((f*32).toNat+k/4) 0:=by
  simp[cX,aF,show k/4<32 by omega]
 rw[g,show((f*128).toNat+k)/4=(f*32).toNat+k/4 by omega,show((f*128).toNat+k)%4=k%4 by omega]
theorem qaD(x:Int):Xu x 4=bytesOf [wrap .u8 (bb .u32 x 0),wrap .u8 (bb .u32 x 8),wrap .u8 (bb .u32 x 16),wrap .u8 (bb .u32 x 24)]:=by kernel_rfl
theorem zai{m:List Int}(hm:fg P m){frame:Int}(f0:0<=frame)(f1:frame<P):(GQ m frame).w (λr=>Cm m frame r.1/\r.2=true):=by
 have hp:=DT hm
 have hl:=hm.len
 have h2:=hm.p2
 unfold GQ
 refine ae (λh=>by have:=oY h;omega) (λh=>aq λx0 hx=>ae (λh1=>by have:=oY h1;rw[hx,hp]at this;omega) (λh1=>?_))
 refine fv (inv:=λz:Int×List Int=>0<=z.1/\z.1<=32/\(z.2.length:Int)=4*z.1/\∀k:Nat,(k:Int)<4*z.1->z.2.getD k 0=lJ m ((frame*128).toNat+k)) (μ:=Xv m frame) ⟨by decide,by decide,rfl,λk hk=>by have hk:(k:Int)<4*0:=hk;omega⟩ (cN _) (λz hz=>?_)
 obtain⟨z1,z2,z3,z4⟩:=hz
 refine ae (λhb=>?_) (λhb=>?_)
 ·have hb:=oY hb
  have e:wrap i64 (wrap i64 (frame*32)+z.1)=frame*32+z.1:=by rw[wrap_i64,wrap_i64];omega
  refine aw (by rw[e];simp[bN];omega) (df (show(4:Int)<=1000000000000 by decide) (aq λx1 h4=>?_))
  rw[qaD,Og,e]at h4
  have l4:x1.length=4:=by rw[h4];rfl
  refine aw (dY (by rw[Ts,l4];omega)) (ff ?_)
  show(0<=i64.wrap (z.1+1)/\i64.wrap (z.1+1)<=32/\((z.2++pB x1).length:Int)=4*i64.wrap (z.1+1)/\∀k:Nat,(k:Int)<4*i64.wrap (z.1+1)->(z.2++pB x1).getD k 0=_)/\(32-i64.wrap (z.1+1)).toNat<(32-z.1).toNat
  have ew:i64.wrap (z.1+1)=z.1+1:=by rw[wrap_i64];omega
  rw[ew]
  refine⟨⟨by omega,by omega,by rw[lA,Ts,l4];omega,λk hk=>?_⟩,by omega⟩
  rw[Zqs]
  split
  ·exact z4 k (by omega)
  ·rename_i hn
   have DU:k-z.2.length<4:=by omega
   rw[Znl _ _ (by omega),h4]
   have d:=b4d (m.getD (frame*32+z.1).toNat 0) DU
   rw[Xt _ _ (by rw[d];exact qh _ _) (by simpa using DU),d,lJ]
   rw[show((frame*128).toNat+k)/4=(frame*32+z.1).toNat by omega,show((frame*128).toNat+k)%4=k-z.2.length by omega]
 ·have hb:=oN hb
  refine⟨⟨?_,λk hk=>?_⟩,rfl⟩
  ·show(bytesOf z.2).length=128
   rw[Qk];omega
  ·show(((bytesOf z.2).getD k 0).toNat:Int)=_
   have e:=z4 k (by omega)
   rw[Xt _ _ (by rw[e];exact qh _ _) (by omega),e]
theorem Zjs{m:List Int}(h:fg P m)(f:Int):jD m f=Lr m f:=by
 by_cases hf:0<=f/\f<P
 ·have a:=(Tree.pp (qi h hf.1 hf.2)).2
  have b:=(Tree.pp (zai h hf.1 hf.2)).2
  exact Prod.ext (vh a.1 b.1) (a.2.trans b.2.symm)
 ·have hp:=DT h
  have e1:jD m f=([],false):=by
   simp only[jD,DN,Tree.m,e9,Xr h,dN hf];rfl
  have e2:Lr m f=([],false):=by
   simp only[Lr,GQ,Tree.m,e9,hp]
   by_cases h0:f<0
   ·rw[dY h0];rfl
   ·rw[dN h0,dY (show f>=P by omega)];rfl
  rw[e1,e2]
section
variable {P:Nat} {m:List Int} (h:fg P m)
include h
theorem Ok(ha:U a)(hs:size=1\/size=4):uD m a size=decide (a%size=0/\a<128*P):=by
 have hq:=DT h
 have h2:=h.p2
 have a0:=ha.1
 have e:wrap u32 size=size:=by rcases hs with rfl|rfl<;>decide
 have e0:decide (wrap u32 size≠0)=true:=by rcases hs with rfl|rfl<;>decide
 have t:cZ a (wrap u32 size)=a%size:=by rw[e,dZ a0]
 have l:∀x,x=wG m->a%size=0->decide (a<wrap u32 (wrap i64 (128*x)))=decide (a%size=0/\a<128*P):=λx hx hz=>by
  rw[hx,hq,wrap_u32,wrap_i64]
  exact decide_eq_decide.2 ⟨λh=>⟨hz,by omega⟩,λh=>by omega⟩
 refine Tree.post (IT m a size) (W:=λb=>b=decide (a%size=0/\a<128*P)) ?_
 unfold IT
 refine ae (λh1=>ae (λh4=>?_) (λ_=>?_)) (λ_=>?_)
 ·have h1:¬size=1:=by simpa using h1
  have h4:¬size=4:=by simpa using h4
  omega
 all_goals
  refine aw e0 (ae (λhb=>aq λx hx=>l x hx ?_) (λhb=>?_))
  ·rw[t]at hb;exact eq_of_beq hb
  ·rw[t]at hb
   exact(dN (λh=>by rw[h.1]at hb;cases hb)).symm
theorem Z4i(ha:U a)(hs:size=1\/size=4):Xw m a size=uD m a size:=by
 rw[Ok h ha hs]
 have hq:=Xx h
 have h2:=h.p2
 have a0:=ha.1
 have a1:=ha.2
 have e:wrap u32 size=size:=by rcases hs with rfl|rfl<;>decide
 have e0:decide (wrap u32 size≠0)=true:=by rcases hs with rfl|rfl<;>decide
 have t:cZ a (wrap u32 size)=a%size:=by rw[e,dZ a0]
 have l:∀x,x=jW m->a%size=0->decide (wrap u64 (wrap u64 a+wrap u64 size)<=wrap u64 (wrap u64 x*128))=decide (a%size=0/\a<128*P):=λx hx hz=>by
  rw[hx,hq]
  simp only[wrap_u64]
  refine decide_eq_decide.2 ⟨λh=>⟨hz,?_⟩,λh=>?_⟩<;>rcases hs with rfl|rfl<;>omega
 refine Tree.post (IU m a size) (W:=λb=>b=decide (a%size=0/\a<128*P)) ?_
 unfold IU
 refine ae (λh1=>ae (λh4=>?_) (λ_=>?_)) (λ_=>?_)
 ·have h1:¬size=1:=by simpa using h1
  have h4:¬size=4:=by simpa using h4
  omega
 all_goals
  refine aw e0 (ae (λhb=>?_) (λhb=>aq λx hx=>l x hx ?_))
  ·rw[t]at hb
   exact(dN (λh=>by rw[h.1]at hb;cases hb)).symm
  ·rw[t]at hb;simpa using hb
end
theorem Xy(w:Int):tM w 0 8=ba .u32 (bb .u32 w 0) 255/\tM w 8 8=ba .u32 (bb .u32 w 8) 255/\tM w 16 8=ba .u32 (bb .u32 w 16) 255/\tM w 24 8=ba .u32 (bb .u32 w 24) 255:=
 ⟨by kernel_rfl,by kernel_rfl,by kernel_rfl,by kernel_rfl⟩
theorem Xz(w v:Int):Ls w 0 8 v=ES w v 0/\Ls w 8 8 v=ES w v 8/\Ls w 16 8 v=ES w v 16/\Ls w 24 8 v=ES w v 24:=
 ⟨by kernel_rfl,by kernel_rfl,by kernel_rfl,by kernel_rfl⟩
theorem xi(ha:U a):wrap .i64 (wrap .i64 (cZ a 4)*8)=8*(a%4)/\wrap .u32 (8*cZ a 4)=8*(a%4):=by
 obtain⟨a0,a1⟩:=ha
 rw[dZ a0]
 exact⟨by rw[wrap_i64,wrap_i64];omega,by rw[wrap_u32];omega⟩
section
variable {P:Nat} {m:List Int} (h:fg P m)
include h
theorem Ol(ha:U a)(hs:size=1\/size=4):Cn m a size=o6 m a size:=by
 have e:=Z4i h ha hs
 obtain⟨s1,s2⟩:=xi ha
 have f:tM (m.getD (dA (wrap .u32 (eF a 4))) 0) (8*(a%4)) 8=ba .u32 (bb .u32 (m.getD (dA (wrap .u32 (eF a 4))) 0) (8*(a%4))) 255:=by
  obtain⟨f0,f1,f2,f3⟩:=Xy (m.getD (dA (wrap .u32 (eF a 4))) 0)
  have:a%4=0\/a%4=1\/a%4=2\/a%4=3:=by omega
  rcases this with h|h|h|h<;>rw[h]
  ·exact f0
  ·exact f1
  ·exact f2
  ·exact f3
 simp only[Cn,Lt,o6,DV,Tree.m,e9,e,s1,s2,f]
omit h in
theorem XA(a size:Int):(o6 m a size).2=uD m a size:=by
 simp only[o6,DV,Tree.m,e9]
 cases uD m a size
 ·rfl
 ·cases size==1<;>rfl
theorem Zci(ha:U a)(hs:size=1\/size=4)(v:Int):Lu m a size v=bif uD m a size then(IV m a size v,true)else(m,false):=by
 have ju:kK m=m:=rfl
 have e:=Z4i h ha hs
 obtain⟨s1,s2⟩:=xi ha
 have f:∀w,Ls w (8*(a%4)) 8 v=iU .u32 (o4 .u32 w (fh .u32 255 (8*(a%4)))) (fh .u32 (ba .u32 v 255) (8*(a%4))):=λw=>by
  obtain⟨f0,f1,f2,f3⟩:=Xz w v
  have:a%4=0\/a%4=1\/a%4=2\/a%4=3:=by omega
  rcases this with h|h|h|h<;>rw[h]
  ·exact f0
  ·exact f1
  ·exact f2
  ·exact f3
 simp only[Lu,Lv,IV,Lw,Tree.m,e9,ju,e,s1,s2,f]
 rcases hs with rfl|rfl<;>cases uD m a _<;>rfl
end
section
variable {P:Nat} {m:List Int} (h:fg P m)
include h
theorem zi{root va:Int}(hr:U root)(hv:U va)(ha:access=1\/access=2\/access=3):Tt m root va access=Ay m root va access:=by
 have hp:=DT h
 have h2:=h.p2
 have hlen:=h.len
 obtain⟨r1,r2⟩:=hr
 obtain⟨v1,v2⟩:=hv
 have IF:∀{f:Int},U f->Om m f=decide (f<P):=λhf=>zV h hf
 have eP:wrap .u32 (P:Int)=P:=by rw[wrap_u32];omega
 have kn:On access=true:=by rcases ha with rfl|rfl|rfl<;>rfl
 have ca:Qmo access=(Co access,true):=by rcases ha with rfl|rfl|rfl<;>rfl
 simp only[Tt,Lx,Ay,GR,Tree.m,e9,hp,eP,kn,ca,IF ⟨r1,r2⟩]
 by_cases c1:va>=4096
 ·rw[dY c1];rfl
 by_cases c2:root<P
 ·have eE:wrap u32 (wrap u32 (root*128)+wrap u32 (4*wrap u32 (eF va 128)))=root*128+4*(va/128):=by
   rw[eG v1,wrap_u32,wrap_u32,wrap_u32,wrap_u32];omega
  have hE:U (root*128+4*(va/128)):=⟨by omega,by omega⟩
  have wi:uD m (root*128+4*(va/128)) 4=true:=by
   rw[Ok h hE (.inr rfl)];exact dY ⟨by omega,by omega⟩
  rw[dN c1,dY c2,dN (show¬root>=P by omega),eE,Ol h hE (.inr rfl),XA,wi]
  have ld:(o6 m (root*128+4*(va/128)) 4).1=m.getD (dA (wrap .u32 (eF (root*128+4*(va/128)) 4))) 0:=by
   simp only[o6,DV,Tree.m,e9,wi];rfl
  rw[ld]
  generalize m.getD (dA (wrap .u32 (eF (root*128+4*(va/128)) 4))) 0=w
  have fo:XB w=ba .u32 (bb .u32 w 8) 255:=(fld w).2.2.2.2
  rw[fo,IF (Ly _ _)]
  have gz:decide (ba .u32 (bb .u32 w 8) 255>=(P:Int))=!decide (ba .u32 (bb .u32 w 8) 255<(P:Int)):=by
   by_cases hq:ba .u32 (bb .u32 w 8) 255<(P:Int)
   ·rw[dY hq,dN (by omega)];rfl
   ·rw[dN hq,dY (by omega)];rfl
  rw[gz]
  generalize decide (ba .u32 (bb .u32 w 8) 255<(P:Int))=d
  rcases ha with rfl|rfl|rfl
  ·show _=(bif ba .u32 w 1==0 then _ else bif ba .u32 w 4==0 then _ else bif !d then _ else _)
   have:Tu w 1=(bif ba .u32 w 1==0 then false else !(ba .u32 w 4==0)):=rfl
   rw[this]
   cases ba .u32 w 1==0<;>cases ba .u32 w 4==0<;>cases d<;>rfl
  ·show _=(bif ba .u32 w 1==0 then _ else bif !d then _ else _)
   have:Tu w 2=(bif ba .u32 w 1==0 then false else true):=rfl
   rw[this]
   cases ba .u32 w 1==0<;>cases d<;>rfl
  ·show _=(bif ba .u32 w 1==0 then _ else bif ba .u32 w 2==0 then _ else bif !d then _ else _)
   have:Tu w 3=(bif ba .u32 w 1==0 then false else !(ba .u32 w 2==0)):=rfl
   rw[this]
   cases ba .u32 w 1==0<;>cases ba .u32 w 2==0<;>cases d<;>rfl
 ·rw[dN c1,dN c2,dY (show root>=P by omega)];rfl
theorem Zr1(ha:U a)(access:Int):Oo m a access=Tv m a access:=by
 have ju:kK m=m:=rfl
 have hl:=h.len
 have a0:=ha.1
 simp only[Oo,Lz,Tv,LA,Tree.m,e9,Ol h ha (.inr rfl),XA,Zci h ha (.inr rfl),ju]
 cases hw:uD m a 4
 ·rfl
 ·rw[Ok h ha (.inr rfl)]at hw
  have hw:=oY hw
  have wi:uD m a 4=true:=by rw[Ok h ha (.inr rfl)];exact dY hw
  have ld:(o6 m a 4).1=m.getD (dA (wrap .u32 (eF a 4))) 0:=by
   simp only[o6,DV,Tree.m,e9,wi];rfl
  have pu:∀v,IV m a 4 v=m.set (dA (wrap .u32 (eF a 4))) v:=λv=>rfl
  rw[ld,pu,pu]
  have hi:dA (wrap .u32 (eF a 4))<m.length:=by
   rw[eG a0,wrap_u32];omega
  generalize dA (wrap .u32 (eF a 4))=i at*
  rw[Qx6 hi,List.set_set]
  rfl
end
theorem Oq(h0:0<=c.C3.a0)(h:c.C3.a0<=31)(k b:Int):rC c k b=ra c k b:=by
 have e:=eq_of_beq (ER (λs=>o4 .u32 (iU .u32 (Aw (Aw s 1 8) 2 16) 1) 2==iU .u32 (o4 .u32 (iU .u32 (iU .u32 (o4 .u32 s 24) (wrap .u32 (8*Cp (ba .u32 s 1 !=0)))) (wrap .u32 (16*Cp (ba .u32 s 2 !=0)))) 2) 1) 32 (by kernel_rfl) h0 (by omega))
 simp only[rC,Ot,ra,Ou,Tree.m,e9,e]
theorem Znt(h0:0<=c.C3.a0)(h:c.C3.a0<=31):Lh c=Tw c:=by
 have e:=eq_of_beq (ER (λs=>Aw (Aw s 8 1) 16 2==iU .u32 (iU .u32 (o4 .u32 s 3) (wrap .u32 (1*Cp (ba .u32 s 8 !=0)))) (wrap .u32 (2*Cp (ba .u32 s 16 !=0)))) 32 (by kernel_rfl) h0 (by omega))
 simp only[Lh,Ov,Tw,Ow,Tree.m,e9,e]
theorem Zsj(h0:0<=c.C3.a0)(h:c.C3.a0<=31):XC c=(!IW c&&(ba .u32 c.C3.a0 4 !=0)):=
 eq_of_beq (ER (λs=>(ba .u32 s 5==4)==(!(ba .u32 s 1 !=0)&&(ba .u32 s 4 !=0))) 32 (by kernel_rfl) h0 (by omega))
theorem Tx(c:bq)(hr:0<=r/\r<16)(v:Int):uE c r v=lK c r v:=by
 simp only[uE,EM,lK,IX,Tree.m]
 by_cases h:r=0
 ·subst h;rfl
 ·rw[dY (show r>0 by omega),dY hr.2,show(r !=0)=true by simpa using h];rfl
theorem vJ{a b:Int}(ha:U a)(hb:U b):LB a b=LC a b:=by
 obtain⟨a0,a1⟩:=ha
 obtain⟨b0,b1⟩:=hb
 have i:∀x,wrap .i64 (wrap .i32 x)=wrap .i32 x:=λx=>by rw[wrap_i64,wrap_i32];omega
 have r32:∀x,-2147483648<=wrap .i32 x/\wrap .i32 x<2147483648:=λx=>by rw[wrap_i32];omega
 have q32:∀x y:Int,-2147483648<=x/\x<2147483648-> -2147483648<=eF x y/\eF x y<=2147483648:=λx y hx=>by
  have h1:(eF x y).natAbs<=x.natAbs:=by rw[Int.natAbs_tdiv];exact Nat.div_le_self _ _
  omega
 simp only[LB,LD,LC,LF,Tree.m,i]
 cases hb:b==0
 ·have w:∀z,wrap .u32 (wrap .i32 z)=wrap .u32 z:=λz=>by rw[wrap_i32,wrap_u32,wrap_u32];omega
  have w2:wrap .i64 (eF (wrap .i32 a) (wrap .i32 b))=eF (wrap .i32 a) (wrap .i32 b):=by
   have:=q32 _ (wrap .i32 b) (r32 a)
   rw[wrap_i64];omega
  rw[w,w2]
  cases h1:a==2147483648
  ·rfl
  ·cases h2:b==4294967295
   ·rfl
   ·have h1:=eq_of_beq h1
    have h2:=eq_of_beq h2
    subst h1;subst h2
    rfl
 ·rfl
theorem qK{op a b:Int}(h0:1<=op)(h1:op<=23)(ha:U a)(hb:U b):Q5 op a b=DW op a b:=by
 have sub:wrap .u32 (a+wrap .u32 (0-b))=wrap .u32 (a-b):=by
  rw[wrap_u32,wrap_u32,wrap_u32];omega
 have rS:op=1\/op=2\/op=3\/op=4\/op=5\/op=6\/op=7\/op=8\/op=9\/op=10\/op=11\/op=12\/op=13\/op=14\/op=15\/op=16\/op=17\/op=18\/op=19\/op=20\/op=21\/op=22\/op=23:=by omega
 have d:=vJ ha hb
 rcases rS with rfl|rfl|rfl|rfl|rfl|rfl|rfl|rfl|rfl|rfl|rfl|rfl|rfl|rfl|rfl|rfl|rfl|rfl|rfl|rfl|rfl|rfl|rfl
 ·rfl
 ·show(wrap .u32 (a+wrap .u32 (0-b)),true)=(wrap .u32 (a-b),true)
  rw[sub]
 ·rfl
 ·rfl
 ·rfl
 ·rfl
 ·rfl
 ·rfl
 ·rfl
 ·show((LB a b).1,true)=((LC a b).1,true)
  rw[d]
 ·show((LB a b).2,true)=((LC a b).2,true)
  rw[d]
 all_goals rfl
theorem XD{m:List Int}(h:fg P m)(hc:iX c)(j5:c.C3.a0<=31){va:Int}(hv:U va)(hs:size=1\/size=4)(ha:access=1\/access=2\/access=3):rW c m va size access=((lU c m va size access).1,(lU c m va size access).2.2,(lU c m va size access).2.1):=by
 have ju:kK m=m:=rfl
 have kn:On access=true:=by rcases ha with rfl|rfl|rfl<;>rfl
 have ca:Qvb access=(Co access,true):=by rcases ha with rfl|rfl|rfl<;>rfl
 have pg:=Zsj hc.a0.1 j5
 have wk:=zi h hc.a6 hv ha
 have tc:Oo m (Ay m c.C3.a6 va access).G1 access=Tv m (Ay m c.C3.a6 va access).G1 access:=Zr1 h (Tree.pp (zaa h hc.a6 hv access)).2.2.1 access
 have sz:(bif size !=1 then bif size !=4 then false else true else true)=true:=by rcases hs with rfl|rfl<;>rfl
 simp only[rW,LG,lU,IY,Tree.m,e9,ju,kn,ca,pg,wk,tc,Ol h hv hs,XA]
 rcases hs with rfl|rfl<;>
 ·show(bif _ then _ else _)=_
  cases cZ va _ !=0<;>cases IW c<;>cases ba .u32 c.C3.a0 4 !=0<;>cases(Ay m c.C3.a6 va access).G0 !=0<;>cases uD m va _<;>rfl
theorem XE{α:Type}{Q:α->Prop}{c:Bool}{x y:α}(hx:Q x)(hy:Q y):Q (cond c x y):=by cases c<;>assumption
theorem xai(m:List Int)(root:Int){va:Int}(hv:U va)(access:Int):(Ay m root va access).G0=0->(Ay m root va access).Addr%4=va%4:=by
 have hc:Co access≠0:=by
   simp only[Co,LH,Tree.m]
   cases access==1<;>cases access==3<;>simp
 have q :(λt:rR=>t.G0=0->t.Addr%4=va%4) (Ay m root va access):=by
   simp only[Ay,GR,Tree.m,e9]
   repeat'(first
     |exact λe=>absurd e hc
     | (intro _
        show wrap .u32 (wrap .u32 (_*128)+cZ va 128)%4=va%4
        rw[dZ hv.1,wrap_u32,wrap_u32];omega)
     |refine XE (Q:=λt:rR=>t.G0=0->t.Addr%4=va%4) ?_ ?_)
 exact q
theorem xK{m:List Int}{va:Int}(hv:U va)(hs:size=1\/size=4)(ha:access=1\/access=2\/access=3):(lU c m va size access).2.1=0->(lU c m va size access).1%size=0:=by
 have kn:On access=true:=by rcases ha with rfl|rfl|rfl<;>rfl
 have hc:Co access≠0:=by
  simp only[Co,LH,Tree.m]
  cases access==1<;>cases access==3<;>simp
 rcases hs with rfl|rfl
 ·intro _;omega
 simp only[lU,IY,Tree.m,e9,kn]
 show(bif cZ va 4 !=0 then((0:Int),(3:Int),m)else _).2.1=0->(bif cZ va 4 !=0 then((0:Int),(3:Int),m)else _).1%4=0
 rw[dZ hv.1]
 cases hz:va%4 !=0
 ·have hz:va%4=0:=by simpa using hz
  have w:=xai m c.C3.a6 hv access
  cases hp:XC c
  ·cases hw:uD m va 4
   ·exactλe=>absurd e hc
   ·exactλ_=>hz
  ·cases hq:(Ay m c.C3.a6 va access).G0 !=0
   ·have hq:(Ay m c.C3.a6 va access).G0=0:=by simpa using hq
    exactλ_=>(w hq).trans hz
   ·have hq:¬(Ay m c.C3.a6 va access).G0=0:=by simpa using hq
    exactλe=>absurd e hq
 ·intro e;cases e
def dw:lG:={C2:=0,E0:=0,F9:=0,Value:=0}
def jS(c:bq)(m:List Int)(i:ik):bq×List Int×lG:=
 bif i.Op==32 then((tN c m i).1,(tN c m i).2,dw)else bif i.Op==33 then((tN c m i).1,(tN c m i).2,dw)else bif i.Op==34 then((tN c m i).1,(tN c m i).2,dw)
 else bif i.Op==35 then((Cq c m i).1,(Cq c m i).2,dw)else bif i.Op==36 then((Cq c m i).1,(Cq c m i).2,dw)else((XF c i).1,m,(XF c i).2)
def dt(c:bq)(r:Int):Int:=aV (iv.l c.X) r.toNat 0
def rb(c:bq)(m:List Int)(i:ik):bq×lG×List Int:=
 bif decide (i.Op>=56)then((XG c i).1,(XG c i).2,m)else bif decide (i.Op>=40)then(Z7i c i,dw,m)else bif decide (i.Op>=32)then((GS c m i).1,dw,(GS c m i).2)
 else bif i.Op==24 then({X:=(lK c i.A (fh .u32 (wrap .u32 i.bz) 16)).X,Pc:=wrap .u32 ((lK c i.A (fh .u32 (wrap .u32 i.bz) 16)).Pc+4),C3:=(lK c i.A (fh .u32 (wrap .u32 i.bz) 16)).C3},dw,m)
 else bif decide (i.Op<=13)then
  ({X:=(lK c i.A (DW i.Op (dt c i.B) (dt c i.C)).1).X,Pc:=wrap .u32 ((lK c i.A (DW i.Op (dt c i.B) (dt c i.C)).1).Pc+4),C3:=(lK c i.A (DW i.Op (dt c i.B) (dt c i.C)).1).C3},dw,m)
 else({X:=(lK c i.A (DW i.Op (dt c i.B) (wrap .u32 i.bz)).1).X,Pc:=wrap .u32 ((lK c i.A (DW i.Op (dt c i.B) (wrap .u32 i.bz)).1).Pc+4),C3:=(lK c i.A (DW i.Op (dt c i.B) (wrap .u32 i.bz)).1).C3},dw,m)
def pC(op:Int):Prop:=op=1\/op=2\/op=3\/op=4\/op=5\/op=6\/op=7\/op=8\/op=9\/op=10\/op=11\/op=12\/op=13\/op=16\/op=17\/op=18\/op=19\/op=20\/op=21\/op=22\/op=23\/op=24\/op=32\/op=33\/op=34\/op=35\/op=36\/op=40\/op=41\/op=42\/op=43\/op=44\/op=45\/op=48\/op=49\/op=56\/op=57\/op=58\/op=59\/op=60\/op=61\/op=62\/op=63\/op=64
theorem vZ(c:bq)(r v:Int):(lK c r v).Pc=c.Pc/\(lK c r v).C3=c.C3:=by
 simp only[lK,IX,Tree.m]
 cases decide (r>0)
 ·exact⟨rfl,rfl⟩
 ·cases decide (r<16)<;>exact⟨rfl,rfl⟩
def IZ(c:bq):bq:={X:=c.X,Pc:=wrap .u32 (c.Pc+4),C3:=c.C3}
def va(c:bq)(B bz:Int):Int:=wrap .u32 (aV (iv.l c.X) B.toNat 0+wrap .u32 bz)
def Ox(c:bq)(A v size:Int)(f:Int->Int)(y:Int×List Int×Int):bq×List Int:=bif y.2.2 !=0 then(rC c y.2.2 v,y.2.1)else(IZ (uE c A (f (Cn y.2.1 y.1 size).1)),y.2.1)
def Oy(c:bq)(A v size:Int)(f:Int->Int)(x:Int×Int×List Int):bq×List Int:=bif x.2.1 !=0 then(ra c x.2.1 v,x.2.2)else(IZ (lK c A (f (o6 x.2.2 x.1 size).1)),x.2.2)
def Ty(c:bq)(A v size:Int)(y:Int×List Int×Int):bq×List Int:=bif y.2.2 !=0 then(rC c y.2.2 v,y.2.1)else(IZ c,(Lu y.2.1 y.1 size (aV (iv.l c.X) A.toNat 0)).1)
def Tz(c:bq)(A v size:Int)(x:Int×Int×List Int):bq×List Int:=bif x.2.1 !=0 then(ra c x.2.1 v,x.2.2)else(IZ c,IV x.2.2 x.1 size (aV (iv.l c.X) A.toNat 0))
theorem Oz(c:bq)(m:List Int)(A B C bz:Int):
 (tN c m ⟨32,A,B,C,bz⟩=Ox c A (va c B bz) 4 (λv=>v) (rW c m (va c B bz) 4 2)/\GS c m ⟨32,A,B,C,bz⟩=Oy c A (va c B bz) 4 (λv=>v) (lU c m (va c B bz) 4 2))/\
 (tN c m ⟨33,A,B,C,bz⟩=Ox c A (va c B bz) 1 (λv=>DS v 8) (rW c m (va c B bz) 1 2)/\GS c m ⟨33,A,B,C,bz⟩=Oy c A (va c B bz) 1 (λv=>GN v 8) (lU c m (va c B bz) 1 2))/\
 (tN c m ⟨34,A,B,C,bz⟩=Ox c A (va c B bz) 1 (λv=>v) (rW c m (va c B bz) 1 2)/\GS c m ⟨34,A,B,C,bz⟩=Oy c A (va c B bz) 1 (λv=>v) (lU c m (va c B bz) 1 2))/\
 (Cq c m ⟨35,A,B,C,bz⟩=Ty c A (va c B bz) 4 (rW c m (va c B bz) 4 3)/\GS c m ⟨35,A,B,C,bz⟩=Tz c A (va c B bz) 4 (lU c m (va c B bz) 4 3))/\
 (Cq c m ⟨36,A,B,C,bz⟩=Ty c A (va c B bz) 1 (rW c m (va c B bz) 1 3)/\GS c m ⟨36,A,B,C,bz⟩=Tz c A (va c B bz) 1 (lU c m (va c B bz) 1 3)):=
 ⟨⟨by kernel_rfl,by kernel_rfl⟩,⟨by kernel_rfl,by kernel_rfl⟩,⟨by kernel_rfl,by kernel_rfl⟩,⟨by kernel_rfl,by kernel_rfl⟩,⟨by kernel_rfl,by kernel_rfl⟩⟩
theorem qaj{m:List Int}(h:fg P m)(a:Int):DS (o6 m a 1).1 8=GN (o6 m a 1).1 8:=by
 have:∀x:Int×Bool,(∃w,U w/\x=(ba .u32 w 255,true))\/x=(0,false)->DS x.1 8=GN x.1 8:=λx hx=>by
  rcases hx with⟨w,hw,rfl⟩|rfl
  ·have e:=Ci hw
   exact sx8 (by show 0<=ba .u32 w 255;omega) (by show ba .u32 w 255<256;omega)
  ·rfl
 refine this _ ?_
 simp only[o6,DV,Tree.m,e9]
 cases uD m a 1
 ·exact .inr rfl
 ·exact .inl ⟨_,Ax (Bf h.u _) _,rfl⟩
section
variable {P:Nat} {m:List Int} (h:fg P m) {c:bq} (hc:iX c) (j5:c.C3.a0<=31)
include h hc j5
omit j5 in
theorem XH(hv:U v)(hs:size=1\/size=4)(access:Int):fg P (lU c m v size access).2.2/\U (lU c m v size access).1/\((lU c m v size access).2.1=0->(lU c m v size access).1<128*P):=(Tree.pp (TA h hc hv hs access)).2
theorem XI(hA:0<=A/\A<16)(hv:U v)(hs:size=1\/size=4){f g:Int->Int}(hf:∀{m':List Int},fg P m'->∀a,f (o6 m' a size).1=g (o6 m' a size).1):Ox c A v size f (rW c m v size 2)=Oy c A v size g (lU c m v size 2):=by
 rw[XD h hc j5 hv hs (.inr (.inl rfl))]
 obtain⟨k,u,_⟩:=XH h hc hv hs 2
 generalize lU c m v size 2=x at*
 simp only[Ox,Oy,Ol k u hs,Oq hc.a0.1 j5,Tx c hA,hf k]
theorem yi(hv:U v)(hs:size=1\/size=4):Ty c A v size (rW c m v size 3)=Tz c A v size (lU c m v size 3):=by
 rw[XD h hc j5 hv hs (.inr (.inr rfl))]
 obtain⟨k,u,b⟩:=XH h hc hv hs 3
 have al:=xK (c:=c) (m:=m) hv hs (access:=3) (.inr (.inr rfl))
 generalize lU c m v size 3=x at*
 simp only[Ty,Tz,Zci k u hs,Oq hc.a0.1 j5,Ok k u hs]
 cases hq:x.2.1 !=0
 ·have hq:x.2.1=0:=by simpa using hq
  rw[dY ⟨al hq,b hq⟩];rfl
 ·rfl
end
theorem zK(c:bq)(k v:Int):(OA c k v).Pc=c.Pc:=by
 simp only[OA,LI,Tree.m]
 repeat'(first|rfl|refine XE (Q:=λx:bq=>x.Pc=c.Pc) ?_ ?_)
def jk(c:bq)(A v p:Int):bq:={X:=(uE c A v).X,Pc:=p,C3:=(uE c A v).C3}
def ET(c:bq)(A v p:Int):bq:={X:=(lK c A v).X,Pc:=p,C3:=(lK c A v).C3}
def jL(c:bq):Int:=wrap .u32 (c.Pc+4)
theorem OB(c:bq)(hA:0<=A/\A<16)(v p:Int):jk c A v p=ET c A v p:=by
 unfold jk ET;rw[Tx c hA]
theorem Zm(c:bq)(A v:Int):IZ (lK c A v)=ET c A v (jL c):=by
 unfold IZ ET jL;rw[(vZ c A v).1]
theorem LJ(t:Bool)(x y:bq)(m:List Int):((bif t then(x,dw)else(y,dw)).1,m,(bif t then(x,dw)else(y,dw)).2)=((bif t then x else y),m,dw):=by cases t<;>rfl
def GU(op:Int):Bool:=decide (op=1)||decide (op=2)||decide (op=3)||decide (op=4)||decide (op=5)||decide (op=6)||decide (op=7)||decide (op=8)||decide (op=9)||decide (op=10)||decide (op=11)||decide (op=12)||decide (op=13)||decide (op=16)||decide (op=17)||decide (op=18)||decide (op=19)||decide (op=20)||decide (op=21)||decide (op=22)||decide (op=23)||decide (op=24)||decide (op=32)||decide (op=33)||decide (op=34)||decide (op=35)||decide (op=36)||decide (op=40)||decide (op=41)||decide (op=42)||decide (op=43)||decide (op=44)||decide (op=45)||decide (op=48)||decide (op=49)||decide (op=56)||decide (op=57)||decide (op=58)||decide (op=59)||decide (op=60)||decide (op=61)||decide (op=62)||decide (op=63)||decide (op=64)
section
variable {P:Nat} {m:List Int} (h:fg P m) {c:bq} (hc:iX c) (j5:c.C3.a0<=31) {A B C bz:Int} (hA:0<=A/\A<16)
include h hc j5 hA
theorem qj(rS:pC op):jS c m ⟨op,A,B,C,bz⟩=((rb c m ⟨op,A,B,C,bz⟩).1,(rb c m ⟨op,A,B,C,bz⟩).2.2,(rb c m ⟨op,A,B,C,bz⟩).2.1):=by
 have pD:∀{k y:Int},1<=k->k<=23->U y->((jk c A (Q5 k (dt c B) y).1 (jL c),m,dw):bq×List Int×lG)=(IZ (lK c A (DW k (dt c B) y).1),m,dw):=λh1 h2 hy=>by
  rw[qK h1 h2 (show U (dt c B) from hc.r _) hy,Zm,OB c hA]
 have uC:U (dt c C):=hc.r _
 have uI:U (wrap .u32 bz):=ga _
 obtain⟨⟨l1,l2⟩,⟨l3,l4⟩,⟨l5,l6⟩,⟨l7,l8⟩,⟨l9,l10⟩⟩:=Oz c m A B C bz
 have DX:U (va c B bz):=ga _
 rcases rS with rfl|rfl|rfl|rfl|rfl|rfl|rfl|rfl|rfl|rfl|rfl|rfl|rfl|rfl|rfl|rfl|rfl|rfl|rfl|rfl|rfl|rfl|rfl|rfl|rfl|rfl|rfl|rfl|rfl|rfl|rfl|rfl|rfl|rfl|rfl|rfl|rfl|rfl|rfl|rfl|rfl|rfl|rfl|rfl
 ·exact(show jS c m ⟨1,A,B,C,bz⟩=(jk c A (Q5 1 (dt c B) (dt c C)).1 (jL c),m,dw) by kernel_rfl).trans ((pD (by decide) (by decide) uC).trans (by kernel_rfl))
 ·exact(show jS c m ⟨2,A,B,C,bz⟩=(jk c A (Q5 2 (dt c B) (dt c C)).1 (jL c),m,dw) by kernel_rfl).trans ((pD (by decide) (by decide) uC).trans (by kernel_rfl))
 ·exact(show jS c m ⟨3,A,B,C,bz⟩=(jk c A (Q5 3 (dt c B) (dt c C)).1 (jL c),m,dw) by kernel_rfl).trans ((pD (by decide) (by decide) uC).trans (by kernel_rfl))
 ·exact(show jS c m ⟨4,A,B,C,bz⟩=(jk c A (Q5 4 (dt c B) (dt c C)).1 (jL c),m,dw) by kernel_rfl).trans ((pD (by decide) (by decide) uC).trans (by kernel_rfl))
 ·exact(show jS c m ⟨5,A,B,C,bz⟩=(jk c A (Q5 5 (dt c B) (dt c C)).1 (jL c),m,dw) by kernel_rfl).trans ((pD (by decide) (by decide) uC).trans (by kernel_rfl))
 ·exact(show jS c m ⟨6,A,B,C,bz⟩=(jk c A (Q5 6 (dt c B) (dt c C)).1 (jL c),m,dw) by kernel_rfl).trans ((pD (by decide) (by decide) uC).trans (by kernel_rfl))
 ·exact(show jS c m ⟨7,A,B,C,bz⟩=(jk c A (Q5 7 (dt c B) (dt c C)).1 (jL c),m,dw) by kernel_rfl).trans ((pD (by decide) (by decide) uC).trans (by kernel_rfl))
 ·exact(show jS c m ⟨8,A,B,C,bz⟩=(jk c A (Q5 8 (dt c B) (dt c C)).1 (jL c),m,dw) by kernel_rfl).trans ((pD (by decide) (by decide) uC).trans (by kernel_rfl))
 ·exact(show jS c m ⟨9,A,B,C,bz⟩=(jk c A (Q5 9 (dt c B) (dt c C)).1 (jL c),m,dw) by kernel_rfl).trans ((pD (by decide) (by decide) uC).trans (by kernel_rfl))
 ·exact(show jS c m ⟨10,A,B,C,bz⟩=(jk c A (Q5 10 (dt c B) (dt c C)).1 (jL c),m,dw) by kernel_rfl).trans ((pD (by decide) (by decide) uC).trans (by kernel_rfl))
 ·exact(show jS c m ⟨11,A,B,C,bz⟩=(jk c A (Q5 11 (dt c B) (dt c C)).1 (jL c),m,dw) by kernel_rfl).trans ((pD (by decide) (by decide) uC).trans (by kernel_rfl))
 ·exact(show jS c m ⟨12,A,B,C,bz⟩=(jk c A (Q5 12 (dt c B) (dt c C)).1 (jL c),m,dw) by kernel_rfl).trans ((pD (by decide) (by decide) uC).trans (by kernel_rfl))
 ·exact(show jS c m ⟨13,A,B,C,bz⟩=(jk c A (Q5 13 (dt c B) (dt c C)).1 (jL c),m,dw) by kernel_rfl).trans ((pD (by decide) (by decide) uC).trans (by kernel_rfl))
 ·exact(show jS c m ⟨16,A,B,C,bz⟩=(jk c A (Q5 16 (dt c B) (wrap .u32 bz)).1 (jL c),m,dw) by kernel_rfl).trans ((pD (by decide) (by decide) uI).trans (by kernel_rfl))
 ·exact(show jS c m ⟨17,A,B,C,bz⟩=(jk c A (Q5 17 (dt c B) (wrap .u32 bz)).1 (jL c),m,dw) by kernel_rfl).trans ((pD (by decide) (by decide) uI).trans (by kernel_rfl))
 ·exact(show jS c m ⟨18,A,B,C,bz⟩=(jk c A (Q5 18 (dt c B) (wrap .u32 bz)).1 (jL c),m,dw) by kernel_rfl).trans ((pD (by decide) (by decide) uI).trans (by kernel_rfl))
 ·exact(show jS c m ⟨19,A,B,C,bz⟩=(jk c A (Q5 19 (dt c B) (wrap .u32 bz)).1 (jL c),m,dw) by kernel_rfl).trans ((pD (by decide) (by decide) uI).trans (by kernel_rfl))
 ·exact(show jS c m ⟨20,A,B,C,bz⟩=(jk c A (Q5 20 (dt c B) (wrap .u32 bz)).1 (jL c),m,dw) by kernel_rfl).trans ((pD (by decide) (by decide) uI).trans (by kernel_rfl))
 ·exact(show jS c m ⟨21,A,B,C,bz⟩=(jk c A (Q5 21 (dt c B) (wrap .u32 bz)).1 (jL c),m,dw) by kernel_rfl).trans ((pD (by decide) (by decide) uI).trans (by kernel_rfl))
 ·exact(show jS c m ⟨22,A,B,C,bz⟩=(jk c A (Q5 22 (dt c B) (wrap .u32 bz)).1 (jL c),m,dw) by kernel_rfl).trans ((pD (by decide) (by decide) uI).trans (by kernel_rfl))
 ·exact(show jS c m ⟨23,A,B,C,bz⟩=(jk c A (Q5 23 (dt c B) (wrap .u32 bz)).1 (jL c),m,dw) by kernel_rfl).trans ((pD (by decide) (by decide) uI).trans (by kernel_rfl))
 ·refine(show jS c m ⟨24,A,B,C,bz⟩=(jk c A (fh .u32 (wrap .u32 bz) 16) (jL c),m,dw) by kernel_rfl).trans ?_
  rw[OB c hA,<-Zm];kernel_rfl
 ·have e:=XI h hc j5 hA DX (.inr rfl) (f:=λv=>v) (g:=λv=>v) (λ_ _=>rfl)
  rw[<-l1,<-l2]at e
  refine(show jS c m ⟨32,A,B,C,bz⟩=((tN c m ⟨32,A,B,C,bz⟩).1,(tN c m ⟨32,A,B,C,bz⟩).2,dw) by kernel_rfl).trans ?_
  rw[e];kernel_rfl
 ·have e:=XI h hc j5 hA DX (.inl rfl) (f:=λv=>DS v 8) (g:=λv=>GN v 8) (λhm a=>qaj hm a)
  rw[<-l3,<-l4]at e
  refine(show jS c m ⟨33,A,B,C,bz⟩=((tN c m ⟨33,A,B,C,bz⟩).1,(tN c m ⟨33,A,B,C,bz⟩).2,dw) by kernel_rfl).trans ?_
  rw[e];kernel_rfl
 ·have e:=XI h hc j5 hA DX (.inl rfl) (f:=λv=>v) (g:=λv=>v) (λ_ _=>rfl)
  rw[<-l5,<-l6]at e
  refine(show jS c m ⟨34,A,B,C,bz⟩=((tN c m ⟨34,A,B,C,bz⟩).1,(tN c m ⟨34,A,B,C,bz⟩).2,dw) by kernel_rfl).trans ?_
  rw[e];kernel_rfl
 ·have e:=yi h hc j5 (A:=A) DX (.inr rfl)
  rw[<-l7,<-l8]at e
  refine(show jS c m ⟨35,A,B,C,bz⟩=((Cq c m ⟨35,A,B,C,bz⟩).1,(Cq c m ⟨35,A,B,C,bz⟩).2,dw) by kernel_rfl).trans ?_
  rw[e];kernel_rfl
 ·have e:=yi h hc j5 (A:=A) DX (.inl rfl)
  rw[<-l9,<-l10]at e
  refine(show jS c m ⟨36,A,B,C,bz⟩=((Cq c m ⟨36,A,B,C,bz⟩).1,(Cq c m ⟨36,A,B,C,bz⟩).2,dw) by kernel_rfl).trans ?_
  rw[e];kernel_rfl
 ·exact(show jS c m ⟨40,A,B,C,bz⟩=((bif(rD 40 (dt c A) (dt c B))then((⟨c.X,wrap .u32 (c.Pc+wrap .u32 (4*wrap .u32 bz)),c.C3⟩:bq),dw)else(⟨c.X,jL c,c.C3⟩,dw)).1,m,(bif(rD 40 (dt c A) (dt c B))then((⟨c.X,wrap .u32 (c.Pc+wrap .u32 (4*wrap .u32 bz)),c.C3⟩:bq),dw)else(⟨c.X,jL c,c.C3⟩,dw)).2) by kernel_rfl).trans ((LJ (rD 40 (dt c A) (dt c B)) ⟨c.X,wrap .u32 (c.Pc+wrap .u32 (4*wrap .u32 bz)),c.C3⟩ ⟨c.X,jL c,c.C3⟩ m).trans (by kernel_rfl))
 ·exact(show jS c m ⟨41,A,B,C,bz⟩=((bif(rD 41 (dt c A) (dt c B))then((⟨c.X,wrap .u32 (c.Pc+wrap .u32 (4*wrap .u32 bz)),c.C3⟩:bq),dw)else(⟨c.X,jL c,c.C3⟩,dw)).1,m,(bif(rD 41 (dt c A) (dt c B))then((⟨c.X,wrap .u32 (c.Pc+wrap .u32 (4*wrap .u32 bz)),c.C3⟩:bq),dw)else(⟨c.X,jL c,c.C3⟩,dw)).2) by kernel_rfl).trans ((LJ (rD 41 (dt c A) (dt c B)) ⟨c.X,wrap .u32 (c.Pc+wrap .u32 (4*wrap .u32 bz)),c.C3⟩ ⟨c.X,jL c,c.C3⟩ m).trans (by kernel_rfl))
 ·exact(show jS c m ⟨42,A,B,C,bz⟩=((bif(rD 42 (dt c A) (dt c B))then((⟨c.X,wrap .u32 (c.Pc+wrap .u32 (4*wrap .u32 bz)),c.C3⟩:bq),dw)else(⟨c.X,jL c,c.C3⟩,dw)).1,m,(bif(rD 42 (dt c A) (dt c B))then((⟨c.X,wrap .u32 (c.Pc+wrap .u32 (4*wrap .u32 bz)),c.C3⟩:bq),dw)else(⟨c.X,jL c,c.C3⟩,dw)).2) by kernel_rfl).trans ((LJ (rD 42 (dt c A) (dt c B)) ⟨c.X,wrap .u32 (c.Pc+wrap .u32 (4*wrap .u32 bz)),c.C3⟩ ⟨c.X,jL c,c.C3⟩ m).trans (by kernel_rfl))
 ·exact(show jS c m ⟨43,A,B,C,bz⟩=((bif(rD 43 (dt c A) (dt c B))then((⟨c.X,wrap .u32 (c.Pc+wrap .u32 (4*wrap .u32 bz)),c.C3⟩:bq),dw)else(⟨c.X,jL c,c.C3⟩,dw)).1,m,(bif(rD 43 (dt c A) (dt c B))then((⟨c.X,wrap .u32 (c.Pc+wrap .u32 (4*wrap .u32 bz)),c.C3⟩:bq),dw)else(⟨c.X,jL c,c.C3⟩,dw)).2) by kernel_rfl).trans ((LJ (rD 43 (dt c A) (dt c B)) ⟨c.X,wrap .u32 (c.Pc+wrap .u32 (4*wrap .u32 bz)),c.C3⟩ ⟨c.X,jL c,c.C3⟩ m).trans (by kernel_rfl))
 ·exact(show jS c m ⟨44,A,B,C,bz⟩=((bif(rD 44 (dt c A) (dt c B))then((⟨c.X,wrap .u32 (c.Pc+wrap .u32 (4*wrap .u32 bz)),c.C3⟩:bq),dw)else(⟨c.X,jL c,c.C3⟩,dw)).1,m,(bif(rD 44 (dt c A) (dt c B))then((⟨c.X,wrap .u32 (c.Pc+wrap .u32 (4*wrap .u32 bz)),c.C3⟩:bq),dw)else(⟨c.X,jL c,c.C3⟩,dw)).2) by kernel_rfl).trans ((LJ (rD 44 (dt c A) (dt c B)) ⟨c.X,wrap .u32 (c.Pc+wrap .u32 (4*wrap .u32 bz)),c.C3⟩ ⟨c.X,jL c,c.C3⟩ m).trans (by kernel_rfl))
 ·exact(show jS c m ⟨45,A,B,C,bz⟩=((bif(rD 45 (dt c A) (dt c B))then((⟨c.X,wrap .u32 (c.Pc+wrap .u32 (4*wrap .u32 bz)),c.C3⟩:bq),dw)else(⟨c.X,jL c,c.C3⟩,dw)).1,m,(bif(rD 45 (dt c A) (dt c B))then((⟨c.X,wrap .u32 (c.Pc+wrap .u32 (4*wrap .u32 bz)),c.C3⟩:bq),dw)else(⟨c.X,jL c,c.C3⟩,dw)).2) by kernel_rfl).trans ((LJ (rD 45 (dt c A) (dt c B)) ⟨c.X,wrap .u32 (c.Pc+wrap .u32 (4*wrap .u32 bz)),c.C3⟩ ⟨c.X,jL c,c.C3⟩ m).trans (by kernel_rfl))
 ·refine(show jS c m ⟨48,A,B,C,bz⟩=(jk c A (jL c) (wrap .u32 ((uE c A (jL c)).Pc+wrap .u32 (4*wrap .u32 bz))),m,dw) by kernel_rfl).trans ?_
  rw[OB c hA,Tx c hA,(vZ c A (jL c)).1];kernel_rfl
 ·refine(show jS c m ⟨49,A,B,C,bz⟩=(jk c A (jL c) (va c B bz),m,dw) by kernel_rfl).trans ?_
  rw[OB c hA];kernel_rfl
 ·refine(show jS c m ⟨56,A,B,C,bz⟩=(rC c 7 0,m,dw) by kernel_rfl).trans ?_
  rw[Oq hc.a0.1 j5];kernel_rfl
 ·refine(show jS c m ⟨57,A,B,C,bz⟩=(Lh c,m,dw) by kernel_rfl).trans ?_
  rw[Znt hc.a0.1 j5];kernel_rfl
 ·refine(show jS c m ⟨58,A,B,C,bz⟩=(jk c A (aV (A8.l c.C3) bz.toNat 0) (jL c),m,dw) by kernel_rfl).trans ?_
  rw[OB c hA,<-Zm];kernel_rfl
 ·have e:=zK c (wrap .i64 bz) (dt c A)
  refine(show jS c m ⟨59,A,B,C,bz⟩=((⟨(OA c (wrap .i64 bz) (dt c A)).X,wrap .u32 (c.Pc+4),(OA c (wrap .i64 bz) (dt c A)).C3⟩:bq),m,dw) by kernel_rfl).trans ?_
  rw[<-e];kernel_rfl
 ·exact(show jS c m ⟨60,A,B,C,bz⟩=((rb c m ⟨60,A,B,C,bz⟩).1,(rb c m ⟨60,A,B,C,bz⟩).2.2,(rb c m ⟨60,A,B,C,bz⟩).2.1) by kernel_rfl)
 ·exact(show jS c m ⟨61,A,B,C,bz⟩=((rb c m ⟨61,A,B,C,bz⟩).1,(rb c m ⟨61,A,B,C,bz⟩).2.2,(rb c m ⟨61,A,B,C,bz⟩).2.1) by kernel_rfl)
 ·exact(show jS c m ⟨62,A,B,C,bz⟩=((rb c m ⟨62,A,B,C,bz⟩).1,(rb c m ⟨62,A,B,C,bz⟩).2.2,(rb c m ⟨62,A,B,C,bz⟩).2.1) by kernel_rfl)
 ·exact(show jS c m ⟨63,A,B,C,bz⟩=((rb c m ⟨63,A,B,C,bz⟩).1,(rb c m ⟨63,A,B,C,bz⟩).2.2,(rb c m ⟨63,A,B,C,bz⟩).2.1) by kernel_rfl)
 ·exact(show jS c m ⟨64,A,B,C,bz⟩=((rb c m ⟨64,A,B,C,bz⟩).1,(rb c m ⟨64,A,B,C,bz⟩).2.2,(rb c m ⟨64,A,B,C,bz⟩).2.1) by kernel_rfl)
end
theorem zaj(h0:0<=op)(h1:op<256)(h:o5 op≠0):pC op:=by
 have e:=oY (ER (λop=>decide (o5 op=0\/GU op=true)) 256 (by kernel_rfl) h0 h1)
 rcases e with e|e
 ·exact absurd e h
 ·simpa only[GU,pC,aT,decide_eq_true_eq,or_assoc]using e
theorem xj(o:pC op):1<=op/\op<=64:=by
 unfold pC at o
 rcases o with h|h|h|h|h|h|h|h|h|h|h|h|h|h|h|h|h|h|h|h|h|h|h|h|h|h|h|h|h|h|h|h|h|h|h|h|h|h|h|h|h|h|h|h<;>(rw[h];decide)
theorem zj(hw:U w):(Be w).2=true->pC (Be w).1.Op:=by
 have uA:bb .u32 w 24=w/16777216:=by have:=DO (a:=w) 24 (by decide);simpa using this
 obtain⟨w0,w1⟩:=hw
 have eo:wrap .i64 (w/16777216)=w/16777216:=Il (by omega) (by omega)
 have q:(λr:ik×Bool=>r.2=true->pC r.1.Op) (Be w):=by
  simp only[Be,Lq,Tree.m,e9,uA,eo]
  cases hf:o5 (w/16777216)==0
  ·have g:pC (w/16777216):=zaj (by omega) (by omega) (by simpa using hf)
   repeat'(first
    |exactλ_=>g
    |exactλe=>eH (show false=true from e)
    |refine XE (Q:=λr:ik×Bool=>r.2=true->pC r.1.Op) ?_ ?_)
  ·exactλe=>eH (show false=true from e)
 exact q
section
variable (c:bq) (m:List Int)
def TB(x:Int×Int×List Int)(w:Int)(d:ik×Bool):bq×lG×List Int:=
 bif x.2.1 !=0 then(ra c x.2.1 c.Pc,dw,x.2.2)else bif !d.2 then(ra c 1 w,dw,x.2.2)else bif Lm d.1.Op then(bif ba .u32 c.C3.a0 1==0 then(ra c 2 w,dw,x.2.2)else rb c x.2.2 d.1)else rb c x.2.2 d.1
def OC(y:Int×List Int×Int)(d:ik×Bool):bq×List Int×lG:=
 bif y.2.2 !=0 then(rC c y.2.2 c.Pc,y.2.1,dw)else bif !d.2 then(rC c 1 y.1,y.2.1,dw)else bif Oh d.1.Op then(bif !IW c then(rC c 2 y.1,y.2.1,dw)else jS c y.2.1 d.1)else jS c y.2.1 d.1
theorem OD:Bg c m=TB c (lU c m c.Pc 4 1) (o6 (lU c m c.Pc 4 1).2.2 (lU c m c.Pc 4 1).1 4).1 (Be (o6 (lU c m c.Pc 4 1).2.2 (lU c m c.Pc 4 1).1 4).1):=by kernel_rfl
theorem xaj:Cr c m=OC c (TC c m) (Qj (TC c m).1):=by kernel_rfl
theorem yK:TC c m=bif(rW c m c.Pc 4 1).2.2 !=0 then(0,(rW c m c.Pc 4 1).2.1,(rW c m c.Pc 4 1).2.2)else((Cn (rW c m c.Pc 4 1).2.1 (rW c m c.Pc 4 1).1 4).1,(rW c m c.Pc 4 1).2.1,0):=by kernel_rfl
end
theorem yj{m:List Int}(h:fg P m)(hc:iX c)(j5:c.C3.a0<=31):Cr c m=((Bg c m).1,(Bg c m).2.2,(Bg c m).2.1):=by
 obtain⟨k,u,b⟩:=XH h hc hc.pc (.inr rfl) 1
 have tr:∀k b,rC c k b=ra c k b:=Oq hc.a0.1 j5
 rw[xaj,OD,yK,XD h hc j5 hc.pc (.inr rfl) (.inl rfl)]
 generalize lU c m c.Pc 4 1=x at*
 cases hx:x.2.1 !=0
 ·rw [Ol k u (.inr rfl)]
  have hw:U (o6 x.2.2 x.1 4).1:=(Tree.pp (OE k u (.inr rfl))).2
  generalize(o6 x.2.2 x.1 4).1=w at*
  show OC c (w,x.2.2,0) (Qj w)=_
  rw[vg hw]
  have o:=zj hw
  have i:=Tree.post _ (Zp1 w)
  change(Be w).2=true->Qh (Be w).1 at i
  generalize Be w=d at*
  obtain⟨⟨op,A,B,C,bz⟩,ok⟩:=d
  cases ok
  ·simp only[OC,TB,hx,tr];rfl
  ·have o:pC op:=o rfl
   have i:=i rfl
   have p:=qj (C:=C) (B:=B) (bz:=bz) k hc j5 i.a o
   have pv:Oh op=Lm op:=xah (by have:=xj o;omega) (by have:=xj o;omega)
   have kn:(!IW c)=(ba .u32 c.C3.a0 1==0):=by
    show(!(!(ba .u32 c.C3.a0 1==0)))=_
    exact Bool.not_not _
   simp only[OC,TB,hx,tr,pv,kn,p]
   cases Lm op
   ·rfl
   ·cases ba .u32 c.C3.a0 1==0<;>rfl
 ·simp only[OC,TB,hx,cond_true,tr]
theorem qk{a b:Int}:decide (a>=b)=!decide (a<b):=by
 by_cases h:a<b
 ·rw[dY h,dN (by omega)];rfl
 ·rw[dN h,dY (by omega)];rfl
def bits(g:Int)(l:List Nat)(s:Int):Int:=l.foldl (λ(a:Int) (i:Nat)=>wrap .i64 (a+wrap .i64 (ba .u32 (bb .u32 g (i:Int)) 1))) s
theorem vK(b:gw):LK b=bits b.D0 [0,1,2,3,4,5,6,7,8,9,10,11,12,13,14,15,16,17,18,19,20,21,22,23,24,25,26,27,28,29,30,31] 0:=by kernel_rfl
theorem zaD(hg:U g){i:Nat}(hi:i<=32):wrap .i64 (ba .u32 (bb .u32 g (i:Int)) 1)=g/2^i%2:=by
 rw[EU (Ax hg _),DO i hi]
 have:0<=g/2^i%2/\g/2^i%2<2:=by omega
 exact Il (by omega) (by omega)
theorem qL(hg:U g)(l:List Nat):∀s:Int,(∀i∈l,i<=32)->0<=s->s+l.length<=1000->bits g l s=s+(l.map λi=>g/2^i%2).sum:=by
 induction l with
 |nil=>intro s _ _ _;simp[bits]
 |cons i l ih=>
  intro s hl h0 h1
  have h1:s+(l.length+1)<=1000:=by simpa using h1
  have hb:0<=g/2^i%2/\g/2^i%2<2:=by omega
  have e:bits g (i::l) s=bits g l (s+g/2^i%2):=by
   show bits g l (wrap .i64 (s+wrap .i64 (ba .u32 (bb .u32 g (i:Int)) 1)))=_
   rw[zaD hg (hl i (by simp)),Il (by omega) (by omega)]
  rw[e,ih _ (λj hj=>hl j (by simp[hj])) (by omega) (by omega)]
  simp;omega
theorem Zsz(n:ic)(port:Int):Lf n port=TE n port:=by
 simp only[Lf,Od,TE,OF,Tree.m]
 cases n.D2<;>cases n.C4<;>rfl
theorem Z9p(t:iW):Q8 t=TF t:=by
 simp only[Q8,Tf,TF,XJ,Tree.m]
 cases t.F0<;>cases t.D8<;>rfl
theorem Zhx(n:ic)(p:Int):wC n p=TG n p:=by
 simp only[wC,N7,TG,XK,Tree.m]
 cases n.D2<;>cases n.C4<;>rfl
theorem Zdp(d:gg)(p:Int):rB d p=TH d p:=by
  simp only[rB,EK,Td,N6,TH,XL,Tree.m,e9,qk]
  cases decide (d.ab>64)
  . by_cases s:d.C8=0\/d.C8=1\/d.C8=2\/d.C8=3
    . rcases s with s|s|s|s<;>rw[s]
      . rfl
      . by_cases c1:d.F6=1
        . rw[c1];cases decide (d.C5<d.ab)<;>cases decide (wrap .i64 d.C6<p)<;>cases decide (d.C7=[])<;>rfl
        . by_cases c2:d.F6=2
          . rw[c2];cases decide (d.C5<d.ab)<;>cases decide (wrap .i64 d.C6<p)<;>cases(d.C7.length:Int)==128<;>rfl
          . rw[show(d.F6==1)=false by simpa using c1,show(d.F6==2)=false by simpa using c2]
            cases decide (d.C5<d.ab)<;>cases decide (wrap .i64 d.C6<p)<;>rfl
      . rfl
      . rfl
    . rw[show(d.C8==0)=false by simp;omega,show(d.C8==1)=false by simp;omega,show(d.C8==2)=false by simp;omega,show(d.C8==3)=false by simp;omega]
      by_cases n:d.C8<0
      . rw[dY n];rfl
      . rw[dN n,dY (show d.C8>3 by omega)];rfl
  . rfl
theorem xL(c:iH):TJ c=TL c:=by
 show(!decide (c.D9=[]))=decide ((c.D9.length:Int)>0)
 cases c.D9 with
 |nil=>rfl
 |cons a l=>rw[dN (by simp),dY (by simp)];rfl
theorem qak(k:List UInt8):decide (k=[])=((k.length:Int)==0):=by
 cases k with
 |nil=>rfl
 |cons a l=>
  rw[dN (by simp)]
  exact(beq_eq_false_iff_ne.2 (by simp;omega)).symm
theorem Zrj(c:iH)(port:Int):XM c port=LM c port:=by
 simp only[XM,IH,LM,GV,Tree.m,qak]
 cases port==0
 ·rfl
 ·cases(c.D9.length:Int)==0<;>rfl
theorem zL(t:iW)(v:Int):N8 t v=XN v:=by
 simp only[N8,Te,XN,XO,Tree.m]
 cases h:v==0
 ·rw[show(v !=0)=true by simp only[bne,h];rfl];rfl
 ·rw[show(v !=0)=false by simp only[bne,h];rfl,eq_of_beq h];rfl
section
variable {P:Nat} {m:List Int} (h:fg P m)
include h
theorem Zrf(f:Int):N4 m f=tO m f:=by
 have a:=uy h
 have b:=DT h
 simp only[N4,Tb,tO,Ql,Tree.m,e9,a,b]
theorem Zsl(f:Int):K5 m f=tO m f:=by
 have a:=uy h
 have b:=DT h
 simp only[K5,Tc,tO,Ql,Tree.m,e9,a,b]
theorem Zjd(d:gg)(port v gv:Int):XP d m port v gv=XQ d m port v gv:=by
  have pg:=Zrf h
  have pa:=Zjs h
  have rq: ∀d a,XR d a=XS d a:=λ_ _=>rfl
  simp only[XP,K7,Z0n,K6,XQ,LN,Tree.m,e9,pg,pa,rq]
  cases port==4
  . cases port==5
    . cases h6:port==6
      . rw[show(port !=6)=true by simp only[bne,h6];rfl];rfl
      . rw [show(port !=6)=false by simp only[bne,h6];rfl]
        by_cases v1:v=1
        . subst v1
          cases hs:d.C8==0
          . rw[show(d.C8 !=0)=true by simp only[bne,hs];rfl];rfl
          . rw[show(d.C8 !=0)=false by simp only[bne,hs];rfl];rfl
        . by_cases v2:v=2
          . subst v2
            cases hs:d.C8==0
            . rw[show(d.C8 !=0)=true by simp only[bne,hs];rfl];rfl
            . rw[show(d.C8 !=0)=false by simp only[bne,hs];rfl];rfl
          . rw[show(v==1)=false by simpa using v1,show(v==2)=false by simpa using v2]
            cases v==0
            . rfl
            . have:K8 d=(bif d.C8==2 then true else d.C8==3):=rfl
              rw[this]
              cases d.C8==2<;>cases d.C8==3<;>rfl
    . rfl
  . rfl
theorem Zn3(n:ic)(port v gv:Int):XT n m port v gv=XU n m port v gv:=by
  have pg:=Zsl h
  have pa:=Zjs h
  simp only[XT,La,Zft,K9,XU,LO,Tree.m,e9,pg,pa]
  have g1:decide (n.F7>=1)=!decide (n.F7<1):=qk
  have g2:decide (n.F7<=128)=!decide (n.F7>128):=by
    by_cases h:n.F7>128
    . rw[dY h,dN (by omega)];rfl
    . rw[dN h,dY (by omega)];rfl
  rw[g1,g2]
  cases port==7
  . cases port==8
    . cases h9:port==9
      . rw[show(port !=9)=true by simp only[bne,h9];rfl];rfl
      . rw [show(port !=9)=false by simp only[bne,h9];rfl]
        by_cases v1:v=1
        . subst v1
          cases decide (n.F7<1)<;>cases decide (n.F7>128)<;>cases tO m n.Frame<;>rfl
        . by_cases v2:v=2
          . subst v2;rfl
          . rw[show(v==1)=false by simpa using v1,show(v==2)=false by simpa using v2]
            cases v==0<;>rfl
    . rfl
  . rfl
end
def XV:List UInt8:=(cW 256).map λn=>eD (n%2+n/2%2+n/4%2+n/8%2+n/16%2+n/32%2+n/64%2+n/128%2)
def pt(n:Int):Int:=((UInt8.toNat (XV.getD n.toNat 0):Nat):Int)
theorem yL(x:Int):XW x=wrap .i64 (wrap .u8 (wrap .u8 (wrap .u8 (pt (bb .u32 x 24)+pt (ba .u32 (bb .u32 x 16) 255))+pt (ba .u32 (bb .u32 x 8) 255))+pt (ba .u32 x 255))):=by kernel_rfl
theorem OG(h0:0<=a)(h1:a<256):pt a=a%2+a/2%2+a/4%2+a/8%2+a/16%2+a/32%2+a/64%2+a/128%2:=
 eq_of_beq (ER (λa=>pt a==a%2+a/2%2+a/4%2+a/8%2+a/16%2+a/32%2+a/64%2+a/128%2) 256 (by kernel_rfl) h0 h1)
theorem xk(hg:U g):bits g [0,1,2,3,4,5,6,7,8,9,10,11,12,13,14,15,16,17,18,19,20,21,22,23,24,25,26,27,28,29,30,31] 0=pt (g%256)+pt (g/256%256)+pt (g/65536%256)+pt (g/16777216):=by
 rw[qL hg _ 0 (by decide) (by decide) (by decide),OG (by omega) (by omega),OG (by omega) (by omega),OG (by omega) (by omega),OG (by have:=hg.1;omega) (by have:=hg.2;omega)]
 obtain⟨g0,g1⟩:=hg
 simp only[List.map_cons,List.map_nil,List.sum_cons,List.sum_nil]
 have e:∀i j:Nat,∀k:Int,i<8->k=2^j->g/2^(i+j)%2=(g/k%256)/2^i%2:=λi j k hi hk=>by
  subst hk
  rw[Nat.add_comm,dL,<-eI (dK (dI (by decide)))]
  generalize g/2^j=x
  have:i=0\/i=1\/i=2\/i=3\/i=4\/i=5\/i=6\/i=7:=by omega
  rcases this with rfl|rfl|rfl|rfl|rfl|rfl|rfl|rfl<;>simp<;>omega
 have e0:∀i:Nat,i<8->g/2^i%2=(g%256)/2^i%2:=λi hi=>by have:=e i 0 1 hi rfl;simpa using this
 have e24:g/16777216%256=g/16777216:=by omega
 rw[e0 0 (by decide),e0 1 (by decide),e0 2 (by decide),e0 3 (by decide),e0 4 (by decide),e0 5 (by decide),e0 6 (by decide),e0 7 (by decide)]
 rw[e 0 8 256 (by decide) (by decide),e 1 8 256 (by decide) (by decide),e 2 8 256 (by decide) (by decide),e 3 8 256 (by decide) (by decide),e 4 8 256 (by decide) (by decide),e 5 8 256 (by decide) (by decide),e 6 8 256 (by decide) (by decide),e 7 8 256 (by decide) (by decide)]
 rw[e 0 16 65536 (by decide) (by decide),e 1 16 65536 (by decide) (by decide),e 2 16 65536 (by decide) (by decide),e 3 16 65536 (by decide) (by decide),e 4 16 65536 (by decide) (by decide),e 5 16 65536 (by decide) (by decide),e 6 16 65536 (by decide) (by decide),e 7 16 65536 (by decide) (by decide)]
 rw[e 0 24 16777216 (by decide) (by decide),e 1 24 16777216 (by decide) (by decide),e 2 24 16777216 (by decide) (by decide),e 3 24 16777216 (by decide) (by decide),e 4 24 16777216 (by decide) (by decide),e 5 24 16777216 (by decide) (by decide),e 6 24 16777216 (by decide) (by decide),e 7 24 16777216 (by decide) (by decide),e24]
 generalize g%256=a
 generalize g/256%256=b
 generalize g/65536%256=c
 generalize g/16777216=d
 simp only[show(2:Int)^0=1 from rfl,show(2:Int)^1=2 from rfl,show(2:Int)^2=4 from rfl,show(2:Int)^3=8 from rfl,show(2:Int)^4=16 from rfl,show(2:Int)^5=32 from rfl,show(2:Int)^6=64 from rfl,show(2:Int)^7=128 from rfl,Int.ediv_one]
 omega
theorem wH(h0:0<=a)(h1:a<256):0<=pt a/\pt a<=8:=by rw[OG h0 h1];omega
theorem Zca(hg:U b.D0):Qe b=LK b/\0<=LK b/\LK b<=32:=by
 obtain⟨s8,Bd,uA⟩:=GP b.D0
 have u8:U (bb .u32 b.D0 8):=Ax hg _
 have u16:U (bb .u32 b.D0 16):=Ax hg _
 have e:Qe b=XW b.D0:=rfl
 rw[e,yL,vK,xk hg,Ci u8,Ci u16,Ci hg,s8,Bd,uA]
 obtain⟨g0,g1⟩:=hg
 have p0:=wH (a:=b.D0%256) (by omega) (by omega)
 have p1:=wH (a:=b.D0/256%256) (by omega) (by omega)
 have p2:=wH (a:=b.D0/65536%256) (by omega) (by omega)
 have p3:=wH (a:=b.D0/16777216) (by omega) (by omega)
 have w8:∀x,wrap .u8 x=x%256:=λx=>wrap_u8 x
 rw[w8,w8,w8,wrap_i64]
 omega
theorem Zlg(h:okB b):OH b=OI b:=by
 obtain⟨e,l0,l1⟩:=Zca h.2
 obtain⟨t0,t1⟩:=h.1
 simp only[OH,LP,OI,XX,Tree.m,e9,e]
 rw[wrap_u32,wrap_u64,wrap_u64,dH l0 (by omega),dH l0 (by omega),dH t0 (by omega)]
theorem Ztj(h:okB b)(port:Int):XY b port=LQ b port:=by
 simp only[XY,Lg,LQ,LR,Tree.m,e9,(Zca h.2).1]
theorem zak(g:Int)(z:Nat):g%2^(z+1)=g%2^z+2^z*(g/2^z%2):=by
 have hp:(0:Int)<2^z:=dI (by decide)
 have h1:=eJ g (2^z)
 have h2:=eJ (g/2^z) 2
 have h3:(g/2^z)/2=g/2^(z+1):=by rw[eK,eI (dK hp)]
 have h4:=eJ g (2^(z+1))
 rw[h3]at h2
 have h5:(2:Int)^(z+1)*(g/2^(z+1))=2^z*(2*(g/2^(z+1))):=by rw[eK,Int.mul_assoc]
 have h6:(2:Int)^z*(g/2^z)=2^z*(2*(g/2^(z+1)))+2^z*(g/2^z%2):=by rw[<-Int.mul_add,h2]
 omega
theorem xaD(hg:U b.D0)(hP:P<=32):(LS b P).w (λr=>r=decide (b.D0<2^P)):=by
 unfold LS
 have fin:∀v:Int,0<=v->v<=32->wrap .u64 v=(v.toNat:Int):=λv h0 h1=>by rw[wrap_u64];omega
 refine fv (inv:=λz:Int=>0<=z/\z<=32/\b.D0%2^z.toNat<2^P) (μ:=TM b P) ⟨by decide,by decide,by have:(0:Int)<2^P:=dI (by decide);simpa using this⟩ (cN _) λz ⟨z0,z1,z2⟩=>?_
 refine ae (λhb=>?_) (λhb=>?_)
 ·have hb:=oY hb
  have ew:i64.wrap (z+1)=z+1:=Il (by omega) (by omega)
  have bt:ba .u32 (bb .u32 b.D0 (wrap .u64 z)) 1=b.D0/2^z.toNat%2:=by
   rw[fin z z0 z1,EU (Ax hg _),DO _ (by omega)]
  have bp:=zak b.D0 z.toNat
  have zt:(z+1).toNat=z.toNat+1:=by omega
  refine aw (dY (by rw[wrap_u64];omega)) ?_
  rw[bt]
  refine ae (λe=>ae (λhp=>?_) (λhp=>ff ?_)) (λe=>ff ?_)
  ·have e:=eq_of_beq e
   have hp:=oY hp
   show false=_
   refine(dN λbg=>?_).symm
   have hle:(2:Int)^P<=2^z.toNat:=by exact_mod_cast dO (show 0<2 by decide) (show P<=z.toNat by omega)
   have:b.D0/2^z.toNat=0:=Int.ediv_eq_zero_of_lt hg.1 (by omega)
   rw[this]at e;cases e
  ·have e:=eq_of_beq e
   have hp:=oN hp
   show(0<=i64.wrap (z+1)/\i64.wrap (z+1)<=32/\b.D0%2^(i64.wrap (z+1)).toNat<2^P)/\(32-i64.wrap (z+1)).toNat<(32-z).toNat
   rw[ew,zt]
   have hle:(2:Int)^(z.toNat+1)<=2^P:=by exact_mod_cast dO (show 0<2 by decide) (show z.toNat+1<=P by omega)
   have:=Int.emod_lt_of_pos b.D0 (show(0:Int)<2^(z.toNat+1) from dI (by decide))
   exact⟨⟨by omega,by omega,by omega⟩,by omega⟩
  ·have e:¬b.D0/2^z.toNat%2=1:=by simpa using e
   have e:b.D0/2^z.toNat%2=0:=by omega
   rw[e]at bp
   show(0<=i64.wrap (z+1)/\i64.wrap (z+1)<=32/\b.D0%2^(i64.wrap (z+1)).toNat<2^P)/\(32-i64.wrap (z+1)).toNat<(32-z).toNat
   rw[ew,zt,bp]
   exact⟨⟨by omega,by omega,by omega⟩,by omega⟩
 ·have hb:=oN hb
  have:z=32:=by omega
  subst this
  show true=_
  refine(dY ?_).symm
  have h2:b.D0%2^(32:Int).toNat=b.D0:=dH hg.1 hg.2
  rwa [h2]at z2
theorem Zom(hg:U b.D0)(hP:P<=32):Bb b P=TN b P:=by
 have r:=(Tree.pp (xaD hg hP)).2
 change TN b P=_ at r
 rw[r,eB,Oa hg,decide_eq_true_eq]
theorem OJ:strings_Repeat [(0:UInt8)] 128=cO 128 0:=by kernel_rfl
theorem qaE{m:List Int}(hm:fg P m){port:Int}(hv:U v)(hp:v<P)(EV:port=10)(hb:(ba .u32 (bb .u32 b.D0 v) 1==0)=true):(Bh b m port v).w (λr=>r.1={A2:=b.A2,D0:=iU .u32 b.D0 (fh .u32 1 v)}/\fg P r.2/\∀k:Nat,lJ r.2 k=if v*128<=k/\(k:Int)<v*128+128 then 0 else lJ m k):=by
 have DM:decide (0<=v)=true:=dY hv.1
 have h2:=hm.p2
 have pg:tO m v=true:=by rw[TO hm hv];exact dY hp
 obtain⟨v1,v2⟩:=hv
 subst EV
 unfold Bh
 refine ae (λ_=>aq λx0 hx=>ae (λ_=>aw DM (ae (λ_=>aw DM ?_) (λh=>by rw[hb]at h;cases h))) (λh=>by rw[hx,pg]at h;cases h)) (λh=>by cases h)
 refine fv (inv:=λz=>0<=z.1/\z.1<=32/\fg P z.2/\∀k:Nat,lJ z.2 k=if v*128<=k/\(k:Int)<v*128+4*z.1 then 0 else lJ m k) (μ:=XZ b m 10 v) ⟨show(0:Int)<=0 by decide,show(0:Int)<=32 by decide,hm,λk=>by rw[if_neg];show¬(_/\_<_+4*(0:Int));omega⟩ (cN _) (λz hz=>?_)
 obtain⟨z1,z2,z3,z4⟩:=hz
 have hl:=z3.len
 refine ae (λh=>?_) (λh=>⟨rfl,z3,λk=>?_⟩)
 ·have h:=oY h
  have e:wrap i64 (wrap i64 (wrap i64 v*32)+z.1)=v*32+z.1:=by rw[wrap_i64,wrap_i64,wrap_i64];omega
  refine aw (by rw[e];simp[bN];omega) (ff ?_)
  have ew:i64.wrap (z.1+1)=z.1+1:=by rw[wrap_i64];omega
  show(0<=i64.wrap (z.1+1)/\i64.wrap (z.1+1)<=32/\fg P (dB _ _ _)/\∀k:Nat,lJ (dB z.2 (dA (wrap i64 (wrap i64 (wrap i64 v*32)+z.1))) 0) k=if v*128<=(k:Int)/\(k:Int)<v*128+4*i64.wrap (z.1+1)then 0 else _)/\(32-i64.wrap (z.1+1)).toNat<(32-z.1).toNat
  rw[ew,e]
  refine⟨⟨by omega,by omega,⟨by simp[hl],z3.p1,z3.p2,EI z3.u gu _⟩,λk=>?_⟩,by omega⟩
  rw[zh (by omega)]
  by_cases hc:k/4=(v*32+z.1).toNat
  ·rw[if_pos hc,if_pos (by omega)]
   have:k%4=0\/k%4=1\/k%4=2\/k%4=3:=by omega
   rcases this with h|h|h|h<;>rw[h]<;>rfl
  ·rw[if_neg hc,z4 k]
   by_cases hd:v*128<=(k:Int)/\(k:Int)<v*128+4*z.1
   ·rw[if_pos hd,if_pos (by omega)]
   ·rw[if_neg hd,if_neg (by omega)]
 ·have h:=oN h
  show lJ z.2 k=_
  rw[z4 k,show z.1=32 by omega];rfl
theorem X0(hg:U g)(v0:0<=v)(v1:v<32):(ba .u32 g (fh .u32 1 v)==0)=(ba .u32 (bb .u32 g v) 1==0):=by
 obtain⟨z,rfl⟩:∃z:Nat,v=z:=⟨v.toNat,by omega⟩
 obtain⟨n,rfl⟩:∃n:Nat,g=n:=⟨g.toNat,by have:=hg.1;omega⟩
 have hz:z<32:=by omega
 have bg:(2:Nat)^z<4294967296:=by have:=dW (show 1<2 by omega) hz;simpa using this
 rw[EU (Ax hg _),DO z (by omega),qg v0 v1,dX]
 have hc:((2:Int)^z)=((2^z:Nat):Int):=by simp
 generalize hq:2^z=q at*
 rw[hc,Xl hg ⟨by omega,by omega⟩,dX,dX,<-hq]
 have e1:(n&&&2^z)=0↔n/2^z%2=0:=by
  have t:n.testBit z=decide (n/2^z%2=1):=Nat.testBit_eq_decide_div_mod_eq
  constructor
  ·intro h
   have h2:(n&&&2^z).testBit z=false:=by rw[h];exact eL z
   rw[eM,Nat.testBit_two_pow_self,Bool.and_true,t]at h2
   have:=oN h2
   omega
  ·intro h
   have t0:n.testBit z=false:=by rw[t];exact dN (by omega)
   apply Nat.eq_of_testBit_eq
   intro i
   rw[eM,Nat.testBit_two_pow,eL]
   by_cases hi:z=i
   ·subst hi;rw[t0];rfl
   ·rw[dN hi,Bool.and_false]
 rw[eB,beq_iff_eq,beq_iff_eq]
 constructor
 ·intro h;have:=e1.1 (by omega);omega
 ·intro h;have:=e1.2 (by omega);omega
theorem Zob{m:List Int}(h:fg P m)(hb:okB b)(port:Int)(hv:U v):GW b m port v=Bi b m port v:=by
  have ju:kK m=m:=rfl
  have hp:=uy h
  have h2:=h.p2
  have ew:i64.wrap v=v:=Il (by have:=hv.1;omega) (by have:=hv.2;omega)
  have pe:=TO h hv
  by_cases X1:v<32
  . have bv :=X0 hb.2 hv.1 X1
    by_cases EV:port=10
    . by_cases hP:v<P
      . cases hz:ba .u32 (bb .u32 b.D0 v) 1==0
        . simp only[GW,DQ,Bi,Bh,Tree.m,e9,ju,hp,ew,pe,bv,hz,EV,dY hP,dN (show¬v>=32 by omega)]
          rfl
        . obtain⟨g1,g2,g3⟩:=(Tree.pp (qaE h hv hP EV hz)).2
          change(Bi b m port v).1=_ at g1
          change fg P (Bi b m port v).2 at g2
          change∀k:Nat,lJ (Bi b m port v).2 k=_ at g3
          obtain⟨s1,s2,s3⟩:=(Tree.pp (Xs h hv.1 hP (s:=cO 128 0) (by simp))).2
          have em:(rY m v (cO 128 0)).1=(Bi b m port v).2:=by
            refine xh (s2.len.trans g2.len.symm) s2.u g2.u λk=> ?_
            rw[g3 k]
            refine(s3 k).trans ?_
            by_cases hk:v*128<=(k:Int)/\(k:Int)<v*128+128
            . rw[if_pos hk,if_pos hk]
              have:(cO 128 (0:UInt8)).getD ((k:Int)-v*128).toNat 0=0:=by
                rw[cX,List.getElem?_replicate]
                split<;>rfl
              rw[this];rfl
            . rw[if_neg hk,if_neg hk]
          have el:GW b m port v=({A2:=b.A2,D0:=iU .u32 b.D0 (fh .u32 1 v)},(rY m v (cO 128 0)).1):=by
            simp only[GW,DQ,Tree.m,e9,ju,hp,ew,bv,hz,EV,dY hP,dN (show¬v>=32 by omega),OJ]
            rfl
          rw[el,em,<-g1]
      . simp only[GW,DQ,Bi,Bh,Tree.m,e9,ju,hp,ew,pe,EV,dN hP,dN (show¬v>=32 by omega)]
        rfl
    . simp only[GW,DQ,Bi,Bh,Tree.m,e9,ju,dY X1,dN (show¬v>=32 by omega),show(port==10)=false by simpa using EV]
      cases port==11<;>rfl
  . simp only[GW,DQ,Bi,Bh,Tree.m,e9,ju,pe,dN X1,dY (show v>=32 by omega),dN (show¬v<P by omega)]
    cases port==10<;>cases port==11<;>rfl
structure LU(m:bd):Prop where
 oB:iX m.B2
 mem:∀w∈m.Mem,U w
 mw:Au m.B5
 wE:uz m.D1
 LV:okB m.A7
 tL:0<=m.B7
theorem Zje(m:List Int)(hm:∀w∈m,U w):jW m=wG m/\(jW m=0\/∃P:Nat,1<=P/\fg P m):=by
 refine⟨rfl,?_⟩
 simp only[jW,GG,Tree.m]
 cases h1:cZ (m.length:Int) 32 !=0
 ·cases h2:decide ((m.length:Int)>1024)
  ·have h1:cZ (m.length:Int) 32=0:=by simpa using h1
   have h2:=oN h2
   rw[dZ (by omega)]at h1
   by_cases h0:m.length=0
   ·left;rw[h0];rfl
   ·right;exact⟨m.length/32,by omega,⟨by omega,by omega,by omega,hm⟩⟩
  ·left;rfl
 ·left;rfl
theorem Cs{a x:Bool}:(bif !a then false else x)=true↔a=true/\x=true:=by cases a<;>simp
theorem vL(m:bd):I0 m=true↔ ¬(wG m.Mem<1)/\nC m.B2/\Qjy m.B3=true/\TF m.B8=true/\TH m.B5 (wG m.Mem)=true/\TG m.D1 (wG m.Mem)=true/\TN m.A7 (wG m.Mem)=true/\m.B7<=1152921504606846976/\¬(m.B4=true/\m.B6=true):=by
 simp only[I0,X2,Tree.m,e9]
 rw[nb,nb,nb,nb,nb,nb,Cs,Cs,Cs,Cs,Cs]
 simp only[decide_eq_false_iff_not,Int.not_lt,bne_eq_false_iff_eq,gt_iff_lt]
 have l:((bif decide (m.B7<=1152921504606846976)then(bif m.B4 then !m.B6 else true)else false)=true)↔m.B7<=1152921504606846976/\¬(m.B4=true/\m.B6=true):=by
  by_cases hc:m.B7<=1152921504606846976
  ·rw[dY hc]
   cases m.B4<;>cases m.B6<;>simp[hc]
  ·rw[dN hc];simp[hc]
 rw[l]
 constructor
 ·rintro⟨a1,a2,a3,a4,a5,a6,a7⟩
  exact⟨by omega,⟨a2,a3,a4,a5,a6⟩,a7⟩
 ·rintro⟨a1,⟨a2,a3,a4,a5,a6⟩,a7⟩
  exact⟨by omega,a2,a3,a4,a5,a6,a7⟩
theorem Zpk{m:bd}(h:LU m):Bc m=I0 m:=by
 rw[eB,Lk,vL,zZ]
 obtain⟨e,c⟩:=Zje m.Mem h.mem
 simp only[aE,<-e]
 rcases c with c|⟨P,hP,hm⟩
 ·constructor
  ·rintro⟨a,_⟩;exact absurd c a
  ·rintro⟨a,_⟩;omega
 ·rw[uy hm,Z9p,Zdp,Zhx,Zom h.LV.2 hm.p2]
  constructor
  ·rintro⟨a1,a2,a3,a4,a5,a6,a7,a8,a9⟩;exact⟨by omega,a2,a5,a6,a7,a8,a9,a3,a4⟩
  ·rintro⟨a1,a2,a5,a6,a7,a8,a9,a3,a4⟩;exact⟨by omega,a2,a3,a4,a5,a6,a7,a8,a9⟩
def TP(a b c d e:Bool):Int:=iU .u32 (iU .u32 (iU .u32 (iU .u32 (DY a 0) (DY b 1)) (DY c 2)) (DY d 3)) (DY e 4)
theorem I1(m:bd):TQ m=TP (X3 m.B8) (TJ m.B3) (K8 m.B5) (Qp m.D1) (OH m.A7):=by
 unfold TQ LW
 simp only[Tree.m,e9]
 generalize X3 m.B8=a
 generalize TJ m.B3=b
 generalize K8 m.B5=c
 generalize Qp m.D1=d
 generalize OH m.A7=e
 cases a<;>cases b<;>cases c<;>cases d<;>cases e<;>kernel_rfl
theorem Zt5(a b c d e:Bool):0<=TP a b c d e/\TP a b c d e<32:=by
 cases a<;>cases b<;>cases c<;>cases d<;>cases e<;>decide
theorem Ct(m:bd):OK m=TP (X4 m.B8) (TL m.B3) (X5 m.B5) (X6 m.D1) (OI m.A7):=rfl
section
variable {m:bd} (h:LU m)
include h
theorem Zre:TQ m=OK m:=by
 rw[I1,Ct,xL,Zlg h.LV];rfl
theorem Z1a:LX m=Bj m:=by
 have e:=Zre h
 simp only[LX,LY,Bj,LZ,Tree.m,e9,e]
theorem zk:Tl m=I2 m:=by
 have e:=Z1a h
 simp only[Tl,L0,I2,L1,Tree.m,e9,e]
theorem Zhu:EP m=!GX m:=by
 have e1:=Zpk h
 have e2:=zk h
 have e3:decide (m.B7>=1152921504606846976)=!decide (m.B7<1152921504606846976):=qk
 simp only[EP,IM,GX,TR,Tree.m,e9,e1,e2,e3]
 cases I0 m<;>cases m.B6<;>cases I2 m<;>cases decide (m.B7<1152921504606846976)<;>rfl
theorem Zb5:0<=Bj m/\Bj m<32:=by
 have e:Bj m=ba .u32 (OK m) m.B2.C3.a7:=rfl
 have l:=Zt5 (X4 m.B8) (TL m.B3) (X5 m.B5) (X6 m.D1) (OI m.A7)
 rw[<-Ct]at l
 rw[e,Xl ⟨l.1,by omega⟩ h.oB.a7]
 have:=dV (n:=(OK m).toNat) (m:=m.B2.C3.a7.toNat)
 omega
def low(l:Int):Int:=if l%2=1 then 0 else if l/2%2=1 then 1 else if l/4%2=1 then 2 else if l/8%2=1 then 3 else 4
end
theorem wI{l:Int}(h0:0<=l)(h1:l<32):l=0\/l=1\/l=2\/l=3\/l=4\/l=5\/l=6\/l=7\/l=8\/l=9\/l=10\/l=11\/l=12\/l=13\/l=14\/l=15\/l=16\/l=17\/l=18\/l=19\/l=20\/l=21\/l=22\/l=23\/l=24\/l=25\/l=26\/l=27\/l=28\/l=29\/l=30\/l=31:=by omega
def I3(m:bd)(l:Int):bq:=bif ba .u32 m.B2.C3.a0 2==0 then m.B2 else bif l==0 then m.B2 else ra m.B2 (wrap .i64 (16+low l)) 0
theorem OL{m:bd}(h:LU m):rF m=I3 m (Bj m):=by
 obtain⟨l0,l1⟩:=Zb5 h
 unfold rF L2
 simp only[Tree.m,e9]
 revert l0 l1
 generalize Bj m=l
 intro l0 l1
 unfold I3
 cases ba .u32 m.B2.C3.a0 2==0
 ·rcases wI l0 l1 with rfl|rfl|rfl|rfl|rfl|rfl|rfl|rfl|rfl|rfl|rfl|rfl|rfl|rfl|rfl|rfl|rfl|rfl|rfl|rfl|rfl|rfl|rfl|rfl|rfl|rfl|rfl|rfl|rfl|rfl|rfl|rfl<;>kernel_rfl
 ·rfl
def X7(m:bd)(c:bq):bd:={B2:=c,Mem:=m.Mem,B3:=m.B3,B8:=m.B8,B5:=m.B5,D1:=m.D1,A7:=m.A7,B7:=m.B7,B4:=false,B6:=m.B6}
theorem Ztr{m:bd}(h:LU m)(j5:m.B2.C3.a0<=31):pE m=X7 m (rF m):=by
 obtain⟨l0,l1⟩:=Zb5 h
 have tr:∀k b,rC m.B2 k b=ra m.B2 k b:=Oq h.oB.a0.1 j5
 have e:LX (X7 m m.B2)=Bj m:=Z1a (m:=X7 m m.B2) ⟨h.oB,h.mem,h.mw,h.wE,h.LV,h.tL⟩
 rw[OL h]
 unfold pE Ll
 simp only[Tree.m,e9]
 rw[show LX {B2:=m.B2,Mem:=m.Mem,B3:=m.B3,B8:=m.B8,B5:=m.B5,D1:=m.D1,A7:=m.A7,B7:=m.B7,B4:=false,B6:=m.B6}=Bj m from e]
 revert l0 l1
 generalize Bj m=l
 intro l0 l1
 unfold I3
 simp only[<-tr]
 cases ba .u32 m.B2.C3.a0 2==0
 ·rcases wI l0 l1 with rfl|rfl|rfl|rfl|rfl|rfl|rfl|rfl|rfl|rfl|rfl|rfl|rfl|rfl|rfl|rfl|rfl|rfl|rfl|rfl|rfl|rfl|rfl|rfl|rfl|rfl|rfl|rfl|rfl|rfl|rfl|rfl<;>(show _=_;kernel_rfl)
 ·rfl
theorem GY{p:Int}:p=0\/p=1\/p=2\/p=3\/p=4\/p=5\/p=6\/p=7\/p=8\/p=9\/p=10\/p=11\/p<0\/12<=p:=by omega
theorem xak{m:bd}(hb:okB m.A7)(port clock:Int):uF m port clock=((DZ m port clock).2,(DZ m port clock).1):=by
 have e1:=Zrj m.B3
 have e2:∀p,Oc m.B5 p=X8 m.B5 p:=λ_=>rfl
 have e3:=Zsz m.D1
 have e4:=Ztj hb
 have e5:Xe m.B8=X9 m.B8:=rfl
 simp only[uF,Ld,DZ,NH,Tree.m,e9,e1,e2,e3,e4,e5]
 rcases GY (p:=port)with rfl|rfl|rfl|rfl|rfl|rfl|rfl|rfl|rfl|rfl|rfl|rfl|h|h
 all_goals first|rfl|skip
 ·have n:∀k:Int,0<=k->(port==k)=false:=λk hk=>beq_eq_false_iff_ne.2 (by omega)
  have c:LM m.B3 port=(m.B3,0):=by
   simp only[LM,GV,Tree.m,n 0 (by decide),n 1 (by decide),cond_false]
  simp only[n 0 (by decide),n 1 (by decide),n 2 (by decide),n 3 (by decide),n 4 (by decide),n 5 (by decide),n 6 (by decide),n 7 (by decide),n 8 (by decide),n 9 (by decide),n 10 (by decide),n 11 (by decide),cond_false,dY (show port<=1 by omega),cond_true,c]
 ·have n:∀k:Int,k<12->(port==k)=false:=λk hk=>beq_eq_false_iff_ne.2 (by omega)
  have c:LQ m.A7 port=0:=by
   simp only[LQ,LR,Tree.m,n 10 (by decide),n 11 (by decide),cond_false]
  simp only[n 0 (by decide),n 1 (by decide),n 2 (by decide),n 3 (by decide),n 4 (by decide),n 5 (by decide),n 6 (by decide),n 7 (by decide),n 8 (by decide),n 9 (by decide),n 10 (by decide),n 11 (by decide),cond_false,dN (show¬port<=1 by omega),dN (show¬port<=6 by omega),dN (show¬port<=9 by omega),c]
theorem qM{m:bd}(hm:fg P m.Mem)(hb:okB m.A7)(port:Int)(hv:U v):EW m port v m.B7=((EY m port v).2,(EY m port v).1):=by
 have e1:=Zjd hm m.B5
 have e2:=Zn3 hm m.D1
 have e3:=Zob hm hb port hv
 have e4:=zL m.B8 v
 simp only[EW,Lc,EY,KI,Tree.m,e9,e1,e2,e3,e4]
 rcases GY (p:=port)with rfl|rfl|rfl|rfl|rfl|rfl|rfl|rfl|rfl|rfl|rfl|rfl|h|h
 all_goals first|rfl|skip
 ·have n:∀k:Int,0<=k->(port==k)=false:=λk hk=>beq_eq_false_iff_ne.2 (by omega)
  simp only[n 0 (by decide),n 1 (by decide),n 2 (by decide),n 3 (by decide),n 4 (by decide),n 5 (by decide),n 6 (by decide),n 7 (by decide),n 8 (by decide),n 9 (by decide),n 10 (by decide),n 11 (by decide),cond_false,dY (show port<=2 by omega),cond_true]
 ·have n:∀k:Int,k<12->(port==k)=false:=λk hk=>beq_eq_false_iff_ne.2 (by omega)
  have c:Bi m.A7 m.Mem port v=(m.A7,m.Mem):=by
   simp only[Bi,Bh,Tree.m,n 10 (by decide),n 11 (by decide),cond_false]
  simp only[n 0 (by decide),n 1 (by decide),n 2 (by decide),n 3 (by decide),n 4 (by decide),n 5 (by decide),n 6 (by decide),n 7 (by decide),n 8 (by decide),n 9 (by decide),n 10 (by decide),n 11 (by decide),cond_false,dN (show¬port<=2 by omega),dN (show¬port<=6 by omega),dN (show¬port<=9 by omega),c]
def tick(n:bd)(c:bq)(w h:Bool):bd:={B2:=c,Mem:=n.Mem,B3:=n.B3,B8:=n.B8,B5:=n.B5,D1:=n.D1,A7:=n.A7,B7:=wrap .u64 (n.B7+1),B4:=w,B6:=h}
def GZ(m:bd)(c:bq)(mem:List Int):bd:={B2:=c,Mem:=mem,B3:=m.B3,B8:=m.B8,B5:=m.B5,D1:=m.D1,A7:=m.A7,B7:=m.B7,B4:=false,B6:=m.B6}
def EZ(n:bd)(e:lG)(clock gv:Int):bd×List iB:=
 bif e.C2==1 then
  (bif e.F9 !=0 then(tick (uF n e.E0 clock).1 {X:=iv.of 0 (dB (iv.l (uF n e.E0 clock).1.B2.X) e.F9.toNat (uF n e.E0 clock).2),Pc:=(uF n e.E0 clock).1.B2.Pc,C3:=(uF n e.E0 clock).1.B2.C3} (uF n e.E0 clock).1.B4 (uF n e.E0 clock).1.B6,[])
  else(tick (uF n e.E0 clock).1 (uF n e.E0 clock).1.B2 (uF n e.E0 clock).1.B4 (uF n e.E0 clock).1.B6,[]))
 else bif e.C2==2 then(tick (EW n e.E0 e.Value gv).1 (EW n e.E0 e.Value gv).1.B2 (EW n e.E0 e.Value gv).1.B4 (EW n e.E0 e.Value gv).1.B6,(EW n e.E0 e.Value gv).2)
 else bif e.C2==3 then(tick n n.B2 true n.B6,[])else bif e.C2==4 then(tick n n.B2 n.B4 true,[])else(tick n n.B2 n.B4 n.B6,[])
def Fa(n:bd)(e:lG)(clock:Int):List iB×bd:=
 bif e.C2==1 then([],tick (DZ n e.E0 clock).2 (lK (DZ n e.E0 clock).2.B2 e.F9 (DZ n e.E0 clock).1) (DZ n e.E0 clock).2.B4 (DZ n e.E0 clock).2.B6)
 else bif e.C2==2 then((EY n e.E0 e.Value).1,tick (EY n e.E0 e.Value).2 (EY n e.E0 e.Value).2.B2 (EY n e.E0 e.Value).2.B4 (EY n e.E0 e.Value).2.B6)
 else bif e.C2==3 then([],tick n n.B2 true n.B6)else bif e.C2==4 then([],tick n n.B2 n.B4 true)else([],tick n n.B2 n.B4 n.B6)
theorem zaE(m:bd)(clock:Int):Q3 m clock=Fa (GZ m (Bg (rF m) m.Mem).1 (Bg (rF m) m.Mem).2.2) (Bg (rF m) m.Mem).2.1 clock:=by kernel_rfl
theorem xM(m:bd)(clock:Int):Ea m clock=bif !EP m then(m,[])else EZ {B2:=(Cr (pE m).B2 (pE m).Mem).1,Mem:=(Cr (pE m).B2 (pE m).Mem).2.1,B3:=(pE m).B3,B8:=(pE m).B8,B5:=(pE m).B5,D1:=(pE m).D1,A7:=(pE m).A7,B7:=(pE m).B7,B4:=(pE m).B4,B6:=(pE m).B6} (Cr (pE m).B2 (pE m).Mem).2.2 clock m.B7:=by kernel_rfl
theorem qal(m:List Int):Ya m=m:=by
 simp[Ya,L3,Tree.m]
theorem y0(m:bd):TS m=m:=by
 simp only[TS,KJ,Tree.m,e9,qal]
theorem Zp(m:bd)(clock:Int):Yb m clock=bif GX m then(m,[])else((Q3 m clock).2,(Q3 m clock).1):=by
 simp only[Yb,Z6z,Tree.m,e9,y0]
theorem yM{n:bd}(hm:fg P n.Mem)(hb:okB n.A7){e:lG}(hr:0<=e.F9/\e.F9<16)(hv:U e.Value)(clock:Int):EZ n e clock n.B7=((Fa n e clock).2,(Fa n e clock).1):=by
 unfold EZ Fa
 rw[xak hb e.E0 clock,qM hm hb e.E0 hv]
 cases e.C2==1
 ·cases e.C2==2
  ·cases e.C2==3
   ·cases e.C2==4<;>rfl
   ·rfl
  ·rfl
 ·generalize DZ n e.E0 clock=r
  have s:=Tx r.2.B2 hr r.1
  show(bif e.F9 !=0 then _ else _)=(tick r.2 (lK r.2.B2 e.F9 r.1) r.2.B4 r.2.B6,[])
  rw[<-s]
  simp only[uE,EM,Tree.m]
  cases e.F9 !=0<;>rfl
theorem yk{m:bd}(h:LU m)(clock:Int):Ea m clock=Yb m clock:=by
 rw[xM,Zp,Zhu h]
 cases hs:GX m
 ·have hr:EP m=true:=by rw[Zhu h,hs];rfl
  obtain⟨hm,hh,hct⟩:=Zqa hr
  obtain⟨g1,g2,g3,g4,g5⟩:=(Lk m).1 hm
  rcases(Zje m.Mem h.mem).2 with c|⟨P,hP,jj⟩
  ·exact absurd c g1
  have okm:Av P m:=⟨h.oB,jj,h.mw,h.wE,h.LV.1,h.LV.2⟩
  obtain⟨b1,b2,b3,_⟩:=(Tree.pp (Zjb okm g2)).2
  change nC (pE m).B2 at b1
  change Av P (pE m)at b2
  change(pE m).Mem=m.Mem at b3
  have be:=Ztr h g2.st
  have b1':nC (rF m):=by have:=b1;rw[be]at this;exact this
  have Yc:iX (rF m):=by have:=b2.oB;rw[be]at this;exact this
  have ex:=yj jj Yc b1'.st
  have er:=(Tree.pp (Zpf Yc jj)).2
  change 0<=(Cr (rF m) m.Mem).2.2.F9/\(Cr (rF m) m.Mem).2.2.F9<16 at er
  obtain⟨d1,d2,d3⟩:=(Tree.pp (NJ Yc jj)).2
  change U (Bg (rF m) m.Mem).2.1.Value at d2
  change fg P (Bg (rF m) m.Mem).2.2 at d3
  rw[ex]at er
  rw[zaE,be]
  show EZ {B2:=(Cr (rF m) m.Mem).1,Mem:=(Cr (rF m) m.Mem).2.1,B3:=m.B3,B8:=m.B8,B5:=m.B5,D1:=m.D1,A7:=m.A7,B7:=m.B7,B4:=false,B6:=m.B6} (Cr (rF m) m.Mem).2.2 clock m.B7=_
  rw[ex]
  exact yM (n:=GZ m (Bg (rF m) m.Mem).1 (Bg (rF m) m.Mem).2.2) d3 h.LV er d2 clock
 ·rfl

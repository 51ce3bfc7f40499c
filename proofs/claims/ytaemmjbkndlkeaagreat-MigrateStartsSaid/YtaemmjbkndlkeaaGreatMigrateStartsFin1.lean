import Derived.Test.YtaemmjbkndlkeaaGreatMigrateStartsLaws2
import Derived.Test.YtaemmjbkndlkeaaGreatMigrateStartsNewsB
open Nat renaming lt_succ_self->cN,blt->bN,le_refl->aX,zero_le->bC,le_of_eq->dG,pow_le_pow_right->dO,and_le_left->dV,pow_lt_pow_right->dW,zero_testBit->eL,testBit_and->eM
open List renaming replicate->cO,append->cP,mem_cons->cQ,not_mem_nil->cR,length_replicate->cS,length_take->aD,length_drop->aG,take->cU,drop->cV,ext_getElem->bR,range->cW,getD_eq_getElem?_getD->cX,length_singleton->cY,append_assoc->aM,set->dB,length_set->dC,length_cons->dD,length_nil->dE,length->dF,getD->aV,getElem?_take->aF
open Int renaming tmod->cZ,toNat->dA,emod_eq_of_lt->dH,pow_pos->dI,fdiv_eq_ediv_of_nonneg->dJ,le_of_lt->dK,pow_add->dL,mul_le_mul_of_nonneg_right->dM,lt_or_le->dQ,toNat_natCast->dX,tmod_eq_emod_of_nonneg->dZ,toNat_of_nonneg->eA,fdiv->eC,tdiv->eF,tdiv_eq_ediv_of_nonneg->eG,ediv_ediv_of_nonneg->eI,mul_ediv_add_emod->eJ,pow_succ->eK
open Bool renaming or_eq_true->aT,eq_iff_iff->eB,noConfusion->eH
open UInt8 renaming toNat_lt->dP,ofNat->eD
open BitVec renaming ofInt->dR,toNat_ofInt->dS,toNat_or->dT,toNat_and->dU
set_option maxRecDepth 100000
set_option linter.all false
namespace Go.Proofs.YtaemmjbkndlkeaaGreat
open Go Go.GD
open Go.IntKind(wrap i64 u32 u64 u8 wrap_i64 wrap_u32 wrap_u64 wrap_u8 wrap_i32)
variable {A a access clock f g op q r size v w x:Int}{P k n p:Nat}{b:gx}{c:bq}{d:gh}{mem:List Int}{s:List UInt8}
theorem qJ(i:ib):U (oL i).1:=by
 refine Tree.post (Tp i) (W:=λr=>U r.1) ?_
 unfold Tp
 exact aq λ_ _=>ae (λ_=>gk) (λ_=>nI _ _)
theorem yd(l:List Int)(hl:l.length*8<=reachBytes):(NL l).w (λr=>(r.length:Int)=l.length/\∀w∈r,U w):=by
 have pD:l.length*8<=140737488351232:=hl
 have app:∀{r:List Int} {x:Int},(∀w∈r,U w)->U x->∀w∈r++[x],U w:=λhr hx w hw=>by
  rw[List.mem_append]at hw
  rcases hw with hw|hw
  ·exact hr w hw
  ·rw[List.mem_singleton.1 hw];exact hx
 unfold NL
 refine eu (inv:=λz=>Qvz l z/\∀w∈z.2,U w) (μ:=Tq l) ⟨⟨by omega,by simp,by simp⟩,by simp⟩ (cN _) (λv0 hv=>?_)
 obtain⟨⟨h1,h2,h3⟩,h4⟩:=hv
 refine ae (λh=>?_) (λh=>?_)
 ·have h:=oY h
  have next:∀x:Int,U x->(Qvz l (wrap i64 (v0.1+1),v0.2++[x])/\∀w∈v0.2++[x],U w)/\Tq l (wrap i64 (v0.1+1),v0.2++[x])<Tq l v0:=λx hx=>by
   have hw:i64.wrap (v0.1+1)=v0.1+1:=by rw[wrap_i64];omega
   rw[hw]
   refine⟨⟨⟨?_,?_,?_⟩,app h4 hx⟩,?_⟩
   ·show 0<=v0.1+1;omega
   ·show v0.1+1<=l.length;omega
   ·show((v0.2++[x]).length:Int)=v0.1+1;simp;omega
   ·show(l.length-(v0.1+1)).toNat<(l.length-v0.1).toNat;omega
  have hb:(Nat.beq 1 1&&bN 0 1&&decide (0<=v0.1/\v0.1<(l.length:Int)))=true:=by simp[bN];omega
  have hc:decide (4*(v0.2.length+1)<=140737488355328)=true:=dY (by omega)
  exact av hb (ae (λ_=>av hb (av hc (next _ (fp _)))) (λ_=>av hb (cg (qZ _) (aq λx0 _=>aq λx1 hx=>av hc (next _ (by rw[hx];exact qJ _))))))
 ·have h:=oN h
  exact⟨by show(v0.2.length:Int)=l.length;omega,h4⟩
section
variable {P:Nat} {m:bg} (h:rK P m)
include h
theorem NM(port:Int)(hc:U clock):(NN m port clock).w (λx=>U x.1/\rK P x.2/\x.2.B6=m.B6):=by
 have k:=(⟨h,rfl⟩:rK P m/\m.B6=m.B6)
 obtain⟨h1,h2,h3,h4,h5,h7⟩:=h
 unfold NN
 exact ae (λ_=>aq λx hx=>⟨hx▸Zp8 _ _,⟨⟨h1,h2,h3,h4,h5,h7⟩,rfl⟩⟩) (λ_=>ae (λ_=>⟨hc,k⟩) (λ_=>ae (λ_=>aq λx hx=>⟨hx▸qB _,k⟩) (λ_=>ae (λ_=>aq λx hx=>⟨hx▸vY h3 _,k⟩) (λ_=>ae (λ_=>aq λx hx=>⟨hx▸xaA h4 _,k⟩) (λ_=>aq λx hx=>⟨hx▸Zph h5.1 _,k⟩)))))
theorem xaC(port:Int)(hv:U v):(KQ m port v).w (λx=>x.1.length<=1/\rK P x.2/\x.2.B6=m.B6):=by
 have k:=(⟨h,rfl⟩:rK P m/\m.B6=m.B6)
 obtain⟨h1,h2,h3,h4,h5,h7⟩:=h
 unfold KQ
 exact ae (λ_=>⟨aX _,k⟩) (λ_=>ae (λ_=>⟨bC _,k⟩) (λ_=>ae (λ_=>aq λ_ _=>⟨bC _,⟨⟨h1,h2,h3,h4,h5,h7⟩,rfl⟩⟩) (λ_=>ae (λ_=>cw (vA h2 h3 _ hv _) λx hx=>⟨hx.2,⟨⟨h1,h2,hx.1,h4,h5,h7⟩,rfl⟩⟩) (λ_=>ae (λ_=>cw (yY h2 h4 _ hv _) λx hx=>⟨hx.2,⟨⟨h1,h2,h3,hx.1,h5,h7⟩,rfl⟩⟩) (λ_=>cw (xaN h2 h5 _ hv) λx hx=>⟨bC _,⟨⟨h1,hx.2,h3,h4,hx.1,h7⟩,rfl⟩⟩)))))
theorem Zep(hc:U clock):(NO m clock).w (λx=>x.1.length<=1/\rK P x.2/\x.2.B6=wrap .u64 (m.B6+1)):=by
 obtain⟨h1,h2,h3,h4,h5,h7⟩:=h
 unfold NO
 refine cw (Qxr h1) λx0 c0=>cw (NP c0 h2) λx1 hx=>?_
 obtain⟨c1,v1,m1⟩:=hx
 refine ae (λ_=>Ts (NM (m:=⟨_,_,_,_,_,_,_,_,_,_⟩) ⟨c1,m1,h3,h4,h5,h7⟩ _ hc) λx2 hx=>?_) (λ_=>ae (λ_=>cw (xaC (m:=⟨_,_,_,_,_,_,_,_,_,_⟩) ⟨c1,m1,h3,h4,h5,h7⟩ _ v1) λx4 hx=>?_) (λ_=>?_))
 ·obtain⟨u,⟨k1,k2,k3,k4,k5,k7⟩,k6⟩:=hx
  exact cw (EA k1 _ u) λx3 h3=>⟨bC _,⟨h3,k2,k3,k4,k5,w0 _⟩,congrArg (λn=>wrap .u64 (n+1)) k6⟩
 ·obtain⟨u,⟨k1,k2,k3,k4,k5,k7⟩,k6⟩:=hx
  exact⟨u,⟨k1,k2,k3,k4,k5,w0 _⟩,congrArg (λn=>wrap .u64 (n+1)) k6⟩
 ·repeat'(first
   |exact⟨bC _,⟨c1,m1,h3,h4,h5,w0 _⟩,rfl⟩
   |refine ae (λ_=>?_) (λ_=>?_))
theorem qaD:(KR m).w (λx=>rK P x/\x.B6=m.B6):=by
 obtain⟨h1,h2,h3,h4,h5,h7⟩:=h
 unfold KR
 exact cw (zaM h2) λx hx=>⟨⟨h1,by rw[hx];exact h2,h3,h4,h5,h7⟩,rfl⟩
end
theorem BW(n:Nat):∀w∈cO n (0:Int),U w:=λw hw=>by rw[(List.mem_replicate.1 hw).2];exact gk
set_option synthInstance.maxHeartbeats 2000000
set_option synthInstance.maxSize 100000
noncomputable section
instance xJ (src:List UInt8):Ck (Qnf src):=tR (t:=NQ src) (by delta NQ;infer_instance)
instance vE (s:List UInt8):Ck (Qku s):=tR (t:=NR s) (by delta NR;infer_instance)
instance qF (n:Int):Ck (EB n):=let d:Decidable (EB n):=(by delta EB;infer_instance);⟨@decide _ d,@oY _ d⟩
instance vd (n:Int):Ck (Qi n):=tR (t:=II n) (by delta II;infer_instance)
instance zai (r:Int):Ck (Qt4 r):=tR (t:=IJ r) (by delta IJ;infer_instance)
instance y3 (s:List UInt8):Ck (Xg s):=tR (t:=NS s) (by delta NS;infer_instance)
instance Zv7 (op:Int):Ck (Qg0 op):=tR (t:=NT op) (by delta NT;infer_instance)
instance Zuc (s:List UInt8):Ck (KS s):=tR (t:=NU s) (by delta NU;infer_instance)
instance qe (ed:List UInt8):Ck (NV ed):=tR (t:=NW ed) (by delta NW;infer_instance)
instance xF (s:List UInt8):Ck (Ql2 s):=tR (t:=NX s) (by delta NX;infer_instance)
instance xe (l:List lj) (p:List UInt8):Ck (NY l p):=tR (t:=NZ l p) (by delta NZ;infer_instance)
instance zF (s:List UInt8):Ck (Qk1 s):=tR (t:=N0 s) (by delta N0;infer_instance)
instance ze (l:List oa) (label:List UInt8):Ck (GB l label):=let d:Decidable (GB l label):=(by delta GB;infer_instance);⟨@decide _ d,@oY _ d⟩
instance y4 (src:List UInt8):Ck (Qp7 src):=tR (t:=N1 src) (by delta N1;infer_instance)
instance y5 (st:kz) (v:Int):Ck (Qb st v):=tR (t:=N2 st v) (by delta N2;infer_instance)
instance Zv8 (src:List UInt8):Ck (Xh src):=tR (t:=N3 src) (by delta N3;infer_instance)
theorem xai:Xh ((108:UInt8)::(BX++KT++(KU++KV)++(KW++KX++(KY++KZ))++(K0++K1++(K3++K4)++(K5++K6++(K7++K8))))):=ck inferInstance (by kernel_rfl)
def inU(x:Int):Bool:=decide (0<=x)&&decide (x<4294967296)
theorem qaj(l:List Int)(h:(Nat.ble l.length 160&&List.all l inU)=true):l.length<=160/\∀w∈l,U w:=by
 rw[aE]at h
 refine⟨lE h.1,λw hw=>?_⟩
 have:=List.all_eq_true.1 h.2 w hw
 simp only[inU,aE,decide_eq_true_eq]at this
 exact this
theorem ye:(K9 (cP (cP (cP (cP Tt KT) (cP KU KV)) (cP (cP KW KX) (cP KY KZ))) (cP (cP (cP K0 K1) (cP K3 K4)) (cP (cP K5 K6) (cP K7 K8))))).1.length<=160/\∀w∈(K9 (cP (cP (cP (cP Tt KT) (cP KU KV)) (cP (cP KW KX) (cP KY KZ))) (cP (cP (cP K0 K1) (cP K3 K4)) (cP (cP K5 K6) (cP K7 K8))))).1,U w:=qaj _ (by kernel_rfl)
end
theorem BY(i:List Int)(hu:∀w∈i,U w)(hl:i.length<=256):(GC 8 4 i).w (λx=>rK 8 x.1/\x.1.B6=0):=by
 unfold GC
 refine ae (λh=>absurd h (by decide)) λ_=>ae (λh=>absurd h (by decide)) λ_=>ae (λh=>absurd h (by decide)) λ_=>ae (λh=>absurd h (by decide)) λ_=>ae (λh=>?_) λ_=>aq λx0 e0=>cg (Zkb _) (aq λx1 e1=>?_)
 ·have h:=oY h
  rw[show i64.wrap (8*32)=256 by decide]at h
  omega
 have hx:x1=cO 256 0:=by rw[e1];kernel_rfl
 have c0:iP x0:=by rw[e0];exact⟨by
  intro w hw
  simp only[Qu,Tu,Tree.m,iI.l,cQ,cR,or_false,or_self]at hw
  rw[hw];exact gk,gk,by
  intro w hw
  simp only[Qu,Tu,Tree.m,A8.l,cQ,cR,or_false,or_self]at hw
  rcases hw with rfl|rfl
  ·exact⟨by omega,by omega⟩
  ·exact gk⟩
 have hz:∀w∈x1,U w:=by rw[hx];exact BW 256
 have hn:x1.length=256:=by rw[hx,cS]
 refine⟨⟨c0,⟨?_,by omega,by omega,λw hw=>?_⟩,⟨gk,gk,gk,gk⟩,⟨gk,gk,gk,gk⟩,⟨gk,gk⟩,Int.le_refl _⟩,rfl⟩
 ·simp only[lA,aD,aG,hn];omega
 ·rcases List.mem_append.1 hw with h1|h1
  ·exact hu w (List.mem_of_mem_take h1)
  ·exact hz w (List.mem_of_mem_drop h1)
noncomputable section
def jO:List Int:=(K9 (cP (cP (cP (cP Tt KT) (cP KU KV)) (cP (cP KW KX) (cP KY KZ))) (cP (cP (cP K0 K1) (cP K3 K4)) (cP (cP K5 K6) (cP K7 K8))))).1
def tE:List Int:=jO++cO (160-jO.length) 0
theorem N4(t0 t1 t2 t3 t4 t5 t6 t7 t8 t9 t10 t11 t12 t13 t14 t15 t16 t17 t18 t19 t20 t21 t22 t23 t24 t25 t26 t27 t28 t29 t30 t31 t32 t33 t34 t35 t36 t37 t38 t39 t40 t41 t42 t43 t44 t45 t46 t47 t48 t49 t50 t51 t52 t53 t54 t55 t56 t57 t58 t59 t60 t61 t62 t63 t64 t65 t66 t67 t68 t69 t70 t71 t72 t73 t74 t75 t76 t77 t78 t79 t80 t81 t82 t83 t84 t85 t86 t87 t88 t89 t90 t91 t92 t93 t94 t95:Int):(La (lr 8 4 (tE++[t0,t1,t2,t3,t4,t5,t6,t7,t8,t9,t10,t11,t12,t13,t14,t15,t16,t17,t18,t19,t20,t21,t22,t23,t24,t25,t26,t27,t28,t29,t30,t31,t32,t33,t34,t35,t36,t37,t38,t39,t40,t41,t42,t43,t44,t45,t46,t47,t48,t49,t50,t51,t52,t53,t54,t55,t56,t57,t58,t59,t60,t61,t62,t63,t64,t65,t66,t67,t68,t69,t70,t71,t72,t73,t74,t75,t76,t77,t78,t79,t80,t81,t82,t83,t84,t85,t86,t87,t88,t89,t90,t91,t92,t93,t94,t95])).1 [] 87).2.2.2=0:=by kernel_rfl
end
attribute [local irreducible] K9
theorem qf(i j:List Int)(hi:i.length<=256)(hj:j.length<=256)(e:i++cO (256-i.length) 0=j++cO (256-j.length) 0):lr 8 4 i=lr 8 4 j:=by
 have w:i64.wrap (8*32)=256:=by decide
 have m:Lb 8=cO 256 0:=by kernel_rfl
 have d:∀k:List Int,k.length<=256->decide ((k.length:Int)>256)=false:=λk h=>dN (by omega)
 have mem:∀k:List Int,k.length<=256->cU (min k.length (cO 256 (0:Int)).length) k++cV (min k.length (cO 256 (0:Int)).length) (cO 256 0)=k++cO (256-k.length) 0:=λk h=>by
  rw[cS,Nat.min_eq_left h,List.take_length,List.drop_replicate]
 have r:Lb 8=cO 256 0:=by kernel_rfl
 simp only[lr,GC,Tree.m,w,eh,r,d i hi,d j hj]
 simp only[mem i hi,mem j hj,e]
theorem IK(t:List Int)(ht:t.length=96):t=[t.getD 0 0,t.getD 1 0,t.getD 2 0,t.getD 3 0,t.getD 4 0,t.getD 5 0,t.getD 6 0,t.getD 7 0,t.getD 8 0,t.getD 9 0,t.getD 10 0,t.getD 11 0,t.getD 12 0,t.getD 13 0,t.getD 14 0,t.getD 15 0,t.getD 16 0,t.getD 17 0,t.getD 18 0,t.getD 19 0,t.getD 20 0,t.getD 21 0,t.getD 22 0,t.getD 23 0,t.getD 24 0,t.getD 25 0,t.getD 26 0,t.getD 27 0,t.getD 28 0,t.getD 29 0,t.getD 30 0,t.getD 31 0,t.getD 32 0,t.getD 33 0,t.getD 34 0,t.getD 35 0,t.getD 36 0,t.getD 37 0,t.getD 38 0,t.getD 39 0,t.getD 40 0,t.getD 41 0,t.getD 42 0,t.getD 43 0,t.getD 44 0,t.getD 45 0,t.getD 46 0,t.getD 47 0,t.getD 48 0,t.getD 49 0,t.getD 50 0,t.getD 51 0,t.getD 52 0,t.getD 53 0,t.getD 54 0,t.getD 55 0,t.getD 56 0,t.getD 57 0,t.getD 58 0,t.getD 59 0,t.getD 60 0,t.getD 61 0,t.getD 62 0,t.getD 63 0,t.getD 64 0,t.getD 65 0,t.getD 66 0,t.getD 67 0,t.getD 68 0,t.getD 69 0,t.getD 70 0,t.getD 71 0,t.getD 72 0,t.getD 73 0,t.getD 74 0,t.getD 75 0,t.getD 76 0,t.getD 77 0,t.getD 78 0,t.getD 79 0,t.getD 80 0,t.getD 81 0,t.getD 82 0,t.getD 83 0,t.getD 84 0,t.getD 85 0,t.getD 86 0,t.getD 87 0,t.getD 88 0,t.getD 89 0,t.getD 90 0,t.getD 91 0,t.getD 92 0,t.getD 93 0,t.getD 94 0,t.getD 95 0]:=by
 apply bR
 ·rw[ht];rfl
 ·intro i h1 h2
  have e:∀j (hj:j<96),[t.getD 0 0,t.getD 1 0,t.getD 2 0,t.getD 3 0,t.getD 4 0,t.getD 5 0,t.getD 6 0,t.getD 7 0,t.getD 8 0,t.getD 9 0,t.getD 10 0,t.getD 11 0,t.getD 12 0,t.getD 13 0,t.getD 14 0,t.getD 15 0,t.getD 16 0,t.getD 17 0,t.getD 18 0,t.getD 19 0,t.getD 20 0,t.getD 21 0,t.getD 22 0,t.getD 23 0,t.getD 24 0,t.getD 25 0,t.getD 26 0,t.getD 27 0,t.getD 28 0,t.getD 29 0,t.getD 30 0,t.getD 31 0,t.getD 32 0,t.getD 33 0,t.getD 34 0,t.getD 35 0,t.getD 36 0,t.getD 37 0,t.getD 38 0,t.getD 39 0,t.getD 40 0,t.getD 41 0,t.getD 42 0,t.getD 43 0,t.getD 44 0,t.getD 45 0,t.getD 46 0,t.getD 47 0,t.getD 48 0,t.getD 49 0,t.getD 50 0,t.getD 51 0,t.getD 52 0,t.getD 53 0,t.getD 54 0,t.getD 55 0,t.getD 56 0,t.getD 57 0,t.getD 58 0,t.getD 59 0,t.getD 60 0,t.getD 61 0,t.getD 62 0,t.getD 63 0,t.getD 64 0,t.getD 65 0,t.getD 66 0,t.getD 67 0,t.getD 68 0,t.getD 69 0,t.getD 70 0,t.getD 71 0,t.getD 72 0,t.getD 73 0,t.getD 74 0,t.getD 75 0,t.getD 76 0,t.getD 77 0,t.getD 78 0,t.getD 79 0,t.getD 80 0,t.getD 81 0,t.getD 82 0,t.getD 83 0,t.getD 84 0,t.getD 85 0,t.getD 86 0,t.getD 87 0,t.getD 88 0,t.getD 89 0,t.getD 90 0,t.getD 91 0,t.getD 92 0,t.getD 93 0,t.getD 94 0,t.getD 95 0][j]'hj=t.getD j 0:=by
   intro j hj
   have:[t.getD 0 0,t.getD 1 0,t.getD 2 0,t.getD 3 0,t.getD 4 0,t.getD 5 0,t.getD 6 0,t.getD 7 0,t.getD 8 0,t.getD 9 0,t.getD 10 0,t.getD 11 0,t.getD 12 0,t.getD 13 0,t.getD 14 0,t.getD 15 0,t.getD 16 0,t.getD 17 0,t.getD 18 0,t.getD 19 0,t.getD 20 0,t.getD 21 0,t.getD 22 0,t.getD 23 0,t.getD 24 0,t.getD 25 0,t.getD 26 0,t.getD 27 0,t.getD 28 0,t.getD 29 0,t.getD 30 0,t.getD 31 0,t.getD 32 0,t.getD 33 0,t.getD 34 0,t.getD 35 0,t.getD 36 0,t.getD 37 0,t.getD 38 0,t.getD 39 0,t.getD 40 0,t.getD 41 0,t.getD 42 0,t.getD 43 0,t.getD 44 0,t.getD 45 0,t.getD 46 0,t.getD 47 0,t.getD 48 0,t.getD 49 0,t.getD 50 0,t.getD 51 0,t.getD 52 0,t.getD 53 0,t.getD 54 0,t.getD 55 0,t.getD 56 0,t.getD 57 0,t.getD 58 0,t.getD 59 0,t.getD 60 0,t.getD 61 0,t.getD 62 0,t.getD 63 0,t.getD 64 0,t.getD 65 0,t.getD 66 0,t.getD 67 0,t.getD 68 0,t.getD 69 0,t.getD 70 0,t.getD 71 0,t.getD 72 0,t.getD 73 0,t.getD 74 0,t.getD 75 0,t.getD 76 0,t.getD 77 0,t.getD 78 0,t.getD 79 0,t.getD 80 0,t.getD 81 0,t.getD 82 0,t.getD 83 0,t.getD 84 0,t.getD 85 0,t.getD 86 0,t.getD 87 0,t.getD 88 0,t.getD 89 0,t.getD 90 0,t.getD 91 0,t.getD 92 0,t.getD 93 0,t.getD 94 0,t.getD 95 0]=(cW 96).map (λk=>t.getD k 0):=rfl
   simp only[this,List.getElem_map,List.getElem_range]
  rw[e i (by omega),cX,List.getElem?_eq_getElem h1]
  rfl
theorem z6(t:List Int)(ht:t.length=96):(La (lr 8 4 (tE++t)).1 [] 87).2.2.2=0:=by
 rw[IK t ht]
 exact N4 _ _ _ _ _ _ _ _ _ _ _ _ _ _ _ _ _ _ _ _ _ _ _ _ _ _ _ _ _ _ _ _ _ _ _ _ _ _ _ _ _ _ _ _ _ _ _ _ _ _ _ _ _ _ _ _ _ _ _ _ _ _ _ _ _ _ _ _ _ _ _ _ _ _ _ _ _ _ _ _ _ _ _ _ _ _ _ _ _ _ _ _ _ _ _ _
theorem xf:tE.length=160:=by
 have h:jO.length<=160:=ye.1
 unfold tE
 rw[lA,cS];omega
theorem zaj{m:bg}(h:rK P m):(IL m [] 87).w (λx=>x.2.2.2=0->rK P x.1):=by
 have z:∀{k:Int} {p:Prop},k≠0->k=0->p:=λa b=>absurd b a
 unfold IL
 refine aq λx0 _=>ae (λ_=>z (by decide)) λ_=>ae (λ_=>z (by decide)) λ_=>ae (λ_=>z (by decide)) λ_=>cg (show N5 [] by show([]:List pI).length<=1000000000000;decide) (aq λx1 _=>ae (λ_=>z (by decide)) λ_=>cw (qaD h) λx2 hx=>?_)
 have hc:=h.tF
 refine eu (inv:=λv:bg×List ir=>rK P v.1/\v.2.length+(87-v.1.B6).toNat<=87) (μ:=Xi m [] 87) ⟨hx.1,by rw[hx.2];show 0+_<=87;omega⟩ (cN _) λv0 ⟨a1,a3⟩=>?_
 have a2:=a1.tF
 refine ae (λhb=>ae (λ_=>?_) (λ_=>λ_=>a1)) (λ_=>λ_=>a1)
 have hb:=oY hb
 refine eu (inv:=λ_=>True) (μ:=Xj m [] 87 v0) trivial (cN _) λv1 _=>?_
 refine ae (λ_=>λ_=>a1) λ_=>cw (zaN _) λx3 _=>ae (λ_=>λ_=>a1) λ_=>cw (zaA a1.oi a1.mem) λx4 _=>ae (λ_=>z (by decide)) λ_=>cw (Zep a1 gk) λx5 h5=>?_
 obtain⟨b1,b2,b3⟩:=h5
 refine av (dY (by omega)) (ee ?_)
 have e:x5.2.B6=v0.1.B6+1:=by rw[b3,wrap_u64];omega
 show(_/\_)/\(_:Nat)<_
 refine⟨⟨b2,by show(v0.2++x5.1).length+(87-x5.2.B6).toNat<=87;rw[lA];omega⟩,by show(87-x5.2.B6).toNat<(87-v0.1.B6).toNat;omega⟩
theorem Zq5(kind:Int)(l:List Int)(hl:l.length*8<=reachBytes)(Xk:l.length<=60):(IM kind l).w (rK 8):=by
 unfold IM
 refine cg (Lc (by decide)) (aq λx0 nP=>ae (λ_=>cg xai (aq λx1 e1=>?_)) (λhk=>?_))
 ·have eb:x1.1=jO:=by rw[e1];rfl
  obtain⟨q1,q2⟩:jO.length<=160/\∀w∈jO,U w:=ye
  refine eu (inv:=λv:List Int=>v.length<=160/\v=jO++cO (v.length-jO.length) 0) (μ:=Qf kind l) ⟨by rw[eb];exact q1,by rw[eb];simp⟩ (cN _) λv0 ⟨a1,a2⟩=>?_
  have a3:jO.length<=v0.length:=by rw[a2,lA];omega
  refine ae (λhb=>?_) (λhb=>?_)
  ·have hb:=oY hb
   refine av (dY (by omega)) (ee ?_)
   show(_/\_)/\(_:Nat)<_
   refine⟨⟨by rw[lA,cY];omega,?_⟩,by show 160-(v0++[0]).length<160-v0.length;rw[lA,cY];omega⟩
   show v0++[0]=jO++cO ((v0++[0]).length-jO.length) 0
   rw[lA,cY,show v0.length+1-jO.length=(v0.length-jO.length)+1 by omega,List.replicate_succ',<-aM,<-a2]
  ·have hb:=oN hb
   have hv:v0=tE:=by
    unfold tE
    rw[show(160:Nat)=v0.length by omega]
    exact a2
   subst hv
   have hp:=xf
   have Xl:∀w∈tE,U w:=λw hw=>(List.mem_append.1 hw).elim (q2 w) (BW _ w)
   refine cw (yd l hl) λx2 ⟨b1,b2⟩=>av (dY (by omega)) ?_
   have hu:∀w∈tE++x2,U w:=λw hw=>(List.mem_append.1 hw).elim (Xl w) (b2 w)
   have hlen:(tE++x2).length<=256:=by rw[lA];omega
   refine ae (λhb=>?_) (λhb=>?_)
   ·have hb:=oY hb;omega
   ·have nw:=Tree.pp (BY _ hu hlen)
    refine cg nw.1 (aq λx3 h3=>?_)
    have c1:rK 8 x3.1:=by rw[h3];exact nw.2.1
    have rn:=Tree.pp (zaj c1)
    refine ae (λ_=>cg rn.1 (aq λx4 hx=>?_)) (λ_=>c1)
    have e:x3=lr 8 4 (tE++(x2++cO (96-x2.length) 0)):=by
     rw[h3]
     have IN:(x2++cO (96-x2.length) (0:Int)).length=96:=by rw[lA,cS];omega
     refine qf _ _ hlen (by rw[lA,IN];omega) ?_
     rw[lA,lA,IN,hp,aM,aM,aM,show 256-(160+96)=0 by omega,show 256-(160+x2.length)=96-x2.length by omega]
     simp
    have h0:x4.2.2.2=0:=by
     rw[hx,e]
     exact z6 _ (by rw[lA,cS];omega)
    exact(by rw[hx];exact rn.2:x4.2.2.2=0->rK 8 x4.1) h0
 ·have hk:=oN hk
  refine cw (yd l hl) λx2 ⟨b1,b2⟩=>av (dY (by omega)) ?_
  refine ae (λhb=>?_) (λhb=>?_)
  ·have hb:=oY hb;omega
  ·have nw:=Tree.pp (BY _ b2 (by omega))
   refine cg nw.1 (aq λx3 h3=>?_)
   have c1:rK 8 x3.1:=by rw[h3];exact nw.2.1
   exact ae (λh=>absurd (eq_of_beq h) (by omega)) (λ_=>c1)
def out(f:Int)(m m':List Int):Prop:=∀j:Nat,¬(f*32<=j/\(j:Int)<f*32+32)->m'.getD j 0=m.getD j 0
theorem Xm(f:Int)(m:List Int):out f m m:=λ_ _=>rfl
theorem wv(l:List Int)(i j:Nat)(v:Int)(h:i≠j):(l.set i v).getD j 0=l.getD j 0:=by
 simp only[cX,List.getElem?_set_ne h]
theorem tG{m:List Int}(h:ej P m):jP m=P:=by
 obtain⟨h1,h2,h3,_⟩:=h
 simp only[jP,GF,Tree.m]
 have e:(m.length:Int)=32*P:=by omega
 rw[e]
 have e1:(cZ (32*(P:Int)) 32 !=0)=false:=by simp[Int.mul_tmod_right]
 have e2:decide ((32*(P:Int))>1024)=false:=dN (by omega)
 rw[e1,e2]
 simp only[cond_false]
 rw[Int.mul_tdiv_cancel_left _ (by decide),wrap_i64];omega
theorem y6{m:List Int}(h:ej P m)(f:Int):EC m f=true->0<=f/\f<P:=by
 have hp:=tG h
 simp only[EC,Ld,Tree.m,eh,hp]
 cases h1:decide (f>=0)
 ·intro h;cases h
 ·intro h;exact⟨oY h1,oY h⟩
theorem zf{m:List Int}(h:ej P m)(f:Int)(s:List UInt8):(IP m f s).w (λr=>ej P r.1/\out f m r.1/\(r.2=false->r.1=m)):=by
 have jn:kD m=m:=rfl
 have h2:=h.p2
 unfold IP
 refine cg (GG h) (aq λx0 nP=>aq λx1 o7=>?_)
 rw[jn]at nP;subst nP
 refine ae (λ_=>⟨h,Xm _ _,λ_=>rfl⟩) λhb=>ae (λ_=>⟨h,Xm _ _,λ_=>rfl⟩) λhs=>?_
 have hb:x1=true:=by simpa using hb
 obtain⟨f0,f1⟩:=y6 h f (o7.symm.trans hb)
 have hs:(s.length:Int)=128:=by simpa using hs
 refine eu (inv:=λz:Int×List Int=>0<=z.1/\z.1<=32/\ej P z.2/\out f x0 z.2) (μ:=Xn x0 f s) ⟨show(0:Int)<=0 by decide,show(0:Int)<=32 by decide,h,Xm _ _⟩ (cN _) λz ⟨z1,z2,z3,z4⟩=>?_
 refine ae (λhb=>?_) (λ_=>⟨z3,z4,λh=>by cases h⟩)
 have hb:=oY hb
 have e1:i64.wrap (4*z.1)=4*z.1:=by rw[wrap_i64];omega
 have e2:i64.wrap (i64.wrap (4*z.1)+4)=4*z.1+4:=by rw[wrap_i64,wrap_i64];omega
 have e3:i64.wrap (i64.wrap (f*32)+z.1)=f*32+z.1:=by rw[wrap_i64,wrap_i64];omega
 have hl:=z3.len
 have hlen:(cU (dA (i64.wrap (i64.wrap (4*z.1)+4))-dA (i64.wrap (4*z.1))) (cV (dA (i64.wrap (4*z.1))) s)).length=4:=by
  rw[e2,e1,aD,aG];omega
 refine av (dY (by rw[e2,e1];omega)) ?_
 refine av (dY (by rw[hlen];decide)) (av (dY (by rw[hlen];decide)) (av (dY (by rw[hlen];decide)) (av (dY (by rw[hlen];decide)) (av (by rw[e3];simp[bN];omega) (ee ?_)))))
 show(_/\_/\ej P (dB _ _ _)/\out f x0 (dB _ _ _))/\(_:Nat)<_
 have ew:i64.wrap (z.1+1)=z.1+1:=by rw[wrap_i64];omega
 rw[e3]
 refine⟨⟨by rw[ew];omega,by rw[ew];omega,⟨by rw[dC];exact hl,z3.p1,z3.p2,ED z3.u (nI _ _) _⟩,λj hj=>?_⟩,by show(32-i64.wrap (z.1+1)).toNat<(32-z.1).toNat;rw[ew];omega⟩
 rw[wv _ _ _ _ (by omega)]
 exact z4 j hj
theorem zaD(w:List Int)(h:w.length<=32):(EE w).w (λr=>r.length=4*w.length):=by
 have e0:i64.wrap (4*(w.length:Int))=4*w.length:=by rw[wrap_i64];omega
 unfold EE
 refine av (by rw[e0];simp[bN,D.plain];omega) ?_
 refine eu (inv:=λz:Int×List Int=>0<=z.1/\z.1<=w.length/\(z.2.length:Int)=4*z.1) (μ:=N6 w) ⟨by decide,by show(0:Int)<=w.length;omega,rfl⟩ (cN _) λz ⟨z1,z2,z3⟩=>?_
 refine ae (λhb=>?_) (λhb=>?_)
 ·have hb:=oY hb
  have ew:i64.wrap (z.1+1)=z.1+1:=by rw[wrap_i64];omega
  refine av (by simp[bN];omega) (av (dY (by omega)) (ee ?_))
  show(_/\_/\_)/\(_:Nat)<_
  refine⟨⟨by rw[ew];omega,by rw[ew];omega,by rw[ew,lA];simp only[dD,dE];omega⟩,by show(w.length-i64.wrap (z.1+1)).toNat<(w.length-z.1).toNat;rw[ew];omega⟩
 ·have hb:=oN hb
  show(bytesOf z.2).length=_
  rw[N7];omega
theorem yf{m:List Int}(h:ej P m)(f:Int):(DJ m f).w (λr=>0<=f->f<P->r.1.length=128):=by
 have hl:=h.len
 have h2:=h.p2
 unfold DJ
 refine aq λx0 nP=>ae (λhb=>λf0 f1=>?_) (λhb=>?_)
 ·have hp:=tG h
  have hb:x0=false:=by simpa using hb
  rw[hb]at nP
  simp only[EC,Ld,Tree.m,eh,hp]at nP
  rw[dY f0]at nP
  exact absurd f1 (oN nP.symm)
 ·have hb:x0=true:=by simpa using hb
  obtain⟨f0,f1⟩:=y6 h f (nP.symm.trans hb)
  have e1:i64.wrap (f*32)=f*32:=by rw[wrap_i64];omega
  have e2:i64.wrap (i64.wrap (f*32)+32)=f*32+32:=by rw[wrap_i64,wrap_i64];omega
  have hlen:(cU (dA (i64.wrap (i64.wrap (f*32)+32))-dA (i64.wrap (f*32))) (cV (dA (i64.wrap (f*32))) m)).length=32:=by
   rw[e2,e1,aD,aG];omega
  refine av (by rw[e2,e1];simp[bN];omega) ?_
  refine cg (by show dF _<=1000000000000;rw[hlen];decide) (aq λx1 h1=>?_)
  have h1:x1.length=4*(cU (dA (i64.wrap (i64.wrap (f*32)+32))-dA (i64.wrap (f*32))) (cV (dA (i64.wrap (f*32))) m)).length:=by rw[h1];exact(Tree.pp (zaD _ (dG hlen))).2
  intro _ _
  show x1.length=128
  rw[h1,hlen]
theorem z7(hf:U f)(hP:P<=32)(h:decide (u64.wrap f<u64.wrap (P:Int))=true):0<=f/\f<P:=by
 have h:=oY h
 obtain⟨h1,h2⟩:=hf
 rw[wrap_u64,wrap_u64,dH h1 (by omega),dH (by omega) (by omega)]at h
 exact⟨h1,h⟩
theorem y7(m:bg):wx m=(AV m.B1&&(AW m.B8&&(ra m.B7 (jP m.Mem)&&(wy m.D4 (jP m.Mem)&&AX m.A6 (jP m.Mem))))):=by
 simp only[wx,GH,Tree.m,eh]
 cases AV m.B1<;>cases AW m.B8<;>cases ra m.B7 (jP m.Mem)<;>cases wy m.D4 (jP m.Mem)<;>rfl
def chain(b1 b2 b3 b4 b5 b6 b7 w h dev:Bool):Bool:=bif b1 then false else bif b2 then false else bif b3 then false else bif b4 then false else bif b5 then false else bif b6 then false else bif b7 then false else bif w then(bif h then false else dev)else dev
def N8(p:Int)(c:bq)(ct:Int)(w h dev:Bool):Bool:=chain (p==0) (c.X.a0 !=0) (decide (c.C3.a0>31)) (decide (c.C3.a7>31)) (decide (c.C3.a6>255)) (cZ c.C3.a1 4 !=0) (decide (ct>1152921504606846976)) w h dev
theorem xaD(m:bg):AY m=N8 (jP m.Mem) m.B4 m.B6 m.B2 m.B5 (wx m):=rfl
section
variable {P:Nat} {m:List Int} (h:ej P m)
include h
theorem N9(hf:U f){b:Bool}(hx:b=Oa m f)(hb:b=true):0<=f/\f<P:=by
 have hp:=tG h
 rw[hb]at hx
 simp only[Oa,Tv,Tree.m,eh,hp]at hx
 exact z7 hf h.p2 hx.symm
theorem GI(hf:U f){b:Bool}(hx:b=Lf m f)(hb:b=true):0<=f/\f<P:=by
 have hp:=tG h
 rw[hb]at hx
 simp only[Lf,Tw,Tree.m,eh,hp]at hx
 exact z7 hf h.p2 hx.symm
def sD(P:Nat)(d d':gh):Prop:=An d'/\(ra d P=true->ra d' P=true)
theorem vf(hd:An d){cmd:Int}(hc:cmd=1\/cmd=2)(gl:Int):(Lg d m cmd gl).w (λr=>sD P d r.1/\r.2.length<=1):=by
 have h2:=h.p2
 have st3:(d.C9 !=0)=false->sD P d {ab:=d.ab,C8:=d.C8,Frame:=d.Frame,C9:=3,F5:=d.F5,C5:=d.C5,C6:=d.C6,C7:=d.C7}:=λhs=>by
  have hs:d.C9=0:=by simpa using hs
  refine⟨⟨hd.block,hd.frame,hd.ku,hd.kv⟩,λhm=>?_⟩
  simp only[ra,EF,Tree.m,hs]at hm⊢
  exact hm
 have Ob:ra d P=true->decide (d.ab>64)=false:=λhm=>by
  cases hb:decide (d.ab>64)
  ·rfl
  ·have:ra d P=false:=by simp only[ra,EF,Tree.m];rw[hb];rfl
   rw[this]at hm;cases hm
 unfold Lg
 refine ae (λ_=>⟨⟨hd,λh=>h⟩,bC _⟩) λhs=>ae (λ_=>⟨st3 hs,bC _⟩) λhb=>aq λx0 hx=>ae (λ_=>⟨st3 hs,bC _⟩) λhp=>?_
 have hb:=oN hb
 obtain⟨f0,f1⟩:=N9 h hd.frame hx (by simpa using hp)
 have ef:i64.wrap d.Frame=d.Frame:=by rw[wrap_i64];omega
 have e1:decide (d.C8<d.ab)=true:=dY (by omega)
 have e2:decide (i64.wrap d.Frame<(P:Int))=true:=by rw[ef];exact dY f1
 refine ae (λAm=>cw (yf h _) λx1 h1=>?_) (λAm=>?_)
 ·rw[ef]at h1
  have h1:=h1 f0 f1
  have Am:=eq_of_beq Am
  subst Am
  refine aq λx2 _=>⟨⟨⟨hd.block,hd.frame,hd.block,hd.frame⟩,λhm=>?_⟩,aX _⟩
  simp only[ra,EF,Tx,Oc,Tree.m,eh,Ob hm,e1,e2,h1]
  rfl
 ·have hc:cmd=1:=by
   rcases hc with h|h
   ·exact h
   ·rw[h]at Am;exact absurd Am (by decide)
  subst hc
  refine aq λx2 _=>⟨⟨⟨hd.block,hd.frame,hd.block,hd.frame⟩,λhm=>?_⟩,aX _⟩
  simp only[ra,EF,Tx,Oc,Tree.m,eh,Ob hm,e1,e2]
  rfl
theorem xaj(hd:An d)(port:Int)(hv:U v)(gl:Int):(Lh d m port v gl).w (λr=>sD P d r.1/\r.2.length<=1):=by
 have du:sD P d d:=⟨hd,λh=>h⟩
 have e1:∀{k:Int},(v==k)=true->i64.wrap v=k:=λhk=>by
  have:=eq_of_beq hk
  obtain⟨a,b⟩:=hv
  rw[wrap_i64];omega
 unfold Lh
 refine ae (λ_=>⟨⟨⟨hv,hd.frame,hd.ku,hd.kv⟩,λh=>h⟩,bC _⟩) λ_=>ae (λ_=>⟨⟨⟨hd.block,hv,hd.ku,hd.kv⟩,λh=>h⟩,bC _⟩) λ_=>ae (λ_=>ae (λhk=>cw (vf h hd (.inl (e1 hk)) _) λx hx=>hx) λ_=>ae (λhk=>cw (vf h hd (.inr (e1 hk)) _) λx hx=>hx) λ_=>ae (λ_=>aq λx hx=>ae (λhb=>?_) (λ_=>⟨du,bC _⟩)) (λ_=>⟨du,bC _⟩)) (λ_=>⟨du,bC _⟩)
 refine⟨⟨⟨hd.block,hd.frame,hd.ku,hd.kv⟩,λhm=>?_⟩,bC _⟩
 rw[hb]at hx
 simp only[Li,Xo,Tree.m]at hx
 cases h2:d.C9==2
 ·rw[h2]at hx
  have h3:d.C9=3:=eq_of_beq hx.symm
  simp only[ra,EF,Tree.m,h3]at hm⊢
  exact hm
 ·have h3:d.C9=2:=eq_of_beq h2
  simp only[ra,EF,Tree.m,h3]at hm⊢
  exact hm
def BZ(P:Nat)(n n':ik):Prop:=ur n'/\(wy n P=true->wy n' P=true)
theorem qaE{n:ik}(hn:ur n)(gl:Int):(Lj n m gl).w (λr=>r.length<=1):=by
 have h2:=h.p2
 unfold Lj
 refine ae (λ_=>bC _) λl1=>ae (λ_=>bC _) λl2=>aq λx0 hx=>ae (λ_=>bC _) λhp=>cw (yf h _) λx1 h1=>?_
 have l1:=oN l1
 have l2:=oN l2
 obtain⟨f0,f1⟩:=GI h hn.frame hx (by simpa using hp)
 have ef:i64.wrap n.Frame=n.Frame:=by rw[wrap_i64];omega
 rw[ef]at h1
 have h1:=h1 f0 f1
 exact av (dY (by omega)) (aX _)
theorem zaE{n:ik}(hn:ur n)(port:Int){v:Int}(hv:U v)(gl:Int):(Lk n m port v gl).w (λr=>BZ P n r.1/\r.2.length<=1):=by
 have h2:=h.p2
 have du:BZ P n n:=⟨hn,λh=>h⟩
 unfold Lk
 refine ae (λ_=>⟨⟨⟨hv,hn.len,hn.buffer,hn.GJ⟩,λh=>h⟩,bC _⟩) λ_=>ae (λ_=>⟨⟨⟨hn.frame,hv,hn.buffer,hn.GJ⟩,λh=>h⟩,bC _⟩) λ_=>ae (λ_=>ae (λ_=>cw (qaE h hn _) λx hx=>⟨du,hx⟩) λ_=>ae (λ_=>aq λx hx=>ae (λhb=>ae (λnp=>ae (λnr=>?_) (λ_=>⟨du,bC _⟩)) (λ_=>⟨du,bC _⟩)) (λ_=>⟨du,bC _⟩)) λ_=>ae (λ_=>?_) (λ_=>⟨du,bC _⟩)) (λ_=>⟨du,bC _⟩)
 ·obtain⟨f0,f1⟩:=GI h hn.frame hx hb
  have np:n.D1=false:=by simpa using np
  have nr:n.C4=false:=by simpa using nr
  have e2:decide (i64.wrap n.Frame>=(P:Int))=false:=dN (by rw[wrap_i64];omega)
  refine⟨⟨⟨hn.frame,hn.len,hn.frame,hn.GJ⟩,λhm=>?_⟩,bC _⟩
  simp only[wy,Od,Tree.m,np,nr,e2]at hm⊢
  cases hb:(n.D2 !=0)
  ·rw[hb]at hm;exact hm
  ·rw[hb]at hm;cases hm
 ·refine⟨⟨⟨hn.frame,hn.len,hn.buffer,gk⟩,λhm=>?_⟩,bC _⟩
  simp only[wy,Od,Tree.m]at hm⊢
  revert hm
  cases n.D1<;>cases n.C4<;>cases decide (i64.wrap n.D2>=(P:Int))<;>cases(n.D2 !=0)<;>simp
end
theorem qak(t:jc)(v:Int):AW (Oe t v)=true:=by
 simp only[Oe,Ty,AW,Tz,Tree.m]
 cases h:(v !=0)
 ·have:v=0:=by simpa using h
  subst this;rfl
 ·rfl
theorem DK(k:Nat)(hk:k<=32):bm .u32 a k=a/2^k:=by
 unfold bm
 have e:min (k:Int).toNat u32.bits=k:=by show min (k:Int).toNat 32=k;omega
 have hp:(0:Int)<2^k:=dI (by decide)
 rw[e,dJ _ (dK hp)]
def Ll(x:Int)(n:Nat):Prop:=x<2^n/\(n=0\/(2:Int)^(n-1)<=x)
theorem Xp(hq:q=x/2^k)(h0:0<q)(h:Ll q n):Ll x (n+k):=by
 have hp:(0:Int)<2^k:=dI (by decide)
 obtain⟨h1,h2⟩:=h
 have hn:n≠0:=λe=>by subst e;simp at h1;omega
 refine⟨?_,.inr ?_⟩
 ·rw[dL]
  have:x<(x/2^k+1)*2^k:=Int.lt_ediv_add_one_mul_self x hp
  have h3:(x/2^k+1)*2^k<=2^n*2^k:=dM (by omega) (dK hp)
  omega
 ·have h2:=h2.resolve_left hn
  have e:n+k-1=(n-1)+k:=by omega
  rw[e,dL]
  have h3:(2:Int)^(n-1)*2^k<=q*2^k:=dM h2 (dK hp)
  have h4:q*2^k<=x:=by rw[hq];exact Int.ediv_mul_le x (Int.ne_of_gt hp)
  omega
theorem zJ(h:Ll x n)(hx:x<2^p):n<=p:=by
 obtain⟨h1,h2⟩:=h
 rcases h2 with h2|h2
 ·omega
 ·rcases Nat.lt_or_ge p n with bd|fx
  ·have:(2:Int)^p<=2^(n-1):=by
    have:=dO (show 0<2 by omega) (show p<=n-1 by omega)
    exact_mod_cast this
   omega
  ·exact fx
theorem Zpg(h:Ll x n)(hn:n<=p):x<2^p:=by
 have:(2:Int)^n<=2^p:=by
  have:=dO (show 0<2 by omega) hn
  exact_mod_cast this
 exact Int.lt_of_lt_of_le h.1 this
def Ca(i:Nat):Bool:=match(wz (i:Int))with
 |.ofNat n=>decide ((i:Int)<2^n)&&(Nat.beq n 0||decide ((2:Int)^(n-1)<=i))&&decide (n<=8)
 |_=>false
theorem TA(h0:0<=q)(h1:q<256):∃n:Nat,wz q=n/\Ll q n/\n<=8:=by
 have all:List.all (cW 256) Ca=true:=by kernel_rfl
 have:=List.all_eq_true.1 all q.toNat (List.mem_range.2 (by omega))
 have hq:((q.toNat:Nat):Int)=q:=by omega
 unfold Ca at this
 rw[hq]at this
 split at this
 ·rename_i n hn
  simp only[aE,aT,decide_eq_true_eq]at this
  refine⟨n,hn,⟨this.1.1,?_⟩,this.2⟩
  rcases this.1.2 with h|h
  ·exact .inl (bE h)
  ·exact .inr h
 ·cases this
theorem xaE(h:U x)(hx:16777216<=x):wz x=24+wz (x/16777216):=by
 obtain⟨h0,h1⟩:=h
 have AZ:bm .u32 x 16=x/65536:=DK 16 (by omega)
 have uu:bm .u32 (x/65536) 8=x/16777216:=by rw[show((8:Int))=((8:Nat):Int) from rfl,DK 8 (by omega)];omega
 have d1:decide (x>=65536)=true:=dY (by omega)
 have d2:decide (x/65536>=256)=true:=dY (by omega)
 have d3:decide (x/16777216>=65536)=false:=dN (by omega)
 have d4:decide (x/16777216>=256)=false:=dN (by omega)
 have u:u8.wrap (x/16777216)=x/16777216:=by rw[wrap_u8];omega
 simp only[wz,DL,Tree.m,AZ,uu,d1,d2,d3,d4,u,cond_true,cond_false]
 generalize(aV _ (dA (x/16777216)) (0:UInt8))=b
 have hb:=dP b
 rw[wrap_i64,wrap_i64,wrap_i64,wrap_i64]
 omega
theorem qaF(h0:65536<=x)(h1:x<16777216):wz x=16+wz (x/65536):=by
 have AZ:bm .u32 x 16=x/65536:=DK 16 (by omega)
 have d1:decide (x>=65536)=true:=dY (by omega)
 have d2:decide (x/65536>=256)=false:=dN (by omega)
 have d3:decide (x/65536>=65536)=false:=dN (by omega)
 have u:u8.wrap (x/65536)=x/65536:=by rw[wrap_u8];omega
 simp only[wz,DL,Tree.m,AZ,d1,d2,d3,u,cond_true,cond_false]
 generalize(aV _ (dA (x/65536)) (0:UInt8))=b
 have hb:=dP b
 rw[wrap_i64,wrap_i64,wrap_i64]
 omega
theorem Of(h0:256<=x)(h1:x<65536):wz x=8+wz (x/256):=by
 have s8:bm .u32 x 8=x/256:=DK 8 (by omega)
 have d1:decide (x>=65536)=false:=dN (by omega)
 have d2:decide (x>=256)=true:=dY (by omega)
 have d3:decide (x/256>=65536)=false:=dN (by omega)
 have d4:decide (x/256>=256)=false:=dN (by omega)
 have u:u8.wrap (x/256)=x/256:=by rw[wrap_u8];omega
 simp only[wz,DL,Tree.m,s8,d1,d2,d3,d4,u,cond_true,cond_false]
 generalize(aV _ (dA (x/256)) (0:UInt8))=b
 have hb:=dP b
 rw[wrap_i64,wrap_i64,wrap_i64,wrap_i64]
 omega
theorem Ztt(h:U x):∃n:Nat,wz x=n/\Ll x n:=by
 obtain⟨h0,h1⟩:=h
 rcases dQ x 256 with a|a
 ·obtain⟨n,e,l,_⟩:=TA h0 a
  exact⟨n,e,l⟩
 ·rcases dQ x 65536 with b|b
  ·obtain⟨n,e,l,_⟩:=TA (q:=x/256) (by omega) (by omega)
   exact⟨n+8,by rw[Of a b,e];omega,Xp (k:=8) rfl (by omega) l⟩
  ·rcases dQ x 16777216 with c|c
   ·obtain⟨n,e,l,_⟩:=TA (q:=x/65536) (by omega) (by omega)
    exact⟨n+16,by rw[qaF b c,e];omega,Xp (k:=16) rfl (by omega) l⟩
   ·obtain⟨n,e,l,_⟩:=TA (q:=x/16777216) (by omega) (by omega)
    exact⟨n+24,by rw[xaE ⟨h0,h1⟩ c,e];omega,Xp (k:=24) rfl (by omega) l⟩
theorem Og(h:U b.D0):AX b P=true↔b.D0<2^P:=by
 obtain⟨n,e,l⟩:=Ztt h
 have hp:(if(0:Int)>(P:Int)then(0:Int)else P)=P:=by rw[if_neg (by omega)]
 simp only[AX,IQ,Tree.m,eh,e,hp,decide_eq_true_eq]
 constructor
 ·intro h;exact Zpg l (by omega)
 ·intro h;have:=zJ l h;omega
theorem Xq(h:U a)(h1:a<2^P):(dR 32 a).toNat<2^P:=by
 obtain⟨a0,a1⟩:=h
 rw[dS,dH a0 (by omega)]
 have:((2^P:Nat):Int)=(2:Int)^P:=by exact_mod_cast rfl
 omega
theorem Oh{a b:Int}(ha:U a)(hb:U b)(hP:P<=32)(h1:a<2^P)(h2:b<2^P):iN .u32 a b<2^P:=by
 have e:(dR 32 a|||dR 32 b).toNat<2^P:=by
  rw[dT]
  exact Nat.or_lt_two_pow (Xq ha h1) (Xq hb h2)
 have hc:((2^P:Nat):Int)=(2:Int)^P:=by exact_mod_cast rfl
 have l:=(dR 32 a|||dR 32 b).isLt
 show wrap .u32 ((dR 32 a|||dR 32 b).toNat:Int)<2^P
 rw[wrap_u32]
 omega
theorem zak{a b:Int}(ha:U a)(h1:a<2^P):oM .u32 a b<2^P:=by
 have e:(dR 32 a&&&~~~dR 32 b).toNat<2^P:=by
  rw[dU]
  exact Nat.lt_of_le_of_lt dV (Xq ha h1)
 have hc:((2^P:Nat):Int)=(2:Int)^P:=by exact_mod_cast rfl
 have l:=(dR 32 a&&&~~~dR 32 b).isLt
 show wrap .u32 ((dR 32 a&&&~~~dR 32 b).toNat:Int)<2^P
 rw[wrap_u32]
 omega
theorem qg(h0:0<=v)(h1:v<32):ep .u32 1 v=2^v.toNat:=by
 have e:min v.toNat u32.bits=v.toNat:=by show min v.toNat 32=v.toNat;omega
 obtain⟨n,rfl⟩:∃n:Nat,v=n:=⟨v.toNat,by omega⟩
 have hn:n<32:=by omega
 have bd:(2:Nat)^n<4294967296:=by
  have:=dW (show 1<2 by omega) hn
  simpa using this
 have hc:((2^n:Nat):Int)=(2:Int)^n:=by exact_mod_cast rfl
 unfold ep
 rw[e,wrap_u32,Int.one_mul,dX,<-hc]
 clear hc e
 generalize(2:Nat)^n=z at*
 omega
def Cb(P:Nat)(b b':gx):Prop:=okB b'/\(AX b P=true->AX b' P=true)
theorem Zt5{m:List Int}(h:ej P m)(hb:okB b)(port:Int)(hv:U v):(DM b m port v).w (λr=>Cb P b r.1/\ej P r.2):=by
 have jn:kD m=m:=rfl
 have h2:=h.p2
 have hp:=tG h
 have du:(Tree.an (nQ m) (.lv (kD m) λx=>.lf (b,x))).w (λr=>Cb P b r.1/\ej P r.2):=cg (GG h) (aq λx hx=>by rw[jn]at hx;subst hx;exact⟨⟨hb,λh=>h⟩,h⟩)
 unfold DM
 refine ae (λ_=>du) λbd=>av (dY hv.1) (ae (λ_=>aq λx1 hx=>ae (λIS=>ae (λ_=>cg ⟨by decide,by decide,by decide⟩ (aq λx2 _=>cw (zf h _ _) λx3 ⟨h3,_⟩=>?_)) (λ_=>du)) (λ_=>du)) (λ_=>ae (λ_=>cg (GG h) (aq λx hx=>?_)) (λ_=>du)))
 ·have bd:=oN bd
  have IS:=oY IS
  rw[hx,hp]at IS
  obtain⟨v0,v1⟩:=hv
  have ev:i64.wrap v=v:=by rw[wrap_i64];omega
  rw[ev]at IS
  refine⟨⟨⟨hb.1,fp _⟩,λhm=>?_⟩,h3⟩
  rw[Og hb.2]at hm
  rw[Og (fp _)]
  have hs:ep .u32 1 v<2^P:=by
   rw[qg v0 (by omega)]
   have:=dW (show 1<2 by omega) (show v.toNat<P by omega)
   exact_mod_cast this
  exact Oh hb.2 (fp _) h2 hm hs
 ·rw[jn]at hx;subst hx
  refine⟨⟨⟨hb.1,fp _⟩,λhm=>?_⟩,h⟩
  rw[Og hb.2]at hm
  rw[Og (fp _)]
  exact zak hb.2 hm
structure kept(P:Nat)(m n:bg):Prop where
 ok:Ao P n
 dev:wx m=true->wx n=true
 oi:n.B4=m.B4
 tF:n.B6=m.B6
 wait:n.B2=m.B2
 halt:n.B5=m.B5
theorem Zjy{m:bg}(h:Ao P m):kept P m m:=⟨h,λh=>h,rfl,rfl,rfl,rfl⟩
theorem IT{m n:bg}(hm:ej P m.Mem)(hn:ej P n.Mem)(hc:AV m.B1=true->AV n.B1=true)(ht:AW m.B8=true->AW n.B8=true)
 (hd:ra m.B7 P=true->ra n.B7 P=true) (hk:wy m.D4 P=true->wy n.D4 P=true) (hb:AX m.A6 P=true->AX n.A6 P=true) (h:wx m=true):wx n=true:=by
 rw[y7]at h⊢
 rw[tG hm]at h
 rw[tG hn]
 simp only[aE]at h⊢
 exact⟨hc h.1,ht h.2.1,hd h.2.2.1,hk h.2.2.2.1,hb h.2.2.2.2⟩
theorem Zo4{m:bg}(h:Ao P m)(port:Int)(hv:U v)(gl:Int):(Lm m port v gl).w (λr=>kept P m r.1/\r.2.length<=1):=by
 have k:=Zjy h
 obtain⟨h1,h2,h3,h4,h5,h6⟩:=h
 have id:∀{p:Prop},p->p:=λh=>h
 have D:∀(x:gh×List ir),(sD P m.B7 x.1/\x.2.length<=1)->kept P m {B4:=m.B4,Mem:=m.Mem,B1:=m.B1,B8:=m.B8,B7:=x.1,D4:=m.D4,A6:=m.A6,B6:=m.B6,B2:=m.B2,B5:=m.B5}/\x.2.length<=1:=λx hx=>
  ⟨⟨⟨h1,h2,hx.1.1,h4,h5,h6⟩,IT h2 h2 id id hx.1.2 id id,rfl,rfl,rfl,rfl⟩,hx.2⟩
 have N:∀(x:ik×List ir),(BZ P m.D4 x.1/\x.2.length<=1)->kept P m {B4:=m.B4,Mem:=m.Mem,B1:=m.B1,B8:=m.B8,B7:=m.B7,D4:=x.1,A6:=m.A6,B6:=m.B6,B2:=m.B2,B5:=m.B5}/\x.2.length<=1:=λx hx=>
  ⟨⟨⟨h1,h2,h3,hx.1.1,h5,h6⟩,IT h2 h2 id id id hx.1.2 id,rfl,rfl,rfl,rfl⟩,hx.2⟩
 have B:∀(x:gx×List Int),(Cb P m.A6 x.1/\ej P x.2)->kept P m {B4:=m.B4,Mem:=x.2,B1:=m.B1,B8:=m.B8,B7:=m.B7,D4:=m.D4,A6:=x.1,B6:=m.B6,B2:=m.B2,B5:=m.B5}/\([]:List ir).length<=1:=λx hx=>
  ⟨⟨⟨h1,hx.2,h3,h4,hx.1.1.1,hx.1.1.2⟩,IT h2 hx.2 id id id id hx.1.2,rfl,rfl,rfl,rfl⟩,bC _⟩
 unfold Lm
 repeat'(first
  |exact⟨k,aX _⟩
  |exact⟨k,bC _⟩
  |exact aq λx hx=>⟨⟨⟨h1,h2,h3,h4,h5,h6⟩,IT h2 h2 id (λ_=>by rw[hx];exact qak _ _) id id id,rfl,rfl,rfl,rfl⟩,bC _⟩
  |exact cw (xaj h2 h3 _ hv _) λx hx=>D x hx
  |exact cw (zaE h2 h4 _ hv _) λx hx=>N x hx
  |exact cw (Zt5 h2 ⟨h5,h6⟩ _ hv) λx hx=>B x hx
  |refine ae (λ_=>?_) (λ_=>?_))
theorem Zf(c:iV)(port:Int):(IU c port).w (λr=>U r.2/\(AV c=true->AV r.1=true)):=by
 have u1:U 4294967295:=⟨by omega,by omega⟩
 unfold IU
 refine ae (λ_=>ae (λ_=>⟨u1,λh=>h⟩) (λhb=>av ?_ (av ?_ ⟨fp _,λhm=>?_⟩))) (λ_=>ae (λ_=>⟨fp _,λh=>h⟩) (λ_=>⟨gk,λh=>h⟩))
 ·have hb:=oN hb
  have:0<c.D9.length:=List.length_pos_iff.2 hb
  simp[bN];omega
 ·have hb:=oN hb
  have:0<c.D9.length:=List.length_pos_iff.2 hb
  exact dY (by omega)
 ·have hm:decide ((c.D9.length:Int)<=16)=true:=hm
  have hm:=oY hm
  show decide (((cU _ (cV _ c.D9)).length:Int)<=16)=true
  refine dY ?_
  rw[aD,aG];omega
theorem Ztl{m:bg}(h:Ao P m)(port:Int)(hc:U clock):(Ln m port clock).w (λr=>kept P m r.1/\U r.2):=by
 have k:=Zjy h
 obtain⟨h1,h2,h3,h4,h5,h6⟩:=h
 have id:∀{p:Prop},p->p:=λh=>h
 have ti:∀t,U (Xr t):=λt=>by
  refine Tree.post (TB t) (W:=U) ?_
  unfold TB
  exact ae (λ_=>⟨by omega,by omega⟩) (λ_=>gk)
 have di:∀p,U (Oi m.B7 p):=λp=>by
  refine Tree.post (TC m.B7 p) (W:=U) ?_
  unfold TC
  exact ae (λ_=>h3.block) (λ_=>ae (λ_=>h3.frame) (λ_=>ae (λ_=>fp _) (λ_=>gk)))
 have ni:∀p,U (Lo m.D4 p):=λp=>by
  refine Tree.post (Oj m.D4 p) (W:=U) ?_
  unfold Oj
  exact ae (λ_=>h4.frame) (λ_=>ae (λ_=>h4.GJ) (λ_=>ae (λ_=>ae (λ_=>ae (λ_=>fp _) (λ_=>fp _)) (λ_=>ae (λ_=>fp _) (λ_=>gk))) (λ_=>gk)))
 have bi:∀p,(Lp m.A6 p).w U:=λp=>by
  unfold Lp
  exact ae (λ_=>h5) (λ_=>ae (λ_=>cw (Zs0 h6) λ_ _=>fp _) (λ_=>gk))
 have C:∀(x:iV×Int),(U x.2/\(AV m.B1=true->AV x.1=true))->kept P m {B4:=m.B4,Mem:=m.Mem,B1:=x.1,B8:=m.B8,B7:=m.B7,D4:=m.D4,A6:=m.A6,B6:=m.B6,B2:=m.B2,B5:=m.B5}/\U x.2:=λx hx=>
  ⟨⟨⟨h1,h2,h3,h4,h5,h6⟩,IT h2 h2 hx.2 id id id id,rfl,rfl,rfl,rfl⟩,hx.1⟩
 unfold Ln
 repeat'(first
  |exact⟨k,hc⟩
  |exact⟨k,gk⟩
  |exact cw (Zf _ _) λx hx=>C x hx
  |exact Ts (Zf _ _) λx hx=>C x hx
  |exact aq λx hx=>⟨k,by rw[hx];exact ti _⟩
  |exact aq λx hx=>⟨k,by rw[hx];exact di _⟩
  |exact aq λx hx=>⟨k,by rw[hx];exact ni _⟩
  |exact cw (bi _) λx hx=>⟨k,hx⟩
  |refine ae (λ_=>?_) (λ_=>?_))
structure nn(c:bq):Prop where
 x0:c.X.a0=0
 st:c.C3.a0<=31
 en:c.C3.a7<=31
 rt:c.C3.a6<=255
 ve:cZ c.C3.a1 4=0
theorem nn.pc(h:nn c)(p:Int):nn {X:=c.X,Pc:=p,C3:=c.C3}:=⟨h.x0,h.st,h.en,h.rt,h.ve⟩
theorem GK(a:Int):bh .u32 a 31<=31:=by
 have e:(dR 32 a&&&dR 32 31).toNat<=31:=by
  rw[dU]
  exact Nat.le_trans Nat.and_le_right (by decide)
 show wrap .u32 ((dR 32 a&&&dR 32 31).toNat:Int)<=31
 rw[wrap_u32];omega
theorem EG(a:Int):bh .u32 a 255<=255:=by have:=Cc a;omega
theorem Ok(a:Int):cZ (oM .u32 a 3) 4=0:=by
 have e:(dR 32 a&&&~~~dR 32 3).toNat%4=0:=by
  rw[dU,show(~~~dR 32 3).toNat=4294967292 by decide]
  have:=Nat.and_mod_two_pow (a:=(dR 32 a).toNat) (b:=4294967292) (n:=2)
  simpa using this
 have l:=(dR 32 a&&&~~~dR 32 3).isLt
 show cZ (wrap .u32 ((dR 32 a&&&~~~dR 32 3).toNat:Int)) 4=0
 rw[wrap_u32,dZ (by omega)]
 omega
theorem GL{f:Int->Int}(h:(cW 32).all (λn=>decide (f n<=31))=true){s:Int}(h0:0<=s)(h1:s<=31):f s<=31:=by
 have:=List.all_eq_true.1 h s.toNat (List.mem_range.2 (by omega))
 have e:((s.toNat:Nat):Int)=s:=by omega
 rw[e]at this
 exact oY this
theorem IV(h:iP c)(m:nn c)(k b:Int):nn (rb c k b):=
 ⟨m.x0,GL (f:=λs=>oM .u32 (iN .u32 (Ap (Ap s 1 8) 2 16) 1) 2) (by kernel_rfl) h.a0.1 m.st,m.en,m.rt,m.ve⟩
theorem Zu6(h:iP c)(m:nn c):nn (Lq c):=
 ⟨m.x0,GL (f:=λs=>Ap (Ap s 8 1) 16 2) (by kernel_rfl) h.a0.1 m.st,m.en,m.rt,m.ve⟩
theorem Lr(m:nn c)(hr:0<=r/\r<16)(v:Int):(EH c r v).w nn:=by
 unfold EH
 refine ae (λhn=>av (rc hr) ?_) (λ_=>m)
 have hn:r≠0:=by simpa using hn
 obtain⟨n,e⟩:∃n:Nat,r.toNat=n+1:=⟨r.toNat-1,by omega⟩
 refine⟨?_,m.st,m.en,m.rt,m.ve⟩
 show(iI.of 0 (dB (iI.l c.X) r.toNat v)).a0=0
 rw[e]
 exact m.x0
theorem xg(m:nn c)(k v:Int):(IW c k v).w nn:=by
 unfold IW
 refine ae (λhk=>av (by rw[eq_of_beq hk];decide) ?_) λ_=>ae (λhk=>av (by rw[eq_of_beq hk];decide) ?_) λ_=>ae (λhk=>av (by rw[eq_of_beq hk];decide) ?_) λ_=>ae (λhk=>av (by rw[eq_of_beq hk];decide) ?_) λ_=>ae (λhk=>av (by rw[eq_of_beq hk];decide) ?_) λ_=>ae (λhk=>av (by rw[eq_of_beq hk];decide) ?_) λ_=>ae (λhk=>av (by rw[eq_of_beq hk];decide) ?_) λ_=>ae (λhk=>av (by rw[eq_of_beq hk];decide) ?_) (λ_=>m)
 all_goals(have hk:=eq_of_beq hk;subst hk)
 ·exact⟨m.x0,GK _,m.en,m.rt,m.ve⟩
 ·exact⟨m.x0,m.st,GK _,m.rt,m.ve⟩
 ·exact⟨m.x0,m.st,m.en,EG _,m.ve⟩
 ·exact⟨m.x0,m.st,m.en,m.rt,Ok _⟩
 ·exact⟨m.x0,m.st,m.en,m.rt,m.ve⟩
 ·exact⟨m.x0,m.st,m.en,m.rt,m.ve⟩
 ·exact⟨m.x0,m.st,m.en,m.rt,m.ve⟩
 ·exact⟨m.x0,m.st,m.en,m.rt,m.ve⟩
section
variable {c:bq} (h:iP c) (m:nn c) {i:ib} (hi:sE i)
include h m hi
theorem Zpt:(EI c i).w (λr=>nn r.1):=by
 unfold EI
 refine av (rc hi.a) (av (rc hi.b) ?_)
 repeat'(first
  |refine ae (λ_=>?_) (λ_=>?_)
  |exact cw (Lr m hi.a _) λx hx=>hx.pc _
  |exact aq λx _=>ae (λ_=>m.pc _) (λ_=>m.pc _)
  |exact aq λx hx=>by rw[hx];exact IV h m _ _
  |exact aq λx hx=>by rw[hx];exact Zu6 h m
  |exact av (by have:=hi.jr (by simp_all);simp[bN];omega) (cw (Lr m hi.a _) λx hx=>hx.pc _)
  |exact cw (xg m _ _) λx hx=>hx.pc _
  |refine av (rc hi.c) ?_
  |exact cw (Ls _ (h.r _) (fp _)) λy hy=>cw (Lr m hi.a _) λx hx=>hx.pc _
  |exact cw (Ls _ (h.r _) (h.r _)) λy hy=>cw (Lr m hi.a _) λx hx=>hx.pc _
  |refine ba ?_)
 all_goals exact m.pc _
theorem yJ(hm:ej P mem):(IX c mem i).w (λr=>nn r.1):=by
 have w:=TE i.Op
 unfold IX
 refine av (rc hi.b) (aq λx0 h0=>?_)
 rw[<-h0]at w
 refine cw (Ol hm (fp _) w 2) λx1 h1=>ae (λ_=>aq λy hy=>by rw[hy];exact IV h m _ _) (λ_=>aq λx3 h3=>?_)
 rw[h0,<-h3]at w
 exact cw (IY h1.2 h1.1 w) λx4 h4=>ae (λ_=>cw (Xs h4.1 8) λy hy=>cw (Lr m hi.a _) λx hx=>hx.pc _) (λ_=>cw (Lr m hi.a _) λx hx=>hx.pc _)
theorem zg(hm:ej P mem):(IZ c mem i).w (λr=>nn r.1):=by
 have w:=TE i.Op
 unfold IZ
 refine av (rc hi.b) (aq λx0 h0=>?_)
 rw[<-h0]at w
 refine cw (Ol hm (fp _) w 3) λx1 h1=>ae (λ_=>aq λy hy=>by rw[hy];exact IV h m _ _) (λ_=>aq λx3 h3=>av (rc hi.a) ?_)
 rw[h0,<-h3]at w
 exact cw (TF h1.2 h1.1 w (h.r _)) λx hx=>m.pc _
end
theorem vJ(h:iP c)(m:nn c)(hm:ej P mem):(EJ c mem).w (λr=>nn r.1):=by
 unfold EJ
 refine cw (Xt hm h) λx0 h0=>ae (λ_=>aq λy hy=>by rw[hy];exact IV h m _ _) (λ_=>cw (Xu _) λx2 h2=>ae (λ_=>aq λy hy=>by rw[hy];exact IV h m _ _) (λhb=>?_))
 have hi:=h2 (by simpa using hb)
 refine aq λx4 _=>?_
 repeat'(first
  |refine ae (λ_=>?_) (λ_=>?_)
  |exact cw (yJ h m hi h0.2) λx hx=>hx
  |exact cw (zg h m hi h0.2) λx hx=>hx
  |exact cw (Zpt h m hi) λx hx=>hx
  |exact aq λy hy=>by rw[hy];exact IV h m _ _
  |refine aq λ_ _=>?_)
theorem Zot(h:iP c){i:ib}(hi:sE i):(EI c i).w (λr=>0<=r.2.F7/\r.2.F7<16):=by
 have z:(0:Int)<=0/\(0:Int)<16:=⟨by decide,by decide⟩
 unfold EI
 refine av (rc hi.a) (av (rc hi.b) ?_)
 repeat'(first
  |refine ae (λ_=>?_) (λ_=>?_)
  |exact cw (DN h hi.a (fp _)) λx hx=>z
  |exact aq λx _=>ae (λ_=>z) (λ_=>z)
  |exact aq λx hx=>z
  |exact av (by have:=hi.jr (by simp_all);simp[bN];omega) (cw (DN h hi.a (h.a _)) λx hx=>z)
  |exact cw (Zru h _ (h.r _)) λx hx=>z
  |refine av (rc hi.c) ?_
  |exact cw (Ls _ (h.r _) (fp _)) λy hy=>cw (DN h hi.a hy) λx hx=>z
  |exact cw (Ls _ (h.r _) (h.r _)) λy hy=>cw (DN h hi.a hy) λx hx=>z
  |refine ba ?_)
 all_goals first|exact z|exact hi.a
theorem Zqw(h:iP c)(hm:ej P mem):(EJ c mem).w (λr=>0<=r.2.2.F7/\r.2.2.F7<16):=by
 have z:(0:Int)<=0/\(0:Int)<16:=⟨by decide,by decide⟩
 unfold EJ
 refine cw (Xt hm h) λx0 h0=>ae (λ_=>aq λy hy=>z) (λ_=>cw (Xu _) λx2 h2=>ae (λ_=>aq λy hy=>z) (λhb=>?_))
 have hi:=h2 (by simpa using hb)
 refine aq λx4 _=>?_
 repeat'(first
  |refine ae (λ_=>?_) (λ_=>?_)
  |exact cw (Z6w h hi h0.2) λx hx=>z
  |exact cw (Z3q h hi h0.2) λx hx=>z
  |exact cw (Zot h hi) λx hx=>hx
  |exact aq λy hy=>z
  |refine aq λ_ _=>?_)
theorem mV{a x:Bool}:(bif a then false else x)=true↔a=false/\x=true:=by cases a<;>simp
theorem Lt(m:bg):AY m=true↔jP m.Mem≠0/\nn m.B4/\m.B6<=1152921504606846976/\¬(m.B2=true/\m.B5=true)/\wx m=true:=by
 rw[xaD]
 unfold N8 chain
 rw[mV,mV,mV,mV,mV,mV,mV]
 simp only[decide_eq_false_iff_not,Int.not_lt,beq_eq_false_iff_ne,bne_eq_false_iff_eq,gt_iff_lt]
 constructor
 ·rintro⟨a1,a2,a3,a4,a5,a6,a7,a8⟩
  refine⟨a1,⟨a2,a3,a4,a5,a6⟩,a7,?_,?_⟩
  ·rintro⟨w,h⟩;rw[w,h]at a8;cases a8
  ·revert a8;cases m.B2
   ·exactλh=>h
   ·cases m.B5
    ·exactλh=>h
    ·intro h;cases h
 ·rintro⟨a1,⟨a2,a3,a4,a5,a6⟩,a7,a8,a9⟩
  refine⟨a1,a2,a3,a4,a5,a6,a7,?_⟩
  rw[a9]
  cases hw:m.B2
  ·rfl
  ·cases hh:m.B5
   ·rfl
   ·exact absurd ⟨hw,hh⟩ a8
theorem Zqq{m:bg}(h:EK m=true):AY m=true/\m.B5=false/\m.B6<1152921504606846976:=by
 simp only[EK,I0,Tree.m,eh]at h
 cases h1:AY m
 ·rw[h1]at h;cases h
 ·cases h2:m.B5
  ·rw[h1,h2]at h
   cases h3:TG m
   ·rw[h3]at h
    have h:decide (m.B6<1152921504606846976)=true:=h
    exact⟨rfl,rfl,oY h⟩
   ·rw[h3]at h;cases h
  ·rw[h1,h2]at h;cases h
theorem Zl8{m:bg}(h:Ao P m)(g:nn m.B4):(Lu m).w (λr=>nn r.B4/\Ao P r/\r.Mem=m.Mem/\r.B2=false/\r.B5=m.B5/\r.B6=m.B6/\r.B1=m.B1/\r.B8=m.B8/\r.B7=m.B7/\r.D4=m.D4/\r.A6=m.A6):=by
 obtain⟨h1,h2,h3,h4,h5,h6⟩:=h
 unfold Lu
 refine ae (λ_=>⟨g,⟨h1,h2,h3,h4,h5,h6⟩,rfl,rfl,rfl,rfl,rfl,rfl,rfl,rfl,rfl⟩) (λ_=>cw (Zez (m:=⟨_,_,_,_,_,_,m.A6,_,_,_⟩) h6) λx0 _=>eu (inv:=λz=>0<=z/\z<=5) (μ:=Qky m) ⟨by omega,by omega⟩ (cN _) (λz hz=>?_))
 obtain⟨z1,z2⟩:=hz
 refine ae (λhb=>av (dY z1) (ae (λ_=>aq λx1 hx=>⟨by rw[hx];exact IV h1 g _ _,⟨by rw[hx];exact I1 h1 _ gk,h2,h3,h4,h5,h6⟩,rfl,rfl,rfl,rfl,rfl,rfl,rfl,rfl,rfl⟩) (λ_=>ee ?_))) (λ_=>⟨g,⟨h1,h2,h3,h4,h5,h6⟩,rfl,rfl,rfl,rfl,rfl,rfl,rfl,rfl,rfl⟩)
 have hb:=oY hb
 show(0<=i64.wrap (z+1)/\i64.wrap (z+1)<=5)/\(5-i64.wrap (z+1)).toNat<(5-z).toNat
 have ew:i64.wrap (z+1)=z+1:=by rw[wrap_i64];omega
 rw[ew];omega
structure Good(P:Nat)(m r:bg):Prop where
 ok:Ao P r
 tF:0<=r.B6
 may:AY m=true->AY r=true
 or:r=m\/r.B6=m.B6+1
theorem Xv{m:bg}(h:Ao P m)(Gx:0<=m.B6)(hk:U clock):(Om m clock).w (λr=>r.2.length<=1/\Good P m r.1):=by
 have jn:kD m.Mem=m.Mem:=rfl
 unfold Om
 refine cg (GG h.mem) (aq λl hl=>?_)
 rw[jn]at hl;subst hl
 refine cg (Tree.pp (zaz (m:=⟨_,_,_,_,_,_,m.A6,_,_,_⟩) h.given)).1 (aq λx1 o7=>ae (λ_=>⟨bC _,h,Gx,λh=>h,.inl rfl⟩) (λhb=>?_))
 have hr:EK m=true:=by rw[<-show x1=EK m from o7];simpa using hb
 obtain⟨hm,hh,hct⟩:=Zqq hr
 obtain⟨g1,g2,g3,g4,g5⟩:=(Lt m).1 hm
 have hP:(P:Int)≠0:=by rw[<-tG h.mem];exact g1
 have fin:∀(n:bg),Ao P n->nn n.B4->wx n=true->n.B6=m.B6->¬(n.B2=true/\n.B5=true)->Good P m {B4:=n.B4,Mem:=n.Mem,B1:=n.B1,B8:=n.B8,B7:=n.B7,D4:=n.D4,A6:=n.A6,B6:=wrap .u64 (n.B6+1),B2:=n.B2,B5:=n.B5}:=λn a b c d e=>by
  have ec:wrap .u64 (n.B6+1)=m.B6+1:=by rw[d,wrap_u64];omega
  refine⟨⟨a.oi,a.mem,a.mo,a.wA,a.target,a.given⟩,?_,λ_=>(Lt _).2 ⟨?_,b,?_,e,c⟩,.inr ec⟩
  ·show 0<=wrap .u64 (n.B6+1);omega
  ·show jP n.Mem≠0;rw[tG a.mem];exact hP
  ·show wrap .u64 (n.B6+1)<=_;omega
 refine cw (Zl8 (m:=⟨_,_,m.B1,m.B8,m.B7,m.D4,m.A6,m.B6,m.B2,m.B5⟩) ⟨h.oi,h.mem,h.mo,h.wA,h.target,h.given⟩ g2) λx2 I2=>?_
 obtain⟨b1,b2,b3,b4,b5,b6,b7,b8,b9,Xw,Xx⟩:=I2
 have ex:=Tree.pp (xay b2.oi b2.mem)
 have em:=Tree.pp (vJ b2.oi b1 b2.mem)
 have er:=Tree.pp (Zqw b2.oi b2.mem)
 refine cg ex.1 (aq λx3 h3=>?_)
 obtain⟨e1,e2,e3⟩:iP x3.1/\ej P x3.2.1/\U x3.2.2.Value:=by rw[h3];exact ex.2
 have f1:nn x3.1:=by rw[h3];exact em.2
 have r1:0<=x3.2.2.F7/\x3.2.2.F7<16:=by rw[h3];exact er.2
 have Xy:Ao P ⟨x3.1,x3.2.1,x2.B1,x2.B8,x2.B7,x2.D4,x2.A6,x2.B6,x2.B2,x2.B5⟩:=⟨e1,e2,b2.mo,b2.wA,b2.target,b2.given⟩
 have dev:∀(w h:Bool),wx ⟨x3.1,x3.2.1,x2.B1,x2.B8,x2.B7,x2.D4,x2.A6,x2.B6,w,h⟩=true:=λw hh=>by
  have id:∀{p:Prop},p->p:=λh=>h
  refine IT (m:=m) (P:=P) h.mem e2 ?_ ?_ ?_ ?_ ?_ g5
  ·show _->AV x2.B1=true;rw[b7];exact id
  ·show _->AW x2.B8=true;rw[b8];exact id
  ·show _->ra x2.B7 P=true;rw[b9];exact id
  ·show _->wy x2.D4 P=true;rw[Xw];exact id
  ·show _->AX x2.A6 P=true;rw[Xx];exact id
 have hw:x2.B2=false:=b4
 have hh2:x2.B5=false:=b5.trans hh
 have Cd:x2.B6=m.B6:=b6
 refine ae (λ_=>?_) λ_=>ae (λ_=>?_) λ_=>ae (λ_=>?_) λ_=>ae (λ_=>?_) λ_=>?_
 ·refine cw (Ztl Xy _ hk) λx4 h4=>?_
  obtain⟨k,u⟩:=h4
  have kc:x4.1.B4=x3.1:=k.oi
  have kt:x4.1.B6=m.B6:=k.tF.trans Cd
  have kw:¬(x4.1.B2=true/\x4.1.B5=true):=λe=>by have:x4.1.B2=x2.B2:=k.wait;rw[this,hw]at e;cases e.1
  have km:nn x4.1.B4:=by rw[kc];exact f1
  refine ae (λhn=>av (rc r1) ⟨bC _,?_⟩) (λ_=>⟨bC _,fin x4.1 k.ok km (k.dev (dev _ _)) kt kw⟩)
  have hn:x3.2.2.F7≠0:=by simpa using hn
  obtain⟨q,e⟩:∃q:Nat,x3.2.2.F7.toNat=q+1:=⟨x3.2.2.F7.toNat-1,by omega⟩
  refine fin ⟨⟨iI.of 0 (dB (iI.l x4.1.B4.X) x3.2.2.F7.toNat x4.2),x4.1.B4.Pc,x4.1.B4.C3⟩,x4.1.Mem,x4.1.B1,x4.1.B8,x4.1.B7,x4.1.D4,x4.1.A6,x4.1.B6,x4.1.B2,x4.1.B5⟩ ⟨⟨Xz k.ok.oi.x u _,k.ok.oi.pc,k.ok.oi.jr⟩,k.ok.mem,k.ok.mo,k.ok.wA,k.ok.target,k.ok.given⟩ ⟨?_,km.st,km.en,km.rt,km.ve⟩ (k.dev (dev _ _)) kt kw
  show(iI.of 0 (dB (iI.l x4.1.B4.X) x3.2.2.F7.toNat x4.2)).a0=0
  rw[e]
  exact km.x0
 ·refine cw (Zo4 Xy _ e3 _) λx5 h5=>?_
  obtain⟨k,u⟩:=h5
  have kc:x5.1.B4=x3.1:=k.oi
  exact⟨u,fin x5.1 k.ok (by rw[kc];exact f1) (k.dev (dev _ _)) (k.tF.trans Cd) (λe=>by have:x5.1.B2=x2.B2:=k.wait;rw[this,hw]at e;cases e.1)⟩
 ·exact⟨bC _,fin ⟨x3.1,x3.2.1,x2.B1,x2.B8,x2.B7,x2.D4,x2.A6,x2.B6,true,x2.B5⟩ ⟨e1,e2,b2.mo,b2.wA,b2.target,b2.given⟩ f1 (dev _ _) Cd (λe=>by have e2:x2.B5=true:=e.2;rw[hh2]at e2;cases e2)⟩
 ·exact⟨bC _,fin ⟨x3.1,x3.2.1,x2.B1,x2.B8,x2.B7,x2.D4,x2.A6,x2.B6,x2.B2,true⟩ ⟨e1,e2,b2.mo,b2.wA,b2.target,b2.given⟩ f1 (dev _ _) Cd (λe=>by have e2:x2.B2=true:=e.1;rw[hw]at e2;cases e2)⟩
 ·exact⟨bC _,fin ⟨x3.1,x3.2.1,x2.B1,x2.B8,x2.B7,x2.D4,x2.A6,x2.B6,x2.B2,x2.B5⟩ Xy f1 (dev _ _) Cd (λe=>by have e2:x2.B2=true:=e.1;rw[hw]at e2;cases e2)⟩
theorem Zi(h:U a):(dR 32 a).toNat=a.toNat:=by
 obtain⟨h1,h2⟩:=h
 rw[dS];omega
theorem XA{a b:Int}(ha:U a)(hb:U b):bh .u32 a b=((a.toNat&&&b.toNat:Nat):Int):=by
 have l:=(dR 32 a&&&dR 32 b).isLt
 have e:(dR 32 a&&&dR 32 b).toNat=a.toNat&&&b.toNat:=by rw[dU,Zi ha,Zi hb]
 show wrap .u32 ((dR 32 a&&&dR 32 b).toNat:Int)=_
 rw[wrap_u32,<-e];omega
theorem zaF{a b:Int}(ha:U a)(hb:U b):iN .u32 a b=((a.toNat|||b.toNat:Nat):Int):=by
 have l:=(dR 32 a|||dR 32 b).isLt
 have e:(dR 32 a|||dR 32 b).toNat=a.toNat|||b.toNat:=by rw[dT,Zi ha,Zi hb]
 show wrap .u32 ((dR 32 a|||dR 32 b).toNat:Int)=_
 rw[wrap_u32,<-e];omega
theorem XB(ha:U a)(k:Nat)(hk:k<=32)(hq:q=((2^k-1:Nat):Int)):bh .u32 a q=a%2^k:=by
 have hp:2^k<=2^32:=dO (by decide) hk
 have h1:(2:Nat)^32=4294967296:=by decide
 have uv:=Nat.two_pow_pos k
 subst hq
 rw[XA ha ⟨by omega,by omega⟩,dX,Nat.and_two_pow_sub_one_eq_mod]
 have:=ha.1
 rw[Int.natCast_emod,eA this]
 simp
theorem m15(ha:U a):bh .u32 a 15=a%16:=XB ha 4 (by decide) rfl
theorem Ce(ha:U a):bh .u32 a 255=a%256:=XB ha 8 (by decide) rfl
theorem I3(ha:U a):bh .u32 a 65535=a%65536:=XB ha 16 (by decide) rfl
theorem EL(p:Int->Bool)(N:Nat)(h:(cW N).all (λn=>p n)=true){s:Int}(h0:0<=s)(h1:s<N):p s=true:=by
 have:=List.all_eq_true.1 h s.toNat (List.mem_range.2 (by omega))
 rwa [eA h0]at this
theorem IB(h0: -9223372036854775808<=x)(h1:x<9223372036854775808):wrap .i64 x=x:=by rw[wrap_i64];omega
theorem On(a:Int):bm .u32 a 0=a:=by have:=DK (a:=a) 0 (by decide);simpa using this
theorem fld(w:Int):tH w 24 8=bh .u32 (bm .u32 w 24) 255/\tH w 20 4=bh .u32 (bm .u32 w 20) 15/\tH w 16 4=bh .u32 (bm .u32 w 16) 15/\tH w 0 16=bh .u32 (bm .u32 w 0) 65535/\tH w 8 8=bh .u32 (bm .u32 w 8) 255:=
 ⟨by kernel_rfl,by kernel_rfl,by kernel_rfl,by kernel_rfl,by kernel_rfl⟩
def Cf(f:Int):Ab×Bool:=
 bif f==1 then(⟨false,false,false,0,0⟩,true)else bif f==2 then(⟨true,true,true,0,0⟩,true)else bif f==3 then(⟨true,true,false,-32768,32767⟩,true)
 else bif f==4 then(⟨true,true,false,0,65535⟩,true)else bif f==5 then(⟨true,true,false,0,31⟩,true)else bif f==6 then(⟨true,false,false,0,65535⟩,true)
 else bif f==7 then(⟨true,false,false,-32768,32767⟩,true)else bif f==8 then(⟨true,false,false,0,7⟩,true)else bif f==9 then(⟨true,false,false,0,11⟩,true)else(⟨false,false,false,0,0⟩,false)
def Cg(x y:Ab×Bool):Bool:=x.1.a==y.1.a&&x.1.b==y.1.b&&x.1.c==y.1.c&&x.1.low==y.1.low&&x.1.F4==y.1.F4&&x.2==y.2
theorem qK{x y:Ab×Bool}(h:Cg x y=true):x=y:=by
 obtain⟨⟨a,b,c,d,e⟩,f⟩:=x
 obtain⟨⟨a',b',c',d',e'⟩,f'⟩:=y
 simp only[Cg,aE,beq_iff_eq]at h
 obtain⟨⟨⟨⟨⟨rfl,rfl⟩,rfl⟩,rfl⟩,rfl⟩,rfl⟩:=h
 rfl
theorem v7(h0:0<=op)(h1:op<256):TH op=Cf (oO op):=by
 exact qK (EL (λop=>Cg (TH op) (Cf (oO op))) 256 (by kernel_rfl) h0 h1)
theorem yg(h0:0<=op)(h1:op<256):oO op=0\/oO op=1\/oO op=2\/oO op=3\/oO op=4\/oO op=5\/oO op=6\/oO op=7\/oO op=8\/oO op=9:=by
 have:=oY (EL (λop=>decide (0<=oO op/\oO op<=9)) 256 (by kernel_rfl) h0 h1)
 omega
theorem xak(h0:0<=op)(h1:op<256):Oo op=Lv op:=by
 exact eq_of_beq (EL (λop=>Oo op==Lv op) 256 (by kernel_rfl) h0 h1)
theorem xK{a x y:Bool}:(cond a x y=true)↔((a=true/\x=true)\/(a=false/\y=true)):=by cases a<;>simp
theorem XC{i:ib}(h0:0<=i.Op)(h1:i.Op<256)(hi:wrap .i64 i.bz=i.bz):I4 i=EM i:=by
 rw[eB]
 simp only[I4,Oq,Tree.m,eh,EM,Ot,v7 h0 h1,hi]
 rcases yg h0 h1 with h|h|h|h|h|h|h|h|h|h<;>rw[h]<;>
 simp[Cf,Qa,TJ,Lw,TL,XD,XE,Tree.m,eh,xK]<;>omega
theorem XF(h0:0<=x)(h1:x<65536):wrap .i32 (DO x 16)=wrap .i32 (wrap .i16 x):=by
 have e:DO x 16=wrap .u32 (bm .i32 (wrap .i32 (ep .u32 x 16)) 16):=by kernel_rfl
 have e2:∀y,bm .i32 y 16=y/65536:=λy=>by
  show eC y 65536=_
  rw[dJ _ (by decide)]
 have e3:ep .u32 x 16=wrap .u32 (x*65536):=rfl
 have e4:wrap .i16 x=(x+32768)%65536-32768:=by
  simp[wrap,IntKind.bits,IntKind.signed]
  split<;>omega
 rw[e,e2,e3,e4]
 simp only[wrap_i32,wrap_u32]
 omega
theorem sx8(h0:0<=x)(h1:x<256):DO x 8=GM x 8:=by
 exact eq_of_beq (EL (λx=>DO x 8==GM x 8) 256 (by kernel_rfl) h0 h1)
theorem vg(hw:U w):Ou w=Ba w:=by
 obtain⟨f1,f2,f3,f4,_⟩:=fld w
 obtain⟨w0,w1⟩:=hw
 have uu:bm .u32 w 24=w/16777216:=by have:=DK (a:=w) 24 (by decide);simpa using this
 have s20:U (bm .u32 w 20):=Aq ⟨w0,w1⟩ _
 have AZ:U (bm .u32 w 16):=Aq ⟨w0,w1⟩ _
 rw[Ce (Aq ⟨w0,w1⟩ _),uu]at f1
 rw[m15 s20]at f2
 rw[m15 AZ]at f3
 rw[On]at f4
 have g1:w/16777216%256=w/16777216:=by omega
 rw[g1]at f1
 have o0:0<=w/16777216:=by omega
 have o1:w/16777216<256:=by omega
 have eo:wrap .i64 (w/16777216)=w/16777216:=IB (by omega) (by omega)
 have i32:∀x,wrap .i64 (wrap .i32 x)=wrap .i32 x:=λx=>by rw[wrap_i64,wrap_i32];omega
 have l0:=I3 ⟨w0,w1⟩
 have lx:=XF (x:=bh .u32 w 65535) (by omega) (by omega)
 simp only[Ou,Lx,Ba,Ly,Tree.m,eh,f1,f2,f3,f4,uu,eo,v7 o0 o1,m15 s20,m15 AZ,lx]
 generalize w/16777216=op at*
 generalize wrap .i64 (bm .u32 w 20%16)=a
 generalize wrap .i64 (bm .u32 w 16%16)=b
 generalize bh .u32 w 65535=l
 rw[XC (i:=⟨op,a,b,wrap .i64 l,0⟩) o0 o1 rfl,XC (i:=⟨op,a,b,0,wrap .i32 (wrap .i16 l)⟩) o0 o1 (i32 _),XC (i:=⟨op,a,b,0,wrap .i32 l⟩) o0 o1 (i32 _)]
 rcases yg o0 o1 with h|h|h|h|h|h|h|h|h|h<;>rw[h]<;>rfl
def EN(W v:Int)(s:Nat):Int:=iN .u32 (oM .u32 W (ep .u32 255 s)) (ep .u32 (bh .u32 v 255) s)
def wC(w:Int)(k:Nat):Int:=if k=0 then w%256 else if k=1 then w/256%256 else if k=2 then w/65536%256 else w/16777216%256
def lG(m:List Int)(a:Nat):Int:=wC (m.getD (a/4) 0) (a%4)
theorem qh(w:Int)(k:Nat):0<=wC w k/\wC w k<256:=by
 unfold wC
 split
 ·omega
 ·split
  ·omega
  ·split<;>omega
theorem qal(hw:U w)(hv:U v)(h:∀k,k<4->wC w k=wC v k):w=v:=by
 have h0:=h 0 (by omega)
 have h1:=h 1 (by omega)
 have h2:=h 2 (by omega)
 have h3:=h 3 (by omega)
 simp[wC]at h0 h1 h2 h3
 obtain⟨a,b⟩:=hw
 obtain⟨c,d⟩:=hv
 omega
theorem xh{m n:List Int}(hl:m.length=n.length)(hm:∀w∈m,U w)(hn:∀w∈n,U w)(h:∀a,lG m a=lG n a):m=n:=by
 refine bR hl λi h1 h2=>?_
 have e1:m[i]=m.getD i 0:=by simp[aV,h1]
 have e2:n[i]=n.getD i 0:=by simp[aV,h2]
 rw[e1,e2]
 refine qal (Bb hm i) (Bb hn i) λk hk=>?_
 have:=h (4*i+k)
 simp only[lG]at this
 rwa [show(4*i+k)/4=i by omega,show(4*i+k)%4=k by omega]at this
theorem Qzq{l:List Int}{i:Nat}(h:i<l.length)(v:Int):(l.set i v).getD i 0=v:=by
 simp[aV,h]
theorem zh{m:List Int}{i:Nat}(hi:i<m.length)(v:Int)(a:Nat):lG (m.set i v) a=if a/4=i then wC v (a%4)else lG m a:=by
 unfold lG
 split
 ·rename_i h;rw[h,Qzq hi]
 ·rename_i h;rw[wv _ _ _ _ (λe=>h e.symm)]
theorem yh{x y:Int}(hx:U x)(hy:U y)(k:Nat)(hk:x<2^k)(h:x+y*2^k<4294967296):iN .u32 x (y*2^k)=x+y*2^k:=by
 obtain⟨n,rfl⟩:∃n:Nat,x=n:=⟨x.toNat,by have:=hx.1;omega⟩
 obtain⟨z,rfl⟩:∃n:Nat,y=n:=⟨y.toNat,by have:=hy.1;omega⟩
 have e:((z:Int)*2^k)=((z*2^k:Nat):Int):=by simp
 rw[e]at h⊢
 have hn:n<2^k:=by exact_mod_cast hk
 rw[zaF hx ⟨by omega,by omega⟩,dX,dX,Nat.or_comm,Nat.mul_comm,<-Nat.two_pow_add_eq_or_of_lt hn]
 omega
theorem four{a b c d:Int}(ha:0<=a/\a<256)(hb:0<=b/\b<256)(hc:0<=c/\c<256)(hd:0<=d/\d<256):iN .u32 (iN .u32 (iN .u32 (wrap .u32 a) (ep .u32 (wrap .u32 b) 8)) (ep .u32 (wrap .u32 c) 16)) (ep .u32 (wrap .u32 d) 24)=a+b*2^8+c*2^16+d*2^24:=by
 have w:∀{x:Int},0<=x/\x<256->wrap .u32 x=x:=λhx=>by rw[wrap_u32];omega
 have s8:∀{x:Int},0<=x/\x<256->ep .u32 x 8=x*2^8:=fun{x} hx=>by show wrap .u32 (x*2^8)=_;rw[wrap_u32];omega
 have AZ:∀{x:Int},0<=x/\x<256->ep .u32 x 16=x*2^16:=fun{x} hx=>by show wrap .u32 (x*2^16)=_;rw[wrap_u32];omega
 have uu:∀{x:Int},0<=x/\x<256->ep .u32 x 24=x*2^24:=fun{x} hx=>by show wrap .u32 (x*2^24)=_;rw[wrap_u32];omega
 rw[w ha,w hb,w hc,w hd,s8 hb,AZ hc,uu hd]
 rw[yh ⟨by omega,by omega⟩ ⟨by omega,by omega⟩ 8 (by omega) (by omega),yh ⟨by omega,by omega⟩ ⟨by omega,by omega⟩ 16 (by omega) (by omega),yh ⟨by omega,by omega⟩ ⟨by omega,by omega⟩ 24 (by omega) (by omega)]
theorem zK{a b c d:Int}(ha:0<=a/\a<256)(hb:0<=b/\b<256)(hc:0<=c/\c<256)(hd:0<=d/\d<256)(k:Nat)(hk:k<4):wC (a+b*2^8+c*2^16+d*2^24) k=if k=0 then a else if k=1 then b else if k=2 then c else d:=by
 have hk:k=0\/k=1\/k=2\/k=3:=by omega
 rcases hk with rfl|rfl|rfl|rfl<;>simp[wC]<;>omega
theorem XG{m:List Int}(h:ej P m)(f:Int):EC m f=decide (0<=f/\f<P):=by
 have hp:=tG h
 simp only[EC,Ld,Tree.m,eh,hp]
 by_cases h1:0<=f
 ·rw[dY h1];simp[h1]
 ·rw[dN h1];simp[h1]
theorem yK(s:List UInt8)(a b k:Nat)(h:k<b):(cU b (cV a s)).getD k 0=s.getD (a+k) 0:=by
 simp[cX,aF,h]
theorem GN(x:UInt8):0<=(x.toNat:Int)/\(x.toNat:Int)<256:=by have:=x.toNat_lt;omega
theorem XH{m:List Int}(h:ej P m)(f0:0<=f)(f1:f<P)(hs:s.length=128):(IP m f s).w (λr=>r.2=true/\ej P r.1/\∀b:Nat,lG r.1 b=if f*128<=b/\(b:Int)<f*128+128 then((s.getD (b-f*128).toNat 0).toNat:Int)else lG m b):=by
 have jn:kD m=m:=rfl
 have h2:=h.p2
 unfold IP
 refine cg (GG h) (aq λx0 nP=>aq λx1 o7=>?_)
 rw[jn]at nP;subst nP
 rw[XG h,dY ⟨f0,f1⟩]at o7
 subst o7
 refine ae (λhb=>by cases hb) λ_=>ae (λhb=>by simp[hs]at hb) λ_=>?_
 refine eu (inv:=λz:Int×List Int=>0<=z.1/\z.1<=32/\ej P z.2/\∀b:Nat,lG z.2 b=if f*128<=b/\(b:Int)<f*128+4*z.1 then((s.getD (b-f*128).toNat 0).toNat:Int)else lG x0 b) (μ:=Xn x0 f s) ⟨show(0:Int)<=0 by decide,show(0:Int)<=32 by decide,h,λb=>by rw[if_neg];show¬(_/\_<_+4*(0:Int));omega⟩ (cN _) λz ⟨z1,z2,z3,z4⟩=>?_
 refine ae (λhb=>?_) (λhb=>⟨rfl,z3,λb=>?_⟩)
 ·have hb:=oY hb
  have e1:i64.wrap (4*z.1)=4*z.1:=by rw[wrap_i64];omega
  have e2:i64.wrap (i64.wrap (4*z.1)+4)=4*z.1+4:=by rw[wrap_i64,wrap_i64];omega
  have e3:i64.wrap (i64.wrap (f*32)+z.1)=f*32+z.1:=by rw[wrap_i64,wrap_i64];omega
  have hl:=z3.len
  have cut:dA (i64.wrap (i64.wrap (4*z.1)+4))-dA (i64.wrap (4*z.1))=4:=by rw[e2,e1];omega
  have hlen:(cU (dA (i64.wrap (i64.wrap (4*z.1)+4))-dA (i64.wrap (4*z.1))) (cV (dA (i64.wrap (4*z.1))) s)).length=4:=by
   rw[cut,e1,aD,aG];omega
  refine av (dY (by rw[e2,e1];omega)) ?_
  refine av (dY (by rw[hlen];decide)) (av (dY (by rw[hlen];decide)) (av (dY (by rw[hlen];decide)) (av (dY (by rw[hlen];decide)) (av (by rw[e3];simp[bN];omega) (ee ?_)))))
  have ew:i64.wrap (z.1+1)=z.1+1:=by rw[wrap_i64];omega
  rw[cut]
  refine⟨⟨by show 0<=i64.wrap (z.1+1);rw[ew];omega,by show i64.wrap (z.1+1)<=32;rw[ew];omega,?_,?_⟩,by show(32-i64.wrap (z.1+1)).toNat<(32-z.1).toNat;rw[ew];omega⟩
  ·show ej P (dB _ _ _)
   exact⟨by rw[dC];exact hl,z3.p1,z3.p2,ED z3.u (nI _ _) _⟩
  ·intro b
   show lG (dB z.2 (dA (i64.wrap (i64.wrap (f*32)+z.1))) _) b=if f*128<=(b:Int)/\(b:Int)<f*128+4*i64.wrap (z.1+1)then _ else _
   rw[e3,ew,four (GN _) (GN _) (GN _) (GN _),zh (by omega)]
   have g:∀k:Nat,k<4->(cU 4 (cV (dA (i64.wrap (4*z.1))) s)).getD k 0=s.getD ((4*z.1).toNat+k) 0:=λk hk=>by rw[e1];exact yK _ _ _ _ hk
   by_cases hc:b/4=(f*32+z.1).toNat
   ·have TM:f*128<=(b:Int)/\(b:Int)<f*128+4*(z.1+1):=by omega
    rw[if_pos hc,zK (GN _) (GN _) (GN _) (GN _) _ (by omega),if_pos TM]
    have hb4:b%4=0\/b%4=1\/b%4=2\/b%4=3:=by omega
    have gi:(b-f*128).toNat=(4*z.1).toNat+b%4:=by omega
    rw[gi]
    rcases hb4 with h4|h4|h4|h4<;>rw[h4]
    ·rw[if_pos rfl,<-g 0 (by omega)];rfl
    ·rw[if_neg (by decide),if_pos rfl,<-g 1 (by omega)];rfl
    ·rw[if_neg (by decide),if_neg (by decide),if_pos rfl,<-g 2 (by omega)];rfl
    ·rw[if_neg (by decide),if_neg (by decide),if_neg (by decide),<-g 3 (by omega)];rfl
   ·rw[if_neg hc,z4 b]
    by_cases hd:f*128<=(b:Int)/\(b:Int)<f*128+4*z.1
    ·rw[if_pos hd,if_pos (by omega)]
    ·rw[if_neg hd,if_neg (by omega)]
 ·have hb:=oN hb
  show lG z.2 b=_
  rw[z4 b,show z.1=32 by omega]
  rfl
theorem Zqy{α:Type}(l l2:List α)(k:Nat)(z:α):(l++l2).getD k z=if k<l.length then l.getD k z else l2.getD (k-l.length) z:=by
 simp only[cX,List.getElem?_append]
 split<;>rfl
theorem u8w:wrap .u8 x=x%256:=wrap_u8 x
theorem GO(W:Int):bm .u32 W 8=W/256/\bm .u32 W 16=W/65536/\bm .u32 W 24=W/16777216:=by
 refine⟨?_,?_,?_⟩
 ·show eC W 256=_;rw[dJ _ (by decide)]
 ·show eC W 65536=_;rw[dJ _ (by decide)]
 ·show eC W 16777216=_;rw[dJ _ (by decide)]
theorem b4d(W:Int)(hk:k<4):[wrap .u8 W,wrap .u8 (bm .u32 W 8),wrap .u8 (bm .u32 W 16),wrap .u8 (bm .u32 W 24)].getD k 0=wC W k:=by
 obtain⟨a,b,c⟩:=GO W
 have hk:k=0\/k=1\/k=2\/k=3:=by omega
 rcases hk with rfl|rfl|rfl|rfl<;>simp[wC,a,b,c,u8w]
theorem XI(l:List Int)(k:Nat)(h:0<=l.getD k 0/\l.getD k 0<256)(hk:k<l.length):(((bytesOf l).getD k 0).toNat:Int)=l.getD k 0:=by
 have e:(bytesOf l).getD k 0=eD (l.getD k 0).toNat:=by
  simp[bytesOf,cX,hk]
 rw[e,UInt8.toNat_ofNat']
 omega
theorem Zq2(l:List UInt8)(k:Nat)(hk:k<l.length):(o8 l).getD k 0=((l.getD k 0).toNat:Int):=by
 simp[o8,cX,hk]
theorem xaF(w:List Int)(h:w.length<=32):(EE w).w (λr=>r.length=4*w.length/\∀k:Nat,k<4*w.length->((r.getD k 0).toNat:Int)=wC (w.getD (k/4) 0) (k%4)):=by
 have e0:i64.wrap (4*(w.length:Int))=4*w.length:=by rw[wrap_i64];omega
 unfold EE
 refine av (by rw[e0];simp[bN,D.plain];omega) ?_
 refine eu (inv:=λz:Int×List Int=>0<=z.1/\z.1<=w.length/\(z.2.length:Int)=4*z.1/\∀k:Nat,(k:Int)<4*z.1->z.2.getD k 0=wC (w.getD (k/4) 0) (k%4)) (μ:=N6 w) ⟨by decide,by show(0:Int)<=w.length;omega,rfl,λk hk=>by have hk:(k:Int)<4*0:=hk;omega⟩ (cN _) λz ⟨z1,z2,z3,z4⟩=>?_
 refine ae (λhb=>?_) (λhb=>?_)
 ·have hb:=oY hb
  have ew:i64.wrap (z.1+1)=z.1+1:=by rw[wrap_i64];omega
  refine av (by simp[bN];omega) (av (dY (by omega)) (ee ?_))
  show(_/\_/\_/\∀k:Nat,(k:Int)<4*i64.wrap (z.1+1)->(z.2++_).getD k 0=_)/\(_:Nat)<_
  refine⟨⟨by rw[ew];omega,by rw[ew];omega,by rw[ew,lA];simp only[dD,dE];omega,λk hk=>?_⟩,by show(w.length-i64.wrap (z.1+1)).toNat<(w.length-z.1).toNat;rw[ew];omega⟩
  rw[ew]at hk
  rw[Zqy]
  split
  ·exact z4 k (by omega)
  ·rename_i hn
   rw[b4d _ (by omega),show z.1.toNat=k/4 by omega,show k-z.2.length=k%4 by omega]
 ·have hb:=oN hb
  show(bytesOf z.2).length=_/\∀k:Nat,_->(((bytesOf z.2).getD k 0).toNat:Int)=_
  refine⟨by rw[N7];omega,λk hk=>?_⟩
  have e:=z4 k (by omega)
  have:=qh (w.getD (k/4) 0) (k%4)
  rw[XI _ _ (by rw[e];exact this) (by omega),e]
def Ch(m:List Int)(f:Int)(r:List UInt8):Prop:=r.length=128/\∀k:Nat,k<128->((r.getD k 0).toNat:Int)=lG m ((f*128).toNat+k)
theorem vh{m:List Int}{r s:List UInt8}(a:Ch m f r)(b:Ch m f s):r=s:=by
 obtain⟨a1,a2⟩:=a
 obtain⟨b1,b2⟩:=b
 refine bR (by omega) λi h1 h2=>?_
 have e:=(a2 i (by omega)).trans (b2 i (by omega)).symm
 have e1:r[i]=r.getD i 0:=by simp[aV,h1]
 have e2:s[i]=s.getD i 0:=by simp[aV,h2]
 rw[e1,e2]
 exact UInt8.toNat_inj.1 (by omega)
theorem qi{m:List Int}(h:ej P m)(f0:0<=f)(f1:f<P):(DJ m f).w (λr=>Ch m f r.1/\r.2=true):=by
 have hl:=h.len
 have h2:=h.p2
 unfold DJ
 refine aq λx0 nP=>?_
 rw[XG h,dY ⟨f0,f1⟩]at nP
 subst nP
 refine ae (λhb=>by cases hb) (λhb=>?_)
 have e1:i64.wrap (f*32)=f*32:=by rw[wrap_i64];omega
 have e2:i64.wrap (i64.wrap (f*32)+32)=f*32+32:=by rw[wrap_i64,wrap_i64];omega
 have cut:dA (i64.wrap (i64.wrap (f*32)+32))-dA (i64.wrap (f*32))=32:=by rw[e2,e1];omega
 have hlen:(cU 32 (cV (dA (i64.wrap (f*32))) m)).length=32:=by
  rw[e1,aD,aG];omega
 refine av (by rw[e2,e1];simp[bN];omega) ?_
 rw[cut]
 refine cg (by show dF _<=1000000000000;rw[hlen];decide) (aq λx1 h1=>?_)
 have t:=(Tree.pp (xaF _ (dG hlen))).2
 rw[hlen,show(EE (cU 32 (cV (dA (i64.wrap (f*32))) m))).m=x1 from h1.symm]at t
 refine⟨⟨t.1,λk hk=>?_⟩,rfl⟩
 show((x1.getD k 0).toNat:Int)=_
 rw[t.2 k hk,lG,e1]
 have g:(cU 32 (cV (dA (f*32)) m)).getD (k/4) 0=m.getD ((f*32).toNat+k/4) 0:=by
  simp[cX,aF,show k/4<32 by omega]
 rw[g,show((f*128).toNat+k)/4=(f*32).toNat+k/4 by omega,show((f*128).toNat+k)%4=k%4 by omega]
theorem qaG(x:Int):XJ x 4=bytesOf [wrap .u8 (bm .u32 x 0),wrap .u8 (bm .u32 x 8),wrap .u8 (bm .u32 x 16),wrap .u8 (bm .u32 x 24)]:=by kernel_rfl
theorem zal{m:List Int}(hm:ej P m){frame:Int}(f0:0<=frame)(f1:frame<P):(GP m frame).w (λr=>Ch m frame r.1/\r.2=true):=by
 have hp:=DP hm
 have hl:=hm.len
 have h2:=hm.p2
 unfold GP
 refine ae (λh=>by have:=oY h;omega) (λh=>aq λx0 hx=>ae (λh1=>by have:=oY h1;rw[hx,hp]at this;omega) (λh1=>?_))
 refine eu (inv:=λz:Int×List Int=>0<=z.1/\z.1<=32/\(z.2.length:Int)=4*z.1/\∀k:Nat,(k:Int)<4*z.1->z.2.getD k 0=lG m ((frame*128).toNat+k)) (μ:=XK m frame) ⟨by decide,by decide,rfl,λk hk=>by have hk:(k:Int)<4*0:=hk;omega⟩ (cN _) (λz hz=>?_)
 obtain⟨z1,z2,z3,z4⟩:=hz
 refine ae (λhb=>?_) (λhb=>?_)
 ·have hb:=oY hb
  have e:wrap i64 (wrap i64 (frame*32)+z.1)=frame*32+z.1:=by rw[wrap_i64,wrap_i64];omega
  refine av (by rw[e];simp[bN];omega) (cg (show(4:Int)<=1000000000000 by decide) (aq λx1 h4=>?_))
  rw[qaG,On,e]at h4
  have l4:x1.length=4:=by rw[h4];rfl
  refine av (dY (by rw[TN,l4];omega)) (ee ?_)
  show(0<=i64.wrap (z.1+1)/\i64.wrap (z.1+1)<=32/\((z.2++o8 x1).length:Int)=4*i64.wrap (z.1+1)/\∀k:Nat,(k:Int)<4*i64.wrap (z.1+1)->(z.2++o8 x1).getD k 0=_)/\(32-i64.wrap (z.1+1)).toNat<(32-z.1).toNat
  have ew:i64.wrap (z.1+1)=z.1+1:=by rw[wrap_i64];omega
  rw[ew]
  refine⟨⟨by omega,by omega,by rw[lA,TN,l4];omega,λk hk=>?_⟩,by omega⟩
  rw[Zqy]
  split
  ·exact z4 k (by omega)
  ·rename_i hn
   have DQ:k-z.2.length<4:=by omega
   rw[Zq2 _ _ (by omega),h4]
   have d:=b4d (m.getD (frame*32+z.1).toNat 0) DQ
   rw[XI _ _ (by rw[d];exact qh _ _) (by simpa using DQ),d,lG]
   rw[show((frame*128).toNat+k)/4=(frame*32+z.1).toNat by omega,show((frame*128).toNat+k)%4=k-z.2.length by omega]
 ·have hb:=oN hb
  refine⟨⟨?_,λk hk=>?_⟩,rfl⟩
  ·show(bytesOf z.2).length=128
   rw[N7];omega
  ·show(((bytesOf z.2).getD k 0).toNat:Int)=_
   have e:=z4 k (by omega)
   rw[XI _ _ (by rw[e];exact qh _ _) (by omega),e]
theorem Zl0{m:List Int}(h:ej P m)(f:Int):jG m f=Lz m f:=by
 by_cases hf:0<=f/\f<P
 ·have a:=(Tree.pp (qi h hf.1 hf.2)).2
  have b:=(Tree.pp (zal h hf.1 hf.2)).2
  exact Prod.ext (vh a.1 b.1) (a.2.trans b.2.symm)
 ·have hp:=DP h
  have e1:jG m f=([],false):=by
   simp only[jG,DJ,Tree.m,eh,XG h,dN hf];rfl
  have e2:Lz m f=([],false):=by
   simp only[Lz,GP,Tree.m,eh,hp]
   by_cases h0:f<0
   ·rw[dY h0];rfl
   ·rw[dN h0,dY (show f>=P by omega)];rfl
  rw[e1,e2]
section
variable {P:Nat} {m:List Int} (h:ej P m)
include h
theorem Ov(ha:U a)(hs:size=1\/size=4):uw m a size=decide (a%size=0/\a<128*P):=by
 have hq:=DP h
 have h2:=h.p2
 have a0:=ha.1
 have e:wrap u32 size=size:=by rcases hs with rfl|rfl<;>decide
 have e0:decide (wrap u32 size≠0)=true:=by rcases hs with rfl|rfl<;>decide
 have t:cZ a (wrap u32 size)=a%size:=by rw[e,dZ a0]
 have l:∀x,x=rL m->a%size=0->decide (a<wrap u32 (wrap i64 (128*x)))=decide (a%size=0/\a<128*P):=λx hx hz=>by
  rw[hx,hq,wrap_u32,wrap_i64]
  exact decide_eq_decide.2 ⟨λh=>⟨hz,by omega⟩,λh=>by omega⟩
 refine Tree.post (I5 m a size) (W:=λb=>b=decide (a%size=0/\a<128*P)) ?_
 unfold I5
 refine ae (λh1=>ae (λh4=>?_) (λ_=>?_)) (λ_=>?_)
 ·have h1:¬size=1:=by simpa using h1
  have h4:¬size=4:=by simpa using h4
  omega
 all_goals
  refine av e0 (ae (λhb=>aq λx hx=>l x hx ?_) (λhb=>?_))
  ·rw[t]at hb;exact eq_of_beq hb
  ·rw[t]at hb
   exact(dN (λh=>by rw[h.1]at hb;cases hb)).symm
theorem Z9i(ha:U a)(hs:size=1\/size=4):XL m a size=uw m a size:=by
 rw[Ov h ha hs]
 have hq:=XM h
 have h2:=h.p2
 have a0:=ha.1
 have a1:=ha.2
 have e:wrap u32 size=size:=by rcases hs with rfl|rfl<;>decide
 have e0:decide (wrap u32 size≠0)=true:=by rcases hs with rfl|rfl<;>decide
 have t:cZ a (wrap u32 size)=a%size:=by rw[e,dZ a0]
 have l:∀x,x=jP m->a%size=0->decide (wrap u64 (wrap u64 a+wrap u64 size)<=wrap u64 (wrap u64 x*128))=decide (a%size=0/\a<128*P):=λx hx hz=>by
  rw[hx,hq]
  simp only[wrap_u64]
  refine decide_eq_decide.2 ⟨λh=>⟨hz,?_⟩,λh=>?_⟩<;>rcases hs with rfl|rfl<;>omega
 refine Tree.post (I6 m a size) (W:=λb=>b=decide (a%size=0/\a<128*P)) ?_
 unfold I6
 refine ae (λh1=>ae (λh4=>?_) (λ_=>?_)) (λ_=>?_)
 ·have h1:¬size=1:=by simpa using h1
  have h4:¬size=4:=by simpa using h4
  omega
 all_goals
  refine av e0 (ae (λhb=>?_) (λhb=>aq λx hx=>l x hx ?_))
  ·rw[t]at hb
   exact(dN (λh=>by rw[h.1]at hb;cases hb)).symm
  ·rw[t]at hb;simpa using hb
end
theorem XN(w:Int):tH w 0 8=bh .u32 (bm .u32 w 0) 255/\tH w 8 8=bh .u32 (bm .u32 w 8) 255/\tH w 16 8=bh .u32 (bm .u32 w 16) 255/\tH w 24 8=bh .u32 (bm .u32 w 24) 255:=
 ⟨by kernel_rfl,by kernel_rfl,by kernel_rfl,by kernel_rfl⟩
theorem XO(w v:Int):LA w 0 8 v=EN w v 0/\LA w 8 8 v=EN w v 8/\LA w 16 8 v=EN w v 16/\LA w 24 8 v=EN w v 24:=
 ⟨by kernel_rfl,by kernel_rfl,by kernel_rfl,by kernel_rfl⟩
theorem xi(ha:U a):wrap .i64 (wrap .i64 (cZ a 4)*8)=8*(a%4)/\wrap .u32 (8*cZ a 4)=8*(a%4):=by
 obtain⟨a0,a1⟩:=ha
 rw[dZ a0]
 exact⟨by rw[wrap_i64,wrap_i64];omega,by rw[wrap_u32];omega⟩
section
variable {P:Nat} {m:List Int} (h:ej P m)
include h
theorem Ow(ha:U a)(hs:size=1\/size=4):Ci m a size=oP m a size:=by
 have e:=Z9i h ha hs
 obtain⟨s1,s2⟩:=xi ha
 have f:tH (m.getD (dA (wrap .u32 (eF a 4))) 0) (8*(a%4)) 8=bh .u32 (bm .u32 (m.getD (dA (wrap .u32 (eF a 4))) 0) (8*(a%4))) 255:=by
  obtain⟨f0,f1,f2,f3⟩:=XN (m.getD (dA (wrap .u32 (eF a 4))) 0)
  have:a%4=0\/a%4=1\/a%4=2\/a%4=3:=by omega
  rcases this with h|h|h|h<;>rw[h]
  ·exact f0
  ·exact f1
  ·exact f2
  ·exact f3
 simp only[Ci,LB,oP,DR,Tree.m,eh,e,s1,s2,f]
omit h in
theorem XP(a size:Int):(oP m a size).2=uw m a size:=by
 simp only[oP,DR,Tree.m,eh]
 cases uw m a size
 ·rfl
 ·cases size==1<;>rfl
theorem Zdd(ha:U a)(hs:size=1\/size=4)(v:Int):LC m a size v=bif uw m a size then(I7 m a size v,true)else(m,false):=by
 have jn:kD m=m:=rfl
 have e:=Z9i h ha hs
 obtain⟨s1,s2⟩:=xi ha
 have f:∀w,LA w (8*(a%4)) 8 v=iN .u32 (oM .u32 w (ep .u32 255 (8*(a%4)))) (ep .u32 (bh .u32 v 255) (8*(a%4))):=λw=>by
  obtain⟨f0,f1,f2,f3⟩:=XO w v
  have:a%4=0\/a%4=1\/a%4=2\/a%4=3:=by omega
  rcases this with h|h|h|h<;>rw[h]
  ·exact f0
  ·exact f1
  ·exact f2
  ·exact f3
 simp only[LC,LD,I7,LF,Tree.m,eh,jn,e,s1,s2,f]
 rcases hs with rfl|rfl<;>cases uw m a _<;>rfl
end
section
variable {P:Nat} {m:List Int} (h:ej P m)
include h
theorem zi{root va:Int}(hr:U root)(hv:U va)(ha:access=1\/access=2\/access=3):TO m root va access=Ar m root va access:=by
 have hp:=DP h
 have h2:=h.p2
 have hlen:=h.len
 obtain⟨r1,r2⟩:=hr
 obtain⟨v1,v2⟩:=hv
 have IS:∀{f:Int},U f->Ox m f=decide (f<P):=λhf=>zX h hf
 have eP:wrap .u32 (P:Int)=P:=by rw[wrap_u32];omega
 have kn:Oy access=true:=by rcases ha with rfl|rfl|rfl<;>rfl
 have ca:Qn8 access=(Cj access,true):=by rcases ha with rfl|rfl|rfl<;>rfl
 simp only[TO,LG,Ar,GQ,Tree.m,eh,hp,eP,kn,ca,IS ⟨r1,r2⟩]
 by_cases c1:va>=4096
 ·rw[dY c1];rfl
 by_cases c2:root<P
 ·have eE:wrap u32 (wrap u32 (root*128)+wrap u32 (4*wrap u32 (eF va 128)))=root*128+4*(va/128):=by
   rw[eG v1,wrap_u32,wrap_u32,wrap_u32,wrap_u32];omega
  have hE:U (root*128+4*(va/128)):=⟨by omega,by omega⟩
  have wi:uw m (root*128+4*(va/128)) 4=true:=by
   rw[Ov h hE (.inr rfl)];exact dY ⟨by omega,by omega⟩
  rw[dN c1,dY c2,dN (show¬root>=P by omega),eE,Ow h hE (.inr rfl),XP,wi]
  have ld:(oP m (root*128+4*(va/128)) 4).1=m.getD (dA (wrap .u32 (eF (root*128+4*(va/128)) 4))) 0:=by
   simp only[oP,DR,Tree.m,eh,wi];rfl
  rw[ld]
  generalize m.getD (dA (wrap .u32 (eF (root*128+4*(va/128)) 4))) 0=w
  have fo:XQ w=bh .u32 (bm .u32 w 8) 255:=(fld w).2.2.2.2
  rw[fo,IS (LH _ _)]
  have fx:decide (bh .u32 (bm .u32 w 8) 255>=(P:Int))=!decide (bh .u32 (bm .u32 w 8) 255<(P:Int)):=by
   by_cases hq:bh .u32 (bm .u32 w 8) 255<(P:Int)
   ·rw[dY hq,dN (by omega)];rfl
   ·rw[dN hq,dY (by omega)];rfl
  rw[fx]
  generalize decide (bh .u32 (bm .u32 w 8) 255<(P:Int))=d
  rcases ha with rfl|rfl|rfl
  ·show _=(bif bh .u32 w 1==0 then _ else bif bh .u32 w 4==0 then _ else bif !d then _ else _)
   have:TP w 1=(bif bh .u32 w 1==0 then false else !(bh .u32 w 4==0)):=rfl
   rw[this]
   cases bh .u32 w 1==0<;>cases bh .u32 w 4==0<;>cases d<;>rfl
  ·show _=(bif bh .u32 w 1==0 then _ else bif !d then _ else _)
   have:TP w 2=(bif bh .u32 w 1==0 then false else true):=rfl
   rw[this]
   cases bh .u32 w 1==0<;>cases d<;>rfl
  ·show _=(bif bh .u32 w 1==0 then _ else bif bh .u32 w 2==0 then _ else bif !d then _ else _)
   have:TP w 3=(bif bh .u32 w 1==0 then false else !(bh .u32 w 2==0)):=rfl
   rw[this]
   cases bh .u32 w 1==0<;>cases bh .u32 w 2==0<;>cases d<;>rfl
 ·rw[dN c1,dN c2,dY (show root>=P by omega)];rfl
theorem Zuo(ha:U a)(access:Int):Oz m a access=TQ m a access:=by
 have jn:kD m=m:=rfl
 have hl:=h.len
 have a0:=ha.1
 simp only[Oz,LI,TQ,Qg,Tree.m,eh,Ow h ha (.inr rfl),XP,Zdd h ha (.inr rfl),jn]
 cases hw:uw m a 4
 ·rfl
 ·rw[Ov h ha (.inr rfl)]at hw
  have hw:=oY hw
  have wi:uw m a 4=true:=by rw[Ov h ha (.inr rfl)];exact dY hw
  have ld:(oP m a 4).1=m.getD (dA (wrap .u32 (eF a 4))) 0:=by
   simp only[oP,DR,Tree.m,eh,wi];rfl
  have pu:∀v,I7 m a 4 v=m.set (dA (wrap .u32 (eF a 4))) v:=λv=>rfl
  rw[ld,pu,pu]
  have hi:dA (wrap .u32 (eF a 4))<m.length:=by
   rw[eG a0,wrap_u32];omega
  generalize dA (wrap .u32 (eF a 4))=i at*
  rw[Qzq hi,List.set_set]
  rfl
end
theorem OA(h0:0<=c.C3.a0)(h:c.C3.a0<=31)(k b:Int):rb c k b=pN c k b:=by
 have e:=eq_of_beq (EL (λs=>oM .u32 (iN .u32 (Ap (Ap s 1 8) 2 16) 1) 2==iN .u32 (oM .u32 (iN .u32 (iN .u32 (oM .u32 s 24) (wrap .u32 (8*Cl (bh .u32 s 1 !=0)))) (wrap .u32 (16*Cl (bh .u32 s 2 !=0)))) 2) 1) 32 (by kernel_rfl) h0 (by omega))
 simp only[rb,OB,pN,OC,Tree.m,eh,e]
theorem Zom(h0:0<=c.C3.a0)(h:c.C3.a0<=31):Lq c=TR c:=by
 have e:=eq_of_beq (EL (λs=>Ap (Ap s 8 1) 16 2==iN .u32 (iN .u32 (oM .u32 s 3) (wrap .u32 (1*Cl (bh .u32 s 8 !=0)))) (wrap .u32 (2*Cl (bh .u32 s 16 !=0)))) 32 (by kernel_rfl) h0 (by omega))
 simp only[Lq,OD,TR,OE,Tree.m,eh,e]
theorem Zv0(h0:0<=c.C3.a0)(h:c.C3.a0<=31):XR c=(!I8 c&&(bh .u32 c.C3.a0 4 !=0)):=
 eq_of_beq (EL (λs=>(bh .u32 s 5==4)==(!(bh .u32 s 1 !=0)&&(bh .u32 s 4 !=0))) 32 (by kernel_rfl) h0 (by omega))
theorem TS(c:bq)(hr:0<=r/\r<16)(v:Int):uy c r v=lH c r v:=by
 simp only[uy,EH,lH,I9,Tree.m]
 by_cases h:r=0
 ·subst h;rfl
 ·rw[dY (show r>0 by omega),dY hr.2,show(r !=0)=true by simpa using h];rfl
theorem vK{a b:Int}(ha:U a)(hb:U b):LJ a b=LK a b:=by
 obtain⟨a0,a1⟩:=ha
 obtain⟨b0,b1⟩:=hb
 have i:∀x,wrap .i64 (wrap .i32 x)=wrap .i32 x:=λx=>by rw[wrap_i64,wrap_i32];omega
 have r32:∀x,-2147483648<=wrap .i32 x/\wrap .i32 x<2147483648:=λx=>by rw[wrap_i32];omega
 have q32:∀x y:Int,-2147483648<=x/\x<2147483648-> -2147483648<=eF x y/\eF x y<=2147483648:=λx y hx=>by
  have h1:(eF x y).natAbs<=x.natAbs:=by rw[Int.natAbs_tdiv];exact Nat.div_le_self _ _
  omega
 simp only[LJ,LM,LK,LN,Tree.m,i]
 cases hb:b==0
 ·have w:∀z,wrap .u32 (wrap .i32 z)=wrap .u32 z:=λz=>by rw[wrap_i32,wrap_u32,wrap_u32];omega
  have w2:wrap .i64 (eF (wrap .i32 a) (wrap .i32 b))=eF (wrap .i32 a) (wrap .i32 b):=by
   have:=q32 _ (wrap .i32 b) (r32 a)
   rw[wrap_i64];omega
  rw[w,w2]
  cases h1:a==2147483648
  ·rfl
  ·cases h2:b==4294967295
   ·rfl
   ·have h1:=eq_of_beq h1
    have h2:=eq_of_beq h2
    subst h1;subst h2
    rfl
 ·rfl
theorem qL{op a b:Int}(h0:1<=op)(h1:op<=23)(ha:U a)(hb:U b):nJ op a b=DS op a b:=by
 have sub:wrap .u32 (a+wrap .u32 (0-b))=wrap .u32 (a-b):=by
  rw[wrap_u32,wrap_u32,wrap_u32];omega
 have rH:op=1\/op=2\/op=3\/op=4\/op=5\/op=6\/op=7\/op=8\/op=9\/op=10\/op=11\/op=12\/op=13\/op=14\/op=15\/op=16\/op=17\/op=18\/op=19\/op=20\/op=21\/op=22\/op=23:=by omega
 have d:=vK ha hb
 rcases rH with rfl|rfl|rfl|rfl|rfl|rfl|rfl|rfl|rfl|rfl|rfl|rfl|rfl|rfl|rfl|rfl|rfl|rfl|rfl|rfl|rfl|rfl|rfl
 ·rfl
 ·show(wrap .u32 (a+wrap .u32 (0-b)),true)=(wrap .u32 (a-b),true)
  rw[sub]
 ·rfl
 ·rfl
 ·rfl
 ·rfl
 ·rfl
 ·rfl
 ·rfl
 ·show((LJ a b).1,true)=((LK a b).1,true)
  rw[d]
 ·show((LJ a b).2,true)=((LK a b).2,true)
  rw[d]
 all_goals rfl
theorem XS{m:List Int}(h:ej P m)(hc:iP c)(jZ:c.C3.a0<=31){va:Int}(hv:U va)(hs:size=1\/size=4)(ha:access=1\/access=2\/access=3):rM c m va size access=((lR c m va size access).1,(lR c m va size access).2.2,(lR c m va size access).2.1):=by
 have jn:kD m=m:=rfl
 have kn:Oy access=true:=by rcases ha with rfl|rfl|rfl<;>rfl
 have ca:Qwr access=(Cj access,true):=by rcases ha with rfl|rfl|rfl<;>rfl
 have pg:=Zv0 hc.a0.1 jZ
 have wk:=zi h hc.a6 hv ha
 have tc:Oz m (Ar m c.C3.a6 va access).G1 access=TQ m (Ar m c.C3.a6 va access).G1 access:=Zuo h (Tree.pp (xad h hc.a6 hv access)).2.2.1 access
 have sz:(bif size !=1 then bif size !=4 then false else true else true)=true:=by rcases hs with rfl|rfl<;>rfl
 simp only[rM,LO,lR,Ja,Tree.m,eh,jn,kn,ca,pg,wk,tc,Ow h hv hs,XP]
 rcases hs with rfl|rfl<;>
 ·show(bif _ then _ else _)=_
  cases cZ va _ !=0<;>cases I8 c<;>cases bh .u32 c.C3.a0 4 !=0<;>cases(Ar m c.C3.a6 va access).G0 !=0<;>cases uw m va _<;>rfl
theorem XT{α:Type}{Q:α->Prop}{c:Bool}{x y:α}(hx:Q x)(hy:Q y):Q (cond c x y):=by cases c<;>assumption
theorem xal(m:List Int)(root:Int){va:Int}(hv:U va)(access:Int):(Ar m root va access).G0=0->(Ar m root va access).Addr%4=va%4:=by
 have hc:Cj access≠0:=by
   simp only[Cj,LP,Tree.m]
   cases access==1<;>cases access==3<;>simp
 have q :(λt:rG=>t.G0=0->t.Addr%4=va%4) (Ar m root va access):=by
   simp only[Ar,GQ,Tree.m,eh]
   repeat'(first
     |exact λe=>absurd e hc
     | (intro _
        show wrap .u32 (wrap .u32 (_*128)+cZ va 128)%4=va%4
        rw[dZ hv.1,wrap_u32,wrap_u32];omega)
     |refine XT (Q:=λt:rG=>t.G0=0->t.Addr%4=va%4) ?_ ?_)
 exact q
theorem xL{m:List Int}{va:Int}(hv:U va)(hs:size=1\/size=4)(ha:access=1\/access=2\/access=3):(lR c m va size access).2.1=0->(lR c m va size access).1%size=0:=by
 have kn:Oy access=true:=by rcases ha with rfl|rfl|rfl<;>rfl
 have hc:Cj access≠0:=by
  simp only[Cj,LP,Tree.m]
  cases access==1<;>cases access==3<;>simp
 rcases hs with rfl|rfl
 ·intro _;omega
 simp only[lR,Ja,Tree.m,eh,kn]
 show(bif cZ va 4 !=0 then((0:Int),(3:Int),m)else _).2.1=0->(bif cZ va 4 !=0 then((0:Int),(3:Int),m)else _).1%4=0
 rw[dZ hv.1]
 cases hz:va%4 !=0
 ·have hz:va%4=0:=by simpa using hz
  have w:=xal m c.C3.a6 hv access
  cases hp:XR c
  ·cases hw:uw m va 4
   ·exactλe=>absurd e hc
   ·exactλ_=>hz
  ·cases hq:(Ar m c.C3.a6 va access).G0 !=0
   ·have hq:(Ar m c.C3.a6 va access).G0=0:=by simpa using hq
    exactλ_=>(w hq).trans hz
   ·have hq:¬(Ar m c.C3.a6 va access).G0=0:=by simpa using hq
    exactλe=>absurd e hq
 ·intro e;cases e
def dk:lD:={C2:=0,D8:=0,F7:=0,Value:=0}
def jQ(c:bq)(m:List Int)(i:ib):bq×List Int×lD:=
 bif i.Op==32 then((tI c m i).1,(tI c m i).2,dk)else bif i.Op==33 then((tI c m i).1,(tI c m i).2,dk)else bif i.Op==34 then((tI c m i).1,(tI c m i).2,dk)
 else bif i.Op==35 then((Cm c m i).1,(Cm c m i).2,dk)else bif i.Op==36 then((Cm c m i).1,(Cm c m i).2,dk)else((XU c i).1,m,(XU c i).2)
def dh(c:bq)(r:Int):Int:=aV (iI.l c.X) r.toNat 0
def pO(c:bq)(m:List Int)(i:ib):bq×lD×List Int:=
 bif decide (i.Op>=56)then((XV c i).1,(XV c i).2,m)else bif decide (i.Op>=40)then(Z7r c i,dk,m)else bif decide (i.Op>=32)then((GR c m i).1,dk,(GR c m i).2)
 else bif i.Op==24 then({X:=(lH c i.A (ep .u32 (wrap .u32 i.bz) 16)).X,Pc:=wrap .u32 ((lH c i.A (ep .u32 (wrap .u32 i.bz) 16)).Pc+4),C3:=(lH c i.A (ep .u32 (wrap .u32 i.bz) 16)).C3},dk,m)
 else bif decide (i.Op<=13)then
  ({X:=(lH c i.A (DS i.Op (dh c i.B) (dh c i.C)).1).X,Pc:=wrap .u32 ((lH c i.A (DS i.Op (dh c i.B) (dh c i.C)).1).Pc+4),C3:=(lH c i.A (DS i.Op (dh c i.B) (dh c i.C)).1).C3},dk,m)
 else({X:=(lH c i.A (DS i.Op (dh c i.B) (wrap .u32 i.bz)).1).X,Pc:=wrap .u32 ((lH c i.A (DS i.Op (dh c i.B) (wrap .u32 i.bz)).1).Pc+4),C3:=(lH c i.A (DS i.Op (dh c i.B) (wrap .u32 i.bz)).1).C3},dk,m)
def o9(op:Int):Prop:=op=1\/op=2\/op=3\/op=4\/op=5\/op=6\/op=7\/op=8\/op=9\/op=10\/op=11\/op=12\/op=13\/op=16\/op=17\/op=18\/op=19\/op=20\/op=21\/op=22\/op=23\/op=24\/op=32\/op=33\/op=34\/op=35\/op=36\/op=40\/op=41\/op=42\/op=43\/op=44\/op=45\/op=48\/op=49\/op=56\/op=57\/op=58\/op=59\/op=60\/op=61\/op=62\/op=63\/op=64
theorem z8(c:bq)(r v:Int):(lH c r v).Pc=c.Pc/\(lH c r v).C3=c.C3:=by
 simp only[lH,I9,Tree.m]
 cases decide (r>0)
 ·exact⟨rfl,rfl⟩
 ·cases decide (r<16)<;>exact⟨rfl,rfl⟩
def Jb(c:bq):bq:={X:=c.X,Pc:=wrap .u32 (c.Pc+4),C3:=c.C3}
def va(c:bq)(B bz:Int):Int:=wrap .u32 (aV (iI.l c.X) B.toNat 0+wrap .u32 bz)
def OF(c:bq)(A v size:Int)(f:Int->Int)(y:Int×List Int×Int):bq×List Int:=bif y.2.2 !=0 then(rb c y.2.2 v,y.2.1)else(Jb (uy c A (f (Ci y.2.1 y.1 size).1)),y.2.1)
def OG(c:bq)(A v size:Int)(f:Int->Int)(x:Int×Int×List Int):bq×List Int:=bif x.2.1 !=0 then(pN c x.2.1 v,x.2.2)else(Jb (lH c A (f (oP x.2.2 x.1 size).1)),x.2.2)
def TT(c:bq)(A v size:Int)(y:Int×List Int×Int):bq×List Int:=bif y.2.2 !=0 then(rb c y.2.2 v,y.2.1)else(Jb c,(LC y.2.1 y.1 size (aV (iI.l c.X) A.toNat 0)).1)
def TU(c:bq)(A v size:Int)(x:Int×Int×List Int):bq×List Int:=bif x.2.1 !=0 then(pN c x.2.1 v,x.2.2)else(Jb c,I7 x.2.2 x.1 size (aV (iI.l c.X) A.toNat 0))
theorem OH(c:bq)(m:List Int)(A B C bz:Int):
 (tI c m ⟨32,A,B,C,bz⟩=OF c A (va c B bz) 4 (λv=>v) (rM c m (va c B bz) 4 2)/\GR c m ⟨32,A,B,C,bz⟩=OG c A (va c B bz) 4 (λv=>v) (lR c m (va c B bz) 4 2))/\
 (tI c m ⟨33,A,B,C,bz⟩=OF c A (va c B bz) 1 (λv=>DO v 8) (rM c m (va c B bz) 1 2)/\GR c m ⟨33,A,B,C,bz⟩=OG c A (va c B bz) 1 (λv=>GM v 8) (lR c m (va c B bz) 1 2))/\
 (tI c m ⟨34,A,B,C,bz⟩=OF c A (va c B bz) 1 (λv=>v) (rM c m (va c B bz) 1 2)/\GR c m ⟨34,A,B,C,bz⟩=OG c A (va c B bz) 1 (λv=>v) (lR c m (va c B bz) 1 2))/\
 (Cm c m ⟨35,A,B,C,bz⟩=TT c A (va c B bz) 4 (rM c m (va c B bz) 4 3)/\GR c m ⟨35,A,B,C,bz⟩=TU c A (va c B bz) 4 (lR c m (va c B bz) 4 3))/\
 (Cm c m ⟨36,A,B,C,bz⟩=TT c A (va c B bz) 1 (rM c m (va c B bz) 1 3)/\GR c m ⟨36,A,B,C,bz⟩=TU c A (va c B bz) 1 (lR c m (va c B bz) 1 3)):=
 ⟨⟨by kernel_rfl,by kernel_rfl⟩,⟨by kernel_rfl,by kernel_rfl⟩,⟨by kernel_rfl,by kernel_rfl⟩,⟨by kernel_rfl,by kernel_rfl⟩,⟨by kernel_rfl,by kernel_rfl⟩⟩
theorem qam{m:List Int}(h:ej P m)(a:Int):DO (oP m a 1).1 8=GM (oP m a 1).1 8:=by
 have:∀x:Int×Bool,(∃w,U w/\x=(bh .u32 w 255,true))\/x=(0,false)->DO x.1 8=GM x.1 8:=λx hx=>by
  rcases hx with⟨w,hw,rfl⟩|rfl
  ·have e:=Ce hw
   exact sx8 (by show 0<=bh .u32 w 255;omega) (by show bh .u32 w 255<256;omega)
  ·rfl
 refine this _ ?_
 simp only[oP,DR,Tree.m,eh]
 cases uw m a 1
 ·exact .inr rfl
 ·exact .inl ⟨_,Aq (Bb h.u _) _,rfl⟩
section
variable {P:Nat} {m:List Int} (h:ej P m) {c:bq} (hc:iP c) (jZ:c.C3.a0<=31)
include h hc jZ
omit jZ in
theorem XW(hv:U v)(hs:size=1\/size=4)(access:Int):ej P (lR c m v size access).2.2/\U (lR c m v size access).1/\((lR c m v size access).2.1=0->(lR c m v size access).1<128*P):=(Tree.pp (TV h hc hv hs access)).2
theorem XX(hA:0<=A/\A<16)(hv:U v)(hs:size=1\/size=4){f g:Int->Int}(hf:∀{m':List Int},ej P m'->∀a,f (oP m' a size).1=g (oP m' a size).1):OF c A v size f (rM c m v size 2)=OG c A v size g (lR c m v size 2):=by
 rw[XS h hc jZ hv hs (.inr (.inl rfl))]
 obtain⟨k,u,_⟩:=XW h hc hv hs 2
 generalize lR c m v size 2=x at*
 simp only[OF,OG,Ow k u hs,OA hc.a0.1 jZ,TS c hA,hf k]
theorem yi(hv:U v)(hs:size=1\/size=4):TT c A v size (rM c m v size 3)=TU c A v size (lR c m v size 3):=by
 rw[XS h hc jZ hv hs (.inr (.inr rfl))]
 obtain⟨k,u,b⟩:=XW h hc hv hs 3
 have al:=xL (c:=c) (m:=m) hv hs (access:=3) (.inr (.inr rfl))
 generalize lR c m v size 3=x at*
 simp only[TT,TU,Zdd k u hs,OA hc.a0.1 jZ,Ov k u hs]
 cases hq:x.2.1 !=0
 ·have hq:x.2.1=0:=by simpa using hq
  rw[dY ⟨al hq,b hq⟩];rfl
 ·rfl
end
theorem zL(c:bq)(k v:Int):(OI c k v).Pc=c.Pc:=by
 simp only[OI,LQ,Tree.m]
 repeat'(first|rfl|refine XT (Q:=λx:bq=>x.Pc=c.Pc) ?_ ?_)
def jf(c:bq)(A v p:Int):bq:={X:=(uy c A v).X,Pc:=p,C3:=(uy c A v).C3}
def EO(c:bq)(A v p:Int):bq:={X:=(lH c A v).X,Pc:=p,C3:=(lH c A v).C3}
def jH(c:bq):Int:=wrap .u32 (c.Pc+4)
theorem OJ(c:bq)(hA:0<=A/\A<16)(v p:Int):jf c A v p=EO c A v p:=by
 unfold jf EO;rw[TS c hA]
theorem XY(c:bq)(A v:Int):Jb (lH c A v)=EO c A v (jH c):=by
 unfold Jb EO jH;rw[(z8 c A v).1]
theorem LR(t:Bool)(x y:bq)(m:List Int):((bif t then(x,dk)else(y,dk)).1,m,(bif t then(x,dk)else(y,dk)).2)=((bif t then x else y),m,dk):=by cases t<;>rfl
def GS(op:Int):Bool:=decide (op=1)||decide (op=2)||decide (op=3)||decide (op=4)||decide (op=5)||decide (op=6)||decide (op=7)||decide (op=8)||decide (op=9)||decide (op=10)||decide (op=11)||decide (op=12)||decide (op=13)||decide (op=16)||decide (op=17)||decide (op=18)||decide (op=19)||decide (op=20)||decide (op=21)||decide (op=22)||decide (op=23)||decide (op=24)||decide (op=32)||decide (op=33)||decide (op=34)||decide (op=35)||decide (op=36)||decide (op=40)||decide (op=41)||decide (op=42)||decide (op=43)||decide (op=44)||decide (op=45)||decide (op=48)||decide (op=49)||decide (op=56)||decide (op=57)||decide (op=58)||decide (op=59)||decide (op=60)||decide (op=61)||decide (op=62)||decide (op=63)||decide (op=64)
section
variable {P:Nat} {m:List Int} (h:ej P m) {c:bq} (hc:iP c) (jZ:c.C3.a0<=31) {A B C bz:Int} (hA:0<=A/\A<16)
include h hc jZ hA
theorem qj(rH:o9 op):jQ c m ⟨op,A,B,C,bz⟩=((pO c m ⟨op,A,B,C,bz⟩).1,(pO c m ⟨op,A,B,C,bz⟩).2.2,(pO c m ⟨op,A,B,C,bz⟩).2.1):=by
 have pb:∀{k y:Int},1<=k->k<=23->U y->((jf c A (nJ k (dh c B) y).1 (jH c),m,dk):bq×List Int×lD)=(Jb (lH c A (DS k (dh c B) y).1),m,dk):=λh1 h2 hy=>by
  rw[qL h1 h2 (show U (dh c B) from hc.r _) hy,XY,OJ c hA]
 have uC:U (dh c C):=hc.r _
 have uI:U (wrap .u32 bz):=fp _
 obtain⟨⟨l1,l2⟩,⟨l3,l4⟩,⟨l5,l6⟩,⟨l7,l8⟩,⟨l9,l10⟩⟩:=OH c m A B C bz
 have DT:U (va c B bz):=fp _
 rcases rH with rfl|rfl|rfl|rfl|rfl|rfl|rfl|rfl|rfl|rfl|rfl|rfl|rfl|rfl|rfl|rfl|rfl|rfl|rfl|rfl|rfl|rfl|rfl|rfl|rfl|rfl|rfl|rfl|rfl|rfl|rfl|rfl|rfl|rfl|rfl|rfl|rfl|rfl|rfl|rfl|rfl|rfl|rfl|rfl
 ·exact(show jQ c m ⟨1,A,B,C,bz⟩=(jf c A (nJ 1 (dh c B) (dh c C)).1 (jH c),m,dk) by kernel_rfl).trans ((pb (by decide) (by decide) uC).trans (by kernel_rfl))
 ·exact(show jQ c m ⟨2,A,B,C,bz⟩=(jf c A (nJ 2 (dh c B) (dh c C)).1 (jH c),m,dk) by kernel_rfl).trans ((pb (by decide) (by decide) uC).trans (by kernel_rfl))
 ·exact(show jQ c m ⟨3,A,B,C,bz⟩=(jf c A (nJ 3 (dh c B) (dh c C)).1 (jH c),m,dk) by kernel_rfl).trans ((pb (by decide) (by decide) uC).trans (by kernel_rfl))
 ·exact(show jQ c m ⟨4,A,B,C,bz⟩=(jf c A (nJ 4 (dh c B) (dh c C)).1 (jH c),m,dk) by kernel_rfl).trans ((pb (by decide) (by decide) uC).trans (by kernel_rfl))
 ·exact(show jQ c m ⟨5,A,B,C,bz⟩=(jf c A (nJ 5 (dh c B) (dh c C)).1 (jH c),m,dk) by kernel_rfl).trans ((pb (by decide) (by decide) uC).trans (by kernel_rfl))
 ·exact(show jQ c m ⟨6,A,B,C,bz⟩=(jf c A (nJ 6 (dh c B) (dh c C)).1 (jH c),m,dk) by kernel_rfl).trans ((pb (by decide) (by decide) uC).trans (by kernel_rfl))
 ·exact(show jQ c m ⟨7,A,B,C,bz⟩=(jf c A (nJ 7 (dh c B) (dh c C)).1 (jH c),m,dk) by kernel_rfl).trans ((pb (by decide) (by decide) uC).trans (by kernel_rfl))
 ·exact(show jQ c m ⟨8,A,B,C,bz⟩=(jf c A (nJ 8 (dh c B) (dh c C)).1 (jH c),m,dk) by kernel_rfl).trans ((pb (by decide) (by decide) uC).trans (by kernel_rfl))
 ·exact(show jQ c m ⟨9,A,B,C,bz⟩=(jf c A (nJ 9 (dh c B) (dh c C)).1 (jH c),m,dk) by kernel_rfl).trans ((pb (by decide) (by decide) uC).trans (by kernel_rfl))
 ·exact(show jQ c m ⟨10,A,B,C,bz⟩=(jf c A (nJ 10 (dh c B) (dh c C)).1 (jH c),m,dk) by kernel_rfl).trans ((pb (by decide) (by decide) uC).trans (by kernel_rfl))
 ·exact(show jQ c m ⟨11,A,B,C,bz⟩=(jf c A (nJ 11 (dh c B) (dh c C)).1 (jH c),m,dk) by kernel_rfl).trans ((pb (by decide) (by decide) uC).trans (by kernel_rfl))
 ·exact(show jQ c m ⟨12,A,B,C,bz⟩=(jf c A (nJ 12 (dh c B) (dh c C)).1 (jH c),m,dk) by kernel_rfl).trans ((pb (by decide) (by decide) uC).trans (by kernel_rfl))
 ·exact(show jQ c m ⟨13,A,B,C,bz⟩=(jf c A (nJ 13 (dh c B) (dh c C)).1 (jH c),m,dk) by kernel_rfl).trans ((pb (by decide) (by decide) uC).trans (by kernel_rfl))
 ·exact(show jQ c m ⟨16,A,B,C,bz⟩=(jf c A (nJ 16 (dh c B) (wrap .u32 bz)).1 (jH c),m,dk) by kernel_rfl).trans ((pb (by decide) (by decide) uI).trans (by kernel_rfl))
 ·exact(show jQ c m ⟨17,A,B,C,bz⟩=(jf c A (nJ 17 (dh c B) (wrap .u32 bz)).1 (jH c),m,dk) by kernel_rfl).trans ((pb (by decide) (by decide) uI).trans (by kernel_rfl))
 ·exact(show jQ c m ⟨18,A,B,C,bz⟩=(jf c A (nJ 18 (dh c B) (wrap .u32 bz)).1 (jH c),m,dk) by kernel_rfl).trans ((pb (by decide) (by decide) uI).trans (by kernel_rfl))
 ·exact(show jQ c m ⟨19,A,B,C,bz⟩=(jf c A (nJ 19 (dh c B) (wrap .u32 bz)).1 (jH c),m,dk) by kernel_rfl).trans ((pb (by decide) (by decide) uI).trans (by kernel_rfl))
 ·exact(show jQ c m ⟨20,A,B,C,bz⟩=(jf c A (nJ 20 (dh c B) (wrap .u32 bz)).1 (jH c),m,dk) by kernel_rfl).trans ((pb (by decide) (by decide) uI).trans (by kernel_rfl))
 ·exact(show jQ c m ⟨21,A,B,C,bz⟩=(jf c A (nJ 21 (dh c B) (wrap .u32 bz)).1 (jH c),m,dk) by kernel_rfl).trans ((pb (by decide) (by decide) uI).trans (by kernel_rfl))
 ·exact(show jQ c m ⟨22,A,B,C,bz⟩=(jf c A (nJ 22 (dh c B) (wrap .u32 bz)).1 (jH c),m,dk) by kernel_rfl).trans ((pb (by decide) (by decide) uI).trans (by kernel_rfl))
 ·exact(show jQ c m ⟨23,A,B,C,bz⟩=(jf c A (nJ 23 (dh c B) (wrap .u32 bz)).1 (jH c),m,dk) by kernel_rfl).trans ((pb (by decide) (by decide) uI).trans (by kernel_rfl))
 ·refine(show jQ c m ⟨24,A,B,C,bz⟩=(jf c A (ep .u32 (wrap .u32 bz) 16) (jH c),m,dk) by kernel_rfl).trans ?_
  rw[OJ c hA,<-XY];kernel_rfl
 ·have e:=XX h hc jZ hA DT (.inr rfl) (f:=λv=>v) (g:=λv=>v) (λ_ _=>rfl)
  rw[<-l1,<-l2]at e
  refine(show jQ c m ⟨32,A,B,C,bz⟩=((tI c m ⟨32,A,B,C,bz⟩).1,(tI c m ⟨32,A,B,C,bz⟩).2,dk) by kernel_rfl).trans ?_
  rw[e];kernel_rfl
 ·have e:=XX h hc jZ hA DT (.inl rfl) (f:=λv=>DO v 8) (g:=λv=>GM v 8) (λhm a=>qam hm a)
  rw[<-l3,<-l4]at e
  refine(show jQ c m ⟨33,A,B,C,bz⟩=((tI c m ⟨33,A,B,C,bz⟩).1,(tI c m ⟨33,A,B,C,bz⟩).2,dk) by kernel_rfl).trans ?_
  rw[e];kernel_rfl
 ·have e:=XX h hc jZ hA DT (.inl rfl) (f:=λv=>v) (g:=λv=>v) (λ_ _=>rfl)
  rw[<-l5,<-l6]at e
  refine(show jQ c m ⟨34,A,B,C,bz⟩=((tI c m ⟨34,A,B,C,bz⟩).1,(tI c m ⟨34,A,B,C,bz⟩).2,dk) by kernel_rfl).trans ?_
  rw[e];kernel_rfl
 ·have e:=yi h hc jZ (A:=A) DT (.inr rfl)
  rw[<-l7,<-l8]at e
  refine(show jQ c m ⟨35,A,B,C,bz⟩=((Cm c m ⟨35,A,B,C,bz⟩).1,(Cm c m ⟨35,A,B,C,bz⟩).2,dk) by kernel_rfl).trans ?_
  rw[e];kernel_rfl
 ·have e:=yi h hc jZ (A:=A) DT (.inl rfl)
  rw[<-l9,<-l10]at e
  refine(show jQ c m ⟨36,A,B,C,bz⟩=((Cm c m ⟨36,A,B,C,bz⟩).1,(Cm c m ⟨36,A,B,C,bz⟩).2,dk) by kernel_rfl).trans ?_
  rw[e];kernel_rfl
 ·exact(show jQ c m ⟨40,A,B,C,bz⟩=((bif(re 40 (dh c A) (dh c B))then((⟨c.X,wrap .u32 (c.Pc+wrap .u32 (4*wrap .u32 bz)),c.C3⟩:bq),dk)else(⟨c.X,jH c,c.C3⟩,dk)).1,m,(bif(re 40 (dh c A) (dh c B))then((⟨c.X,wrap .u32 (c.Pc+wrap .u32 (4*wrap .u32 bz)),c.C3⟩:bq),dk)else(⟨c.X,jH c,c.C3⟩,dk)).2) by kernel_rfl).trans ((LR (re 40 (dh c A) (dh c B)) ⟨c.X,wrap .u32 (c.Pc+wrap .u32 (4*wrap .u32 bz)),c.C3⟩ ⟨c.X,jH c,c.C3⟩ m).trans (by kernel_rfl))
 ·exact(show jQ c m ⟨41,A,B,C,bz⟩=((bif(re 41 (dh c A) (dh c B))then((⟨c.X,wrap .u32 (c.Pc+wrap .u32 (4*wrap .u32 bz)),c.C3⟩:bq),dk)else(⟨c.X,jH c,c.C3⟩,dk)).1,m,(bif(re 41 (dh c A) (dh c B))then((⟨c.X,wrap .u32 (c.Pc+wrap .u32 (4*wrap .u32 bz)),c.C3⟩:bq),dk)else(⟨c.X,jH c,c.C3⟩,dk)).2) by kernel_rfl).trans ((LR (re 41 (dh c A) (dh c B)) ⟨c.X,wrap .u32 (c.Pc+wrap .u32 (4*wrap .u32 bz)),c.C3⟩ ⟨c.X,jH c,c.C3⟩ m).trans (by kernel_rfl))
 ·exact(show jQ c m ⟨42,A,B,C,bz⟩=((bif(re 42 (dh c A) (dh c B))then((⟨c.X,wrap .u32 (c.Pc+wrap .u32 (4*wrap .u32 bz)),c.C3⟩:bq),dk)else(⟨c.X,jH c,c.C3⟩,dk)).1,m,(bif(re 42 (dh c A) (dh c B))then((⟨c.X,wrap .u32 (c.Pc+wrap .u32 (4*wrap .u32 bz)),c.C3⟩:bq),dk)else(⟨c.X,jH c,c.C3⟩,dk)).2) by kernel_rfl).trans ((LR (re 42 (dh c A) (dh c B)) ⟨c.X,wrap .u32 (c.Pc+wrap .u32 (4*wrap .u32 bz)),c.C3⟩ ⟨c.X,jH c,c.C3⟩ m).trans (by kernel_rfl))
 ·exact(show jQ c m ⟨43,A,B,C,bz⟩=((bif(re 43 (dh c A) (dh c B))then((⟨c.X,wrap .u32 (c.Pc+wrap .u32 (4*wrap .u32 bz)),c.C3⟩:bq),dk)else(⟨c.X,jH c,c.C3⟩,dk)).1,m,(bif(re 43 (dh c A) (dh c B))then((⟨c.X,wrap .u32 (c.Pc+wrap .u32 (4*wrap .u32 bz)),c.C3⟩:bq),dk)else(⟨c.X,jH c,c.C3⟩,dk)).2) by kernel_rfl).trans ((LR (re 43 (dh c A) (dh c B)) ⟨c.X,wrap .u32 (c.Pc+wrap .u32 (4*wrap .u32 bz)),c.C3⟩ ⟨c.X,jH c,c.C3⟩ m).trans (by kernel_rfl))
 ·exact(show jQ c m ⟨44,A,B,C,bz⟩=((bif(re 44 (dh c A) (dh c B))then((⟨c.X,wrap .u32 (c.Pc+wrap .u32 (4*wrap .u32 bz)),c.C3⟩:bq),dk)else(⟨c.X,jH c,c.C3⟩,dk)).1,m,(bif(re 44 (dh c A) (dh c B))then((⟨c.X,wrap .u32 (c.Pc+wrap .u32 (4*wrap .u32 bz)),c.C3⟩:bq),dk)else(⟨c.X,jH c,c.C3⟩,dk)).2) by kernel_rfl).trans ((LR (re 44 (dh c A) (dh c B)) ⟨c.X,wrap .u32 (c.Pc+wrap .u32 (4*wrap .u32 bz)),c.C3⟩ ⟨c.X,jH c,c.C3⟩ m).trans (by kernel_rfl))
 ·exact(show jQ c m ⟨45,A,B,C,bz⟩=((bif(re 45 (dh c A) (dh c B))then((⟨c.X,wrap .u32 (c.Pc+wrap .u32 (4*wrap .u32 bz)),c.C3⟩:bq),dk)else(⟨c.X,jH c,c.C3⟩,dk)).1,m,(bif(re 45 (dh c A) (dh c B))then((⟨c.X,wrap .u32 (c.Pc+wrap .u32 (4*wrap .u32 bz)),c.C3⟩:bq),dk)else(⟨c.X,jH c,c.C3⟩,dk)).2) by kernel_rfl).trans ((LR (re 45 (dh c A) (dh c B)) ⟨c.X,wrap .u32 (c.Pc+wrap .u32 (4*wrap .u32 bz)),c.C3⟩ ⟨c.X,jH c,c.C3⟩ m).trans (by kernel_rfl))
 ·refine(show jQ c m ⟨48,A,B,C,bz⟩=(jf c A (jH c) (wrap .u32 ((uy c A (jH c)).Pc+wrap .u32 (4*wrap .u32 bz))),m,dk) by kernel_rfl).trans ?_
  rw[OJ c hA,TS c hA,(z8 c A (jH c)).1];kernel_rfl
 ·refine(show jQ c m ⟨49,A,B,C,bz⟩=(jf c A (jH c) (va c B bz),m,dk) by kernel_rfl).trans ?_
  rw[OJ c hA];kernel_rfl
 ·refine(show jQ c m ⟨56,A,B,C,bz⟩=(rb c 7 0,m,dk) by kernel_rfl).trans ?_
  rw[OA hc.a0.1 jZ];kernel_rfl
 ·refine(show jQ c m ⟨57,A,B,C,bz⟩=(Lq c,m,dk) by kernel_rfl).trans ?_
  rw[Zom hc.a0.1 jZ];kernel_rfl
 ·refine(show jQ c m ⟨58,A,B,C,bz⟩=(jf c A (aV (A8.l c.C3) bz.toNat 0) (jH c),m,dk) by kernel_rfl).trans ?_
  rw[OJ c hA,<-XY];kernel_rfl
 ·have e:=zL c (wrap .i64 bz) (dh c A)
  refine(show jQ c m ⟨59,A,B,C,bz⟩=((⟨(OI c (wrap .i64 bz) (dh c A)).X,wrap .u32 (c.Pc+4),(OI c (wrap .i64 bz) (dh c A)).C3⟩:bq),m,dk) by kernel_rfl).trans ?_
  rw[<-e];kernel_rfl
 ·exact(show jQ c m ⟨60,A,B,C,bz⟩=((pO c m ⟨60,A,B,C,bz⟩).1,(pO c m ⟨60,A,B,C,bz⟩).2.2,(pO c m ⟨60,A,B,C,bz⟩).2.1) by kernel_rfl)
 ·exact(show jQ c m ⟨61,A,B,C,bz⟩=((pO c m ⟨61,A,B,C,bz⟩).1,(pO c m ⟨61,A,B,C,bz⟩).2.2,(pO c m ⟨61,A,B,C,bz⟩).2.1) by kernel_rfl)
 ·exact(show jQ c m ⟨62,A,B,C,bz⟩=((pO c m ⟨62,A,B,C,bz⟩).1,(pO c m ⟨62,A,B,C,bz⟩).2.2,(pO c m ⟨62,A,B,C,bz⟩).2.1) by kernel_rfl)
 ·exact(show jQ c m ⟨63,A,B,C,bz⟩=((pO c m ⟨63,A,B,C,bz⟩).1,(pO c m ⟨63,A,B,C,bz⟩).2.2,(pO c m ⟨63,A,B,C,bz⟩).2.1) by kernel_rfl)
 ·exact(show jQ c m ⟨64,A,B,C,bz⟩=((pO c m ⟨64,A,B,C,bz⟩).1,(pO c m ⟨64,A,B,C,bz⟩).2.2,(pO c m ⟨64,A,B,C,bz⟩).2.1) by kernel_rfl)
end
theorem zam(h0:0<=op)(h1:op<256)(h:oO op≠0):o9 op:=by
 have e:=oY (EL (λop=>decide (oO op=0\/GS op=true)) 256 (by kernel_rfl) h0 h1)
 rcases e with e|e
 ·exact absurd e h
 ·simpa only[GS,o9,aT,decide_eq_true_eq,or_assoc]using e
theorem xj(o:o9 op):1<=op/\op<=64:=by
 unfold o9 at o
 rcases o with h|h|h|h|h|h|h|h|h|h|h|h|h|h|h|h|h|h|h|h|h|h|h|h|h|h|h|h|h|h|h|h|h|h|h|h|h|h|h|h|h|h|h|h<;>(rw[h];decide)
theorem zj(hw:U w):(Ba w).2=true->o9 (Ba w).1.Op:=by
 have uu:bm .u32 w 24=w/16777216:=by have:=DK (a:=w) 24 (by decide);simpa using this
 obtain⟨w0,w1⟩:=hw
 have eo:wrap .i64 (w/16777216)=w/16777216:=IB (by omega) (by omega)
 have q:(λr:ib×Bool=>r.2=true->o9 r.1.Op) (Ba w):=by
  simp only[Ba,Ly,Tree.m,eh,uu,eo]
  cases hf:oO (w/16777216)==0
  ·have g:o9 (w/16777216):=zam (by omega) (by omega) (by simpa using hf)
   repeat'(first
    |exactλ_=>g
    |exactλe=>eH (show false=true from e)
    |refine XT (Q:=λr:ib×Bool=>r.2=true->o9 r.1.Op) ?_ ?_)
  ·exactλe=>eH (show false=true from e)
 exact q
section
variable (c:bq) (m:List Int)
def TW(x:Int×Int×List Int)(w:Int)(d:ib×Bool):bq×lD×List Int:=
 bif x.2.1 !=0 then(pN c x.2.1 c.Pc,dk,x.2.2)else bif !d.2 then(pN c 1 w,dk,x.2.2)else bif Lv d.1.Op then(bif bh .u32 c.C3.a0 1==0 then(pN c 2 w,dk,x.2.2)else pO c x.2.2 d.1)else pO c x.2.2 d.1
def OK(y:Int×List Int×Int)(d:ib×Bool):bq×List Int×lD:=
 bif y.2.2 !=0 then(rb c y.2.2 c.Pc,y.2.1,dk)else bif !d.2 then(rb c 1 y.1,y.2.1,dk)else bif Oo d.1.Op then(bif !I8 c then(rb c 2 y.1,y.2.1,dk)else jQ c y.2.1 d.1)else jQ c y.2.1 d.1
theorem OL:Bc c m=TW c (lR c m c.Pc 4 1) (oP (lR c m c.Pc 4 1).2.2 (lR c m c.Pc 4 1).1 4).1 (Ba (oP (lR c m c.Pc 4 1).2.2 (lR c m c.Pc 4 1).1 4).1):=by kernel_rfl
theorem xam:Cn c m=OK c (TX c m) (Ou (TX c m).1):=by kernel_rfl
theorem yL:TX c m=bif(rM c m c.Pc 4 1).2.2 !=0 then(0,(rM c m c.Pc 4 1).2.1,(rM c m c.Pc 4 1).2.2)else((Ci (rM c m c.Pc 4 1).2.1 (rM c m c.Pc 4 1).1 4).1,(rM c m c.Pc 4 1).2.1,0):=by kernel_rfl
end
theorem yj{m:List Int}(h:ej P m)(hc:iP c)(jZ:c.C3.a0<=31):Cn c m=((Bc c m).1,(Bc c m).2.2,(Bc c m).2.1):=by
 obtain⟨k,u,b⟩:=XW h hc hc.pc (.inr rfl) 1
 have tr:∀k b,rb c k b=pN c k b:=OA hc.a0.1 jZ
 rw[xam,OL,yL,XS h hc jZ hc.pc (.inr rfl) (.inl rfl)]
 generalize lR c m c.Pc 4 1=x at*
 cases hx:x.2.1 !=0
 ·rw [Ow k u (.inr rfl)]
  have hw:U (oP x.2.2 x.1 4).1:=(Tree.pp (OM k u (.inr rfl))).2
  generalize(oP x.2.2 x.1 4).1=w at*
  show OK c (w,x.2.2,0) (Ou w)=_
  rw[vg hw]
  have o:=zj hw
  have i:=Tree.post _ (Zrw w)
  change(Ba w).2=true->sE (Ba w).1 at i
  generalize Ba w=d at*
  obtain⟨⟨op,A,B,C,bz⟩,ok⟩:=d
  cases ok
  ·simp only[OK,TW,hx,tr];rfl
  ·have o:o9 op:=o rfl
   have i:=i rfl
   have p:=qj (C:=C) (B:=B) (bz:=bz) k hc jZ i.a o
   have pv:Oo op=Lv op:=xak (by have:=xj o;omega) (by have:=xj o;omega)
   have kn:(!I8 c)=(bh .u32 c.C3.a0 1==0):=by
    show(!(!(bh .u32 c.C3.a0 1==0)))=_
    exact Bool.not_not _
   simp only[OK,TW,hx,tr,pv,kn,p]
   cases Lv op
   ·rfl
   ·cases bh .u32 c.C3.a0 1==0<;>rfl
 ·simp only[OK,TW,hx,cond_true,tr]
theorem qk{a b:Int}:decide (a>=b)=!decide (a<b):=by
 by_cases h:a<b
 ·rw[dY h,dN (by omega)];rfl
 ·rw[dN h,dY (by omega)];rfl
def bits(g:Int)(l:List Nat)(s:Int):Int:=l.foldl (λ(a:Int) (i:Nat)=>wrap .i64 (a+wrap .i64 (bh .u32 (bm .u32 g (i:Int)) 1))) s
theorem vL(b:gx):LS b=bits b.D0 [0,1,2,3,4,5,6,7,8,9,10,11,12,13,14,15,16,17,18,19,20,21,22,23,24,25,26,27,28,29,30,31] 0:=by kernel_rfl
theorem zaG(hg:U g){i:Nat}(hi:i<=32):wrap .i64 (bh .u32 (bm .u32 g (i:Int)) 1)=g/2^i%2:=by
 rw[EP (Aq hg _),DK i hi]
 have:0<=g/2^i%2/\g/2^i%2<2:=by omega
 exact IB (by omega) (by omega)
theorem qM(hg:U g)(l:List Nat):∀s:Int,(∀i∈l,i<=32)->0<=s->s+l.length<=1000->bits g l s=s+(l.map λi=>g/2^i%2).sum:=by
 induction l with
 |nil=>intro s _ _ _;simp[bits]
 |cons i l ih=>
  intro s hl h0 h1
  have h1:s+(l.length+1)<=1000:=by simpa using h1
  have hb:0<=g/2^i%2/\g/2^i%2<2:=by omega
  have e:bits g (i::l) s=bits g l (s+g/2^i%2):=by
   show bits g l (wrap .i64 (s+wrap .i64 (bh .u32 (bm .u32 g (i:Int)) 1)))=_
   rw[zaG hg (hl i (by simp)),IB (by omega) (by omega)]
  rw[e,ih _ (λj hj=>hl j (by simp[hj])) (by omega) (by omega)]
  simp;omega
theorem Zu4(n:ik)(port:Int):Lo n port=TY n port:=by
 simp only[Lo,Oj,TY,ON,Tree.m]
 cases n.D1<;>cases n.C4<;>rfl
theorem Zbh(t:jc):AW t=TZ t:=by
 simp only[AW,Tz,TZ,XZ,Tree.m]
 cases t.F1<;>cases t.E0<;>rfl
theorem Zlr(n:ik)(p:Int):wy n p=T0 n p:=by
 simp only[wy,Od,T0,X0,Tree.m]
 cases n.D1<;>cases n.C4<;>rfl
theorem Zgb(d:gh)(p:Int):ra d p=T8 d p:=by
  simp only[ra,EF,Tx,Oc,T8,X1,Tree.m,eh,qk]
  cases decide (d.ab>64)
  . by_cases s:d.C9=0\/d.C9=1\/d.C9=2\/d.C9=3
    . rcases s with s|s|s|s<;>rw[s]
      . rfl
      . by_cases c1:d.F5=1
        . rw[c1];cases decide (d.C5<d.ab)<;>cases decide (wrap .i64 d.C6<p)<;>cases decide (d.C7=[])<;>rfl
        . by_cases c2:d.F5=2
          . rw[c2];cases decide (d.C5<d.ab)<;>cases decide (wrap .i64 d.C6<p)<;>cases(d.C7.length:Int)==128<;>rfl
          . rw[show(d.F5==1)=false by simpa using c1,show(d.F5==2)=false by simpa using c2]
            cases decide (d.C5<d.ab)<;>cases decide (wrap .i64 d.C6<p)<;>rfl
      . rfl
      . rfl
    . rw[show(d.C9==0)=false by simp;omega,show(d.C9==1)=false by simp;omega,show(d.C9==2)=false by simp;omega,show(d.C9==3)=false by simp;omega]
      by_cases n:d.C9<0
      . rw[dY n];rfl
      . rw[dN n,dY (show d.C9>3 by omega)];rfl
  . rfl
theorem xM(c:iV):T9 c=Ua c:=by
 show(!decide (c.D9=[]))=decide ((c.D9.length:Int)>0)
 cases c.D9 with
 |nil=>rfl
 |cons a l=>rw[dN (by simp),dY (by simp)];rfl
theorem qan(k:List UInt8):decide (k=[])=((k.length:Int)==0):=by
 cases k with
 |nil=>rfl
 |cons a l=>
  rw[dN (by simp)]
  exact(beq_eq_false_iff_ne.2 (by simp;omega)).symm
theorem Zue(c:iV)(port:Int):X2 c port=LU c port:=by
 simp only[X2,IU,LU,GU,Tree.m,qan]
 cases port==0
 ·rfl
 ·cases(c.D9.length:Int)==0<;>rfl
theorem yM(t:jc)(v:Int):Oe t v=X3 v:=by
 simp only[Oe,Ty,X3,X4,Tree.m]
 cases h:v==0
 ·rw[show(v !=0)=true by simp only[bne,h];rfl];rfl
 ·rw[show(v !=0)=false by simp only[bne,h];rfl,eq_of_beq h];rfl
section
variable {P:Nat} {m:List Int} (h:ej P m)
include h
theorem Zso(f:Int):Oa m f=tJ m f:=by
 have a:=tG h
 have b:=DP h
 simp only[Oa,Tv,tJ,OO,Tree.m,eh,a,b]
theorem Zux(f:Int):Lf m f=tJ m f:=by
 have a:=tG h
 have b:=DP h
 simp only[Lf,Tw,tJ,OO,Tree.m,eh,a,b]
theorem Zmh(d:gh)(port v gl:Int):X5 d m port v gl=X6 d m port v gl:=by
  have pg:=Zso h
  have pa:=Zl0 h
  have rq: ∀d a,X7 d a=X8 d a:=λ_ _=>rfl
  simp only[X5,Lh,Z24,Lg,X6,LV,Tree.m,eh,pg,pa,rq]
  cases port==4
  . cases port==5
    . cases h6:port==6
      . rw[show(port !=6)=true by simp only[bne,h6];rfl];rfl
      . rw [show(port !=6)=false by simp only[bne,h6];rfl]
        by_cases v1:v=1
        . subst v1
          cases hs:d.C9==0
          . rw[show(d.C9 !=0)=true by simp only[bne,hs];rfl];rfl
          . rw[show(d.C9 !=0)=false by simp only[bne,hs];rfl];rfl
        . by_cases v2:v=2
          . subst v2
            cases hs:d.C9==0
            . rw[show(d.C9 !=0)=true by simp only[bne,hs];rfl];rfl
            . rw[show(d.C9 !=0)=false by simp only[bne,hs];rfl];rfl
          . rw[show(v==1)=false by simpa using v1,show(v==2)=false by simpa using v2]
            cases v==0
            . rfl
            . have:Li d=(bif d.C9==2 then true else d.C9==3):=rfl
              rw[this]
              cases d.C9==2<;>cases d.C9==3<;>rfl
    . rfl
  . rfl
theorem Zog(n:ik)(port v gl:Int):X9 n m port v gl=Ya n m port v gl:=by
  have pg:=Zux h
  have pa:=Zl0 h
  simp only[X9,Lk,Zf0,Lj,Ya,LW,Tree.m,eh,pg,pa]
  have g1:decide (n.F6>=1)=!decide (n.F6<1):=qk
  have g2:decide (n.F6<=128)=!decide (n.F6>128):=by
    by_cases h:n.F6>128
    . rw[dY h,dN (by omega)];rfl
    . rw[dN h,dY (by omega)];rfl
  rw[g1,g2]
  cases port==7
  . cases port==8
    . cases h9:port==9
      . rw[show(port !=9)=true by simp only[bne,h9];rfl];rfl
      . rw [show(port !=9)=false by simp only[bne,h9];rfl]
        by_cases v1:v=1
        . subst v1
          cases decide (n.F6<1)<;>cases decide (n.F6>128)<;>cases tJ m n.Frame<;>rfl
        . by_cases v2:v=2
          . subst v2;rfl
          . rw[show(v==1)=false by simpa using v1,show(v==2)=false by simpa using v2]
            cases v==0<;>rfl
    . rfl
  . rfl
end
def Yb:List UInt8:=(cW 256).map λn=>eD (n%2+n/2%2+n/4%2+n/8%2+n/16%2+n/32%2+n/64%2+n/128%2)
def pt(n:Int):Int:=((UInt8.toNat (Yb.getD n.toNat 0):Nat):Int)
theorem vM(x:Int):Yc x=wrap .i64 (wrap .u8 (wrap .u8 (wrap .u8 (pt (bm .u32 x 24)+pt (bh .u32 (bm .u32 x 16) 255))+pt (bh .u32 (bm .u32 x 8) 255))+pt (bh .u32 x 255))):=by kernel_rfl
theorem OP(h0:0<=a)(h1:a<256):pt a=a%2+a/2%2+a/4%2+a/8%2+a/16%2+a/32%2+a/64%2+a/128%2:=
 eq_of_beq (EL (λa=>pt a==a%2+a/2%2+a/4%2+a/8%2+a/16%2+a/32%2+a/64%2+a/128%2) 256 (by kernel_rfl) h0 h1)
theorem xk(hg:U g):bits g [0,1,2,3,4,5,6,7,8,9,10,11,12,13,14,15,16,17,18,19,20,21,22,23,24,25,26,27,28,29,30,31] 0=pt (g%256)+pt (g/256%256)+pt (g/65536%256)+pt (g/16777216):=by
 rw[qM hg _ 0 (by decide) (by decide) (by decide),OP (by omega) (by omega),OP (by omega) (by omega),OP (by omega) (by omega),OP (by have:=hg.1;omega) (by have:=hg.2;omega)]
 obtain⟨g0,g1⟩:=hg
 simp only[List.map_cons,List.map_nil,List.sum_cons,List.sum_nil]
 have e:∀i j:Nat,∀k:Int,i<8->k=2^j->g/2^(i+j)%2=(g/k%256)/2^i%2:=λi j k hi hk=>by
  subst hk
  rw[Nat.add_comm,dL,<-eI (dK (dI (by decide)))]
  generalize g/2^j=x
  have:i=0\/i=1\/i=2\/i=3\/i=4\/i=5\/i=6\/i=7:=by omega
  rcases this with rfl|rfl|rfl|rfl|rfl|rfl|rfl|rfl<;>simp<;>omega
 have e0:∀i:Nat,i<8->g/2^i%2=(g%256)/2^i%2:=λi hi=>by have:=e i 0 1 hi rfl;simpa using this
 have e24:g/16777216%256=g/16777216:=by omega
 rw[e0 0 (by decide),e0 1 (by decide),e0 2 (by decide),e0 3 (by decide),e0 4 (by decide),e0 5 (by decide),e0 6 (by decide),e0 7 (by decide)]
 rw[e 0 8 256 (by decide) (by decide),e 1 8 256 (by decide) (by decide),e 2 8 256 (by decide) (by decide),e 3 8 256 (by decide) (by decide),e 4 8 256 (by decide) (by decide),e 5 8 256 (by decide) (by decide),e 6 8 256 (by decide) (by decide),e 7 8 256 (by decide) (by decide)]
 rw[e 0 16 65536 (by decide) (by decide),e 1 16 65536 (by decide) (by decide),e 2 16 65536 (by decide) (by decide),e 3 16 65536 (by decide) (by decide),e 4 16 65536 (by decide) (by decide),e 5 16 65536 (by decide) (by decide),e 6 16 65536 (by decide) (by decide),e 7 16 65536 (by decide) (by decide)]
 rw[e 0 24 16777216 (by decide) (by decide),e 1 24 16777216 (by decide) (by decide),e 2 24 16777216 (by decide) (by decide),e 3 24 16777216 (by decide) (by decide),e 4 24 16777216 (by decide) (by decide),e 5 24 16777216 (by decide) (by decide),e 6 24 16777216 (by decide) (by decide),e 7 24 16777216 (by decide) (by decide),e24]
 generalize g%256=a
 generalize g/256%256=b
 generalize g/65536%256=c
 generalize g/16777216=d
 simp only[show(2:Int)^0=1 from rfl,show(2:Int)^1=2 from rfl,show(2:Int)^2=4 from rfl,show(2:Int)^3=8 from rfl,show(2:Int)^4=16 from rfl,show(2:Int)^5=32 from rfl,show(2:Int)^6=64 from rfl,show(2:Int)^7=128 from rfl,Int.ediv_one]
 omega
theorem wD(h0:0<=a)(h1:a<256):0<=pt a/\pt a<=8:=by rw[OP h0 h1];omega
theorem Ze(hg:U b.D0):Ub b=LS b/\0<=LS b/\LS b<=32:=by
 obtain⟨s8,AZ,uu⟩:=GO b.D0
 have u8:U (bm .u32 b.D0 8):=Aq hg _
 have u16:U (bm .u32 b.D0 16):=Aq hg _
 have e:Ub b=Yc b.D0:=rfl
 rw[e,vM,vL,xk hg,Ce u8,Ce u16,Ce hg,s8,AZ,uu]
 obtain⟨g0,g1⟩:=hg
 have p0:=wD (a:=b.D0%256) (by omega) (by omega)
 have p1:=wD (a:=b.D0/256%256) (by omega) (by omega)
 have p2:=wD (a:=b.D0/65536%256) (by omega) (by omega)
 have p3:=wD (a:=b.D0/16777216) (by omega) (by omega)
 have w8:∀x,wrap .u8 x=x%256:=λx=>wrap_u8 x
 rw[w8,w8,w8,wrap_i64]
 omega
theorem Zn(h:okB b):OQ b=OR b:=by
 obtain⟨e,l0,l1⟩:=Ze h.2
 obtain⟨t0,t1⟩:=h.1
 simp only[OQ,LX,OR,Yd,Tree.m,eh,e]
 rw[wrap_u32,wrap_u64,wrap_u64,dH l0 (by omega),dH l0 (by omega),dH t0 (by omega)]
theorem Zse(h:okB b)(port:Int):Ye b port=LY b port:=by
 simp only[Ye,Lp,LY,LZ,Tree.m,eh,(Ze h.2).1]
theorem zan(g:Int)(z:Nat):g%2^(z+1)=g%2^z+2^z*(g/2^z%2):=by
 have hp:(0:Int)<2^z:=dI (by decide)
 have h1:=eJ g (2^z)
 have h2:=eJ (g/2^z) 2
 have h3:(g/2^z)/2=g/2^(z+1):=by rw[eK,eI (dK hp)]
 have h4:=eJ g (2^(z+1))
 rw[h3]at h2
 have h5:(2:Int)^(z+1)*(g/2^(z+1))=2^z*(2*(g/2^(z+1))):=by rw[eK,Int.mul_assoc]
 have h6:(2:Int)^z*(g/2^z)=2^z*(2*(g/2^(z+1)))+2^z*(g/2^z%2):=by rw[<-Int.mul_add,h2]
 omega
theorem xaG(hg:U b.D0)(hP:P<=32):(L0 b P).w (λr=>r=decide (b.D0<2^P)):=by
 unfold L0
 have fin:∀v:Int,0<=v->v<=32->wrap .u64 v=(v.toNat:Int):=λv h0 h1=>by rw[wrap_u64];omega
 refine eu (inv:=λz:Int=>0<=z/\z<=32/\b.D0%2^z.toNat<2^P) (μ:=Uc b P) ⟨by decide,by decide,by have:(0:Int)<2^P:=dI (by decide);simpa using this⟩ (cN _) λz ⟨z0,z1,z2⟩=>?_
 refine ae (λhb=>?_) (λhb=>?_)
 ·have hb:=oY hb
  have ew:i64.wrap (z+1)=z+1:=IB (by omega) (by omega)
  have bt:bh .u32 (bm .u32 b.D0 (wrap .u64 z)) 1=b.D0/2^z.toNat%2:=by
   rw[fin z z0 z1,EP (Aq hg _),DK _ (by omega)]
  have bp:=zan b.D0 z.toNat
  have zt:(z+1).toNat=z.toNat+1:=by omega
  refine av (dY (by rw[wrap_u64];omega)) ?_
  rw[bt]
  refine ae (λe=>ae (λhp=>?_) (λhp=>ee ?_)) (λe=>ee ?_)
  ·have e:=eq_of_beq e
   have hp:=oY hp
   show false=_
   refine(dN λbd=>?_).symm
   have hle:(2:Int)^P<=2^z.toNat:=by exact_mod_cast dO (show 0<2 by decide) (show P<=z.toNat by omega)
   have:b.D0/2^z.toNat=0:=Int.ediv_eq_zero_of_lt hg.1 (by omega)
   rw[this]at e;cases e
  ·have e:=eq_of_beq e
   have hp:=oN hp
   show(0<=i64.wrap (z+1)/\i64.wrap (z+1)<=32/\b.D0%2^(i64.wrap (z+1)).toNat<2^P)/\(32-i64.wrap (z+1)).toNat<(32-z).toNat
   rw[ew,zt]
   have hle:(2:Int)^(z.toNat+1)<=2^P:=by exact_mod_cast dO (show 0<2 by decide) (show z.toNat+1<=P by omega)
   have:=Int.emod_lt_of_pos b.D0 (show(0:Int)<2^(z.toNat+1) from dI (by decide))
   exact⟨⟨by omega,by omega,by omega⟩,by omega⟩
  ·have e:¬b.D0/2^z.toNat%2=1:=by simpa using e
   have e:b.D0/2^z.toNat%2=0:=by omega
   rw[e]at bp
   show(0<=i64.wrap (z+1)/\i64.wrap (z+1)<=32/\b.D0%2^(i64.wrap (z+1)).toNat<2^P)/\(32-i64.wrap (z+1)).toNat<(32-z).toNat
   rw[ew,zt,bp]
   exact⟨⟨by omega,by omega,by omega⟩,by omega⟩
 ·have hb:=oN hb
  have:z=32:=by omega
  subst this
  show true=_
  refine(dY ?_).symm
  have h2:b.D0%2^(32:Int).toNat=b.D0:=dH hg.1 hg.2
  rwa [h2]at z2
theorem Zpc(hg:U b.D0)(hP:P<=32):AX b P=Ud b P:=by
 have r:=(Tree.pp (xaG hg hP)).2
 change Ud b P=_ at r
 rw[r,eB,Og hg,decide_eq_true_eq]
theorem OS:strings_Repeat [(0:UInt8)] 128=cO 128 0:=by kernel_rfl
theorem qaH{m:List Int}(hm:ej P m){port:Int}(hv:U v)(hp:v<P)(ER:port=10)(hb:(bh .u32 (bm .u32 b.D0 v) 1==0)=true):(Bd b m port v).w (λr=>r.1={A2:=b.A2,D0:=iN .u32 b.D0 (ep .u32 1 v)}/\ej P r.2/\∀k:Nat,lG r.2 k=if v*128<=k/\(k:Int)<v*128+128 then 0 else lG m k):=by
 have DI:decide (0<=v)=true:=dY hv.1
 have h2:=hm.p2
 have pg:tJ m v=true:=by rw[Ue hm hv];exact dY hp
 obtain⟨v1,v2⟩:=hv
 subst ER
 unfold Bd
 refine ae (λ_=>aq λx0 hx=>ae (λ_=>av DI (ae (λ_=>av DI ?_) (λh=>by rw[hb]at h;cases h))) (λh=>by rw[hx,pg]at h;cases h)) (λh=>by cases h)
 refine eu (inv:=λz=>0<=z.1/\z.1<=32/\ej P z.2/\∀k:Nat,lG z.2 k=if v*128<=k/\(k:Int)<v*128+4*z.1 then 0 else lG m k) (μ:=Yf b m 10 v) ⟨show(0:Int)<=0 by decide,show(0:Int)<=32 by decide,hm,λk=>by rw[if_neg];show¬(_/\_<_+4*(0:Int));omega⟩ (cN _) (λz hz=>?_)
 obtain⟨z1,z2,z3,z4⟩:=hz
 have hl:=z3.len
 refine ae (λh=>?_) (λh=>⟨rfl,z3,λk=>?_⟩)
 ·have h:=oY h
  have e:wrap i64 (wrap i64 (wrap i64 v*32)+z.1)=v*32+z.1:=by rw[wrap_i64,wrap_i64,wrap_i64];omega
  refine av (by rw[e];simp[bN];omega) (ee ?_)
  have ew:i64.wrap (z.1+1)=z.1+1:=by rw[wrap_i64];omega
  show(0<=i64.wrap (z.1+1)/\i64.wrap (z.1+1)<=32/\ej P (dB _ _ _)/\∀k:Nat,lG (dB z.2 (dA (wrap i64 (wrap i64 (wrap i64 v*32)+z.1))) 0) k=if v*128<=(k:Int)/\(k:Int)<v*128+4*i64.wrap (z.1+1)then 0 else _)/\(32-i64.wrap (z.1+1)).toNat<(32-z.1).toNat
  rw[ew,e]
  refine⟨⟨by omega,by omega,⟨by simp[hl],z3.p1,z3.p2,ED z3.u gk _⟩,λk=>?_⟩,by omega⟩
  rw[zh (by omega)]
  by_cases hc:k/4=(v*32+z.1).toNat
  ·rw[if_pos hc,if_pos (by omega)]
   have:k%4=0\/k%4=1\/k%4=2\/k%4=3:=by omega
   rcases this with h|h|h|h<;>rw[h]<;>rfl
  ·rw[if_neg hc,z4 k]
   by_cases hd:v*128<=(k:Int)/\(k:Int)<v*128+4*z.1
   ·rw[if_pos hd,if_pos (by omega)]
   ·rw[if_neg hd,if_neg (by omega)]
 ·have h:=oN h
  show lG z.2 k=_
  rw[z4 k,show z.1=32 by omega];rfl
theorem Yg(hg:U g)(v0:0<=v)(v1:v<32):(bh .u32 g (ep .u32 1 v)==0)=(bh .u32 (bm .u32 g v) 1==0):=by
 obtain⟨z,rfl⟩:∃z:Nat,v=z:=⟨v.toNat,by omega⟩
 obtain⟨n,rfl⟩:∃n:Nat,g=n:=⟨g.toNat,by have:=hg.1;omega⟩
 have hz:z<32:=by omega
 have bd:(2:Nat)^z<4294967296:=by have:=dW (show 1<2 by omega) hz;simpa using this
 rw[EP (Aq hg _),DK z (by omega),qg v0 v1,dX]
 have hc:((2:Int)^z)=((2^z:Nat):Int):=by simp
 generalize hq:2^z=q at*
 rw[hc,XA hg ⟨by omega,by omega⟩,dX,dX,<-hq]
 have e1:(n&&&2^z)=0↔n/2^z%2=0:=by
  have t:n.testBit z=decide (n/2^z%2=1):=Nat.testBit_eq_decide_div_mod_eq
  constructor
  ·intro h
   have h2:(n&&&2^z).testBit z=false:=by rw[h];exact eL z
   rw[eM,Nat.testBit_two_pow_self,Bool.and_true,t]at h2
   have:=oN h2
   omega
  ·intro h
   have t0:n.testBit z=false:=by rw[t];exact dN (by omega)
   apply Nat.eq_of_testBit_eq
   intro i
   rw[eM,Nat.testBit_two_pow,eL]
   by_cases hi:z=i
   ·subst hi;rw[t0];rfl
   ·rw[dN hi,Bool.and_false]
 rw[eB,beq_iff_eq,beq_iff_eq]
 constructor
 ·intro h;have:=e1.1 (by omega);omega
 ·intro h;have:=e1.2 (by omega);omega
theorem Zq4{m:List Int}(h:ej P m)(hb:okB b)(port:Int)(hv:U v):GV b m port v=Q8 b m port v:=by
  have jn:kD m=m:=rfl
  have hp:=tG h
  have h2:=h.p2
  have ew:i64.wrap v=v:=IB (by have:=hv.1;omega) (by have:=hv.2;omega)
  have pe:=Ue h hv
  by_cases OT:v<32
  . have bv :=Yg hb.2 hv.1 OT
    by_cases ER:port=10
    . by_cases hP:v<P
      . cases hz:bh .u32 (bm .u32 b.D0 v) 1==0
        . simp only[GV,DM,Q8,Bd,Tree.m,eh,jn,hp,ew,pe,bv,hz,ER,dY hP,dN (show¬v>=32 by omega)]
          rfl
        . obtain⟨g1,g2,g3⟩:=(Tree.pp (qaH h hv hP ER hz)).2
          change(Q8 b m port v).1=_ at g1
          change ej P (Q8 b m port v).2 at g2
          change∀k:Nat,lG (Q8 b m port v).2 k=_ at g3
          obtain⟨s1,s2,s3⟩:=(Tree.pp (XH h hv.1 hP (s:=cO 128 0) (by simp))).2
          have em:(rO m v (cO 128 0)).1=(Q8 b m port v).2:=by
            refine xh (s2.len.trans g2.len.symm) s2.u g2.u λk=> ?_
            rw[g3 k]
            refine(s3 k).trans ?_
            by_cases hk:v*128<=(k:Int)/\(k:Int)<v*128+128
            . rw[if_pos hk,if_pos hk]
              have:(cO 128 (0:UInt8)).getD ((k:Int)-v*128).toNat 0=0:=by
                rw[cX,List.getElem?_replicate]
                split<;>rfl
              rw[this];rfl
            . rw[if_neg hk,if_neg hk]
          have el:GV b m port v=({A2:=b.A2,D0:=iN .u32 b.D0 (ep .u32 1 v)},(rO m v (cO 128 0)).1):=by
            simp only[GV,DM,Tree.m,eh,jn,hp,ew,bv,hz,ER,dY hP,dN (show¬v>=32 by omega),OS]
            rfl
          rw[el,em,<-g1]
      . simp only[GV,DM,Q8,Bd,Tree.m,eh,jn,hp,ew,pe,ER,dN hP,dN (show¬v>=32 by omega)]
        rfl
    . simp only[GV,DM,Q8,Bd,Tree.m,eh,jn,dY OT,dN (show¬v>=32 by omega),show(port==10)=false by simpa using ER]
      cases port==11<;>rfl
  . simp only[GV,DM,Q8,Bd,Tree.m,eh,jn,pe,dN OT,dY (show v>=32 by omega),dN (show¬v<P by omega)]
    cases port==10<;>cases port==11<;>rfl
structure Be(m:bg):Prop where
 oi:iP m.B4
 mem:∀w∈m.Mem,U w
 mo:An m.B7
 wA:ur m.D4
 Jc:okB m.A6
 tF:0<=m.B6
theorem Yh(m:List Int)(hm:∀w∈m,U w):jP m=rL m/\(jP m=0\/∃P:Nat,1<=P/\ej P m):=by
 refine⟨rfl,?_⟩
 simp only[jP,GF,Tree.m]
 cases h1:cZ (m.length:Int) 32 !=0
 ·cases h2:decide ((m.length:Int)>1024)
  ·have h1:cZ (m.length:Int) 32=0:=by simpa using h1
   have h2:=oN h2
   rw[dZ (by omega)]at h1
   by_cases h0:m.length=0
   ·left;rw[h0];rfl
   ·right;exact⟨m.length/32,by omega,⟨by omega,by omega,by omega,hm⟩⟩
  ·left;rfl
 ·left;rfl
theorem Co{a x:Bool}:(bif !a then false else x)=true↔a=true/\x=true:=by cases a<;>simp
theorem Zqd(m:bg):rh m=true↔ ¬(rL m.Mem<1)/\nn m.B4/\Qjt m.B1=true/\TZ m.B8=true/\T8 m.B7 (rL m.Mem)=true/\T0 m.D4 (rL m.Mem)=true/\Ud m.A6 (rL m.Mem)=true/\m.B6<=1152921504606846976/\¬(m.B2=true/\m.B5=true):=by
 simp only[rh,Yi,Tree.m,eh]
 rw[mV,mV,mV,mV,mV,mV,Co,Co,Co,Co,Co]
 simp only[decide_eq_false_iff_not,Int.not_lt,bne_eq_false_iff_eq,gt_iff_lt]
 have l:((bif decide (m.B6<=1152921504606846976)then(bif m.B2 then !m.B5 else true)else false)=true)↔m.B6<=1152921504606846976/\¬(m.B2=true/\m.B5=true):=by
  by_cases hc:m.B6<=1152921504606846976
  ·rw[dY hc]
   cases m.B2<;>cases m.B5<;>simp[hc]
  ·rw[dN hc];simp[hc]
 rw[l]
 constructor
 ·rintro⟨a1,a2,a3,a4,a5,a6,a7⟩
  exact⟨by omega,⟨a2,a3,a4,a5,a6⟩,a7⟩
 ·rintro⟨a1,⟨a2,a3,a4,a5,a6⟩,a7⟩
  exact⟨by omega,a2,a3,a4,a5,a6,a7⟩
theorem Yj{m:bg}(h:Be m):AY m=rh m:=by
 rw[eB,Lt,Zqd,y7]
 obtain⟨e,c⟩:=Yh m.Mem h.mem
 simp only[aE,<-e]
 rcases c with c|⟨P,hP,hm⟩
 ·constructor
  ·rintro⟨a,_⟩;exact absurd c a
  ·rintro⟨a,_⟩;omega
 ·rw[tG hm,Zbh,Zgb,Zlr,Zpc h.Jc.2 hm.p2]
  constructor
  ·rintro⟨a1,a2,a3,a4,a5,a6,a7,a8,a9⟩;exact⟨by omega,a2,a5,a6,a7,a8,a9,a3,a4⟩
  ·rintro⟨a1,a2,a5,a6,a7,a8,a9,a3,a4⟩;exact⟨by omega,a2,a3,a4,a5,a6,a7,a8,a9⟩
def Uf(a b c d e:Bool):Int:=iN .u32 (iN .u32 (iN .u32 (iN .u32 (DU a 0) (DU b 1)) (DU c 2)) (DU d 3)) (DU e 4)
theorem Jd(m:bg):Ug m=Uf (Yk m.B8) (T9 m.B1) (Li m.B7) (Yl m.D4) (OQ m.A6):=by
 unfold Ug L1
 simp only[Tree.m,eh]
 generalize Yk m.B8=a
 generalize T9 m.B1=b
 generalize Li m.B7=c
 generalize Yl m.D4=d
 generalize OQ m.A6=e
 cases a<;>cases b<;>cases c<;>cases d<;>cases e<;>kernel_rfl
theorem Ztd(a b c d e:Bool):0<=Uf a b c d e/\Uf a b c d e<32:=by
 cases a<;>cases b<;>cases c<;>cases d<;>cases e<;>decide
theorem Cp(m:bg):OU m=Uf (Ym m.B8) (Ua m.B1) (Yn m.B7) (Yo m.D4) (OR m.A6):=rfl
section
variable {m:bg} (h:Be m)
include h
theorem Zub:Ug m=OU m:=by
 rw[Jd,Cp,xM,Zn h.Jc];rfl
theorem Z32:L2 m=Bf m:=by
 have e:=Zub h
 simp only[L2,L3,Bf,L4,Tree.m,eh,e]
theorem zk:TG m=Je m:=by
 have e:=Z32 h
 simp only[TG,L5,Je,L6,Tree.m,eh,e]
theorem Zlj:EK m=!GW m:=by
 have e1:=Yj h
 have e2:=zk h
 have e3:decide (m.B6>=1152921504606846976)=!decide (m.B6<1152921504606846976):=qk
 simp only[EK,I0,GW,Uh,Tree.m,eh,e1,e2,e3]
 cases rh m<;>cases m.B5<;>cases Je m<;>cases decide (m.B6<1152921504606846976)<;>rfl
theorem Zdh:0<=Bf m/\Bf m<32:=by
 have e:Bf m=bh .u32 (OU m) m.B4.C3.a7:=rfl
 have l:=Ztd (Ym m.B8) (Ua m.B1) (Yn m.B7) (Yo m.D4) (OR m.A6)
 rw[<-Cp]at l
 rw[e,XA ⟨l.1,by omega⟩ h.oi.a7]
 have:=dV (n:=(OU m).toNat) (m:=m.B4.C3.a7.toNat)
 omega
def low(l:Int):Int:=if l%2=1 then 0 else if l/2%2=1 then 1 else if l/4%2=1 then 2 else if l/8%2=1 then 3 else 4
end
theorem wE{l:Int}(h0:0<=l)(h1:l<32):l=0\/l=1\/l=2\/l=3\/l=4\/l=5\/l=6\/l=7\/l=8\/l=9\/l=10\/l=11\/l=12\/l=13\/l=14\/l=15\/l=16\/l=17\/l=18\/l=19\/l=20\/l=21\/l=22\/l=23\/l=24\/l=25\/l=26\/l=27\/l=28\/l=29\/l=30\/l=31:=by omega
def Jf(m:bg)(l:Int):bq:=bif bh .u32 m.B4.C3.a0 2==0 then m.B4 else bif l==0 then m.B4 else pN m.B4 (wrap .i64 (16+low l)) 0
theorem OV{m:bg}(h:Be m):ri m=Jf m (Bf m):=by
 obtain⟨l0,l1⟩:=Zdh h
 unfold ri L7
 simp only[Tree.m,eh]
 revert l0 l1
 generalize Bf m=l
 intro l0 l1
 unfold Jf
 cases bh .u32 m.B4.C3.a0 2==0
 ·rcases wE l0 l1 with rfl|rfl|rfl|rfl|rfl|rfl|rfl|rfl|rfl|rfl|rfl|rfl|rfl|rfl|rfl|rfl|rfl|rfl|rfl|rfl|rfl|rfl|rfl|rfl|rfl|rfl|rfl|rfl|rfl|rfl|rfl|rfl<;>kernel_rfl
 ·rfl
def Yp(m:bg)(c:bq):bg:={B4:=c,Mem:=m.Mem,B1:=m.B1,B8:=m.B8,B7:=m.B7,D4:=m.D4,A6:=m.A6,B6:=m.B6,B2:=false,B5:=m.B5}
theorem Zua{m:bg}(h:Be m)(jZ:m.B4.C3.a0<=31):pd m=Yp m (ri m):=by
 obtain⟨l0,l1⟩:=Zdh h
 have tr:∀k b,rb m.B4 k b=pN m.B4 k b:=OA h.oi.a0.1 jZ
 have e:L2 (Yp m m.B4)=Bf m:=Z32 (m:=Yp m m.B4) ⟨h.oi,h.mem,h.mo,h.wA,h.Jc,h.tF⟩
 rw[OV h]
 unfold pd Lu
 simp only[Tree.m,eh]
 rw[show L2 {B4:=m.B4,Mem:=m.Mem,B1:=m.B1,B8:=m.B8,B7:=m.B7,D4:=m.D4,A6:=m.A6,B6:=m.B6,B2:=false,B5:=m.B5}=Bf m from e]
 revert l0 l1
 generalize Bf m=l
 intro l0 l1
 unfold Jf
 simp only[<-tr]
 cases bh .u32 m.B4.C3.a0 2==0
 ·rcases wE l0 l1 with rfl|rfl|rfl|rfl|rfl|rfl|rfl|rfl|rfl|rfl|rfl|rfl|rfl|rfl|rfl|rfl|rfl|rfl|rfl|rfl|rfl|rfl|rfl|rfl|rfl|rfl|rfl|rfl|rfl|rfl|rfl|rfl<;>(show _=_;kernel_rfl)
 ·rfl
theorem GX{p:Int}:p=0\/p=1\/p=2\/p=3\/p=4\/p=5\/p=6\/p=7\/p=8\/p=9\/p=10\/p=11\/p<0\/12<=p:=by omega
theorem xan{m:bg}(hb:okB m.A6)(port clock:Int):uz m port clock=((DV m port clock).2,(DV m port clock).1):=by
 have e1:=Zue m.B1
 have e2:∀p,Oi m.B7 p=Yq m.B7 p:=λ_=>rfl
 have e3:=Zu4 m.D4
 have e4:=Zse hb
 have e5:Xr m.B8=Yr m.B8:=rfl
 simp only[uz,Ln,DV,NN,Tree.m,eh,e1,e2,e3,e4,e5]
 rcases GX (p:=port)with rfl|rfl|rfl|rfl|rfl|rfl|rfl|rfl|rfl|rfl|rfl|rfl|h|h
 all_goals first|rfl|skip
 ·have n:∀k:Int,0<=k->(port==k)=false:=λk hk=>beq_eq_false_iff_ne.2 (by omega)
  have c:LU m.B1 port=(m.B1,0):=by
   simp only[LU,GU,Tree.m,n 0 (by decide),n 1 (by decide),cond_false]
  simp only[n 0 (by decide),n 1 (by decide),n 2 (by decide),n 3 (by decide),n 4 (by decide),n 5 (by decide),n 6 (by decide),n 7 (by decide),n 8 (by decide),n 9 (by decide),n 10 (by decide),n 11 (by decide),cond_false,dY (show port<=1 by omega),cond_true,c]
 ·have n:∀k:Int,k<12->(port==k)=false:=λk hk=>beq_eq_false_iff_ne.2 (by omega)
  have c:LY m.A6 port=0:=by
   simp only[LY,LZ,Tree.m,n 10 (by decide),n 11 (by decide),cond_false]
  simp only[n 0 (by decide),n 1 (by decide),n 2 (by decide),n 3 (by decide),n 4 (by decide),n 5 (by decide),n 6 (by decide),n 7 (by decide),n 8 (by decide),n 9 (by decide),n 10 (by decide),n 11 (by decide),cond_false,dN (show¬port<=1 by omega),dN (show¬port<=6 by omega),dN (show¬port<=9 by omega),c]
theorem qN{m:bg}(hm:ej P m.Mem)(hb:okB m.A6)(port:Int)(hv:U v):ES m port v m.B6=((ET m port v).2,(ET m port v).1):=by
 have e1:=Zmh hm m.B7
 have e2:=Zog hm m.D4
 have e3:=Zq4 hm hb port hv
 have e4:=yM m.B8 v
 simp only[ES,Lm,ET,KQ,Tree.m,eh,e1,e2,e3,e4]
 rcases GX (p:=port)with rfl|rfl|rfl|rfl|rfl|rfl|rfl|rfl|rfl|rfl|rfl|rfl|h|h
 all_goals first|rfl|skip
 ·have n:∀k:Int,0<=k->(port==k)=false:=λk hk=>beq_eq_false_iff_ne.2 (by omega)
  simp only[n 0 (by decide),n 1 (by decide),n 2 (by decide),n 3 (by decide),n 4 (by decide),n 5 (by decide),n 6 (by decide),n 7 (by decide),n 8 (by decide),n 9 (by decide),n 10 (by decide),n 11 (by decide),cond_false,dY (show port<=2 by omega),cond_true]
 ·have n:∀k:Int,k<12->(port==k)=false:=λk hk=>beq_eq_false_iff_ne.2 (by omega)
  have c:Q8 m.A6 m.Mem port v=(m.A6,m.Mem):=by
   simp only[Q8,Bd,Tree.m,n 10 (by decide),n 11 (by decide),cond_false]
  simp only[n 0 (by decide),n 1 (by decide),n 2 (by decide),n 3 (by decide),n 4 (by decide),n 5 (by decide),n 6 (by decide),n 7 (by decide),n 8 (by decide),n 9 (by decide),n 10 (by decide),n 11 (by decide),cond_false,dN (show¬port<=2 by omega),dN (show¬port<=6 by omega),dN (show¬port<=9 by omega),c]
def tick(n:bg)(c:bq)(w h:Bool):bg:={B4:=c,Mem:=n.Mem,B1:=n.B1,B8:=n.B8,B7:=n.B7,D4:=n.D4,A6:=n.A6,B6:=wrap .u64 (n.B6+1),B2:=w,B5:=h}
def GY(m:bg)(c:bq)(mem:List Int):bg:={B4:=c,Mem:=mem,B1:=m.B1,B8:=m.B8,B7:=m.B7,D4:=m.D4,A6:=m.A6,B6:=m.B6,B2:=false,B5:=m.B5}
def EU(n:bg)(e:lD)(clock gl:Int):bg×List ir:=
 bif e.C2==1 then
  (bif e.F7 !=0 then(tick (uz n e.D8 clock).1 {X:=iI.of 0 (dB (iI.l (uz n e.D8 clock).1.B4.X) e.F7.toNat (uz n e.D8 clock).2),Pc:=(uz n e.D8 clock).1.B4.Pc,C3:=(uz n e.D8 clock).1.B4.C3} (uz n e.D8 clock).1.B2 (uz n e.D8 clock).1.B5,[])
  else(tick (uz n e.D8 clock).1 (uz n e.D8 clock).1.B4 (uz n e.D8 clock).1.B2 (uz n e.D8 clock).1.B5,[]))
 else bif e.C2==2 then(tick (ES n e.D8 e.Value gl).1 (ES n e.D8 e.Value gl).1.B4 (ES n e.D8 e.Value gl).1.B2 (ES n e.D8 e.Value gl).1.B5,(ES n e.D8 e.Value gl).2)
 else bif e.C2==3 then(tick n n.B4 true n.B5,[])else bif e.C2==4 then(tick n n.B4 n.B2 true,[])else(tick n n.B4 n.B2 n.B5,[])
def EV(n:bg)(e:lD)(clock:Int):List ir×bg:=
 bif e.C2==1 then([],tick (DV n e.D8 clock).2 (lH (DV n e.D8 clock).2.B4 e.F7 (DV n e.D8 clock).1) (DV n e.D8 clock).2.B2 (DV n e.D8 clock).2.B5)
 else bif e.C2==2 then((ET n e.D8 e.Value).1,tick (ET n e.D8 e.Value).2 (ET n e.D8 e.Value).2.B4 (ET n e.D8 e.Value).2.B2 (ET n e.D8 e.Value).2.B5)
 else bif e.C2==3 then([],tick n n.B4 true n.B5)else bif e.C2==4 then([],tick n n.B4 n.B2 true)else([],tick n n.B4 n.B2 n.B5)
theorem zaH(m:bg)(clock:Int):Au m clock=EV (GY m (Bc (ri m) m.Mem).1 (Bc (ri m) m.Mem).2.2) (Bc (ri m) m.Mem).2.1 clock:=by kernel_rfl
theorem xN(m:bg)(clock:Int):DW m clock=bif !EK m then(m,[])else EU {B4:=(Cn (pd m).B4 (pd m).Mem).1,Mem:=(Cn (pd m).B4 (pd m).Mem).2.1,B1:=(pd m).B1,B8:=(pd m).B8,B7:=(pd m).B7,D4:=(pd m).D4,A6:=(pd m).A6,B6:=(pd m).B6,B2:=(pd m).B2,B5:=(pd m).B5} (Cn (pd m).B4 (pd m).Mem).2.2 clock m.B6:=by kernel_rfl
theorem qao(m:List Int):Ys m=m:=by
 simp[Ys,L8,Tree.m]
theorem y8(m:bg):Ui m=m:=by
 simp only[Ui,KR,Tree.m,eh,qao]
theorem Zqj(m:bg)(clock:Int):Yt m clock=bif GW m then(m,[])else((Au m clock).2,(Au m clock).1):=by
 simp only[Yt,Z7y,Tree.m,eh,y8]
theorem zN{n:bg}(hm:ej P n.Mem)(hb:okB n.A6){e:lD}(hr:0<=e.F7/\e.F7<16)(hv:U e.Value)(clock:Int):EU n e clock n.B6=((EV n e clock).2,(EV n e clock).1):=by
 unfold EU EV
 rw[xan hb e.D8 clock,qN hm hb e.D8 hv]
 cases e.C2==1
 ·cases e.C2==2
  ·cases e.C2==3
   ·cases e.C2==4<;>rfl
   ·rfl
  ·rfl
 ·generalize DV n e.D8 clock=r
  have s:=TS r.2.B4 hr r.1
  show(bif e.F7 !=0 then _ else _)=(tick r.2 (lH r.2.B4 e.F7 r.1) r.2.B2 r.2.B5,[])
  rw[<-s]
  simp only[uy,EH,Tree.m]
  cases e.F7 !=0<;>rfl
theorem yk{m:bg}(h:Be m)(clock:Int):DW m clock=Yt m clock:=by
 rw[xN,Zqj,Zlj h]
 cases hs:GW m
 ·have hr:EK m=true:=by rw[Zlj h,hs];rfl
  obtain⟨hm,hh,hct⟩:=Zqq hr
  obtain⟨g1,g2,g3,g4,g5⟩:=(Lt m).1 hm
  rcases(Yh m.Mem h.mem).2 with c|⟨P,hP,je⟩
  ·exact absurd c g1
  have okm:Ao P m:=⟨h.oi,je,h.mo,h.wA,h.Jc.1,h.Jc.2⟩
  obtain⟨b1,b2,b3,_⟩:=(Tree.pp (Zl8 okm g2)).2
  change nn (pd m).B4 at b1
  change Ao P (pd m)at b2
  change(pd m).Mem=m.Mem at b3
  have be:=Zua h g2.st
  have b1':nn (ri m):=by have:=b1;rw[be]at this;exact this
  have Yu:iP (ri m):=by have:=b2.oi;rw[be]at this;exact this
  have ex:=yj je Yu b1'.st
  have er:=(Tree.pp (Zqw Yu je)).2
  change 0<=(Cn (ri m) m.Mem).2.2.F7/\(Cn (ri m) m.Mem).2.2.F7<16 at er
  obtain⟨d1,d2,d3⟩:=(Tree.pp (NP Yu je)).2
  change U (Bc (ri m) m.Mem).2.1.Value at d2
  change ej P (Bc (ri m) m.Mem).2.2 at d3
  rw[ex]at er
  rw[zaH,be]
  show EU {B4:=(Cn (ri m) m.Mem).1,Mem:=(Cn (ri m) m.Mem).2.1,B1:=m.B1,B8:=m.B8,B7:=m.B7,D4:=m.D4,A6:=m.A6,B6:=m.B6,B2:=false,B5:=m.B5} (Cn (ri m) m.Mem).2.2 clock m.B6=_
  rw[ex]
  exact zN (n:=GY m (Bc (ri m) m.Mem).1 (Bc (ri m) m.Mem).2.2) d3 h.Jc er d2 clock
 ·rfl

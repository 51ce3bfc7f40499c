import Derived.Test.YtaemmjbkndlkeaaGreatMigrateContinuesLaws2
import Derived.Test.YtaemmjbkndlkeaaGreatMigrateContinuesNewsB
open Nat renaming lt_succ_self->cN,blt->bN,le_refl->aX,zero_le->bC,le_of_eq->dG,pow_le_pow_right->dO,and_le_left->dV,pow_lt_pow_right->dW,zero_testBit->eL,testBit_and->eM
open List renaming replicate->cO,append->cP,mem_cons->cQ,not_mem_nil->cR,length_replicate->cS,length_take->aD,length_drop->aG,take->cU,drop->cV,ext_getElem->bR,range->cW,getD_eq_getElem?_getD->cX,length_singleton->cY,append_assoc->aM,set->dB,length_set->dC,length_cons->dD,length_nil->dE,length->dF,getD->aV,getElem?_take->aF
open Int renaming tmod->cZ,toNat->dA,emod_eq_of_lt->dH,pow_pos->dI,fdiv_eq_ediv_of_nonneg->dJ,le_of_lt->dK,pow_add->dL,mul_le_mul_of_nonneg_right->dM,lt_or_le->dQ,toNat_natCast->dX,tmod_eq_emod_of_nonneg->dZ,toNat_of_nonneg->eA,fdiv->eC,tdiv->eF,tdiv_eq_ediv_of_nonneg->eG,ediv_ediv_of_nonneg->eI,mul_ediv_add_emod->eJ,pow_succ->eK
open Bool renaming or_eq_true->aT,eq_iff_iff->eB,noConfusion->eH
open UInt8 renaming toNat_lt->dP,ofNat->eD
open BitVec renaming ofInt->dR,toNat_ofInt->dS,toNat_or->dT,toNat_and->dU
set_option maxRecDepth 100000
set_option linter.all false
namespace Go.Proofs.YtaemmjbkndlkeaaGreat
open Go Go.GD
open Go.IntKind(wrap i64 u32 u64 u8 wrap_i64 wrap_u32 wrap_u64 wrap_u8 wrap_i32)
variable {A a access clock f g op q r size v w x:Int}{P k n p:Nat}{b:gl}{c:bq}{d:fw}{mem:List Int}{s:List UInt8}
theorem vH(i:gv):U (oC i).1:=by
 refine Tree.post (Sv i) (W:=λr=>U r.1) ?_
 unfold Sv
 exact aq λ_ _=>ab (λ_=>gd) (λ_=>nu _ _)
theorem yd(l:List Int)(hl:l.length*8<=reachBytes):(MW l).w (λr=>(r.length:Int)=l.length/\∀w∈r,U w):=by
 have pq:l.length*8<=140737488351232:=hl
 have app:∀{r:List Int} {x:Int},(∀w∈r,U w)->U x->∀w∈r++[x],U w:=λhr hx w hw=>by
  rw[List.mem_append]at hw
  rcases hw with hw|hw
  ·exact hr w hw
  ·rw[List.mem_singleton.1 hw];exact hx
 unfold MW
 refine fj (inv:=λz=>Qu9 l z/\∀w∈z.2,U w) (μ:=Sw l) ⟨⟨by omega,by simp,by simp⟩,by simp⟩ (cN _) (λv0 hv=>?_)
 obtain⟨⟨h1,h2,h3⟩,h4⟩:=hv
 refine ab (λh=>?_) (λh=>?_)
 ·have h:=oY h
  have next:∀x:Int,U x->(Qu9 l (wrap i64 (v0.1+1),v0.2++[x])/\∀w∈v0.2++[x],U w)/\Sw l (wrap i64 (v0.1+1),v0.2++[x])<Sw l v0:=λx hx=>by
   have hw:i64.wrap (v0.1+1)=v0.1+1:=by rw[wrap_i64];omega
   rw[hw]
   refine⟨⟨⟨?_,?_,?_⟩,app h4 hx⟩,?_⟩
   ·show 0<=v0.1+1;omega
   ·show v0.1+1<=l.length;omega
   ·show((v0.2++[x]).length:Int)=v0.1+1;simp;omega
   ·show(l.length-(v0.1+1)).toNat<(l.length-v0.1).toNat;omega
  have hb:(Nat.beq 1 1&&bN 0 1&&decide (0<=v0.1/\v0.1<(l.length:Int)))=true:=by simp[bN];omega
  have hc:decide (4*(v0.2.length+1)<=140737488355328)=true:=dY (by omega)
  exact ax hb (ab (λ_=>ax hb (ax hc (next _ (fk _)))) (λ_=>ax hb (c7 (qX _) (aq λx0 _=>aq λx1 hx=>ax hc (next _ (by rw[hx];exact vH _))))))
 ·have h:=oN h
  exact⟨by show(v0.2.length:Int)=l.length;omega,h4⟩
section
variable {P:Nat} {m:bd} (h:ry P m)
include h
theorem MX(port:Int)(hc:U clock):(MY m port clock).w (λx=>U x.1/\ry P x.2/\x.2.B7=m.B7):=by
 have k:=(⟨h,rfl⟩:ry P m/\m.B7=m.B7)
 obtain⟨h1,h2,h3,h4,h5,h7⟩:=h
 unfold MY
 exact ab (λ_=>aq λx hx=>⟨hx▸Zm8 _ _,⟨⟨h1,h2,h3,h4,h5,h7⟩,rfl⟩⟩) (λ_=>ab (λ_=>⟨hc,k⟩) (λ_=>ab (λ_=>aq λx hx=>⟨hx▸xA _,k⟩) (λ_=>ab (λ_=>aq λx hx=>⟨hx▸vW h3 _,k⟩) (λ_=>ab (λ_=>aq λx hx=>⟨hx▸zaz h4 _,k⟩) (λ_=>aq λx hx=>⟨hx▸Zlm h5.1 _,k⟩)))))
theorem zaB(port:Int)(hv:U v):(J8 m port v).w (λx=>x.1.length<=1/\ry P x.2/\x.2.B7=m.B7):=by
 have k:=(⟨h,rfl⟩:ry P m/\m.B7=m.B7)
 obtain⟨h1,h2,h3,h4,h5,h7⟩:=h
 unfold J8
 exact ab (λ_=>⟨aX _,k⟩) (λ_=>ab (λ_=>⟨bC _,k⟩) (λ_=>ab (λ_=>aq λ_ _=>⟨bC _,⟨⟨h1,h2,h3,h4,h5,h7⟩,rfl⟩⟩) (λ_=>ab (λ_=>cy (qA h2 h3 _ hv _) λx hx=>⟨hx.2,⟨⟨h1,h2,hx.1,h4,h5,h7⟩,rfl⟩⟩) (λ_=>ab (λ_=>cy (yW h2 h4 _ hv _) λx hx=>⟨hx.2,⟨⟨h1,h2,h3,hx.1,h5,h7⟩,rfl⟩⟩) (λ_=>cy (xaL h2 h5 _ hv) λx hx=>⟨bC _,⟨⟨h1,hx.2,h3,h4,hx.1,h7⟩,rfl⟩⟩)))))
theorem Ws(hc:U clock):(MZ m clock).w (λx=>x.1.length<=1/\ry P x.2/\x.2.B7=wrap .u64 (m.B7+1)):=by
 obtain⟨h1,h2,h3,h4,h5,h7⟩:=h
 unfold MZ
 refine cy (Qwo h1) λx0 c0=>cy (M0 c0 h2) λx1 hx=>?_
 obtain⟨c1,v1,m1⟩:=hx
 refine ab (λ_=>Sx (MX (m:=⟨_,_,_,_,_,_,_,_,_,_⟩) ⟨c1,m1,h3,h4,h5,h7⟩ _ hc) λx2 hx=>?_) (λ_=>ab (λ_=>cy (zaB (m:=⟨_,_,_,_,_,_,_,_,_,_⟩) ⟨c1,m1,h3,h4,h5,h7⟩ _ v1) λx4 hx=>?_) (λ_=>?_))
 ·obtain⟨u,⟨k1,k2,k3,k4,k5,k7⟩,k6⟩:=hx
  exact cy (Ed k1 _ u) λx3 h3=>⟨bC _,⟨h3,k2,k3,k4,k5,w0 _⟩,congrArg (λn=>wrap .u64 (n+1)) k6⟩
 ·obtain⟨u,⟨k1,k2,k3,k4,k5,k7⟩,k6⟩:=hx
  exact⟨u,⟨k1,k2,k3,k4,k5,w0 _⟩,congrArg (λn=>wrap .u64 (n+1)) k6⟩
 ·repeat'(first
   |exact⟨bC _,⟨c1,m1,h3,h4,h5,w0 _⟩,rfl⟩
   |refine ab (λ_=>?_) (λ_=>?_))
theorem xY:(J9 m).w (λx=>ry P x/\x.B7=m.B7):=by
 obtain⟨h1,h2,h3,h4,h5,h7⟩:=h
 unfold J9
 exact cy (xaK h2) λx hx=>⟨⟨h1,by rw[hx];exact h2,h3,h4,h5,h7⟩,rfl⟩
end
theorem BB(n:Nat):∀w∈cO n (0:Int),U w:=λw hw=>by rw[(List.mem_replicate.1 hw).2];exact gd
set_option synthInstance.maxHeartbeats 2000000
set_option synthInstance.maxSize 100000
noncomputable section
instance qI (src:List UInt8):Ck (Qmi src):=tA (t:=M1 src) (by delta M1;infer_instance)
instance qE (s:List UInt8):Ck (Qk6 s):=tA (t:=Qe s) (by delta Qe;infer_instance)
instance xE (n:Int):Ck (Ee n):=let d:Decidable (Ee n):=(by delta Ee;infer_instance);⟨@decide _ d,@oY _ d⟩
instance vd (n:Int):Ck (Qhi n):=tA (t:=H3 n) (by delta H3;infer_instance)
instance zag (r:Int):Ck (Qsg r):=tA (t:=H4 r) (by delta H4;infer_instance)
instance zY (s:List UInt8):Ck (Wt s):=tA (t:=M3 s) (by delta M3;infer_instance)
instance Ztg (op:Int):Ck (Qft op):=tA (t:=M4 op) (by delta M4;infer_instance)
instance Zss (s:List UInt8):Ck (Ka s):=tA (t:=M5 s) (by delta M5;infer_instance)
instance qe (ea:List UInt8):Ck (M6 ea):=tA (t:=M7 ea) (by delta M7;infer_instance)
instance zE (s:List UInt8):Ck (Qks s):=tA (t:=M8 s) (by delta M8;infer_instance)
instance xe (l:List kQ) (p:List UInt8):Ck (M9 l p):=tA (t:=Na l p) (by delta Na;infer_instance)
instance yE (s:List UInt8):Ck (Qk0 s):=tA (t:=Nb s) (by delta Nb;infer_instance)
instance ze (l:List nQ) (label:List UInt8):Ck (Gd l label):=let d:Decidable (Gd l label):=(by delta Gd;infer_instance);⟨@decide _ d,@oY _ d⟩
instance yY (src:List UInt8):Ck (Qol src):=tA (t:=Nc src) (by delta Nc;infer_instance)
instance vY (st:kd) (v:Int):Ck (Nd st v):=tA (t:=Nf st v) (by delta Nf;infer_instance)
instance Ztf (src:List UInt8):Ck (Wu src):=tA (t:=Ng src) (by delta Ng;infer_instance)
theorem xag:Wu ((108:UInt8)::(BC++Kb++(Kc++Kd)++(Ke++Kf++(Kg++Kh))++(Ki++Kj++(Kk++Kl)++(Km++Kn++(Ko++Kp))))):=ck inferInstance (by kernel_rfl)
def inU(x:Int):Bool:=decide (0<=x)&&decide (x<4294967296)
theorem qah(l:List Int)(h:(Nat.ble l.length 160&&List.all l inU)=true):l.length<=160/\∀w∈l,U w:=by
 rw[aE]at h
 refine⟨lE h.1,λw hw=>?_⟩
 have:=List.all_eq_true.1 h.2 w hw
 simp only[inU,aE,decide_eq_true_eq]at this
 exact this
theorem ye:(Kq (cP (cP (cP (cP Sy Kb) (cP Kc Kd)) (cP (cP Ke Kf) (cP Kg Kh))) (cP (cP (cP Ki Kj) (cP Kk Kl)) (cP (cP Km Kn) (cP Ko Kp))))).1.length<=160/\∀w∈(Kq (cP (cP (cP (cP Sy Kb) (cP Kc Kd)) (cP (cP Ke Kf) (cP Kg Kh))) (cP (cP (cP Ki Kj) (cP Kk Kl)) (cP (cP Km Kn) (cP Ko Kp))))).1,U w:=qah _ (by kernel_rfl)
end
theorem BD(i:List Int)(hu:∀w∈i,U w)(hl:i.length<=256):(Ge 8 4 i).w (λx=>ry 8 x.1/\x.1.B7=0):=by
 unfold Ge
 refine ab (λh=>absurd h (by decide)) λ_=>ab (λh=>absurd h (by decide)) λ_=>ab (λh=>absurd h (by decide)) λ_=>ab (λh=>absurd h (by decide)) λ_=>ab (λh=>?_) λ_=>aq λx0 e0=>c7 (Zk7 _) (aq λx1 e1=>?_)
 ·have h:=oY h
  rw[show i64.wrap (8*32)=256 by decide]at h
  omega
 have hx:x1=cO 256 0:=by rw[e1];kernel_rfl
 have c0:iI x0:=by rw[e0];exact⟨by
  intro w hw
  simp only[Wv,Sz,Tree.m,iv.l,cQ,cR,or_false,or_self]at hw
  rw[hw];exact gd,gd,by
  intro w hw
  simp only[Wv,Sz,Tree.m,A8.l,cQ,cR,or_false,or_self]at hw
  rcases hw with rfl|rfl
  ·exact⟨by omega,by omega⟩
  ·exact gd⟩
 have hz:∀w∈x1,U w:=by rw[hx];exact BB 256
 have hn:x1.length=256:=by rw[hx,cS]
 refine⟨⟨c0,⟨?_,by omega,by omega,λw hw=>?_⟩,⟨gd,gd,gd,gd⟩,⟨gd,gd,gd,gd⟩,⟨gd,gd⟩,Int.le_refl _⟩,rfl⟩
 ·simp only[lA,aD,aG,hn];omega
 ·rcases List.mem_append.1 hw with h1|h1
  ·exact hu w (List.mem_of_mem_take h1)
  ·exact hz w (List.mem_of_mem_drop h1)
noncomputable section
def jG:List Int:=(Kq (cP (cP (cP (cP Sy Kb) (cP Kc Kd)) (cP (cP Ke Kf) (cP Kg Kh))) (cP (cP (cP Ki Kj) (cP Kk Kl)) (cP (cP Km Kn) (cP Ko Kp))))).1
def te:List Int:=jG++cO (160-jG.length) 0
theorem Nh(t0 t1 t2 t3 t4 t5 t6 t7 t8 t9 t10 t11 t12 t13 t14 t15 t16 t17 t18 t19 t20 t21 t22 t23 t24 t25 t26 t27 t28 t29 t30 t31 t32 t33 t34 t35 t36 t37 t38 t39 t40 t41 t42 t43 t44 t45 t46 t47 t48 t49 t50 t51 t52 t53 t54 t55 t56 t57 t58 t59 t60 t61 t62 t63 t64 t65 t66 t67 t68 t69 t70 t71 t72 t73 t74 t75 t76 t77 t78 t79 t80 t81 t82 t83 t84 t85 t86 t87 t88 t89 t90 t91 t92 t93 t94 t95:Int):(Kr (kS 8 4 (te++[t0,t1,t2,t3,t4,t5,t6,t7,t8,t9,t10,t11,t12,t13,t14,t15,t16,t17,t18,t19,t20,t21,t22,t23,t24,t25,t26,t27,t28,t29,t30,t31,t32,t33,t34,t35,t36,t37,t38,t39,t40,t41,t42,t43,t44,t45,t46,t47,t48,t49,t50,t51,t52,t53,t54,t55,t56,t57,t58,t59,t60,t61,t62,t63,t64,t65,t66,t67,t68,t69,t70,t71,t72,t73,t74,t75,t76,t77,t78,t79,t80,t81,t82,t83,t84,t85,t86,t87,t88,t89,t90,t91,t92,t93,t94,t95])).1 [] 87).2.2.2=0:=by kernel_rfl
end
attribute [local irreducible] Kq
theorem qf(i j:List Int)(hi:i.length<=256)(hj:j.length<=256)(e:i++cO (256-i.length) 0=j++cO (256-j.length) 0):kS 8 4 i=kS 8 4 j:=by
 have w:i64.wrap (8*32)=256:=by decide
 have m:SA 8=cO 256 0:=by kernel_rfl
 have d:∀k:List Int,k.length<=256->decide ((k.length:Int)>256)=false:=λk h=>dN (by omega)
 have mem:∀k:List Int,k.length<=256->cU (min k.length (cO 256 (0:Int)).length) k++cV (min k.length (cO 256 (0:Int)).length) (cO 256 0)=k++cO (256-k.length) 0:=λk h=>by
  rw[cS,Nat.min_eq_left h,List.take_length,List.drop_replicate]
 have r:SA 8=cO 256 0:=by kernel_rfl
 simp only[kS,Ge,Tree.m,w,ee,r,d i hi,d j hj]
 simp only[mem i hi,mem j hj,e]
theorem H5(t:List Int)(ht:t.length=96):t=[t.getD 0 0,t.getD 1 0,t.getD 2 0,t.getD 3 0,t.getD 4 0,t.getD 5 0,t.getD 6 0,t.getD 7 0,t.getD 8 0,t.getD 9 0,t.getD 10 0,t.getD 11 0,t.getD 12 0,t.getD 13 0,t.getD 14 0,t.getD 15 0,t.getD 16 0,t.getD 17 0,t.getD 18 0,t.getD 19 0,t.getD 20 0,t.getD 21 0,t.getD 22 0,t.getD 23 0,t.getD 24 0,t.getD 25 0,t.getD 26 0,t.getD 27 0,t.getD 28 0,t.getD 29 0,t.getD 30 0,t.getD 31 0,t.getD 32 0,t.getD 33 0,t.getD 34 0,t.getD 35 0,t.getD 36 0,t.getD 37 0,t.getD 38 0,t.getD 39 0,t.getD 40 0,t.getD 41 0,t.getD 42 0,t.getD 43 0,t.getD 44 0,t.getD 45 0,t.getD 46 0,t.getD 47 0,t.getD 48 0,t.getD 49 0,t.getD 50 0,t.getD 51 0,t.getD 52 0,t.getD 53 0,t.getD 54 0,t.getD 55 0,t.getD 56 0,t.getD 57 0,t.getD 58 0,t.getD 59 0,t.getD 60 0,t.getD 61 0,t.getD 62 0,t.getD 63 0,t.getD 64 0,t.getD 65 0,t.getD 66 0,t.getD 67 0,t.getD 68 0,t.getD 69 0,t.getD 70 0,t.getD 71 0,t.getD 72 0,t.getD 73 0,t.getD 74 0,t.getD 75 0,t.getD 76 0,t.getD 77 0,t.getD 78 0,t.getD 79 0,t.getD 80 0,t.getD 81 0,t.getD 82 0,t.getD 83 0,t.getD 84 0,t.getD 85 0,t.getD 86 0,t.getD 87 0,t.getD 88 0,t.getD 89 0,t.getD 90 0,t.getD 91 0,t.getD 92 0,t.getD 93 0,t.getD 94 0,t.getD 95 0]:=by
 apply bR
 ·rw[ht];rfl
 ·intro i h1 h2
  have e:∀j (hj:j<96),[t.getD 0 0,t.getD 1 0,t.getD 2 0,t.getD 3 0,t.getD 4 0,t.getD 5 0,t.getD 6 0,t.getD 7 0,t.getD 8 0,t.getD 9 0,t.getD 10 0,t.getD 11 0,t.getD 12 0,t.getD 13 0,t.getD 14 0,t.getD 15 0,t.getD 16 0,t.getD 17 0,t.getD 18 0,t.getD 19 0,t.getD 20 0,t.getD 21 0,t.getD 22 0,t.getD 23 0,t.getD 24 0,t.getD 25 0,t.getD 26 0,t.getD 27 0,t.getD 28 0,t.getD 29 0,t.getD 30 0,t.getD 31 0,t.getD 32 0,t.getD 33 0,t.getD 34 0,t.getD 35 0,t.getD 36 0,t.getD 37 0,t.getD 38 0,t.getD 39 0,t.getD 40 0,t.getD 41 0,t.getD 42 0,t.getD 43 0,t.getD 44 0,t.getD 45 0,t.getD 46 0,t.getD 47 0,t.getD 48 0,t.getD 49 0,t.getD 50 0,t.getD 51 0,t.getD 52 0,t.getD 53 0,t.getD 54 0,t.getD 55 0,t.getD 56 0,t.getD 57 0,t.getD 58 0,t.getD 59 0,t.getD 60 0,t.getD 61 0,t.getD 62 0,t.getD 63 0,t.getD 64 0,t.getD 65 0,t.getD 66 0,t.getD 67 0,t.getD 68 0,t.getD 69 0,t.getD 70 0,t.getD 71 0,t.getD 72 0,t.getD 73 0,t.getD 74 0,t.getD 75 0,t.getD 76 0,t.getD 77 0,t.getD 78 0,t.getD 79 0,t.getD 80 0,t.getD 81 0,t.getD 82 0,t.getD 83 0,t.getD 84 0,t.getD 85 0,t.getD 86 0,t.getD 87 0,t.getD 88 0,t.getD 89 0,t.getD 90 0,t.getD 91 0,t.getD 92 0,t.getD 93 0,t.getD 94 0,t.getD 95 0][j]'hj=t.getD j 0:=by
   intro j hj
   have:[t.getD 0 0,t.getD 1 0,t.getD 2 0,t.getD 3 0,t.getD 4 0,t.getD 5 0,t.getD 6 0,t.getD 7 0,t.getD 8 0,t.getD 9 0,t.getD 10 0,t.getD 11 0,t.getD 12 0,t.getD 13 0,t.getD 14 0,t.getD 15 0,t.getD 16 0,t.getD 17 0,t.getD 18 0,t.getD 19 0,t.getD 20 0,t.getD 21 0,t.getD 22 0,t.getD 23 0,t.getD 24 0,t.getD 25 0,t.getD 26 0,t.getD 27 0,t.getD 28 0,t.getD 29 0,t.getD 30 0,t.getD 31 0,t.getD 32 0,t.getD 33 0,t.getD 34 0,t.getD 35 0,t.getD 36 0,t.getD 37 0,t.getD 38 0,t.getD 39 0,t.getD 40 0,t.getD 41 0,t.getD 42 0,t.getD 43 0,t.getD 44 0,t.getD 45 0,t.getD 46 0,t.getD 47 0,t.getD 48 0,t.getD 49 0,t.getD 50 0,t.getD 51 0,t.getD 52 0,t.getD 53 0,t.getD 54 0,t.getD 55 0,t.getD 56 0,t.getD 57 0,t.getD 58 0,t.getD 59 0,t.getD 60 0,t.getD 61 0,t.getD 62 0,t.getD 63 0,t.getD 64 0,t.getD 65 0,t.getD 66 0,t.getD 67 0,t.getD 68 0,t.getD 69 0,t.getD 70 0,t.getD 71 0,t.getD 72 0,t.getD 73 0,t.getD 74 0,t.getD 75 0,t.getD 76 0,t.getD 77 0,t.getD 78 0,t.getD 79 0,t.getD 80 0,t.getD 81 0,t.getD 82 0,t.getD 83 0,t.getD 84 0,t.getD 85 0,t.getD 86 0,t.getD 87 0,t.getD 88 0,t.getD 89 0,t.getD 90 0,t.getD 91 0,t.getD 92 0,t.getD 93 0,t.getD 94 0,t.getD 95 0]=(cW 96).map (λk=>t.getD k 0):=rfl
   simp only[this,List.getElem_map,List.getElem_range]
  rw[e i (by omega),cX,List.getElem?_eq_getElem h1]
  rfl
theorem qZ(t:List Int)(ht:t.length=96):(Kr (kS 8 4 (te++t)).1 [] 87).2.2.2=0:=by
 rw[H5 t ht]
 exact Nh _ _ _ _ _ _ _ _ _ _ _ _ _ _ _ _ _ _ _ _ _ _ _ _ _ _ _ _ _ _ _ _ _ _ _ _ _ _ _ _ _ _ _ _ _ _ _ _ _ _ _ _ _ _ _ _ _ _ _ _ _ _ _ _ _ _ _ _ _ _ _ _ _ _ _ _ _ _ _ _ _ _ _ _ _ _ _ _ _ _ _ _ _ _ _ _
theorem xf:te.length=160:=by
 have h:jG.length<=160:=ye.1
 unfold te
 rw[lA,cS];omega
theorem zah{m:bd}(h:ry P m):(H6 m [] 87).w (λx=>x.2.2.2=0->ry P x.1):=by
 have z:∀{k:Int} {p:Prop},k≠0->k=0->p:=λa b=>absurd b a
 unfold H6
 refine aq λx0 _=>ab (λ_=>z (by decide)) λ_=>ab (λ_=>z (by decide)) λ_=>ab (λ_=>z (by decide)) λ_=>c7 (show Ni [] by show([]:List py).length<=1000000000000;decide) (aq λx1 _=>ab (λ_=>z (by decide)) λ_=>cy (xY h) λx2 hx=>?_)
 have hc:=h.th
 refine fj (inv:=λv:bd×List ik=>ry P v.1/\v.2.length+(87-v.1.B7).toNat<=87) (μ:=Ww m [] 87) ⟨hx.1,by rw[hx.2];show 0+_<=87;omega⟩ (cN _) λv0 ⟨a1,a3⟩=>?_
 have a2:=a1.th
 refine ab (λhb=>ab (λ_=>?_) (λ_=>λ_=>a1)) (λ_=>λ_=>a1)
 have hb:=oY hb
 refine fj (inv:=λ_=>True) (μ:=Wx m [] 87 v0) trivial (cN _) λv1 _=>?_
 refine ab (λ_=>λ_=>a1) λ_=>cy (zab _) λx3 _=>ab (λ_=>λ_=>a1) λ_=>cy (qaz a1.nZ a1.mem) λx4 _=>ab (λ_=>z (by decide)) λ_=>cy (Ws a1 gd) λx5 h5=>?_
 obtain⟨b1,b2,b3⟩:=h5
 refine ax (dY (by omega)) (ez ?_)
 have e:x5.2.B7=v0.1.B7+1:=by rw[b3,wrap_u64];omega
 show(_/\_)/\(_:Nat)<_
 refine⟨⟨b2,by show(v0.2++x5.1).length+(87-x5.2.B7).toNat<=87;rw[lA];omega⟩,by show(87-x5.2.B7).toNat<(87-v0.1.B7).toNat;omega⟩
theorem Zmt(kind:Int)(l:List Int)(hl:l.length*8<=reachBytes)(h40:l.length<=60):(H7 kind l).w (ry 8):=by
 unfold H7
 refine c7 (Ks (by decide)) (aq λx0 nG=>ab (λ_=>c7 xag (aq λx1 e1=>?_)) (λhk=>?_))
 ·have eb:x1.1=jG:=by rw[e1];rfl
  obtain⟨q1,q2⟩:jG.length<=160/\∀w∈jG,U w:=ye
  refine fj (inv:=λv:List Int=>v.length<=160/\v=jG++cO (v.length-jG.length) 0) (μ:=Wy kind l) ⟨by rw[eb];exact q1,by rw[eb];simp⟩ (cN _) λv0 ⟨a1,a2⟩=>?_
  have a3:jG.length<=v0.length:=by rw[a2,lA];omega
  refine ab (λhb=>?_) (λhb=>?_)
  ·have hb:=oY hb
   refine ax (dY (by omega)) (ez ?_)
   show(_/\_)/\(_:Nat)<_
   refine⟨⟨by rw[lA,cY];omega,?_⟩,by show 160-(v0++[0]).length<160-v0.length;rw[lA,cY];omega⟩
   show v0++[0]=jG++cO ((v0++[0]).length-jG.length) 0
   rw[lA,cY,show v0.length+1-jG.length=(v0.length-jG.length)+1 by omega,List.replicate_succ',<-aM,<-a2]
  ·have hb:=oN hb
   have hv:v0=te:=by
    unfold te
    rw[show(160:Nat)=v0.length by omega]
    exact a2
   subst hv
   have hp:=xf
   have Wz:∀w∈te,U w:=λw hw=>(List.mem_append.1 hw).elim (q2 w) (BB _ w)
   refine cy (yd l hl) λx2 ⟨b1,b2⟩=>ax (dY (by omega)) ?_
   have hu:∀w∈te++x2,U w:=λw hw=>(List.mem_append.1 hw).elim (Wz w) (b2 w)
   have hlen:(te++x2).length<=256:=by rw[lA];omega
   refine ab (λhb=>?_) (λhb=>?_)
   ·have hb:=oY hb;omega
   ·have nw:=Tree.pp (BD _ hu hlen)
    refine c7 nw.1 (aq λx3 h3=>?_)
    have c1:ry 8 x3.1:=by rw[h3];exact nw.2.1
    have rn:=Tree.pp (zah c1)
    refine ab (λ_=>c7 rn.1 (aq λx4 hx=>?_)) (λ_=>c1)
    have e:x3=kS 8 4 (te++(x2++cO (96-x2.length) 0)):=by
     rw[h3]
     have H8:(x2++cO (96-x2.length) (0:Int)).length=96:=by rw[lA,cS];omega
     refine qf _ _ hlen (by rw[lA,H8];omega) ?_
     rw[lA,lA,H8,hp,aM,aM,aM,show 256-(160+96)=0 by omega,show 256-(160+x2.length)=96-x2.length by omega]
     simp
    have h0:x4.2.2.2=0:=by
     rw[hx,e]
     exact qZ _ (by rw[lA,cS];omega)
    exact(by rw[hx];exact rn.2:x4.2.2.2=0->ry 8 x4.1) h0
 ·have hk:=oN hk
  refine cy (yd l hl) λx2 ⟨b1,b2⟩=>ax (dY (by omega)) ?_
  refine ab (λhb=>?_) (λhb=>?_)
  ·have hb:=oY hb;omega
  ·have nw:=Tree.pp (BD _ b2 (by omega))
   refine c7 nw.1 (aq λx3 h3=>?_)
   have c1:ry 8 x3.1:=by rw[h3];exact nw.2.1
   exact ab (λh=>absurd (eq_of_beq h) (by omega)) (λ_=>c1)
def out(f:Int)(m m':List Int):Prop:=∀j:Nat,¬(f*32<=j/\(j:Int)<f*32+32)->m'.getD j 0=m.getD j 0
theorem WA(f:Int)(m:List Int):out f m m:=λ_ _=>rfl
theorem uZ(l:List Int)(i j:Nat)(v:Int)(h:i≠j):(l.set i v).getD j 0=l.getD j 0:=by
 simp only[cX,List.getElem?_set_ne h]
theorem tZ{m:List Int}(h:ej P m):jL m=P:=by
 obtain⟨h1,h2,h3,_⟩:=h
 simp only[jL,Gf,Tree.m]
 have e:(m.length:Int)=32*P:=by omega
 rw[e]
 have e1:(cZ (32*(P:Int)) 32 !=0)=false:=by simp[Int.mul_tmod_right]
 have e2:decide ((32*(P:Int))>1024)=false:=dN (by omega)
 rw[e1,e2]
 simp only[cond_false]
 rw[Int.mul_tdiv_cancel_left _ (by decide),wrap_i64];omega
theorem xZ{m:List Int}(h:ej P m)(f:Int):Ef m f=true->0<=f/\f<P:=by
 have hp:=tZ h
 simp only[Ef,Kt,Tree.m,ee,hp]
 cases h1:decide (f>=0)
 ·intro h;cases h
 ·intro h;exact⟨oY h1,oY h⟩
theorem zf{m:List Int}(h:ej P m)(f:Int)(s:List UInt8):(H9 m f s).w (λr=>ej P r.1/\out f m r.1/\(r.2=false->r.1=m)):=by
 have jg:ko m=m:=rfl
 have h2:=h.p2
 unfold H9
 refine c7 (Gg h) (aq λx0 nG=>aq λx1 oQ=>?_)
 rw[jg]at nG;subst nG
 refine ab (λ_=>⟨h,WA _ _,λ_=>rfl⟩) λhb=>ab (λ_=>⟨h,WA _ _,λ_=>rfl⟩) λhs=>?_
 have hb:x1=true:=by simpa using hb
 obtain⟨f0,f1⟩:=xZ h f (oQ.symm.trans hb)
 have hs:(s.length:Int)=128:=by simpa using hs
 refine fj (inv:=λz:Int×List Int=>0<=z.1/\z.1<=32/\ej P z.2/\out f x0 z.2) (μ:=WB x0 f s) ⟨show(0:Int)<=0 by decide,show(0:Int)<=32 by decide,h,WA _ _⟩ (cN _) λz ⟨z1,z2,z3,z4⟩=>?_
 refine ab (λhb=>?_) (λ_=>⟨z3,z4,λh=>by cases h⟩)
 have hb:=oY hb
 have e1:i64.wrap (4*z.1)=4*z.1:=by rw[wrap_i64];omega
 have e2:i64.wrap (i64.wrap (4*z.1)+4)=4*z.1+4:=by rw[wrap_i64,wrap_i64];omega
 have e3:i64.wrap (i64.wrap (f*32)+z.1)=f*32+z.1:=by rw[wrap_i64,wrap_i64];omega
 have hl:=z3.len
 have hlen:(cU (dA (i64.wrap (i64.wrap (4*z.1)+4))-dA (i64.wrap (4*z.1))) (cV (dA (i64.wrap (4*z.1))) s)).length=4:=by
  rw[e2,e1,aD,aG];omega
 refine ax (dY (by rw[e2,e1];omega)) ?_
 refine ax (dY (by rw[hlen];decide)) (ax (dY (by rw[hlen];decide)) (ax (dY (by rw[hlen];decide)) (ax (dY (by rw[hlen];decide)) (ax (by rw[e3];simp[bN];omega) (ez ?_)))))
 show(_/\_/\ej P (dB _ _ _)/\out f x0 (dB _ _ _))/\(_:Nat)<_
 have ew:i64.wrap (z.1+1)=z.1+1:=by rw[wrap_i64];omega
 rw[e3]
 refine⟨⟨by rw[ew];omega,by rw[ew];omega,⟨by rw[dC];exact hl,z3.p1,z3.p2,Eg z3.u (nu _ _) _⟩,λj hj=>?_⟩,by show(32-i64.wrap (z.1+1)).toNat<(32-z.1).toNat;rw[ew];omega⟩
 rw[uZ _ _ _ _ (by omega)]
 exact z4 j hj
theorem xaB(w:List Int)(h:w.length<=32):(Eh w).w (λr=>r.length=4*w.length):=by
 have e0:i64.wrap (4*(w.length:Int))=4*w.length:=by rw[wrap_i64];omega
 unfold Eh
 refine ax (by rw[e0];simp[bN,D.plain];omega) ?_
 refine fj (inv:=λz:Int×List Int=>0<=z.1/\z.1<=w.length/\(z.2.length:Int)=4*z.1) (μ:=Nj w) ⟨by decide,by show(0:Int)<=w.length;omega,rfl⟩ (cN _) λz ⟨z1,z2,z3⟩=>?_
 refine ab (λhb=>?_) (λhb=>?_)
 ·have hb:=oY hb
  have ew:i64.wrap (z.1+1)=z.1+1:=by rw[wrap_i64];omega
  refine ax (by simp[bN];omega) (ax (dY (by omega)) (ez ?_))
  show(_/\_/\_)/\(_:Nat)<_
  refine⟨⟨by rw[ew];omega,by rw[ew];omega,by rw[ew,lA];simp only[dD,dE];omega⟩,by show(w.length-i64.wrap (z.1+1)).toNat<(w.length-z.1).toNat;rw[ew];omega⟩
 ·have hb:=oN hb
  show(bytesOf z.2).length=_
  rw[Nk];omega
theorem yf{m:List Int}(h:ej P m)(f:Int):(Dl m f).w (λr=>0<=f->f<P->r.1.length=128):=by
 have hl:=h.len
 have h2:=h.p2
 unfold Dl
 refine aq λx0 nG=>ab (λhb=>λf0 f1=>?_) (λhb=>?_)
 ·have hp:=tZ h
  have hb:x0=false:=by simpa using hb
  rw[hb]at nG
  simp only[Ef,Kt,Tree.m,ee,hp]at nG
  rw[dY f0]at nG
  exact absurd f1 (oN nG.symm)
 ·have hb:x0=true:=by simpa using hb
  obtain⟨f0,f1⟩:=xZ h f (nG.symm.trans hb)
  have e1:i64.wrap (f*32)=f*32:=by rw[wrap_i64];omega
  have e2:i64.wrap (i64.wrap (f*32)+32)=f*32+32:=by rw[wrap_i64,wrap_i64];omega
  have hlen:(cU (dA (i64.wrap (i64.wrap (f*32)+32))-dA (i64.wrap (f*32))) (cV (dA (i64.wrap (f*32))) m)).length=32:=by
   rw[e2,e1,aD,aG];omega
  refine ax (by rw[e2,e1];simp[bN];omega) ?_
  refine c7 (by show dF _<=1000000000000;rw[hlen];decide) (aq λx1 h1=>?_)
  have h1:x1.length=4*(cU (dA (i64.wrap (i64.wrap (f*32)+32))-dA (i64.wrap (f*32))) (cV (dA (i64.wrap (f*32))) m)).length:=by rw[h1];exact(Tree.pp (xaB _ (dG hlen))).2
  intro _ _
  show x1.length=128
  rw[h1,hlen]
theorem zZ(hf:U f)(hP:P<=32)(h:decide (u64.wrap f<u64.wrap (P:Int))=true):0<=f/\f<P:=by
 have h:=oY h
 obtain⟨h1,h2⟩:=hf
 rw[wrap_u64,wrap_u64,dH h1 (by omega),dH (by omega) (by omega)]at h
 exact⟨h1,h⟩
theorem yZ(m:bd):u0 m=(AD m.B2&&(AE m.B8&&(pT m.B5 (jL m.Mem)&&(u5 m.D2 (jL m.Mem)&&AF m.A6 (jL m.Mem))))):=by
 simp only[u0,Gh,Tree.m,ee]
 cases AD m.B2<;>cases AE m.B8<;>cases pT m.B5 (jL m.Mem)<;>cases u5 m.D2 (jL m.Mem)<;>rfl
def chain(b1 b2 b3 b4 b5 b6 b7 w h dev:Bool):Bool:=bif b1 then false else bif b2 then false else bif b3 then false else bif b4 then false else bif b5 then false else bif b6 then false else bif b7 then false else bif w then(bif h then false else dev)else dev
def Nl(p:Int)(c:bq)(ct:Int)(w h dev:Bool):Bool:=chain (p==0) (c.X.a0 !=0) (decide (c.C2.a0>31)) (decide (c.C2.a7>31)) (decide (c.C2.a6>255)) (cZ c.C2.a1 4 !=0) (decide (ct>1152921504606846976)) w h dev
theorem qaC(m:bd):AG m=Nl (jL m.Mem) m.B4 m.B7 m.B3 m.B6 (u0 m):=rfl
section
variable {P:Nat} {m:List Int} (h:ej P m)
include h
theorem Nn(hf:U f){b:Bool}(hx:b=Qf m f)(hb:b=true):0<=f/\f<P:=by
 have hp:=tZ h
 rw[hb]at hx
 simp only[Qf,SB,Tree.m,ee,hp]at hx
 exact zZ hf h.p2 hx.symm
theorem Gi(hf:U f){b:Bool}(hx:b=Ku m f)(hb:b=true):0<=f/\f<P:=by
 have hp:=tZ h
 rw[hb]at hx
 simp only[Ku,SC,Tree.m,ee,hp]at hx
 exact zZ hf h.p2 hx.symm
def si(P:Nat)(d d':fw):Prop:=w4 d'/\(pT d P=true->pT d' P=true)
theorem vf(hd:w4 d){cmd:Int}(hc:cmd=1\/cmd=2)(gg:Int):(Kv d m cmd gg).w (λr=>si P d r.1/\r.2.length<=1):=by
 have h2:=h.p2
 have st3:(d.C8 !=0)=false->si P d {ae:=d.ae,C9:=d.C9,Frame:=d.Frame,C8:=3,F6:=d.F6,C5:=d.C5,C6:=d.C6,C7:=d.C7}:=λhs=>by
  have hs:d.C8=0:=by simpa using hs
  refine⟨⟨hd.block,hd.frame,hd.j9,hd.ka⟩,λhm=>?_⟩
  simp only[pT,Ei,Tree.m,hs]at hm⊢
  exact hm
 have No:pT d P=true->decide (d.ae>64)=false:=λhm=>by
  cases hb:decide (d.ae>64)
  ·rfl
  ·have:pT d P=false:=by simp only[pT,Ei,Tree.m];rw[hb];rfl
   rw[this]at hm;cases hm
 unfold Kv
 refine ab (λ_=>⟨⟨hd,λh=>h⟩,bC _⟩) λhs=>ab (λ_=>⟨st3 hs,bC _⟩) λhb=>aq λx0 hx=>ab (λ_=>⟨st3 hs,bC _⟩) λhp=>?_
 have hb:=oN hb
 obtain⟨f0,f1⟩:=Nn h hd.frame hx (by simpa using hp)
 have ef:i64.wrap d.Frame=d.Frame:=by rw[wrap_i64];omega
 have e1:decide (d.C9<d.ae)=true:=dY (by omega)
 have e2:decide (i64.wrap d.Frame<(P:Int))=true:=by rw[ef];exact dY f1
 refine ab (λwZ=>cy (yf h _) λx1 h1=>?_) (λwZ=>?_)
 ·rw[ef]at h1
  have h1:=h1 f0 f1
  have wZ:=eq_of_beq wZ
  subst wZ
  refine aq λx2 _=>⟨⟨⟨hd.block,hd.frame,hd.block,hd.frame⟩,λhm=>?_⟩,aX _⟩
  simp only[pT,Ei,SD,Np,Tree.m,ee,No hm,e1,e2,h1]
  rfl
 ·have hc:cmd=1:=by
   rcases hc with h|h
   ·exact h
   ·rw[h]at wZ;exact absurd wZ (by decide)
  subst hc
  refine aq λx2 _=>⟨⟨⟨hd.block,hd.frame,hd.block,hd.frame⟩,λhm=>?_⟩,aX _⟩
  simp only[pT,Ei,SD,Np,Tree.m,ee,No hm,e1,e2]
  rfl
theorem xah(hd:w4 d)(port:Int)(hv:U v)(gg:Int):(Qj d m port v gg).w (λr=>si P d r.1/\r.2.length<=1):=by
 have du:si P d d:=⟨hd,λh=>h⟩
 have e1:∀{k:Int},(v==k)=true->i64.wrap v=k:=λhk=>by
  have:=eq_of_beq hk
  obtain⟨a,b⟩:=hv
  rw[wrap_i64];omega
 unfold Qj
 refine ab (λ_=>⟨⟨⟨hv,hd.frame,hd.j9,hd.ka⟩,λh=>h⟩,bC _⟩) λ_=>ab (λ_=>⟨⟨⟨hd.block,hv,hd.j9,hd.ka⟩,λh=>h⟩,bC _⟩) λ_=>ab (λ_=>ab (λhk=>cy (vf h hd (.inl (e1 hk)) _) λx hx=>hx) λ_=>ab (λhk=>cy (vf h hd (.inr (e1 hk)) _) λx hx=>hx) λ_=>ab (λ_=>aq λx hx=>ab (λhb=>?_) (λ_=>⟨du,bC _⟩)) (λ_=>⟨du,bC _⟩)) (λ_=>⟨du,bC _⟩)
 refine⟨⟨⟨hd.block,hd.frame,hd.j9,hd.ka⟩,λhm=>?_⟩,bC _⟩
 rw[hb]at hx
 simp only[Kw,WC,Tree.m]at hx
 cases h2:d.C8==2
 ·rw[h2]at hx
  have h3:d.C8=3:=eq_of_beq hx.symm
  simp only[pT,Ei,Tree.m,h3]at hm⊢
  exact hm
 ·have h3:d.C8=2:=eq_of_beq h2
  simp only[pT,Ei,Tree.m,h3]at hm⊢
  exact hm
def BE(P:Nat)(n n':gw):Prop:=ua n'/\(u5 n P=true->u5 n' P=true)
theorem zaC{n:gw}(hn:ua n)(gg:Int):(Kx n m gg).w (λr=>r.length<=1):=by
 have h2:=h.p2
 unfold Kx
 refine ab (λ_=>bC _) λl1=>ab (λ_=>bC _) λl2=>aq λx0 hx=>ab (λ_=>bC _) λhp=>cy (yf h _) λx1 h1=>?_
 have l1:=oN l1
 have l2:=oN l2
 obtain⟨f0,f1⟩:=Gi h hn.frame hx (by simpa using hp)
 have ef:i64.wrap n.Frame=n.Frame:=by rw[wrap_i64];omega
 rw[ef]at h1
 have h1:=h1 f0 f1
 exact ax (dY (by omega)) (aX _)
theorem xaC{n:gw}(hn:ua n)(port:Int){v:Int}(hv:U v)(gg:Int):(Ky n m port v gg).w (λr=>BE P n r.1/\r.2.length<=1):=by
 have h2:=h.p2
 have du:BE P n n:=⟨hn,λh=>h⟩
 unfold Ky
 refine ab (λ_=>⟨⟨⟨hv,hn.len,hn.buffer,hn.Gj⟩,λh=>h⟩,bC _⟩) λ_=>ab (λ_=>⟨⟨⟨hn.frame,hv,hn.buffer,hn.Gj⟩,λh=>h⟩,bC _⟩) λ_=>ab (λ_=>ab (λ_=>cy (zaC h hn _) λx hx=>⟨du,hx⟩) λ_=>ab (λ_=>aq λx hx=>ab (λhb=>ab (λnp=>ab (λnr=>?_) (λ_=>⟨du,bC _⟩)) (λ_=>⟨du,bC _⟩)) (λ_=>⟨du,bC _⟩)) λ_=>ab (λ_=>?_) (λ_=>⟨du,bC _⟩)) (λ_=>⟨du,bC _⟩)
 ·obtain⟨f0,f1⟩:=Gi h hn.frame hx hb
  have np:n.D1=false:=by simpa using np
  have nr:n.C4=false:=by simpa using nr
  have e2:decide (i64.wrap n.Frame>=(P:Int))=false:=dN (by rw[wrap_i64];omega)
  refine⟨⟨⟨hn.frame,hn.len,hn.frame,hn.Gj⟩,λhm=>?_⟩,bC _⟩
  simp only[u5,Nq,Tree.m,np,nr,e2]at hm⊢
  cases hb:(n.D4 !=0)
  ·rw[hb]at hm;exact hm
  ·rw[hb]at hm;cases hm
 ·refine⟨⟨⟨hn.frame,hn.len,hn.buffer,gd⟩,λhm=>?_⟩,bC _⟩
  simp only[u5,Nq,Tree.m]at hm⊢
  revert hm
  cases n.D1<;>cases n.C4<;>cases decide (i64.wrap n.D4>=(P:Int))<;>cases(n.D4 !=0)<;>simp
end
theorem qai(t:iT)(v:Int):AE (Nr t v)=true:=by
 simp only[Nr,SE,AE,SF,Tree.m]
 cases h:(v !=0)
 ·have:v=0:=by simpa using h
  subst this;rfl
 ·rfl
theorem Dm(k:Nat)(hk:k<=32):bb .u32 a k=a/2^k:=by
 unfold bb
 have e:min (k:Int).toNat u32.bits=k:=by show min (k:Int).toNat 32=k;omega
 have hp:(0:Int)<2^k:=dI (by decide)
 rw[e,dJ _ (dK hp)]
def Kz(x:Int)(n:Nat):Prop:=x<2^n/\(n=0\/(2:Int)^(n-1)<=x)
theorem WD(hq:q=x/2^k)(h0:0<q)(h:Kz q n):Kz x (n+k):=by
 have hp:(0:Int)<2^k:=dI (by decide)
 obtain⟨h1,h2⟩:=h
 have hn:n≠0:=λe=>by subst e;simp at h1;omega
 refine⟨?_,.inr ?_⟩
 ·rw[dL]
  have:x<(x/2^k+1)*2^k:=Int.lt_ediv_add_one_mul_self x hp
  have h3:(x/2^k+1)*2^k<=2^n*2^k:=dM (by omega) (dK hp)
  omega
 ·have h2:=h2.resolve_left hn
  have e:n+k-1=(n-1)+k:=by omega
  rw[e,dL]
  have h3:(2:Int)^(n-1)*2^k<=q*2^k:=dM h2 (dK hp)
  have h4:q*2^k<=x:=by rw[hq];exact Int.ediv_mul_le x (Int.ne_of_gt hp)
  omega
theorem xI(h:Kz x n)(hx:x<2^p):n<=p:=by
 obtain⟨h1,h2⟩:=h
 rcases h2 with h2|h2
 ·omega
 ·rcases Nat.lt_or_ge p n with bg|gr
  ·have:(2:Int)^p<=2^(n-1):=by
    have:=dO (show 0<2 by omega) (show p<=n-1 by omega)
    exact_mod_cast this
   omega
  ·exact gr
theorem Zmy(h:Kz x n)(hn:n<=p):x<2^p:=by
 have:(2:Int)^n<=2^p:=by
  have:=dO (show 0<2 by omega) hn
  exact_mod_cast this
 exact Int.lt_of_lt_of_le h.1 this
def BF(i:Nat):Bool:=match(u6 (i:Int))with
 |.ofNat n=>decide ((i:Int)<2^n)&&(Nat.beq n 0||decide ((2:Int)^(n-1)<=i))&&decide (n<=8)
 |_=>false
theorem SG(h0:0<=q)(h1:q<256):∃n:Nat,u6 q=n/\Kz q n/\n<=8:=by
 have all:List.all (cW 256) BF=true:=by kernel_rfl
 have:=List.all_eq_true.1 all q.toNat (List.mem_range.2 (by omega))
 have hq:((q.toNat:Nat):Int)=q:=by omega
 unfold BF at this
 rw[hq]at this
 split at this
 ·rename_i n hn
  simp only[aE,aT,decide_eq_true_eq]at this
  refine⟨n,hn,⟨this.1.1,?_⟩,this.2⟩
  rcases this.1.2 with h|h
  ·exact .inl (bE h)
  ·exact .inr h
 ·cases this
theorem qaD(h:U x)(hx:16777216<=x):u6 x=24+u6 (x/16777216):=by
 obtain⟨h0,h1⟩:=h
 have AH:bb .u32 x 16=x/65536:=Dm 16 (by omega)
 have ub:bb .u32 (x/65536) 8=x/16777216:=by rw[show((8:Int))=((8:Nat):Int) from rfl,Dm 8 (by omega)];omega
 have d1:decide (x>=65536)=true:=dY (by omega)
 have d2:decide (x/65536>=256)=true:=dY (by omega)
 have d3:decide (x/16777216>=65536)=false:=dN (by omega)
 have d4:decide (x/16777216>=256)=false:=dN (by omega)
 have u:u8.wrap (x/16777216)=x/16777216:=by rw[wrap_u8];omega
 simp only[u6,Dn,Tree.m,AH,ub,d1,d2,d3,d4,u,cond_true,cond_false]
 generalize(aV _ (dA (x/16777216)) (0:UInt8))=b
 have hb:=dP b
 rw[wrap_i64,wrap_i64,wrap_i64,wrap_i64]
 omega
theorem zaD(h0:65536<=x)(h1:x<16777216):u6 x=16+u6 (x/65536):=by
 have AH:bb .u32 x 16=x/65536:=Dm 16 (by omega)
 have d1:decide (x>=65536)=true:=dY (by omega)
 have d2:decide (x/65536>=256)=false:=dN (by omega)
 have d3:decide (x/65536>=65536)=false:=dN (by omega)
 have u:u8.wrap (x/65536)=x/65536:=by rw[wrap_u8];omega
 simp only[u6,Dn,Tree.m,AH,d1,d2,d3,u,cond_true,cond_false]
 generalize(aV _ (dA (x/65536)) (0:UInt8))=b
 have hb:=dP b
 rw[wrap_i64,wrap_i64,wrap_i64]
 omega
theorem Ns(h0:256<=x)(h1:x<65536):u6 x=8+u6 (x/256):=by
 have s8:bb .u32 x 8=x/256:=Dm 8 (by omega)
 have d1:decide (x>=65536)=false:=dN (by omega)
 have d2:decide (x>=256)=true:=dY (by omega)
 have d3:decide (x/256>=65536)=false:=dN (by omega)
 have d4:decide (x/256>=256)=false:=dN (by omega)
 have u:u8.wrap (x/256)=x/256:=by rw[wrap_u8];omega
 simp only[u6,Dn,Tree.m,s8,d1,d2,d3,d4,u,cond_true,cond_false]
 generalize(aV _ (dA (x/256)) (0:UInt8))=b
 have hb:=dP b
 rw[wrap_i64,wrap_i64,wrap_i64,wrap_i64]
 omega
theorem Zqq(h:U x):∃n:Nat,u6 x=n/\Kz x n:=by
 obtain⟨h0,h1⟩:=h
 rcases dQ x 256 with a|a
 ·obtain⟨n,e,l,_⟩:=SG h0 a
  exact⟨n,e,l⟩
 ·rcases dQ x 65536 with b|b
  ·obtain⟨n,e,l,_⟩:=SG (q:=x/256) (by omega) (by omega)
   exact⟨n+8,by rw[Ns a b,e];omega,WD (k:=8) rfl (by omega) l⟩
  ·rcases dQ x 16777216 with c|c
   ·obtain⟨n,e,l,_⟩:=SG (q:=x/65536) (by omega) (by omega)
    exact⟨n+16,by rw[zaD b c,e];omega,WD (k:=16) rfl (by omega) l⟩
   ·obtain⟨n,e,l,_⟩:=SG (q:=x/16777216) (by omega) (by omega)
    exact⟨n+24,by rw[qaD ⟨h0,h1⟩ c,e];omega,WD (k:=24) rfl (by omega) l⟩
theorem Nt(h:U b.D0):AF b P=true↔b.D0<2^P:=by
 obtain⟨n,e,l⟩:=Zqq h
 have hp:(if(0:Int)>(P:Int)then(0:Int)else P)=P:=by rw[if_neg (by omega)]
 simp only[AF,Ia,Tree.m,ee,e,hp,decide_eq_true_eq]
 constructor
 ·intro h;exact Zmy l (by omega)
 ·intro h;have:=xI l h;omega
theorem WE(h:U a)(h1:a<2^P):(dR 32 a).toNat<2^P:=by
 obtain⟨a0,a1⟩:=h
 rw[dS,dH a0 (by omega)]
 have:((2^P:Nat):Int)=(2:Int)^P:=by exact_mod_cast rfl
 omega
theorem Nu{a b:Int}(ha:U a)(hb:U b)(hP:P<=32)(h1:a<2^P)(h2:b<2^P):iH .u32 a b<2^P:=by
 have e:(dR 32 a|||dR 32 b).toNat<2^P:=by
  rw[dT]
  exact Nat.or_lt_two_pow (WE ha h1) (WE hb h2)
 have hc:((2^P:Nat):Int)=(2:Int)^P:=by exact_mod_cast rfl
 have l:=(dR 32 a|||dR 32 b).isLt
 show wrap .u32 ((dR 32 a|||dR 32 b).toNat:Int)<2^P
 rw[wrap_u32]
 omega
theorem zai{a b:Int}(ha:U a)(h1:a<2^P):oD .u32 a b<2^P:=by
 have e:(dR 32 a&&&~~~dR 32 b).toNat<2^P:=by
  rw[dU]
  exact Nat.lt_of_le_of_lt dV (WE ha h1)
 have hc:((2^P:Nat):Int)=(2:Int)^P:=by exact_mod_cast rfl
 have l:=(dR 32 a&&&~~~dR 32 b).isLt
 show wrap .u32 ((dR 32 a&&&~~~dR 32 b).toNat:Int)<2^P
 rw[wrap_u32]
 omega
theorem qg(h0:0<=v)(h1:v<32):ep .u32 1 v=2^v.toNat:=by
 have e:min v.toNat u32.bits=v.toNat:=by show min v.toNat 32=v.toNat;omega
 obtain⟨n,rfl⟩:∃n:Nat,v=n:=⟨v.toNat,by omega⟩
 have hn:n<32:=by omega
 have bg:(2:Nat)^n<4294967296:=by
  have:=dW (show 1<2 by omega) hn
  simpa using this
 have hc:((2^n:Nat):Int)=(2:Int)^n:=by exact_mod_cast rfl
 unfold ep
 rw[e,wrap_u32,Int.one_mul,dX,<-hc]
 clear hc e
 generalize(2:Nat)^n=z at*
 omega
def BG(P:Nat)(b b':gl):Prop:=okB b'/\(AF b P=true->AF b' P=true)
theorem Zs7{m:List Int}(h:ej P m)(hb:okB b)(port:Int)(hv:U v):(Dp b m port v).w (λr=>BG P b r.1/\ej P r.2):=by
 have jg:ko m=m:=rfl
 have h2:=h.p2
 have hp:=tZ h
 have du:(Tree.an (nH m) (.lv (ko m) λx=>.lf (b,x))).w (λr=>BG P b r.1/\ej P r.2):=c7 (Gg h) (aq λx hx=>by rw[jg]at hx;subst hx;exact⟨⟨hb,λh=>h⟩,h⟩)
 unfold Dp
 refine ab (λ_=>du) λbg=>ax (dY hv.1) (ab (λ_=>aq λx1 hx=>ab (λIb=>ab (λ_=>c7 ⟨by decide,by decide,by decide⟩ (aq λx2 _=>cy (zf h _ _) λx3 ⟨h3,_⟩=>?_)) (λ_=>du)) (λ_=>du)) (λ_=>ab (λ_=>c7 (Gg h) (aq λx hx=>?_)) (λ_=>du)))
 ·have bg:=oN bg
  have Ib:=oY Ib
  rw[hx,hp]at Ib
  obtain⟨v0,v1⟩:=hv
  have ev:i64.wrap v=v:=by rw[wrap_i64];omega
  rw[ev]at Ib
  refine⟨⟨⟨hb.1,fk _⟩,λhm=>?_⟩,h3⟩
  rw[Nt hb.2]at hm
  rw[Nt (fk _)]
  have hs:ep .u32 1 v<2^P:=by
   rw[qg v0 (by omega)]
   have:=dW (show 1<2 by omega) (show v.toNat<P by omega)
   exact_mod_cast this
  exact Nu hb.2 (fk _) h2 hm hs
 ·rw[jg]at hx;subst hx
  refine⟨⟨⟨hb.1,fk _⟩,λhm=>?_⟩,h⟩
  rw[Nt hb.2]at hm
  rw[Nt (fk _)]
  exact zai hb.2 hm
structure kept(P:Nat)(m n:bd):Prop where
 ok:w5 P n
 dev:u0 m=true->u0 n=true
 nZ:n.B4=m.B4
 th:n.B7=m.B7
 wait:n.B3=m.B3
 halt:n.B6=m.B6
theorem Zi7{m:bd}(h:w5 P m):kept P m m:=⟨h,λh=>h,rfl,rfl,rfl,rfl⟩
theorem Ic{m n:bd}(hm:ej P m.Mem)(hn:ej P n.Mem)(hc:AD m.B2=true->AD n.B2=true)(ht:AE m.B8=true->AE n.B8=true)
 (hd:pT m.B5 P=true->pT n.B5 P=true) (hk:u5 m.D2 P=true->u5 n.D2 P=true) (hb:AF m.A6 P=true->AF n.A6 P=true) (h:u0 m=true):u0 n=true:=by
 rw[yZ]at h⊢
 rw[tZ hm]at h
 rw[tZ hn]
 simp only[aE]at h⊢
 exact⟨hc h.1,ht h.2.1,hd h.2.2.1,hk h.2.2.2.1,hb h.2.2.2.2⟩
theorem Zo3{m:bd}(h:w5 P m)(port:Int)(hv:U v)(gg:Int):(KA m port v gg).w (λr=>kept P m r.1/\r.2.length<=1):=by
 have k:=Zi7 h
 obtain⟨h1,h2,h3,h4,h5,h6⟩:=h
 have id:∀{p:Prop},p->p:=λh=>h
 have D:∀(x:fw×List ik),(si P m.B5 x.1/\x.2.length<=1)->kept P m {B4:=m.B4,Mem:=m.Mem,B2:=m.B2,B8:=m.B8,B5:=x.1,D2:=m.D2,A6:=m.A6,B7:=m.B7,B3:=m.B3,B6:=m.B6}/\x.2.length<=1:=λx hx=>
  ⟨⟨⟨h1,h2,hx.1.1,h4,h5,h6⟩,Ic h2 h2 id id hx.1.2 id id,rfl,rfl,rfl,rfl⟩,hx.2⟩
 have N:∀(x:gw×List ik),(BE P m.D2 x.1/\x.2.length<=1)->kept P m {B4:=m.B4,Mem:=m.Mem,B2:=m.B2,B8:=m.B8,B5:=m.B5,D2:=x.1,A6:=m.A6,B7:=m.B7,B3:=m.B3,B6:=m.B6}/\x.2.length<=1:=λx hx=>
  ⟨⟨⟨h1,h2,h3,hx.1.1,h5,h6⟩,Ic h2 h2 id id id hx.1.2 id,rfl,rfl,rfl,rfl⟩,hx.2⟩
 have B:∀(x:gl×List Int),(BG P m.A6 x.1/\ej P x.2)->kept P m {B4:=m.B4,Mem:=x.2,B2:=m.B2,B8:=m.B8,B5:=m.B5,D2:=m.D2,A6:=x.1,B7:=m.B7,B3:=m.B3,B6:=m.B6}/\([]:List ik).length<=1:=λx hx=>
  ⟨⟨⟨h1,hx.2,h3,h4,hx.1.1.1,hx.1.1.2⟩,Ic h2 hx.2 id id id id hx.1.2,rfl,rfl,rfl,rfl⟩,bC _⟩
 unfold KA
 repeat'(first
  |exact⟨k,aX _⟩
  |exact⟨k,bC _⟩
  |exact aq λx hx=>⟨⟨⟨h1,h2,h3,h4,h5,h6⟩,Ic h2 h2 id (λ_=>by rw[hx];exact qai _ _) id id id,rfl,rfl,rfl,rfl⟩,bC _⟩
  |exact cy (xah h2 h3 _ hv _) λx hx=>D x hx
  |exact cy (xaC h2 h4 _ hv _) λx hx=>N x hx
  |exact cy (Zs7 h2 ⟨h5,h6⟩ _ hv) λx hx=>B x hx
  |refine ab (λ_=>?_) (λ_=>?_))
theorem Zb8(c:iK)(port:Int):(Ie c port).w (λr=>U r.2/\(AD c=true->AD r.1=true)):=by
 have u1:U 4294967295:=⟨by omega,by omega⟩
 unfold Ie
 refine ab (λ_=>ab (λ_=>⟨u1,λh=>h⟩) (λhb=>ax ?_ (ax ?_ ⟨fk _,λhm=>?_⟩))) (λ_=>ab (λ_=>⟨fk _,λh=>h⟩) (λ_=>⟨gd,λh=>h⟩))
 ·have hb:=oN hb
  have:0<c.D9.length:=List.length_pos_iff.2 hb
  simp[bN];omega
 ·have hb:=oN hb
  have:0<c.D9.length:=List.length_pos_iff.2 hb
  exact dY (by omega)
 ·have hm:decide ((c.D9.length:Int)<=16)=true:=hm
  have hm:=oY hm
  show decide (((cU _ (cV _ c.D9)).length:Int)<=16)=true
  refine dY ?_
  rw[aD,aG];omega
theorem Zrn{m:bd}(h:w5 P m)(port:Int)(hc:U clock):(KB m port clock).w (λr=>kept P m r.1/\U r.2):=by
 have k:=Zi7 h
 obtain⟨h1,h2,h3,h4,h5,h6⟩:=h
 have id:∀{p:Prop},p->p:=λh=>h
 have ti:∀t,U (WG t):=λt=>by
  refine Tree.post (SH t) (W:=U) ?_
  unfold SH
  exact ab (λ_=>⟨by omega,by omega⟩) (λ_=>gd)
 have di:∀p,U (Nv m.B5 p):=λp=>by
  refine Tree.post (SI m.B5 p) (W:=U) ?_
  unfold SI
  exact ab (λ_=>h3.block) (λ_=>ab (λ_=>h3.frame) (λ_=>ab (λ_=>fk _) (λ_=>gd)))
 have ni:∀p,U (KC m.D2 p):=λp=>by
  refine Tree.post (Nw m.D2 p) (W:=U) ?_
  unfold Nw
  exact ab (λ_=>h4.frame) (λ_=>ab (λ_=>h4.Gj) (λ_=>ab (λ_=>ab (λ_=>ab (λ_=>fk _) (λ_=>fk _)) (λ_=>ab (λ_=>fk _) (λ_=>gd))) (λ_=>gd)))
 have bi:∀p,(Qd m.A6 p).w U:=λp=>by
  unfold Qd
  exact ab (λ_=>h5) (λ_=>ab (λ_=>cy (Zqk h6) λ_ _=>fk _) (λ_=>gd))
 have C:∀(x:iK×Int),(U x.2/\(AD m.B2=true->AD x.1=true))->kept P m {B4:=m.B4,Mem:=m.Mem,B2:=x.1,B8:=m.B8,B5:=m.B5,D2:=m.D2,A6:=m.A6,B7:=m.B7,B3:=m.B3,B6:=m.B6}/\U x.2:=λx hx=>
  ⟨⟨⟨h1,h2,h3,h4,h5,h6⟩,Ic h2 h2 hx.2 id id id id,rfl,rfl,rfl,rfl⟩,hx.1⟩
 unfold KB
 repeat'(first
  |exact⟨k,hc⟩
  |exact⟨k,gd⟩
  |exact cy (Zb8 _ _) λx hx=>C x hx
  |exact Sx (Zb8 _ _) λx hx=>C x hx
  |exact aq λx hx=>⟨k,by rw[hx];exact ti _⟩
  |exact aq λx hx=>⟨k,by rw[hx];exact di _⟩
  |exact aq λx hx=>⟨k,by rw[hx];exact ni _⟩
  |exact cy (bi _) λx hx=>⟨k,hx⟩
  |refine ab (λ_=>?_) (λ_=>?_))
structure mZ(c:bq):Prop where
 x0:c.X.a0=0
 st:c.C2.a0<=31
 en:c.C2.a7<=31
 rt:c.C2.a6<=255
 ve:cZ c.C2.a1 4=0
theorem mZ.pc(h:mZ c)(p:Int):mZ {X:=c.X,Pc:=p,C2:=c.C2}:=⟨h.x0,h.st,h.en,h.rt,h.ve⟩
theorem Gk(a:Int):ba .u32 a 31<=31:=by
 have e:(dR 32 a&&&dR 32 31).toNat<=31:=by
  rw[dU]
  exact Nat.le_trans Nat.and_le_right (by decide)
 show wrap .u32 ((dR 32 a&&&dR 32 31).toNat:Int)<=31
 rw[wrap_u32];omega
theorem Ej(a:Int):ba .u32 a 255<=255:=by have:=BH a;omega
theorem Nx(a:Int):cZ (oD .u32 a 3) 4=0:=by
 have e:(dR 32 a&&&~~~dR 32 3).toNat%4=0:=by
  rw[dU,show(~~~dR 32 3).toNat=4294967292 by decide]
  have:=Nat.and_mod_two_pow (a:=(dR 32 a).toNat) (b:=4294967292) (n:=2)
  simpa using this
 have l:=(dR 32 a&&&~~~dR 32 3).isLt
 show cZ (wrap .u32 ((dR 32 a&&&~~~dR 32 3).toNat:Int)) 4=0
 rw[wrap_u32,dZ (by omega)]
 omega
theorem Gl{f:Int->Int}(h:(cW 32).all (λn=>decide (f n<=31))=true){s:Int}(h0:0<=s)(h1:s<=31):f s<=31:=by
 have:=List.all_eq_true.1 h s.toNat (List.mem_range.2 (by omega))
 have e:((s.toNat:Nat):Int)=s:=by omega
 rw[e]at this
 exact oY this
theorem Ig(h:iI c)(m:mZ c)(k b:Int):mZ (pU c k b):=
 ⟨m.x0,Gl (f:=λs=>oD .u32 (iH .u32 (w6 (w6 s 1 8) 2 16) 1) 2) (by kernel_rfl) h.a0.1 m.st,m.en,m.rt,m.ve⟩
theorem Zsf(h:iI c)(m:mZ c):mZ (KD c):=
 ⟨m.x0,Gl (f:=λs=>w6 (w6 s 8 1) 16 2) (by kernel_rfl) h.a0.1 m.st,m.en,m.rt,m.ve⟩
theorem KE(m:mZ c)(hr:0<=r/\r<16)(v:Int):(Ek c r v).w mZ:=by
 unfold Ek
 refine ab (λhn=>ax (rc hr) ?_) (λ_=>m)
 have hn:r≠0:=by simpa using hn
 obtain⟨n,e⟩:∃n:Nat,r.toNat=n+1:=⟨r.toNat-1,by omega⟩
 refine⟨?_,m.st,m.en,m.rt,m.ve⟩
 show(iv.of 0 (dB (iv.l c.X) r.toNat v)).a0=0
 rw[e]
 exact m.x0
theorem xg(m:mZ c)(k v:Int):(Ih c k v).w mZ:=by
 unfold Ih
 refine ab (λhk=>ax (by rw[eq_of_beq hk];decide) ?_) λ_=>ab (λhk=>ax (by rw[eq_of_beq hk];decide) ?_) λ_=>ab (λhk=>ax (by rw[eq_of_beq hk];decide) ?_) λ_=>ab (λhk=>ax (by rw[eq_of_beq hk];decide) ?_) λ_=>ab (λhk=>ax (by rw[eq_of_beq hk];decide) ?_) λ_=>ab (λhk=>ax (by rw[eq_of_beq hk];decide) ?_) λ_=>ab (λhk=>ax (by rw[eq_of_beq hk];decide) ?_) λ_=>ab (λhk=>ax (by rw[eq_of_beq hk];decide) ?_) (λ_=>m)
 all_goals(have hk:=eq_of_beq hk;subst hk)
 ·exact⟨m.x0,Gk _,m.en,m.rt,m.ve⟩
 ·exact⟨m.x0,m.st,Gk _,m.rt,m.ve⟩
 ·exact⟨m.x0,m.st,m.en,Ej _,m.ve⟩
 ·exact⟨m.x0,m.st,m.en,m.rt,Nx _⟩
 ·exact⟨m.x0,m.st,m.en,m.rt,m.ve⟩
 ·exact⟨m.x0,m.st,m.en,m.rt,m.ve⟩
 ·exact⟨m.x0,m.st,m.en,m.rt,m.ve⟩
 ·exact⟨m.x0,m.st,m.en,m.rt,m.ve⟩
section
variable {c:bq} (h:iI c) (m:mZ c) {i:gv} (hi:sj i)
include h m hi
theorem Znu:(El c i).w (λr=>mZ r.1):=by
 unfold El
 refine ax (rc hi.a) (ax (rc hi.b) ?_)
 repeat'(first
  |refine ab (λ_=>?_) (λ_=>?_)
  |exact cy (KE m hi.a _) λx hx=>hx.pc _
  |exact aq λx _=>ab (λ_=>m.pc _) (λ_=>m.pc _)
  |exact aq λx hx=>by rw[hx];exact Ig h m _ _
  |exact aq λx hx=>by rw[hx];exact Zsf h m
  |exact ax (by have:=hi.jj (by simp_all);simp[bN];omega) (cy (KE m hi.a _) λx hx=>hx.pc _)
  |exact cy (xg m _ _) λx hx=>hx.pc _
  |refine ax (rc hi.c) ?_
  |exact cy (KF _ (h.r _) (fk _)) λy hy=>cy (KE m hi.a _) λx hx=>hx.pc _
  |exact cy (KF _ (h.r _) (h.r _)) λy hy=>cy (KE m hi.a _) λx hx=>hx.pc _
  |refine bh ?_)
 all_goals exact m.pc _
theorem zI(hm:ej P mem):(Ii c mem i).w (λr=>mZ r.1):=by
 have w:=SJ i.Op
 unfold Ii
 refine ax (rc hi.b) (aq λx0 h0=>?_)
 rw[<-h0]at w
 refine cy (Ny hm (fk _) w 2) λx1 h1=>ab (λ_=>aq λy hy=>by rw[hy];exact Ig h m _ _) (λ_=>aq λx3 h3=>?_)
 rw[h0,<-h3]at w
 exact cy (Ij h1.2 h1.1 w) λx4 h4=>ab (λ_=>cy (WH h4.1 8) λy hy=>cy (KE m hi.a _) λx hx=>hx.pc _) (λ_=>cy (KE m hi.a _) λx hx=>hx.pc _)
theorem zg(hm:ej P mem):(Ik c mem i).w (λr=>mZ r.1):=by
 have w:=SJ i.Op
 unfold Ik
 refine ax (rc hi.b) (aq λx0 h0=>?_)
 rw[<-h0]at w
 refine cy (Ny hm (fk _) w 3) λx1 h1=>ab (λ_=>aq λy hy=>by rw[hy];exact Ig h m _ _) (λ_=>aq λx3 h3=>ax (rc hi.a) ?_)
 rw[h0,<-h3]at w
 exact cy (SK h1.2 h1.1 w (h.r _)) λx hx=>m.pc _
end
theorem yI(h:iI c)(m:mZ c)(hm:ej P mem):(Em c mem).w (λr=>mZ r.1):=by
 unfold Em
 refine cy (WI hm h) λx0 h0=>ab (λ_=>aq λy hy=>by rw[hy];exact Ig h m _ _) (λ_=>cy (WJ _) λx2 h2=>ab (λ_=>aq λy hy=>by rw[hy];exact Ig h m _ _) (λhb=>?_))
 have hi:=h2 (by simpa using hb)
 refine aq λx4 _=>?_
 repeat'(first
  |refine ab (λ_=>?_) (λ_=>?_)
  |exact cy (zI h m hi h0.2) λx hx=>hx
  |exact cy (zg h m hi h0.2) λx hx=>hx
  |exact cy (Znu h m hi) λx hx=>hx
  |exact aq λy hy=>by rw[hy];exact Ig h m _ _
  |refine aq λ_ _=>?_)
theorem Zmu(h:iI c){i:gv}(hi:sj i):(El c i).w (λr=>0<=r.2.F8/\r.2.F8<16):=by
 have z:(0:Int)<=0/\(0:Int)<16:=⟨by decide,by decide⟩
 unfold El
 refine ax (rc hi.a) (ax (rc hi.b) ?_)
 repeat'(first
  |refine ab (λ_=>?_) (λ_=>?_)
  |exact cy (Dq h hi.a (fk _)) λx hx=>z
  |exact aq λx _=>ab (λ_=>z) (λ_=>z)
  |exact aq λx hx=>z
  |exact ax (by have:=hi.jj (by simp_all);simp[bN];omega) (cy (Dq h hi.a (h.a _)) λx hx=>z)
  |exact cy (Zpg h _ (h.r _)) λx hx=>z
  |refine ax (rc hi.c) ?_
  |exact cy (KF _ (h.r _) (fk _)) λy hy=>cy (Dq h hi.a hy) λx hx=>z
  |exact cy (KF _ (h.r _) (h.r _)) λy hy=>cy (Dq h hi.a hy) λx hx=>z
  |refine bh ?_)
 all_goals first|exact z|exact hi.a
theorem Zp3(h:iI c)(hm:ej P mem):(Em c mem).w (λr=>0<=r.2.2.F8/\r.2.2.F8<16):=by
 have z:(0:Int)<=0/\(0:Int)<16:=⟨by decide,by decide⟩
 unfold Em
 refine cy (WI hm h) λx0 h0=>ab (λ_=>aq λy hy=>z) (λ_=>cy (WJ _) λx2 h2=>ab (λ_=>aq λy hy=>z) (λhb=>?_))
 have hi:=h2 (by simpa using hb)
 refine aq λx4 _=>?_
 repeat'(first
  |refine ab (λ_=>?_) (λ_=>?_)
  |exact cy (Z70 h hi h0.2) λx hx=>z
  |exact cy (Z27 h hi h0.2) λx hx=>z
  |exact cy (Zmu h hi) λx hx=>hx
  |exact aq λy hy=>z
  |refine aq λ_ _=>?_)
theorem mJ{a x:Bool}:(bif a then false else x)=true↔a=false/\x=true:=by cases a<;>simp
theorem KG(m:bd):AG m=true↔jL m.Mem≠0/\mZ m.B4/\m.B7<=1152921504606846976/\¬(m.B3=true/\m.B6=true)/\u0 m=true:=by
 rw[qaC]
 unfold Nl chain
 rw[mJ,mJ,mJ,mJ,mJ,mJ,mJ]
 simp only[decide_eq_false_iff_not,Int.not_lt,beq_eq_false_iff_ne,bne_eq_false_iff_eq,gt_iff_lt]
 constructor
 ·rintro⟨a1,a2,a3,a4,a5,a6,a7,a8⟩
  refine⟨a1,⟨a2,a3,a4,a5,a6⟩,a7,?_,?_⟩
  ·rintro⟨w,h⟩;rw[w,h]at a8;cases a8
  ·revert a8;cases m.B3
   ·exactλh=>h
   ·cases m.B6
    ·exactλh=>h
    ·intro h;cases h
 ·rintro⟨a1,⟨a2,a3,a4,a5,a6⟩,a7,a8,a9⟩
  refine⟨a1,a2,a3,a4,a5,a6,a7,?_⟩
  rw[a9]
  cases hw:m.B3
  ·rfl
  ·cases hh:m.B6
   ·rfl
   ·exact absurd ⟨hw,hh⟩ a8
theorem Zqa{m:bd}(h:En m=true):AG m=true/\m.B6=false/\m.B7<1152921504606846976:=by
 simp only[En,Il,Tree.m,ee]at h
 cases h1:AG m
 ·rw[h1]at h;cases h
 ·cases h2:m.B6
  ·rw[h1,h2]at h
   cases h3:SL m
   ·rw[h3]at h
    have h:decide (m.B7<1152921504606846976)=true:=h
    exact⟨rfl,rfl,oY h⟩
   ·rw[h3]at h;cases h
  ·rw[h1,h2]at h;cases h
theorem Zl5{m:bd}(h:w5 P m)(g:mZ m.B4):(KH m).w (λr=>mZ r.B4/\w5 P r/\r.Mem=m.Mem/\r.B3=false/\r.B6=m.B6/\r.B7=m.B7/\r.B2=m.B2/\r.B8=m.B8/\r.B5=m.B5/\r.D2=m.D2/\r.A6=m.A6):=by
 obtain⟨h1,h2,h3,h4,h5,h6⟩:=h
 unfold KH
 refine ab (λ_=>⟨g,⟨h1,h2,h3,h4,h5,h6⟩,rfl,rfl,rfl,rfl,rfl,rfl,rfl,rfl,rfl⟩) (λ_=>cy (Zbh (m:=⟨_,_,_,_,_,_,m.A6,_,_,_⟩) h6) λx0 _=>fj (inv:=λz=>0<=z/\z<=5) (μ:=Qk8 m) ⟨by omega,by omega⟩ (cN _) (λz hz=>?_))
 obtain⟨z1,z2⟩:=hz
 refine ab (λhb=>ax (dY z1) (ab (λ_=>aq λx1 hx=>⟨by rw[hx];exact Ig h1 g _ _,⟨by rw[hx];exact Im h1 _ gd,h2,h3,h4,h5,h6⟩,rfl,rfl,rfl,rfl,rfl,rfl,rfl,rfl,rfl⟩) (λ_=>ez ?_))) (λ_=>⟨g,⟨h1,h2,h3,h4,h5,h6⟩,rfl,rfl,rfl,rfl,rfl,rfl,rfl,rfl,rfl⟩)
 have hb:=oY hb
 show(0<=i64.wrap (z+1)/\i64.wrap (z+1)<=5)/\(5-i64.wrap (z+1)).toNat<(5-z).toNat
 have ew:i64.wrap (z+1)=z+1:=by rw[wrap_i64];omega
 rw[ew];omega
structure Good(P:Nat)(m r:bd):Prop where
 ok:w5 P r
 th:0<=r.B7
 may:AG m=true->AG r=true
 or:r=m\/r.B7=m.B7+1
theorem WK{m:bd}(h:w5 P m)(FZ:0<=m.B7)(hk:U clock):(Nz m clock).w (λr=>r.2.length<=1/\Good P m r.1):=by
 have jg:ko m.Mem=m.Mem:=rfl
 unfold Nz
 refine c7 (Gg h.mem) (aq λl hl=>?_)
 rw[jg]at hl;subst hl
 refine c7 (Tree.pp (xax (m:=⟨_,_,_,_,_,_,m.A6,_,_,_⟩) h.given)).1 (aq λx1 oQ=>ab (λ_=>⟨bC _,h,FZ,λh=>h,.inl rfl⟩) (λhb=>?_))
 have hr:En m=true:=by rw[<-show x1=En m from oQ];simpa using hb
 obtain⟨hm,hh,hct⟩:=Zqa hr
 obtain⟨g1,g2,g3,g4,g5⟩:=(KG m).1 hm
 have hP:(P:Int)≠0:=by rw[<-tZ h.mem];exact g1
 have fin:∀(n:bd),w5 P n->mZ n.B4->u0 n=true->n.B7=m.B7->¬(n.B3=true/\n.B6=true)->Good P m {B4:=n.B4,Mem:=n.Mem,B2:=n.B2,B8:=n.B8,B5:=n.B5,D2:=n.D2,A6:=n.A6,B7:=wrap .u64 (n.B7+1),B3:=n.B3,B6:=n.B6}:=λn a b c d e=>by
  have ec:wrap .u64 (n.B7+1)=m.B7+1:=by rw[d,wrap_u64];omega
  refine⟨⟨a.nZ,a.mem,a.lZ,a.u7,a.target,a.given⟩,?_,λ_=>(KG _).2 ⟨?_,b,?_,e,c⟩,.inr ec⟩
  ·show 0<=wrap .u64 (n.B7+1);omega
  ·show jL n.Mem≠0;rw[tZ a.mem];exact hP
  ·show wrap .u64 (n.B7+1)<=_;omega
 refine cy (Zl5 (m:=⟨_,_,m.B2,m.B8,m.B5,m.D2,m.A6,m.B7,m.B3,m.B6⟩) ⟨h.nZ,h.mem,h.lZ,h.u7,h.target,h.given⟩ g2) λx2 Io=>?_
 obtain⟨b1,b2,b3,b4,b5,b6,b7,b8,b9,b10,b11⟩:=Io
 have ex:=Tree.pp (qax b2.nZ b2.mem)
 have em:=Tree.pp (yI b2.nZ b1 b2.mem)
 have er:=Tree.pp (Zp3 b2.nZ b2.mem)
 refine c7 ex.1 (aq λx3 h3=>?_)
 obtain⟨e1,e2,e3⟩:iI x3.1/\ej P x3.2.1/\U x3.2.2.Value:=by rw[h3];exact ex.2
 have f1:mZ x3.1:=by rw[h3];exact em.2
 have r1:0<=x3.2.2.F8/\x3.2.2.F8<16:=by rw[h3];exact er.2
 have WL:w5 P ⟨x3.1,x3.2.1,x2.B2,x2.B8,x2.B5,x2.D2,x2.A6,x2.B7,x2.B3,x2.B6⟩:=⟨e1,e2,b2.lZ,b2.u7,b2.target,b2.given⟩
 have dev:∀(w h:Bool),u0 ⟨x3.1,x3.2.1,x2.B2,x2.B8,x2.B5,x2.D2,x2.A6,x2.B7,w,h⟩=true:=λw hh=>by
  have id:∀{p:Prop},p->p:=λh=>h
  refine Ic (m:=m) (P:=P) h.mem e2 ?_ ?_ ?_ ?_ ?_ g5
  ·show _->AD x2.B2=true;rw[b7];exact id
  ·show _->AE x2.B8=true;rw[b8];exact id
  ·show _->pT x2.B5 P=true;rw[b9];exact id
  ·show _->u5 x2.D2 P=true;rw[b10];exact id
  ·show _->AF x2.A6 P=true;rw[b11];exact id
 have hw:x2.B3=false:=b4
 have hh2:x2.B6=false:=b5.trans hh
 have BI:x2.B7=m.B7:=b6
 refine ab (λ_=>?_) λ_=>ab (λ_=>?_) λ_=>ab (λ_=>?_) λ_=>ab (λ_=>?_) λ_=>?_
 ·refine cy (Zrn WL _ hk) λx4 h4=>?_
  obtain⟨k,u⟩:=h4
  have kc:x4.1.B4=x3.1:=k.nZ
  have kt:x4.1.B7=m.B7:=k.th.trans BI
  have kw:¬(x4.1.B3=true/\x4.1.B6=true):=λe=>by have:x4.1.B3=x2.B3:=k.wait;rw[this,hw]at e;cases e.1
  have km:mZ x4.1.B4:=by rw[kc];exact f1
  refine ab (λhn=>ax (rc r1) ⟨bC _,?_⟩) (λ_=>⟨bC _,fin x4.1 k.ok km (k.dev (dev _ _)) kt kw⟩)
  have hn:x3.2.2.F8≠0:=by simpa using hn
  obtain⟨q,e⟩:∃q:Nat,x3.2.2.F8.toNat=q+1:=⟨x3.2.2.F8.toNat-1,by omega⟩
  refine fin ⟨⟨iv.of 0 (dB (iv.l x4.1.B4.X) x3.2.2.F8.toNat x4.2),x4.1.B4.Pc,x4.1.B4.C2⟩,x4.1.Mem,x4.1.B2,x4.1.B8,x4.1.B5,x4.1.D2,x4.1.A6,x4.1.B7,x4.1.B3,x4.1.B6⟩ ⟨⟨WM k.ok.nZ.x u _,k.ok.nZ.pc,k.ok.nZ.jj⟩,k.ok.mem,k.ok.lZ,k.ok.u7,k.ok.target,k.ok.given⟩ ⟨?_,km.st,km.en,km.rt,km.ve⟩ (k.dev (dev _ _)) kt kw
  show(iv.of 0 (dB (iv.l x4.1.B4.X) x3.2.2.F8.toNat x4.2)).a0=0
  rw[e]
  exact km.x0
 ·refine cy (Zo3 WL _ e3 _) λx5 h5=>?_
  obtain⟨k,u⟩:=h5
  have kc:x5.1.B4=x3.1:=k.nZ
  exact⟨u,fin x5.1 k.ok (by rw[kc];exact f1) (k.dev (dev _ _)) (k.th.trans BI) (λe=>by have:x5.1.B3=x2.B3:=k.wait;rw[this,hw]at e;cases e.1)⟩
 ·exact⟨bC _,fin ⟨x3.1,x3.2.1,x2.B2,x2.B8,x2.B5,x2.D2,x2.A6,x2.B7,true,x2.B6⟩ ⟨e1,e2,b2.lZ,b2.u7,b2.target,b2.given⟩ f1 (dev _ _) BI (λe=>by have e2:x2.B6=true:=e.2;rw[hh2]at e2;cases e2)⟩
 ·exact⟨bC _,fin ⟨x3.1,x3.2.1,x2.B2,x2.B8,x2.B5,x2.D2,x2.A6,x2.B7,x2.B3,true⟩ ⟨e1,e2,b2.lZ,b2.u7,b2.target,b2.given⟩ f1 (dev _ _) BI (λe=>by have e2:x2.B3=true:=e.1;rw[hw]at e2;cases e2)⟩
 ·exact⟨bC _,fin ⟨x3.1,x3.2.1,x2.B2,x2.B8,x2.B5,x2.D2,x2.A6,x2.B7,x2.B3,x2.B6⟩ WL f1 (dev _ _) BI (λe=>by have e2:x2.B3=true:=e.1;rw[hw]at e2;cases e2)⟩
theorem SM(h:U a):(dR 32 a).toNat=a.toNat:=by
 obtain⟨h1,h2⟩:=h
 rw[dS];omega
theorem WN{a b:Int}(ha:U a)(hb:U b):ba .u32 a b=((a.toNat&&&b.toNat:Nat):Int):=by
 have l:=(dR 32 a&&&dR 32 b).isLt
 have e:(dR 32 a&&&dR 32 b).toNat=a.toNat&&&b.toNat:=by rw[dU,SM ha,SM hb]
 show wrap .u32 ((dR 32 a&&&dR 32 b).toNat:Int)=_
 rw[wrap_u32,<-e];omega
theorem xaD{a b:Int}(ha:U a)(hb:U b):iH .u32 a b=((a.toNat|||b.toNat:Nat):Int):=by
 have l:=(dR 32 a|||dR 32 b).isLt
 have e:(dR 32 a|||dR 32 b).toNat=a.toNat|||b.toNat:=by rw[dT,SM ha,SM hb]
 show wrap .u32 ((dR 32 a|||dR 32 b).toNat:Int)=_
 rw[wrap_u32,<-e];omega
theorem WO(ha:U a)(k:Nat)(hk:k<=32)(hq:q=((2^k-1:Nat):Int)):ba .u32 a q=a%2^k:=by
 have hp:2^k<=2^32:=dO (by decide) hk
 have h1:(2:Nat)^32=4294967296:=by decide
 have uc:=Nat.two_pow_pos k
 subst hq
 rw[WN ha ⟨by omega,by omega⟩,dX,Nat.and_two_pow_sub_one_eq_mod]
 have:=ha.1
 rw[Int.natCast_emod,eA this]
 simp
theorem m15(ha:U a):ba .u32 a 15=a%16:=WO ha 4 (by decide) rfl
theorem BJ(ha:U a):ba .u32 a 255=a%256:=WO ha 8 (by decide) rfl
theorem Ip(ha:U a):ba .u32 a 65535=a%65536:=WO ha 16 (by decide) rfl
theorem Eo(p:Int->Bool)(N:Nat)(h:(cW N).all (λn=>p n)=true){s:Int}(h0:0<=s)(h1:s<N):p s=true:=by
 have:=List.all_eq_true.1 h s.toNat (List.mem_range.2 (by omega))
 rwa [eA h0]at this
theorem HV(h0: -9223372036854775808<=x)(h1:x<9223372036854775808):wrap .i64 x=x:=by rw[wrap_i64];omega
theorem NA(a:Int):bb .u32 a 0=a:=by have:=Dm (a:=a) 0 (by decide);simpa using this
theorem fld(w:Int):tj w 24 8=ba .u32 (bb .u32 w 24) 255/\tj w 20 4=ba .u32 (bb .u32 w 20) 15/\tj w 16 4=ba .u32 (bb .u32 w 16) 15/\tj w 0 16=ba .u32 (bb .u32 w 0) 65535/\tj w 8 8=ba .u32 (bb .u32 w 8) 255:=
 ⟨by kernel_rfl,by kernel_rfl,by kernel_rfl,by kernel_rfl,by kernel_rfl⟩
def BK(f:Int):wP×Bool:=
 bif f==1 then(⟨false,false,false,0,0⟩,true)else bif f==2 then(⟨true,true,true,0,0⟩,true)else bif f==3 then(⟨true,true,false,-32768,32767⟩,true)
 else bif f==4 then(⟨true,true,false,0,65535⟩,true)else bif f==5 then(⟨true,true,false,0,31⟩,true)else bif f==6 then(⟨true,false,false,0,65535⟩,true)
 else bif f==7 then(⟨true,false,false,-32768,32767⟩,true)else bif f==8 then(⟨true,false,false,0,7⟩,true)else bif f==9 then(⟨true,false,false,0,11⟩,true)else(⟨false,false,false,0,0⟩,false)
def BL(x y:wP×Bool):Bool:=x.1.a==y.1.a&&x.1.b==y.1.b&&x.1.c==y.1.c&&x.1.low==y.1.low&&x.1.F5==y.1.F5&&x.2==y.2
theorem vI{x y:wP×Bool}(h:BL x y=true):x=y:=by
 obtain⟨⟨a,b,c,d,e⟩,f⟩:=x
 obtain⟨⟨a',b',c',d',e'⟩,f'⟩:=y
 simp only[BL,aE,beq_iff_eq]at h
 obtain⟨⟨⟨⟨⟨rfl,rfl⟩,rfl⟩,rfl⟩,rfl⟩,rfl⟩:=h
 rfl
theorem vZ(h0:0<=op)(h1:op<256):SN op=BK (oE op):=by
 exact vI (Eo (λop=>BL (SN op) (BK (oE op))) 256 (by kernel_rfl) h0 h1)
theorem yg(h0:0<=op)(h1:op<256):oE op=0\/oE op=1\/oE op=2\/oE op=3\/oE op=4\/oE op=5\/oE op=6\/oE op=7\/oE op=8\/oE op=9:=by
 have:=oY (Eo (λop=>decide (0<=oE op/\oE op<=9)) 256 (by kernel_rfl) h0 h1)
 omega
theorem xai(h0:0<=op)(h1:op<256):NB op=KI op:=by
 exact eq_of_beq (Eo (λop=>NB op==KI op) 256 (by kernel_rfl) h0 h1)
theorem qJ{a x y:Bool}:(cond a x y=true)↔((a=true/\x=true)\/(a=false/\y=true)):=by cases a<;>simp
theorem WQ{i:gv}(h0:0<=i.Op)(h1:i.Op<256)(hi:wrap .i64 i.bz=i.bz):Iq i=Ep i:=by
 rw[eB]
 simp only[Iq,NC,Tree.m,ee,Ep,ND,vZ h0 h1,hi]
 rcases yg h0 h1 with h|h|h|h|h|h|h|h|h|h<;>rw[h]<;>
 simp[BK,KJ,SO,KK,SP,WR,WS,Tree.m,ee,qJ]<;>omega
theorem WT(h0:0<=x)(h1:x<65536):wrap .i32 (Dr x 16)=wrap .i32 (wrap .i16 x):=by
 have e:Dr x 16=wrap .u32 (bb .i32 (wrap .i32 (ep .u32 x 16)) 16):=by kernel_rfl
 have e2:∀y,bb .i32 y 16=y/65536:=λy=>by
  show eC y 65536=_
  rw[dJ _ (by decide)]
 have e3:ep .u32 x 16=wrap .u32 (x*65536):=rfl
 have e4:wrap .i16 x=(x+32768)%65536-32768:=by
  simp[wrap,IntKind.bits,IntKind.signed]
  split<;>omega
 rw[e,e2,e3,e4]
 simp only[wrap_i32,wrap_u32]
 omega
theorem sx8(h0:0<=x)(h1:x<256):Dr x 8=Gm x 8:=by
 exact eq_of_beq (Eo (λx=>Dr x 8==Gm x 8) 256 (by kernel_rfl) h0 h1)
theorem vg(hw:U w):NF w=AI w:=by
 obtain⟨f1,f2,f3,f4,_⟩:=fld w
 obtain⟨w0,w1⟩:=hw
 have ub:bb .u32 w 24=w/16777216:=by have:=Dm (a:=w) 24 (by decide);simpa using this
 have s20:U (bb .u32 w 20):=w7 ⟨w0,w1⟩ _
 have AH:U (bb .u32 w 16):=w7 ⟨w0,w1⟩ _
 rw[BJ (w7 ⟨w0,w1⟩ _),ub]at f1
 rw[m15 s20]at f2
 rw[m15 AH]at f3
 rw[NA]at f4
 have g1:w/16777216%256=w/16777216:=by omega
 rw[g1]at f1
 have o0:0<=w/16777216:=by omega
 have o1:w/16777216<256:=by omega
 have eo:wrap .i64 (w/16777216)=w/16777216:=HV (by omega) (by omega)
 have i32:∀x,wrap .i64 (wrap .i32 x)=wrap .i32 x:=λx=>by rw[wrap_i64,wrap_i32];omega
 have l0:=Ip ⟨w0,w1⟩
 have lx:=WT (x:=ba .u32 w 65535) (by omega) (by omega)
 simp only[NF,KL,AI,KM,Tree.m,ee,f1,f2,f3,f4,ub,eo,vZ o0 o1,m15 s20,m15 AH,lx]
 generalize w/16777216=op at*
 generalize wrap .i64 (bb .u32 w 20%16)=a
 generalize wrap .i64 (bb .u32 w 16%16)=b
 generalize ba .u32 w 65535=l
 rw[WQ (i:=⟨op,a,b,wrap .i64 l,0⟩) o0 o1 rfl,WQ (i:=⟨op,a,b,0,wrap .i32 (wrap .i16 l)⟩) o0 o1 (i32 _),WQ (i:=⟨op,a,b,0,wrap .i32 l⟩) o0 o1 (i32 _)]
 rcases yg o0 o1 with h|h|h|h|h|h|h|h|h|h<;>rw[h]<;>rfl
def Er(W v:Int)(s:Nat):Int:=iH .u32 (oD .u32 W (ep .u32 255 s)) (ep .u32 (ba .u32 v 255) s)
def u9(w:Int)(k:Nat):Int:=if k=0 then w%256 else if k=1 then w/256%256 else if k=2 then w/65536%256 else w/16777216%256
def lr(m:List Int)(a:Nat):Int:=u9 (m.getD (a/4) 0) (a%4)
theorem qh(w:Int)(k:Nat):0<=u9 w k/\u9 w k<256:=by
 unfold u9
 split
 ·omega
 ·split
  ·omega
  ·split<;>omega
theorem qaj(hw:U w)(hv:U v)(h:∀k,k<4->u9 w k=u9 v k):w=v:=by
 have h0:=h 0 (by omega)
 have h1:=h 1 (by omega)
 have h2:=h 2 (by omega)
 have h3:=h 3 (by omega)
 simp[u9]at h0 h1 h2 h3
 obtain⟨a,b⟩:=hw
 obtain⟨c,d⟩:=hv
 omega
theorem xh{m n:List Int}(hl:m.length=n.length)(hm:∀w∈m,U w)(hn:∀w∈n,U w)(h:∀a,lr m a=lr n a):m=n:=by
 refine bR hl λi h1 h2=>?_
 have e1:m[i]=m.getD i 0:=by simp[aV,h1]
 have e2:n[i]=n.getD i 0:=by simp[aV,h2]
 rw[e1,e2]
 refine qaj (AJ hm i) (AJ hn i) λk hk=>?_
 have:=h (4*i+k)
 simp only[lr]at this
 rwa [show(4*i+k)/4=i by omega,show(4*i+k)%4=k by omega]at this
theorem Qw2{l:List Int}{i:Nat}(h:i<l.length)(v:Int):(l.set i v).getD i 0=v:=by
 simp[aV,h]
theorem zh{m:List Int}{i:Nat}(hi:i<m.length)(v:Int)(a:Nat):lr (m.set i v) a=if a/4=i then u9 v (a%4)else lr m a:=by
 unfold lr
 split
 ·rename_i h;rw[h,Qw2 hi]
 ·rename_i h;rw[uZ _ _ _ _ (λe=>h e.symm)]
theorem yh{x y:Int}(hx:U x)(hy:U y)(k:Nat)(hk:x<2^k)(h:x+y*2^k<4294967296):iH .u32 x (y*2^k)=x+y*2^k:=by
 obtain⟨n,rfl⟩:∃n:Nat,x=n:=⟨x.toNat,by have:=hx.1;omega⟩
 obtain⟨z,rfl⟩:∃n:Nat,y=n:=⟨y.toNat,by have:=hy.1;omega⟩
 have e:((z:Int)*2^k)=((z*2^k:Nat):Int):=by simp
 rw[e]at h⊢
 have hn:n<2^k:=by exact_mod_cast hk
 rw[xaD hx ⟨by omega,by omega⟩,dX,dX,Nat.or_comm,Nat.mul_comm,<-Nat.two_pow_add_eq_or_of_lt hn]
 omega
theorem four{a b c d:Int}(ha:0<=a/\a<256)(hb:0<=b/\b<256)(hc:0<=c/\c<256)(hd:0<=d/\d<256):iH .u32 (iH .u32 (iH .u32 (wrap .u32 a) (ep .u32 (wrap .u32 b) 8)) (ep .u32 (wrap .u32 c) 16)) (ep .u32 (wrap .u32 d) 24)=a+b*2^8+c*2^16+d*2^24:=by
 have w:∀{x:Int},0<=x/\x<256->wrap .u32 x=x:=λhx=>by rw[wrap_u32];omega
 have s8:∀{x:Int},0<=x/\x<256->ep .u32 x 8=x*2^8:=fun{x} hx=>by show wrap .u32 (x*2^8)=_;rw[wrap_u32];omega
 have AH:∀{x:Int},0<=x/\x<256->ep .u32 x 16=x*2^16:=fun{x} hx=>by show wrap .u32 (x*2^16)=_;rw[wrap_u32];omega
 have ub:∀{x:Int},0<=x/\x<256->ep .u32 x 24=x*2^24:=fun{x} hx=>by show wrap .u32 (x*2^24)=_;rw[wrap_u32];omega
 rw[w ha,w hb,w hc,w hd,s8 hb,AH hc,ub hd]
 rw[yh ⟨by omega,by omega⟩ ⟨by omega,by omega⟩ 8 (by omega) (by omega),yh ⟨by omega,by omega⟩ ⟨by omega,by omega⟩ 16 (by omega) (by omega),yh ⟨by omega,by omega⟩ ⟨by omega,by omega⟩ 24 (by omega) (by omega)]
theorem xJ{a b c d:Int}(ha:0<=a/\a<256)(hb:0<=b/\b<256)(hc:0<=c/\c<256)(hd:0<=d/\d<256)(k:Nat)(hk:k<4):u9 (a+b*2^8+c*2^16+d*2^24) k=if k=0 then a else if k=1 then b else if k=2 then c else d:=by
 have hk:k=0\/k=1\/k=2\/k=3:=by omega
 rcases hk with rfl|rfl|rfl|rfl<;>simp[u9]<;>omega
theorem WU{m:List Int}(h:ej P m)(f:Int):Ef m f=decide (0<=f/\f<P):=by
 have hp:=tZ h
 simp only[Ef,Kt,Tree.m,ee,hp]
 by_cases h1:0<=f
 ·rw[dY h1];simp[h1]
 ·rw[dN h1];simp[h1]
theorem zJ(s:List UInt8)(a b k:Nat)(h:k<b):(cU b (cV a s)).getD k 0=s.getD (a+k) 0:=by
 simp[cX,aF,h]
theorem Gn(x:UInt8):0<=(x.toNat:Int)/\(x.toNat:Int)<256:=by have:=x.toNat_lt;omega
theorem WV{m:List Int}(h:ej P m)(f0:0<=f)(f1:f<P)(hs:s.length=128):(H9 m f s).w (λr=>r.2=true/\ej P r.1/\∀b:Nat,lr r.1 b=if f*128<=b/\(b:Int)<f*128+128 then((s.getD (b-f*128).toNat 0).toNat:Int)else lr m b):=by
 have jg:ko m=m:=rfl
 have h2:=h.p2
 unfold H9
 refine c7 (Gg h) (aq λx0 nG=>aq λx1 oQ=>?_)
 rw[jg]at nG;subst nG
 rw[WU h,dY ⟨f0,f1⟩]at oQ
 subst oQ
 refine ab (λhb=>by cases hb) λ_=>ab (λhb=>by simp[hs]at hb) λ_=>?_
 refine fj (inv:=λz:Int×List Int=>0<=z.1/\z.1<=32/\ej P z.2/\∀b:Nat,lr z.2 b=if f*128<=b/\(b:Int)<f*128+4*z.1 then((s.getD (b-f*128).toNat 0).toNat:Int)else lr x0 b) (μ:=WB x0 f s) ⟨show(0:Int)<=0 by decide,show(0:Int)<=32 by decide,h,λb=>by rw[if_neg];show¬(_/\_<_+4*(0:Int));omega⟩ (cN _) λz ⟨z1,z2,z3,z4⟩=>?_
 refine ab (λhb=>?_) (λhb=>⟨rfl,z3,λb=>?_⟩)
 ·have hb:=oY hb
  have e1:i64.wrap (4*z.1)=4*z.1:=by rw[wrap_i64];omega
  have e2:i64.wrap (i64.wrap (4*z.1)+4)=4*z.1+4:=by rw[wrap_i64,wrap_i64];omega
  have e3:i64.wrap (i64.wrap (f*32)+z.1)=f*32+z.1:=by rw[wrap_i64,wrap_i64];omega
  have hl:=z3.len
  have cut:dA (i64.wrap (i64.wrap (4*z.1)+4))-dA (i64.wrap (4*z.1))=4:=by rw[e2,e1];omega
  have hlen:(cU (dA (i64.wrap (i64.wrap (4*z.1)+4))-dA (i64.wrap (4*z.1))) (cV (dA (i64.wrap (4*z.1))) s)).length=4:=by
   rw[cut,e1,aD,aG];omega
  refine ax (dY (by rw[e2,e1];omega)) ?_
  refine ax (dY (by rw[hlen];decide)) (ax (dY (by rw[hlen];decide)) (ax (dY (by rw[hlen];decide)) (ax (dY (by rw[hlen];decide)) (ax (by rw[e3];simp[bN];omega) (ez ?_)))))
  have ew:i64.wrap (z.1+1)=z.1+1:=by rw[wrap_i64];omega
  rw[cut]
  refine⟨⟨by show 0<=i64.wrap (z.1+1);rw[ew];omega,by show i64.wrap (z.1+1)<=32;rw[ew];omega,?_,?_⟩,by show(32-i64.wrap (z.1+1)).toNat<(32-z.1).toNat;rw[ew];omega⟩
  ·show ej P (dB _ _ _)
   exact⟨by rw[dC];exact hl,z3.p1,z3.p2,Eg z3.u (nu _ _) _⟩
  ·intro b
   show lr (dB z.2 (dA (i64.wrap (i64.wrap (f*32)+z.1))) _) b=if f*128<=(b:Int)/\(b:Int)<f*128+4*i64.wrap (z.1+1)then _ else _
   rw[e3,ew,four (Gn _) (Gn _) (Gn _) (Gn _),zh (by omega)]
   have g:∀k:Nat,k<4->(cU 4 (cV (dA (i64.wrap (4*z.1))) s)).getD k 0=s.getD ((4*z.1).toNat+k) 0:=λk hk=>by rw[e1];exact zJ _ _ _ _ hk
   by_cases hc:b/4=(f*32+z.1).toNat
   ·have SQ:f*128<=(b:Int)/\(b:Int)<f*128+4*(z.1+1):=by omega
    rw[if_pos hc,xJ (Gn _) (Gn _) (Gn _) (Gn _) _ (by omega),if_pos SQ]
    have hb4:b%4=0\/b%4=1\/b%4=2\/b%4=3:=by omega
    have gi:(b-f*128).toNat=(4*z.1).toNat+b%4:=by omega
    rw[gi]
    rcases hb4 with h4|h4|h4|h4<;>rw[h4]
    ·rw[if_pos rfl,<-g 0 (by omega)];rfl
    ·rw[if_neg (by decide),if_pos rfl,<-g 1 (by omega)];rfl
    ·rw[if_neg (by decide),if_neg (by decide),if_pos rfl,<-g 2 (by omega)];rfl
    ·rw[if_neg (by decide),if_neg (by decide),if_neg (by decide),<-g 3 (by omega)];rfl
   ·rw[if_neg hc,z4 b]
    by_cases hd:f*128<=(b:Int)/\(b:Int)<f*128+4*z.1
    ·rw[if_pos hd,if_pos (by omega)]
    ·rw[if_neg hd,if_neg (by omega)]
 ·have hb:=oN hb
  show lr z.2 b=_
  rw[z4 b,show z.1=32 by omega]
  rfl
theorem Zoo{α:Type}(l l2:List α)(k:Nat)(z:α):(l++l2).getD k z=if k<l.length then l.getD k z else l2.getD (k-l.length) z:=by
 simp only[cX,List.getElem?_append]
 split<;>rfl
theorem u8w:wrap .u8 x=x%256:=wrap_u8 x
theorem Gp(W:Int):bb .u32 W 8=W/256/\bb .u32 W 16=W/65536/\bb .u32 W 24=W/16777216:=by
 refine⟨?_,?_,?_⟩
 ·show eC W 256=_;rw[dJ _ (by decide)]
 ·show eC W 65536=_;rw[dJ _ (by decide)]
 ·show eC W 16777216=_;rw[dJ _ (by decide)]
theorem b4d(W:Int)(hk:k<4):[wrap .u8 W,wrap .u8 (bb .u32 W 8),wrap .u8 (bb .u32 W 16),wrap .u8 (bb .u32 W 24)].getD k 0=u9 W k:=by
 obtain⟨a,b,c⟩:=Gp W
 have hk:k=0\/k=1\/k=2\/k=3:=by omega
 rcases hk with rfl|rfl|rfl|rfl<;>simp[u9,a,b,c,u8w]
theorem WW(l:List Int)(k:Nat)(h:0<=l.getD k 0/\l.getD k 0<256)(hk:k<l.length):(((bytesOf l).getD k 0).toNat:Int)=l.getD k 0:=by
 have e:(bytesOf l).getD k 0=eD (l.getD k 0).toNat:=by
  simp[bytesOf,cX,hk]
 rw[e,UInt8.toNat_ofNat']
 omega
theorem Zm2(l:List UInt8)(k:Nat)(hk:k<l.length):(oR l).getD k 0=((l.getD k 0).toNat:Int):=by
 simp[oR,cX,hk]
theorem qaE(w:List Int)(h:w.length<=32):(Eh w).w (λr=>r.length=4*w.length/\∀k:Nat,k<4*w.length->((r.getD k 0).toNat:Int)=u9 (w.getD (k/4) 0) (k%4)):=by
 have e0:i64.wrap (4*(w.length:Int))=4*w.length:=by rw[wrap_i64];omega
 unfold Eh
 refine ax (by rw[e0];simp[bN,D.plain];omega) ?_
 refine fj (inv:=λz:Int×List Int=>0<=z.1/\z.1<=w.length/\(z.2.length:Int)=4*z.1/\∀k:Nat,(k:Int)<4*z.1->z.2.getD k 0=u9 (w.getD (k/4) 0) (k%4)) (μ:=Nj w) ⟨by decide,by show(0:Int)<=w.length;omega,rfl,λk hk=>by have hk:(k:Int)<4*0:=hk;omega⟩ (cN _) λz ⟨z1,z2,z3,z4⟩=>?_
 refine ab (λhb=>?_) (λhb=>?_)
 ·have hb:=oY hb
  have ew:i64.wrap (z.1+1)=z.1+1:=by rw[wrap_i64];omega
  refine ax (by simp[bN];omega) (ax (dY (by omega)) (ez ?_))
  show(_/\_/\_/\∀k:Nat,(k:Int)<4*i64.wrap (z.1+1)->(z.2++_).getD k 0=_)/\(_:Nat)<_
  refine⟨⟨by rw[ew];omega,by rw[ew];omega,by rw[ew,lA];simp only[dD,dE];omega,λk hk=>?_⟩,by show(w.length-i64.wrap (z.1+1)).toNat<(w.length-z.1).toNat;rw[ew];omega⟩
  rw[ew]at hk
  rw[Zoo]
  split
  ·exact z4 k (by omega)
  ·rename_i hn
   rw[b4d _ (by omega),show z.1.toNat=k/4 by omega,show k-z.2.length=k%4 by omega]
 ·have hb:=oN hb
  show(bytesOf z.2).length=_/\∀k:Nat,_->(((bytesOf z.2).getD k 0).toNat:Int)=_
  refine⟨by rw[Nk];omega,λk hk=>?_⟩
  have e:=z4 k (by omega)
  have:=qh (w.getD (k/4) 0) (k%4)
  rw[WW _ _ (by rw[e];exact this) (by omega),e]
def BM(m:List Int)(f:Int)(r:List UInt8):Prop:=r.length=128/\∀k:Nat,k<128->((r.getD k 0).toNat:Int)=lr m ((f*128).toNat+k)
theorem vh{m:List Int}{r s:List UInt8}(a:BM m f r)(b:BM m f s):r=s:=by
 obtain⟨a1,a2⟩:=a
 obtain⟨b1,b2⟩:=b
 refine bR (by omega) λi h1 h2=>?_
 have e:=(a2 i (by omega)).trans (b2 i (by omega)).symm
 have e1:r[i]=r.getD i 0:=by simp[aV,h1]
 have e2:s[i]=s.getD i 0:=by simp[aV,h2]
 rw[e1,e2]
 exact UInt8.toNat_inj.1 (by omega)
theorem qi{m:List Int}(h:ej P m)(f0:0<=f)(f1:f<P):(Dl m f).w (λr=>BM m f r.1/\r.2=true):=by
 have hl:=h.len
 have h2:=h.p2
 unfold Dl
 refine aq λx0 nG=>?_
 rw[WU h,dY ⟨f0,f1⟩]at nG
 subst nG
 refine ab (λhb=>by cases hb) (λhb=>?_)
 have e1:i64.wrap (f*32)=f*32:=by rw[wrap_i64];omega
 have e2:i64.wrap (i64.wrap (f*32)+32)=f*32+32:=by rw[wrap_i64,wrap_i64];omega
 have cut:dA (i64.wrap (i64.wrap (f*32)+32))-dA (i64.wrap (f*32))=32:=by rw[e2,e1];omega
 have hlen:(cU 32 (cV (dA (i64.wrap (f*32))) m)).length=32:=by
  rw[e1,aD,aG];omega
 refine ax (by rw[e2,e1];simp[bN];omega) ?_
 rw[cut]
 refine c7 (by show dF _<=1000000000000;rw[hlen];decide) (aq λx1 h1=>?_)
 have t:=(Tree.pp (qaE _ (dG hlen))).2
 rw[hlen,show(Eh (cU 32 (cV (dA (i64.wrap (f*32))) m))).m=x1 from h1.symm]at t
 refine⟨⟨t.1,λk hk=>?_⟩,rfl⟩
 show((x1.getD k 0).toNat:Int)=_
 rw[t.2 k hk,lr,e1]
 have g:(cU 32 (cV (dA (f*32)) m)).getD (k/4) 0=m.getD ((f*32).toNat+k/4) 0:=by
  simp[cX,aF,show k/4<32 by omega]
 rw[g,show((f*128).toNat+k)/4=(f*32).toNat+k/4 by omega,show((f*128).toNat+k)%4=k%4 by omega]
theorem zaE(x:Int):WX x 4=bytesOf [wrap .u8 (bb .u32 x 0),wrap .u8 (bb .u32 x 8),wrap .u8 (bb .u32 x 16),wrap .u8 (bb .u32 x 24)]:=by kernel_rfl
theorem zaj{m:List Int}(hm:ej P m){frame:Int}(f0:0<=frame)(f1:frame<P):(Gq m frame).w (λr=>BM m frame r.1/\r.2=true):=by
 have hp:=Dt hm
 have hl:=hm.len
 have h2:=hm.p2
 unfold Gq
 refine ab (λh=>by have:=oY h;omega) (λh=>aq λx0 hx=>ab (λh1=>by have:=oY h1;rw[hx,hp]at this;omega) (λh1=>?_))
 refine fj (inv:=λz:Int×List Int=>0<=z.1/\z.1<=32/\(z.2.length:Int)=4*z.1/\∀k:Nat,(k:Int)<4*z.1->z.2.getD k 0=lr m ((frame*128).toNat+k)) (μ:=WY m frame) ⟨by decide,by decide,rfl,λk hk=>by have hk:(k:Int)<4*0:=hk;omega⟩ (cN _) (λz hz=>?_)
 obtain⟨z1,z2,z3,z4⟩:=hz
 refine ab (λhb=>?_) (λhb=>?_)
 ·have hb:=oY hb
  have e:wrap i64 (wrap i64 (frame*32)+z.1)=frame*32+z.1:=by rw[wrap_i64,wrap_i64];omega
  refine ax (by rw[e];simp[bN];omega) (c7 (show(4:Int)<=1000000000000 by decide) (aq λx1 h4=>?_))
  rw[zaE,NA,e]at h4
  have l4:x1.length=4:=by rw[h4];rfl
  refine ax (dY (by rw[SR,l4];omega)) (ez ?_)
  show(0<=i64.wrap (z.1+1)/\i64.wrap (z.1+1)<=32/\((z.2++oR x1).length:Int)=4*i64.wrap (z.1+1)/\∀k:Nat,(k:Int)<4*i64.wrap (z.1+1)->(z.2++oR x1).getD k 0=_)/\(32-i64.wrap (z.1+1)).toNat<(32-z.1).toNat
  have ew:i64.wrap (z.1+1)=z.1+1:=by rw[wrap_i64];omega
  rw[ew]
  refine⟨⟨by omega,by omega,by rw[lA,SR,l4];omega,λk hk=>?_⟩,by omega⟩
  rw[Zoo]
  split
  ·exact z4 k (by omega)
  ·rename_i hn
   have Du:k-z.2.length<4:=by omega
   rw[Zm2 _ _ (by omega),h4]
   have d:=b4d (m.getD (frame*32+z.1).toNat 0) Du
   rw[WW _ _ (by rw[d];exact qh _ _) (by simpa using Du),d,lr]
   rw[show((frame*128).toNat+k)/4=(frame*32+z.1).toNat by omega,show((frame*128).toNat+k)%4=k-z.2.length by omega]
 ·have hb:=oN hb
  refine⟨⟨?_,λk hk=>?_⟩,rfl⟩
  ·show(bytesOf z.2).length=128
   rw[Nk];omega
  ·show(((bytesOf z.2).getD k 0).toNat:Int)=_
   have e:=z4 k (by omega)
   rw[WW _ _ (by rw[e];exact qh _ _) (by omega),e]
theorem Zh{m:List Int}(h:ej P m)(f:Int):jz m f=KN m f:=by
 by_cases hf:0<=f/\f<P
 ·have a:=(Tree.pp (qi h hf.1 hf.2)).2
  have b:=(Tree.pp (zaj h hf.1 hf.2)).2
  exact Prod.ext (vh a.1 b.1) (a.2.trans b.2.symm)
 ·have hp:=Dt h
  have e1:jz m f=([],false):=by
   simp only[jz,Dl,Tree.m,ee,WU h,dN hf];rfl
  have e2:KN m f=([],false):=by
   simp only[KN,Gq,Tree.m,ee,hp]
   by_cases h0:f<0
   ·rw[dY h0];rfl
   ·rw[dN h0,dY (show f>=P by omega)];rfl
  rw[e1,e2]
section
variable {P:Nat} {m:List Int} (h:ej P m)
include h
theorem NG(ha:U a)(hs:size=1\/size=4):ud m a size=decide (a%size=0/\a<128*P):=by
 have hq:=Dt h
 have h2:=h.p2
 have a0:=ha.1
 have e:wrap u32 size=size:=by rcases hs with rfl|rfl<;>decide
 have e0:decide (wrap u32 size≠0)=true:=by rcases hs with rfl|rfl<;>decide
 have t:cZ a (wrap u32 size)=a%size:=by rw[e,dZ a0]
 have l:∀x,x=wa m->a%size=0->decide (a<wrap u32 (wrap i64 (128*x)))=decide (a%size=0/\a<128*P):=λx hx hz=>by
  rw[hx,hq,wrap_u32,wrap_i64]
  exact decide_eq_decide.2 ⟨λh=>⟨hz,by omega⟩,λh=>by omega⟩
 refine Tree.post (Ir m a size) (W:=λb=>b=decide (a%size=0/\a<128*P)) ?_
 unfold Ir
 refine ab (λh1=>ab (λh4=>?_) (λ_=>?_)) (λ_=>?_)
 ·have h1:¬size=1:=by simpa using h1
  have h4:¬size=4:=by simpa using h4
  omega
 all_goals
  refine ax e0 (ab (λhb=>aq λx hx=>l x hx ?_) (λhb=>?_))
  ·rw[t]at hb;exact eq_of_beq hb
  ·rw[t]at hb
   exact(dN (λh=>by rw[h.1]at hb;cases hb)).symm
theorem Z5a(ha:U a)(hs:size=1\/size=4):WZ m a size=ud m a size:=by
 rw[NG h ha hs]
 have hq:=W0 h
 have h2:=h.p2
 have a0:=ha.1
 have a1:=ha.2
 have e:wrap u32 size=size:=by rcases hs with rfl|rfl<;>decide
 have e0:decide (wrap u32 size≠0)=true:=by rcases hs with rfl|rfl<;>decide
 have t:cZ a (wrap u32 size)=a%size:=by rw[e,dZ a0]
 have l:∀x,x=jL m->a%size=0->decide (wrap u64 (wrap u64 a+wrap u64 size)<=wrap u64 (wrap u64 x*128))=decide (a%size=0/\a<128*P):=λx hx hz=>by
  rw[hx,hq]
  simp only[wrap_u64]
  refine decide_eq_decide.2 ⟨λh=>⟨hz,?_⟩,λh=>?_⟩<;>rcases hs with rfl|rfl<;>omega
 refine Tree.post (Is m a size) (W:=λb=>b=decide (a%size=0/\a<128*P)) ?_
 unfold Is
 refine ab (λh1=>ab (λh4=>?_) (λ_=>?_)) (λ_=>?_)
 ·have h1:¬size=1:=by simpa using h1
  have h4:¬size=4:=by simpa using h4
  omega
 all_goals
  refine ax e0 (ab (λhb=>?_) (λhb=>aq λx hx=>l x hx ?_))
  ·rw[t]at hb
   exact(dN (λh=>by rw[h.1]at hb;cases hb)).symm
  ·rw[t]at hb;simpa using hb
end
theorem W3(w:Int):tj w 0 8=ba .u32 (bb .u32 w 0) 255/\tj w 8 8=ba .u32 (bb .u32 w 8) 255/\tj w 16 8=ba .u32 (bb .u32 w 16) 255/\tj w 24 8=ba .u32 (bb .u32 w 24) 255:=
 ⟨by kernel_rfl,by kernel_rfl,by kernel_rfl,by kernel_rfl⟩
theorem W4(w v:Int):KO w 0 8 v=Er w v 0/\KO w 8 8 v=Er w v 8/\KO w 16 8 v=Er w v 16/\KO w 24 8 v=Er w v 24:=
 ⟨by kernel_rfl,by kernel_rfl,by kernel_rfl,by kernel_rfl⟩
theorem xi(ha:U a):wrap .i64 (wrap .i64 (cZ a 4)*8)=8*(a%4)/\wrap .u32 (8*cZ a 4)=8*(a%4):=by
 obtain⟨a0,a1⟩:=ha
 rw[dZ a0]
 exact⟨by rw[wrap_i64,wrap_i64];omega,by rw[wrap_u32];omega⟩
section
variable {P:Nat} {m:List Int} (h:ej P m)
include h
theorem NH(ha:U a)(hs:size=1\/size=4):BN m a size=oF m a size:=by
 have e:=Z5a h ha hs
 obtain⟨s1,s2⟩:=xi ha
 have f:tj (m.getD (dA (wrap .u32 (eF a 4))) 0) (8*(a%4)) 8=ba .u32 (bb .u32 (m.getD (dA (wrap .u32 (eF a 4))) 0) (8*(a%4))) 255:=by
  obtain⟨f0,f1,f2,f3⟩:=W3 (m.getD (dA (wrap .u32 (eF a 4))) 0)
  have:a%4=0\/a%4=1\/a%4=2\/a%4=3:=by omega
  rcases this with h|h|h|h<;>rw[h]
  ·exact f0
  ·exact f1
  ·exact f2
  ·exact f3
 simp only[BN,KP,oF,Dv,Tree.m,ee,e,s1,s2,f]
omit h in
theorem W5(a size:Int):(oF m a size).2=ud m a size:=by
 simp only[oF,Dv,Tree.m,ee]
 cases ud m a size
 ·rfl
 ·cases size==1<;>rfl
theorem Zcl(ha:U a)(hs:size=1\/size=4)(v:Int):KQ m a size v=bif ud m a size then(It m a size v,true)else(m,false):=by
 have jg:ko m=m:=rfl
 have e:=Z5a h ha hs
 obtain⟨s1,s2⟩:=xi ha
 have f:∀w,KO w (8*(a%4)) 8 v=iH .u32 (oD .u32 w (ep .u32 255 (8*(a%4)))) (ep .u32 (ba .u32 v 255) (8*(a%4))):=λw=>by
  obtain⟨f0,f1,f2,f3⟩:=W4 w v
  have:a%4=0\/a%4=1\/a%4=2\/a%4=3:=by omega
  rcases this with h|h|h|h<;>rw[h]
  ·exact f0
  ·exact f1
  ·exact f2
  ·exact f3
 simp only[KQ,KR,It,KS,Tree.m,ee,jg,e,s1,s2,f]
 rcases hs with rfl|rfl<;>cases ud m a _<;>rfl
end
section
variable {P:Nat} {m:List Int} (h:ej P m)
include h
theorem zi{root va:Int}(hr:U root)(hv:U va)(ha:access=1\/access=2\/access=3):SS m root va access=w9 m root va access:=by
 have hp:=Dt h
 have h2:=h.p2
 have hlen:=h.len
 obtain⟨r1,r2⟩:=hr
 obtain⟨v1,v2⟩:=hv
 have Ib:∀{f:Int},U f->NI m f=decide (f<P):=λhf=>zV h hf
 have eP:wrap .u32 (P:Int)=P:=by rw[wrap_u32];omega
 have kn:NJ access=true:=by rcases ha with rfl|rfl|rfl<;>rfl
 have ca:Qmg access=(BO access,true):=by rcases ha with rfl|rfl|rfl<;>rfl
 simp only[SS,KT,w9,Gr,Tree.m,ee,hp,eP,kn,ca,Ib ⟨r1,r2⟩]
 by_cases c1:va>=4096
 ·rw[dY c1];rfl
 by_cases c2:root<P
 ·have eE:wrap u32 (wrap u32 (root*128)+wrap u32 (4*wrap u32 (eF va 128)))=root*128+4*(va/128):=by
   rw[eG v1,wrap_u32,wrap_u32,wrap_u32,wrap_u32];omega
  have hE:U (root*128+4*(va/128)):=⟨by omega,by omega⟩
  have wi:ud m (root*128+4*(va/128)) 4=true:=by
   rw[NG h hE (.inr rfl)];exact dY ⟨by omega,by omega⟩
  rw[dN c1,dY c2,dN (show¬root>=P by omega),eE,NH h hE (.inr rfl),W5,wi]
  have ld:(oF m (root*128+4*(va/128)) 4).1=m.getD (dA (wrap .u32 (eF (root*128+4*(va/128)) 4))) 0:=by
   simp only[oF,Dv,Tree.m,ee,wi];rfl
  rw[ld]
  generalize m.getD (dA (wrap .u32 (eF (root*128+4*(va/128)) 4))) 0=w
  have fo:W6 w=ba .u32 (bb .u32 w 8) 255:=(fld w).2.2.2.2
  rw[fo,Ib (KU _ _)]
  have gr:decide (ba .u32 (bb .u32 w 8) 255>=(P:Int))=!decide (ba .u32 (bb .u32 w 8) 255<(P:Int)):=by
   by_cases hq:ba .u32 (bb .u32 w 8) 255<(P:Int)
   ·rw[dY hq,dN (by omega)];rfl
   ·rw[dN hq,dY (by omega)];rfl
  rw[gr]
  generalize decide (ba .u32 (bb .u32 w 8) 255<(P:Int))=d
  rcases ha with rfl|rfl|rfl
  ·show _=(bif ba .u32 w 1==0 then _ else bif ba .u32 w 4==0 then _ else bif !d then _ else _)
   have:SU w 1=(bif ba .u32 w 1==0 then false else !(ba .u32 w 4==0)):=rfl
   rw[this]
   cases ba .u32 w 1==0<;>cases ba .u32 w 4==0<;>cases d<;>rfl
  ·show _=(bif ba .u32 w 1==0 then _ else bif !d then _ else _)
   have:SU w 2=(bif ba .u32 w 1==0 then false else true):=rfl
   rw[this]
   cases ba .u32 w 1==0<;>cases d<;>rfl
  ·show _=(bif ba .u32 w 1==0 then _ else bif ba .u32 w 2==0 then _ else bif !d then _ else _)
   have:SU w 3=(bif ba .u32 w 1==0 then false else !(ba .u32 w 2==0)):=rfl
   rw[this]
   cases ba .u32 w 1==0<;>cases ba .u32 w 2==0<;>cases d<;>rfl
 ·rw[dN c1,dN c2,dY (show root>=P by omega)];rfl
theorem Zr(ha:U a)(access:Int):NK m a access=SV m a access:=by
 have jg:ko m=m:=rfl
 have hl:=h.len
 have a0:=ha.1
 simp only[NK,KV,SV,KW,Tree.m,ee,NH h ha (.inr rfl),W5,Zcl h ha (.inr rfl),jg]
 cases hw:ud m a 4
 ·rfl
 ·rw[NG h ha (.inr rfl)]at hw
  have hw:=oY hw
  have wi:ud m a 4=true:=by rw[NG h ha (.inr rfl)];exact dY hw
  have ld:(oF m a 4).1=m.getD (dA (wrap .u32 (eF a 4))) 0:=by
   simp only[oF,Dv,Tree.m,ee,wi];rfl
  have pu:∀v,It m a 4 v=m.set (dA (wrap .u32 (eF a 4))) v:=λv=>rfl
  rw[ld,pu,pu]
  have hi:dA (wrap .u32 (eF a 4))<m.length:=by
   rw[eG a0,wrap_u32];omega
  generalize dA (wrap .u32 (eF a 4))=i at*
  rw[Qw2 hi,List.set_set]
  rfl
end
theorem NL(h0:0<=c.C2.a0)(h:c.C2.a0<=31)(k b:Int):pU c k b=pD c k b:=by
 have e:=eq_of_beq (Eo (λs=>oD .u32 (iH .u32 (w6 (w6 s 1 8) 2 16) 1) 2==iH .u32 (oD .u32 (iH .u32 (iH .u32 (oD .u32 s 24) (wrap .u32 (8*BP (ba .u32 s 1 !=0)))) (wrap .u32 (16*BP (ba .u32 s 2 !=0)))) 2) 1) 32 (by kernel_rfl) h0 (by omega))
 simp only[pU,NM,pD,NN,Tree.m,ee,e]
theorem Zmg(h0:0<=c.C2.a0)(h:c.C2.a0<=31):KD c=SW c:=by
 have e:=eq_of_beq (Eo (λs=>w6 (w6 s 8 1) 16 2==iH .u32 (iH .u32 (oD .u32 s 3) (wrap .u32 (1*BP (ba .u32 s 8 !=0)))) (wrap .u32 (2*BP (ba .u32 s 16 !=0)))) 32 (by kernel_rfl) h0 (by omega))
 simp only[KD,NO,SW,NP,Tree.m,ee,e]
theorem Zs6(h0:0<=c.C2.a0)(h:c.C2.a0<=31):W7 c=(!Iu c&&(ba .u32 c.C2.a0 4 !=0)):=
 eq_of_beq (Eo (λs=>(ba .u32 s 5==4)==(!(ba .u32 s 1 !=0)&&(ba .u32 s 4 !=0))) 32 (by kernel_rfl) h0 (by omega))
theorem SX(c:bq)(hr:0<=r/\r<16)(v:Int):ue c r v=lu c r v:=by
 simp only[ue,Ek,lu,Iv,Tree.m]
 by_cases h:r=0
 ·subst h;rfl
 ·rw[dY (show r>0 by omega),dY hr.2,show(r !=0)=true by simpa using h];rfl
theorem yJ{a b:Int}(ha:U a)(hb:U b):KX a b=KY a b:=by
 obtain⟨a0,a1⟩:=ha
 obtain⟨b0,b1⟩:=hb
 have i:∀x,wrap .i64 (wrap .i32 x)=wrap .i32 x:=λx=>by rw[wrap_i64,wrap_i32];omega
 have r32:∀x,-2147483648<=wrap .i32 x/\wrap .i32 x<2147483648:=λx=>by rw[wrap_i32];omega
 have q32:∀x y:Int,-2147483648<=x/\x<2147483648-> -2147483648<=eF x y/\eF x y<=2147483648:=λx y hx=>by
  have h1:(eF x y).natAbs<=x.natAbs:=by rw[Int.natAbs_tdiv];exact Nat.div_le_self _ _
  omega
 simp only[KX,KZ,KY,K0,Tree.m,i]
 cases hb:b==0
 ·have w:∀z,wrap .u32 (wrap .i32 z)=wrap .u32 z:=λz=>by rw[wrap_i32,wrap_u32,wrap_u32];omega
  have w2:wrap .i64 (eF (wrap .i32 a) (wrap .i32 b))=eF (wrap .i32 a) (wrap .i32 b):=by
   have:=q32 _ (wrap .i32 b) (r32 a)
   rw[wrap_i64];omega
  rw[w,w2]
  cases h1:a==2147483648
  ·rfl
  ·cases h2:b==4294967295
   ·rfl
   ·have h1:=eq_of_beq h1
    have h2:=eq_of_beq h2
    subst h1;subst h2
    rfl
 ·rfl
theorem vJ{op a b:Int}(h0:1<=op)(h1:op<=23)(ha:U a)(hb:U b):ny op a b=Dw op a b:=by
 have sub:wrap .u32 (a+wrap .u32 (0-b))=wrap .u32 (a-b):=by
  rw[wrap_u32,wrap_u32,wrap_u32];omega
 have rk:op=1\/op=2\/op=3\/op=4\/op=5\/op=6\/op=7\/op=8\/op=9\/op=10\/op=11\/op=12\/op=13\/op=14\/op=15\/op=16\/op=17\/op=18\/op=19\/op=20\/op=21\/op=22\/op=23:=by omega
 have d:=yJ ha hb
 rcases rk with rfl|rfl|rfl|rfl|rfl|rfl|rfl|rfl|rfl|rfl|rfl|rfl|rfl|rfl|rfl|rfl|rfl|rfl|rfl|rfl|rfl|rfl|rfl
 ·rfl
 ·show(wrap .u32 (a+wrap .u32 (0-b)),true)=(wrap .u32 (a-b),true)
  rw[sub]
 ·rfl
 ·rfl
 ·rfl
 ·rfl
 ·rfl
 ·rfl
 ·rfl
 ·show((KX a b).1,true)=((KY a b).1,true)
  rw[d]
 ·show((KX a b).2,true)=((KY a b).2,true)
  rw[d]
 all_goals rfl
theorem W8{m:List Int}(h:ej P m)(hc:iI c)(jR:c.C2.a0<=31){va:Int}(hv:U va)(hs:size=1\/size=4)(ha:access=1\/access=2\/access=3):rz c m va size access=((lH c m va size access).1,(lH c m va size access).2.2,(lH c m va size access).2.1):=by
 have jg:ko m=m:=rfl
 have kn:NJ access=true:=by rcases ha with rfl|rfl|rfl<;>rfl
 have ca:Qvm access=(BO access,true):=by rcases ha with rfl|rfl|rfl<;>rfl
 have pg:=Zs6 hc.a0.1 jR
 have wk:=zi h hc.a6 hv ha
 have tc:NK m (w9 m c.C2.a6 va access).G1 access=SV m (w9 m c.C2.a6 va access).G1 access:=Zr h (Tree.pp (qab h hc.a6 hv access)).2.2.1 access
 have sz:(bif size !=1 then bif size !=4 then false else true else true)=true:=by rcases hs with rfl|rfl<;>rfl
 simp only[rz,K1,lH,Iw,Tree.m,ee,jg,kn,ca,pg,wk,tc,NH h hv hs,W5]
 rcases hs with rfl|rfl<;>
 ·show(bif _ then _ else _)=_
  cases cZ va _ !=0<;>cases Iu c<;>cases ba .u32 c.C2.a0 4 !=0<;>cases(w9 m c.C2.a6 va access).G0 !=0<;>cases ud m va _<;>rfl
theorem W9{α:Type}{Q:α->Prop}{c:Bool}{x y:α}(hx:Q x)(hy:Q y):Q (cond c x y):=by cases c<;>assumption
theorem xaj(m:List Int)(root:Int){va:Int}(hv:U va)(access:Int):(w9 m root va access).G0=0->(w9 m root va access).Addr%4=va%4:=by
 have hc:BO access≠0:=by
   simp only[BO,K3,Tree.m]
   cases access==1<;>cases access==3<;>simp
 have q :(λt:rj=>t.G0=0->t.Addr%4=va%4) (w9 m root va access):=by
   simp only[w9,Gr,Tree.m,ee]
   repeat'(first
     |exact λe=>absurd e hc
     | (intro _
        show wrap .u32 (wrap .u32 (_*128)+cZ va 128)%4=va%4
        rw[dZ hv.1,wrap_u32,wrap_u32];omega)
     |refine W9 (Q:=λt:rj=>t.G0=0->t.Addr%4=va%4) ?_ ?_)
 exact q
theorem qK{m:List Int}{va:Int}(hv:U va)(hs:size=1\/size=4)(ha:access=1\/access=2\/access=3):(lH c m va size access).2.1=0->(lH c m va size access).1%size=0:=by
 have kn:NJ access=true:=by rcases ha with rfl|rfl|rfl<;>rfl
 have hc:BO access≠0:=by
  simp only[BO,K3,Tree.m]
  cases access==1<;>cases access==3<;>simp
 rcases hs with rfl|rfl
 ·intro _;omega
 simp only[lH,Iw,Tree.m,ee,kn]
 show(bif cZ va 4 !=0 then((0:Int),(3:Int),m)else _).2.1=0->(bif cZ va 4 !=0 then((0:Int),(3:Int),m)else _).1%4=0
 rw[dZ hv.1]
 cases hz:va%4 !=0
 ·have hz:va%4=0:=by simpa using hz
  have w:=xaj m c.C2.a6 hv access
  cases hp:W7 c
  ·cases hw:ud m va 4
   ·exactλe=>absurd e hc
   ·exactλ_=>hz
  ·cases hq:(w9 m c.C2.a6 va access).G0 !=0
   ·have hq:(w9 m c.C2.a6 va access).G0=0:=by simpa using hq
    exactλ_=>(w hq).trans hz
   ·have hq:¬(w9 m c.C2.a6 va access).G0=0:=by simpa using hq
    exactλe=>absurd e hq
 ·intro e;cases e
def dk:lj:={C3:=0,D8:=0,F8:=0,Value:=0}
def jH(c:bq)(m:List Int)(i:gv):bq×List Int×lj:=
 bif i.Op==32 then((tk c m i).1,(tk c m i).2,dk)else bif i.Op==33 then((tk c m i).1,(tk c m i).2,dk)else bif i.Op==34 then((tk c m i).1,(tk c m i).2,dk)
 else bif i.Op==35 then((BQ c m i).1,(BQ c m i).2,dk)else bif i.Op==36 then((BQ c m i).1,(BQ c m i).2,dk)else((Xa c i).1,m,(Xa c i).2)
def df(c:bq)(r:Int):Int:=aV (iv.l c.X) r.toNat 0
def pE(c:bq)(m:List Int)(i:gv):bq×lj×List Int:=
 bif decide (i.Op>=56)then((Xb c i).1,(Xb c i).2,m)else bif decide (i.Op>=40)then(Z5u c i,dk,m)else bif decide (i.Op>=32)then((Gs c m i).1,dk,(Gs c m i).2)
 else bif i.Op==24 then({X:=(lu c i.A (ep .u32 (wrap .u32 i.bz) 16)).X,Pc:=wrap .u32 ((lu c i.A (ep .u32 (wrap .u32 i.bz) 16)).Pc+4),C2:=(lu c i.A (ep .u32 (wrap .u32 i.bz) 16)).C2},dk,m)
 else bif decide (i.Op<=13)then
  ({X:=(lu c i.A (Dw i.Op (df c i.B) (df c i.C)).1).X,Pc:=wrap .u32 ((lu c i.A (Dw i.Op (df c i.B) (df c i.C)).1).Pc+4),C2:=(lu c i.A (Dw i.Op (df c i.B) (df c i.C)).1).C2},dk,m)
 else({X:=(lu c i.A (Dw i.Op (df c i.B) (wrap .u32 i.bz)).1).X,Pc:=wrap .u32 ((lu c i.A (Dw i.Op (df c i.B) (wrap .u32 i.bz)).1).Pc+4),C2:=(lu c i.A (Dw i.Op (df c i.B) (wrap .u32 i.bz)).1).C2},dk,m)
def oU(op:Int):Prop:=op=1\/op=2\/op=3\/op=4\/op=5\/op=6\/op=7\/op=8\/op=9\/op=10\/op=11\/op=12\/op=13\/op=16\/op=17\/op=18\/op=19\/op=20\/op=21\/op=22\/op=23\/op=24\/op=32\/op=33\/op=34\/op=35\/op=36\/op=40\/op=41\/op=42\/op=43\/op=44\/op=45\/op=48\/op=49\/op=56\/op=57\/op=58\/op=59\/op=60\/op=61\/op=62\/op=63\/op=64
theorem y0(c:bq)(r v:Int):(lu c r v).Pc=c.Pc/\(lu c r v).C2=c.C2:=by
 simp only[lu,Iv,Tree.m]
 cases decide (r>0)
 ·exact⟨rfl,rfl⟩
 ·cases decide (r<16)<;>exact⟨rfl,rfl⟩
def Ix(c:bq):bq:={X:=c.X,Pc:=wrap .u32 (c.Pc+4),C2:=c.C2}
def va(c:bq)(B bz:Int):Int:=wrap .u32 (aV (iv.l c.X) B.toNat 0+wrap .u32 bz)
def NQ(c:bq)(A v size:Int)(f:Int->Int)(y:Int×List Int×Int):bq×List Int:=bif y.2.2 !=0 then(pU c y.2.2 v,y.2.1)else(Ix (ue c A (f (BN y.2.1 y.1 size).1)),y.2.1)
def NR(c:bq)(A v size:Int)(f:Int->Int)(x:Int×Int×List Int):bq×List Int:=bif x.2.1 !=0 then(pD c x.2.1 v,x.2.2)else(Ix (lu c A (f (oF x.2.2 x.1 size).1)),x.2.2)
def SY(c:bq)(A v size:Int)(y:Int×List Int×Int):bq×List Int:=bif y.2.2 !=0 then(pU c y.2.2 v,y.2.1)else(Ix c,(KQ y.2.1 y.1 size (aV (iv.l c.X) A.toNat 0)).1)
def SZ(c:bq)(A v size:Int)(x:Int×Int×List Int):bq×List Int:=bif x.2.1 !=0 then(pD c x.2.1 v,x.2.2)else(Ix c,It x.2.2 x.1 size (aV (iv.l c.X) A.toNat 0))
theorem NS(c:bq)(m:List Int)(A B C bz:Int):
 (tk c m ⟨32,A,B,C,bz⟩=NQ c A (va c B bz) 4 (λv=>v) (rz c m (va c B bz) 4 2)/\Gs c m ⟨32,A,B,C,bz⟩=NR c A (va c B bz) 4 (λv=>v) (lH c m (va c B bz) 4 2))/\
 (tk c m ⟨33,A,B,C,bz⟩=NQ c A (va c B bz) 1 (λv=>Dr v 8) (rz c m (va c B bz) 1 2)/\Gs c m ⟨33,A,B,C,bz⟩=NR c A (va c B bz) 1 (λv=>Gm v 8) (lH c m (va c B bz) 1 2))/\
 (tk c m ⟨34,A,B,C,bz⟩=NQ c A (va c B bz) 1 (λv=>v) (rz c m (va c B bz) 1 2)/\Gs c m ⟨34,A,B,C,bz⟩=NR c A (va c B bz) 1 (λv=>v) (lH c m (va c B bz) 1 2))/\
 (BQ c m ⟨35,A,B,C,bz⟩=SY c A (va c B bz) 4 (rz c m (va c B bz) 4 3)/\Gs c m ⟨35,A,B,C,bz⟩=SZ c A (va c B bz) 4 (lH c m (va c B bz) 4 3))/\
 (BQ c m ⟨36,A,B,C,bz⟩=SY c A (va c B bz) 1 (rz c m (va c B bz) 1 3)/\Gs c m ⟨36,A,B,C,bz⟩=SZ c A (va c B bz) 1 (lH c m (va c B bz) 1 3)):=
 ⟨⟨by kernel_rfl,by kernel_rfl⟩,⟨by kernel_rfl,by kernel_rfl⟩,⟨by kernel_rfl,by kernel_rfl⟩,⟨by kernel_rfl,by kernel_rfl⟩,⟨by kernel_rfl,by kernel_rfl⟩⟩
theorem qak{m:List Int}(h:ej P m)(a:Int):Dr (oF m a 1).1 8=Gm (oF m a 1).1 8:=by
 have:∀x:Int×Bool,(∃w,U w/\x=(ba .u32 w 255,true))\/x=(0,false)->Dr x.1 8=Gm x.1 8:=λx hx=>by
  rcases hx with⟨w,hw,rfl⟩|rfl
  ·have e:=BJ hw
   exact sx8 (by show 0<=ba .u32 w 255;omega) (by show ba .u32 w 255<256;omega)
  ·rfl
 refine this _ ?_
 simp only[oF,Dv,Tree.m,ee]
 cases ud m a 1
 ·exact .inr rfl
 ·exact .inl ⟨_,w7 (AJ h.u _) _,rfl⟩
section
variable {P:Nat} {m:List Int} (h:ej P m) {c:bq} (hc:iI c) (jR:c.C2.a0<=31)
include h hc jR
omit jR in
theorem Xc(hv:U v)(hs:size=1\/size=4)(access:Int):ej P (lH c m v size access).2.2/\U (lH c m v size access).1/\((lH c m v size access).2.1=0->(lH c m v size access).1<128*P):=(Tree.pp (S0 h hc hv hs access)).2
theorem Xd(hA:0<=A/\A<16)(hv:U v)(hs:size=1\/size=4){f g:Int->Int}(hf:∀{m':List Int},ej P m'->∀a,f (oF m' a size).1=g (oF m' a size).1):NQ c A v size f (rz c m v size 2)=NR c A v size g (lH c m v size 2):=by
 rw[W8 h hc jR hv hs (.inr (.inl rfl))]
 obtain⟨k,u,_⟩:=Xc h hc hv hs 2
 generalize lH c m v size 2=x at*
 simp only[NQ,NR,NH k u hs,NL hc.a0.1 jR,SX c hA,hf k]
theorem yi(hv:U v)(hs:size=1\/size=4):SY c A v size (rz c m v size 3)=SZ c A v size (lH c m v size 3):=by
 rw[W8 h hc jR hv hs (.inr (.inr rfl))]
 obtain⟨k,u,b⟩:=Xc h hc hv hs 3
 have al:=qK (c:=c) (m:=m) hv hs (access:=3) (.inr (.inr rfl))
 generalize lH c m v size 3=x at*
 simp only[SY,SZ,Zcl k u hs,NL hc.a0.1 jR,NG k u hs]
 cases hq:x.2.1 !=0
 ·have hq:x.2.1=0:=by simpa using hq
  rw[dY ⟨al hq,b hq⟩];rfl
 ·rfl
end
theorem xK(c:bq)(k v:Int):(NT c k v).Pc=c.Pc:=by
 simp only[NT,K4,Tree.m]
 repeat'(first|rfl|refine W9 (Q:=λx:bq=>x.Pc=c.Pc) ?_ ?_)
def ja(c:bq)(A v p:Int):bq:={X:=(ue c A v).X,Pc:=p,C2:=(ue c A v).C2}
def Es(c:bq)(A v p:Int):bq:={X:=(lu c A v).X,Pc:=p,C2:=(lu c A v).C2}
def jA(c:bq):Int:=wrap .u32 (c.Pc+4)
theorem NU(c:bq)(hA:0<=A/\A<16)(v p:Int):ja c A v p=Es c A v p:=by
 unfold ja Es;rw[SX c hA]
theorem Xe(c:bq)(A v:Int):Ix (lu c A v)=Es c A v (jA c):=by
 unfold Ix Es jA;rw[(y0 c A v).1]
theorem K5(t:Bool)(x y:bq)(m:List Int):((bif t then(x,dk)else(y,dk)).1,m,(bif t then(x,dk)else(y,dk)).2)=((bif t then x else y),m,dk):=by cases t<;>rfl
def Gt(op:Int):Bool:=decide (op=1)||decide (op=2)||decide (op=3)||decide (op=4)||decide (op=5)||decide (op=6)||decide (op=7)||decide (op=8)||decide (op=9)||decide (op=10)||decide (op=11)||decide (op=12)||decide (op=13)||decide (op=16)||decide (op=17)||decide (op=18)||decide (op=19)||decide (op=20)||decide (op=21)||decide (op=22)||decide (op=23)||decide (op=24)||decide (op=32)||decide (op=33)||decide (op=34)||decide (op=35)||decide (op=36)||decide (op=40)||decide (op=41)||decide (op=42)||decide (op=43)||decide (op=44)||decide (op=45)||decide (op=48)||decide (op=49)||decide (op=56)||decide (op=57)||decide (op=58)||decide (op=59)||decide (op=60)||decide (op=61)||decide (op=62)||decide (op=63)||decide (op=64)
section
variable {P:Nat} {m:List Int} (h:ej P m) {c:bq} (hc:iI c) (jR:c.C2.a0<=31) {A B C bz:Int} (hA:0<=A/\A<16)
include h hc jR hA
theorem qj(rk:oU op):jH c m ⟨op,A,B,C,bz⟩=((pE c m ⟨op,A,B,C,bz⟩).1,(pE c m ⟨op,A,B,C,bz⟩).2.2,(pE c m ⟨op,A,B,C,bz⟩).2.1):=by
 have oV:∀{k y:Int},1<=k->k<=23->U y->((ja c A (ny k (df c B) y).1 (jA c),m,dk):bq×List Int×lj)=(Ix (lu c A (Dw k (df c B) y).1),m,dk):=λh1 h2 hy=>by
  rw[vJ h1 h2 (show U (df c B) from hc.r _) hy,Xe,NU c hA]
 have uC:U (df c C):=hc.r _
 have uI:U (wrap .u32 bz):=fk _
 obtain⟨⟨l1,l2⟩,⟨l3,l4⟩,⟨l5,l6⟩,⟨l7,l8⟩,⟨l9,l10⟩⟩:=NS c m A B C bz
 have Dx:U (va c B bz):=fk _
 rcases rk with rfl|rfl|rfl|rfl|rfl|rfl|rfl|rfl|rfl|rfl|rfl|rfl|rfl|rfl|rfl|rfl|rfl|rfl|rfl|rfl|rfl|rfl|rfl|rfl|rfl|rfl|rfl|rfl|rfl|rfl|rfl|rfl|rfl|rfl|rfl|rfl|rfl|rfl|rfl|rfl|rfl|rfl|rfl|rfl
 ·exact(show jH c m ⟨1,A,B,C,bz⟩=(ja c A (ny 1 (df c B) (df c C)).1 (jA c),m,dk) by kernel_rfl).trans ((oV (by decide) (by decide) uC).trans (by kernel_rfl))
 ·exact(show jH c m ⟨2,A,B,C,bz⟩=(ja c A (ny 2 (df c B) (df c C)).1 (jA c),m,dk) by kernel_rfl).trans ((oV (by decide) (by decide) uC).trans (by kernel_rfl))
 ·exact(show jH c m ⟨3,A,B,C,bz⟩=(ja c A (ny 3 (df c B) (df c C)).1 (jA c),m,dk) by kernel_rfl).trans ((oV (by decide) (by decide) uC).trans (by kernel_rfl))
 ·exact(show jH c m ⟨4,A,B,C,bz⟩=(ja c A (ny 4 (df c B) (df c C)).1 (jA c),m,dk) by kernel_rfl).trans ((oV (by decide) (by decide) uC).trans (by kernel_rfl))
 ·exact(show jH c m ⟨5,A,B,C,bz⟩=(ja c A (ny 5 (df c B) (df c C)).1 (jA c),m,dk) by kernel_rfl).trans ((oV (by decide) (by decide) uC).trans (by kernel_rfl))
 ·exact(show jH c m ⟨6,A,B,C,bz⟩=(ja c A (ny 6 (df c B) (df c C)).1 (jA c),m,dk) by kernel_rfl).trans ((oV (by decide) (by decide) uC).trans (by kernel_rfl))
 ·exact(show jH c m ⟨7,A,B,C,bz⟩=(ja c A (ny 7 (df c B) (df c C)).1 (jA c),m,dk) by kernel_rfl).trans ((oV (by decide) (by decide) uC).trans (by kernel_rfl))
 ·exact(show jH c m ⟨8,A,B,C,bz⟩=(ja c A (ny 8 (df c B) (df c C)).1 (jA c),m,dk) by kernel_rfl).trans ((oV (by decide) (by decide) uC).trans (by kernel_rfl))
 ·exact(show jH c m ⟨9,A,B,C,bz⟩=(ja c A (ny 9 (df c B) (df c C)).1 (jA c),m,dk) by kernel_rfl).trans ((oV (by decide) (by decide) uC).trans (by kernel_rfl))
 ·exact(show jH c m ⟨10,A,B,C,bz⟩=(ja c A (ny 10 (df c B) (df c C)).1 (jA c),m,dk) by kernel_rfl).trans ((oV (by decide) (by decide) uC).trans (by kernel_rfl))
 ·exact(show jH c m ⟨11,A,B,C,bz⟩=(ja c A (ny 11 (df c B) (df c C)).1 (jA c),m,dk) by kernel_rfl).trans ((oV (by decide) (by decide) uC).trans (by kernel_rfl))
 ·exact(show jH c m ⟨12,A,B,C,bz⟩=(ja c A (ny 12 (df c B) (df c C)).1 (jA c),m,dk) by kernel_rfl).trans ((oV (by decide) (by decide) uC).trans (by kernel_rfl))
 ·exact(show jH c m ⟨13,A,B,C,bz⟩=(ja c A (ny 13 (df c B) (df c C)).1 (jA c),m,dk) by kernel_rfl).trans ((oV (by decide) (by decide) uC).trans (by kernel_rfl))
 ·exact(show jH c m ⟨16,A,B,C,bz⟩=(ja c A (ny 16 (df c B) (wrap .u32 bz)).1 (jA c),m,dk) by kernel_rfl).trans ((oV (by decide) (by decide) uI).trans (by kernel_rfl))
 ·exact(show jH c m ⟨17,A,B,C,bz⟩=(ja c A (ny 17 (df c B) (wrap .u32 bz)).1 (jA c),m,dk) by kernel_rfl).trans ((oV (by decide) (by decide) uI).trans (by kernel_rfl))
 ·exact(show jH c m ⟨18,A,B,C,bz⟩=(ja c A (ny 18 (df c B) (wrap .u32 bz)).1 (jA c),m,dk) by kernel_rfl).trans ((oV (by decide) (by decide) uI).trans (by kernel_rfl))
 ·exact(show jH c m ⟨19,A,B,C,bz⟩=(ja c A (ny 19 (df c B) (wrap .u32 bz)).1 (jA c),m,dk) by kernel_rfl).trans ((oV (by decide) (by decide) uI).trans (by kernel_rfl))
 ·exact(show jH c m ⟨20,A,B,C,bz⟩=(ja c A (ny 20 (df c B) (wrap .u32 bz)).1 (jA c),m,dk) by kernel_rfl).trans ((oV (by decide) (by decide) uI).trans (by kernel_rfl))
 ·exact(show jH c m ⟨21,A,B,C,bz⟩=(ja c A (ny 21 (df c B) (wrap .u32 bz)).1 (jA c),m,dk) by kernel_rfl).trans ((oV (by decide) (by decide) uI).trans (by kernel_rfl))
 ·exact(show jH c m ⟨22,A,B,C,bz⟩=(ja c A (ny 22 (df c B) (wrap .u32 bz)).1 (jA c),m,dk) by kernel_rfl).trans ((oV (by decide) (by decide) uI).trans (by kernel_rfl))
 ·exact(show jH c m ⟨23,A,B,C,bz⟩=(ja c A (ny 23 (df c B) (wrap .u32 bz)).1 (jA c),m,dk) by kernel_rfl).trans ((oV (by decide) (by decide) uI).trans (by kernel_rfl))
 ·refine(show jH c m ⟨24,A,B,C,bz⟩=(ja c A (ep .u32 (wrap .u32 bz) 16) (jA c),m,dk) by kernel_rfl).trans ?_
  rw[NU c hA,<-Xe];kernel_rfl
 ·have e:=Xd h hc jR hA Dx (.inr rfl) (f:=λv=>v) (g:=λv=>v) (λ_ _=>rfl)
  rw[<-l1,<-l2]at e
  refine(show jH c m ⟨32,A,B,C,bz⟩=((tk c m ⟨32,A,B,C,bz⟩).1,(tk c m ⟨32,A,B,C,bz⟩).2,dk) by kernel_rfl).trans ?_
  rw[e];kernel_rfl
 ·have e:=Xd h hc jR hA Dx (.inl rfl) (f:=λv=>Dr v 8) (g:=λv=>Gm v 8) (λhm a=>qak hm a)
  rw[<-l3,<-l4]at e
  refine(show jH c m ⟨33,A,B,C,bz⟩=((tk c m ⟨33,A,B,C,bz⟩).1,(tk c m ⟨33,A,B,C,bz⟩).2,dk) by kernel_rfl).trans ?_
  rw[e];kernel_rfl
 ·have e:=Xd h hc jR hA Dx (.inl rfl) (f:=λv=>v) (g:=λv=>v) (λ_ _=>rfl)
  rw[<-l5,<-l6]at e
  refine(show jH c m ⟨34,A,B,C,bz⟩=((tk c m ⟨34,A,B,C,bz⟩).1,(tk c m ⟨34,A,B,C,bz⟩).2,dk) by kernel_rfl).trans ?_
  rw[e];kernel_rfl
 ·have e:=yi h hc jR (A:=A) Dx (.inr rfl)
  rw[<-l7,<-l8]at e
  refine(show jH c m ⟨35,A,B,C,bz⟩=((BQ c m ⟨35,A,B,C,bz⟩).1,(BQ c m ⟨35,A,B,C,bz⟩).2,dk) by kernel_rfl).trans ?_
  rw[e];kernel_rfl
 ·have e:=yi h hc jR (A:=A) Dx (.inl rfl)
  rw[<-l9,<-l10]at e
  refine(show jH c m ⟨36,A,B,C,bz⟩=((BQ c m ⟨36,A,B,C,bz⟩).1,(BQ c m ⟨36,A,B,C,bz⟩).2,dk) by kernel_rfl).trans ?_
  rw[e];kernel_rfl
 ·exact(show jH c m ⟨40,A,B,C,bz⟩=((bif(pV 40 (df c A) (df c B))then((⟨c.X,wrap .u32 (c.Pc+wrap .u32 (4*wrap .u32 bz)),c.C2⟩:bq),dk)else(⟨c.X,jA c,c.C2⟩,dk)).1,m,(bif(pV 40 (df c A) (df c B))then((⟨c.X,wrap .u32 (c.Pc+wrap .u32 (4*wrap .u32 bz)),c.C2⟩:bq),dk)else(⟨c.X,jA c,c.C2⟩,dk)).2) by kernel_rfl).trans ((K5 (pV 40 (df c A) (df c B)) ⟨c.X,wrap .u32 (c.Pc+wrap .u32 (4*wrap .u32 bz)),c.C2⟩ ⟨c.X,jA c,c.C2⟩ m).trans (by kernel_rfl))
 ·exact(show jH c m ⟨41,A,B,C,bz⟩=((bif(pV 41 (df c A) (df c B))then((⟨c.X,wrap .u32 (c.Pc+wrap .u32 (4*wrap .u32 bz)),c.C2⟩:bq),dk)else(⟨c.X,jA c,c.C2⟩,dk)).1,m,(bif(pV 41 (df c A) (df c B))then((⟨c.X,wrap .u32 (c.Pc+wrap .u32 (4*wrap .u32 bz)),c.C2⟩:bq),dk)else(⟨c.X,jA c,c.C2⟩,dk)).2) by kernel_rfl).trans ((K5 (pV 41 (df c A) (df c B)) ⟨c.X,wrap .u32 (c.Pc+wrap .u32 (4*wrap .u32 bz)),c.C2⟩ ⟨c.X,jA c,c.C2⟩ m).trans (by kernel_rfl))
 ·exact(show jH c m ⟨42,A,B,C,bz⟩=((bif(pV 42 (df c A) (df c B))then((⟨c.X,wrap .u32 (c.Pc+wrap .u32 (4*wrap .u32 bz)),c.C2⟩:bq),dk)else(⟨c.X,jA c,c.C2⟩,dk)).1,m,(bif(pV 42 (df c A) (df c B))then((⟨c.X,wrap .u32 (c.Pc+wrap .u32 (4*wrap .u32 bz)),c.C2⟩:bq),dk)else(⟨c.X,jA c,c.C2⟩,dk)).2) by kernel_rfl).trans ((K5 (pV 42 (df c A) (df c B)) ⟨c.X,wrap .u32 (c.Pc+wrap .u32 (4*wrap .u32 bz)),c.C2⟩ ⟨c.X,jA c,c.C2⟩ m).trans (by kernel_rfl))
 ·exact(show jH c m ⟨43,A,B,C,bz⟩=((bif(pV 43 (df c A) (df c B))then((⟨c.X,wrap .u32 (c.Pc+wrap .u32 (4*wrap .u32 bz)),c.C2⟩:bq),dk)else(⟨c.X,jA c,c.C2⟩,dk)).1,m,(bif(pV 43 (df c A) (df c B))then((⟨c.X,wrap .u32 (c.Pc+wrap .u32 (4*wrap .u32 bz)),c.C2⟩:bq),dk)else(⟨c.X,jA c,c.C2⟩,dk)).2) by kernel_rfl).trans ((K5 (pV 43 (df c A) (df c B)) ⟨c.X,wrap .u32 (c.Pc+wrap .u32 (4*wrap .u32 bz)),c.C2⟩ ⟨c.X,jA c,c.C2⟩ m).trans (by kernel_rfl))
 ·exact(show jH c m ⟨44,A,B,C,bz⟩=((bif(pV 44 (df c A) (df c B))then((⟨c.X,wrap .u32 (c.Pc+wrap .u32 (4*wrap .u32 bz)),c.C2⟩:bq),dk)else(⟨c.X,jA c,c.C2⟩,dk)).1,m,(bif(pV 44 (df c A) (df c B))then((⟨c.X,wrap .u32 (c.Pc+wrap .u32 (4*wrap .u32 bz)),c.C2⟩:bq),dk)else(⟨c.X,jA c,c.C2⟩,dk)).2) by kernel_rfl).trans ((K5 (pV 44 (df c A) (df c B)) ⟨c.X,wrap .u32 (c.Pc+wrap .u32 (4*wrap .u32 bz)),c.C2⟩ ⟨c.X,jA c,c.C2⟩ m).trans (by kernel_rfl))
 ·exact(show jH c m ⟨45,A,B,C,bz⟩=((bif(pV 45 (df c A) (df c B))then((⟨c.X,wrap .u32 (c.Pc+wrap .u32 (4*wrap .u32 bz)),c.C2⟩:bq),dk)else(⟨c.X,jA c,c.C2⟩,dk)).1,m,(bif(pV 45 (df c A) (df c B))then((⟨c.X,wrap .u32 (c.Pc+wrap .u32 (4*wrap .u32 bz)),c.C2⟩:bq),dk)else(⟨c.X,jA c,c.C2⟩,dk)).2) by kernel_rfl).trans ((K5 (pV 45 (df c A) (df c B)) ⟨c.X,wrap .u32 (c.Pc+wrap .u32 (4*wrap .u32 bz)),c.C2⟩ ⟨c.X,jA c,c.C2⟩ m).trans (by kernel_rfl))
 ·refine(show jH c m ⟨48,A,B,C,bz⟩=(ja c A (jA c) (wrap .u32 ((ue c A (jA c)).Pc+wrap .u32 (4*wrap .u32 bz))),m,dk) by kernel_rfl).trans ?_
  rw[NU c hA,SX c hA,(y0 c A (jA c)).1];kernel_rfl
 ·refine(show jH c m ⟨49,A,B,C,bz⟩=(ja c A (jA c) (va c B bz),m,dk) by kernel_rfl).trans ?_
  rw[NU c hA];kernel_rfl
 ·refine(show jH c m ⟨56,A,B,C,bz⟩=(pU c 7 0,m,dk) by kernel_rfl).trans ?_
  rw[NL hc.a0.1 jR];kernel_rfl
 ·refine(show jH c m ⟨57,A,B,C,bz⟩=(KD c,m,dk) by kernel_rfl).trans ?_
  rw[Zmg hc.a0.1 jR];kernel_rfl
 ·refine(show jH c m ⟨58,A,B,C,bz⟩=(ja c A (aV (A8.l c.C2) bz.toNat 0) (jA c),m,dk) by kernel_rfl).trans ?_
  rw[NU c hA,<-Xe];kernel_rfl
 ·have e:=xK c (wrap .i64 bz) (df c A)
  refine(show jH c m ⟨59,A,B,C,bz⟩=((⟨(NT c (wrap .i64 bz) (df c A)).X,wrap .u32 (c.Pc+4),(NT c (wrap .i64 bz) (df c A)).C2⟩:bq),m,dk) by kernel_rfl).trans ?_
  rw[<-e];kernel_rfl
 ·exact(show jH c m ⟨60,A,B,C,bz⟩=((pE c m ⟨60,A,B,C,bz⟩).1,(pE c m ⟨60,A,B,C,bz⟩).2.2,(pE c m ⟨60,A,B,C,bz⟩).2.1) by kernel_rfl)
 ·exact(show jH c m ⟨61,A,B,C,bz⟩=((pE c m ⟨61,A,B,C,bz⟩).1,(pE c m ⟨61,A,B,C,bz⟩).2.2,(pE c m ⟨61,A,B,C,bz⟩).2.1) by kernel_rfl)
 ·exact(show jH c m ⟨62,A,B,C,bz⟩=((pE c m ⟨62,A,B,C,bz⟩).1,(pE c m ⟨62,A,B,C,bz⟩).2.2,(pE c m ⟨62,A,B,C,bz⟩).2.1) by kernel_rfl)
 ·exact(show jH c m ⟨63,A,B,C,bz⟩=((pE c m ⟨63,A,B,C,bz⟩).1,(pE c m ⟨63,A,B,C,bz⟩).2.2,(pE c m ⟨63,A,B,C,bz⟩).2.1) by kernel_rfl)
 ·exact(show jH c m ⟨64,A,B,C,bz⟩=((pE c m ⟨64,A,B,C,bz⟩).1,(pE c m ⟨64,A,B,C,bz⟩).2.2,(pE c m ⟨64,A,B,C,bz⟩).2.1) by kernel_rfl)
end
theorem zak(h0:0<=op)(h1:op<256)(h:oE op≠0):oU op:=by
 have e:=oY (Eo (λop=>decide (oE op=0\/Gt op=true)) 256 (by kernel_rfl) h0 h1)
 rcases e with e|e
 ·exact absurd e h
 ·simpa only[Gt,oU,aT,decide_eq_true_eq,or_assoc]using e
theorem xj(o:oU op):1<=op/\op<=64:=by
 unfold oU at o
 rcases o with h|h|h|h|h|h|h|h|h|h|h|h|h|h|h|h|h|h|h|h|h|h|h|h|h|h|h|h|h|h|h|h|h|h|h|h|h|h|h|h|h|h|h|h<;>(rw[h];decide)
theorem zj(hw:U w):(AI w).2=true->oU (AI w).1.Op:=by
 have ub:bb .u32 w 24=w/16777216:=by have:=Dm (a:=w) 24 (by decide);simpa using this
 obtain⟨w0,w1⟩:=hw
 have eo:wrap .i64 (w/16777216)=w/16777216:=HV (by omega) (by omega)
 have q:(λr:gv×Bool=>r.2=true->oU r.1.Op) (AI w):=by
  simp only[AI,KM,Tree.m,ee,ub,eo]
  cases hf:oE (w/16777216)==0
  ·have g:oU (w/16777216):=zak (by omega) (by omega) (by simpa using hf)
   repeat'(first
    |exactλ_=>g
    |exactλe=>eH (show false=true from e)
    |refine W9 (Q:=λr:gv×Bool=>r.2=true->oU r.1.Op) ?_ ?_)
  ·exactλe=>eH (show false=true from e)
 exact q
section
variable (c:bq) (m:List Int)
def S1(x:Int×Int×List Int)(w:Int)(d:gv×Bool):bq×lj×List Int:=
 bif x.2.1 !=0 then(pD c x.2.1 c.Pc,dk,x.2.2)else bif !d.2 then(pD c 1 w,dk,x.2.2)else bif KI d.1.Op then(bif ba .u32 c.C2.a0 1==0 then(pD c 2 w,dk,x.2.2)else pE c x.2.2 d.1)else pE c x.2.2 d.1
def NV(y:Int×List Int×Int)(d:gv×Bool):bq×List Int×lj:=
 bif y.2.2 !=0 then(pU c y.2.2 c.Pc,y.2.1,dk)else bif !d.2 then(pU c 1 y.1,y.2.1,dk)else bif NB d.1.Op then(bif !Iu c then(pU c 2 y.1,y.2.1,dk)else jH c y.2.1 d.1)else jH c y.2.1 d.1
theorem NW:AK c m=S1 c (lH c m c.Pc 4 1) (oF (lH c m c.Pc 4 1).2.2 (lH c m c.Pc 4 1).1 4).1 (AI (oF (lH c m c.Pc 4 1).2.2 (lH c m c.Pc 4 1).1 4).1):=by kernel_rfl
theorem xak:BR c m=NV c (S2 c m) (NF (S2 c m).1):=by kernel_rfl
theorem zK:S2 c m=bif(rz c m c.Pc 4 1).2.2 !=0 then(0,(rz c m c.Pc 4 1).2.1,(rz c m c.Pc 4 1).2.2)else((BN (rz c m c.Pc 4 1).2.1 (rz c m c.Pc 4 1).1 4).1,(rz c m c.Pc 4 1).2.1,0):=by kernel_rfl
end
theorem yj{m:List Int}(h:ej P m)(hc:iI c)(jR:c.C2.a0<=31):BR c m=((AK c m).1,(AK c m).2.2,(AK c m).2.1):=by
 obtain⟨k,u,b⟩:=Xc h hc hc.pc (.inr rfl) 1
 have tr:∀k b,pU c k b=pD c k b:=NL hc.a0.1 jR
 rw[xak,NW,zK,W8 h hc jR hc.pc (.inr rfl) (.inl rfl)]
 generalize lH c m c.Pc 4 1=x at*
 cases hx:x.2.1 !=0
 ·rw [NH k u (.inr rfl)]
  have hw:U (oF x.2.2 x.1 4).1:=(Tree.pp (Zip k u (.inr rfl))).2
  generalize(oF x.2.2 x.1 4).1=w at*
  show NV c (w,x.2.2,0) (NF w)=_
  rw[vg hw]
  have o:=zj hw
  have i:=Tree.post _ (Zop w)
  change(AI w).2=true->sj (AI w).1 at i
  generalize AI w=d at*
  obtain⟨⟨op,A,B,C,bz⟩,ok⟩:=d
  cases ok
  ·simp only[NV,S1,hx,tr];rfl
  ·have o:oU op:=o rfl
   have i:=i rfl
   have p:=qj (C:=C) (B:=B) (bz:=bz) k hc jR i.a o
   have pv:NB op=KI op:=xai (by have:=xj o;omega) (by have:=xj o;omega)
   have kn:(!Iu c)=(ba .u32 c.C2.a0 1==0):=by
    show(!(!(ba .u32 c.C2.a0 1==0)))=_
    exact Bool.not_not _
   simp only[NV,S1,hx,tr,pv,kn,p]
   cases KI op
   ·rfl
   ·cases ba .u32 c.C2.a0 1==0<;>rfl
 ·simp only[NV,S1,hx,cond_true,tr]
theorem qk{a b:Int}:decide (a>=b)=!decide (a<b):=by
 by_cases h:a<b
 ·rw[dY h,dN (by omega)];rfl
 ·rw[dN h,dY (by omega)];rfl
def bits(g:Int)(l:List Nat)(s:Int):Int:=l.foldl (λ(a:Int) (i:Nat)=>wrap .i64 (a+wrap .i64 (ba .u32 (bb .u32 g (i:Int)) 1))) s
theorem yK(b:gl):K6 b=bits b.D0 [0,1,2,3,4,5,6,7,8,9,10,11,12,13,14,15,16,17,18,19,20,21,22,23,24,25,26,27,28,29,30,31] 0:=by kernel_rfl
theorem xaE(hg:U g){i:Nat}(hi:i<=32):wrap .i64 (ba .u32 (bb .u32 g (i:Int)) 1)=g/2^i%2:=by
 rw[Et (w7 hg _),Dm i hi]
 have:0<=g/2^i%2/\g/2^i%2<2:=by omega
 exact HV (by omega) (by omega)
theorem vK(hg:U g)(l:List Nat):∀s:Int,(∀i∈l,i<=32)->0<=s->s+l.length<=1000->bits g l s=s+(l.map λi=>g/2^i%2).sum:=by
 induction l with
 |nil=>intro s _ _ _;simp[bits]
 |cons i l ih=>
  intro s hl h0 h1
  have h1:s+(l.length+1)<=1000:=by simpa using h1
  have hb:0<=g/2^i%2/\g/2^i%2<2:=by omega
  have e:bits g (i::l) s=bits g l (s+g/2^i%2):=by
   show bits g l (wrap .i64 (s+wrap .i64 (ba .u32 (bb .u32 g (i:Int)) 1)))=_
   rw[xaE hg (hl i (by simp)),HV (by omega) (by omega)]
  rw[e,ih _ (λj hj=>hl j (by simp[hj])) (by omega) (by omega)]
  simp;omega
theorem Zsu(n:gw)(port:Int):KC n port=S3 n port:=by
 simp only[KC,Nw,S3,NX,Tree.m]
 cases n.D1<;>cases n.C4<;>rfl
theorem Z9o(t:iT):AE t=S4 t:=by
 simp only[AE,SF,S4,Xf,Tree.m]
 cases t.F0<;>cases t.E0<;>rfl
theorem Zkw(n:gw)(p:Int):u5 n p=S5 n p:=by
 simp only[u5,Nq,S5,Xg,Tree.m]
 cases n.D1<;>cases n.C4<;>rfl
theorem Zf6(d:fw)(p:Int):pT d p=S6 d p:=by
  simp only[pT,Ei,SD,Np,S6,Xh,Tree.m,ee,qk]
  cases decide (d.ae>64)
  . by_cases s:d.C8=0\/d.C8=1\/d.C8=2\/d.C8=3
    . rcases s with s|s|s|s<;>rw[s]
      . rfl
      . by_cases c1:d.F6=1
        . rw[c1];cases decide (d.C5<d.ae)<;>cases decide (wrap .i64 d.C6<p)<;>cases decide (d.C7=[])<;>rfl
        . by_cases c2:d.F6=2
          . rw[c2];cases decide (d.C5<d.ae)<;>cases decide (wrap .i64 d.C6<p)<;>cases(d.C7.length:Int)==128<;>rfl
          . rw[show(d.F6==1)=false by simpa using c1,show(d.F6==2)=false by simpa using c2]
            cases decide (d.C5<d.ae)<;>cases decide (wrap .i64 d.C6<p)<;>rfl
      . rfl
      . rfl
    . rw[show(d.C8==0)=false by simp;omega,show(d.C8==1)=false by simp;omega,show(d.C8==2)=false by simp;omega,show(d.C8==3)=false by simp;omega]
      by_cases n:d.C8<0
      . rw[dY n];rfl
      . rw[dN n,dY (show d.C8>3 by omega)];rfl
  . rfl
theorem qL(c:iK):S7 c=S8 c:=by
 show(!decide (c.D9=[]))=decide ((c.D9.length:Int)>0)
 cases c.D9 with
 |nil=>rfl
 |cons a l=>rw[dN (by simp),dY (by simp)];rfl
theorem qal(k:List UInt8):decide (k=[])=((k.length:Int)==0):=by
 cases k with
 |nil=>rfl
 |cons a l=>
  rw[dN (by simp)]
  exact(beq_eq_false_iff_ne.2 (by simp;omega)).symm
theorem Zrs(c:iK)(port:Int):Xi c port=K7 c port:=by
 simp only[Xi,Ie,K7,Gu,Tree.m,qal]
 cases port==0
 ·rfl
 ·cases(c.D9.length:Int)==0<;>rfl
theorem xL(t:iT)(v:Int):Nr t v=Xj v:=by
 simp only[Nr,SE,Xj,Xk,Tree.m]
 cases h:v==0
 ·rw[show(v !=0)=true by simp only[bne,h];rfl];rfl
 ·rw[show(v !=0)=false by simp only[bne,h];rfl,eq_of_beq h];rfl
section
variable {P:Nat} {m:List Int} (h:ej P m)
include h
theorem Zrb(f:Int):Qf m f=tn m f:=by
 have a:=tZ h
 have b:=Dt h
 simp only[Qf,SB,tn,NY,Tree.m,ee,a,b]
theorem Ztd(f:Int):Ku m f=tn m f:=by
 have a:=tZ h
 have b:=Dt h
 simp only[Ku,SC,tn,NY,Tree.m,ee,a,b]
theorem Zid(d:fw)(port v gg:Int):Xl d m port v gg=Xm d m port v gg:=by
  have pg:=Zrb h
  have pa:=Zh h
  have rq: ∀d a,Xn d a=Xo d a:=λ_ _=>rfl
  simp only[Xl,Qj,Qzr,Kv,Xm,K8,Tree.m,ee,pg,pa,rq]
  cases port==4
  . cases port==5
    . cases h6:port==6
      . rw[show(port !=6)=true by simp only[bne,h6];rfl];rfl
      . rw [show(port !=6)=false by simp only[bne,h6];rfl]
        by_cases v1:v=1
        . subst v1
          cases hs:d.C8==0
          . rw[show(d.C8 !=0)=true by simp only[bne,hs];rfl];rfl
          . rw[show(d.C8 !=0)=false by simp only[bne,hs];rfl];rfl
        . by_cases v2:v=2
          . subst v2
            cases hs:d.C8==0
            . rw[show(d.C8 !=0)=true by simp only[bne,hs];rfl];rfl
            . rw[show(d.C8 !=0)=false by simp only[bne,hs];rfl];rfl
          . rw[show(v==1)=false by simpa using v1,show(v==2)=false by simpa using v2]
            cases v==0
            . rfl
            . have:Kw d=(bif d.C8==2 then true else d.C8==3):=rfl
              rw[this]
              cases d.C8==2<;>cases d.C8==3<;>rfl
    . rfl
  . rfl
theorem Zmv(n:gw)(port v gg:Int):Xp n m port v gg=Xq n m port v gg:=by
  have pg:=Ztd h
  have pa:=Zh h
  simp only[Xp,Ky,Zd7,Kx,Xq,K9,Tree.m,ee,pg,pa]
  have g1:decide (n.F7>=1)=!decide (n.F7<1):=qk
  have g2:decide (n.F7<=128)=!decide (n.F7>128):=by
    by_cases h:n.F7>128
    . rw[dY h,dN (by omega)];rfl
    . rw[dN h,dY (by omega)];rfl
  rw[g1,g2]
  cases port==7
  . cases port==8
    . cases h9:port==9
      . rw[show(port !=9)=true by simp only[bne,h9];rfl];rfl
      . rw [show(port !=9)=false by simp only[bne,h9];rfl]
        by_cases v1:v=1
        . subst v1
          cases decide (n.F7<1)<;>cases decide (n.F7>128)<;>cases tn m n.Frame<;>rfl
        . by_cases v2:v=2
          . subst v2;rfl
          . rw[show(v==1)=false by simpa using v1,show(v==2)=false by simpa using v2]
            cases v==0<;>rfl
    . rfl
  . rfl
end
def Xr:List UInt8:=(cW 256).map λn=>eD (n%2+n/2%2+n/4%2+n/8%2+n/16%2+n/32%2+n/64%2+n/128%2)
def pt(n:Int):Int:=((UInt8.toNat (Xr.getD n.toNat 0):Nat):Int)
theorem zL(x:Int):Xs x=wrap .i64 (wrap .u8 (wrap .u8 (wrap .u8 (pt (bb .u32 x 24)+pt (ba .u32 (bb .u32 x 16) 255))+pt (ba .u32 (bb .u32 x 8) 255))+pt (ba .u32 x 255))):=by kernel_rfl
theorem NZ(h0:0<=a)(h1:a<256):pt a=a%2+a/2%2+a/4%2+a/8%2+a/16%2+a/32%2+a/64%2+a/128%2:=
 eq_of_beq (Eo (λa=>pt a==a%2+a/2%2+a/4%2+a/8%2+a/16%2+a/32%2+a/64%2+a/128%2) 256 (by kernel_rfl) h0 h1)
theorem xk(hg:U g):bits g [0,1,2,3,4,5,6,7,8,9,10,11,12,13,14,15,16,17,18,19,20,21,22,23,24,25,26,27,28,29,30,31] 0=pt (g%256)+pt (g/256%256)+pt (g/65536%256)+pt (g/16777216):=by
 rw[vK hg _ 0 (by decide) (by decide) (by decide),NZ (by omega) (by omega),NZ (by omega) (by omega),NZ (by omega) (by omega),NZ (by have:=hg.1;omega) (by have:=hg.2;omega)]
 obtain⟨g0,g1⟩:=hg
 simp only[List.map_cons,List.map_nil,List.sum_cons,List.sum_nil]
 have e:∀i j:Nat,∀k:Int,i<8->k=2^j->g/2^(i+j)%2=(g/k%256)/2^i%2:=λi j k hi hk=>by
  subst hk
  rw[Nat.add_comm,dL,<-eI (dK (dI (by decide)))]
  generalize g/2^j=x
  have:i=0\/i=1\/i=2\/i=3\/i=4\/i=5\/i=6\/i=7:=by omega
  rcases this with rfl|rfl|rfl|rfl|rfl|rfl|rfl|rfl<;>simp<;>omega
 have e0:∀i:Nat,i<8->g/2^i%2=(g%256)/2^i%2:=λi hi=>by have:=e i 0 1 hi rfl;simpa using this
 have e24:g/16777216%256=g/16777216:=by omega
 rw[e0 0 (by decide),e0 1 (by decide),e0 2 (by decide),e0 3 (by decide),e0 4 (by decide),e0 5 (by decide),e0 6 (by decide),e0 7 (by decide)]
 rw[e 0 8 256 (by decide) (by decide),e 1 8 256 (by decide) (by decide),e 2 8 256 (by decide) (by decide),e 3 8 256 (by decide) (by decide),e 4 8 256 (by decide) (by decide),e 5 8 256 (by decide) (by decide),e 6 8 256 (by decide) (by decide),e 7 8 256 (by decide) (by decide)]
 rw[e 0 16 65536 (by decide) (by decide),e 1 16 65536 (by decide) (by decide),e 2 16 65536 (by decide) (by decide),e 3 16 65536 (by decide) (by decide),e 4 16 65536 (by decide) (by decide),e 5 16 65536 (by decide) (by decide),e 6 16 65536 (by decide) (by decide),e 7 16 65536 (by decide) (by decide)]
 rw[e 0 24 16777216 (by decide) (by decide),e 1 24 16777216 (by decide) (by decide),e 2 24 16777216 (by decide) (by decide),e 3 24 16777216 (by decide) (by decide),e 4 24 16777216 (by decide) (by decide),e 5 24 16777216 (by decide) (by decide),e 6 24 16777216 (by decide) (by decide),e 7 24 16777216 (by decide) (by decide),e24]
 generalize g%256=a
 generalize g/256%256=b
 generalize g/65536%256=c
 generalize g/16777216=d
 simp only[show(2:Int)^0=1 from rfl,show(2:Int)^1=2 from rfl,show(2:Int)^2=4 from rfl,show(2:Int)^3=8 from rfl,show(2:Int)^4=16 from rfl,show(2:Int)^5=32 from rfl,show(2:Int)^6=64 from rfl,show(2:Int)^7=128 from rfl,Int.ediv_one]
 omega
theorem wc(h0:0<=a)(h1:a<256):0<=pt a/\pt a<=8:=by rw[NZ h0 h1];omega
theorem Zba(hg:U b.D0):S9 b=K6 b/\0<=K6 b/\K6 b<=32:=by
 obtain⟨s8,AH,ub⟩:=Gp b.D0
 have u8:U (bb .u32 b.D0 8):=w7 hg _
 have u16:U (bb .u32 b.D0 16):=w7 hg _
 have e:S9 b=Xs b.D0:=rfl
 rw[e,zL,yK,xk hg,BJ u8,BJ u16,BJ hg,s8,AH,ub]
 obtain⟨g0,g1⟩:=hg
 have p0:=wc (a:=b.D0%256) (by omega) (by omega)
 have p1:=wc (a:=b.D0/256%256) (by omega) (by omega)
 have p2:=wc (a:=b.D0/65536%256) (by omega) (by omega)
 have p3:=wc (a:=b.D0/16777216) (by omega) (by omega)
 have w8:∀x,wrap .u8 x=x%256:=λx=>wrap_u8 x
 rw[w8,w8,w8,wrap_i64]
 omega
theorem Zi0(h:okB b):N0 b=N1 b:=by
 obtain⟨e,l0,l1⟩:=Zba h.2
 obtain⟨t0,t1⟩:=h.1
 simp only[N0,La,N1,Xt,Tree.m,ee,e]
 rw[wrap_u32,wrap_u64,wrap_u64,dH l0 (by omega),dH l0 (by omega),dH t0 (by omega)]
theorem Zrk(h:okB b)(port:Int):Xu b port=Lb b port:=by
 simp only[Xu,Qd,Lb,Lc,Tree.m,ee,(Zba h.2).1]
theorem zal(g:Int)(z:Nat):g%2^(z+1)=g%2^z+2^z*(g/2^z%2):=by
 have hp:(0:Int)<2^z:=dI (by decide)
 have h1:=eJ g (2^z)
 have h2:=eJ (g/2^z) 2
 have h3:(g/2^z)/2=g/2^(z+1):=by rw[eK,eI (dK hp)]
 have h4:=eJ g (2^(z+1))
 rw[h3]at h2
 have h5:(2:Int)^(z+1)*(g/2^(z+1))=2^z*(2*(g/2^(z+1))):=by rw[eK,Int.mul_assoc]
 have h6:(2:Int)^z*(g/2^z)=2^z*(2*(g/2^(z+1)))+2^z*(g/2^z%2):=by rw[<-Int.mul_add,h2]
 omega
theorem qaF(hg:U b.D0)(hP:P<=32):(Ld b P).w (λr=>r=decide (b.D0<2^P)):=by
 unfold Ld
 have fin:∀v:Int,0<=v->v<=32->wrap .u64 v=(v.toNat:Int):=λv h0 h1=>by rw[wrap_u64];omega
 refine fj (inv:=λz:Int=>0<=z/\z<=32/\b.D0%2^z.toNat<2^P) (μ:=Ta b P) ⟨by decide,by decide,by have:(0:Int)<2^P:=dI (by decide);simpa using this⟩ (cN _) λz ⟨z0,z1,z2⟩=>?_
 refine ab (λhb=>?_) (λhb=>?_)
 ·have hb:=oY hb
  have ew:i64.wrap (z+1)=z+1:=HV (by omega) (by omega)
  have bt:ba .u32 (bb .u32 b.D0 (wrap .u64 z)) 1=b.D0/2^z.toNat%2:=by
   rw[fin z z0 z1,Et (w7 hg _),Dm _ (by omega)]
  have bp:=zal b.D0 z.toNat
  have zt:(z+1).toNat=z.toNat+1:=by omega
  refine ax (dY (by rw[wrap_u64];omega)) ?_
  rw[bt]
  refine ab (λe=>ab (λhp=>?_) (λhp=>ez ?_)) (λe=>ez ?_)
  ·have e:=eq_of_beq e
   have hp:=oY hp
   show false=_
   refine(dN λbg=>?_).symm
   have hle:(2:Int)^P<=2^z.toNat:=by exact_mod_cast dO (show 0<2 by decide) (show P<=z.toNat by omega)
   have:b.D0/2^z.toNat=0:=Int.ediv_eq_zero_of_lt hg.1 (by omega)
   rw[this]at e;cases e
  ·have e:=eq_of_beq e
   have hp:=oN hp
   show(0<=i64.wrap (z+1)/\i64.wrap (z+1)<=32/\b.D0%2^(i64.wrap (z+1)).toNat<2^P)/\(32-i64.wrap (z+1)).toNat<(32-z).toNat
   rw[ew,zt]
   have hle:(2:Int)^(z.toNat+1)<=2^P:=by exact_mod_cast dO (show 0<2 by decide) (show z.toNat+1<=P by omega)
   have:=Int.emod_lt_of_pos b.D0 (show(0:Int)<2^(z.toNat+1) from dI (by decide))
   exact⟨⟨by omega,by omega,by omega⟩,by omega⟩
  ·have e:¬b.D0/2^z.toNat%2=1:=by simpa using e
   have e:b.D0/2^z.toNat%2=0:=by omega
   rw[e]at bp
   show(0<=i64.wrap (z+1)/\i64.wrap (z+1)<=32/\b.D0%2^(i64.wrap (z+1)).toNat<2^P)/\(32-i64.wrap (z+1)).toNat<(32-z).toNat
   rw[ew,zt,bp]
   exact⟨⟨by omega,by omega,by omega⟩,by omega⟩
 ·have hb:=oN hb
  have:z=32:=by omega
  subst this
  show true=_
  refine(dY ?_).symm
  have h2:b.D0%2^(32:Int).toNat=b.D0:=dH hg.1 hg.2
  rwa [h2]at z2
theorem Znc(hg:U b.D0)(hP:P<=32):AF b P=Tb b P:=by
 have r:=(Tree.pp (qaF hg hP)).2
 change Tb b P=_ at r
 rw[r,eB,Nt hg,decide_eq_true_eq]
theorem N2:strings_Repeat [(0:UInt8)] 128=cO 128 0:=by kernel_rfl
theorem zaF{m:List Int}(hm:ej P m){port:Int}(hv:U v)(hp:v<P)(Iy:port=10)(hb:(ba .u32 (bb .u32 b.D0 v) 1==0)=true):(AL b m port v).w (λr=>r.1={A2:=b.A2,D0:=iH .u32 b.D0 (ep .u32 1 v)}/\ej P r.2/\∀k:Nat,lr r.2 k=if v*128<=k/\(k:Int)<v*128+128 then 0 else lr m k):=by
 have Dk:decide (0<=v)=true:=dY hv.1
 have h2:=hm.p2
 have pg:tn m v=true:=by rw[Tc hm hv];exact dY hp
 obtain⟨v1,v2⟩:=hv
 subst Iy
 unfold AL
 refine ab (λ_=>aq λx0 hx=>ab (λ_=>ax Dk (ab (λ_=>ax Dk ?_) (λh=>by rw[hb]at h;cases h))) (λh=>by rw[hx,pg]at h;cases h)) (λh=>by cases h)
 refine fj (inv:=λz=>0<=z.1/\z.1<=32/\ej P z.2/\∀k:Nat,lr z.2 k=if v*128<=k/\(k:Int)<v*128+4*z.1 then 0 else lr m k) (μ:=Xv b m 10 v) ⟨show(0:Int)<=0 by decide,show(0:Int)<=32 by decide,hm,λk=>by rw[if_neg];show¬(_/\_<_+4*(0:Int));omega⟩ (cN _) (λz hz=>?_)
 obtain⟨z1,z2,z3,z4⟩:=hz
 have hl:=z3.len
 refine ab (λh=>?_) (λh=>⟨rfl,z3,λk=>?_⟩)
 ·have h:=oY h
  have e:wrap i64 (wrap i64 (wrap i64 v*32)+z.1)=v*32+z.1:=by rw[wrap_i64,wrap_i64,wrap_i64];omega
  refine ax (by rw[e];simp[bN];omega) (ez ?_)
  have ew:i64.wrap (z.1+1)=z.1+1:=by rw[wrap_i64];omega
  show(0<=i64.wrap (z.1+1)/\i64.wrap (z.1+1)<=32/\ej P (dB _ _ _)/\∀k:Nat,lr (dB z.2 (dA (wrap i64 (wrap i64 (wrap i64 v*32)+z.1))) 0) k=if v*128<=(k:Int)/\(k:Int)<v*128+4*i64.wrap (z.1+1)then 0 else _)/\(32-i64.wrap (z.1+1)).toNat<(32-z.1).toNat
  rw[ew,e]
  refine⟨⟨by omega,by omega,⟨by simp[hl],z3.p1,z3.p2,Eg z3.u gd _⟩,λk=>?_⟩,by omega⟩
  rw[zh (by omega)]
  by_cases hc:k/4=(v*32+z.1).toNat
  ·rw[if_pos hc,if_pos (by omega)]
   have:k%4=0\/k%4=1\/k%4=2\/k%4=3:=by omega
   rcases this with h|h|h|h<;>rw[h]<;>rfl
  ·rw[if_neg hc,z4 k]
   by_cases hd:v*128<=(k:Int)/\(k:Int)<v*128+4*z.1
   ·rw[if_pos hd,if_pos (by omega)]
   ·rw[if_neg hd,if_neg (by omega)]
 ·have h:=oN h
  show lr z.2 k=_
  rw[z4 k,show z.1=32 by omega];rfl
theorem Xw(hg:U g)(v0:0<=v)(v1:v<32):(ba .u32 g (ep .u32 1 v)==0)=(ba .u32 (bb .u32 g v) 1==0):=by
 obtain⟨z,rfl⟩:∃z:Nat,v=z:=⟨v.toNat,by omega⟩
 obtain⟨n,rfl⟩:∃n:Nat,g=n:=⟨g.toNat,by have:=hg.1;omega⟩
 have hz:z<32:=by omega
 have bg:(2:Nat)^z<4294967296:=by have:=dW (show 1<2 by omega) hz;simpa using this
 rw[Et (w7 hg _),Dm z (by omega),qg v0 v1,dX]
 have hc:((2:Int)^z)=((2^z:Nat):Int):=by simp
 generalize hq:2^z=q at*
 rw[hc,WN hg ⟨by omega,by omega⟩,dX,dX,<-hq]
 have e1:(n&&&2^z)=0↔n/2^z%2=0:=by
  have t:n.testBit z=decide (n/2^z%2=1):=Nat.testBit_eq_decide_div_mod_eq
  constructor
  ·intro h
   have h2:(n&&&2^z).testBit z=false:=by rw[h];exact eL z
   rw[eM,Nat.testBit_two_pow_self,Bool.and_true,t]at h2
   have:=oN h2
   omega
  ·intro h
   have t0:n.testBit z=false:=by rw[t];exact dN (by omega)
   apply Nat.eq_of_testBit_eq
   intro i
   rw[eM,Nat.testBit_two_pow,eL]
   by_cases hi:z=i
   ·subst hi;rw[t0];rfl
   ·rw[dN hi,Bool.and_false]
 rw[eB,beq_iff_eq,beq_iff_eq]
 constructor
 ·intro h;have:=e1.1 (by omega);omega
 ·intro h;have:=e1.2 (by omega);omega
theorem Zli{m:List Int}(h:ej P m)(hb:okB b)(port:Int)(hv:U v):Gv b m port v=AM b m port v:=by
  have jg:ko m=m:=rfl
  have hp:=tZ h
  have h2:=h.p2
  have ew:i64.wrap v=v:=HV (by have:=hv.1;omega) (by have:=hv.2;omega)
  have pe:=Tc h hv
  by_cases Xx:v<32
  . have bv :=Xw hb.2 hv.1 Xx
    by_cases Iy:port=10
    . by_cases hP:v<P
      . cases hz:ba .u32 (bb .u32 b.D0 v) 1==0
        . simp only[Gv,Dp,AM,AL,Tree.m,ee,jg,hp,ew,pe,bv,hz,Iy,dY hP,dN (show¬v>=32 by omega)]
          rfl
        . obtain⟨g1,g2,g3⟩:=(Tree.pp (zaF h hv hP Iy hz)).2
          change(AM b m port v).1=_ at g1
          change ej P (AM b m port v).2 at g2
          change∀k:Nat,lr (AM b m port v).2 k=_ at g3
          obtain⟨s1,s2,s3⟩:=(Tree.pp (WV h hv.1 hP (s:=cO 128 0) (by simp))).2
          have em:(rA m v (cO 128 0)).1=(AM b m port v).2:=by
            refine xh (s2.len.trans g2.len.symm) s2.u g2.u λk=> ?_
            rw[g3 k]
            refine(s3 k).trans ?_
            by_cases hk:v*128<=(k:Int)/\(k:Int)<v*128+128
            . rw[if_pos hk,if_pos hk]
              have:(cO 128 (0:UInt8)).getD ((k:Int)-v*128).toNat 0=0:=by
                rw[cX,List.getElem?_replicate]
                split<;>rfl
              rw[this];rfl
            . rw[if_neg hk,if_neg hk]
          have el:Gv b m port v=({A2:=b.A2,D0:=iH .u32 b.D0 (ep .u32 1 v)},(rA m v (cO 128 0)).1):=by
            simp only[Gv,Dp,Tree.m,ee,jg,hp,ew,bv,hz,Iy,dY hP,dN (show¬v>=32 by omega),N2]
            rfl
          rw[el,em,<-g1]
      . simp only[Gv,Dp,AM,AL,Tree.m,ee,jg,hp,ew,pe,Iy,dN hP,dN (show¬v>=32 by omega)]
        rfl
    . simp only[Gv,Dp,AM,AL,Tree.m,ee,jg,dY Xx,dN (show¬v>=32 by omega),show(port==10)=false by simpa using Iy]
      cases port==11<;>rfl
  . simp only[Gv,Dp,AM,AL,Tree.m,ee,jg,pe,dN Xx,dY (show v>=32 by omega),dN (show¬v<P by omega)]
    cases port==10<;>cases port==11<;>rfl
structure Lf(m:bd):Prop where
 nZ:iI m.B4
 mem:∀w∈m.Mem,U w
 lZ:w4 m.B5
 u7:ua m.D2
 Lg:okB m.A6
 th:0<=m.B7
theorem Zix(m:List Int)(hm:∀w∈m,U w):jL m=wa m/\(jL m=0\/∃P:Nat,1<=P/\ej P m):=by
 refine⟨rfl,?_⟩
 simp only[jL,Gf,Tree.m]
 cases h1:cZ (m.length:Int) 32 !=0
 ·cases h2:decide ((m.length:Int)>1024)
  ·have h1:cZ (m.length:Int) 32=0:=by simpa using h1
   have h2:=oN h2
   rw[dZ (by omega)]at h1
   by_cases h0:m.length=0
   ·left;rw[h0];rfl
   ·right;exact⟨m.length/32,by omega,⟨by omega,by omega,by omega,hm⟩⟩
  ·left;rfl
 ·left;rfl
theorem BS{a x:Bool}:(bif !a then false else x)=true↔a=true/\x=true:=by cases a<;>simp
theorem yL(m:bd):Iz m=true↔ ¬(wa m.Mem<1)/\mZ m.B4/\Qkj m.B2=true/\S4 m.B8=true/\S6 m.B5 (wa m.Mem)=true/\S5 m.D2 (wa m.Mem)=true/\Tb m.A6 (wa m.Mem)=true/\m.B7<=1152921504606846976/\¬(m.B3=true/\m.B6=true):=by
 simp only[Iz,Xy,Tree.m,ee]
 rw[mJ,mJ,mJ,mJ,mJ,mJ,BS,BS,BS,BS,BS]
 simp only[decide_eq_false_iff_not,Int.not_lt,bne_eq_false_iff_eq,gt_iff_lt]
 have l:((bif decide (m.B7<=1152921504606846976)then(bif m.B3 then !m.B6 else true)else false)=true)↔m.B7<=1152921504606846976/\¬(m.B3=true/\m.B6=true):=by
  by_cases hc:m.B7<=1152921504606846976
  ·rw[dY hc]
   cases m.B3<;>cases m.B6<;>simp[hc]
  ·rw[dN hc];simp[hc]
 rw[l]
 constructor
 ·rintro⟨a1,a2,a3,a4,a5,a6,a7⟩
  exact⟨by omega,⟨a2,a3,a4,a5,a6⟩,a7⟩
 ·rintro⟨a1,⟨a2,a3,a4,a5,a6⟩,a7⟩
  exact⟨by omega,a2,a3,a4,a5,a6,a7⟩
theorem Zpr{m:bd}(h:Lf m):AG m=Iz m:=by
 rw[eB,KG,yL,yZ]
 obtain⟨e,c⟩:=Zix m.Mem h.mem
 simp only[aE,<-e]
 rcases c with c|⟨P,hP,hm⟩
 ·constructor
  ·rintro⟨a,_⟩;exact absurd c a
  ·rintro⟨a,_⟩;omega
 ·rw[tZ hm,Z9o,Zf6,Zkw,Znc h.Lg.2 hm.p2]
  constructor
  ·rintro⟨a1,a2,a3,a4,a5,a6,a7,a8,a9⟩;exact⟨by omega,a2,a5,a6,a7,a8,a9,a3,a4⟩
  ·rintro⟨a1,a2,a5,a6,a7,a8,a9,a3,a4⟩;exact⟨by omega,a2,a3,a4,a5,a6,a7,a8,a9⟩
def Td(a b c d e:Bool):Int:=iH .u32 (iH .u32 (iH .u32 (iH .u32 (Dy a 0) (Dy b 1)) (Dy c 2)) (Dy d 3)) (Dy e 4)
theorem IA(m:bd):Te m=Td (Xz m.B8) (S7 m.B2) (Kw m.B5) (XA m.D2) (N0 m.A6):=by
 unfold Te Lh
 simp only[Tree.m,ee]
 generalize Xz m.B8=a
 generalize S7 m.B2=b
 generalize Kw m.B5=c
 generalize XA m.D2=d
 generalize N0 m.A6=e
 cases a<;>cases b<;>cases c<;>cases d<;>cases e<;>kernel_rfl
theorem Zs4(a b c d e:Bool):0<=Td a b c d e/\Td a b c d e<32:=by
 cases a<;>cases b<;>cases c<;>cases d<;>cases e<;>decide
theorem BT(m:bd):N3 m=Td (XB m.B8) (S8 m.B2) (XC m.B5) (XD m.D2) (N1 m.A6):=rfl
section
variable {m:bd} (h:Lf m)
include h
theorem Zqp:Te m=N3 m:=by
 rw[IA,BT,qL,Zi0 h.Lg];rfl
theorem Z1k:Li m=AN m:=by
 have e:=Zqp h
 simp only[Li,Lj,AN,Lk,Tree.m,ee,e]
theorem zk:SL m=Qh m:=by
 have e:=Z1k h
 simp only[SL,Ll,Qh,Lm,Tree.m,ee,e]
theorem Zkk:En m=!Gw m:=by
 have e1:=Zpr h
 have e2:=zk h
 have e3:decide (m.B7>=1152921504606846976)=!decide (m.B7<1152921504606846976):=qk
 simp only[En,Il,Gw,IB,Tree.m,ee,e1,e2,e3]
 cases Iz m<;>cases m.B6<;>cases Qh m<;>cases decide (m.B7<1152921504606846976)<;>rfl
theorem Zc1:0<=AN m/\AN m<32:=by
 have e:AN m=ba .u32 (N3 m) m.B4.C2.a7:=rfl
 have l:=Zs4 (XB m.B8) (S8 m.B2) (XC m.B5) (XD m.D2) (N1 m.A6)
 rw[<-BT]at l
 rw[e,WN ⟨l.1,by omega⟩ h.nZ.a7]
 have:=dV (n:=(N3 m).toNat) (m:=m.B4.C2.a7.toNat)
 omega
def low(l:Int):Int:=if l%2=1 then 0 else if l/2%2=1 then 1 else if l/4%2=1 then 2 else if l/8%2=1 then 3 else 4
end
theorem we{l:Int}(h0:0<=l)(h1:l<32):l=0\/l=1\/l=2\/l=3\/l=4\/l=5\/l=6\/l=7\/l=8\/l=9\/l=10\/l=11\/l=12\/l=13\/l=14\/l=15\/l=16\/l=17\/l=18\/l=19\/l=20\/l=21\/l=22\/l=23\/l=24\/l=25\/l=26\/l=27\/l=28\/l=29\/l=30\/l=31:=by omega
def IC(m:bd)(l:Int):bq:=bif ba .u32 m.B4.C2.a0 2==0 then m.B4 else bif l==0 then m.B4 else pD m.B4 (wrap .i64 (16+low l)) 0
theorem N4{m:bd}(h:Lf m):pW m=IC m (AN m):=by
 obtain⟨l0,l1⟩:=Zc1 h
 unfold pW Q5
 simp only[Tree.m,ee]
 revert l0 l1
 generalize AN m=l
 intro l0 l1
 unfold IC
 cases ba .u32 m.B4.C2.a0 2==0
 ·rcases we l0 l1 with rfl|rfl|rfl|rfl|rfl|rfl|rfl|rfl|rfl|rfl|rfl|rfl|rfl|rfl|rfl|rfl|rfl|rfl|rfl|rfl|rfl|rfl|rfl|rfl|rfl|rfl|rfl|rfl|rfl|rfl|rfl|rfl<;>kernel_rfl
 ·rfl
def XE(m:bd)(c:bq):bd:={B4:=c,Mem:=m.Mem,B2:=m.B2,B8:=m.B8,B5:=m.B5,D2:=m.D2,A6:=m.A6,B7:=m.B7,B3:=false,B6:=m.B6}
theorem Zsq{m:bd}(h:Lf m)(jR:m.B4.C2.a0<=31):oW m=XE m (pW m):=by
 obtain⟨l0,l1⟩:=Zc1 h
 have tr:∀k b,pU m.B4 k b=pD m.B4 k b:=NL h.nZ.a0.1 jR
 have e:Li (XE m m.B4)=AN m:=Z1k (m:=XE m m.B4) ⟨h.nZ,h.mem,h.lZ,h.u7,h.Lg,h.th⟩
 rw[N4 h]
 unfold oW KH
 simp only[Tree.m,ee]
 rw[show Li {B4:=m.B4,Mem:=m.Mem,B2:=m.B2,B8:=m.B8,B5:=m.B5,D2:=m.D2,A6:=m.A6,B7:=m.B7,B3:=false,B6:=m.B6}=AN m from e]
 revert l0 l1
 generalize AN m=l
 intro l0 l1
 unfold IC
 simp only[<-tr]
 cases ba .u32 m.B4.C2.a0 2==0
 ·rcases we l0 l1 with rfl|rfl|rfl|rfl|rfl|rfl|rfl|rfl|rfl|rfl|rfl|rfl|rfl|rfl|rfl|rfl|rfl|rfl|rfl|rfl|rfl|rfl|rfl|rfl|rfl|rfl|rfl|rfl|rfl|rfl|rfl|rfl<;>(show _=_;kernel_rfl)
 ·rfl
theorem Gx{p:Int}:p=0\/p=1\/p=2\/p=3\/p=4\/p=5\/p=6\/p=7\/p=8\/p=9\/p=10\/p=11\/p<0\/12<=p:=by omega
theorem xal{m:bd}(hb:okB m.A6)(port clock:Int):uf m port clock=((Dz m port clock).2,(Dz m port clock).1):=by
 have e1:=Zrs m.B2
 have e2:∀p,Nv m.B5 p=XF m.B5 p:=λ_=>rfl
 have e3:=Zsu m.D2
 have e4:=Zrk hb
 have e5:WG m.B8=XG m.B8:=rfl
 simp only[uf,KB,Dz,MY,Tree.m,ee,e1,e2,e3,e4,e5]
 rcases Gx (p:=port)with rfl|rfl|rfl|rfl|rfl|rfl|rfl|rfl|rfl|rfl|rfl|rfl|h|h
 all_goals first|rfl|skip
 ·have n:∀k:Int,0<=k->(port==k)=false:=λk hk=>beq_eq_false_iff_ne.2 (by omega)
  have c:K7 m.B2 port=(m.B2,0):=by
   simp only[K7,Gu,Tree.m,n 0 (by decide),n 1 (by decide),cond_false]
  simp only[n 0 (by decide),n 1 (by decide),n 2 (by decide),n 3 (by decide),n 4 (by decide),n 5 (by decide),n 6 (by decide),n 7 (by decide),n 8 (by decide),n 9 (by decide),n 10 (by decide),n 11 (by decide),cond_false,dY (show port<=1 by omega),cond_true,c]
 ·have n:∀k:Int,k<12->(port==k)=false:=λk hk=>beq_eq_false_iff_ne.2 (by omega)
  have c:Lb m.A6 port=0:=by
   simp only[Lb,Lc,Tree.m,n 10 (by decide),n 11 (by decide),cond_false]
  simp only[n 0 (by decide),n 1 (by decide),n 2 (by decide),n 3 (by decide),n 4 (by decide),n 5 (by decide),n 6 (by decide),n 7 (by decide),n 8 (by decide),n 9 (by decide),n 10 (by decide),n 11 (by decide),cond_false,dN (show¬port<=1 by omega),dN (show¬port<=6 by omega),dN (show¬port<=9 by omega),c]
theorem vL{m:bd}(hm:ej P m.Mem)(hb:okB m.A6)(port:Int)(hv:U v):Eu m port v m.B7=((Ev m port v).2,(Ev m port v).1):=by
 have e1:=Zid hm m.B5
 have e2:=Zmv hm m.D2
 have e3:=Zli hm hb port hv
 have e4:=xL m.B8 v
 simp only[Eu,KA,Ev,J8,Tree.m,ee,e1,e2,e3,e4]
 rcases Gx (p:=port)with rfl|rfl|rfl|rfl|rfl|rfl|rfl|rfl|rfl|rfl|rfl|rfl|h|h
 all_goals first|rfl|skip
 ·have n:∀k:Int,0<=k->(port==k)=false:=λk hk=>beq_eq_false_iff_ne.2 (by omega)
  simp only[n 0 (by decide),n 1 (by decide),n 2 (by decide),n 3 (by decide),n 4 (by decide),n 5 (by decide),n 6 (by decide),n 7 (by decide),n 8 (by decide),n 9 (by decide),n 10 (by decide),n 11 (by decide),cond_false,dY (show port<=2 by omega),cond_true]
 ·have n:∀k:Int,k<12->(port==k)=false:=λk hk=>beq_eq_false_iff_ne.2 (by omega)
  have c:AM m.A6 m.Mem port v=(m.A6,m.Mem):=by
   simp only[AM,AL,Tree.m,n 10 (by decide),n 11 (by decide),cond_false]
  simp only[n 0 (by decide),n 1 (by decide),n 2 (by decide),n 3 (by decide),n 4 (by decide),n 5 (by decide),n 6 (by decide),n 7 (by decide),n 8 (by decide),n 9 (by decide),n 10 (by decide),n 11 (by decide),cond_false,dN (show¬port<=2 by omega),dN (show¬port<=6 by omega),dN (show¬port<=9 by omega),c]
def tick(n:bd)(c:bq)(w h:Bool):bd:={B4:=c,Mem:=n.Mem,B2:=n.B2,B8:=n.B8,B5:=n.B5,D2:=n.D2,A6:=n.A6,B7:=wrap .u64 (n.B7+1),B3:=w,B6:=h}
def Gy(m:bd)(c:bq)(mem:List Int):bd:={B4:=c,Mem:=mem,B2:=m.B2,B8:=m.B8,B5:=m.B5,D2:=m.D2,A6:=m.A6,B7:=m.B7,B3:=false,B6:=m.B6}
def Ew(n:bd)(e:lj)(clock gg:Int):bd×List ik:=
 bif e.C3==1 then
  (bif e.F8 !=0 then(tick (uf n e.D8 clock).1 {X:=iv.of 0 (dB (iv.l (uf n e.D8 clock).1.B4.X) e.F8.toNat (uf n e.D8 clock).2),Pc:=(uf n e.D8 clock).1.B4.Pc,C2:=(uf n e.D8 clock).1.B4.C2} (uf n e.D8 clock).1.B3 (uf n e.D8 clock).1.B6,[])
  else(tick (uf n e.D8 clock).1 (uf n e.D8 clock).1.B4 (uf n e.D8 clock).1.B3 (uf n e.D8 clock).1.B6,[]))
 else bif e.C3==2 then(tick (Eu n e.D8 e.Value gg).1 (Eu n e.D8 e.Value gg).1.B4 (Eu n e.D8 e.Value gg).1.B3 (Eu n e.D8 e.Value gg).1.B6,(Eu n e.D8 e.Value gg).2)
 else bif e.C3==3 then(tick n n.B4 true n.B6,[])else bif e.C3==4 then(tick n n.B4 n.B3 true,[])else(tick n n.B4 n.B3 n.B6,[])
def Ey(n:bd)(e:lj)(clock:Int):List ik×bd:=
 bif e.C3==1 then([],tick (Dz n e.D8 clock).2 (lu (Dz n e.D8 clock).2.B4 e.F8 (Dz n e.D8 clock).1) (Dz n e.D8 clock).2.B3 (Dz n e.D8 clock).2.B6)
 else bif e.C3==2 then((Ev n e.D8 e.Value).1,tick (Ev n e.D8 e.Value).2 (Ev n e.D8 e.Value).2.B4 (Ev n e.D8 e.Value).2.B3 (Ev n e.D8 e.Value).2.B6)
 else bif e.C3==3 then([],tick n n.B4 true n.B6)else bif e.C3==4 then([],tick n n.B4 n.B3 true)else([],tick n n.B4 n.B3 n.B6)
theorem xaF(m:bd)(clock:Int):Aa m clock=Ey (Gy m (AK (pW m) m.Mem).1 (AK (pW m) m.Mem).2.2) (AK (pW m) m.Mem).2.1 clock:=by kernel_rfl
theorem qM(m:bd)(clock:Int):AO m clock=bif !En m then(m,[])else Ew {B4:=(BR (oW m).B4 (oW m).Mem).1,Mem:=(BR (oW m).B4 (oW m).Mem).2.1,B2:=(oW m).B2,B8:=(oW m).B8,B5:=(oW m).B5,D2:=(oW m).D2,A6:=(oW m).A6,B7:=(oW m).B7,B3:=(oW m).B3,B6:=(oW m).B6} (BR (oW m).B4 (oW m).Mem).2.2 clock m.B7:=by kernel_rfl
theorem qam(m:List Int):XH m=m:=by
 simp[XH,Ln,Tree.m]
theorem y3(m:bd):Tf m=m:=by
 simp only[Tf,J9,Tree.m,ee,qam]
theorem Zp9(m:bd)(clock:Int):N5 m clock=bif Gw m then(m,[])else((Aa m clock).2,(Aa m clock).1):=by
 simp only[N5,Lo,Tree.m,ee,y3]
theorem xM{n:bd}(hm:ej P n.Mem)(hb:okB n.A6){e:lj}(hr:0<=e.F8/\e.F8<16)(hv:U e.Value)(clock:Int):Ew n e clock n.B7=((Ey n e clock).2,(Ey n e clock).1):=by
 unfold Ew Ey
 rw[xal hb e.D8 clock,vL hm hb e.D8 hv]
 cases e.C3==1
 ·cases e.C3==2
  ·cases e.C3==3
   ·cases e.C3==4<;>rfl
   ·rfl
  ·rfl
 ·generalize Dz n e.D8 clock=r
  have s:=SX r.2.B4 hr r.1
  show(bif e.F8 !=0 then _ else _)=(tick r.2 (lu r.2.B4 e.F8 r.1) r.2.B3 r.2.B6,[])
  rw[<-s]
  simp only[ue,Ek,Tree.m]
  cases e.F8 !=0<;>rfl
theorem Ziz{m:bd}(h:Lf m)(clock:Int):AO m clock=N5 m clock:=by
 rw[qM,Zp9,Zkk h]
 cases hs:Gw m
 ·have hr:En m=true:=by rw[Zkk h,hs];rfl
  obtain⟨hm,hh,hct⟩:=Zqa hr
  obtain⟨g1,g2,g3,g4,g5⟩:=(KG m).1 hm
  rcases(Zix m.Mem h.mem).2 with c|⟨P,hP,iZ⟩
  ·exact absurd c g1
  have okm:w5 P m:=⟨h.nZ,iZ,h.lZ,h.u7,h.Lg.1,h.Lg.2⟩
  obtain⟨b1,b2,b3,_⟩:=(Tree.pp (Zl5 okm g2)).2
  change mZ (oW m).B4 at b1
  change w5 P (oW m)at b2
  change(oW m).Mem=m.Mem at b3
  have be:=Zsq h g2.st
  have b1':mZ (pW m):=by have:=b1;rw[be]at this;exact this
  have XI:iI (pW m):=by have:=b2.nZ;rw[be]at this;exact this
  have ex:=yj iZ XI b1'.st
  have er:=(Tree.pp (Zp3 XI iZ)).2
  change 0<=(BR (pW m) m.Mem).2.2.F8/\(BR (pW m) m.Mem).2.2.F8<16 at er
  obtain⟨d1,d2,d3⟩:=(Tree.pp (M0 XI iZ)).2
  change U (AK (pW m) m.Mem).2.1.Value at d2
  change ej P (AK (pW m) m.Mem).2.2 at d3
  rw[ex]at er
  rw[xaF,be]
  show Ew {B4:=(BR (pW m) m.Mem).1,Mem:=(BR (pW m) m.Mem).2.1,B2:=m.B2,B8:=m.B8,B5:=m.B5,D2:=m.D2,A6:=m.A6,B7:=m.B7,B3:=false,B6:=m.B6} (BR (pW m) m.Mem).2.2 clock m.B7=_
  rw[ex]
  exact xM (n:=Gy m (AK (pW m) m.Mem).1 (AK (pW m) m.Mem).2.2) d3 h.Lg er d2 clock
 ·rfl

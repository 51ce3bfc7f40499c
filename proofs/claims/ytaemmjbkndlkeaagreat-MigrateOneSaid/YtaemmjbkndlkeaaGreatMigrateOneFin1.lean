import Derived.Test.YtaemmjbkndlkeaaGreatMigrateOneLaws2
import Derived.Test.YtaemmjbkndlkeaaGreatMigrateOneNewsB
open Nat renaming lt_succ_self->cN,blt->bN,le_refl->aX,zero_le->bC,le_of_eq->dG,pow_le_pow_right->dO,and_le_left->dV,pow_lt_pow_right->dW,zero_testBit->eL,testBit_and->eM
open List renaming replicate->cO,append->cP,mem_cons->cQ,not_mem_nil->cR,length_replicate->cS,length_take->aD,length_drop->aG,take->cU,drop->cV,ext_getElem->bR,range->cW,getD_eq_getElem?_getD->cX,length_singleton->cY,append_assoc->aM,set->dB,length_set->dC,length_cons->dD,length_nil->dE,length->dF,getD->aV,getElem?_take->aF
open Int renaming tmod->cZ,toNat->dA,emod_eq_of_lt->dH,pow_pos->dI,fdiv_eq_ediv_of_nonneg->dJ,le_of_lt->dK,pow_add->dL,mul_le_mul_of_nonneg_right->dM,lt_or_le->dQ,toNat_natCast->dX,tmod_eq_emod_of_nonneg->dZ,toNat_of_nonneg->eA,fdiv->eC,tdiv->eF,tdiv_eq_ediv_of_nonneg->eG,ediv_ediv_of_nonneg->eI,mul_ediv_add_emod->eJ,pow_succ->eK
open Bool renaming or_eq_true->aT,eq_iff_iff->eB,noConfusion->eH
open UInt8 renaming toNat_lt->dP,ofNat->eD
open BitVec renaming ofInt->dR,toNat_ofInt->dS,toNat_or->dT,toNat_and->dU
set_option maxRecDepth 100000
set_option linter.all false
namespace Go.Proofs.YtaemmjbkndlkeaaGreat
open Go Go.GD
open Go.IntKind(wrap i64 u32 u64 u8 wrap_i64 wrap_u32 wrap_u64 wrap_u8 wrap_i32)
theorem vH(i:gr):U (oC i).1:=by
 refine Tree.post (Sq i) (W:=λr=>U r.1) ?_
 unfold Sq
 exact aq λ_ _=>ae (λ_=>gh) (λ_=>ny _ _)
theorem yd(l:List Int)(hl:l.length*8<=reachBytes):(MU l).w (λr=>(r.length:Int)=l.length/\∀w∈r,U w):=by
 have pq:l.length*8<=140737488351232:=hl
 have app:∀{r:List Int} {x:Int},(∀w∈r,U w)->U x->∀w∈r++[x],U w:=λhr hx w hw=>by
  rw[List.mem_append]at hw
  rcases hw with hw|hw
  ·exact hr w hw
  ·rw[List.mem_singleton.1 hw];exact hx
 unfold MU
 refine fp (inv:=λz=>Qu2 l z/\∀w∈z.2,U w) (μ:=Sr l) ⟨⟨by omega,by simp,by simp⟩,by simp⟩ (cN _) (λv0 hv=>?_)
 obtain⟨⟨h1,h2,h3⟩,h4⟩:=hv
 refine ae (λh=>?_) (λh=>?_)
 ·have h:=oY h
  have next:∀x:Int,U x->(Qu2 l (wrap i64 (v0.1+1),v0.2++[x])/\∀w∈v0.2++[x],U w)/\Sr l (wrap i64 (v0.1+1),v0.2++[x])<Sr l v0:=λx hx=>by
   have hw:i64.wrap (v0.1+1)=v0.1+1:=by rw[wrap_i64];omega
   rw[hw]
   refine⟨⟨⟨?_,?_,?_⟩,app h4 hx⟩,?_⟩
   ·show 0<=v0.1+1;omega
   ·show v0.1+1<=l.length;omega
   ·show((v0.2++[x]).length:Int)=v0.1+1;simp;omega
   ·show(l.length-(v0.1+1)).toNat<(l.length-v0.1).toNat;omega
  have hb:(Nat.beq 1 1&&bN 0 1&&decide (0<=v0.1/\v0.1<(l.length:Int)))=true:=by simp[bN];omega
  have hc:decide (4*(v0.2.length+1)<=140737488355328)=true:=dY (by omega)
  exact ax hb (ae (λ_=>ax hb (ax hc (next _ (fj _)))) (λ_=>ax hb (c9 (qX _) (aq λx0 _=>aq λx1 hx=>ax hc (next _ (by rw[hx];exact vH _))))))
 ·have h:=oN h
  exact⟨by show(v0.2.length:Int)=l.length;omega,h4⟩
section
variable {P:Nat} {m:bd} (h:ry P m)
include h
theorem MV(port:Int){clock:Int}(hc:U clock):(MW m port clock).w (λx=>U x.1/\ry P x.2/\x.2.B6=m.B6):=by
 have k:=(⟨h,rfl⟩:ry P m/\m.B6=m.B6)
 obtain⟨h1,h2,h3,h4,h5,h7⟩:=h
 unfold MW
 exact ae (λ_=>aq λx hx=>⟨hx▸Zmx _ _,⟨⟨h1,h2,h3,h4,h5,h7⟩,rfl⟩⟩) (λ_=>ae (λ_=>⟨hc,k⟩) (λ_=>ae (λ_=>aq λx hx=>⟨hx▸xA _,k⟩) (λ_=>ae (λ_=>aq λx hx=>⟨hx▸vW h3 _,k⟩) (λ_=>ae (λ_=>aq λx hx=>⟨hx▸qay h4 _,k⟩) (λ_=>aq λx hx=>⟨hx▸Zmy h5.1 _,k⟩)))))
theorem qaA(port:Int){v:Int}(hv:U v):(J7 m port v).w (λx=>x.1.length<=1/\ry P x.2/\x.2.B6=m.B6):=by
 have k:=(⟨h,rfl⟩:ry P m/\m.B6=m.B6)
 obtain⟨h1,h2,h3,h4,h5,h7⟩:=h
 unfold J7
 exact ae (λ_=>⟨aX _,k⟩) (λ_=>ae (λ_=>⟨bC _,k⟩) (λ_=>ae (λ_=>aq λ_ _=>⟨bC _,⟨⟨h1,h2,h3,h4,h5,h7⟩,rfl⟩⟩) (λ_=>ae (λ_=>c6 (qA h2 h3 _ hv _) λx hx=>⟨hx.2,⟨⟨h1,h2,hx.1,h4,h5,h7⟩,rfl⟩⟩) (λ_=>ae (λ_=>c6 (yW h2 h4 _ hv _) λx hx=>⟨hx.2,⟨⟨h1,h2,h3,hx.1,h5,h7⟩,rfl⟩⟩) (λ_=>c6 (qaL h2 h5 _ hv) λx hx=>⟨bC _,⟨⟨h1,hx.2,h3,h4,hx.1,h7⟩,rfl⟩⟩)))))
theorem Zaj{clock:Int}(hc:U clock):(MX m clock).w (λx=>x.1.length<=1/\ry P x.2/\x.2.B6=wrap .u64 (m.B6+1)):=by
 obtain⟨h1,h2,h3,h4,h5,h7⟩:=h
 unfold MX
 refine c6 (Qxa h1) λx0 c0=>c6 (MY c0 h2) λx1 hx=>?_
 obtain⟨c1,v1,m1⟩:=hx
 refine ae (λ_=>Zp (MV (m:=⟨_,_,_,_,_,_,_,_,_,_⟩) ⟨c1,m1,h3,h4,h5,h7⟩ _ hc) λx2 hx=>?_) (λ_=>ae (λ_=>c6 (qaA (m:=⟨_,_,_,_,_,_,_,_,_,_⟩) ⟨c1,m1,h3,h4,h5,h7⟩ _ v1) λx4 hx=>?_) (λ_=>?_))
 ·obtain⟨u,⟨k1,k2,k3,k4,k5,k7⟩,k6⟩:=hx
  exact c6 (Ee k1 _ u) λx3 h3=>⟨bC _,⟨h3,k2,k3,k4,k5,w0 _⟩,congrArg (λn=>wrap .u64 (n+1)) k6⟩
 ·obtain⟨u,⟨k1,k2,k3,k4,k5,k7⟩,k6⟩:=hx
  exact⟨u,⟨k1,k2,k3,k4,k5,w0 _⟩,congrArg (λn=>wrap .u64 (n+1)) k6⟩
 ·repeat'(first
   |exact⟨bC _,⟨c1,m1,h3,h4,h5,w0 _⟩,rfl⟩
   |refine ae (λ_=>?_) (λ_=>?_))
theorem zaA:(J8 m).w (λx=>ry P x/\x.B6=m.B6):=by
 obtain⟨h1,h2,h3,h4,h5,h7⟩:=h
 unfold J8
 exact c6 (xaJ h2) λx hx=>⟨⟨h1,by rw[hx];exact h2,h3,h4,h5,h7⟩,rfl⟩
end
theorem BC(n:Nat):∀w∈cO n (0:Int),U w:=λw hw=>by rw[(List.mem_replicate.1 hw).2];exact gh
set_option synthInstance.maxHeartbeats 2000000
set_option synthInstance.maxSize 100000
noncomputable section
instance qI (src:List UInt8):Ck (Qm0 src):=tz (t:=MZ src) (by delta MZ;infer_instance)
instance qE (s:List UInt8):Ck (Qkh s):=tz (t:=M0 s) (by delta M0;infer_instance)
instance xE (n:Int):Ck (Ef n):=let d:Decidable (Ef n):=(by delta Ef;infer_instance);⟨@decide _ d,@oY _ d⟩
instance vd (n:Int):Ck (Qh5 n):=tz (t:=H0 n) (by delta H0;infer_instance)
instance xaf (r:Int):Ck (Qs r):=tz (t:=H2 r) (by delta H2;infer_instance)
instance xY (s:List UInt8):Ck (Wh s):=tz (t:=M1 s) (by delta M1;infer_instance)
instance Zt5 (op:Int):Ck (Qfl op):=tz (t:=M3 op) (by delta M3;infer_instance)
instance Zsb (s:List UInt8):Ck (J9 s):=tz (t:=M4 s) (by delta M4;infer_instance)
instance qe (ed:List UInt8):Ck (M5 ed):=tz (t:=M6 ed) (by delta M6;infer_instance)
instance zE (s:List UInt8):Ck (Qjl s):=tz (t:=M7 s) (by delta M7;infer_instance)
instance xe (l:List kP) (p:List UInt8):Ck (M8 l p):=tz (t:=M9 l p) (by delta M9;infer_instance)
instance yE (s:List UInt8):Ck (Qju s):=tz (t:=Na s) (by delta Na;infer_instance)
instance ze (l:List nS) (label:List UInt8):Ck (Ge l label):=let d:Decidable (Ge l label):=(by delta Ge;infer_instance);⟨@decide _ d,@oY _ d⟩
instance zY (src:List UInt8):Ck (Qo src):=tz (t:=Nb src) (by delta Nb;infer_instance)
instance yY (st:kd) (v:Int):Ck (Nc st v):=tz (t:=Nd st v) (by delta Nd;infer_instance)
instance Zt4 (src:List UInt8):Ck (Wi src):=tz (t:=Nf src) (by delta Nf;infer_instance)
theorem qag:Wi ((108:UInt8)::(BD++Ka++(Kb++Zc)++(Kc++Kd++(Ke++Kf))++(Kg++Kh++(Ki++Kj)++(Kk++Kl++(Km++Kn))))):=ck inferInstance (by kernel_rfl)
def inU(x:Int):Bool:=decide (0<=x)&&decide (x<4294967296)
theorem zag(l:List Int)(h:(Nat.ble l.length 160&&List.all l inU)=true):l.length<=160/\∀w∈l,U w:=by
 rw[aE]at h
 refine⟨lE h.1,λw hw=>?_⟩
 have:=List.all_eq_true.1 h.2 w hw
 simp only[inU,aE,decide_eq_true_eq]at this
 exact this
theorem ye:(Ko (cP (cP (cP (cP Ss Ka) (cP Kb Zc)) (cP (cP Kc Kd) (cP Ke Kf))) (cP (cP (cP Kg Kh) (cP Ki Kj)) (cP (cP Kk Kl) (cP Km Kn))))).1.length<=160/\∀w∈(Ko (cP (cP (cP (cP Ss Ka) (cP Kb Zc)) (cP (cP Kc Kd) (cP Ke Kf))) (cP (cP (cP Kg Kh) (cP Ki Kj)) (cP (cP Kk Kl) (cP Km Kn))))).1,U w:=zag _ (by kernel_rfl)
end
theorem BE(i:List Int)(hu:∀w∈i,U w)(hl:i.length<=256):(Gf 8 4 i).w (λx=>ry 8 x.1/\x.1.B6=0):=by
 unfold Gf
 refine ae (λh=>absurd h (by decide)) λ_=>ae (λh=>absurd h (by decide)) λ_=>ae (λh=>absurd h (by decide)) λ_=>ae (λh=>absurd h (by decide)) λ_=>ae (λh=>?_) λ_=>aq λx0 e0=>c9 (Zi _) (aq λx1 e1=>?_)
 ·have h:=oY h
  rw[show i64.wrap (8*32)=256 by decide]at h
  omega
 have hx:x1=cO 256 0:=by rw[e1];kernel_rfl
 have c0:iI x0:=by rw[e0];exact⟨by
  intro w hw
  simp only[Wj,Su,Tree.m,iv.l,cQ,cR,or_false,or_self]at hw
  rw[hw];exact gh,gh,by
  intro w hw
  simp only[Wj,Su,Tree.m,A8.l,cQ,cR,or_false,or_self]at hw
  rcases hw with rfl|rfl
  ·exact⟨by omega,by omega⟩
  ·exact gh⟩
 have hz:∀w∈x1,U w:=by rw[hx];exact BC 256
 have hn:x1.length=256:=by rw[hx,cS]
 refine⟨⟨c0,⟨?_,by omega,by omega,λw hw=>?_⟩,⟨gh,gh,gh,gh⟩,⟨gh,gh,gh,gh⟩,⟨gh,gh⟩,Int.le_refl _⟩,rfl⟩
 ·simp only[lA,aD,aG,hn];omega
 ·rcases List.mem_append.1 hw with h1|h1
  ·exact hu w (List.mem_of_mem_take h1)
  ·exact hz w (List.mem_of_mem_drop h1)
noncomputable section
def jG:List Int:=(Ko (cP (cP (cP (cP Ss Ka) (cP Kb Zc)) (cP (cP Kc Kd) (cP Ke Kf))) (cP (cP (cP Kg Kh) (cP Ki Kj)) (cP (cP Kk Kl) (cP Km Kn))))).1
def ta:List Int:=jG++cO (160-jG.length) 0
theorem Ng(t0 t1 t2 t3 t4 t5 t6 t7 t8 t9 t10 t11 t12 t13 t14 t15 t16 t17 t18 t19 t20 t21 t22 t23 t24 t25 t26 t27 t28 t29 t30 t31 t32 t33 t34 t35 t36 t37 t38 t39 t40 t41 t42 t43 t44 t45 t46 t47 t48 t49 t50 t51 t52 t53 t54 t55 t56 t57 t58 t59 t60 t61 t62 t63 t64 t65 t66 t67 t68 t69 t70 t71 t72 t73 t74 t75 t76 t77 t78 t79 t80 t81 t82 t83 t84 t85 t86 t87 t88 t89 t90 t91 t92 t93 t94 t95:Int):(Kp (kR 8 4 (ta++[t0,t1,t2,t3,t4,t5,t6,t7,t8,t9,t10,t11,t12,t13,t14,t15,t16,t17,t18,t19,t20,t21,t22,t23,t24,t25,t26,t27,t28,t29,t30,t31,t32,t33,t34,t35,t36,t37,t38,t39,t40,t41,t42,t43,t44,t45,t46,t47,t48,t49,t50,t51,t52,t53,t54,t55,t56,t57,t58,t59,t60,t61,t62,t63,t64,t65,t66,t67,t68,t69,t70,t71,t72,t73,t74,t75,t76,t77,t78,t79,t80,t81,t82,t83,t84,t85,t86,t87,t88,t89,t90,t91,t92,t93,t94,t95])).1 [] 87).2.2.2=0:=by kernel_rfl
end
attribute [local irreducible] Ko
theorem qf(i j:List Int)(hi:i.length<=256)(hj:j.length<=256)(e:i++cO (256-i.length) 0=j++cO (256-j.length) 0):kR 8 4 i=kR 8 4 j:=by
 have w:i64.wrap (8*32)=256:=by decide
 have m:Sv 8=cO 256 0:=by kernel_rfl
 have d:∀k:List Int,k.length<=256->decide ((k.length:Int)>256)=false:=λk h=>dN (by omega)
 have mem:∀k:List Int,k.length<=256->cU (min k.length (cO 256 (0:Int)).length) k++cV (min k.length (cO 256 (0:Int)).length) (cO 256 0)=k++cO (256-k.length) 0:=λk h=>by
  rw[cS,Nat.min_eq_left h,List.take_length,List.drop_replicate]
 have r:Sv 8=cO 256 0:=by kernel_rfl
 simp only[kR,Gf,Tree.m,w,eh,r,d i hi,d j hj]
 simp only[mem i hi,mem j hj,e]
theorem H3(t:List Int)(ht:t.length=96):t=[t.getD 0 0,t.getD 1 0,t.getD 2 0,t.getD 3 0,t.getD 4 0,t.getD 5 0,t.getD 6 0,t.getD 7 0,t.getD 8 0,t.getD 9 0,t.getD 10 0,t.getD 11 0,t.getD 12 0,t.getD 13 0,t.getD 14 0,t.getD 15 0,t.getD 16 0,t.getD 17 0,t.getD 18 0,t.getD 19 0,t.getD 20 0,t.getD 21 0,t.getD 22 0,t.getD 23 0,t.getD 24 0,t.getD 25 0,t.getD 26 0,t.getD 27 0,t.getD 28 0,t.getD 29 0,t.getD 30 0,t.getD 31 0,t.getD 32 0,t.getD 33 0,t.getD 34 0,t.getD 35 0,t.getD 36 0,t.getD 37 0,t.getD 38 0,t.getD 39 0,t.getD 40 0,t.getD 41 0,t.getD 42 0,t.getD 43 0,t.getD 44 0,t.getD 45 0,t.getD 46 0,t.getD 47 0,t.getD 48 0,t.getD 49 0,t.getD 50 0,t.getD 51 0,t.getD 52 0,t.getD 53 0,t.getD 54 0,t.getD 55 0,t.getD 56 0,t.getD 57 0,t.getD 58 0,t.getD 59 0,t.getD 60 0,t.getD 61 0,t.getD 62 0,t.getD 63 0,t.getD 64 0,t.getD 65 0,t.getD 66 0,t.getD 67 0,t.getD 68 0,t.getD 69 0,t.getD 70 0,t.getD 71 0,t.getD 72 0,t.getD 73 0,t.getD 74 0,t.getD 75 0,t.getD 76 0,t.getD 77 0,t.getD 78 0,t.getD 79 0,t.getD 80 0,t.getD 81 0,t.getD 82 0,t.getD 83 0,t.getD 84 0,t.getD 85 0,t.getD 86 0,t.getD 87 0,t.getD 88 0,t.getD 89 0,t.getD 90 0,t.getD 91 0,t.getD 92 0,t.getD 93 0,t.getD 94 0,t.getD 95 0]:=by
 apply bR
 ·rw[ht];rfl
 ·intro i h1 h2
  have e:∀j (hj:j<96),[t.getD 0 0,t.getD 1 0,t.getD 2 0,t.getD 3 0,t.getD 4 0,t.getD 5 0,t.getD 6 0,t.getD 7 0,t.getD 8 0,t.getD 9 0,t.getD 10 0,t.getD 11 0,t.getD 12 0,t.getD 13 0,t.getD 14 0,t.getD 15 0,t.getD 16 0,t.getD 17 0,t.getD 18 0,t.getD 19 0,t.getD 20 0,t.getD 21 0,t.getD 22 0,t.getD 23 0,t.getD 24 0,t.getD 25 0,t.getD 26 0,t.getD 27 0,t.getD 28 0,t.getD 29 0,t.getD 30 0,t.getD 31 0,t.getD 32 0,t.getD 33 0,t.getD 34 0,t.getD 35 0,t.getD 36 0,t.getD 37 0,t.getD 38 0,t.getD 39 0,t.getD 40 0,t.getD 41 0,t.getD 42 0,t.getD 43 0,t.getD 44 0,t.getD 45 0,t.getD 46 0,t.getD 47 0,t.getD 48 0,t.getD 49 0,t.getD 50 0,t.getD 51 0,t.getD 52 0,t.getD 53 0,t.getD 54 0,t.getD 55 0,t.getD 56 0,t.getD 57 0,t.getD 58 0,t.getD 59 0,t.getD 60 0,t.getD 61 0,t.getD 62 0,t.getD 63 0,t.getD 64 0,t.getD 65 0,t.getD 66 0,t.getD 67 0,t.getD 68 0,t.getD 69 0,t.getD 70 0,t.getD 71 0,t.getD 72 0,t.getD 73 0,t.getD 74 0,t.getD 75 0,t.getD 76 0,t.getD 77 0,t.getD 78 0,t.getD 79 0,t.getD 80 0,t.getD 81 0,t.getD 82 0,t.getD 83 0,t.getD 84 0,t.getD 85 0,t.getD 86 0,t.getD 87 0,t.getD 88 0,t.getD 89 0,t.getD 90 0,t.getD 91 0,t.getD 92 0,t.getD 93 0,t.getD 94 0,t.getD 95 0][j]'hj=t.getD j 0:=by
   intro j hj
   have:[t.getD 0 0,t.getD 1 0,t.getD 2 0,t.getD 3 0,t.getD 4 0,t.getD 5 0,t.getD 6 0,t.getD 7 0,t.getD 8 0,t.getD 9 0,t.getD 10 0,t.getD 11 0,t.getD 12 0,t.getD 13 0,t.getD 14 0,t.getD 15 0,t.getD 16 0,t.getD 17 0,t.getD 18 0,t.getD 19 0,t.getD 20 0,t.getD 21 0,t.getD 22 0,t.getD 23 0,t.getD 24 0,t.getD 25 0,t.getD 26 0,t.getD 27 0,t.getD 28 0,t.getD 29 0,t.getD 30 0,t.getD 31 0,t.getD 32 0,t.getD 33 0,t.getD 34 0,t.getD 35 0,t.getD 36 0,t.getD 37 0,t.getD 38 0,t.getD 39 0,t.getD 40 0,t.getD 41 0,t.getD 42 0,t.getD 43 0,t.getD 44 0,t.getD 45 0,t.getD 46 0,t.getD 47 0,t.getD 48 0,t.getD 49 0,t.getD 50 0,t.getD 51 0,t.getD 52 0,t.getD 53 0,t.getD 54 0,t.getD 55 0,t.getD 56 0,t.getD 57 0,t.getD 58 0,t.getD 59 0,t.getD 60 0,t.getD 61 0,t.getD 62 0,t.getD 63 0,t.getD 64 0,t.getD 65 0,t.getD 66 0,t.getD 67 0,t.getD 68 0,t.getD 69 0,t.getD 70 0,t.getD 71 0,t.getD 72 0,t.getD 73 0,t.getD 74 0,t.getD 75 0,t.getD 76 0,t.getD 77 0,t.getD 78 0,t.getD 79 0,t.getD 80 0,t.getD 81 0,t.getD 82 0,t.getD 83 0,t.getD 84 0,t.getD 85 0,t.getD 86 0,t.getD 87 0,t.getD 88 0,t.getD 89 0,t.getD 90 0,t.getD 91 0,t.getD 92 0,t.getD 93 0,t.getD 94 0,t.getD 95 0]=(cW 96).map (λk=>t.getD k 0):=rfl
   simp only[this,List.getElem_map,List.getElem_range]
  rw[e i (by omega),cX,List.getElem?_eq_getElem h1]
  rfl
theorem vY(t:List Int)(ht:t.length=96):(Kp (kR 8 4 (ta++t)).1 [] 87).2.2.2=0:=by
 rw[H3 t ht]
 exact Ng _ _ _ _ _ _ _ _ _ _ _ _ _ _ _ _ _ _ _ _ _ _ _ _ _ _ _ _ _ _ _ _ _ _ _ _ _ _ _ _ _ _ _ _ _ _ _ _ _ _ _ _ _ _ _ _ _ _ _ _ _ _ _ _ _ _ _ _ _ _ _ _ _ _ _ _ _ _ _ _ _ _ _ _ _ _ _ _ _ _ _ _ _ _ _ _
theorem xf:ta.length=160:=by
 have h:jG.length<=160:=ye.1
 unfold ta
 rw[lA,cS];omega
theorem xag{P:Nat}{m:bd}(h:ry P m):(H4 m [] 87).w (λx=>x.2.2.2=0->ry P x.1):=by
 have z:∀{k:Int} {p:Prop},k≠0->k=0->p:=λa b=>absurd b a
 unfold H4
 refine aq λx0 _=>ae (λ_=>z (by decide)) λ_=>ae (λ_=>z (by decide)) λ_=>ae (λ_=>z (by decide)) λ_=>c9 (show Nh [] by show([]:List py).length<=1000000000000;decide) (aq λx1 _=>ae (λ_=>z (by decide)) λ_=>c6 (zaA h) λx2 hx=>?_)
 have hc:=h.te
 refine fp (inv:=λv:bd×List il=>ry P v.1/\v.2.length+(87-v.1.B6).toNat<=87) (μ:=Wk m [] 87) ⟨hx.1,by rw[hx.2];show 0+_<=87;omega⟩ (cN _) λv0 ⟨a1,a3⟩=>?_
 have a2:=a1.te
 refine ae (λhb=>ae (λ_=>?_) (λ_=>λ_=>a1)) (λ_=>λ_=>a1)
 have hb:=oY hb
 refine fp (inv:=λ_=>True) (μ:=Wl m [] 87 v0) trivial (cN _) λv1 _=>?_
 refine ae (λ_=>λ_=>a1) λ_=>c6 (xaK _) λx3 _=>ae (λ_=>λ_=>a1) λ_=>c6 (xax a1.nZ a1.mem) λx4 _=>ae (λ_=>z (by decide)) λ_=>c6 (Zaj a1 gh) λx5 h5=>?_
 obtain⟨b1,b2,b3⟩:=h5
 refine ax (dY (by omega)) (e6 ?_)
 have e:x5.2.B6=v0.1.B6+1:=by rw[b3,wrap_u64];omega
 show(_/\_)/\(_:Nat)<_
 refine⟨⟨b2,by show(v0.2++x5.1).length+(87-x5.2.B6).toNat<=87;rw[lA];omega⟩,by show(87-x5.2.B6).toNat<(87-v0.1.B6).toNat;omega⟩
theorem Zn4(kind:Int)(l:List Int)(hl:l.length*8<=reachBytes)(h40:l.length<=60):(H5 kind l).w (ry 8):=by
 unfold H5
 refine c9 (Kq (by decide)) (aq λx0 nH=>ae (λ_=>c9 qag (aq λx1 e1=>?_)) (λhk=>?_))
 ·have eb:x1.1=jG:=by rw[e1];rfl
  obtain⟨q1,q2⟩:jG.length<=160/\∀w∈jG,U w:=ye
  refine fp (inv:=λv:List Int=>v.length<=160/\v=jG++cO (v.length-jG.length) 0) (μ:=Wm kind l) ⟨by rw[eb];exact q1,by rw[eb];simp⟩ (cN _) λv0 ⟨a1,a2⟩=>?_
  have a3:jG.length<=v0.length:=by rw[a2,lA];omega
  refine ae (λhb=>?_) (λhb=>?_)
  ·have hb:=oY hb
   refine ax (dY (by omega)) (e6 ?_)
   show(_/\_)/\(_:Nat)<_
   refine⟨⟨by rw[lA,cY];omega,?_⟩,by show 160-(v0++[0]).length<160-v0.length;rw[lA,cY];omega⟩
   show v0++[0]=jG++cO ((v0++[0]).length-jG.length) 0
   rw[lA,cY,show v0.length+1-jG.length=(v0.length-jG.length)+1 by omega,List.replicate_succ',<-aM,<-a2]
  ·have hb:=oN hb
   have hv:v0=ta:=by
    unfold ta
    rw[show(160:Nat)=v0.length by omega]
    exact a2
   subst hv
   have hp:=xf
   have Wn:∀w∈ta,U w:=λw hw=>(List.mem_append.1 hw).elim (q2 w) (BC _ w)
   refine c6 (yd l hl) λx2 ⟨b1,b2⟩=>ax (dY (by omega)) ?_
   have hu:∀w∈ta++x2,U w:=λw hw=>(List.mem_append.1 hw).elim (Wn w) (b2 w)
   have hlen:(ta++x2).length<=256:=by rw[lA];omega
   refine ae (λhb=>?_) (λhb=>?_)
   ·have hb:=oY hb;omega
   ·have nw:=Tree.pp (BE _ hu hlen)
    refine c9 nw.1 (aq λx3 h3=>?_)
    have c1:ry 8 x3.1:=by rw[h3];exact nw.2.1
    have rn:=Tree.pp (xag c1)
    refine ae (λ_=>c9 rn.1 (aq λx4 hx=>?_)) (λ_=>c1)
    have e:x3=kR 8 4 (ta++(x2++cO (96-x2.length) 0)):=by
     rw[h3]
     have H6:(x2++cO (96-x2.length) (0:Int)).length=96:=by rw[lA,cS];omega
     refine qf _ _ hlen (by rw[lA,H6];omega) ?_
     rw[lA,lA,H6,hp,aM,aM,aM,show 256-(160+96)=0 by omega,show 256-(160+x2.length)=96-x2.length by omega]
     simp
    have h0:x4.2.2.2=0:=by
     rw[hx,e]
     exact vY _ (by rw[lA,cS];omega)
    exact(by rw[hx];exact rn.2:x4.2.2.2=0->ry 8 x4.1) h0
 ·have hk:=oN hk
  refine c6 (yd l hl) λx2 ⟨b1,b2⟩=>ax (dY (by omega)) ?_
  refine ae (λhb=>?_) (λhb=>?_)
  ·have hb:=oY hb;omega
  ·have nw:=Tree.pp (BE _ b2 (by omega))
   refine c9 nw.1 (aq λx3 h3=>?_)
   have c1:ry 8 x3.1:=by rw[h3];exact nw.2.1
   exact ae (λh=>absurd (eq_of_beq h) (by omega)) (λ_=>c1)
def out(f:Int)(m m':List Int):Prop:=∀j:Nat,¬(f*32<=j/\(j:Int)<f*32+32)->m'.getD j 0=m.getD j 0
theorem Wo(f:Int)(m:List Int):out f m m:=λ_ _=>rfl
theorem uX(l:List Int)(i j:Nat)(v:Int)(h:i≠j):(l.set i v).getD j 0=l.getD j 0:=by
 simp only[cX,List.getElem?_set_ne h]
theorem tX{P:Nat}{m:List Int}(h:ep P m):jK m=P:=by
 obtain⟨h1,h2,h3,_⟩:=h
 simp only[jK,Gg,Tree.m]
 have e:(m.length:Int)=32*P:=by omega
 rw[e]
 have e1:(cZ (32*(P:Int)) 32 !=0)=false:=by simp[Int.mul_tmod_right]
 have e2:decide ((32*(P:Int))>1024)=false:=dN (by omega)
 rw[e1,e2]
 simp only[cond_false]
 rw[Int.mul_tdiv_cancel_left _ (by decide),wrap_i64];omega
theorem qZ{P:Nat}{m:List Int}(h:ep P m)(f:Int):Eg m f=true->0<=f/\f<P:=by
 have hp:=tX h
 simp only[Eg,Kr,Tree.m,eh,hp]
 cases h1:decide (f>=0)
 ·intro h;cases h
 ·intro h;exact⟨oY h1,oY h⟩
theorem zf{P:Nat}{m:List Int}(h:ep P m)(f:Int)(s:List UInt8):(H7 m f s).w (λr=>ep P r.1/\out f m r.1/\(r.2=false->r.1=m)):=by
 have jf:ko m=m:=rfl
 have h2:=h.p2
 unfold H7
 refine c9 (Gh h) (aq λx0 nH=>aq λx1 oR=>?_)
 rw[jf]at nH;subst nH
 refine ae (λ_=>⟨h,Wo _ _,λ_=>rfl⟩) λhb=>ae (λ_=>⟨h,Wo _ _,λ_=>rfl⟩) λhs=>?_
 have hb:x1=true:=by simpa using hb
 obtain⟨f0,f1⟩:=qZ h f (oR.symm.trans hb)
 have hs:(s.length:Int)=128:=by simpa using hs
 refine fp (inv:=λz:Int×List Int=>0<=z.1/\z.1<=32/\ep P z.2/\out f x0 z.2) (μ:=Qb x0 f s) ⟨show(0:Int)<=0 by decide,show(0:Int)<=32 by decide,h,Wo _ _⟩ (cN _) λz ⟨z1,z2,z3,z4⟩=>?_
 refine ae (λhb=>?_) (λ_=>⟨z3,z4,λh=>by cases h⟩)
 have hb:=oY hb
 have e1:i64.wrap (4*z.1)=4*z.1:=by rw[wrap_i64];omega
 have e2:i64.wrap (i64.wrap (4*z.1)+4)=4*z.1+4:=by rw[wrap_i64,wrap_i64];omega
 have e3:i64.wrap (i64.wrap (f*32)+z.1)=f*32+z.1:=by rw[wrap_i64,wrap_i64];omega
 have hl:=z3.len
 have hlen:(cU (dA (i64.wrap (i64.wrap (4*z.1)+4))-dA (i64.wrap (4*z.1))) (cV (dA (i64.wrap (4*z.1))) s)).length=4:=by
  rw[e2,e1,aD,aG];omega
 refine ax (dY (by rw[e2,e1];omega)) ?_
 refine ax (dY (by rw[hlen];decide)) (ax (dY (by rw[hlen];decide)) (ax (dY (by rw[hlen];decide)) (ax (dY (by rw[hlen];decide)) (ax (by rw[e3];simp[bN];omega) (e6 ?_)))))
 show(_/\_/\ep P (dB _ _ _)/\out f x0 (dB _ _ _))/\(_:Nat)<_
 have ew:i64.wrap (z.1+1)=z.1+1:=by rw[wrap_i64];omega
 rw[e3]
 refine⟨⟨by rw[ew];omega,by rw[ew];omega,⟨by rw[dC];exact hl,z3.p1,z3.p2,Eh z3.u (ny _ _) _⟩,λj hj=>?_⟩,by show(32-i64.wrap (z.1+1)).toNat<(32-z.1).toNat;rw[ew];omega⟩
 rw[uX _ _ _ _ (by omega)]
 exact z4 j hj
theorem xaA(w:List Int)(h:w.length<=32):(Ei w).w (λr=>r.length=4*w.length):=by
 have e0:i64.wrap (4*(w.length:Int))=4*w.length:=by rw[wrap_i64];omega
 unfold Ei
 refine ax (by rw[e0];simp[bN,D.plain];omega) ?_
 refine fp (inv:=λz:Int×List Int=>0<=z.1/\z.1<=w.length/\(z.2.length:Int)=4*z.1) (μ:=Ni w) ⟨by decide,by show(0:Int)<=w.length;omega,rfl⟩ (cN _) λz ⟨z1,z2,z3⟩=>?_
 refine ae (λhb=>?_) (λhb=>?_)
 ·have hb:=oY hb
  have ew:i64.wrap (z.1+1)=z.1+1:=by rw[wrap_i64];omega
  refine ax (by simp[bN];omega) (ax (dY (by omega)) (e6 ?_))
  show(_/\_/\_)/\(_:Nat)<_
  refine⟨⟨by rw[ew];omega,by rw[ew];omega,by rw[ew,lA];simp only[dD,dE];omega⟩,by show(w.length-i64.wrap (z.1+1)).toNat<(w.length-z.1).toNat;rw[ew];omega⟩
 ·have hb:=oN hb
  show(bytesOf z.2).length=_
  rw[Nj];omega
theorem yf{P:Nat}{m:List Int}(h:ep P m)(f:Int):(Dl m f).w (λr=>0<=f->f<P->r.1.length=128):=by
 have hl:=h.len
 have h2:=h.p2
 unfold Dl
 refine aq λx0 nH=>ae (λhb=>λf0 f1=>?_) (λhb=>?_)
 ·have hp:=tX h
  have hb:x0=false:=by simpa using hb
  rw[hb]at nH
  simp only[Eg,Kr,Tree.m,eh,hp]at nH
  rw[dY f0]at nH
  exact absurd f1 (oN nH.symm)
 ·have hb:x0=true:=by simpa using hb
  obtain⟨f0,f1⟩:=qZ h f (nH.symm.trans hb)
  have e1:i64.wrap (f*32)=f*32:=by rw[wrap_i64];omega
  have e2:i64.wrap (i64.wrap (f*32)+32)=f*32+32:=by rw[wrap_i64,wrap_i64];omega
  have hlen:(cU (dA (i64.wrap (i64.wrap (f*32)+32))-dA (i64.wrap (f*32))) (cV (dA (i64.wrap (f*32))) m)).length=32:=by
   rw[e2,e1,aD,aG];omega
  refine ax (by rw[e2,e1];simp[bN];omega) ?_
  refine c9 (by show dF _<=1000000000000;rw[hlen];decide) (aq λx1 h1=>?_)
  have h1:x1.length=4*(cU (dA (i64.wrap (i64.wrap (f*32)+32))-dA (i64.wrap (f*32))) (cV (dA (i64.wrap (f*32))) m)).length:=by rw[h1];exact(Tree.pp (xaA _ (dG hlen))).2
  intro _ _
  show x1.length=128
  rw[h1,hlen]
theorem xZ{f:Int}(hf:U f){P:Nat}(hP:P<=32)(h:decide (u64.wrap f<u64.wrap (P:Int))=true):0<=f/\f<P:=by
 have h:=oY h
 obtain⟨h1,h2⟩:=hf
 rw[wrap_u64,wrap_u64,dH h1 (by omega),dH (by omega) (by omega)]at h
 exact⟨h1,h⟩
theorem zZ(m:bd):uY m=(AD m.B1&&(AE m.B8&&(pS m.B7 (jK m.Mem)&&(uZ m.D2 (jK m.Mem)&&AF m.A6 (jK m.Mem))))):=by
 simp only[uY,Gi,Tree.m,eh]
 cases AD m.B1<;>cases AE m.B8<;>cases pS m.B7 (jK m.Mem)<;>cases uZ m.D2 (jK m.Mem)<;>rfl
def chain(b1 b2 b3 b4 b5 b6 b7 w h dev:Bool):Bool:=bif b1 then false else bif b2 then false else bif b3 then false else bif b4 then false else bif b5 then false else bif b6 then false else bif b7 then false else bif w then(bif h then false else dev)else dev
def Nk(p:Int)(c:bn)(ct:Int)(w h dev:Bool):Bool:=chain (p==0) (c.X.a0 !=0) (decide (c.C3.a0>31)) (decide (c.C3.a7>31)) (decide (c.C3.a6>255)) (cZ c.C3.a1 4 !=0) (decide (ct>1152921504606846976)) w h dev
theorem qaB(m:bd):AG m=Nk (jK m.Mem) m.B4 m.B6 m.B2 m.B5 (uY m):=rfl
section
variable {P:Nat} {m:List Int} (h:ep P m)
include h
theorem Nl{f:Int}(hf:U f){b:Bool}(hx:b=Nn m f)(hb:b=true):0<=f/\f<P:=by
 have hp:=tX h
 rw[hb]at hx
 simp only[Nn,Sw,Tree.m,eh,hp]at hx
 exact xZ hf h.p2 hx.symm
theorem Gj{f:Int}(hf:U f){b:Bool}(hx:b=Ks m f)(hb:b=true):0<=f/\f<P:=by
 have hp:=tX h
 rw[hb]at hx
 simp only[Ks,Sx,Tree.m,eh,hp]at hx
 exact xZ hf h.p2 hx.symm
def si(P:Nat)(d d':fu):Prop:=w5 d'/\(pS d P=true->pS d' P=true)
theorem vf{d:fu}(hd:w5 d){cmd:Int}(hc:cmd=1\/cmd=2)(gj:Int):(Kt d m cmd gj).w (λr=>si P d r.1/\r.2.length<=1):=by
 have h2:=h.p2
 have st3:(d.C7 !=0)=false->si P d {ab:=d.ab,C8:=d.C8,Frame:=d.Frame,C7:=3,F6:=d.F6,C5:=d.C5,C6:=d.C6,C9:=d.C9}:=λhs=>by
  have hs:d.C7=0:=by simpa using hs
  refine⟨⟨hd.block,hd.frame,hd.j9,hd.ka⟩,λhm=>?_⟩
  simp only[pS,Ej,Tree.m,hs]at hm⊢
  exact hm
 have No:pS d P=true->decide (d.ab>64)=false:=λhm=>by
  cases hb:decide (d.ab>64)
  ·rfl
  ·have:pS d P=false:=by simp only[pS,Ej,Tree.m];rw[hb];rfl
   rw[this]at hm;cases hm
 unfold Kt
 refine ae (λ_=>⟨⟨hd,λh=>h⟩,bC _⟩) λhs=>ae (λ_=>⟨st3 hs,bC _⟩) λhb=>aq λx0 hx=>ae (λ_=>⟨st3 hs,bC _⟩) λhp=>?_
 have hb:=oN hb
 obtain⟨f0,f1⟩:=Nl h hd.frame hx (by simpa using hp)
 have ef:i64.wrap d.Frame=d.Frame:=by rw[wrap_i64];omega
 have e1:decide (d.C8<d.ab)=true:=dY (by omega)
 have e2:decide (i64.wrap d.Frame<(P:Int))=true:=by rw[ef];exact dY f1
 refine ae (λw4=>c6 (yf h _) λx1 h1=>?_) (λw4=>?_)
 ·rw[ef]at h1
  have h1:=h1 f0 f1
  have w4:=eq_of_beq w4
  subst w4
  refine aq λx2 _=>⟨⟨⟨hd.block,hd.frame,hd.block,hd.frame⟩,λhm=>?_⟩,aX _⟩
  simp only[pS,Ej,Sy,Np,Tree.m,eh,No hm,e1,e2,h1]
  rfl
 ·have hc:cmd=1:=by
   rcases hc with h|h
   ·exact h
   ·rw[h]at w4;exact absurd w4 (by decide)
  subst hc
  refine aq λx2 _=>⟨⟨⟨hd.block,hd.frame,hd.block,hd.frame⟩,λhm=>?_⟩,aX _⟩
  simp only[pS,Ej,Sy,Np,Tree.m,eh,No hm,e1,e2]
  rfl
theorem qah{d:fu}(hd:w5 d)(port:Int){v:Int}(hv:U v)(gj:Int):(Ku d m port v gj).w (λr=>si P d r.1/\r.2.length<=1):=by
 have dv:si P d d:=⟨hd,λh=>h⟩
 have e1:∀{k:Int},(v==k)=true->i64.wrap v=k:=λhk=>by
  have:=eq_of_beq hk
  obtain⟨a,b⟩:=hv
  rw[wrap_i64];omega
 unfold Ku
 refine ae (λ_=>⟨⟨⟨hv,hd.frame,hd.j9,hd.ka⟩,λh=>h⟩,bC _⟩) λ_=>ae (λ_=>⟨⟨⟨hd.block,hv,hd.j9,hd.ka⟩,λh=>h⟩,bC _⟩) λ_=>ae (λ_=>ae (λhk=>c6 (vf h hd (.inl (e1 hk)) _) λx hx=>hx) λ_=>ae (λhk=>c6 (vf h hd (.inr (e1 hk)) _) λx hx=>hx) λ_=>ae (λ_=>aq λx hx=>ae (λhb=>?_) (λ_=>⟨dv,bC _⟩)) (λ_=>⟨dv,bC _⟩)) (λ_=>⟨dv,bC _⟩)
 refine⟨⟨⟨hd.block,hd.frame,hd.j9,hd.ka⟩,λhm=>?_⟩,bC _⟩
 rw[hb]at hx
 simp only[Kv,Wp,Tree.m]at hx
 cases h2:d.C7==2
 ·rw[h2]at hx
  have h3:d.C7=3:=eq_of_beq hx.symm
  simp only[pS,Ej,Tree.m,h3]at hm⊢
  exact hm
 ·have h3:d.C7=2:=eq_of_beq h2
  simp only[pS,Ej,Tree.m,h3]at hm⊢
  exact hm
def BF(P:Nat)(n n':gw):Prop:=tY n'/\(uZ n P=true->uZ n' P=true)
theorem zaB{n:gw}(hn:tY n)(gj:Int):(Kw n m gj).w (λr=>r.length<=1):=by
 have h2:=h.p2
 unfold Kw
 refine ae (λ_=>bC _) λl1=>ae (λ_=>bC _) λl2=>aq λx0 hx=>ae (λ_=>bC _) λhp=>c6 (yf h _) λx1 h1=>?_
 have l1:=oN l1
 have l2:=oN l2
 obtain⟨f0,f1⟩:=Gj h hn.frame hx (by simpa using hp)
 have ef:i64.wrap n.Frame=n.Frame:=by rw[wrap_i64];omega
 rw[ef]at h1
 have h1:=h1 f0 f1
 exact ax (dY (by omega)) (aX _)
theorem xaB{n:gw}(hn:tY n)(port:Int){v:Int}(hv:U v)(gj:Int):(Kx n m port v gj).w (λr=>BF P n r.1/\r.2.length<=1):=by
 have h2:=h.p2
 have dv:BF P n n:=⟨hn,λh=>h⟩
 unfold Kx
 refine ae (λ_=>⟨⟨⟨hv,hn.len,hn.buffer,hn.Gk⟩,λh=>h⟩,bC _⟩) λ_=>ae (λ_=>⟨⟨⟨hn.frame,hv,hn.buffer,hn.Gk⟩,λh=>h⟩,bC _⟩) λ_=>ae (λ_=>ae (λ_=>c6 (zaB h hn _) λx hx=>⟨dv,hx⟩) λ_=>ae (λ_=>aq λx hx=>ae (λhb=>ae (λnp=>ae (λnr=>?_) (λ_=>⟨dv,bC _⟩)) (λ_=>⟨dv,bC _⟩)) (λ_=>⟨dv,bC _⟩)) λ_=>ae (λ_=>?_) (λ_=>⟨dv,bC _⟩)) (λ_=>⟨dv,bC _⟩)
 ·obtain⟨f0,f1⟩:=Gj h hn.frame hx hb
  have np:n.D1=false:=by simpa using np
  have nr:n.C4=false:=by simpa using nr
  have e2:decide (i64.wrap n.Frame>=(P:Int))=false:=dN (by rw[wrap_i64];omega)
  refine⟨⟨⟨hn.frame,hn.len,hn.frame,hn.Gk⟩,λhm=>?_⟩,bC _⟩
  simp only[uZ,Nq,Tree.m,np,nr,e2]at hm⊢
  cases hb:(n.D4 !=0)
  ·rw[hb]at hm;exact hm
  ·rw[hb]at hm;cases hm
 ·refine⟨⟨⟨hn.frame,hn.len,hn.buffer,gh⟩,λhm=>?_⟩,bC _⟩
  simp only[uZ,Nq,Tree.m]at hm⊢
  revert hm
  cases n.D1<;>cases n.C4<;>cases decide (i64.wrap n.D4>=(P:Int))<;>cases(n.D4 !=0)<;>simp
end
theorem zah(t:iS)(v:Int):AE (Nr t v)=true:=by
 simp only[Nr,Sz,AE,SA,Tree.m]
 cases h:(v !=0)
 ·have:v=0:=by simpa using h
  subst this;rfl
 ·rfl
theorem Dm{a:Int}(k:Nat)(hk:k<=32):bc .u32 a k=a/2^k:=by
 unfold bc
 have e:min (k:Int).toNat u32.bits=k:=by show min (k:Int).toNat 32=k;omega
 have hp:(0:Int)<2^k:=dI (by decide)
 rw[e,dJ _ (dK hp)]
def Ky(x:Int)(n:Nat):Prop:=x<2^n/\(n=0\/(2:Int)^(n-1)<=x)
theorem Wq{x q:Int}{n k:Nat}(hq:q=x/2^k)(h0:0<q)(h:Ky q n):Ky x (n+k):=by
 have hp:(0:Int)<2^k:=dI (by decide)
 obtain⟨h1,h2⟩:=h
 have hn:n≠0:=λe=>by subst e;simp at h1;omega
 refine⟨?_,.inr ?_⟩
 ·rw[dL]
  have:x<(x/2^k+1)*2^k:=Int.lt_ediv_add_one_mul_self x hp
  have h3:(x/2^k+1)*2^k<=2^n*2^k:=dM (by omega) (dK hp)
  omega
 ·have h2:=h2.resolve_left hn
  have e:n+k-1=(n-1)+k:=by omega
  rw[e,dL]
  have h3:(2:Int)^(n-1)*2^k<=q*2^k:=dM h2 (dK hp)
  have h4:q*2^k<=x:=by rw[hq];exact Int.ediv_mul_le x (Int.ne_of_gt hp)
  omega
theorem xI{x:Int}{n p:Nat}(h:Ky x n)(hx:x<2^p):n<=p:=by
 obtain⟨h1,h2⟩:=h
 rcases h2 with h2|h2
 ·omega
 ·rcases Nat.lt_or_ge p n with bg|gu
  ·have:(2:Int)^p<=2^(n-1):=by
    have:=dO (show 0<2 by omega) (show p<=n-1 by omega)
    exact_mod_cast this
   omega
  ·exact gu
theorem Zn3{x:Int}{n p:Nat}(h:Ky x n)(hn:n<=p):x<2^p:=by
 have:(2:Int)^n<=2^p:=by
  have:=dO (show 0<2 by omega) hn
  exact_mod_cast this
 exact Int.lt_of_lt_of_le h.1 this
def BG(i:Nat):Bool:=match(u0 (i:Int))with
 |.ofNat n=>decide ((i:Int)<2^n)&&(Nat.beq n 0||decide ((2:Int)^(n-1)<=i))&&decide (n<=8)
 |_=>false
theorem SB{q:Int}(h0:0<=q)(h1:q<256):∃n:Nat,u0 q=n/\Ky q n/\n<=8:=by
 have all:List.all (cW 256) BG=true:=by kernel_rfl
 have:=List.all_eq_true.1 all q.toNat (List.mem_range.2 (by omega))
 have hq:((q.toNat:Nat):Int)=q:=by omega
 unfold BG at this
 rw[hq]at this
 split at this
 ·rename_i n hn
  simp only[aE,aT,decide_eq_true_eq]at this
  refine⟨n,hn,⟨this.1.1,?_⟩,this.2⟩
  rcases this.1.2 with h|h
  ·exact .inl (bE h)
  ·exact .inr h
 ·cases this
theorem qaC{x:Int}(h:U x)(hx:16777216<=x):u0 x=24+u0 (x/16777216):=by
 obtain⟨h0,h1⟩:=h
 have AH:bc .u32 x 16=x/65536:=Dm 16 (by omega)
 have tZ:bc .u32 (x/65536) 8=x/16777216:=by rw[show((8:Int))=((8:Nat):Int) from rfl,Dm 8 (by omega)];omega
 have d1:decide (x>=65536)=true:=dY (by omega)
 have d2:decide (x/65536>=256)=true:=dY (by omega)
 have d3:decide (x/16777216>=65536)=false:=dN (by omega)
 have d4:decide (x/16777216>=256)=false:=dN (by omega)
 have u:u8.wrap (x/16777216)=x/16777216:=by rw[wrap_u8];omega
 simp only[u0,Dn,Tree.m,AH,tZ,d1,d2,d3,d4,u,cond_true,cond_false]
 generalize(aV _ (dA (x/16777216)) (0:UInt8))=b
 have hb:=dP b
 rw[wrap_i64,wrap_i64,wrap_i64,wrap_i64]
 omega
theorem zaC{x:Int}(h0:65536<=x)(h1:x<16777216):u0 x=16+u0 (x/65536):=by
 have AH:bc .u32 x 16=x/65536:=Dm 16 (by omega)
 have d1:decide (x>=65536)=true:=dY (by omega)
 have d2:decide (x/65536>=256)=false:=dN (by omega)
 have d3:decide (x/65536>=65536)=false:=dN (by omega)
 have u:u8.wrap (x/65536)=x/65536:=by rw[wrap_u8];omega
 simp only[u0,Dn,Tree.m,AH,d1,d2,d3,u,cond_true,cond_false]
 generalize(aV _ (dA (x/65536)) (0:UInt8))=b
 have hb:=dP b
 rw[wrap_i64,wrap_i64,wrap_i64]
 omega
theorem Ns{x:Int}(h0:256<=x)(h1:x<65536):u0 x=8+u0 (x/256):=by
 have s8:bc .u32 x 8=x/256:=Dm 8 (by omega)
 have d1:decide (x>=65536)=false:=dN (by omega)
 have d2:decide (x>=256)=true:=dY (by omega)
 have d3:decide (x/256>=65536)=false:=dN (by omega)
 have d4:decide (x/256>=256)=false:=dN (by omega)
 have u:u8.wrap (x/256)=x/256:=by rw[wrap_u8];omega
 simp only[u0,Dn,Tree.m,s8,d1,d2,d3,d4,u,cond_true,cond_false]
 generalize(aV _ (dA (x/256)) (0:UInt8))=b
 have hb:=dP b
 rw[wrap_i64,wrap_i64,wrap_i64,wrap_i64]
 omega
theorem Zrd{x:Int}(h:U x):∃n:Nat,u0 x=n/\Ky x n:=by
 obtain⟨h0,h1⟩:=h
 rcases dQ x 256 with a|a
 ·obtain⟨n,e,l,_⟩:=SB h0 a
  exact⟨n,e,l⟩
 ·rcases dQ x 65536 with b|b
  ·obtain⟨n,e,l,_⟩:=SB (q:=x/256) (by omega) (by omega)
   exact⟨n+8,by rw[Ns a b,e];omega,Wq (k:=8) rfl (by omega) l⟩
  ·rcases dQ x 16777216 with c|c
   ·obtain⟨n,e,l,_⟩:=SB (q:=x/65536) (by omega) (by omega)
    exact⟨n+16,by rw[zaC b c,e];omega,Wq (k:=16) rfl (by omega) l⟩
   ·obtain⟨n,e,l,_⟩:=SB (q:=x/16777216) (by omega) (by omega)
    exact⟨n+24,by rw[qaC ⟨h0,h1⟩ c,e];omega,Wq (k:=24) rfl (by omega) l⟩
theorem Nt{b:gb}(h:U b.D0){P:Nat}:AF b P=true↔b.D0<2^P:=by
 obtain⟨n,e,l⟩:=Zrd h
 have hp:(if(0:Int)>(P:Int)then(0:Int)else P)=P:=by rw[if_neg (by omega)]
 simp only[AF,H8,Tree.m,eh,e,hp,decide_eq_true_eq]
 constructor
 ·intro h;exact Zn3 l (by omega)
 ·intro h;have:=xI l h;omega
theorem Wr{a:Int}(h:U a){P:Nat}(h1:a<2^P):(dR 32 a).toNat<2^P:=by
 obtain⟨a0,a1⟩:=h
 rw[dS,dH a0 (by omega)]
 have:((2^P:Nat):Int)=(2:Int)^P:=by exact_mod_cast rfl
 omega
theorem Nu{a b:Int}(ha:U a)(hb:U b){P:Nat}(hP:P<=32)(h1:a<2^P)(h2:b<2^P):iG .u32 a b<2^P:=by
 have e:(dR 32 a|||dR 32 b).toNat<2^P:=by
  rw[dT]
  exact Nat.or_lt_two_pow (Wr ha h1) (Wr hb h2)
 have hc:((2^P:Nat):Int)=(2:Int)^P:=by exact_mod_cast rfl
 have l:=(dR 32 a|||dR 32 b).isLt
 show wrap .u32 ((dR 32 a|||dR 32 b).toNat:Int)<2^P
 rw[wrap_u32]
 omega
theorem xah{a b:Int}(ha:U a){P:Nat}(h1:a<2^P):oD .u32 a b<2^P:=by
 have e:(dR 32 a&&&~~~dR 32 b).toNat<2^P:=by
  rw[dU]
  exact Nat.lt_of_le_of_lt dV (Wr ha h1)
 have hc:((2^P:Nat):Int)=(2:Int)^P:=by exact_mod_cast rfl
 have l:=(dR 32 a&&&~~~dR 32 b).isLt
 show wrap .u32 ((dR 32 a&&&~~~dR 32 b).toNat:Int)<2^P
 rw[wrap_u32]
 omega
theorem qg{v:Int}(h0:0<=v)(h1:v<32):eu .u32 1 v=2^v.toNat:=by
 have e:min v.toNat u32.bits=v.toNat:=by show min v.toNat 32=v.toNat;omega
 obtain⟨n,rfl⟩:∃n:Nat,v=n:=⟨v.toNat,by omega⟩
 have hn:n<32:=by omega
 have bg:(2:Nat)^n<4294967296:=by
  have:=dW (show 1<2 by omega) hn
  simpa using this
 have hc:((2^n:Nat):Int)=(2:Int)^n:=by exact_mod_cast rfl
 unfold eu
 rw[e,wrap_u32,Int.one_mul,dX,<-hc]
 clear hc e
 generalize(2:Nat)^n=z at*
 omega
def BH(P:Nat)(b b':gb):Prop:=okB b'/\(AF b P=true->AF b' P=true)
theorem Zst{P:Nat}{m:List Int}(h:ep P m){b:gb}(hb:okB b)(port:Int){v:Int}(hv:U v):(Dp b m port v).w (λr=>BH P b r.1/\ep P r.2):=by
 have jf:ko m=m:=rfl
 have h2:=h.p2
 have hp:=tX h
 have dv:(Tree.an (nI m) (.lv (ko m) λx=>.lf (b,x))).w (λr=>BH P b r.1/\ep P r.2):=c9 (Gh h) (aq λx hx=>by rw[jf]at hx;subst hx;exact⟨⟨hb,λh=>h⟩,h⟩)
 unfold Dp
 refine ae (λ_=>dv) λbg=>ax (dY hv.1) (ae (λ_=>aq λx1 hx=>ae (λH9=>ae (λ_=>c9 ⟨by decide,by decide,by decide⟩ (aq λx2 _=>c6 (zf h _ _) λx3 ⟨h3,_⟩=>?_)) (λ_=>dv)) (λ_=>dv)) (λ_=>ae (λ_=>c9 (Gh h) (aq λx hx=>?_)) (λ_=>dv)))
 ·have bg:=oN bg
  have H9:=oY H9
  rw[hx,hp]at H9
  obtain⟨v0,v1⟩:=hv
  have ev:i64.wrap v=v:=by rw[wrap_i64];omega
  rw[ev]at H9
  refine⟨⟨⟨hb.1,fj _⟩,λhm=>?_⟩,h3⟩
  rw[Nt hb.2]at hm
  rw[Nt (fj _)]
  have hs:eu .u32 1 v<2^P:=by
   rw[qg v0 (by omega)]
   have:=dW (show 1<2 by omega) (show v.toNat<P by omega)
   exact_mod_cast this
  exact Nu hb.2 (fj _) h2 hm hs
 ·rw[jf]at hx;subst hx
  refine⟨⟨⟨hb.1,fj _⟩,λhm=>?_⟩,h⟩
  rw[Nt hb.2]at hm
  rw[Nt (fj _)]
  exact xah hb.2 hm
structure kept(P:Nat)(m n:bd):Prop where
 ok:w6 P n
 dev:uY m=true->uY n=true
 nZ:n.B4=m.B4
 te:n.B6=m.B6
 wait:n.B2=m.B2
 halt:n.B5=m.B5
theorem Zkk{P:Nat}{m:bd}(h:w6 P m):kept P m m:=⟨h,λh=>h,rfl,rfl,rfl,rfl⟩
theorem Ia{P:Nat}{m n:bd}(hm:ep P m.Mem)(hn:ep P n.Mem)(hc:AD m.B1=true->AD n.B1=true)(ht:AE m.B8=true->AE n.B8=true)
 (hd:pS m.B7 P=true->pS n.B7 P=true) (hk:uZ m.D2 P=true->uZ n.D2 P=true) (hb:AF m.A6 P=true->AF n.A6 P=true) (h:uY m=true):uY n=true:=by
 rw[zZ]at h⊢
 rw[tX hm]at h
 rw[tX hn]
 simp only[aE]at h⊢
 exact⟨hc h.1,ht h.2.1,hd h.2.2.1,hk h.2.2.2.1,hb h.2.2.2.2⟩
theorem Zo0{P:Nat}{m:bd}(h:w6 P m)(port:Int){v:Int}(hv:U v)(gj:Int):(Kz m port v gj).w (λr=>kept P m r.1/\r.2.length<=1):=by
 have k:=Zkk h
 obtain⟨h1,h2,h3,h4,h5,h6⟩:=h
 have id:∀{p:Prop},p->p:=λh=>h
 have D:∀(x:fu×List il),(si P m.B7 x.1/\x.2.length<=1)->kept P m {B4:=m.B4,Mem:=m.Mem,B1:=m.B1,B8:=m.B8,B7:=x.1,D2:=m.D2,A6:=m.A6,B6:=m.B6,B2:=m.B2,B5:=m.B5}/\x.2.length<=1:=λx hx=>
  ⟨⟨⟨h1,h2,hx.1.1,h4,h5,h6⟩,Ia h2 h2 id id hx.1.2 id id,rfl,rfl,rfl,rfl⟩,hx.2⟩
 have N:∀(x:gw×List il),(BF P m.D2 x.1/\x.2.length<=1)->kept P m {B4:=m.B4,Mem:=m.Mem,B1:=m.B1,B8:=m.B8,B7:=m.B7,D2:=x.1,A6:=m.A6,B6:=m.B6,B2:=m.B2,B5:=m.B5}/\x.2.length<=1:=λx hx=>
  ⟨⟨⟨h1,h2,h3,hx.1.1,h5,h6⟩,Ia h2 h2 id id id hx.1.2 id,rfl,rfl,rfl,rfl⟩,hx.2⟩
 have B:∀(x:gb×List Int),(BH P m.A6 x.1/\ep P x.2)->kept P m {B4:=m.B4,Mem:=x.2,B1:=m.B1,B8:=m.B8,B7:=m.B7,D2:=m.D2,A6:=x.1,B6:=m.B6,B2:=m.B2,B5:=m.B5}/\([]:List il).length<=1:=λx hx=>
  ⟨⟨⟨h1,hx.2,h3,h4,hx.1.1.1,hx.1.1.2⟩,Ia h2 hx.2 id id id id hx.1.2,rfl,rfl,rfl,rfl⟩,bC _⟩
 unfold Kz
 repeat'(first
  |exact⟨k,aX _⟩
  |exact⟨k,bC _⟩
  |exact aq λx hx=>⟨⟨⟨h1,h2,h3,h4,h5,h6⟩,Ia h2 h2 id (λ_=>by rw[hx];exact zah _ _) id id id,rfl,rfl,rfl,rfl⟩,bC _⟩
  |exact c6 (qah h2 h3 _ hv _) λx hx=>D x hx
  |exact c6 (xaB h2 h4 _ hv _) λx hx=>N x hx
  |exact c6 (Zst h2 ⟨h5,h6⟩ _ hv) λx hx=>B x hx
  |refine ae (λ_=>?_) (λ_=>?_))
theorem Zbv(c:iK)(port:Int):(Ib c port).w (λr=>U r.2/\(AD c=true->AD r.1=true)):=by
 have u1:U 4294967295:=⟨by omega,by omega⟩
 unfold Ib
 refine ae (λ_=>ae (λ_=>⟨u1,λh=>h⟩) (λhb=>ax ?_ (ax ?_ ⟨fj _,λhm=>?_⟩))) (λ_=>ae (λ_=>⟨fj _,λh=>h⟩) (λ_=>⟨gh,λh=>h⟩))
 ·have hb:=oN hb
  have:0<c.D9.length:=List.length_pos_iff.2 hb
  simp[bN];omega
 ·have hb:=oN hb
  have:0<c.D9.length:=List.length_pos_iff.2 hb
  exact dY (by omega)
 ·have hm:decide ((c.D9.length:Int)<=16)=true:=hm
  have hm:=oY hm
  show decide (((cU _ (cV _ c.D9)).length:Int)<=16)=true
  refine dY ?_
  rw[aD,aG];omega
theorem Zsl{P:Nat}{m:bd}(h:w6 P m)(port:Int){clock:Int}(hc:U clock):(KA m port clock).w (λr=>kept P m r.1/\U r.2):=by
 have k:=Zkk h
 obtain⟨h1,h2,h3,h4,h5,h6⟩:=h
 have id:∀{p:Prop},p->p:=λh=>h
 have ti:∀t,U (Ws t):=λt=>by
  refine Tree.post (SC t) (W:=U) ?_
  unfold SC
  exact ae (λ_=>⟨by omega,by omega⟩) (λ_=>gh)
 have di:∀p,U (Nv m.B7 p):=λp=>by
  refine Tree.post (SD m.B7 p) (W:=U) ?_
  unfold SD
  exact ae (λ_=>h3.block) (λ_=>ae (λ_=>h3.frame) (λ_=>ae (λ_=>fj _) (λ_=>gh)))
 have ni:∀p,U (KB m.D2 p):=λp=>by
  refine Tree.post (Nw m.D2 p) (W:=U) ?_
  unfold Nw
  exact ae (λ_=>h4.frame) (λ_=>ae (λ_=>h4.Gk) (λ_=>ae (λ_=>ae (λ_=>ae (λ_=>fj _) (λ_=>fj _)) (λ_=>ae (λ_=>fj _) (λ_=>gh))) (λ_=>gh)))
 have bi:∀p,(KC m.A6 p).w U:=λp=>by
  unfold KC
  exact ae (λ_=>h5) (λ_=>ae (λ_=>c6 (Zpd h6) λ_ _=>fj _) (λ_=>gh))
 have C:∀(x:iK×Int),(U x.2/\(AD m.B1=true->AD x.1=true))->kept P m {B4:=m.B4,Mem:=m.Mem,B1:=x.1,B8:=m.B8,B7:=m.B7,D2:=m.D2,A6:=m.A6,B6:=m.B6,B2:=m.B2,B5:=m.B5}/\U x.2:=λx hx=>
  ⟨⟨⟨h1,h2,h3,h4,h5,h6⟩,Ia h2 h2 hx.2 id id id id,rfl,rfl,rfl,rfl⟩,hx.1⟩
 unfold KA
 repeat'(first
  |exact⟨k,hc⟩
  |exact⟨k,gh⟩
  |exact c6 (Zbv _ _) λx hx=>C x hx
  |exact Zp (Zbv _ _) λx hx=>C x hx
  |exact aq λx hx=>⟨k,by rw[hx];exact ti _⟩
  |exact aq λx hx=>⟨k,by rw[hx];exact di _⟩
  |exact aq λx hx=>⟨k,by rw[hx];exact ni _⟩
  |exact c6 (bi _) λx hx=>⟨k,hx⟩
  |refine ae (λ_=>?_) (λ_=>?_))
structure mX(c:bn):Prop where
 x0:c.X.a0=0
 st:c.C3.a0<=31
 en:c.C3.a7<=31
 rt:c.C3.a6<=255
 ve:cZ c.C3.a1 4=0
theorem mX.pc{c:bn}(h:mX c)(p:Int):mX {X:=c.X,Pc:=p,C3:=c.C3}:=⟨h.x0,h.st,h.en,h.rt,h.ve⟩
theorem Gl(a:Int):bb .u32 a 31<=31:=by
 have e:(dR 32 a&&&dR 32 31).toNat<=31:=by
  rw[dU]
  exact Nat.le_trans Nat.and_le_right (by decide)
 show wrap .u32 ((dR 32 a&&&dR 32 31).toNat:Int)<=31
 rw[wrap_u32];omega
theorem Ek(a:Int):bb .u32 a 255<=255:=by have:=BI a;omega
theorem Nx(a:Int):cZ (oD .u32 a 3) 4=0:=by
 have e:(dR 32 a&&&~~~dR 32 3).toNat%4=0:=by
  rw[dU,show(~~~dR 32 3).toNat=4294967292 by decide]
  have:=Nat.and_mod_two_pow (a:=(dR 32 a).toNat) (b:=4294967292) (n:=2)
  simpa using this
 have l:=(dR 32 a&&&~~~dR 32 3).isLt
 show cZ (wrap .u32 ((dR 32 a&&&~~~dR 32 3).toNat:Int)) 4=0
 rw[wrap_u32,dZ (by omega)]
 omega
theorem Gm{f:Int->Int}(h:(cW 32).all (λn=>decide (f n<=31))=true){s:Int}(h0:0<=s)(h1:s<=31):f s<=31:=by
 have:=List.all_eq_true.1 h s.toNat (List.mem_range.2 (by omega))
 have e:((s.toNat:Nat):Int)=s:=by omega
 rw[e]at this
 exact oY this
theorem Ic{c:bn}(h:iI c)(m:mX c)(k b:Int):mX (pT c k b):=
 ⟨m.x0,Gm (f:=λs=>oD .u32 (iG .u32 (w7 (w7 s 1 8) 2 16) 1) 2) (by kernel_rfl) h.a0.1 m.st,m.en,m.rt,m.ve⟩
theorem Zqf{c:bn}(h:iI c)(m:mX c):mX (KD c):=
 ⟨m.x0,Gm (f:=λs=>w7 (w7 s 8 1) 16 2) (by kernel_rfl) h.a0.1 m.st,m.en,m.rt,m.ve⟩
theorem KE{c:bn}(m:mX c){r:Int}(hr:0<=r/\r<16)(v:Int):(El c r v).w mX:=by
 unfold El
 refine ae (λhn=>ax (rc hr) ?_) (λ_=>m)
 have hn:r≠0:=by simpa using hn
 obtain⟨n,e⟩:∃n:Nat,r.toNat=n+1:=⟨r.toNat-1,by omega⟩
 refine⟨?_,m.st,m.en,m.rt,m.ve⟩
 show(iv.of 0 (dB (iv.l c.X) r.toNat v)).a0=0
 rw[e]
 exact m.x0
theorem xg{c:bn}(m:mX c)(k v:Int):(Ie c k v).w mX:=by
 unfold Ie
 refine ae (λhk=>ax (by rw[eq_of_beq hk];decide) ?_) λ_=>ae (λhk=>ax (by rw[eq_of_beq hk];decide) ?_) λ_=>ae (λhk=>ax (by rw[eq_of_beq hk];decide) ?_) λ_=>ae (λhk=>ax (by rw[eq_of_beq hk];decide) ?_) λ_=>ae (λhk=>ax (by rw[eq_of_beq hk];decide) ?_) λ_=>ae (λhk=>ax (by rw[eq_of_beq hk];decide) ?_) λ_=>ae (λhk=>ax (by rw[eq_of_beq hk];decide) ?_) λ_=>ae (λhk=>ax (by rw[eq_of_beq hk];decide) ?_) (λ_=>m)
 all_goals(have hk:=eq_of_beq hk;subst hk)
 ·exact⟨m.x0,Gl _,m.en,m.rt,m.ve⟩
 ·exact⟨m.x0,m.st,Gl _,m.rt,m.ve⟩
 ·exact⟨m.x0,m.st,m.en,Ek _,m.ve⟩
 ·exact⟨m.x0,m.st,m.en,m.rt,Nx _⟩
 ·exact⟨m.x0,m.st,m.en,m.rt,m.ve⟩
 ·exact⟨m.x0,m.st,m.en,m.rt,m.ve⟩
 ·exact⟨m.x0,m.st,m.en,m.rt,m.ve⟩
 ·exact⟨m.x0,m.st,m.en,m.rt,m.ve⟩
section
variable {c:bn} (h:iI c) (m:mX c) {i:gr} (hi:sj i)
include h m hi
theorem Zl7:(Em c i).w (λr=>mX r.1):=by
 unfold Em
 refine ax (rc hi.a) (ax (rc hi.b) ?_)
 repeat'(first
  |refine ae (λ_=>?_) (λ_=>?_)
  |exact c6 (KE m hi.a _) λx hx=>hx.pc _
  |exact aq λx _=>ae (λ_=>m.pc _) (λ_=>m.pc _)
  |exact aq λx hx=>by rw[hx];exact Ic h m _ _
  |exact aq λx hx=>by rw[hx];exact Zqf h m
  |exact ax (by have:=hi.jj (by simp_all);simp[bN];omega) (c6 (KE m hi.a _) λx hx=>hx.pc _)
  |exact c6 (xg m _ _) λx hx=>hx.pc _
  |refine ax (rc hi.c) ?_
  |exact c6 (KF _ (h.r _) (fj _)) λy hy=>c6 (KE m hi.a _) λx hx=>hx.pc _
  |exact c6 (KF _ (h.r _) (h.r _)) λy hy=>c6 (KE m hi.a _) λx hx=>hx.pc _
  |refine bh ?_)
 all_goals exact m.pc _
theorem zI{P:Nat}{mem:List Int}(hm:ep P mem):(Ig c mem i).w (λr=>mX r.1):=by
 have w:=SE i.Op
 unfold Ig
 refine ax (rc hi.b) (aq λx0 h0=>?_)
 rw[<-h0]at w
 refine c6 (Ny hm (fj _) w 2) λx1 h1=>ae (λ_=>aq λy hy=>by rw[hy];exact Ic h m _ _) (λ_=>aq λx3 h3=>?_)
 rw[h0,<-h3]at w
 exact c6 (Ih h1.2 h1.1 w) λx4 h4=>ae (λ_=>c6 (Wt h4.1 8) λy hy=>c6 (KE m hi.a _) λx hx=>hx.pc _) (λ_=>c6 (KE m hi.a _) λx hx=>hx.pc _)
theorem zg{P:Nat}{mem:List Int}(hm:ep P mem):(Ii c mem i).w (λr=>mX r.1):=by
 have w:=SE i.Op
 unfold Ii
 refine ax (rc hi.b) (aq λx0 h0=>?_)
 rw[<-h0]at w
 refine c6 (Ny hm (fj _) w 3) λx1 h1=>ae (λ_=>aq λy hy=>by rw[hy];exact Ic h m _ _) (λ_=>aq λx3 h3=>ax (rc hi.a) ?_)
 rw[h0,<-h3]at w
 exact c6 (SF h1.2 h1.1 w (h.r _)) λx hx=>m.pc _
end
theorem yI{c:bn}(h:iI c)(m:mX c){P:Nat}{mem:List Int}(hm:ep P mem):(En c mem).w (λr=>mX r.1):=by
 unfold En
 refine c6 (Wu hm h) λx0 h0=>ae (λ_=>aq λy hy=>by rw[hy];exact Ic h m _ _) (λ_=>c6 (Wv _) λx2 h2=>ae (λ_=>aq λy hy=>by rw[hy];exact Ic h m _ _) (λhb=>?_))
 have hi:=h2 (by simpa using hb)
 refine aq λx4 _=>?_
 repeat'(first
  |refine ae (λ_=>?_) (λ_=>?_)
  |exact c6 (zI h m hi h0.2) λx hx=>hx
  |exact c6 (zg h m hi h0.2) λx hx=>hx
  |exact c6 (Zl7 h m hi) λx hx=>hx
  |exact aq λy hy=>by rw[hy];exact Ic h m _ _
  |refine aq λ_ _=>?_)
theorem Zm6{c:bn}(h:iI c){i:gr}(hi:sj i):(Em c i).w (λr=>0<=r.2.F8/\r.2.F8<16):=by
 have z:(0:Int)<=0/\(0:Int)<16:=⟨by decide,by decide⟩
 unfold Em
 refine ax (rc hi.a) (ax (rc hi.b) ?_)
 repeat'(first
  |refine ae (λ_=>?_) (λ_=>?_)
  |exact c6 (Dq h hi.a (fj _)) λx hx=>z
  |exact aq λx _=>ae (λ_=>z) (λ_=>z)
  |exact aq λx hx=>z
  |exact ax (by have:=hi.jj (by simp_all);simp[bN];omega) (c6 (Dq h hi.a (h.a _)) λx hx=>z)
  |exact c6 (Zpk h _ (h.r _)) λx hx=>z
  |refine ax (rc hi.c) ?_
  |exact c6 (KF _ (h.r _) (fj _)) λy hy=>c6 (Dq h hi.a hy) λx hx=>z
  |exact c6 (KF _ (h.r _) (h.r _)) λy hy=>c6 (Dq h hi.a hy) λx hx=>z
  |refine bh ?_)
 all_goals first|exact z|exact hi.a
theorem Zp7{c:bn}(h:iI c){P:Nat}{mem:List Int}(hm:ep P mem):(En c mem).w (λr=>0<=r.2.2.F8/\r.2.2.F8<16):=by
 have z:(0:Int)<=0/\(0:Int)<16:=⟨by decide,by decide⟩
 unfold En
 refine c6 (Wu hm h) λx0 h0=>ae (λ_=>aq λy hy=>z) (λ_=>c6 (Wv _) λx2 h2=>ae (λ_=>aq λy hy=>z) (λhb=>?_))
 have hi:=h2 (by simpa using hb)
 refine aq λx4 _=>?_
 repeat'(first
  |refine ae (λ_=>?_) (λ_=>?_)
  |exact c6 (Z4b h hi h0.2) λx hx=>z
  |exact c6 (Z11 h hi h0.2) λx hx=>z
  |exact c6 (Zm6 h hi) λx hx=>hx
  |exact aq λy hy=>z
  |refine aq λ_ _=>?_)
theorem mI{a x:Bool}:(bif a then false else x)=true↔a=false/\x=true:=by cases a<;>simp
theorem KG(m:bd):AG m=true↔jK m.Mem≠0/\mX m.B4/\m.B6<=1152921504606846976/\¬(m.B2=true/\m.B5=true)/\uY m=true:=by
 rw[qaB]
 unfold Nk chain
 rw[mI,mI,mI,mI,mI,mI,mI]
 simp only[decide_eq_false_iff_not,Int.not_lt,beq_eq_false_iff_ne,bne_eq_false_iff_eq,gt_iff_lt]
 constructor
 ·rintro⟨a1,a2,a3,a4,a5,a6,a7,a8⟩
  refine⟨a1,⟨a2,a3,a4,a5,a6⟩,a7,?_,?_⟩
  ·rintro⟨w,h⟩;rw[w,h]at a8;cases a8
  ·revert a8;cases m.B2
   ·exactλh=>h
   ·cases m.B5
    ·exactλh=>h
    ·intro h;cases h
 ·rintro⟨a1,⟨a2,a3,a4,a5,a6⟩,a7,a8,a9⟩
  refine⟨a1,a2,a3,a4,a5,a6,a7,?_⟩
  rw[a9]
  cases hw:m.B2
  ·rfl
  ·cases hh:m.B5
   ·rfl
   ·exact absurd ⟨hw,hh⟩ a8
theorem Zq6{m:bd}(h:Eo m=true):AG m=true/\m.B5=false/\m.B6<1152921504606846976:=by
 simp only[Eo,Ij,Tree.m,eh]at h
 cases h1:AG m
 ·rw[h1]at h;cases h
 ·cases h2:m.B5
  ·rw[h1,h2]at h
   cases h3:SG m
   ·rw[h3]at h
    have h:decide (m.B6<1152921504606846976)=true:=h
    exact⟨rfl,rfl,oY h⟩
   ·rw[h3]at h;cases h
  ·rw[h1,h2]at h;cases h
theorem Zje{P:Nat}{m:bd}(h:w6 P m)(g:mX m.B4):(KH m).w (λr=>mX r.B4/\w6 P r/\r.Mem=m.Mem/\r.B2=false/\r.B5=m.B5/\r.B6=m.B6/\r.B1=m.B1/\r.B8=m.B8/\r.B7=m.B7/\r.D2=m.D2/\r.A6=m.A6):=by
 obtain⟨h1,h2,h3,h4,h5,h6⟩:=h
 unfold KH
 refine ae (λ_=>⟨g,⟨h1,h2,h3,h4,h5,h6⟩,rfl,rfl,rfl,rfl,rfl,rfl,rfl,rfl,rfl⟩) (λ_=>c6 (Zc1 (m:=⟨_,_,_,_,_,_,m.A6,_,_,_⟩) h6) λx0 _=>fp (inv:=λz=>0<=z/\z<=5) (μ:=Qjc m) ⟨by omega,by omega⟩ (cN _) (λz hz=>?_))
 obtain⟨z1,z2⟩:=hz
 refine ae (λhb=>ax (dY z1) (ae (λ_=>aq λx1 hx=>⟨by rw[hx];exact Ic h1 g _ _,⟨by rw[hx];exact Ik h1 _ gh,h2,h3,h4,h5,h6⟩,rfl,rfl,rfl,rfl,rfl,rfl,rfl,rfl,rfl⟩) (λ_=>e6 ?_))) (λ_=>⟨g,⟨h1,h2,h3,h4,h5,h6⟩,rfl,rfl,rfl,rfl,rfl,rfl,rfl,rfl,rfl⟩)
 have hb:=oY hb
 show(0<=i64.wrap (z+1)/\i64.wrap (z+1)<=5)/\(5-i64.wrap (z+1)).toNat<(5-z).toNat
 have ew:i64.wrap (z+1)=z+1:=by rw[wrap_i64];omega
 rw[ew];omega
structure Good(P:Nat)(m r:bd):Prop where
 ok:w6 P r
 te:0<=r.B6
 may:AG m=true->AG r=true
 or:r=m\/r.B6=m.B6+1
theorem Ww{P:Nat}{m:bd}(h:w6 P m)(Ga:0<=m.B6){clock:Int}(hk:U clock):(Nz m clock).w (λr=>r.2.length<=1/\Good P m r.1):=by
 have jf:ko m.Mem=m.Mem:=rfl
 unfold Nz
 refine c9 (Gh h.mem) (aq λl hl=>?_)
 rw[jf]at hl;subst hl
 refine c9 (Tree.pp (xaw (m:=⟨_,_,_,_,_,_,m.A6,_,_,_⟩) h.given)).1 (aq λx1 oR=>ae (λ_=>⟨bC _,h,Ga,λh=>h,.inl rfl⟩) (λhb=>?_))
 have hr:Eo m=true:=by rw[<-show x1=Eo m from oR];simpa using hb
 obtain⟨hm,hh,hct⟩:=Zq6 hr
 obtain⟨g1,g2,g3,g4,g5⟩:=(KG m).1 hm
 have hP:(P:Int)≠0:=by rw[<-tX h.mem];exact g1
 have fin:∀(n:bd),w6 P n->mX n.B4->uY n=true->n.B6=m.B6->¬(n.B2=true/\n.B5=true)->Good P m {B4:=n.B4,Mem:=n.Mem,B1:=n.B1,B8:=n.B8,B7:=n.B7,D2:=n.D2,A6:=n.A6,B6:=wrap .u64 (n.B6+1),B2:=n.B2,B5:=n.B5}:=λn a b c d e=>by
  have ec:wrap .u64 (n.B6+1)=m.B6+1:=by rw[d,wrap_u64];omega
  refine⟨⟨a.nZ,a.mem,a.lX,a.u5,a.target,a.given⟩,?_,λ_=>(KG _).2 ⟨?_,b,?_,e,c⟩,.inr ec⟩
  ·show 0<=wrap .u64 (n.B6+1);omega
  ·show jK n.Mem≠0;rw[tX a.mem];exact hP
  ·show wrap .u64 (n.B6+1)<=_;omega
 refine c6 (Zje (m:=⟨_,_,m.B1,m.B8,m.B7,m.D2,m.A6,m.B6,m.B2,m.B5⟩) ⟨h.nZ,h.mem,h.lX,h.u5,h.target,h.given⟩ g2) λx2 Il=>?_
 obtain⟨b1,b2,b3,b4,b5,b6,b7,b8,b9,b10,b11⟩:=Il
 have ex:=Tree.pp (qaw b2.nZ b2.mem)
 have em:=Tree.pp (yI b2.nZ b1 b2.mem)
 have er:=Tree.pp (Zp7 b2.nZ b2.mem)
 refine c9 ex.1 (aq λx3 h3=>?_)
 obtain⟨e1,e2,e3⟩:iI x3.1/\ep P x3.2.1/\U x3.2.2.Value:=by rw[h3];exact ex.2
 have f1:mX x3.1:=by rw[h3];exact em.2
 have r1:0<=x3.2.2.F8/\x3.2.2.F8<16:=by rw[h3];exact er.2
 have Wx:w6 P ⟨x3.1,x3.2.1,x2.B1,x2.B8,x2.B7,x2.D2,x2.A6,x2.B6,x2.B2,x2.B5⟩:=⟨e1,e2,b2.lX,b2.u5,b2.target,b2.given⟩
 have dev:∀(w h:Bool),uY ⟨x3.1,x3.2.1,x2.B1,x2.B8,x2.B7,x2.D2,x2.A6,x2.B6,w,h⟩=true:=λw hh=>by
  have id:∀{p:Prop},p->p:=λh=>h
  refine Ia (m:=m) (P:=P) h.mem e2 ?_ ?_ ?_ ?_ ?_ g5
  ·show _->AD x2.B1=true;rw[b7];exact id
  ·show _->AE x2.B8=true;rw[b8];exact id
  ·show _->pS x2.B7 P=true;rw[b9];exact id
  ·show _->uZ x2.D2 P=true;rw[b10];exact id
  ·show _->AF x2.A6 P=true;rw[b11];exact id
 have hw:x2.B2=false:=b4
 have hh2:x2.B5=false:=b5.trans hh
 have BJ:x2.B6=m.B6:=b6
 refine ae (λ_=>?_) λ_=>ae (λ_=>?_) λ_=>ae (λ_=>?_) λ_=>ae (λ_=>?_) λ_=>?_
 ·refine c6 (Zsl Wx _ hk) λx4 h4=>?_
  obtain⟨k,u⟩:=h4
  have kc:x4.1.B4=x3.1:=k.nZ
  have kt:x4.1.B6=m.B6:=k.te.trans BJ
  have kw:¬(x4.1.B2=true/\x4.1.B5=true):=λe=>by have:x4.1.B2=x2.B2:=k.wait;rw[this,hw]at e;cases e.1
  have km:mX x4.1.B4:=by rw[kc];exact f1
  refine ae (λhn=>ax (rc r1) ⟨bC _,?_⟩) (λ_=>⟨bC _,fin x4.1 k.ok km (k.dev (dev _ _)) kt kw⟩)
  have hn:x3.2.2.F8≠0:=by simpa using hn
  obtain⟨q,e⟩:∃q:Nat,x3.2.2.F8.toNat=q+1:=⟨x3.2.2.F8.toNat-1,by omega⟩
  refine fin ⟨⟨iv.of 0 (dB (iv.l x4.1.B4.X) x3.2.2.F8.toNat x4.2),x4.1.B4.Pc,x4.1.B4.C3⟩,x4.1.Mem,x4.1.B1,x4.1.B8,x4.1.B7,x4.1.D2,x4.1.A6,x4.1.B6,x4.1.B2,x4.1.B5⟩ ⟨⟨Wy k.ok.nZ.x u _,k.ok.nZ.pc,k.ok.nZ.jj⟩,k.ok.mem,k.ok.lX,k.ok.u5,k.ok.target,k.ok.given⟩ ⟨?_,km.st,km.en,km.rt,km.ve⟩ (k.dev (dev _ _)) kt kw
  show(iv.of 0 (dB (iv.l x4.1.B4.X) x3.2.2.F8.toNat x4.2)).a0=0
  rw[e]
  exact km.x0
 ·refine c6 (Zo0 Wx _ e3 _) λx5 h5=>?_
  obtain⟨k,u⟩:=h5
  have kc:x5.1.B4=x3.1:=k.nZ
  exact⟨u,fin x5.1 k.ok (by rw[kc];exact f1) (k.dev (dev _ _)) (k.te.trans BJ) (λe=>by have:x5.1.B2=x2.B2:=k.wait;rw[this,hw]at e;cases e.1)⟩
 ·exact⟨bC _,fin ⟨x3.1,x3.2.1,x2.B1,x2.B8,x2.B7,x2.D2,x2.A6,x2.B6,true,x2.B5⟩ ⟨e1,e2,b2.lX,b2.u5,b2.target,b2.given⟩ f1 (dev _ _) BJ (λe=>by have e2:x2.B5=true:=e.2;rw[hh2]at e2;cases e2)⟩
 ·exact⟨bC _,fin ⟨x3.1,x3.2.1,x2.B1,x2.B8,x2.B7,x2.D2,x2.A6,x2.B6,x2.B2,true⟩ ⟨e1,e2,b2.lX,b2.u5,b2.target,b2.given⟩ f1 (dev _ _) BJ (λe=>by have e2:x2.B2=true:=e.1;rw[hw]at e2;cases e2)⟩
 ·exact⟨bC _,fin ⟨x3.1,x3.2.1,x2.B1,x2.B8,x2.B7,x2.D2,x2.A6,x2.B6,x2.B2,x2.B5⟩ Wx f1 (dev _ _) BJ (λe=>by have e2:x2.B2=true:=e.1;rw[hw]at e2;cases e2)⟩
theorem SH{a:Int}(h:U a):(dR 32 a).toNat=a.toNat:=by
 obtain⟨h1,h2⟩:=h
 rw[dS];omega
theorem Wz{a b:Int}(ha:U a)(hb:U b):bb .u32 a b=((a.toNat&&&b.toNat:Nat):Int):=by
 have l:=(dR 32 a&&&dR 32 b).isLt
 have e:(dR 32 a&&&dR 32 b).toNat=a.toNat&&&b.toNat:=by rw[dU,SH ha,SH hb]
 show wrap .u32 ((dR 32 a&&&dR 32 b).toNat:Int)=_
 rw[wrap_u32,<-e];omega
theorem xaC{a b:Int}(ha:U a)(hb:U b):iG .u32 a b=((a.toNat|||b.toNat:Nat):Int):=by
 have l:=(dR 32 a|||dR 32 b).isLt
 have e:(dR 32 a|||dR 32 b).toNat=a.toNat|||b.toNat:=by rw[dT,SH ha,SH hb]
 show wrap .u32 ((dR 32 a|||dR 32 b).toNat:Int)=_
 rw[wrap_u32,<-e];omega
theorem WA{a:Int}(ha:U a)(k:Nat)(hk:k<=32){q:Int}(hq:q=((2^k-1:Nat):Int)):bb .u32 a q=a%2^k:=by
 have hp:2^k<=2^32:=dO (by decide) hk
 have h1:(2:Nat)^32=4294967296:=by decide
 have ua:=Nat.two_pow_pos k
 subst hq
 rw[Wz ha ⟨by omega,by omega⟩,dX,Nat.and_two_pow_sub_one_eq_mod]
 have:=ha.1
 rw[Int.natCast_emod,eA this]
 simp
theorem m15{a:Int}(ha:U a):bb .u32 a 15=a%16:=WA ha 4 (by decide) rfl
theorem BK{a:Int}(ha:U a):bb .u32 a 255=a%256:=WA ha 8 (by decide) rfl
theorem Im{a:Int}(ha:U a):bb .u32 a 65535=a%65536:=WA ha 16 (by decide) rfl
theorem Ep(p:Int->Bool)(N:Nat)(h:(cW N).all (λn=>p n)=true){s:Int}(h0:0<=s)(h1:s<N):p s=true:=by
 have:=List.all_eq_true.1 h s.toNat (List.mem_range.2 (by omega))
 rwa [eA h0]at this
theorem HU{x:Int}(h0: -9223372036854775808<=x)(h1:x<9223372036854775808):wrap .i64 x=x:=by rw[wrap_i64];omega
theorem NA(a:Int):bc .u32 a 0=a:=by have:=Dm (a:=a) 0 (by decide);simpa using this
theorem fld(w:Int):th w 24 8=bb .u32 (bc .u32 w 24) 255/\th w 20 4=bb .u32 (bc .u32 w 20) 15/\th w 16 4=bb .u32 (bc .u32 w 16) 15/\th w 0 16=bb .u32 (bc .u32 w 0) 65535/\th w 8 8=bb .u32 (bc .u32 w 8) 255:=
 ⟨by kernel_rfl,by kernel_rfl,by kernel_rfl,by kernel_rfl,by kernel_rfl⟩
def BL(f:Int):wP×Bool:=
 bif f==1 then(⟨false,false,false,0,0⟩,true)else bif f==2 then(⟨true,true,true,0,0⟩,true)else bif f==3 then(⟨true,true,false,-32768,32767⟩,true)
 else bif f==4 then(⟨true,true,false,0,65535⟩,true)else bif f==5 then(⟨true,true,false,0,31⟩,true)else bif f==6 then(⟨true,false,false,0,65535⟩,true)
 else bif f==7 then(⟨true,false,false,-32768,32767⟩,true)else bif f==8 then(⟨true,false,false,0,7⟩,true)else bif f==9 then(⟨true,false,false,0,11⟩,true)else(⟨false,false,false,0,0⟩,false)
def BM(x y:wP×Bool):Bool:=x.1.a==y.1.a&&x.1.b==y.1.b&&x.1.c==y.1.c&&x.1.low==y.1.low&&x.1.F4==y.1.F4&&x.2==y.2
theorem vI{x y:wP×Bool}(h:BM x y=true):x=y:=by
 obtain⟨⟨a,b,c,d,e⟩,f⟩:=x
 obtain⟨⟨a',b',c',d',e'⟩,f'⟩:=y
 simp only[BM,aE,beq_iff_eq]at h
 obtain⟨⟨⟨⟨⟨rfl,rfl⟩,rfl⟩,rfl⟩,rfl⟩,rfl⟩:=h
 rfl
theorem yZ{op:Int}(h0:0<=op)(h1:op<256):SI op=BL (oE op):=by
 exact vI (Ep (λop=>BM (SI op) (BL (oE op))) 256 (by kernel_rfl) h0 h1)
theorem yg{op:Int}(h0:0<=op)(h1:op<256):oE op=0\/oE op=1\/oE op=2\/oE op=3\/oE op=4\/oE op=5\/oE op=6\/oE op=7\/oE op=8\/oE op=9:=by
 have:=oY (Ep (λop=>decide (0<=oE op/\oE op<=9)) 256 (by kernel_rfl) h0 h1)
 omega
theorem qai{op:Int}(h0:0<=op)(h1:op<256):NB op=KI op:=by
 exact eq_of_beq (Ep (λop=>NB op==KI op) 256 (by kernel_rfl) h0 h1)
theorem qJ{a x y:Bool}:(cond a x y=true)↔((a=true/\x=true)\/(a=false/\y=true)):=by cases a<;>simp
theorem WB{i:gr}(h0:0<=i.Op)(h1:i.Op<256)(hi:wrap .i64 i.bw=i.bw):Io i=Er i:=by
 rw[eB]
 simp only[Io,NC,Tree.m,eh,Er,ND,yZ h0 h1,hi]
 rcases yg h0 h1 with h|h|h|h|h|h|h|h|h|h<;>rw[h]<;>
 simp[BL,KJ,SJ,KK,SK,WC,WD,Tree.m,eh,qJ]<;>omega
theorem WE{x:Int}(h0:0<=x)(h1:x<65536):wrap .i32 (Dr x 16)=wrap .i32 (wrap .i16 x):=by
 have e:Dr x 16=wrap .u32 (bc .i32 (wrap .i32 (eu .u32 x 16)) 16):=by kernel_rfl
 have e2:∀y,bc .i32 y 16=y/65536:=λy=>by
  show eC y 65536=_
  rw[dJ _ (by decide)]
 have e3:eu .u32 x 16=wrap .u32 (x*65536):=rfl
 have e4:wrap .i16 x=(x+32768)%65536-32768:=by
  simp[wrap,IntKind.bits,IntKind.signed]
  split<;>omega
 rw[e,e2,e3,e4]
 simp only[wrap_i32,wrap_u32]
 omega
theorem sx8{x:Int}(h0:0<=x)(h1:x<256):Dr x 8=Gn x 8:=by
 exact eq_of_beq (Ep (λx=>Dr x 8==Gn x 8) 256 (by kernel_rfl) h0 h1)
theorem vg{w:Int}(hw:U w):NF w=AI w:=by
 obtain⟨f1,f2,f3,f4,_⟩:=fld w
 obtain⟨w0,w1⟩:=hw
 have tZ:bc .u32 w 24=w/16777216:=by have:=Dm (a:=w) 24 (by decide);simpa using this
 have s20:U (bc .u32 w 20):=w9 ⟨w0,w1⟩ _
 have AH:U (bc .u32 w 16):=w9 ⟨w0,w1⟩ _
 rw[BK (w9 ⟨w0,w1⟩ _),tZ]at f1
 rw[m15 s20]at f2
 rw[m15 AH]at f3
 rw[NA]at f4
 have g1:w/16777216%256=w/16777216:=by omega
 rw[g1]at f1
 have o0:0<=w/16777216:=by omega
 have o1:w/16777216<256:=by omega
 have eo:wrap .i64 (w/16777216)=w/16777216:=HU (by omega) (by omega)
 have i32:∀x,wrap .i64 (wrap .i32 x)=wrap .i32 x:=λx=>by rw[wrap_i64,wrap_i32];omega
 have l0:=Im ⟨w0,w1⟩
 have lx:=WE (x:=bb .u32 w 65535) (by omega) (by omega)
 simp only[NF,KL,AI,KM,Tree.m,eh,f1,f2,f3,f4,tZ,eo,yZ o0 o1,m15 s20,m15 AH,lx]
 generalize w/16777216=op at*
 generalize wrap .i64 (bc .u32 w 20%16)=a
 generalize wrap .i64 (bc .u32 w 16%16)=b
 generalize bb .u32 w 65535=l
 rw[WB (i:=⟨op,a,b,wrap .i64 l,0⟩) o0 o1 rfl,WB (i:=⟨op,a,b,0,wrap .i32 (wrap .i16 l)⟩) o0 o1 (i32 _),WB (i:=⟨op,a,b,0,wrap .i32 l⟩) o0 o1 (i32 _)]
 rcases yg o0 o1 with h|h|h|h|h|h|h|h|h|h<;>rw[h]<;>rfl
def Es(W v:Int)(s:Nat):Int:=iG .u32 (oD .u32 W (eu .u32 255 s)) (eu .u32 (bb .u32 v 255) s)
def u6(w:Int)(k:Nat):Int:=if k=0 then w%256 else if k=1 then w/256%256 else if k=2 then w/65536%256 else w/16777216%256
def lj(m:List Int)(a:Nat):Int:=u6 (m.getD (a/4) 0) (a%4)
theorem qh(w:Int)(k:Nat):0<=u6 w k/\u6 w k<256:=by
 unfold u6
 split
 ·omega
 ·split
  ·omega
  ·split<;>omega
theorem zai{w v:Int}(hw:U w)(hv:U v)(h:∀k,k<4->u6 w k=u6 v k):w=v:=by
 have h0:=h 0 (by omega)
 have h1:=h 1 (by omega)
 have h2:=h 2 (by omega)
 have h3:=h 3 (by omega)
 simp[u6]at h0 h1 h2 h3
 obtain⟨a,b⟩:=hw
 obtain⟨c,d⟩:=hv
 omega
theorem xh{m n:List Int}(hl:m.length=n.length)(hm:∀w∈m,U w)(hn:∀w∈n,U w)(h:∀a,lj m a=lj n a):m=n:=by
 refine bR hl λi h1 h2=>?_
 have e1:m[i]=m.getD i 0:=by simp[aV,h1]
 have e2:n[i]=n.getD i 0:=by simp[aV,h2]
 rw[e1,e2]
 refine zai (AJ hm i) (AJ hn i) λk hk=>?_
 have:=h (4*i+k)
 simp only[lj]at this
 rwa [show(4*i+k)/4=i by omega,show(4*i+k)%4=k by omega]at this
theorem Qxc{l:List Int}{i:Nat}(h:i<l.length)(v:Int):(l.set i v).getD i 0=v:=by
 simp[aV,h]
theorem zh{m:List Int}{i:Nat}(hi:i<m.length)(v:Int)(a:Nat):lj (m.set i v) a=if a/4=i then u6 v (a%4)else lj m a:=by
 unfold lj
 split
 ·rename_i h;rw[h,Qxc hi]
 ·rename_i h;rw[uX _ _ _ _ (λe=>h e.symm)]
theorem yh{x y:Int}(hx:U x)(hy:U y)(k:Nat)(hk:x<2^k)(h:x+y*2^k<4294967296):iG .u32 x (y*2^k)=x+y*2^k:=by
 obtain⟨n,rfl⟩:∃n:Nat,x=n:=⟨x.toNat,by have:=hx.1;omega⟩
 obtain⟨z,rfl⟩:∃n:Nat,y=n:=⟨y.toNat,by have:=hy.1;omega⟩
 have e:((z:Int)*2^k)=((z*2^k:Nat):Int):=by simp
 rw[e]at h⊢
 have hn:n<2^k:=by exact_mod_cast hk
 rw[xaC hx ⟨by omega,by omega⟩,dX,dX,Nat.or_comm,Nat.mul_comm,<-Nat.two_pow_add_eq_or_of_lt hn]
 omega
theorem four{a b c d:Int}(ha:0<=a/\a<256)(hb:0<=b/\b<256)(hc:0<=c/\c<256)(hd:0<=d/\d<256):iG .u32 (iG .u32 (iG .u32 (wrap .u32 a) (eu .u32 (wrap .u32 b) 8)) (eu .u32 (wrap .u32 c) 16)) (eu .u32 (wrap .u32 d) 24)=a+b*2^8+c*2^16+d*2^24:=by
 have w:∀{x:Int},0<=x/\x<256->wrap .u32 x=x:=λhx=>by rw[wrap_u32];omega
 have s8:∀{x:Int},0<=x/\x<256->eu .u32 x 8=x*2^8:=fun{x} hx=>by show wrap .u32 (x*2^8)=_;rw[wrap_u32];omega
 have AH:∀{x:Int},0<=x/\x<256->eu .u32 x 16=x*2^16:=fun{x} hx=>by show wrap .u32 (x*2^16)=_;rw[wrap_u32];omega
 have tZ:∀{x:Int},0<=x/\x<256->eu .u32 x 24=x*2^24:=fun{x} hx=>by show wrap .u32 (x*2^24)=_;rw[wrap_u32];omega
 rw[w ha,w hb,w hc,w hd,s8 hb,AH hc,tZ hd]
 rw[yh ⟨by omega,by omega⟩ ⟨by omega,by omega⟩ 8 (by omega) (by omega),yh ⟨by omega,by omega⟩ ⟨by omega,by omega⟩ 16 (by omega) (by omega),yh ⟨by omega,by omega⟩ ⟨by omega,by omega⟩ 24 (by omega) (by omega)]
theorem xJ{a b c d:Int}(ha:0<=a/\a<256)(hb:0<=b/\b<256)(hc:0<=c/\c<256)(hd:0<=d/\d<256)(k:Nat)(hk:k<4):u6 (a+b*2^8+c*2^16+d*2^24) k=if k=0 then a else if k=1 then b else if k=2 then c else d:=by
 have hk:k=0\/k=1\/k=2\/k=3:=by omega
 rcases hk with rfl|rfl|rfl|rfl<;>simp[u6]<;>omega
theorem WG{P:Nat}{m:List Int}(h:ep P m)(f:Int):Eg m f=decide (0<=f/\f<P):=by
 have hp:=tX h
 simp only[Eg,Kr,Tree.m,eh,hp]
 by_cases h1:0<=f
 ·rw[dY h1];simp[h1]
 ·rw[dN h1];simp[h1]
theorem zJ(s:List UInt8)(a b k:Nat)(h:k<b):(cU b (cV a s)).getD k 0=s.getD (a+k) 0:=by
 simp[cX,aF,h]
theorem Gp(x:UInt8):0<=(x.toNat:Int)/\(x.toNat:Int)<256:=by have:=x.toNat_lt;omega
theorem WH{P:Nat}{m:List Int}(h:ep P m){f:Int}(f0:0<=f)(f1:f<P){s:List UInt8}(hs:s.length=128):(H7 m f s).w (λr=>r.2=true/\ep P r.1/\∀b:Nat,lj r.1 b=if f*128<=b/\(b:Int)<f*128+128 then((s.getD (b-f*128).toNat 0).toNat:Int)else lj m b):=by
 have jf:ko m=m:=rfl
 have h2:=h.p2
 unfold H7
 refine c9 (Gh h) (aq λx0 nH=>aq λx1 oR=>?_)
 rw[jf]at nH;subst nH
 rw[WG h,dY ⟨f0,f1⟩]at oR
 subst oR
 refine ae (λhb=>by cases hb) λ_=>ae (λhb=>by simp[hs]at hb) λ_=>?_
 refine fp (inv:=λz:Int×List Int=>0<=z.1/\z.1<=32/\ep P z.2/\∀b:Nat,lj z.2 b=if f*128<=b/\(b:Int)<f*128+4*z.1 then((s.getD (b-f*128).toNat 0).toNat:Int)else lj x0 b) (μ:=Qb x0 f s) ⟨show(0:Int)<=0 by decide,show(0:Int)<=32 by decide,h,λb=>by rw[if_neg];show¬(_/\_<_+4*(0:Int));omega⟩ (cN _) λz ⟨z1,z2,z3,z4⟩=>?_
 refine ae (λhb=>?_) (λhb=>⟨rfl,z3,λb=>?_⟩)
 ·have hb:=oY hb
  have e1:i64.wrap (4*z.1)=4*z.1:=by rw[wrap_i64];omega
  have e2:i64.wrap (i64.wrap (4*z.1)+4)=4*z.1+4:=by rw[wrap_i64,wrap_i64];omega
  have e3:i64.wrap (i64.wrap (f*32)+z.1)=f*32+z.1:=by rw[wrap_i64,wrap_i64];omega
  have hl:=z3.len
  have cut:dA (i64.wrap (i64.wrap (4*z.1)+4))-dA (i64.wrap (4*z.1))=4:=by rw[e2,e1];omega
  have hlen:(cU (dA (i64.wrap (i64.wrap (4*z.1)+4))-dA (i64.wrap (4*z.1))) (cV (dA (i64.wrap (4*z.1))) s)).length=4:=by
   rw[cut,e1,aD,aG];omega
  refine ax (dY (by rw[e2,e1];omega)) ?_
  refine ax (dY (by rw[hlen];decide)) (ax (dY (by rw[hlen];decide)) (ax (dY (by rw[hlen];decide)) (ax (dY (by rw[hlen];decide)) (ax (by rw[e3];simp[bN];omega) (e6 ?_)))))
  have ew:i64.wrap (z.1+1)=z.1+1:=by rw[wrap_i64];omega
  rw[cut]
  refine⟨⟨by show 0<=i64.wrap (z.1+1);rw[ew];omega,by show i64.wrap (z.1+1)<=32;rw[ew];omega,?_,?_⟩,by show(32-i64.wrap (z.1+1)).toNat<(32-z.1).toNat;rw[ew];omega⟩
  ·show ep P (dB _ _ _)
   exact⟨by rw[dC];exact hl,z3.p1,z3.p2,Eh z3.u (ny _ _) _⟩
  ·intro b
   show lj (dB z.2 (dA (i64.wrap (i64.wrap (f*32)+z.1))) _) b=if f*128<=(b:Int)/\(b:Int)<f*128+4*i64.wrap (z.1+1)then _ else _
   rw[e3,ew,four (Gp _) (Gp _) (Gp _) (Gp _),zh (by omega)]
   have g:∀k:Nat,k<4->(cU 4 (cV (dA (i64.wrap (4*z.1))) s)).getD k 0=s.getD ((4*z.1).toNat+k) 0:=λk hk=>by rw[e1];exact zJ _ _ _ _ hk
   by_cases hc:b/4=(f*32+z.1).toNat
   ·have SL:f*128<=(b:Int)/\(b:Int)<f*128+4*(z.1+1):=by omega
    rw[if_pos hc,xJ (Gp _) (Gp _) (Gp _) (Gp _) _ (by omega),if_pos SL]
    have hb4:b%4=0\/b%4=1\/b%4=2\/b%4=3:=by omega
    have gi:(b-f*128).toNat=(4*z.1).toNat+b%4:=by omega
    rw[gi]
    rcases hb4 with h4|h4|h4|h4<;>rw[h4]
    ·rw[if_pos rfl,<-g 0 (by omega)];rfl
    ·rw[if_neg (by decide),if_pos rfl,<-g 1 (by omega)];rfl
    ·rw[if_neg (by decide),if_neg (by decide),if_pos rfl,<-g 2 (by omega)];rfl
    ·rw[if_neg (by decide),if_neg (by decide),if_neg (by decide),<-g 3 (by omega)];rfl
   ·rw[if_neg hc,z4 b]
    by_cases hd:f*128<=(b:Int)/\(b:Int)<f*128+4*z.1
    ·rw[if_pos hd,if_pos (by omega)]
    ·rw[if_neg hd,if_neg (by omega)]
 ·have hb:=oN hb
  show lj z.2 b=_
  rw[z4 b,show z.1=32 by omega]
  rfl
theorem Zpv{α:Type}(l l2:List α)(k:Nat)(z:α):(l++l2).getD k z=if k<l.length then l.getD k z else l2.getD (k-l.length) z:=by
 simp only[cX,List.getElem?_append]
 split<;>rfl
theorem u8w{x:Int}:wrap .u8 x=x%256:=wrap_u8 x
theorem Gq(W:Int):bc .u32 W 8=W/256/\bc .u32 W 16=W/65536/\bc .u32 W 24=W/16777216:=by
 refine⟨?_,?_,?_⟩
 ·show eC W 256=_;rw[dJ _ (by decide)]
 ·show eC W 65536=_;rw[dJ _ (by decide)]
 ·show eC W 16777216=_;rw[dJ _ (by decide)]
theorem b4d(W:Int){k:Nat}(hk:k<4):[wrap .u8 W,wrap .u8 (bc .u32 W 8),wrap .u8 (bc .u32 W 16),wrap .u8 (bc .u32 W 24)].getD k 0=u6 W k:=by
 obtain⟨a,b,c⟩:=Gq W
 have hk:k=0\/k=1\/k=2\/k=3:=by omega
 rcases hk with rfl|rfl|rfl|rfl<;>simp[u6,a,b,c,u8w]
theorem WI(l:List Int)(k:Nat)(h:0<=l.getD k 0/\l.getD k 0<256)(hk:k<l.length):(((bytesOf l).getD k 0).toNat:Int)=l.getD k 0:=by
 have e:(bytesOf l).getD k 0=eD (l.getD k 0).toNat:=by
  simp[bytesOf,cX,hk]
 rw[e,UInt8.toNat_ofNat']
 omega
theorem Zmp(l:List UInt8)(k:Nat)(hk:k<l.length):(oU l).getD k 0=((l.getD k 0).toNat:Int):=by
 simp[oU,cX,hk]
theorem qaD(w:List Int)(h:w.length<=32):(Ei w).w (λr=>r.length=4*w.length/\∀k:Nat,k<4*w.length->((r.getD k 0).toNat:Int)=u6 (w.getD (k/4) 0) (k%4)):=by
 have e0:i64.wrap (4*(w.length:Int))=4*w.length:=by rw[wrap_i64];omega
 unfold Ei
 refine ax (by rw[e0];simp[bN,D.plain];omega) ?_
 refine fp (inv:=λz:Int×List Int=>0<=z.1/\z.1<=w.length/\(z.2.length:Int)=4*z.1/\∀k:Nat,(k:Int)<4*z.1->z.2.getD k 0=u6 (w.getD (k/4) 0) (k%4)) (μ:=Ni w) ⟨by decide,by show(0:Int)<=w.length;omega,rfl,λk hk=>by have hk:(k:Int)<4*0:=hk;omega⟩ (cN _) λz ⟨z1,z2,z3,z4⟩=>?_
 refine ae (λhb=>?_) (λhb=>?_)
 ·have hb:=oY hb
  have ew:i64.wrap (z.1+1)=z.1+1:=by rw[wrap_i64];omega
  refine ax (by simp[bN];omega) (ax (dY (by omega)) (e6 ?_))
  show(_/\_/\_/\∀k:Nat,(k:Int)<4*i64.wrap (z.1+1)->(z.2++_).getD k 0=_)/\(_:Nat)<_
  refine⟨⟨by rw[ew];omega,by rw[ew];omega,by rw[ew,lA];simp only[dD,dE];omega,λk hk=>?_⟩,by show(w.length-i64.wrap (z.1+1)).toNat<(w.length-z.1).toNat;rw[ew];omega⟩
  rw[ew]at hk
  rw[Zpv]
  split
  ·exact z4 k (by omega)
  ·rename_i hn
   rw[b4d _ (by omega),show z.1.toNat=k/4 by omega,show k-z.2.length=k%4 by omega]
 ·have hb:=oN hb
  show(bytesOf z.2).length=_/\∀k:Nat,_->(((bytesOf z.2).getD k 0).toNat:Int)=_
  refine⟨by rw[Nj];omega,λk hk=>?_⟩
  have e:=z4 k (by omega)
  have:=qh (w.getD (k/4) 0) (k%4)
  rw[WI _ _ (by rw[e];exact this) (by omega),e]
def BN(m:List Int)(f:Int)(r:List UInt8):Prop:=r.length=128/\∀k:Nat,k<128->((r.getD k 0).toNat:Int)=lj m ((f*128).toNat+k)
theorem vh{m:List Int}{f:Int}{r s:List UInt8}(a:BN m f r)(b:BN m f s):r=s:=by
 obtain⟨a1,a2⟩:=a
 obtain⟨b1,b2⟩:=b
 refine bR (by omega) λi h1 h2=>?_
 have e:=(a2 i (by omega)).trans (b2 i (by omega)).symm
 have e1:r[i]=r.getD i 0:=by simp[aV,h1]
 have e2:s[i]=s.getD i 0:=by simp[aV,h2]
 rw[e1,e2]
 exact UInt8.toNat_inj.1 (by omega)
theorem qi{P:Nat}{m:List Int}(h:ep P m){f:Int}(f0:0<=f)(f1:f<P):(Dl m f).w (λr=>BN m f r.1/\r.2=true):=by
 have hl:=h.len
 have h2:=h.p2
 unfold Dl
 refine aq λx0 nH=>?_
 rw[WG h,dY ⟨f0,f1⟩]at nH
 subst nH
 refine ae (λhb=>by cases hb) (λhb=>?_)
 have e1:i64.wrap (f*32)=f*32:=by rw[wrap_i64];omega
 have e2:i64.wrap (i64.wrap (f*32)+32)=f*32+32:=by rw[wrap_i64,wrap_i64];omega
 have cut:dA (i64.wrap (i64.wrap (f*32)+32))-dA (i64.wrap (f*32))=32:=by rw[e2,e1];omega
 have hlen:(cU 32 (cV (dA (i64.wrap (f*32))) m)).length=32:=by
  rw[e1,aD,aG];omega
 refine ax (by rw[e2,e1];simp[bN];omega) ?_
 rw[cut]
 refine c9 (by show dF _<=1000000000000;rw[hlen];decide) (aq λx1 h1=>?_)
 have t:=(Tree.pp (qaD _ (dG hlen))).2
 rw[hlen,show(Ei (cU 32 (cV (dA (i64.wrap (f*32))) m))).m=x1 from h1.symm]at t
 refine⟨⟨t.1,λk hk=>?_⟩,rfl⟩
 show((x1.getD k 0).toNat:Int)=_
 rw[t.2 k hk,lj,e1]
 have g:(cU 32 (cV (dA (f*32)) m)).getD (k/4) 0=m.getD ((f*32).toNat+k/4) 0:=by
  simp[cX,aF,show k/4<32 by omega]
 rw[g,show((f*128).toNat+k)/4=(f*32).toNat+k/4 by omega,show((f*128).toNat+k)%4=k%4 by omega]
theorem zaD(x:Int):WJ x 4=bytesOf [wrap .u8 (bc .u32 x 0),wrap .u8 (bc .u32 x 8),wrap .u8 (bc .u32 x 16),wrap .u8 (bc .u32 x 24)]:=by kernel_rfl
theorem xai{P:Nat}{m:List Int}(hm:ep P m){frame:Int}(f0:0<=frame)(f1:frame<P):(Gr m frame).w (λr=>BN m frame r.1/\r.2=true):=by
 have hp:=Dt hm
 have hl:=hm.len
 have h2:=hm.p2
 unfold Gr
 refine ae (λh=>by have:=oY h;omega) (λh=>aq λx0 hx=>ae (λh1=>by have:=oY h1;rw[hx,hp]at this;omega) (λh1=>?_))
 refine fp (inv:=λz:Int×List Int=>0<=z.1/\z.1<=32/\(z.2.length:Int)=4*z.1/\∀k:Nat,(k:Int)<4*z.1->z.2.getD k 0=lj m ((frame*128).toNat+k)) (μ:=WK m frame) ⟨by decide,by decide,rfl,λk hk=>by have hk:(k:Int)<4*0:=hk;omega⟩ (cN _) (λz hz=>?_)
 obtain⟨z1,z2,z3,z4⟩:=hz
 refine ae (λhb=>?_) (λhb=>?_)
 ·have hb:=oY hb
  have e:wrap i64 (wrap i64 (frame*32)+z.1)=frame*32+z.1:=by rw[wrap_i64,wrap_i64];omega
  refine ax (by rw[e];simp[bN];omega) (c9 (show(4:Int)<=1000000000000 by decide) (aq λx1 h4=>?_))
  rw[zaD,NA,e]at h4
  have l4:x1.length=4:=by rw[h4];rfl
  refine ax (dY (by rw[SM,l4];omega)) (e6 ?_)
  show(0<=i64.wrap (z.1+1)/\i64.wrap (z.1+1)<=32/\((z.2++oU x1).length:Int)=4*i64.wrap (z.1+1)/\∀k:Nat,(k:Int)<4*i64.wrap (z.1+1)->(z.2++oU x1).getD k 0=_)/\(32-i64.wrap (z.1+1)).toNat<(32-z.1).toNat
  have ew:i64.wrap (z.1+1)=z.1+1:=by rw[wrap_i64];omega
  rw[ew]
  refine⟨⟨by omega,by omega,by rw[lA,SM,l4];omega,λk hk=>?_⟩,by omega⟩
  rw[Zpv]
  split
  ·exact z4 k (by omega)
  ·rename_i hn
   have Du:k-z.2.length<4:=by omega
   rw[Zmp _ _ (by omega),h4]
   have d:=b4d (m.getD (frame*32+z.1).toNat 0) Du
   rw[WI _ _ (by rw[d];exact qh _ _) (by simpa using Du),d,lj]
   rw[show((frame*128).toNat+k)/4=(frame*32+z.1).toNat by omega,show((frame*128).toNat+k)%4=k-z.2.length by omega]
 ·have hb:=oN hb
  refine⟨⟨?_,λk hk=>?_⟩,rfl⟩
  ·show(bytesOf z.2).length=128
   rw[Nj];omega
  ·show(((bytesOf z.2).getD k 0).toNat:Int)=_
   have e:=z4 k (by omega)
   rw[WI _ _ (by rw[e];exact qh _ _) (by omega),e]
theorem Zk5{P:Nat}{m:List Int}(h:ep P m)(f:Int):jz m f=KN m f:=by
 by_cases hf:0<=f/\f<P
 ·have a:=(Tree.pp (qi h hf.1 hf.2)).2
  have b:=(Tree.pp (xai h hf.1 hf.2)).2
  exact Prod.ext (vh a.1 b.1) (a.2.trans b.2.symm)
 ·have hp:=Dt h
  have e1:jz m f=([],false):=by
   simp only[jz,Dl,Tree.m,eh,WG h,dN hf];rfl
  have e2:KN m f=([],false):=by
   simp only[KN,Gr,Tree.m,eh,hp]
   by_cases h0:f<0
   ·rw[dY h0];rfl
   ·rw[dN h0,dY (show f>=P by omega)];rfl
  rw[e1,e2]
section
variable {P:Nat} {m:List Int} (h:ep P m)
include h
theorem NG{a:Int}(ha:U a){size:Int}(hs:size=1\/size=4):ub m a size=decide (a%size=0/\a<128*P):=by
 have hq:=Dt h
 have h2:=h.p2
 have a0:=ha.1
 have e:wrap u32 size=size:=by rcases hs with rfl|rfl<;>decide
 have e0:decide (wrap u32 size≠0)=true:=by rcases hs with rfl|rfl<;>decide
 have t:cZ a (wrap u32 size)=a%size:=by rw[e,dZ a0]
 have l:∀x,x=u7 m->a%size=0->decide (a<wrap u32 (wrap i64 (128*x)))=decide (a%size=0/\a<128*P):=λx hx hz=>by
  rw[hx,hq,wrap_u32,wrap_i64]
  exact decide_eq_decide.2 ⟨λh=>⟨hz,by omega⟩,λh=>by omega⟩
 refine Tree.post (Ip m a size) (W:=λb=>b=decide (a%size=0/\a<128*P)) ?_
 unfold Ip
 refine ae (λh1=>ae (λh4=>?_) (λ_=>?_)) (λ_=>?_)
 ·have h1:¬size=1:=by simpa using h1
  have h4:¬size=4:=by simpa using h4
  omega
 all_goals
  refine ax e0 (ae (λhb=>aq λx hx=>l x hx ?_) (λhb=>?_))
  ·rw[t]at hb;exact eq_of_beq hb
  ·rw[t]at hb
   exact(dN (λh=>by rw[h.1]at hb;cases hb)).symm
theorem Z4t{a:Int}(ha:U a){size:Int}(hs:size=1\/size=4):WL m a size=ub m a size:=by
 rw[NG h ha hs]
 have hq:=WM h
 have h2:=h.p2
 have a0:=ha.1
 have a1:=ha.2
 have e:wrap u32 size=size:=by rcases hs with rfl|rfl<;>decide
 have e0:decide (wrap u32 size≠0)=true:=by rcases hs with rfl|rfl<;>decide
 have t:cZ a (wrap u32 size)=a%size:=by rw[e,dZ a0]
 have l:∀x,x=jK m->a%size=0->decide (wrap u64 (wrap u64 a+wrap u64 size)<=wrap u64 (wrap u64 x*128))=decide (a%size=0/\a<128*P):=λx hx hz=>by
  rw[hx,hq]
  simp only[wrap_u64]
  refine decide_eq_decide.2 ⟨λh=>⟨hz,?_⟩,λh=>?_⟩<;>rcases hs with rfl|rfl<;>omega
 refine Tree.post (Iq m a size) (W:=λb=>b=decide (a%size=0/\a<128*P)) ?_
 unfold Iq
 refine ae (λh1=>ae (λh4=>?_) (λ_=>?_)) (λ_=>?_)
 ·have h1:¬size=1:=by simpa using h1
  have h4:¬size=4:=by simpa using h4
  omega
 all_goals
  refine ax e0 (ae (λhb=>?_) (λhb=>aq λx hx=>l x hx ?_))
  ·rw[t]at hb
   exact(dN (λh=>by rw[h.1]at hb;cases hb)).symm
  ·rw[t]at hb;simpa using hb
end
theorem WN(w:Int):th w 0 8=bb .u32 (bc .u32 w 0) 255/\th w 8 8=bb .u32 (bc .u32 w 8) 255/\th w 16 8=bb .u32 (bc .u32 w 16) 255/\th w 24 8=bb .u32 (bc .u32 w 24) 255:=
 ⟨by kernel_rfl,by kernel_rfl,by kernel_rfl,by kernel_rfl⟩
theorem WO(w v:Int):KO w 0 8 v=Es w v 0/\KO w 8 8 v=Es w v 8/\KO w 16 8 v=Es w v 16/\KO w 24 8 v=Es w v 24:=
 ⟨by kernel_rfl,by kernel_rfl,by kernel_rfl,by kernel_rfl⟩
theorem xi{a:Int}(ha:U a):wrap .i64 (wrap .i64 (cZ a 4)*8)=8*(a%4)/\wrap .u32 (8*cZ a 4)=8*(a%4):=by
 obtain⟨a0,a1⟩:=ha
 rw[dZ a0]
 exact⟨by rw[wrap_i64,wrap_i64];omega,by rw[wrap_u32];omega⟩
section
variable {P:Nat} {m:List Int} (h:ep P m)
include h
theorem NH{a:Int}(ha:U a){size:Int}(hs:size=1\/size=4):BO m a size=oF m a size:=by
 have e:=Z4t h ha hs
 obtain⟨s1,s2⟩:=xi ha
 have f:th (m.getD (dA (wrap .u32 (eF a 4))) 0) (8*(a%4)) 8=bb .u32 (bc .u32 (m.getD (dA (wrap .u32 (eF a 4))) 0) (8*(a%4))) 255:=by
  obtain⟨f0,f1,f2,f3⟩:=WN (m.getD (dA (wrap .u32 (eF a 4))) 0)
  have:a%4=0\/a%4=1\/a%4=2\/a%4=3:=by omega
  rcases this with h|h|h|h<;>rw[h]
  ·exact f0
  ·exact f1
  ·exact f2
  ·exact f3
 simp only[BO,KP,oF,Dv,Tree.m,eh,e,s1,s2,f]
omit h in
theorem WQ(a size:Int):(oF m a size).2=ub m a size:=by
 simp only[oF,Dv,Tree.m,eh]
 cases ub m a size
 ·rfl
 ·cases size==1<;>rfl
theorem Zby{a:Int}(ha:U a){size:Int}(hs:size=1\/size=4)(v:Int):KQ m a size v=bif ub m a size then(Ir m a size v,true)else(m,false):=by
 have jf:ko m=m:=rfl
 have e:=Z4t h ha hs
 obtain⟨s1,s2⟩:=xi ha
 have f:∀w,KO w (8*(a%4)) 8 v=iG .u32 (oD .u32 w (eu .u32 255 (8*(a%4)))) (eu .u32 (bb .u32 v 255) (8*(a%4))):=λw=>by
  obtain⟨f0,f1,f2,f3⟩:=WO w v
  have:a%4=0\/a%4=1\/a%4=2\/a%4=3:=by omega
  rcases this with h|h|h|h<;>rw[h]
  ·exact f0
  ·exact f1
  ·exact f2
  ·exact f3
 simp only[KQ,KR,Ir,KS,Tree.m,eh,jf,e,s1,s2,f]
 rcases hs with rfl|rfl<;>cases ub m a _<;>rfl
end
section
variable {P:Nat} {m:List Int} (h:ep P m)
include h
theorem zi{root va:Int}(hr:U root)(hv:U va){access:Int}(ha:access=1\/access=2\/access=3):SN m root va access=Aa m root va access:=by
 have hp:=Dt h
 have h2:=h.p2
 have hlen:=h.len
 obtain⟨r1,r2⟩:=hr
 obtain⟨v1,v2⟩:=hv
 have H9:∀{f:Int},U f->NI m f=decide (f<P):=λhf=>zV h hf
 have eP:wrap .u32 (P:Int)=P:=by rw[wrap_u32];omega
 have kn:NJ access=true:=by rcases ha with rfl|rfl|rfl<;>rfl
 have ca:Qm4 access=(BP access,true):=by rcases ha with rfl|rfl|rfl<;>rfl
 simp only[SN,KT,Aa,Gs,Tree.m,eh,hp,eP,kn,ca,H9 ⟨r1,r2⟩]
 by_cases c1:va>=4096
 ·rw[dY c1];rfl
 by_cases c2:root<P
 ·have eE:wrap u32 (wrap u32 (root*128)+wrap u32 (4*wrap u32 (eF va 128)))=root*128+4*(va/128):=by
   rw[eG v1,wrap_u32,wrap_u32,wrap_u32,wrap_u32];omega
  have hE:U (root*128+4*(va/128)):=⟨by omega,by omega⟩
  have wi:ub m (root*128+4*(va/128)) 4=true:=by
   rw[NG h hE (.inr rfl)];exact dY ⟨by omega,by omega⟩
  rw[dN c1,dY c2,dN (show¬root>=P by omega),eE,NH h hE (.inr rfl),WQ,wi]
  have ld:(oF m (root*128+4*(va/128)) 4).1=m.getD (dA (wrap .u32 (eF (root*128+4*(va/128)) 4))) 0:=by
   simp only[oF,Dv,Tree.m,eh,wi];rfl
  rw[ld]
  generalize m.getD (dA (wrap .u32 (eF (root*128+4*(va/128)) 4))) 0=w
  have fo:WR w=bb .u32 (bc .u32 w 8) 255:=(fld w).2.2.2.2
  rw[fo,H9 (KU _ _)]
  have gu:decide (bb .u32 (bc .u32 w 8) 255>=(P:Int))=!decide (bb .u32 (bc .u32 w 8) 255<(P:Int)):=by
   by_cases hq:bb .u32 (bc .u32 w 8) 255<(P:Int)
   ·rw[dY hq,dN (by omega)];rfl
   ·rw[dN hq,dY (by omega)];rfl
  rw[gu]
  generalize decide (bb .u32 (bc .u32 w 8) 255<(P:Int))=d
  rcases ha with rfl|rfl|rfl
  ·show _=(bif bb .u32 w 1==0 then _ else bif bb .u32 w 4==0 then _ else bif !d then _ else _)
   have:SO w 1=(bif bb .u32 w 1==0 then false else !(bb .u32 w 4==0)):=rfl
   rw[this]
   cases bb .u32 w 1==0<;>cases bb .u32 w 4==0<;>cases d<;>rfl
  ·show _=(bif bb .u32 w 1==0 then _ else bif !d then _ else _)
   have:SO w 2=(bif bb .u32 w 1==0 then false else true):=rfl
   rw[this]
   cases bb .u32 w 1==0<;>cases d<;>rfl
  ·show _=(bif bb .u32 w 1==0 then _ else bif bb .u32 w 2==0 then _ else bif !d then _ else _)
   have:SO w 3=(bif bb .u32 w 1==0 then false else !(bb .u32 w 2==0)):=rfl
   rw[this]
   cases bb .u32 w 1==0<;>cases bb .u32 w 2==0<;>cases d<;>rfl
 ·rw[dN c1,dN c2,dY (show root>=P by omega)];rfl
theorem Zrb{a:Int}(ha:U a)(access:Int):NK m a access=SP m a access:=by
 have jf:ko m=m:=rfl
 have hl:=h.len
 have a0:=ha.1
 simp only[NK,Q9,SP,KV,Tree.m,eh,NH h ha (.inr rfl),WQ,Zby h ha (.inr rfl),jf]
 cases hw:ub m a 4
 ·rfl
 ·rw[NG h ha (.inr rfl)]at hw
  have hw:=oY hw
  have wi:ub m a 4=true:=by rw[NG h ha (.inr rfl)];exact dY hw
  have ld:(oF m a 4).1=m.getD (dA (wrap .u32 (eF a 4))) 0:=by
   simp only[oF,Dv,Tree.m,eh,wi];rfl
  have pu:∀v,Ir m a 4 v=m.set (dA (wrap .u32 (eF a 4))) v:=λv=>rfl
  rw[ld,pu,pu]
  have hi:dA (wrap .u32 (eF a 4))<m.length:=by
   rw[eG a0,wrap_u32];omega
  generalize dA (wrap .u32 (eF a 4))=i at*
  rw[Qxc hi,List.set_set]
  rfl
end
theorem NL{c:bn}(h0:0<=c.C3.a0)(h:c.C3.a0<=31)(k b:Int):pT c k b=pD c k b:=by
 have e:=eq_of_beq (Ep (λs=>oD .u32 (iG .u32 (w7 (w7 s 1 8) 2 16) 1) 2==iG .u32 (oD .u32 (iG .u32 (iG .u32 (oD .u32 s 24) (wrap .u32 (8*BQ (bb .u32 s 1 !=0)))) (wrap .u32 (16*BQ (bb .u32 s 2 !=0)))) 2) 1) 32 (by kernel_rfl) h0 (by omega))
 simp only[pT,NM,pD,NN,Tree.m,eh,e]
theorem Zne{c:bn}(h0:0<=c.C3.a0)(h:c.C3.a0<=31):KD c=SQ c:=by
 have e:=eq_of_beq (Ep (λs=>w7 (w7 s 8 1) 16 2==iG .u32 (iG .u32 (oD .u32 s 3) (wrap .u32 (1*BQ (bb .u32 s 8 !=0)))) (wrap .u32 (2*BQ (bb .u32 s 16 !=0)))) 32 (by kernel_rfl) h0 (by omega))
 simp only[KD,NO,SQ,NP,Tree.m,eh,e]
theorem Zs4{c:bn}(h0:0<=c.C3.a0)(h:c.C3.a0<=31):WS c=(!Is c&&(bb .u32 c.C3.a0 4 !=0)):=
 eq_of_beq (Ep (λs=>(bb .u32 s 5==4)==(!(bb .u32 s 1 !=0)&&(bb .u32 s 4 !=0))) 32 (by kernel_rfl) h0 (by omega))
theorem SR(c:bn){r:Int}(hr:0<=r/\r<16)(v:Int):uc c r v=ll c r v:=by
 simp only[uc,El,ll,It,Tree.m]
 by_cases h:r=0
 ·subst h;rfl
 ·rw[dY (show r>0 by omega),dY hr.2,show(r !=0)=true by simpa using h];rfl
theorem yJ{a b:Int}(ha:U a)(hb:U b):KW a b=KX a b:=by
 obtain⟨a0,a1⟩:=ha
 obtain⟨b0,b1⟩:=hb
 have i:∀x,wrap .i64 (wrap .i32 x)=wrap .i32 x:=λx=>by rw[wrap_i64,wrap_i32];omega
 have r32:∀x,-2147483648<=wrap .i32 x/\wrap .i32 x<2147483648:=λx=>by rw[wrap_i32];omega
 have q32:∀x y:Int,-2147483648<=x/\x<2147483648-> -2147483648<=eF x y/\eF x y<=2147483648:=λx y hx=>by
  have h1:(eF x y).natAbs<=x.natAbs:=by rw[Int.natAbs_tdiv];exact Nat.div_le_self _ _
  omega
 simp only[KW,KY,KX,KZ,Tree.m,i]
 cases hb:b==0
 ·have w:∀z,wrap .u32 (wrap .i32 z)=wrap .u32 z:=λz=>by rw[wrap_i32,wrap_u32,wrap_u32];omega
  have w2:wrap .i64 (eF (wrap .i32 a) (wrap .i32 b))=eF (wrap .i32 a) (wrap .i32 b):=by
   have:=q32 _ (wrap .i32 b) (r32 a)
   rw[wrap_i64];omega
  rw[w,w2]
  cases h1:a==2147483648
  ·rfl
  ·cases h2:b==4294967295
   ·rfl
   ·have h1:=eq_of_beq h1
    have h2:=eq_of_beq h2
    subst h1;subst h2
    rfl
 ·rfl
theorem vJ{op a b:Int}(h0:1<=op)(h1:op<=23)(ha:U a)(hb:U b):nz op a b=Dw op a b:=by
 have sub:wrap .u32 (a+wrap .u32 (0-b))=wrap .u32 (a-b):=by
  rw[wrap_u32,wrap_u32,wrap_u32];omega
 have rk:op=1\/op=2\/op=3\/op=4\/op=5\/op=6\/op=7\/op=8\/op=9\/op=10\/op=11\/op=12\/op=13\/op=14\/op=15\/op=16\/op=17\/op=18\/op=19\/op=20\/op=21\/op=22\/op=23:=by omega
 have d:=yJ ha hb
 rcases rk with rfl|rfl|rfl|rfl|rfl|rfl|rfl|rfl|rfl|rfl|rfl|rfl|rfl|rfl|rfl|rfl|rfl|rfl|rfl|rfl|rfl|rfl|rfl
 ·rfl
 ·show(wrap .u32 (a+wrap .u32 (0-b)),true)=(wrap .u32 (a-b),true)
  rw[sub]
 ·rfl
 ·rfl
 ·rfl
 ·rfl
 ·rfl
 ·rfl
 ·rfl
 ·show((KW a b).1,true)=((KX a b).1,true)
  rw[d]
 ·show((KW a b).2,true)=((KX a b).2,true)
  rw[d]
 all_goals rfl
theorem WT{P:Nat}{m:List Int}(h:ep P m){c:bn}(hc:iI c)(jQ:c.C3.a0<=31){va:Int}(hv:U va){size:Int}(hs:size=1\/size=4){access:Int}(ha:access=1\/access=2\/access=3):rz c m va size access=((lD c m va size access).1,(lD c m va size access).2.2,(lD c m va size access).2.1):=by
 have jf:ko m=m:=rfl
 have kn:NJ access=true:=by rcases ha with rfl|rfl|rfl<;>rfl
 have ca:Qv8 access=(BP access,true):=by rcases ha with rfl|rfl|rfl<;>rfl
 have pg:=Zs4 hc.a0.1 jQ
 have wk:=zi h hc.a6 hv ha
 have tc:NK m (Aa m c.C3.a6 va access).G1 access=SP m (Aa m c.C3.a6 va access).G1 access:=Zrb h (Tree.pp (xaa h hc.a6 hv access)).2.2.1 access
 have sz:(bif size !=1 then bif size !=4 then false else true else true)=true:=by rcases hs with rfl|rfl<;>rfl
 simp only[rz,K0,lD,Iu,Tree.m,eh,jf,kn,ca,pg,wk,tc,NH h hv hs,WQ]
 rcases hs with rfl|rfl<;>
 ·show(bif _ then _ else _)=_
  cases cZ va _ !=0<;>cases Is c<;>cases bb .u32 c.C3.a0 4 !=0<;>cases(Aa m c.C3.a6 va access).G0 !=0<;>cases ub m va _<;>rfl
theorem WU{α:Type}{Q:α->Prop}{c:Bool}{x y:α}(hx:Q x)(hy:Q y):Q (cond c x y):=by cases c<;>assumption
theorem qaj(m:List Int)(root:Int){va:Int}(hv:U va)(access:Int):(Aa m root va access).G0=0->(Aa m root va access).Addr%4=va%4:=by
 have hc:BP access≠0:=by
   simp only[BP,K1,Tree.m]
   cases access==1<;>cases access==3<;>simp
 have q :(λt:rj=>t.G0=0->t.Addr%4=va%4) (Aa m root va access):=by
   simp only[Aa,Gs,Tree.m,eh]
   repeat'(first
     |exact λe=>absurd e hc
     | (intro _
        show wrap .u32 (wrap .u32 (_*128)+cZ va 128)%4=va%4
        rw[dZ hv.1,wrap_u32,wrap_u32];omega)
     |refine WU (Q:=λt:rj=>t.G0=0->t.Addr%4=va%4) ?_ ?_)
 exact q
theorem qK{c:bn}{m:List Int}{va:Int}(hv:U va){size:Int}(hs:size=1\/size=4){access:Int}(ha:access=1\/access=2\/access=3):(lD c m va size access).2.1=0->(lD c m va size access).1%size=0:=by
 have kn:NJ access=true:=by rcases ha with rfl|rfl|rfl<;>rfl
 have hc:BP access≠0:=by
  simp only[BP,K1,Tree.m]
  cases access==1<;>cases access==3<;>simp
 rcases hs with rfl|rfl
 ·intro _;omega
 simp only[lD,Iu,Tree.m,eh,kn]
 show(bif cZ va 4 !=0 then((0:Int),(3:Int),m)else _).2.1=0->(bif cZ va 4 !=0 then((0:Int),(3:Int),m)else _).1%4=0
 rw[dZ hv.1]
 cases hz:va%4 !=0
 ·have hz:va%4=0:=by simpa using hz
  have w:=qaj m c.C3.a6 hv access
  cases hp:WS c
  ·cases hw:ub m va 4
   ·exactλe=>absurd e hc
   ·exactλ_=>hz
  ·cases hq:(Aa m c.C3.a6 va access).G0 !=0
   ·have hq:(Aa m c.C3.a6 va access).G0=0:=by simpa using hq
    exactλ_=>(w hq).trans hz
   ·have hq:¬(Aa m c.C3.a6 va access).G0=0:=by simpa using hq
    exactλe=>absurd e hq
 ·intro e;cases e
def dm:kZ:={C2:=0,D8:=0,F8:=0,Value:=0}
def jH(c:bn)(m:List Int)(i:gr):bn×List Int×kZ:=
 bif i.Op==32 then((tj c m i).1,(tj c m i).2,dm)else bif i.Op==33 then((tj c m i).1,(tj c m i).2,dm)else bif i.Op==34 then((tj c m i).1,(tj c m i).2,dm)
 else bif i.Op==35 then((BR c m i).1,(BR c m i).2,dm)else bif i.Op==36 then((BR c m i).1,(BR c m i).2,dm)else((WV c i).1,m,(WV c i).2)
def df(c:bn)(r:Int):Int:=aV (iv.l c.X) r.toNat 0
def pE(c:bn)(m:List Int)(i:gr):bn×kZ×List Int:=
 bif decide (i.Op>=56)then((WW c i).1,(WW c i).2,m)else bif decide (i.Op>=40)then(Z50 c i,dm,m)else bif decide (i.Op>=32)then((Gt c m i).1,dm,(Gt c m i).2)
 else bif i.Op==24 then({X:=(ll c i.A (eu .u32 (wrap .u32 i.bw) 16)).X,Pc:=wrap .u32 ((ll c i.A (eu .u32 (wrap .u32 i.bw) 16)).Pc+4),C3:=(ll c i.A (eu .u32 (wrap .u32 i.bw) 16)).C3},dm,m)
 else bif decide (i.Op<=13)then
  ({X:=(ll c i.A (Dw i.Op (df c i.B) (df c i.C)).1).X,Pc:=wrap .u32 ((ll c i.A (Dw i.Op (df c i.B) (df c i.C)).1).Pc+4),C3:=(ll c i.A (Dw i.Op (df c i.B) (df c i.C)).1).C3},dm,m)
 else({X:=(ll c i.A (Dw i.Op (df c i.B) (wrap .u32 i.bw)).1).X,Pc:=wrap .u32 ((ll c i.A (Dw i.Op (df c i.B) (wrap .u32 i.bw)).1).Pc+4),C3:=(ll c i.A (Dw i.Op (df c i.B) (wrap .u32 i.bw)).1).C3},dm,m)
def oV(op:Int):Prop:=op=1\/op=2\/op=3\/op=4\/op=5\/op=6\/op=7\/op=8\/op=9\/op=10\/op=11\/op=12\/op=13\/op=16\/op=17\/op=18\/op=19\/op=20\/op=21\/op=22\/op=23\/op=24\/op=32\/op=33\/op=34\/op=35\/op=36\/op=40\/op=41\/op=42\/op=43\/op=44\/op=45\/op=48\/op=49\/op=56\/op=57\/op=58\/op=59\/op=60\/op=61\/op=62\/op=63\/op=64
theorem vZ(c:bn)(r v:Int):(ll c r v).Pc=c.Pc/\(ll c r v).C3=c.C3:=by
 simp only[ll,It,Tree.m]
 cases decide (r>0)
 ·exact⟨rfl,rfl⟩
 ·cases decide (r<16)<;>exact⟨rfl,rfl⟩
def Iv(c:bn):bn:={X:=c.X,Pc:=wrap .u32 (c.Pc+4),C3:=c.C3}
def va(c:bn)(B bw:Int):Int:=wrap .u32 (aV (iv.l c.X) B.toNat 0+wrap .u32 bw)
def NQ(c:bn)(A v size:Int)(f:Int->Int)(y:Int×List Int×Int):bn×List Int:=bif y.2.2 !=0 then(pT c y.2.2 v,y.2.1)else(Iv (uc c A (f (BO y.2.1 y.1 size).1)),y.2.1)
def NR(c:bn)(A v size:Int)(f:Int->Int)(x:Int×Int×List Int):bn×List Int:=bif x.2.1 !=0 then(pD c x.2.1 v,x.2.2)else(Iv (ll c A (f (oF x.2.2 x.1 size).1)),x.2.2)
def SS(c:bn)(A v size:Int)(y:Int×List Int×Int):bn×List Int:=bif y.2.2 !=0 then(pT c y.2.2 v,y.2.1)else(Iv c,(KQ y.2.1 y.1 size (aV (iv.l c.X) A.toNat 0)).1)
def SU(c:bn)(A v size:Int)(x:Int×Int×List Int):bn×List Int:=bif x.2.1 !=0 then(pD c x.2.1 v,x.2.2)else(Iv c,Ir x.2.2 x.1 size (aV (iv.l c.X) A.toNat 0))
theorem NS(c:bn)(m:List Int)(A B C bw:Int):
 (tj c m ⟨32,A,B,C,bw⟩=NQ c A (va c B bw) 4 (λv=>v) (rz c m (va c B bw) 4 2)/\Gt c m ⟨32,A,B,C,bw⟩=NR c A (va c B bw) 4 (λv=>v) (lD c m (va c B bw) 4 2))/\
 (tj c m ⟨33,A,B,C,bw⟩=NQ c A (va c B bw) 1 (λv=>Dr v 8) (rz c m (va c B bw) 1 2)/\Gt c m ⟨33,A,B,C,bw⟩=NR c A (va c B bw) 1 (λv=>Gn v 8) (lD c m (va c B bw) 1 2))/\
 (tj c m ⟨34,A,B,C,bw⟩=NQ c A (va c B bw) 1 (λv=>v) (rz c m (va c B bw) 1 2)/\Gt c m ⟨34,A,B,C,bw⟩=NR c A (va c B bw) 1 (λv=>v) (lD c m (va c B bw) 1 2))/\
 (BR c m ⟨35,A,B,C,bw⟩=SS c A (va c B bw) 4 (rz c m (va c B bw) 4 3)/\Gt c m ⟨35,A,B,C,bw⟩=SU c A (va c B bw) 4 (lD c m (va c B bw) 4 3))/\
 (BR c m ⟨36,A,B,C,bw⟩=SS c A (va c B bw) 1 (rz c m (va c B bw) 1 3)/\Gt c m ⟨36,A,B,C,bw⟩=SU c A (va c B bw) 1 (lD c m (va c B bw) 1 3)):=
 ⟨⟨by kernel_rfl,by kernel_rfl⟩,⟨by kernel_rfl,by kernel_rfl⟩,⟨by kernel_rfl,by kernel_rfl⟩,⟨by kernel_rfl,by kernel_rfl⟩,⟨by kernel_rfl,by kernel_rfl⟩⟩
theorem zaj{P:Nat}{m:List Int}(h:ep P m)(a:Int):Dr (oF m a 1).1 8=Gn (oF m a 1).1 8:=by
 have:∀x:Int×Bool,(∃w,U w/\x=(bb .u32 w 255,true))\/x=(0,false)->Dr x.1 8=Gn x.1 8:=λx hx=>by
  rcases hx with⟨w,hw,rfl⟩|rfl
  ·have e:=BK hw
   exact sx8 (by show 0<=bb .u32 w 255;omega) (by show bb .u32 w 255<256;omega)
  ·rfl
 refine this _ ?_
 simp only[oF,Dv,Tree.m,eh]
 cases ub m a 1
 ·exact .inr rfl
 ·exact .inl ⟨_,w9 (AJ h.u _) _,rfl⟩
section
variable {P:Nat} {m:List Int} (h:ep P m) {c:bn} (hc:iI c) (jQ:c.C3.a0<=31)
include h hc jQ
omit jQ in
theorem WX{v:Int}(hv:U v){size:Int}(hs:size=1\/size=4)(access:Int):ep P (lD c m v size access).2.2/\U (lD c m v size access).1/\((lD c m v size access).2.1=0->(lD c m v size access).1<128*P):=(Tree.pp (SV h hc hv hs access)).2
theorem WY{A v:Int}(hA:0<=A/\A<16)(hv:U v){size:Int}(hs:size=1\/size=4){f g:Int->Int}(hf:∀{m':List Int},ep P m'->∀a,f (oF m' a size).1=g (oF m' a size).1):NQ c A v size f (rz c m v size 2)=NR c A v size g (lD c m v size 2):=by
 rw[WT h hc jQ hv hs (.inr (.inl rfl))]
 obtain⟨k,u,_⟩:=WX h hc hv hs 2
 generalize lD c m v size 2=x at*
 simp only[NQ,NR,NH k u hs,NL hc.a0.1 jQ,SR c hA,hf k]
theorem yi{A v:Int}(hv:U v){size:Int}(hs:size=1\/size=4):SS c A v size (rz c m v size 3)=SU c A v size (lD c m v size 3):=by
 rw[WT h hc jQ hv hs (.inr (.inr rfl))]
 obtain⟨k,u,b⟩:=WX h hc hv hs 3
 have al:=qK (c:=c) (m:=m) hv hs (access:=3) (.inr (.inr rfl))
 generalize lD c m v size 3=x at*
 simp only[SS,SU,Zby k u hs,NL hc.a0.1 jQ,NG k u hs]
 cases hq:x.2.1 !=0
 ·have hq:x.2.1=0:=by simpa using hq
  rw[dY ⟨al hq,b hq⟩];rfl
 ·rfl
end
theorem xK(c:bn)(k v:Int):(NT c k v).Pc=c.Pc:=by
 simp only[NT,K3,Tree.m]
 repeat'(first|rfl|refine WU (Q:=λx:bn=>x.Pc=c.Pc) ?_ ?_)
def iZ(c:bn)(A v p:Int):bn:={X:=(uc c A v).X,Pc:=p,C3:=(uc c A v).C3}
def Et(c:bn)(A v p:Int):bn:={X:=(ll c A v).X,Pc:=p,C3:=(ll c A v).C3}
def jA(c:bn):Int:=wrap .u32 (c.Pc+4)
theorem NU(c:bn){A:Int}(hA:0<=A/\A<16)(v p:Int):iZ c A v p=Et c A v p:=by
 unfold iZ Et;rw[SR c hA]
theorem WZ(c:bn)(A v:Int):Iv (ll c A v)=Et c A v (jA c):=by
 unfold Iv Et jA;rw[(vZ c A v).1]
theorem K4(t:Bool)(x y:bn)(m:List Int):((bif t then(x,dm)else(y,dm)).1,m,(bif t then(x,dm)else(y,dm)).2)=((bif t then x else y),m,dm):=by cases t<;>rfl
def Gu(op:Int):Bool:=decide (op=1)||decide (op=2)||decide (op=3)||decide (op=4)||decide (op=5)||decide (op=6)||decide (op=7)||decide (op=8)||decide (op=9)||decide (op=10)||decide (op=11)||decide (op=12)||decide (op=13)||decide (op=16)||decide (op=17)||decide (op=18)||decide (op=19)||decide (op=20)||decide (op=21)||decide (op=22)||decide (op=23)||decide (op=24)||decide (op=32)||decide (op=33)||decide (op=34)||decide (op=35)||decide (op=36)||decide (op=40)||decide (op=41)||decide (op=42)||decide (op=43)||decide (op=44)||decide (op=45)||decide (op=48)||decide (op=49)||decide (op=56)||decide (op=57)||decide (op=58)||decide (op=59)||decide (op=60)||decide (op=61)||decide (op=62)||decide (op=63)||decide (op=64)
section
variable {P:Nat} {m:List Int} (h:ep P m) {c:bn} (hc:iI c) (jQ:c.C3.a0<=31) {A B C bw:Int} (hA:0<=A/\A<16)
include h hc jQ hA
theorem qj{op:Int}(rk:oV op):jH c m ⟨op,A,B,C,bw⟩=((pE c m ⟨op,A,B,C,bw⟩).1,(pE c m ⟨op,A,B,C,bw⟩).2.2,(pE c m ⟨op,A,B,C,bw⟩).2.1):=by
 have oW:∀{k y:Int},1<=k->k<=23->U y->((iZ c A (nz k (df c B) y).1 (jA c),m,dm):bn×List Int×kZ)=(Iv (ll c A (Dw k (df c B) y).1),m,dm):=λh1 h2 hy=>by
  rw[vJ h1 h2 (show U (df c B) from hc.r _) hy,WZ,NU c hA]
 have uC:U (df c C):=hc.r _
 have uI:U (wrap .u32 bw):=fj _
 obtain⟨⟨l1,l2⟩,⟨l3,l4⟩,⟨l5,l6⟩,⟨l7,l8⟩,⟨l9,l10⟩⟩:=NS c m A B C bw
 have Dx:U (va c B bw):=fj _
 rcases rk with rfl|rfl|rfl|rfl|rfl|rfl|rfl|rfl|rfl|rfl|rfl|rfl|rfl|rfl|rfl|rfl|rfl|rfl|rfl|rfl|rfl|rfl|rfl|rfl|rfl|rfl|rfl|rfl|rfl|rfl|rfl|rfl|rfl|rfl|rfl|rfl|rfl|rfl|rfl|rfl|rfl|rfl|rfl|rfl
 ·exact(show jH c m ⟨1,A,B,C,bw⟩=(iZ c A (nz 1 (df c B) (df c C)).1 (jA c),m,dm) by kernel_rfl).trans ((oW (by decide) (by decide) uC).trans (by kernel_rfl))
 ·exact(show jH c m ⟨2,A,B,C,bw⟩=(iZ c A (nz 2 (df c B) (df c C)).1 (jA c),m,dm) by kernel_rfl).trans ((oW (by decide) (by decide) uC).trans (by kernel_rfl))
 ·exact(show jH c m ⟨3,A,B,C,bw⟩=(iZ c A (nz 3 (df c B) (df c C)).1 (jA c),m,dm) by kernel_rfl).trans ((oW (by decide) (by decide) uC).trans (by kernel_rfl))
 ·exact(show jH c m ⟨4,A,B,C,bw⟩=(iZ c A (nz 4 (df c B) (df c C)).1 (jA c),m,dm) by kernel_rfl).trans ((oW (by decide) (by decide) uC).trans (by kernel_rfl))
 ·exact(show jH c m ⟨5,A,B,C,bw⟩=(iZ c A (nz 5 (df c B) (df c C)).1 (jA c),m,dm) by kernel_rfl).trans ((oW (by decide) (by decide) uC).trans (by kernel_rfl))
 ·exact(show jH c m ⟨6,A,B,C,bw⟩=(iZ c A (nz 6 (df c B) (df c C)).1 (jA c),m,dm) by kernel_rfl).trans ((oW (by decide) (by decide) uC).trans (by kernel_rfl))
 ·exact(show jH c m ⟨7,A,B,C,bw⟩=(iZ c A (nz 7 (df c B) (df c C)).1 (jA c),m,dm) by kernel_rfl).trans ((oW (by decide) (by decide) uC).trans (by kernel_rfl))
 ·exact(show jH c m ⟨8,A,B,C,bw⟩=(iZ c A (nz 8 (df c B) (df c C)).1 (jA c),m,dm) by kernel_rfl).trans ((oW (by decide) (by decide) uC).trans (by kernel_rfl))
 ·exact(show jH c m ⟨9,A,B,C,bw⟩=(iZ c A (nz 9 (df c B) (df c C)).1 (jA c),m,dm) by kernel_rfl).trans ((oW (by decide) (by decide) uC).trans (by kernel_rfl))
 ·exact(show jH c m ⟨10,A,B,C,bw⟩=(iZ c A (nz 10 (df c B) (df c C)).1 (jA c),m,dm) by kernel_rfl).trans ((oW (by decide) (by decide) uC).trans (by kernel_rfl))
 ·exact(show jH c m ⟨11,A,B,C,bw⟩=(iZ c A (nz 11 (df c B) (df c C)).1 (jA c),m,dm) by kernel_rfl).trans ((oW (by decide) (by decide) uC).trans (by kernel_rfl))
 ·exact(show jH c m ⟨12,A,B,C,bw⟩=(iZ c A (nz 12 (df c B) (df c C)).1 (jA c),m,dm) by kernel_rfl).trans ((oW (by decide) (by decide) uC).trans (by kernel_rfl))
 ·exact(show jH c m ⟨13,A,B,C,bw⟩=(iZ c A (nz 13 (df c B) (df c C)).1 (jA c),m,dm) by kernel_rfl).trans ((oW (by decide) (by decide) uC).trans (by kernel_rfl))
 ·exact(show jH c m ⟨16,A,B,C,bw⟩=(iZ c A (nz 16 (df c B) (wrap .u32 bw)).1 (jA c),m,dm) by kernel_rfl).trans ((oW (by decide) (by decide) uI).trans (by kernel_rfl))
 ·exact(show jH c m ⟨17,A,B,C,bw⟩=(iZ c A (nz 17 (df c B) (wrap .u32 bw)).1 (jA c),m,dm) by kernel_rfl).trans ((oW (by decide) (by decide) uI).trans (by kernel_rfl))
 ·exact(show jH c m ⟨18,A,B,C,bw⟩=(iZ c A (nz 18 (df c B) (wrap .u32 bw)).1 (jA c),m,dm) by kernel_rfl).trans ((oW (by decide) (by decide) uI).trans (by kernel_rfl))
 ·exact(show jH c m ⟨19,A,B,C,bw⟩=(iZ c A (nz 19 (df c B) (wrap .u32 bw)).1 (jA c),m,dm) by kernel_rfl).trans ((oW (by decide) (by decide) uI).trans (by kernel_rfl))
 ·exact(show jH c m ⟨20,A,B,C,bw⟩=(iZ c A (nz 20 (df c B) (wrap .u32 bw)).1 (jA c),m,dm) by kernel_rfl).trans ((oW (by decide) (by decide) uI).trans (by kernel_rfl))
 ·exact(show jH c m ⟨21,A,B,C,bw⟩=(iZ c A (nz 21 (df c B) (wrap .u32 bw)).1 (jA c),m,dm) by kernel_rfl).trans ((oW (by decide) (by decide) uI).trans (by kernel_rfl))
 ·exact(show jH c m ⟨22,A,B,C,bw⟩=(iZ c A (nz 22 (df c B) (wrap .u32 bw)).1 (jA c),m,dm) by kernel_rfl).trans ((oW (by decide) (by decide) uI).trans (by kernel_rfl))
 ·exact(show jH c m ⟨23,A,B,C,bw⟩=(iZ c A (nz 23 (df c B) (wrap .u32 bw)).1 (jA c),m,dm) by kernel_rfl).trans ((oW (by decide) (by decide) uI).trans (by kernel_rfl))
 ·refine(show jH c m ⟨24,A,B,C,bw⟩=(iZ c A (eu .u32 (wrap .u32 bw) 16) (jA c),m,dm) by kernel_rfl).trans ?_
  rw[NU c hA,<-WZ];kernel_rfl
 ·have e:=WY h hc jQ hA Dx (.inr rfl) (f:=λv=>v) (g:=λv=>v) (λ_ _=>rfl)
  rw[<-l1,<-l2]at e
  refine(show jH c m ⟨32,A,B,C,bw⟩=((tj c m ⟨32,A,B,C,bw⟩).1,(tj c m ⟨32,A,B,C,bw⟩).2,dm) by kernel_rfl).trans ?_
  rw[e];kernel_rfl
 ·have e:=WY h hc jQ hA Dx (.inl rfl) (f:=λv=>Dr v 8) (g:=λv=>Gn v 8) (λhm a=>zaj hm a)
  rw[<-l3,<-l4]at e
  refine(show jH c m ⟨33,A,B,C,bw⟩=((tj c m ⟨33,A,B,C,bw⟩).1,(tj c m ⟨33,A,B,C,bw⟩).2,dm) by kernel_rfl).trans ?_
  rw[e];kernel_rfl
 ·have e:=WY h hc jQ hA Dx (.inl rfl) (f:=λv=>v) (g:=λv=>v) (λ_ _=>rfl)
  rw[<-l5,<-l6]at e
  refine(show jH c m ⟨34,A,B,C,bw⟩=((tj c m ⟨34,A,B,C,bw⟩).1,(tj c m ⟨34,A,B,C,bw⟩).2,dm) by kernel_rfl).trans ?_
  rw[e];kernel_rfl
 ·have e:=yi h hc jQ (A:=A) Dx (.inr rfl)
  rw[<-l7,<-l8]at e
  refine(show jH c m ⟨35,A,B,C,bw⟩=((BR c m ⟨35,A,B,C,bw⟩).1,(BR c m ⟨35,A,B,C,bw⟩).2,dm) by kernel_rfl).trans ?_
  rw[e];kernel_rfl
 ·have e:=yi h hc jQ (A:=A) Dx (.inl rfl)
  rw[<-l9,<-l10]at e
  refine(show jH c m ⟨36,A,B,C,bw⟩=((BR c m ⟨36,A,B,C,bw⟩).1,(BR c m ⟨36,A,B,C,bw⟩).2,dm) by kernel_rfl).trans ?_
  rw[e];kernel_rfl
 ·exact(show jH c m ⟨40,A,B,C,bw⟩=((bif(pU 40 (df c A) (df c B))then((⟨c.X,wrap .u32 (c.Pc+wrap .u32 (4*wrap .u32 bw)),c.C3⟩:bn),dm)else(⟨c.X,jA c,c.C3⟩,dm)).1,m,(bif(pU 40 (df c A) (df c B))then((⟨c.X,wrap .u32 (c.Pc+wrap .u32 (4*wrap .u32 bw)),c.C3⟩:bn),dm)else(⟨c.X,jA c,c.C3⟩,dm)).2) by kernel_rfl).trans ((K4 (pU 40 (df c A) (df c B)) ⟨c.X,wrap .u32 (c.Pc+wrap .u32 (4*wrap .u32 bw)),c.C3⟩ ⟨c.X,jA c,c.C3⟩ m).trans (by kernel_rfl))
 ·exact(show jH c m ⟨41,A,B,C,bw⟩=((bif(pU 41 (df c A) (df c B))then((⟨c.X,wrap .u32 (c.Pc+wrap .u32 (4*wrap .u32 bw)),c.C3⟩:bn),dm)else(⟨c.X,jA c,c.C3⟩,dm)).1,m,(bif(pU 41 (df c A) (df c B))then((⟨c.X,wrap .u32 (c.Pc+wrap .u32 (4*wrap .u32 bw)),c.C3⟩:bn),dm)else(⟨c.X,jA c,c.C3⟩,dm)).2) by kernel_rfl).trans ((K4 (pU 41 (df c A) (df c B)) ⟨c.X,wrap .u32 (c.Pc+wrap .u32 (4*wrap .u32 bw)),c.C3⟩ ⟨c.X,jA c,c.C3⟩ m).trans (by kernel_rfl))
 ·exact(show jH c m ⟨42,A,B,C,bw⟩=((bif(pU 42 (df c A) (df c B))then((⟨c.X,wrap .u32 (c.Pc+wrap .u32 (4*wrap .u32 bw)),c.C3⟩:bn),dm)else(⟨c.X,jA c,c.C3⟩,dm)).1,m,(bif(pU 42 (df c A) (df c B))then((⟨c.X,wrap .u32 (c.Pc+wrap .u32 (4*wrap .u32 bw)),c.C3⟩:bn),dm)else(⟨c.X,jA c,c.C3⟩,dm)).2) by kernel_rfl).trans ((K4 (pU 42 (df c A) (df c B)) ⟨c.X,wrap .u32 (c.Pc+wrap .u32 (4*wrap .u32 bw)),c.C3⟩ ⟨c.X,jA c,c.C3⟩ m).trans (by kernel_rfl))
 ·exact(show jH c m ⟨43,A,B,C,bw⟩=((bif(pU 43 (df c A) (df c B))then((⟨c.X,wrap .u32 (c.Pc+wrap .u32 (4*wrap .u32 bw)),c.C3⟩:bn),dm)else(⟨c.X,jA c,c.C3⟩,dm)).1,m,(bif(pU 43 (df c A) (df c B))then((⟨c.X,wrap .u32 (c.Pc+wrap .u32 (4*wrap .u32 bw)),c.C3⟩:bn),dm)else(⟨c.X,jA c,c.C3⟩,dm)).2) by kernel_rfl).trans ((K4 (pU 43 (df c A) (df c B)) ⟨c.X,wrap .u32 (c.Pc+wrap .u32 (4*wrap .u32 bw)),c.C3⟩ ⟨c.X,jA c,c.C3⟩ m).trans (by kernel_rfl))
 ·exact(show jH c m ⟨44,A,B,C,bw⟩=((bif(pU 44 (df c A) (df c B))then((⟨c.X,wrap .u32 (c.Pc+wrap .u32 (4*wrap .u32 bw)),c.C3⟩:bn),dm)else(⟨c.X,jA c,c.C3⟩,dm)).1,m,(bif(pU 44 (df c A) (df c B))then((⟨c.X,wrap .u32 (c.Pc+wrap .u32 (4*wrap .u32 bw)),c.C3⟩:bn),dm)else(⟨c.X,jA c,c.C3⟩,dm)).2) by kernel_rfl).trans ((K4 (pU 44 (df c A) (df c B)) ⟨c.X,wrap .u32 (c.Pc+wrap .u32 (4*wrap .u32 bw)),c.C3⟩ ⟨c.X,jA c,c.C3⟩ m).trans (by kernel_rfl))
 ·exact(show jH c m ⟨45,A,B,C,bw⟩=((bif(pU 45 (df c A) (df c B))then((⟨c.X,wrap .u32 (c.Pc+wrap .u32 (4*wrap .u32 bw)),c.C3⟩:bn),dm)else(⟨c.X,jA c,c.C3⟩,dm)).1,m,(bif(pU 45 (df c A) (df c B))then((⟨c.X,wrap .u32 (c.Pc+wrap .u32 (4*wrap .u32 bw)),c.C3⟩:bn),dm)else(⟨c.X,jA c,c.C3⟩,dm)).2) by kernel_rfl).trans ((K4 (pU 45 (df c A) (df c B)) ⟨c.X,wrap .u32 (c.Pc+wrap .u32 (4*wrap .u32 bw)),c.C3⟩ ⟨c.X,jA c,c.C3⟩ m).trans (by kernel_rfl))
 ·refine(show jH c m ⟨48,A,B,C,bw⟩=(iZ c A (jA c) (wrap .u32 ((uc c A (jA c)).Pc+wrap .u32 (4*wrap .u32 bw))),m,dm) by kernel_rfl).trans ?_
  rw[NU c hA,SR c hA,(vZ c A (jA c)).1];kernel_rfl
 ·refine(show jH c m ⟨49,A,B,C,bw⟩=(iZ c A (jA c) (va c B bw),m,dm) by kernel_rfl).trans ?_
  rw[NU c hA];kernel_rfl
 ·refine(show jH c m ⟨56,A,B,C,bw⟩=(pT c 7 0,m,dm) by kernel_rfl).trans ?_
  rw[NL hc.a0.1 jQ];kernel_rfl
 ·refine(show jH c m ⟨57,A,B,C,bw⟩=(KD c,m,dm) by kernel_rfl).trans ?_
  rw[Zne hc.a0.1 jQ];kernel_rfl
 ·refine(show jH c m ⟨58,A,B,C,bw⟩=(iZ c A (aV (A8.l c.C3) bw.toNat 0) (jA c),m,dm) by kernel_rfl).trans ?_
  rw[NU c hA,<-WZ];kernel_rfl
 ·have e:=xK c (wrap .i64 bw) (df c A)
  refine(show jH c m ⟨59,A,B,C,bw⟩=((⟨(NT c (wrap .i64 bw) (df c A)).X,wrap .u32 (c.Pc+4),(NT c (wrap .i64 bw) (df c A)).C3⟩:bn),m,dm) by kernel_rfl).trans ?_
  rw[<-e];kernel_rfl
 ·exact(show jH c m ⟨60,A,B,C,bw⟩=((pE c m ⟨60,A,B,C,bw⟩).1,(pE c m ⟨60,A,B,C,bw⟩).2.2,(pE c m ⟨60,A,B,C,bw⟩).2.1) by kernel_rfl)
 ·exact(show jH c m ⟨61,A,B,C,bw⟩=((pE c m ⟨61,A,B,C,bw⟩).1,(pE c m ⟨61,A,B,C,bw⟩).2.2,(pE c m ⟨61,A,B,C,bw⟩).2.1) by kernel_rfl)
 ·exact(show jH c m ⟨62,A,B,C,bw⟩=((pE c m ⟨62,A,B,C,bw⟩).1,(pE c m ⟨62,A,B,C,bw⟩).2.2,(pE c m ⟨62,A,B,C,bw⟩).2.1) by kernel_rfl)
 ·exact(show jH c m ⟨63,A,B,C,bw⟩=((pE c m ⟨63,A,B,C,bw⟩).1,(pE c m ⟨63,A,B,C,bw⟩).2.2,(pE c m ⟨63,A,B,C,bw⟩).2.1) by kernel_rfl)
 ·exact(show jH c m ⟨64,A,B,C,bw⟩=((pE c m ⟨64,A,B,C,bw⟩).1,(pE c m ⟨64,A,B,C,bw⟩).2.2,(pE c m ⟨64,A,B,C,bw⟩).2.1) by kernel_rfl)
end
theorem xaj{op:Int}(h0:0<=op)(h1:op<256)(h:oE op≠0):oV op:=by
 have e:=oY (Ep (λop=>decide (oE op=0\/Gu op=true)) 256 (by kernel_rfl) h0 h1)
 rcases e with e|e
 ·exact absurd e h
 ·simpa only[Gu,oV,aT,decide_eq_true_eq,or_assoc]using e
theorem xj{op:Int}(o:oV op):1<=op/\op<=64:=by
 unfold oV at o
 rcases o with h|h|h|h|h|h|h|h|h|h|h|h|h|h|h|h|h|h|h|h|h|h|h|h|h|h|h|h|h|h|h|h|h|h|h|h|h|h|h|h|h|h|h|h<;>(rw[h];decide)
theorem zj{w:Int}(hw:U w):(AI w).2=true->oV (AI w).1.Op:=by
 have tZ:bc .u32 w 24=w/16777216:=by have:=Dm (a:=w) 24 (by decide);simpa using this
 obtain⟨w0,w1⟩:=hw
 have eo:wrap .i64 (w/16777216)=w/16777216:=HU (by omega) (by omega)
 have q:(λr:gr×Bool=>r.2=true->oV r.1.Op) (AI w):=by
  simp only[AI,KM,Tree.m,eh,tZ,eo]
  cases hf:oE (w/16777216)==0
  ·have g:oV (w/16777216):=xaj (by omega) (by omega) (by simpa using hf)
   repeat'(first
    |exactλ_=>g
    |exactλe=>eH (show false=true from e)
    |refine WU (Q:=λr:gr×Bool=>r.2=true->oV r.1.Op) ?_ ?_)
  ·exactλe=>eH (show false=true from e)
 exact q
section
variable (c:bn) (m:List Int)
def SW(x:Int×Int×List Int)(w:Int)(d:gr×Bool):bn×kZ×List Int:=
 bif x.2.1 !=0 then(pD c x.2.1 c.Pc,dm,x.2.2)else bif !d.2 then(pD c 1 w,dm,x.2.2)else bif KI d.1.Op then(bif bb .u32 c.C3.a0 1==0 then(pD c 2 w,dm,x.2.2)else pE c x.2.2 d.1)else pE c x.2.2 d.1
def NV(y:Int×List Int×Int)(d:gr×Bool):bn×List Int×kZ:=
 bif y.2.2 !=0 then(pT c y.2.2 c.Pc,y.2.1,dm)else bif !d.2 then(pT c 1 y.1,y.2.1,dm)else bif NB d.1.Op then(bif !Is c then(pT c 2 y.1,y.2.1,dm)else jH c y.2.1 d.1)else jH c y.2.1 d.1
theorem NW:AK c m=SW c (lD c m c.Pc 4 1) (oF (lD c m c.Pc 4 1).2.2 (lD c m c.Pc 4 1).1 4).1 (AI (oF (lD c m c.Pc 4 1).2.2 (lD c m c.Pc 4 1).1 4).1):=by kernel_rfl
theorem qak:BS c m=NV c (SX c m) (NF (SX c m).1):=by kernel_rfl
theorem zK:SX c m=bif(rz c m c.Pc 4 1).2.2 !=0 then(0,(rz c m c.Pc 4 1).2.1,(rz c m c.Pc 4 1).2.2)else((BO (rz c m c.Pc 4 1).2.1 (rz c m c.Pc 4 1).1 4).1,(rz c m c.Pc 4 1).2.1,0):=by kernel_rfl
end
theorem yj{P:Nat}{m:List Int}(h:ep P m){c:bn}(hc:iI c)(jQ:c.C3.a0<=31):BS c m=((AK c m).1,(AK c m).2.2,(AK c m).2.1):=by
 obtain⟨k,u,b⟩:=WX h hc hc.pc (.inr rfl) 1
 have tr:∀k b,pT c k b=pD c k b:=NL hc.a0.1 jQ
 rw[qak,NW,zK,WT h hc jQ hc.pc (.inr rfl) (.inl rfl)]
 generalize lD c m c.Pc 4 1=x at*
 cases hx:x.2.1 !=0
 ·rw [NH k u (.inr rfl)]
  have hw:U (oF x.2.2 x.1 4).1:=(Tree.pp (NX k u (.inr rfl))).2
  generalize(oF x.2.2 x.1 4).1=w at*
  show NV c (w,x.2.2,0) (NF w)=_
  rw[vg hw]
  have o:=zj hw
  have i:=Tree.post _ (Zpc w)
  change(AI w).2=true->sj (AI w).1 at i
  generalize AI w=d at*
  obtain⟨⟨op,A,B,C,bw⟩,ok⟩:=d
  cases ok
  ·simp only[NV,SW,hx,tr];rfl
  ·have o:oV op:=o rfl
   have i:=i rfl
   have p:=qj (C:=C) (B:=B) (bw:=bw) k hc jQ i.a o
   have pv:NB op=KI op:=qai (by have:=xj o;omega) (by have:=xj o;omega)
   have kn:(!Is c)=(bb .u32 c.C3.a0 1==0):=by
    show(!(!(bb .u32 c.C3.a0 1==0)))=_
    exact Bool.not_not _
   simp only[NV,SW,hx,tr,pv,kn,p]
   cases KI op
   ·rfl
   ·cases bb .u32 c.C3.a0 1==0<;>rfl
 ·simp only[NV,SW,hx,cond_true,tr]
theorem qk{a b:Int}:decide (a>=b)=!decide (a<b):=by
 by_cases h:a<b
 ·rw[dY h,dN (by omega)];rfl
 ·rw[dN h,dY (by omega)];rfl
def bits(g:Int)(l:List Nat)(s:Int):Int:=l.foldl (λ(a:Int) (i:Nat)=>wrap .i64 (a+wrap .i64 (bb .u32 (bc .u32 g (i:Int)) 1))) s
theorem yK(b:gb):K5 b=bits b.D0 [0,1,2,3,4,5,6,7,8,9,10,11,12,13,14,15,16,17,18,19,20,21,22,23,24,25,26,27,28,29,30,31] 0:=by kernel_rfl
theorem xaD{g:Int}(hg:U g){i:Nat}(hi:i<=32):wrap .i64 (bb .u32 (bc .u32 g (i:Int)) 1)=g/2^i%2:=by
 rw[Eu (w9 hg _),Dm i hi]
 have:0<=g/2^i%2/\g/2^i%2<2:=by omega
 exact HU (by omega) (by omega)
theorem vK{g:Int}(hg:U g)(l:List Nat):∀s:Int,(∀i∈l,i<=32)->0<=s->s+l.length<=1000->bits g l s=s+(l.map λi=>g/2^i%2).sum:=by
 induction l with
 |nil=>intro s _ _ _;simp[bits]
 |cons i l ih=>
  intro s hl h0 h1
  have h1:s+(l.length+1)<=1000:=by simpa using h1
  have hb:0<=g/2^i%2/\g/2^i%2<2:=by omega
  have e:bits g (i::l) s=bits g l (s+g/2^i%2):=by
   show bits g l (wrap .i64 (s+wrap .i64 (bb .u32 (bc .u32 g (i:Int)) 1)))=_
   rw[xaD hg (hl i (by simp)),HU (by omega) (by omega)]
  rw[e,ih _ (λj hj=>hl j (by simp[hj])) (by omega) (by omega)]
  simp;omega
theorem Zr1(n:gw)(port:Int):KB n port=SY n port:=by
 simp only[KB,Nw,SY,NY,Tree.m]
 cases n.D1<;>cases n.C4<;>rfl
theorem Z8l(t:iS):AE t=SZ t:=by
 simp only[AE,SA,SZ,W0,Tree.m]
 cases t.F1<;>cases t.E0<;>rfl
theorem Zh0(n:gw)(p:Int):uZ n p=S0 n p:=by
 simp only[uZ,Nq,S0,W3,Tree.m]
 cases n.D1<;>cases n.C4<;>rfl
theorem Zdw(d:fu)(p:Int):pS d p=S1 d p:=by
  simp only[pS,Ej,Sy,Np,S1,W4,Tree.m,eh,qk]
  cases decide (d.ab>64)
  . by_cases s:d.C7=0\/d.C7=1\/d.C7=2\/d.C7=3
    . rcases s with s|s|s|s<;>rw[s]
      . rfl
      . by_cases c1:d.F6=1
        . rw[c1];cases decide (d.C5<d.ab)<;>cases decide (wrap .i64 d.C6<p)<;>cases decide (d.C9=[])<;>rfl
        . by_cases c2:d.F6=2
          . rw[c2];cases decide (d.C5<d.ab)<;>cases decide (wrap .i64 d.C6<p)<;>cases(d.C9.length:Int)==128<;>rfl
          . rw[show(d.F6==1)=false by simpa using c1,show(d.F6==2)=false by simpa using c2]
            cases decide (d.C5<d.ab)<;>cases decide (wrap .i64 d.C6<p)<;>rfl
      . rfl
      . rfl
    . rw[show(d.C7==0)=false by simp;omega,show(d.C7==1)=false by simp;omega,show(d.C7==2)=false by simp;omega,show(d.C7==3)=false by simp;omega]
      by_cases n:d.C7<0
      . rw[dY n];rfl
      . rw[dN n,dY (show d.C7>3 by omega)];rfl
  . rfl
theorem qL(c:iK):S2 c=S3 c:=by
 show(!decide (c.D9=[]))=decide ((c.D9.length:Int)>0)
 cases c.D9 with
 |nil=>rfl
 |cons a l=>rw[dN (by simp),dY (by simp)];rfl
theorem zak(k:List UInt8):decide (k=[])=((k.length:Int)==0):=by
 cases k with
 |nil=>rfl
 |cons a l=>
  rw[dN (by simp)]
  exact(beq_eq_false_iff_ne.2 (by simp;omega)).symm
theorem Zsy(c:iK)(port:Int):W5 c port=K6 c port:=by
 simp only[W5,Ib,K6,Gv,Tree.m,zak]
 cases port==0
 ·rfl
 ·cases(c.D9.length:Int)==0<;>rfl
theorem xL(t:iS)(v:Int):Nr t v=W6 v:=by
 simp only[Nr,Sz,W6,W7,Tree.m]
 cases h:v==0
 ·rw[show(v !=0)=true by simp only[bne,h];rfl];rfl
 ·rw[show(v !=0)=false by simp only[bne,h];rfl,eq_of_beq h];rfl
section
variable {P:Nat} {m:List Int} (h:ep P m)
include h
theorem Zqt(f:Int):Nn m f=tk m f:=by
 have a:=tX h
 have b:=Dt h
 simp only[Nn,Sw,tk,NZ,Tree.m,eh,a,b]
theorem Zsz(f:Int):Ks m f=tk m f:=by
 have a:=tX h
 have b:=Dt h
 simp only[Ks,Sx,tk,NZ,Tree.m,eh,a,b]
theorem Zkc(d:fu)(port v gj:Int):W8 d m port v gj=W9 d m port v gj:=by
  have pg:=Zqt h
  have pa:=Zk5 h
  have rq: ∀d a,Xa d a=Xb d a:=λ_ _=>rfl
  simp only[W8,Ku,Qzz,Kt,W9,K7,Tree.m,eh,pg,pa,rq]
  cases port==4
  . cases port==5
    . cases h6:port==6
      . rw[show(port !=6)=true by simp only[bne,h6];rfl];rfl
      . rw [show(port !=6)=false by simp only[bne,h6];rfl]
        by_cases v1:v=1
        . subst v1
          cases hs:d.C7==0
          . rw[show(d.C7 !=0)=true by simp only[bne,hs];rfl];rfl
          . rw[show(d.C7 !=0)=false by simp only[bne,hs];rfl];rfl
        . by_cases v2:v=2
          . subst v2
            cases hs:d.C7==0
            . rw[show(d.C7 !=0)=true by simp only[bne,hs];rfl];rfl
            . rw[show(d.C7 !=0)=false by simp only[bne,hs];rfl];rfl
          . rw[show(v==1)=false by simpa using v1,show(v==2)=false by simpa using v2]
            cases v==0
            . rfl
            . have:Kv d=(bif d.C7==2 then true else d.C7==3):=rfl
              rw[this]
              cases d.C7==2<;>cases d.C7==3<;>rfl
    . rfl
  . rfl
theorem Zo3(n:gw)(port v gj:Int):Xc n m port v gj=Xd n m port v gj:=by
  have pg:=Zsz h
  have pa:=Zk5 h
  simp only[Xc,Kx,Zfs,Kw,Xd,K8,Tree.m,eh,pg,pa]
  have g1:decide (n.F7>=1)=!decide (n.F7<1):=qk
  have g2:decide (n.F7<=128)=!decide (n.F7>128):=by
    by_cases h:n.F7>128
    . rw[dY h,dN (by omega)];rfl
    . rw[dN h,dY (by omega)];rfl
  rw[g1,g2]
  cases port==7
  . cases port==8
    . cases h9:port==9
      . rw[show(port !=9)=true by simp only[bne,h9];rfl];rfl
      . rw [show(port !=9)=false by simp only[bne,h9];rfl]
        by_cases v1:v=1
        . subst v1
          cases decide (n.F7<1)<;>cases decide (n.F7>128)<;>cases tk m n.Frame<;>rfl
        . by_cases v2:v=2
          . subst v2;rfl
          . rw[show(v==1)=false by simpa using v1,show(v==2)=false by simpa using v2]
            cases v==0<;>rfl
    . rfl
  . rfl
end
def Xe:List UInt8:=(cW 256).map λn=>eD (n%2+n/2%2+n/4%2+n/8%2+n/16%2+n/32%2+n/64%2+n/128%2)
def pt(n:Int):Int:=((UInt8.toNat (Xe.getD n.toNat 0):Nat):Int)
theorem zL(x:Int):Xf x=wrap .i64 (wrap .u8 (wrap .u8 (wrap .u8 (pt (bc .u32 x 24)+pt (bb .u32 (bc .u32 x 16) 255))+pt (bb .u32 (bc .u32 x 8) 255))+pt (bb .u32 x 255))):=by kernel_rfl
theorem N0{a:Int}(h0:0<=a)(h1:a<256):pt a=a%2+a/2%2+a/4%2+a/8%2+a/16%2+a/32%2+a/64%2+a/128%2:=
 eq_of_beq (Ep (λa=>pt a==a%2+a/2%2+a/4%2+a/8%2+a/16%2+a/32%2+a/64%2+a/128%2) 256 (by kernel_rfl) h0 h1)
theorem xk{g:Int}(hg:U g):bits g [0,1,2,3,4,5,6,7,8,9,10,11,12,13,14,15,16,17,18,19,20,21,22,23,24,25,26,27,28,29,30,31] 0=pt (g%256)+pt (g/256%256)+pt (g/65536%256)+pt (g/16777216):=by
 rw[vK hg _ 0 (by decide) (by decide) (by decide),N0 (by omega) (by omega),N0 (by omega) (by omega),N0 (by omega) (by omega),N0 (by have:=hg.1;omega) (by have:=hg.2;omega)]
 obtain⟨g0,g1⟩:=hg
 simp only[List.map_cons,List.map_nil,List.sum_cons,List.sum_nil]
 have e:∀i j:Nat,∀k:Int,i<8->k=2^j->g/2^(i+j)%2=(g/k%256)/2^i%2:=λi j k hi hk=>by
  subst hk
  rw[Nat.add_comm,dL,<-eI (dK (dI (by decide)))]
  generalize g/2^j=x
  have:i=0\/i=1\/i=2\/i=3\/i=4\/i=5\/i=6\/i=7:=by omega
  rcases this with rfl|rfl|rfl|rfl|rfl|rfl|rfl|rfl<;>simp<;>omega
 have e0:∀i:Nat,i<8->g/2^i%2=(g%256)/2^i%2:=λi hi=>by have:=e i 0 1 hi rfl;simpa using this
 have e24:g/16777216%256=g/16777216:=by omega
 rw[e0 0 (by decide),e0 1 (by decide),e0 2 (by decide),e0 3 (by decide),e0 4 (by decide),e0 5 (by decide),e0 6 (by decide),e0 7 (by decide)]
 rw[e 0 8 256 (by decide) (by decide),e 1 8 256 (by decide) (by decide),e 2 8 256 (by decide) (by decide),e 3 8 256 (by decide) (by decide),e 4 8 256 (by decide) (by decide),e 5 8 256 (by decide) (by decide),e 6 8 256 (by decide) (by decide),e 7 8 256 (by decide) (by decide)]
 rw[e 0 16 65536 (by decide) (by decide),e 1 16 65536 (by decide) (by decide),e 2 16 65536 (by decide) (by decide),e 3 16 65536 (by decide) (by decide),e 4 16 65536 (by decide) (by decide),e 5 16 65536 (by decide) (by decide),e 6 16 65536 (by decide) (by decide),e 7 16 65536 (by decide) (by decide)]
 rw[e 0 24 16777216 (by decide) (by decide),e 1 24 16777216 (by decide) (by decide),e 2 24 16777216 (by decide) (by decide),e 3 24 16777216 (by decide) (by decide),e 4 24 16777216 (by decide) (by decide),e 5 24 16777216 (by decide) (by decide),e 6 24 16777216 (by decide) (by decide),e 7 24 16777216 (by decide) (by decide),e24]
 generalize g%256=a
 generalize g/256%256=b
 generalize g/65536%256=c
 generalize g/16777216=d
 simp only[show(2:Int)^0=1 from rfl,show(2:Int)^1=2 from rfl,show(2:Int)^2=4 from rfl,show(2:Int)^3=8 from rfl,show(2:Int)^4=16 from rfl,show(2:Int)^5=32 from rfl,show(2:Int)^6=64 from rfl,show(2:Int)^7=128 from rfl,Int.ediv_one]
 omega
theorem u9{a:Int}(h0:0<=a)(h1:a<256):0<=pt a/\pt a<=8:=by rw[N0 h0 h1];omega
theorem Zbb{b:gb}(hg:U b.D0):Qe b=K5 b/\0<=K5 b/\K5 b<=32:=by
 obtain⟨s8,AH,tZ⟩:=Gq b.D0
 have u8:U (bc .u32 b.D0 8):=w9 hg _
 have u16:U (bc .u32 b.D0 16):=w9 hg _
 have e:Qe b=Xf b.D0:=rfl
 rw[e,zL,yK,xk hg,BK u8,BK u16,BK hg,s8,AH,tZ]
 obtain⟨g0,g1⟩:=hg
 have p0:=u9 (a:=b.D0%256) (by omega) (by omega)
 have p1:=u9 (a:=b.D0/256%256) (by omega) (by omega)
 have p2:=u9 (a:=b.D0/65536%256) (by omega) (by omega)
 have p3:=u9 (a:=b.D0/16777216) (by omega) (by omega)
 have w8:∀x,wrap .u8 x=x%256:=λx=>wrap_u8 x
 rw[w8,w8,w8,wrap_i64]
 omega
theorem Zhm{b:gb}(h:okB b):N1 b=N2 b:=by
 obtain⟨e,l0,l1⟩:=Zbb h.2
 obtain⟨t0,t1⟩:=h.1
 simp only[N1,K9,N2,Xg,Tree.m,eh,e]
 rw[wrap_u32,wrap_u64,wrap_u64,dH l0 (by omega),dH l0 (by omega),dH t0 (by omega)]
theorem Zrn{b:gb}(h:okB b)(port:Int):Xh b port=La b port:=by
 simp only[Xh,KC,La,Lb,Tree.m,eh,(Zbb h.2).1]
theorem xak(g:Int)(z:Nat):g%2^(z+1)=g%2^z+2^z*(g/2^z%2):=by
 have hp:(0:Int)<2^z:=dI (by decide)
 have h1:=eJ g (2^z)
 have h2:=eJ (g/2^z) 2
 have h3:(g/2^z)/2=g/2^(z+1):=by rw[eK,eI (dK hp)]
 have h4:=eJ g (2^(z+1))
 rw[h3]at h2
 have h5:(2:Int)^(z+1)*(g/2^(z+1))=2^z*(2*(g/2^(z+1))):=by rw[eK,Int.mul_assoc]
 have h6:(2:Int)^z*(g/2^z)=2^z*(2*(g/2^(z+1)))+2^z*(g/2^z%2):=by rw[<-Int.mul_add,h2]
 omega
theorem qaE{b:gb}(hg:U b.D0){P:Nat}(hP:P<=32):(Lc b P).w (λr=>r=decide (b.D0<2^P)):=by
 unfold Lc
 have fin:∀v:Int,0<=v->v<=32->wrap .u64 v=(v.toNat:Int):=λv h0 h1=>by rw[wrap_u64];omega
 refine fp (inv:=λz:Int=>0<=z/\z<=32/\b.D0%2^z.toNat<2^P) (μ:=S4 b P) ⟨by decide,by decide,by have:(0:Int)<2^P:=dI (by decide);simpa using this⟩ (cN _) λz ⟨z0,z1,z2⟩=>?_
 refine ae (λhb=>?_) (λhb=>?_)
 ·have hb:=oY hb
  have ew:i64.wrap (z+1)=z+1:=HU (by omega) (by omega)
  have bt:bb .u32 (bc .u32 b.D0 (wrap .u64 z)) 1=b.D0/2^z.toNat%2:=by
   rw[fin z z0 z1,Eu (w9 hg _),Dm _ (by omega)]
  have bp:=xak b.D0 z.toNat
  have zt:(z+1).toNat=z.toNat+1:=by omega
  refine ax (dY (by rw[wrap_u64];omega)) ?_
  rw[bt]
  refine ae (λe=>ae (λhp=>?_) (λhp=>e6 ?_)) (λe=>e6 ?_)
  ·have e:=eq_of_beq e
   have hp:=oY hp
   show false=_
   refine(dN λbg=>?_).symm
   have hle:(2:Int)^P<=2^z.toNat:=by exact_mod_cast dO (show 0<2 by decide) (show P<=z.toNat by omega)
   have:b.D0/2^z.toNat=0:=Int.ediv_eq_zero_of_lt hg.1 (by omega)
   rw[this]at e;cases e
  ·have e:=eq_of_beq e
   have hp:=oN hp
   show(0<=i64.wrap (z+1)/\i64.wrap (z+1)<=32/\b.D0%2^(i64.wrap (z+1)).toNat<2^P)/\(32-i64.wrap (z+1)).toNat<(32-z).toNat
   rw[ew,zt]
   have hle:(2:Int)^(z.toNat+1)<=2^P:=by exact_mod_cast dO (show 0<2 by decide) (show z.toNat+1<=P by omega)
   have:=Int.emod_lt_of_pos b.D0 (show(0:Int)<2^(z.toNat+1) from dI (by decide))
   exact⟨⟨by omega,by omega,by omega⟩,by omega⟩
  ·have e:¬b.D0/2^z.toNat%2=1:=by simpa using e
   have e:b.D0/2^z.toNat%2=0:=by omega
   rw[e]at bp
   show(0<=i64.wrap (z+1)/\i64.wrap (z+1)<=32/\b.D0%2^(i64.wrap (z+1)).toNat<2^P)/\(32-i64.wrap (z+1)).toNat<(32-z).toNat
   rw[ew,zt,bp]
   exact⟨⟨by omega,by omega,by omega⟩,by omega⟩
 ·have hb:=oN hb
  have:z=32:=by omega
  subst this
  show true=_
  refine(dY ?_).symm
  have h2:b.D0%2^(32:Int).toNat=b.D0:=dH hg.1 hg.2
  rwa [h2]at z2
theorem Zmg{b:gb}(hg:U b.D0){P:Nat}(hP:P<=32):AF b P=S5 b P:=by
 have r:=(Tree.pp (qaE hg hP)).2
 change S5 b P=_ at r
 rw[r,eB,Nt hg,decide_eq_true_eq]
theorem N3:strings_Repeat [(0:UInt8)] 128=cO 128 0:=by kernel_rfl
theorem zaE{P:Nat}{m:List Int}(hm:ep P m){b:gb}{port:Int}{v:Int}(hv:U v)(hp:v<P)(Iw:port=10)(hb:(bb .u32 (bc .u32 b.D0 v) 1==0)=true):(AL b m port v).w (λr=>r.1={A2:=b.A2,D0:=iG .u32 b.D0 (eu .u32 1 v)}/\ep P r.2/\∀k:Nat,lj r.2 k=if v*128<=k/\(k:Int)<v*128+128 then 0 else lj m k):=by
 have Dk:decide (0<=v)=true:=dY hv.1
 have h2:=hm.p2
 have pg:tk m v=true:=by rw[S6 hm hv];exact dY hp
 obtain⟨v1,v2⟩:=hv
 subst Iw
 unfold AL
 refine ae (λ_=>aq λx0 hx=>ae (λ_=>ax Dk (ae (λ_=>ax Dk ?_) (λh=>by rw[hb]at h;cases h))) (λh=>by rw[hx,pg]at h;cases h)) (λh=>by cases h)
 refine fp (inv:=λz=>0<=z.1/\z.1<=32/\ep P z.2/\∀k:Nat,lj z.2 k=if v*128<=k/\(k:Int)<v*128+4*z.1 then 0 else lj m k) (μ:=Xi b m 10 v) ⟨show(0:Int)<=0 by decide,show(0:Int)<=32 by decide,hm,λk=>by rw[if_neg];show¬(_/\_<_+4*(0:Int));omega⟩ (cN _) (λz hz=>?_)
 obtain⟨z1,z2,z3,z4⟩:=hz
 have hl:=z3.len
 refine ae (λh=>?_) (λh=>⟨rfl,z3,λk=>?_⟩)
 ·have h:=oY h
  have e:wrap i64 (wrap i64 (wrap i64 v*32)+z.1)=v*32+z.1:=by rw[wrap_i64,wrap_i64,wrap_i64];omega
  refine ax (by rw[e];simp[bN];omega) (e6 ?_)
  have ew:i64.wrap (z.1+1)=z.1+1:=by rw[wrap_i64];omega
  show(0<=i64.wrap (z.1+1)/\i64.wrap (z.1+1)<=32/\ep P (dB _ _ _)/\∀k:Nat,lj (dB z.2 (dA (wrap i64 (wrap i64 (wrap i64 v*32)+z.1))) 0) k=if v*128<=(k:Int)/\(k:Int)<v*128+4*i64.wrap (z.1+1)then 0 else _)/\(32-i64.wrap (z.1+1)).toNat<(32-z.1).toNat
  rw[ew,e]
  refine⟨⟨by omega,by omega,⟨by simp[hl],z3.p1,z3.p2,Eh z3.u gh _⟩,λk=>?_⟩,by omega⟩
  rw[zh (by omega)]
  by_cases hc:k/4=(v*32+z.1).toNat
  ·rw[if_pos hc,if_pos (by omega)]
   have:k%4=0\/k%4=1\/k%4=2\/k%4=3:=by omega
   rcases this with h|h|h|h<;>rw[h]<;>rfl
  ·rw[if_neg hc,z4 k]
   by_cases hd:v*128<=(k:Int)/\(k:Int)<v*128+4*z.1
   ·rw[if_pos hd,if_pos (by omega)]
   ·rw[if_neg hd,if_neg (by omega)]
 ·have h:=oN h
  show lj z.2 k=_
  rw[z4 k,show z.1=32 by omega];rfl
theorem Xj{g v:Int}(hg:U g)(v0:0<=v)(v1:v<32):(bb .u32 g (eu .u32 1 v)==0)=(bb .u32 (bc .u32 g v) 1==0):=by
 obtain⟨z,rfl⟩:∃z:Nat,v=z:=⟨v.toNat,by omega⟩
 obtain⟨n,rfl⟩:∃n:Nat,g=n:=⟨g.toNat,by have:=hg.1;omega⟩
 have hz:z<32:=by omega
 have bg:(2:Nat)^z<4294967296:=by have:=dW (show 1<2 by omega) hz;simpa using this
 rw[Eu (w9 hg _),Dm z (by omega),qg v0 v1,dX]
 have hc:((2:Int)^z)=((2^z:Nat):Int):=by simp
 generalize hq:2^z=q at*
 rw[hc,Wz hg ⟨by omega,by omega⟩,dX,dX,<-hq]
 have e1:(n&&&2^z)=0↔n/2^z%2=0:=by
  have t:n.testBit z=decide (n/2^z%2=1):=Nat.testBit_eq_decide_div_mod_eq
  constructor
  ·intro h
   have h2:(n&&&2^z).testBit z=false:=by rw[h];exact eL z
   rw[eM,Nat.testBit_two_pow_self,Bool.and_true,t]at h2
   have:=oN h2
   omega
  ·intro h
   have t0:n.testBit z=false:=by rw[t];exact dN (by omega)
   apply Nat.eq_of_testBit_eq
   intro i
   rw[eM,Nat.testBit_two_pow,eL]
   by_cases hi:z=i
   ·subst hi;rw[t0];rfl
   ·rw[dN hi,Bool.and_false]
 rw[eB,beq_iff_eq,beq_iff_eq]
 constructor
 ·intro h;have:=e1.1 (by omega);omega
 ·intro h;have:=e1.2 (by omega);omega
theorem Zmw{P:Nat}{m:List Int}(h:ep P m){b:gb}(hb:okB b)(port:Int){v:Int}(hv:U v):Gw b m port v=AM b m port v:=by
  have jf:ko m=m:=rfl
  have hp:=tX h
  have h2:=h.p2
  have ew:i64.wrap v=v:=HU (by have:=hv.1;omega) (by have:=hv.2;omega)
  have pe:=S6 h hv
  by_cases Xk:v<32
  . have bv :=Xj hb.2 hv.1 Xk
    by_cases Iw:port=10
    . by_cases hP:v<P
      . cases hz:bb .u32 (bc .u32 b.D0 v) 1==0
        . simp only[Gw,Dp,AM,AL,Tree.m,eh,jf,hp,ew,pe,bv,hz,Iw,dY hP,dN (show¬v>=32 by omega)]
          rfl
        . obtain⟨g1,g2,g3⟩:=(Tree.pp (zaE h hv hP Iw hz)).2
          change(AM b m port v).1=_ at g1
          change ep P (AM b m port v).2 at g2
          change∀k:Nat,lj (AM b m port v).2 k=_ at g3
          obtain⟨s1,s2,s3⟩:=(Tree.pp (WH h hv.1 hP (s:=cO 128 0) (by simp))).2
          have em:(rA m v (cO 128 0)).1=(AM b m port v).2:=by
            refine xh (s2.len.trans g2.len.symm) s2.u g2.u λk=> ?_
            rw[g3 k]
            refine(s3 k).trans ?_
            by_cases hk:v*128<=(k:Int)/\(k:Int)<v*128+128
            . rw[if_pos hk,if_pos hk]
              have:(cO 128 (0:UInt8)).getD ((k:Int)-v*128).toNat 0=0:=by
                rw[cX,List.getElem?_replicate]
                split<;>rfl
              rw[this];rfl
            . rw[if_neg hk,if_neg hk]
          have el:Gw b m port v=({A2:=b.A2,D0:=iG .u32 b.D0 (eu .u32 1 v)},(rA m v (cO 128 0)).1):=by
            simp only[Gw,Dp,Tree.m,eh,jf,hp,ew,bv,hz,Iw,dY hP,dN (show¬v>=32 by omega),N3]
            rfl
          rw[el,em,<-g1]
      . simp only[Gw,Dp,AM,AL,Tree.m,eh,jf,hp,ew,pe,Iw,dN hP,dN (show¬v>=32 by omega)]
        rfl
    . simp only[Gw,Dp,AM,AL,Tree.m,eh,jf,dY Xk,dN (show¬v>=32 by omega),show(port==10)=false by simpa using Iw]
      cases port==11<;>rfl
  . simp only[Gw,Dp,AM,AL,Tree.m,eh,jf,pe,dN Xk,dY (show v>=32 by omega),dN (show¬v<P by omega)]
    cases port==10<;>cases port==11<;>rfl
structure Ld(m:bd):Prop where
 nZ:iI m.B4
 mem:∀w∈m.Mem,U w
 lX:w5 m.B7
 u5:tY m.D2
 Lf:okB m.A6
 te:0<=m.B6
theorem Zil(m:List Int)(hm:∀w∈m,U w):jK m=u7 m/\(jK m=0\/∃P:Nat,1<=P/\ep P m):=by
 refine⟨rfl,?_⟩
 simp only[jK,Gg,Tree.m]
 cases h1:cZ (m.length:Int) 32 !=0
 ·cases h2:decide ((m.length:Int)>1024)
  ·have h1:cZ (m.length:Int) 32=0:=by simpa using h1
   have h2:=oN h2
   rw[dZ (by omega)]at h1
   by_cases h0:m.length=0
   ·left;rw[h0];rfl
   ·right;exact⟨m.length/32,by omega,⟨by omega,by omega,by omega,hm⟩⟩
  ·left;rfl
 ·left;rfl
theorem BT{a x:Bool}:(bif !a then false else x)=true↔a=true/\x=true:=by cases a<;>simp
theorem yL(m:bd):Ix m=true↔ ¬(u7 m.Mem<1)/\mX m.B4/\Qj2 m.B1=true/\SZ m.B8=true/\S1 m.B7 (u7 m.Mem)=true/\S0 m.D2 (u7 m.Mem)=true/\S5 m.A6 (u7 m.Mem)=true/\m.B6<=1152921504606846976/\¬(m.B2=true/\m.B5=true):=by
 simp only[Ix,Xl,Tree.m,eh]
 rw[mI,mI,mI,mI,mI,mI,BT,BT,BT,BT,BT]
 simp only[decide_eq_false_iff_not,Int.not_lt,bne_eq_false_iff_eq,gt_iff_lt]
 have l:((bif decide (m.B6<=1152921504606846976)then(bif m.B2 then !m.B5 else true)else false)=true)↔m.B6<=1152921504606846976/\¬(m.B2=true/\m.B5=true):=by
  by_cases hc:m.B6<=1152921504606846976
  ·rw[dY hc]
   cases m.B2<;>cases m.B5<;>simp[hc]
  ·rw[dN hc];simp[hc]
 rw[l]
 constructor
 ·rintro⟨a1,a2,a3,a4,a5,a6,a7⟩
  exact⟨by omega,⟨a2,a3,a4,a5,a6⟩,a7⟩
 ·rintro⟨a1,⟨a2,a3,a4,a5,a6⟩,a7⟩
  exact⟨by omega,a2,a3,a4,a5,a6,a7⟩
theorem Zpx{m:bd}(h:Ld m):AG m=Ix m:=by
 rw[eB,KG,yL,zZ]
 obtain⟨e,c⟩:=Zil m.Mem h.mem
 simp only[aE,<-e]
 rcases c with c|⟨P,hP,hm⟩
 ·constructor
  ·rintro⟨a,_⟩;exact absurd c a
  ·rintro⟨a,_⟩;omega
 ·rw[tX hm,Z8l,Zdw,Zh0,Zmg h.Lf.2 hm.p2]
  constructor
  ·rintro⟨a1,a2,a3,a4,a5,a6,a7,a8,a9⟩;exact⟨by omega,a2,a5,a6,a7,a8,a9,a3,a4⟩
  ·rintro⟨a1,a2,a5,a6,a7,a8,a9,a3,a4⟩;exact⟨by omega,a2,a3,a4,a5,a6,a7,a8,a9⟩
def S7(a b c d e:Bool):Int:=iG .u32 (iG .u32 (iG .u32 (iG .u32 (Dy a 0) (Dy b 1)) (Dy c 2)) (Dy d 3)) (Dy e 4)
theorem Iy(m:bd):S8 m=S7 (Xm m.B8) (S2 m.B1) (Kv m.B7) (Xn m.D2) (N1 m.A6):=by
 unfold S8 Lg
 simp only[Tree.m,eh]
 generalize Xm m.B8=a
 generalize S2 m.B1=b
 generalize Kv m.B7=c
 generalize Xn m.D2=d
 generalize N1 m.A6=e
 cases a<;>cases b<;>cases c<;>cases d<;>cases e<;>kernel_rfl
theorem Zt0(a b c d e:Bool):0<=S7 a b c d e/\S7 a b c d e<32:=by
 cases a<;>cases b<;>cases c<;>cases d<;>cases e<;>decide
theorem BU(m:bd):N4 m=S7 (Xo m.B8) (S3 m.B1) (Xp m.B7) (Xq m.D2) (N2 m.A6):=rfl
section
variable {m:bd} (h:Ld m)
include h
theorem Zqz:S8 m=N4 m:=by
 rw[Iy,BU,qL,Zhm h.Lf];rfl
theorem Z1b:Lh m=AN m:=by
 have e:=Zqz h
 simp only[Lh,Li,AN,Lj,Tree.m,eh,e]
theorem zk:SG m=Iz m:=by
 have e:=Z1b h
 simp only[SG,Lk,Iz,Ll,Tree.m,eh,e]
theorem Zgm:Eo m=!Gx m:=by
 have e1:=Zpx h
 have e2:=zk h
 have e3:decide (m.B6>=1152921504606846976)=!decide (m.B6<1152921504606846976):=qk
 simp only[Eo,Ij,Gx,S9,Tree.m,eh,e1,e2,e3]
 cases Ix m<;>cases m.B5<;>cases Iz m<;>cases decide (m.B6<1152921504606846976)<;>rfl
theorem Zbi:0<=AN m/\AN m<32:=by
 have e:AN m=bb .u32 (N4 m) m.B4.C3.a7:=rfl
 have l:=Zt0 (Xo m.B8) (S3 m.B1) (Xp m.B7) (Xq m.D2) (N2 m.A6)
 rw[<-BU]at l
 rw[e,Wz ⟨l.1,by omega⟩ h.nZ.a7]
 have:=dV (n:=(N4 m).toNat) (m:=m.B4.C3.a7.toNat)
 omega
def low(l:Int):Int:=if l%2=1 then 0 else if l/2%2=1 then 1 else if l/4%2=1 then 2 else if l/8%2=1 then 3 else 4
end
theorem wa{l:Int}(h0:0<=l)(h1:l<32):l=0\/l=1\/l=2\/l=3\/l=4\/l=5\/l=6\/l=7\/l=8\/l=9\/l=10\/l=11\/l=12\/l=13\/l=14\/l=15\/l=16\/l=17\/l=18\/l=19\/l=20\/l=21\/l=22\/l=23\/l=24\/l=25\/l=26\/l=27\/l=28\/l=29\/l=30\/l=31:=by omega
def IA(m:bd)(l:Int):bn:=bif bb .u32 m.B4.C3.a0 2==0 then m.B4 else bif l==0 then m.B4 else pD m.B4 (wrap .i64 (16+low l)) 0
theorem N5{m:bd}(h:Ld m):pV m=IA m (AN m):=by
 obtain⟨l0,l1⟩:=Zbi h
 unfold pV Lm
 simp only[Tree.m,eh]
 revert l0 l1
 generalize AN m=l
 intro l0 l1
 unfold IA
 cases bb .u32 m.B4.C3.a0 2==0
 ·rcases wa l0 l1 with rfl|rfl|rfl|rfl|rfl|rfl|rfl|rfl|rfl|rfl|rfl|rfl|rfl|rfl|rfl|rfl|rfl|rfl|rfl|rfl|rfl|rfl|rfl|rfl|rfl|rfl|rfl|rfl|rfl|rfl|rfl|rfl<;>kernel_rfl
 ·rfl
def Xr(m:bd)(c:bn):bd:={B4:=c,Mem:=m.Mem,B1:=m.B1,B8:=m.B8,B7:=m.B7,D2:=m.D2,A6:=m.A6,B6:=m.B6,B2:=false,B5:=m.B5}
theorem Zr7{m:bd}(h:Ld m)(jQ:m.B4.C3.a0<=31):oX m=Xr m (pV m):=by
 obtain⟨l0,l1⟩:=Zbi h
 have tr:∀k b,pT m.B4 k b=pD m.B4 k b:=NL h.nZ.a0.1 jQ
 have e:Lh (Xr m m.B4)=AN m:=Z1b (m:=Xr m m.B4) ⟨h.nZ,h.mem,h.lX,h.u5,h.Lf,h.te⟩
 rw[N5 h]
 unfold oX KH
 simp only[Tree.m,eh]
 rw[show Lh {B4:=m.B4,Mem:=m.Mem,B1:=m.B1,B8:=m.B8,B7:=m.B7,D2:=m.D2,A6:=m.A6,B6:=m.B6,B2:=false,B5:=m.B5}=AN m from e]
 revert l0 l1
 generalize AN m=l
 intro l0 l1
 unfold IA
 simp only[<-tr]
 cases bb .u32 m.B4.C3.a0 2==0
 ·rcases wa l0 l1 with rfl|rfl|rfl|rfl|rfl|rfl|rfl|rfl|rfl|rfl|rfl|rfl|rfl|rfl|rfl|rfl|rfl|rfl|rfl|rfl|rfl|rfl|rfl|rfl|rfl|rfl|rfl|rfl|rfl|rfl|rfl|rfl<;>(show _=_;kernel_rfl)
 ·rfl
theorem Gy{p:Int}:p=0\/p=1\/p=2\/p=3\/p=4\/p=5\/p=6\/p=7\/p=8\/p=9\/p=10\/p=11\/p<0\/12<=p:=by omega
theorem qal{m:bd}(hb:okB m.A6)(port clock:Int):ud m port clock=((Dz m port clock).2,(Dz m port clock).1):=by
 have e1:=Zsy m.B1
 have e2:∀p,Nv m.B7 p=Xs m.B7 p:=λ_=>rfl
 have e3:=Zr1 m.D2
 have e4:=Zrn hb
 have e5:Ws m.B8=Xt m.B8:=rfl
 simp only[ud,KA,Dz,MW,Tree.m,eh,e1,e2,e3,e4,e5]
 rcases Gy (p:=port)with rfl|rfl|rfl|rfl|rfl|rfl|rfl|rfl|rfl|rfl|rfl|rfl|h|h
 all_goals first|rfl|skip
 ·have n:∀k:Int,0<=k->(port==k)=false:=λk hk=>beq_eq_false_iff_ne.2 (by omega)
  have c:K6 m.B1 port=(m.B1,0):=by
   simp only[K6,Gv,Tree.m,n 0 (by decide),n 1 (by decide),cond_false]
  simp only[n 0 (by decide),n 1 (by decide),n 2 (by decide),n 3 (by decide),n 4 (by decide),n 5 (by decide),n 6 (by decide),n 7 (by decide),n 8 (by decide),n 9 (by decide),n 10 (by decide),n 11 (by decide),cond_false,dY (show port<=1 by omega),cond_true,c]
 ·have n:∀k:Int,k<12->(port==k)=false:=λk hk=>beq_eq_false_iff_ne.2 (by omega)
  have c:La m.A6 port=0:=by
   simp only[La,Lb,Tree.m,n 10 (by decide),n 11 (by decide),cond_false]
  simp only[n 0 (by decide),n 1 (by decide),n 2 (by decide),n 3 (by decide),n 4 (by decide),n 5 (by decide),n 6 (by decide),n 7 (by decide),n 8 (by decide),n 9 (by decide),n 10 (by decide),n 11 (by decide),cond_false,dN (show¬port<=1 by omega),dN (show¬port<=6 by omega),dN (show¬port<=9 by omega),c]
theorem vL{P:Nat}{m:bd}(hm:ep P m.Mem)(hb:okB m.A6)(port:Int){v:Int}(hv:U v):Ev m port v m.B6=((Ew m port v).2,(Ew m port v).1):=by
 have e1:=Zkc hm m.B7
 have e2:=Zo3 hm m.D2
 have e3:=Zmw hm hb port hv
 have e4:=xL m.B8 v
 simp only[Ev,Kz,Ew,J7,Tree.m,eh,e1,e2,e3,e4]
 rcases Gy (p:=port)with rfl|rfl|rfl|rfl|rfl|rfl|rfl|rfl|rfl|rfl|rfl|rfl|h|h
 all_goals first|rfl|skip
 ·have n:∀k:Int,0<=k->(port==k)=false:=λk hk=>beq_eq_false_iff_ne.2 (by omega)
  simp only[n 0 (by decide),n 1 (by decide),n 2 (by decide),n 3 (by decide),n 4 (by decide),n 5 (by decide),n 6 (by decide),n 7 (by decide),n 8 (by decide),n 9 (by decide),n 10 (by decide),n 11 (by decide),cond_false,dY (show port<=2 by omega),cond_true]
 ·have n:∀k:Int,k<12->(port==k)=false:=λk hk=>beq_eq_false_iff_ne.2 (by omega)
  have c:AM m.A6 m.Mem port v=(m.A6,m.Mem):=by
   simp only[AM,AL,Tree.m,n 10 (by decide),n 11 (by decide),cond_false]
  simp only[n 0 (by decide),n 1 (by decide),n 2 (by decide),n 3 (by decide),n 4 (by decide),n 5 (by decide),n 6 (by decide),n 7 (by decide),n 8 (by decide),n 9 (by decide),n 10 (by decide),n 11 (by decide),cond_false,dN (show¬port<=2 by omega),dN (show¬port<=6 by omega),dN (show¬port<=9 by omega),c]
def tick(n:bd)(c:bn)(w h:Bool):bd:={B4:=c,Mem:=n.Mem,B1:=n.B1,B8:=n.B8,B7:=n.B7,D2:=n.D2,A6:=n.A6,B6:=wrap .u64 (n.B6+1),B2:=w,B5:=h}
def Gz(m:bd)(c:bn)(mem:List Int):bd:={B4:=c,Mem:=mem,B1:=m.B1,B8:=m.B8,B7:=m.B7,D2:=m.D2,A6:=m.A6,B6:=m.B6,B2:=false,B5:=m.B5}
def Ey(n:bd)(e:kZ)(clock gj:Int):bd×List il:=
 bif e.C2==1 then
  (bif e.F8 !=0 then(tick (ud n e.D8 clock).1 {X:=iv.of 0 (dB (iv.l (ud n e.D8 clock).1.B4.X) e.F8.toNat (ud n e.D8 clock).2),Pc:=(ud n e.D8 clock).1.B4.Pc,C3:=(ud n e.D8 clock).1.B4.C3} (ud n e.D8 clock).1.B2 (ud n e.D8 clock).1.B5,[])
  else(tick (ud n e.D8 clock).1 (ud n e.D8 clock).1.B4 (ud n e.D8 clock).1.B2 (ud n e.D8 clock).1.B5,[]))
 else bif e.C2==2 then(tick (Ev n e.D8 e.Value gj).1 (Ev n e.D8 e.Value gj).1.B4 (Ev n e.D8 e.Value gj).1.B2 (Ev n e.D8 e.Value gj).1.B5,(Ev n e.D8 e.Value gj).2)
 else bif e.C2==3 then(tick n n.B4 true n.B5,[])else bif e.C2==4 then(tick n n.B4 n.B2 true,[])else(tick n n.B4 n.B2 n.B5,[])
def Ez(n:bd)(e:kZ)(clock:Int):List il×bd:=
 bif e.C2==1 then([],tick (Dz n e.D8 clock).2 (ll (Dz n e.D8 clock).2.B4 e.F8 (Dz n e.D8 clock).1) (Dz n e.D8 clock).2.B2 (Dz n e.D8 clock).2.B5)
 else bif e.C2==2 then((Ew n e.D8 e.Value).1,tick (Ew n e.D8 e.Value).2 (Ew n e.D8 e.Value).2.B4 (Ew n e.D8 e.Value).2.B2 (Ew n e.D8 e.Value).2.B5)
 else bif e.C2==3 then([],tick n n.B4 true n.B5)else bif e.C2==4 then([],tick n n.B4 n.B2 true)else([],tick n n.B4 n.B2 n.B5)
theorem xaE(m:bd)(clock:Int):Ab m clock=Ez (Gz m (AK (pV m) m.Mem).1 (AK (pV m) m.Mem).2.2) (AK (pV m) m.Mem).2.1 clock:=by kernel_rfl
theorem qM(m:bd)(clock:Int):DA m clock=bif !Eo m then(m,[])else Ey {B4:=(BS (oX m).B4 (oX m).Mem).1,Mem:=(BS (oX m).B4 (oX m).Mem).2.1,B1:=(oX m).B1,B8:=(oX m).B8,B7:=(oX m).B7,D2:=(oX m).D2,A6:=(oX m).A6,B6:=(oX m).B6,B2:=(oX m).B2,B5:=(oX m).B5} (BS (oX m).B4 (oX m).Mem).2.2 clock m.B6:=by kernel_rfl
theorem zal(m:List Int):Xu m=m:=by
 simp[Xu,Ln,Tree.m]
theorem y0(m:bd):Ta m=m:=by
 simp only[Ta,J8,Tree.m,eh,zal]
theorem Zol(m:bd)(clock:Int):Xv m clock=bif Gx m then(m,[])else((Ab m clock).2,(Ab m clock).1):=by
 simp only[Xv,Z7,Tree.m,eh,y0]
theorem xM{P:Nat}{n:bd}(hm:ep P n.Mem)(hb:okB n.A6){e:kZ}(hr:0<=e.F8/\e.F8<16)(hv:U e.Value)(clock:Int):Ey n e clock n.B6=((Ez n e clock).2,(Ez n e clock).1):=by
 unfold Ey Ez
 rw[qal hb e.D8 clock,vL hm hb e.D8 hv]
 cases e.C2==1
 ·cases e.C2==2
  ·cases e.C2==3
   ·cases e.C2==4<;>rfl
   ·rfl
  ·rfl
 ·generalize Dz n e.D8 clock=r
  have s:=SR r.2.B4 hr r.1
  show(bif e.F8 !=0 then _ else _)=(tick r.2 (ll r.2.B4 e.F8 r.1) r.2.B2 r.2.B5,[])
  rw[<-s]
  simp only[uc,El,Tree.m]
  cases e.F8 !=0<;>rfl
theorem yk{m:bd}(h:Ld m)(clock:Int):DA m clock=Xv m clock:=by
 rw[qM,Zol,Zgm h]
 cases hs:Gx m
 ·have hr:Eo m=true:=by rw[Zgm h,hs];rfl
  obtain⟨hm,hh,hct⟩:=Zq6 hr
  obtain⟨g1,g2,g3,g4,g5⟩:=(KG m).1 hm
  rcases(Zil m.Mem h.mem).2 with c|⟨P,hP,iY⟩
  ·exact absurd c g1
  have okm:w6 P m:=⟨h.nZ,iY,h.lX,h.u5,h.Lf.1,h.Lf.2⟩
  obtain⟨b1,b2,b3,_⟩:=(Tree.pp (Zje okm g2)).2
  change mX (oX m).B4 at b1
  change w6 P (oX m)at b2
  change(oX m).Mem=m.Mem at b3
  have be:=Zr7 h g2.st
  have b1':mX (pV m):=by have:=b1;rw[be]at this;exact this
  have Xw:iI (pV m):=by have:=b2.nZ;rw[be]at this;exact this
  have ex:=yj iY Xw b1'.st
  have er:=(Tree.pp (Zp7 Xw iY)).2
  change 0<=(BS (pV m) m.Mem).2.2.F8/\(BS (pV m) m.Mem).2.2.F8<16 at er
  obtain⟨d1,d2,d3⟩:=(Tree.pp (MY Xw iY)).2
  change U (AK (pV m) m.Mem).2.1.Value at d2
  change ep P (AK (pV m) m.Mem).2.2 at d3
  rw[ex]at er
  rw[xaE,be]
  show Ey {B4:=(BS (pV m) m.Mem).1,Mem:=(BS (pV m) m.Mem).2.1,B1:=m.B1,B8:=m.B8,B7:=m.B7,D2:=m.D2,A6:=m.A6,B6:=m.B6,B2:=false,B5:=m.B5} (BS (pV m) m.Mem).2.2 clock m.B6=_
  rw[ex]
  exact xM (n:=Gz m (AK (pV m) m.Mem).1 (AK (pV m) m.Mem).2.2) d3 h.Lf er d2 clock
 ·rfl

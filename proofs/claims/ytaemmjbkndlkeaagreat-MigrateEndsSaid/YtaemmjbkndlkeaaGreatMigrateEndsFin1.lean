import Derived.Test.YtaemmjbkndlkeaaGreatMigrateEndsLaws2
import Derived.Test.YtaemmjbkndlkeaaGreatMigrateEndsNewsB
open Nat renaming lt_succ_self->cN,blt->bN,le_refl->aX,zero_le->bC,le_of_eq->dG,pow_le_pow_right->dO,and_le_left->dV,pow_lt_pow_right->dW,zero_testBit->eL,testBit_and->eM
open List renaming replicate->cO,append->cP,mem_cons->cQ,not_mem_nil->cR,length_replicate->cS,length_take->aD,length_drop->aG,take->cU,drop->cV,ext_getElem->bR,range->cW,getD_eq_getElem?_getD->cX,length_singleton->cY,append_assoc->aM,set->dB,length_set->dC,length_cons->dD,length_nil->dE,length->dF,getD->aV,getElem?_take->aF
open Int renaming tmod->cZ,toNat->dA,emod_eq_of_lt->dH,pow_pos->dI,fdiv_eq_ediv_of_nonneg->dJ,le_of_lt->dK,pow_add->dL,mul_le_mul_of_nonneg_right->dM,lt_or_le->dQ,toNat_natCast->dX,tmod_eq_emod_of_nonneg->dZ,toNat_of_nonneg->eA,fdiv->eC,tdiv->eF,tdiv_eq_ediv_of_nonneg->eG,ediv_ediv_of_nonneg->eI,mul_ediv_add_emod->eJ,pow_succ->eK
open Bool renaming or_eq_true->aT,eq_iff_iff->eB,noConfusion->eH
open UInt8 renaming toNat_lt->dP,ofNat->eD
open BitVec renaming ofInt->dR,toNat_ofInt->dS,toNat_or->dT,toNat_and->dU
set_option maxRecDepth 100000
set_option linter.all false
namespace Go.Proofs.YtaemmjbkndlkeaaGreat
open Go Go.GD
open Go.IntKind(wrap i64 u32 u64 u8 wrap_i64 wrap_u32 wrap_u64 wrap_u8 wrap_i32)
variable {A a access clock f g op q r size v w x:Int}{P k n p:Nat}{b:gm}{c:bu}{d:fv}{mem:List Int}{s:List UInt8}
theorem zI(i:ib):U (oI i).1:=by
 refine Tree.post (SR i) (W:=λr=>U r.1) ?_
 unfold SR
 exact aq λ_ _=>ab (λ_=>gj) (λ_=>nE _ _)
theorem yd(l:List Int)(hl:l.length*8<=reachBytes):(Ni l).w (λr=>(r.length:Int)=l.length/\∀w∈r,U w):=by
 have pC:l.length*8<=140737488351232:=hl
 have app:∀{r:List Int} {x:Int},(∀w∈r,U w)->U x->∀w∈r++[x],U w:=λhr hx w hw=>by
  rw[List.mem_append]at hw
  rcases hw with hw|hw
  ·exact hr w hw
  ·rw[List.mem_singleton.1 hw];exact hx
 unfold Ni
 refine fj (inv:=λz=>Qv9 l z/\∀w∈z.2,U w) (μ:=SS l) ⟨⟨by omega,by simp,by simp⟩,by simp⟩ (cN _) (λv0 hv=>?_)
 obtain⟨⟨h1,h2,h3⟩,h4⟩:=hv
 refine ab (λh=>?_) (λh=>?_)
 ·have h:=oY h
  have next:∀x:Int,U x->(Qv9 l (wrap i64 (v0.1+1),v0.2++[x])/\∀w∈v0.2++[x],U w)/\SS l (wrap i64 (v0.1+1),v0.2++[x])<SS l v0:=λx hx=>by
   have hw:i64.wrap (v0.1+1)=v0.1+1:=by rw[wrap_i64];omega
   rw[hw]
   refine⟨⟨⟨?_,?_,?_⟩,app h4 hx⟩,?_⟩
   ·show 0<=v0.1+1;omega
   ·show v0.1+1<=l.length;omega
   ·show((v0.2++[x]).length:Int)=v0.1+1;simp;omega
   ·show(l.length-(v0.1+1)).toNat<(l.length-v0.1).toNat;omega
  have hb:(Nat.beq 1 1&&bN 0 1&&decide (0<=v0.1/\v0.1<(l.length:Int)))=true:=by simp[bN];omega
  have hc:decide (4*(v0.2.length+1)<=140737488355328)=true:=dY (by omega)
  exact ax hb (ab (λ_=>ax hb (ax hc (next _ (fp _)))) (λ_=>ax hb (c6 (xX _) (aq λx0 _=>aq λx1 hx=>ax hc (next _ (by rw[hx];exact zI _))))))
 ·have h:=oN h
  exact⟨by show(v0.2.length:Int)=l.length;omega,h4⟩
section
variable {P:Nat} {m:bg} (h:rJ P m)
include h
theorem Nj(port:Int)(hc:U clock):(Nk m port clock).w (λx=>U x.1/\rJ P x.2/\x.2.B7=m.B7):=by
 have k:=(⟨h,rfl⟩:rJ P m/\m.B7=m.B7)
 obtain⟨h1,h2,h3,h4,h5,h7⟩:=h
 unfold Nk
 exact ab (λ_=>aq λx hx=>⟨hx▸Zok _ _,⟨⟨h1,h2,h3,h4,h5,h7⟩,rfl⟩⟩) (λ_=>ab (λ_=>⟨hc,k⟩) (λ_=>ab (λ_=>aq λx hx=>⟨hx▸vA _,k⟩) (λ_=>ab (λ_=>aq λx hx=>⟨hx▸qX h3 _,k⟩) (λ_=>ab (λ_=>aq λx hx=>⟨hx▸qaA h4 _,k⟩) (λ_=>aq λx hx=>⟨hx▸Znq h5.1 _,k⟩)))))
theorem qaC(port:Int)(hv:U v):(Kl m port v).w (λx=>x.1.length<=1/\rJ P x.2/\x.2.B7=m.B7):=by
 have k:=(⟨h,rfl⟩:rJ P m/\m.B7=m.B7)
 obtain⟨h1,h2,h3,h4,h5,h7⟩:=h
 unfold Kl
 exact ab (λ_=>⟨aX _,k⟩) (λ_=>ab (λ_=>⟨bC _,k⟩) (λ_=>ab (λ_=>aq λ_ _=>⟨bC _,⟨⟨h1,h2,h3,h4,h5,h7⟩,rfl⟩⟩) (λ_=>ab (λ_=>cv (yA h2 h3 _ hv _) λx hx=>⟨hx.2,⟨⟨h1,h2,hx.1,h4,h5,h7⟩,rfl⟩⟩) (λ_=>ab (λ_=>cv (vW h2 h4 _ hv _) λx hx=>⟨hx.2,⟨⟨h1,h2,h3,hx.1,h5,h7⟩,rfl⟩⟩) (λ_=>cv (xaM h2 h5 _ hv) λx hx=>⟨bC _,⟨⟨h1,hx.2,h3,h4,hx.1,h7⟩,rfl⟩⟩)))))
theorem WO(hc:U clock):(Nl m clock).w (λx=>x.1.length<=1/\rJ P x.2/\x.2.B7=wrap .u64 (m.B7+1)):=by
 obtain⟨h1,h2,h3,h4,h5,h7⟩:=h
 unfold Nl
 refine cv (Qwj h1) λx0 c0=>cv (Nn c0 h2) λx1 hx=>?_
 obtain⟨c1,v1,m1⟩:=hx
 refine ab (λ_=>SU (Nj (m:=⟨_,_,_,_,_,_,_,_,_,_⟩) ⟨c1,m1,h3,h4,h5,h7⟩ _ hc) λx2 hx=>?_) (λ_=>ab (λ_=>cv (qaC (m:=⟨_,_,_,_,_,_,_,_,_,_⟩) ⟨c1,m1,h3,h4,h5,h7⟩ _ v1) λx4 hx=>?_) (λ_=>?_))
 ·obtain⟨u,⟨k1,k2,k3,k4,k5,k7⟩,k6⟩:=hx
  exact cv (Et k1 _ u) λx3 h3=>⟨bC _,⟨h3,k2,k3,k4,k5,w0 _⟩,congrArg (λn=>wrap .u64 (n+1)) k6⟩
 ·obtain⟨u,⟨k1,k2,k3,k4,k5,k7⟩,k6⟩:=hx
  exact⟨u,⟨k1,k2,k3,k4,k5,w0 _⟩,congrArg (λn=>wrap .u64 (n+1)) k6⟩
 ·repeat'(first
   |exact⟨bC _,⟨c1,m1,h3,h4,h5,w0 _⟩,rfl⟩
   |refine ab (λ_=>?_) (λ_=>?_))
theorem zY:(Km m).w (λx=>rJ P x/\x.B7=m.B7):=by
 obtain⟨h1,h2,h3,h4,h5,h7⟩:=h
 unfold Km
 exact cv (xaL h2) λx hx=>⟨⟨h1,by rw[hx];exact h2,h3,h4,h5,h7⟩,rfl⟩
end
theorem BN(n:Nat):∀w∈cO n (0:Int),U w:=λw hw=>by rw[(List.mem_replicate.1 hw).2];exact gj
set_option synthInstance.maxHeartbeats 2000000
set_option synthInstance.maxSize 100000
noncomputable section
instance yI (src:List UInt8):Ck (Qmk src):=tH (t:=No src) (by delta No;infer_instance)
instance yE (s:List UInt8):Ck (Qkc s):=tH (t:=Np s) (by delta Np;infer_instance)
instance vE (n:Int):Ck (Eu n):=let d:Decidable (Eu n):=(by delta Eu;infer_instance);⟨@decide _ d,@oY _ d⟩
instance vd (n:Int):Ck (Qhz n):=tH (t:=Ig n) (by delta Ig;infer_instance)
instance zag (r:Int):Ck (Qst r):=tH (t:=Ih r) (by delta Ih;infer_instance)
instance yY (s:List UInt8):Ck (WQ s):=tH (t:=Nq s) (by delta Nq;infer_instance)
instance Zu6 (op:Int):Ck (Qfg op):=tH (t:=Nr op) (by delta Nr;infer_instance)
instance Zth (s:List UInt8):Ck (Kn s):=tH (t:=Ns s) (by delta Ns;infer_instance)
instance qe (ea:List UInt8):Ck (Nt ea):=tH (t:=Nu ea) (by delta Nu;infer_instance)
instance qF (s:List UInt8):Ck (Ql0 s):=tH (t:=Qe s) (by delta Qe;infer_instance)
instance xe (l:List kZ) (p:List UInt8):Ck (Nv l p):=tH (t:=Nw l p) (by delta Nw;infer_instance)
instance xF (s:List UInt8):Ck (Ql s):=tH (t:=Nx s) (by delta Nx;infer_instance)
instance ze (l:List nZ) (label:List UInt8):Ck (Gr l label):=let d:Decidable (Gr l label):=(by delta Gr;infer_instance);⟨@decide _ d,@oY _ d⟩
instance vY (src:List UInt8):Ck (Qom src):=tH (t:=Ny src) (by delta Ny;infer_instance)
instance qZ (st:kr) (v:Int):Ck (Nz st v):=tH (t:=NA st v) (by delta NA;infer_instance)
instance Zu7 (src:List UInt8):Ck (WR src):=tH (t:=NB src) (by delta NB;infer_instance)
theorem xag:WR ((108:UInt8)::(BO++Ko++(Kp++Kq)++(Kr++Ks++(Kt++Ku))++(Kv++Kw++(Kx++Ky)++(Kz++KA++(KB++KC))))):=ck inferInstance (by kernel_rfl)
def inU(x:Int):Bool:=decide (0<=x)&&decide (x<4294967296)
theorem qah(l:List Int)(h:(Nat.ble l.length 160&&List.all l inU)=true):l.length<=160/\∀w∈l,U w:=by
 rw[aE]at h
 refine⟨lE h.1,λw hw=>?_⟩
 have:=List.all_eq_true.1 h.2 w hw
 simp only[inU,aE,decide_eq_true_eq]at this
 exact this
theorem ye:(KD (cP (cP (cP (cP SV Ko) (cP Kp Kq)) (cP (cP Kr Ks) (cP Kt Ku))) (cP (cP (cP Kv Kw) (cP Kx Ky)) (cP (cP Kz KA) (cP KB KC))))).1.length<=160/\∀w∈(KD (cP (cP (cP (cP SV Ko) (cP Kp Kq)) (cP (cP Kr Ks) (cP Kt Ku))) (cP (cP (cP Kv Kw) (cP Kx Ky)) (cP (cP Kz KA) (cP KB KC))))).1,U w:=qah _ (by kernel_rfl)
end
theorem BP(i:List Int)(hu:∀w∈i,U w)(hl:i.length<=256):(Qd 8 4 i).w (λx=>rJ 8 x.1/\x.1.B7=0):=by
 unfold Qd
 refine ab (λh=>absurd h (by decide)) λ_=>ab (λh=>absurd h (by decide)) λ_=>ab (λh=>absurd h (by decide)) λ_=>ab (λh=>absurd h (by decide)) λ_=>ab (λh=>?_) λ_=>aq λx0 e0=>c6 (Zie _) (aq λx1 e1=>?_)
 ·have h:=oY h
  rw[show i64.wrap (8*32)=256 by decide]at h
  omega
 have hx:x1=cO 256 0:=by rw[e1];kernel_rfl
 have c0:iQ x0:=by rw[e0];exact⟨by
  intro w hw
  simp only[WS,SW,Tree.m,ir.l,cQ,cR,or_false,or_self]at hw
  rw[hw];exact gj,gj,by
  intro w hw
  simp only[WS,SW,Tree.m,A8.l,cQ,cR,or_false,or_self]at hw
  rcases hw with rfl|rfl
  ·exact⟨by omega,by omega⟩
  ·exact gj⟩
 have hz:∀w∈x1,U w:=by rw[hx];exact BN 256
 have hn:x1.length=256:=by rw[hx,cS]
 refine⟨⟨c0,⟨?_,by omega,by omega,λw hw=>?_⟩,⟨gj,gj,gj,gj⟩,⟨gj,gj,gj,gj⟩,⟨gj,gj⟩,Int.le_refl _⟩,rfl⟩
 ·simp only[lA,aD,aG,hn];omega
 ·rcases List.mem_append.1 hw with h1|h1
  ·exact hu w (List.mem_of_mem_take h1)
  ·exact hz w (List.mem_of_mem_drop h1)
noncomputable section
def jP:List Int:=(KD (cP (cP (cP (cP SV Ko) (cP Kp Kq)) (cP (cP Kr Ks) (cP Kt Ku))) (cP (cP (cP Kv Kw) (cP Kx Ky)) (cP (cP Kz KA) (cP KB KC))))).1
def tv:List Int:=jP++cO (160-jP.length) 0
theorem NC(t0 t1 t2 t3 t4 t5 t6 t7 t8 t9 t10 t11 t12 t13 t14 t15 t16 t17 t18 t19 t20 t21 t22 t23 t24 t25 t26 t27 t28 t29 t30 t31 t32 t33 t34 t35 t36 t37 t38 t39 t40 t41 t42 t43 t44 t45 t46 t47 t48 t49 t50 t51 t52 t53 t54 t55 t56 t57 t58 t59 t60 t61 t62 t63 t64 t65 t66 t67 t68 t69 t70 t71 t72 t73 t74 t75 t76 t77 t78 t79 t80 t81 t82 t83 t84 t85 t86 t87 t88 t89 t90 t91 t92 t93 t94 t95:Int):(KE (lh 8 4 (tv++[t0,t1,t2,t3,t4,t5,t6,t7,t8,t9,t10,t11,t12,t13,t14,t15,t16,t17,t18,t19,t20,t21,t22,t23,t24,t25,t26,t27,t28,t29,t30,t31,t32,t33,t34,t35,t36,t37,t38,t39,t40,t41,t42,t43,t44,t45,t46,t47,t48,t49,t50,t51,t52,t53,t54,t55,t56,t57,t58,t59,t60,t61,t62,t63,t64,t65,t66,t67,t68,t69,t70,t71,t72,t73,t74,t75,t76,t77,t78,t79,t80,t81,t82,t83,t84,t85,t86,t87,t88,t89,t90,t91,t92,t93,t94,t95])).1 [] 87).2.2.2=0:=by kernel_rfl
end
attribute [local irreducible] KD
theorem qf(i j:List Int)(hi:i.length<=256)(hj:j.length<=256)(e:i++cO (256-i.length) 0=j++cO (256-j.length) 0):lh 8 4 i=lh 8 4 j:=by
 have w:i64.wrap (8*32)=256:=by decide
 have m:SX 8=cO 256 0:=by kernel_rfl
 have d:∀k:List Int,k.length<=256->decide ((k.length:Int)>256)=false:=λk h=>dN (by omega)
 have mem:∀k:List Int,k.length<=256->cU (min k.length (cO 256 (0:Int)).length) k++cV (min k.length (cO 256 (0:Int)).length) (cO 256 0)=k++cO (256-k.length) 0:=λk h=>by
  rw[cS,Nat.min_eq_left h,List.take_length,List.drop_replicate]
 have r:SX 8=cO 256 0:=by kernel_rfl
 simp only[lh,Qd,Tree.m,w,ee,r,d i hi,d j hj]
 simp only[mem i hi,mem j hj,e]
theorem Ii(t:List Int)(ht:t.length=96):t=[t.getD 0 0,t.getD 1 0,t.getD 2 0,t.getD 3 0,t.getD 4 0,t.getD 5 0,t.getD 6 0,t.getD 7 0,t.getD 8 0,t.getD 9 0,t.getD 10 0,t.getD 11 0,t.getD 12 0,t.getD 13 0,t.getD 14 0,t.getD 15 0,t.getD 16 0,t.getD 17 0,t.getD 18 0,t.getD 19 0,t.getD 20 0,t.getD 21 0,t.getD 22 0,t.getD 23 0,t.getD 24 0,t.getD 25 0,t.getD 26 0,t.getD 27 0,t.getD 28 0,t.getD 29 0,t.getD 30 0,t.getD 31 0,t.getD 32 0,t.getD 33 0,t.getD 34 0,t.getD 35 0,t.getD 36 0,t.getD 37 0,t.getD 38 0,t.getD 39 0,t.getD 40 0,t.getD 41 0,t.getD 42 0,t.getD 43 0,t.getD 44 0,t.getD 45 0,t.getD 46 0,t.getD 47 0,t.getD 48 0,t.getD 49 0,t.getD 50 0,t.getD 51 0,t.getD 52 0,t.getD 53 0,t.getD 54 0,t.getD 55 0,t.getD 56 0,t.getD 57 0,t.getD 58 0,t.getD 59 0,t.getD 60 0,t.getD 61 0,t.getD 62 0,t.getD 63 0,t.getD 64 0,t.getD 65 0,t.getD 66 0,t.getD 67 0,t.getD 68 0,t.getD 69 0,t.getD 70 0,t.getD 71 0,t.getD 72 0,t.getD 73 0,t.getD 74 0,t.getD 75 0,t.getD 76 0,t.getD 77 0,t.getD 78 0,t.getD 79 0,t.getD 80 0,t.getD 81 0,t.getD 82 0,t.getD 83 0,t.getD 84 0,t.getD 85 0,t.getD 86 0,t.getD 87 0,t.getD 88 0,t.getD 89 0,t.getD 90 0,t.getD 91 0,t.getD 92 0,t.getD 93 0,t.getD 94 0,t.getD 95 0]:=by
 apply bR
 ·rw[ht];rfl
 ·intro i h1 h2
  have e:∀j (hj:j<96),[t.getD 0 0,t.getD 1 0,t.getD 2 0,t.getD 3 0,t.getD 4 0,t.getD 5 0,t.getD 6 0,t.getD 7 0,t.getD 8 0,t.getD 9 0,t.getD 10 0,t.getD 11 0,t.getD 12 0,t.getD 13 0,t.getD 14 0,t.getD 15 0,t.getD 16 0,t.getD 17 0,t.getD 18 0,t.getD 19 0,t.getD 20 0,t.getD 21 0,t.getD 22 0,t.getD 23 0,t.getD 24 0,t.getD 25 0,t.getD 26 0,t.getD 27 0,t.getD 28 0,t.getD 29 0,t.getD 30 0,t.getD 31 0,t.getD 32 0,t.getD 33 0,t.getD 34 0,t.getD 35 0,t.getD 36 0,t.getD 37 0,t.getD 38 0,t.getD 39 0,t.getD 40 0,t.getD 41 0,t.getD 42 0,t.getD 43 0,t.getD 44 0,t.getD 45 0,t.getD 46 0,t.getD 47 0,t.getD 48 0,t.getD 49 0,t.getD 50 0,t.getD 51 0,t.getD 52 0,t.getD 53 0,t.getD 54 0,t.getD 55 0,t.getD 56 0,t.getD 57 0,t.getD 58 0,t.getD 59 0,t.getD 60 0,t.getD 61 0,t.getD 62 0,t.getD 63 0,t.getD 64 0,t.getD 65 0,t.getD 66 0,t.getD 67 0,t.getD 68 0,t.getD 69 0,t.getD 70 0,t.getD 71 0,t.getD 72 0,t.getD 73 0,t.getD 74 0,t.getD 75 0,t.getD 76 0,t.getD 77 0,t.getD 78 0,t.getD 79 0,t.getD 80 0,t.getD 81 0,t.getD 82 0,t.getD 83 0,t.getD 84 0,t.getD 85 0,t.getD 86 0,t.getD 87 0,t.getD 88 0,t.getD 89 0,t.getD 90 0,t.getD 91 0,t.getD 92 0,t.getD 93 0,t.getD 94 0,t.getD 95 0][j]'hj=t.getD j 0:=by
   intro j hj
   have:[t.getD 0 0,t.getD 1 0,t.getD 2 0,t.getD 3 0,t.getD 4 0,t.getD 5 0,t.getD 6 0,t.getD 7 0,t.getD 8 0,t.getD 9 0,t.getD 10 0,t.getD 11 0,t.getD 12 0,t.getD 13 0,t.getD 14 0,t.getD 15 0,t.getD 16 0,t.getD 17 0,t.getD 18 0,t.getD 19 0,t.getD 20 0,t.getD 21 0,t.getD 22 0,t.getD 23 0,t.getD 24 0,t.getD 25 0,t.getD 26 0,t.getD 27 0,t.getD 28 0,t.getD 29 0,t.getD 30 0,t.getD 31 0,t.getD 32 0,t.getD 33 0,t.getD 34 0,t.getD 35 0,t.getD 36 0,t.getD 37 0,t.getD 38 0,t.getD 39 0,t.getD 40 0,t.getD 41 0,t.getD 42 0,t.getD 43 0,t.getD 44 0,t.getD 45 0,t.getD 46 0,t.getD 47 0,t.getD 48 0,t.getD 49 0,t.getD 50 0,t.getD 51 0,t.getD 52 0,t.getD 53 0,t.getD 54 0,t.getD 55 0,t.getD 56 0,t.getD 57 0,t.getD 58 0,t.getD 59 0,t.getD 60 0,t.getD 61 0,t.getD 62 0,t.getD 63 0,t.getD 64 0,t.getD 65 0,t.getD 66 0,t.getD 67 0,t.getD 68 0,t.getD 69 0,t.getD 70 0,t.getD 71 0,t.getD 72 0,t.getD 73 0,t.getD 74 0,t.getD 75 0,t.getD 76 0,t.getD 77 0,t.getD 78 0,t.getD 79 0,t.getD 80 0,t.getD 81 0,t.getD 82 0,t.getD 83 0,t.getD 84 0,t.getD 85 0,t.getD 86 0,t.getD 87 0,t.getD 88 0,t.getD 89 0,t.getD 90 0,t.getD 91 0,t.getD 92 0,t.getD 93 0,t.getD 94 0,t.getD 95 0]=(cW 96).map (λk=>t.getD k 0):=rfl
   simp only[this,List.getElem_map,List.getElem_range]
  rw[e i (by omega),cX,List.getElem?_eq_getElem h1]
  rfl
theorem xZ(t:List Int)(ht:t.length=96):(KE (lh 8 4 (tv++t)).1 [] 87).2.2.2=0:=by
 rw[Ii t ht]
 exact NC _ _ _ _ _ _ _ _ _ _ _ _ _ _ _ _ _ _ _ _ _ _ _ _ _ _ _ _ _ _ _ _ _ _ _ _ _ _ _ _ _ _ _ _ _ _ _ _ _ _ _ _ _ _ _ _ _ _ _ _ _ _ _ _ _ _ _ _ _ _ _ _ _ _ _ _ _ _ _ _ _ _ _ _ _ _ _ _ _ _ _ _ _ _ _ _
theorem xf:tv.length=160:=by
 have h:jP.length<=160:=ye.1
 unfold tv
 rw[lA,cS];omega
theorem zah{m:bg}(h:rJ P m):(Ij m [] 87).w (λx=>x.2.2.2=0->rJ P x.1):=by
 have z:∀{k:Int} {p:Prop},k≠0->k=0->p:=λa b=>absurd b a
 unfold Ij
 refine aq λx0 _=>ab (λ_=>z (by decide)) λ_=>ab (λ_=>z (by decide)) λ_=>ab (λ_=>z (by decide)) λ_=>c6 (show ND [] by show([]:List pH).length<=1000000000000;decide) (aq λx1 _=>ab (λ_=>z (by decide)) λ_=>cv (zY h) λx2 hx=>?_)
 have hc:=h.tw
 refine fj (inv:=λv:bg×List iq=>rJ P v.1/\v.2.length+(87-v.1.B7).toNat<=87) (μ:=WT m [] 87) ⟨hx.1,by rw[hx.2];show 0+_<=87;omega⟩ (cN _) λv0 ⟨a1,a3⟩=>?_
 have a2:=a1.tw
 refine ab (λhb=>ab (λ_=>?_) (λ_=>λ_=>a1)) (λ_=>λ_=>a1)
 have hb:=oY hb
 refine fj (inv:=λ_=>True) (μ:=WU m [] 87 v0) trivial (cN _) λv1 _=>?_
 refine ab (λ_=>λ_=>a1) λ_=>cv (zab _) λx3 _=>ab (λ_=>λ_=>a1) λ_=>cv (xaz a1.oh a1.mem) λx4 _=>ab (λ_=>z (by decide)) λ_=>cv (WO a1 gj) λx5 h5=>?_
 obtain⟨b1,b2,b3⟩:=h5
 refine ax (dY (by omega)) (ei ?_)
 have e:x5.2.B7=v0.1.B7+1:=by rw[b3,wrap_u64];omega
 show(_/\_)/\(_:Nat)<_
 refine⟨⟨b2,by show(v0.2++x5.1).length+(87-x5.2.B7).toNat<=87;rw[lA];omega⟩,by show(87-x5.2.B7).toNat<(87-v0.1.B7).toNat;omega⟩
theorem Zn8(kind:Int)(l:List Int)(hl:l.length*8<=reachBytes)(h40:l.length<=60):(Ik kind l).w (rJ 8):=by
 unfold Ik
 refine c6 (KF (by decide)) (aq λx0 nO=>ab (λ_=>c6 xag (aq λx1 e1=>?_)) (λhk=>?_))
 ·have eb:x1.1=jP:=by rw[e1];rfl
  obtain⟨q1,q2⟩:jP.length<=160/\∀w∈jP,U w:=ye
  refine fj (inv:=λv:List Int=>v.length<=160/\v=jP++cO (v.length-jP.length) 0) (μ:=WV kind l) ⟨by rw[eb];exact q1,by rw[eb];simp⟩ (cN _) λv0 ⟨a1,a2⟩=>?_
  have a3:jP.length<=v0.length:=by rw[a2,lA];omega
  refine ab (λhb=>?_) (λhb=>?_)
  ·have hb:=oY hb
   refine ax (dY (by omega)) (ei ?_)
   show(_/\_)/\(_:Nat)<_
   refine⟨⟨by rw[lA,cY];omega,?_⟩,by show 160-(v0++[0]).length<160-v0.length;rw[lA,cY];omega⟩
   show v0++[0]=jP++cO ((v0++[0]).length-jP.length) 0
   rw[lA,cY,show v0.length+1-jP.length=(v0.length-jP.length)+1 by omega,List.replicate_succ',<-aM,<-a2]
  ·have hb:=oN hb
   have hv:v0=tv:=by
    unfold tv
    rw[show(160:Nat)=v0.length by omega]
    exact a2
   subst hv
   have hp:=xf
   have WW:∀w∈tv,U w:=λw hw=>(List.mem_append.1 hw).elim (q2 w) (BN _ w)
   refine cv (yd l hl) λx2 ⟨b1,b2⟩=>ax (dY (by omega)) ?_
   have hu:∀w∈tv++x2,U w:=λw hw=>(List.mem_append.1 hw).elim (WW w) (b2 w)
   have hlen:(tv++x2).length<=256:=by rw[lA];omega
   refine ab (λhb=>?_) (λhb=>?_)
   ·have hb:=oY hb;omega
   ·have nw:=Tree.pp (BP _ hu hlen)
    refine c6 nw.1 (aq λx3 h3=>?_)
    have c1:rJ 8 x3.1:=by rw[h3];exact nw.2.1
    have rn:=Tree.pp (zah c1)
    refine ab (λ_=>c6 rn.1 (aq λx4 hx=>?_)) (λ_=>c1)
    have e:x3=lh 8 4 (tv++(x2++cO (96-x2.length) 0)):=by
     rw[h3]
     have Il:(x2++cO (96-x2.length) (0:Int)).length=96:=by rw[lA,cS];omega
     refine qf _ _ hlen (by rw[lA,Il];omega) ?_
     rw[lA,lA,Il,hp,aM,aM,aM,show 256-(160+96)=0 by omega,show 256-(160+x2.length)=96-x2.length by omega]
     simp
    have h0:x4.2.2.2=0:=by
     rw[hx,e]
     exact xZ _ (by rw[lA,cS];omega)
    exact(by rw[hx];exact rn.2:x4.2.2.2=0->rJ 8 x4.1) h0
 ·have hk:=oN hk
  refine cv (yd l hl) λx2 ⟨b1,b2⟩=>ax (dY (by omega)) ?_
  refine ab (λhb=>?_) (λhb=>?_)
  ·have hb:=oY hb;omega
  ·have nw:=Tree.pp (BP _ b2 (by omega))
   refine c6 nw.1 (aq λx3 h3=>?_)
   have c1:rJ 8 x3.1:=by rw[h3];exact nw.2.1
   exact ab (λh=>absurd (eq_of_beq h) (by omega)) (λ_=>c1)
def out(f:Int)(m m':List Int):Prop:=∀j:Nat,¬(f*32<=j/\(j:Int)<f*32+32)->m'.getD j 0=m.getD j 0
theorem WX(f:Int)(m:List Int):out f m m:=λ_ _=>rfl
theorem we(l:List Int)(i j:Nat)(v:Int)(h:i≠j):(l.set i v).getD j 0=l.getD j 0:=by
 simp only[cX,List.getElem?_set_ne h]
theorem ug{m:List Int}(h:ep P m):jU m=P:=by
 obtain⟨h1,h2,h3,_⟩:=h
 simp only[jU,Gs,Tree.m]
 have e:(m.length:Int)=32*P:=by omega
 rw[e]
 have e1:(cZ (32*(P:Int)) 32 !=0)=false:=by simp[Int.mul_tmod_right]
 have e2:decide ((32*(P:Int))>1024)=false:=dN (by omega)
 rw[e1,e2]
 simp only[cond_false]
 rw[Int.mul_tdiv_cancel_left _ (by decide),wrap_i64];omega
theorem zZ{m:List Int}(h:ep P m)(f:Int):Ev m f=true->0<=f/\f<P:=by
 have hp:=ug h
 simp only[Ev,KG,Tree.m,ee,hp]
 cases h1:decide (f>=0)
 ·intro h;cases h
 ·intro h;exact⟨oY h1,oY h⟩
theorem zf{m:List Int}(h:ep P m)(f:Int)(s:List UInt8):(Im m f s).w (λr=>ep P r.1/\out f m r.1/\(r.2=false->r.1=m)):=by
 have jn:kF m=m:=rfl
 have h2:=h.p2
 unfold Im
 refine c6 (Gt h) (aq λx0 nO=>aq λx1 o7=>?_)
 rw[jn]at nO;subst nO
 refine ab (λ_=>⟨h,WX _ _,λ_=>rfl⟩) λhb=>ab (λ_=>⟨h,WX _ _,λ_=>rfl⟩) λhs=>?_
 have hb:x1=true:=by simpa using hb
 obtain⟨f0,f1⟩:=zZ h f (o7.symm.trans hb)
 have hs:(s.length:Int)=128:=by simpa using hs
 refine fj (inv:=λz:Int×List Int=>0<=z.1/\z.1<=32/\ep P z.2/\out f x0 z.2) (μ:=WY x0 f s) ⟨show(0:Int)<=0 by decide,show(0:Int)<=32 by decide,h,WX _ _⟩ (cN _) λz ⟨z1,z2,z3,z4⟩=>?_
 refine ab (λhb=>?_) (λ_=>⟨z3,z4,λh=>by cases h⟩)
 have hb:=oY hb
 have e1:i64.wrap (4*z.1)=4*z.1:=by rw[wrap_i64];omega
 have e2:i64.wrap (i64.wrap (4*z.1)+4)=4*z.1+4:=by rw[wrap_i64,wrap_i64];omega
 have e3:i64.wrap (i64.wrap (f*32)+z.1)=f*32+z.1:=by rw[wrap_i64,wrap_i64];omega
 have hl:=z3.len
 have hlen:(cU (dA (i64.wrap (i64.wrap (4*z.1)+4))-dA (i64.wrap (4*z.1))) (cV (dA (i64.wrap (4*z.1))) s)).length=4:=by
  rw[e2,e1,aD,aG];omega
 refine ax (dY (by rw[e2,e1];omega)) ?_
 refine ax (dY (by rw[hlen];decide)) (ax (dY (by rw[hlen];decide)) (ax (dY (by rw[hlen];decide)) (ax (dY (by rw[hlen];decide)) (ax (by rw[e3];simp[bN];omega) (ei ?_)))))
 show(_/\_/\ep P (dB _ _ _)/\out f x0 (dB _ _ _))/\(_:Nat)<_
 have ew:i64.wrap (z.1+1)=z.1+1:=by rw[wrap_i64];omega
 rw[e3]
 refine⟨⟨by rw[ew];omega,by rw[ew];omega,⟨by rw[dC];exact hl,z3.p1,z3.p2,Ew z3.u (nE _ _) _⟩,λj hj=>?_⟩,by show(32-i64.wrap (z.1+1)).toNat<(32-z.1).toNat;rw[ew];omega⟩
 rw[we _ _ _ _ (by omega)]
 exact z4 j hj
theorem zaC(w:List Int)(h:w.length<=32):(Ey w).w (λr=>r.length=4*w.length):=by
 have e0:i64.wrap (4*(w.length:Int))=4*w.length:=by rw[wrap_i64];omega
 unfold Ey
 refine ax (by rw[e0];simp[bN,D.plain];omega) ?_
 refine fj (inv:=λz:Int×List Int=>0<=z.1/\z.1<=w.length/\(z.2.length:Int)=4*z.1) (μ:=NF w) ⟨by decide,by show(0:Int)<=w.length;omega,rfl⟩ (cN _) λz ⟨z1,z2,z3⟩=>?_
 refine ab (λhb=>?_) (λhb=>?_)
 ·have hb:=oY hb
  have ew:i64.wrap (z.1+1)=z.1+1:=by rw[wrap_i64];omega
  refine ax (by simp[bN];omega) (ax (dY (by omega)) (ei ?_))
  show(_/\_/\_)/\(_:Nat)<_
  refine⟨⟨by rw[ew];omega,by rw[ew];omega,by rw[ew,lA];simp only[dD,dE];omega⟩,by show(w.length-i64.wrap (z.1+1)).toNat<(w.length-z.1).toNat;rw[ew];omega⟩
 ·have hb:=oN hb
  show(bytesOf z.2).length=_
  rw[NG];omega
theorem yf{m:List Int}(h:ep P m)(f:Int):(DA m f).w (λr=>0<=f->f<P->r.1.length=128):=by
 have hl:=h.len
 have h2:=h.p2
 unfold DA
 refine aq λx0 nO=>ab (λhb=>λf0 f1=>?_) (λhb=>?_)
 ·have hp:=ug h
  have hb:x0=false:=by simpa using hb
  rw[hb]at nO
  simp only[Ev,KG,Tree.m,ee,hp]at nO
  rw[dY f0]at nO
  exact absurd f1 (oN nO.symm)
 ·have hb:x0=true:=by simpa using hb
  obtain⟨f0,f1⟩:=zZ h f (nO.symm.trans hb)
  have e1:i64.wrap (f*32)=f*32:=by rw[wrap_i64];omega
  have e2:i64.wrap (i64.wrap (f*32)+32)=f*32+32:=by rw[wrap_i64,wrap_i64];omega
  have hlen:(cU (dA (i64.wrap (i64.wrap (f*32)+32))-dA (i64.wrap (f*32))) (cV (dA (i64.wrap (f*32))) m)).length=32:=by
   rw[e2,e1,aD,aG];omega
  refine ax (by rw[e2,e1];simp[bN];omega) ?_
  refine c6 (by show dF _<=1000000000000;rw[hlen];decide) (aq λx1 h1=>?_)
  have h1:x1.length=4*(cU (dA (i64.wrap (i64.wrap (f*32)+32))-dA (i64.wrap (f*32))) (cV (dA (i64.wrap (f*32))) m)).length:=by rw[h1];exact(Tree.pp (zaC _ (dG hlen))).2
  intro _ _
  show x1.length=128
  rw[h1,hlen]
theorem yZ(hf:U f)(hP:P<=32)(h:decide (u64.wrap f<u64.wrap (P:Int))=true):0<=f/\f<P:=by
 have h:=oY h
 obtain⟨h1,h2⟩:=hf
 rw[wrap_u64,wrap_u64,dH h1 (by omega),dH (by omega) (by omega)]at h
 exact⟨h1,h⟩
theorem vZ(m:bg):wg m=(AP m.B3&&(AQ m.B9&&(ra m.B5 (jU m.Mem)&&(wh m.D1 (jU m.Mem)&&AR m.A6 (jU m.Mem))))):=by
 simp only[wg,Gu,Tree.m,ee]
 cases AP m.B3<;>cases AQ m.B9<;>cases ra m.B5 (jU m.Mem)<;>cases wh m.D1 (jU m.Mem)<;>rfl
def chain(b1 b2 b3 b4 b5 b6 b7 w h dev:Bool):Bool:=bif b1 then false else bif b2 then false else bif b3 then false else bif b4 then false else bif b5 then false else bif b6 then false else bif b7 then false else bif w then(bif h then false else dev)else dev
def NH(p:Int)(c:bu)(ct:Int)(w h dev:Bool):Bool:=chain (p==0) (c.X.a0 !=0) (decide (c.C3.a0>31)) (decide (c.C3.a7>31)) (decide (c.C3.a6>255)) (cZ c.C3.a1 4 !=0) (decide (ct>1152921504606846976)) w h dev
theorem xaC(m:bg):AS m=NH (jU m.Mem) m.B2 m.B7 m.B4 m.B6 (wg m):=rfl
section
variable {P:Nat} {m:List Int} (h:ep P m)
include h
theorem NI(hf:U f){b:Bool}(hx:b=NJ m f)(hb:b=true):0<=f/\f<P:=by
 have hp:=ug h
 rw[hb]at hx
 simp only[NJ,Qj,Tree.m,ee,hp]at hx
 exact yZ hf h.p2 hx.symm
theorem Gv(hf:U f){b:Bool}(hx:b=KH m f)(hb:b=true):0<=f/\f<P:=by
 have hp:=ug h
 rw[hb]at hx
 simp only[KH,SY,Tree.m,ee,hp]at hx
 exact yZ hf h.p2 hx.symm
def sx(P:Nat)(d d':fv):Prop:=Ah d'/\(ra d P=true->ra d' P=true)
theorem vf(hd:Ah d){cmd:Int}(hc:cmd=1\/cmd=2)(gk:Int):(KI d m cmd gk).w (λr=>sx P d r.1/\r.2.length<=1):=by
 have h2:=h.p2
 have st3:(d.C9 !=0)=false->sx P d {ae:=d.ae,C8:=d.C8,Frame:=d.Frame,C9:=3,F6:=d.F6,C5:=d.C5,C6:=d.C6,C7:=d.C7}:=λhs=>by
  have hs:d.C9=0:=by simpa using hs
  refine⟨⟨hd.block,hd.frame,hd.ko,hd.kp⟩,λhm=>?_⟩
  simp only[ra,Ez,Tree.m,hs]at hm⊢
  exact hm
 have NK:ra d P=true->decide (d.ae>64)=false:=λhm=>by
  cases hb:decide (d.ae>64)
  ·rfl
  ·have:ra d P=false:=by simp only[ra,Ez,Tree.m];rw[hb];rfl
   rw[this]at hm;cases hm
 unfold KI
 refine ab (λ_=>⟨⟨hd,λh=>h⟩,bC _⟩) λhs=>ab (λ_=>⟨st3 hs,bC _⟩) λhb=>aq λx0 hx=>ab (λ_=>⟨st3 hs,bC _⟩) λhp=>?_
 have hb:=oN hb
 obtain⟨f0,f1⟩:=NI h hd.frame hx (by simpa using hp)
 have ef:i64.wrap d.Frame=d.Frame:=by rw[wrap_i64];omega
 have e1:decide (d.C8<d.ae)=true:=dY (by omega)
 have e2:decide (i64.wrap d.Frame<(P:Int))=true:=by rw[ef];exact dY f1
 refine ab (λAg=>cv (yf h _) λx1 h1=>?_) (λAg=>?_)
 ·rw[ef]at h1
  have h1:=h1 f0 f1
  have Ag:=eq_of_beq Ag
  subst Ag
  refine aq λx2 _=>⟨⟨⟨hd.block,hd.frame,hd.block,hd.frame⟩,λhm=>?_⟩,aX _⟩
  simp only[ra,Ez,SZ,NL,Tree.m,ee,NK hm,e1,e2,h1]
  rfl
 ·have hc:cmd=1:=by
   rcases hc with h|h
   ·exact h
   ·rw[h]at Ag;exact absurd Ag (by decide)
  subst hc
  refine aq λx2 _=>⟨⟨⟨hd.block,hd.frame,hd.block,hd.frame⟩,λhm=>?_⟩,aX _⟩
  simp only[ra,Ez,SZ,NL,Tree.m,ee,NK hm,e1,e2]
  rfl
theorem xah(hd:Ah d)(port:Int)(hv:U v)(gk:Int):(KJ d m port v gk).w (λr=>sx P d r.1/\r.2.length<=1):=by
 have dv:sx P d d:=⟨hd,λh=>h⟩
 have e1:∀{k:Int},(v==k)=true->i64.wrap v=k:=λhk=>by
  have:=eq_of_beq hk
  obtain⟨a,b⟩:=hv
  rw[wrap_i64];omega
 unfold KJ
 refine ab (λ_=>⟨⟨⟨hv,hd.frame,hd.ko,hd.kp⟩,λh=>h⟩,bC _⟩) λ_=>ab (λ_=>⟨⟨⟨hd.block,hv,hd.ko,hd.kp⟩,λh=>h⟩,bC _⟩) λ_=>ab (λ_=>ab (λhk=>cv (vf h hd (.inl (e1 hk)) _) λx hx=>hx) λ_=>ab (λhk=>cv (vf h hd (.inr (e1 hk)) _) λx hx=>hx) λ_=>ab (λ_=>aq λx hx=>ab (λhb=>?_) (λ_=>⟨dv,bC _⟩)) (λ_=>⟨dv,bC _⟩)) (λ_=>⟨dv,bC _⟩)
 refine⟨⟨⟨hd.block,hd.frame,hd.ko,hd.kp⟩,λhm=>?_⟩,bC _⟩
 rw[hb]at hx
 simp only[KK,WZ,Tree.m]at hx
 cases h2:d.C9==2
 ·rw[h2]at hx
  have h3:d.C9=3:=eq_of_beq hx.symm
  simp only[ra,Ez,Tree.m,h3]at hm⊢
  exact hm
 ·have h3:d.C9=2:=eq_of_beq h2
  simp only[ra,Ez,Tree.m,h3]at hm⊢
  exact hm
def BQ(P:Nat)(n n':gz):Prop:=uh n'/\(wh n P=true->wh n' P=true)
theorem qaD{n:gz}(hn:uh n)(gk:Int):(KL n m gk).w (λr=>r.length<=1):=by
 have h2:=h.p2
 unfold KL
 refine ab (λ_=>bC _) λl1=>ab (λ_=>bC _) λl2=>aq λx0 hx=>ab (λ_=>bC _) λhp=>cv (yf h _) λx1 h1=>?_
 have l1:=oN l1
 have l2:=oN l2
 obtain⟨f0,f1⟩:=Gv h hn.frame hx (by simpa using hp)
 have ef:i64.wrap n.Frame=n.Frame:=by rw[wrap_i64];omega
 rw[ef]at h1
 have h1:=h1 f0 f1
 exact ax (dY (by omega)) (aX _)
theorem zaD{n:gz}(hn:uh n)(port:Int){v:Int}(hv:U v)(gk:Int):(KM n m port v gk).w (λr=>BQ P n r.1/\r.2.length<=1):=by
 have h2:=h.p2
 have dv:BQ P n n:=⟨hn,λh=>h⟩
 unfold KM
 refine ab (λ_=>⟨⟨⟨hv,hn.len,hn.buffer,hn.Gw⟩,λh=>h⟩,bC _⟩) λ_=>ab (λ_=>⟨⟨⟨hn.frame,hv,hn.buffer,hn.Gw⟩,λh=>h⟩,bC _⟩) λ_=>ab (λ_=>ab (λ_=>cv (qaD h hn _) λx hx=>⟨dv,hx⟩) λ_=>ab (λ_=>aq λx hx=>ab (λhb=>ab (λnp=>ab (λnr=>?_) (λ_=>⟨dv,bC _⟩)) (λ_=>⟨dv,bC _⟩)) (λ_=>⟨dv,bC _⟩)) λ_=>ab (λ_=>?_) (λ_=>⟨dv,bC _⟩)) (λ_=>⟨dv,bC _⟩)
 ·obtain⟨f0,f1⟩:=Gv h hn.frame hx hb
  have np:n.D2=false:=by simpa using np
  have nr:n.C4=false:=by simpa using nr
  have e2:decide (i64.wrap n.Frame>=(P:Int))=false:=dN (by rw[wrap_i64];omega)
  refine⟨⟨⟨hn.frame,hn.len,hn.frame,hn.Gw⟩,λhm=>?_⟩,bC _⟩
  simp only[wh,Qs,Tree.m,np,nr,e2]at hm⊢
  cases hb:(n.D4 !=0)
  ·rw[hb]at hm;exact hm
  ·rw[hb]at hm;cases hm
 ·refine⟨⟨⟨hn.frame,hn.len,hn.buffer,gj⟩,λhm=>?_⟩,bC _⟩
  simp only[wh,Qs,Tree.m]at hm⊢
  revert hm
  cases n.D2<;>cases n.C4<;>cases decide (i64.wrap n.D4>=(P:Int))<;>cases(n.D4 !=0)<;>simp
end
theorem qai(t:iV)(v:Int):AQ (NM t v)=true:=by
 simp only[NM,S0,AQ,S1,Tree.m]
 cases h:(v !=0)
 ·have:v=0:=by simpa using h
  subst this;rfl
 ·rfl
theorem DB(k:Nat)(hk:k<=32):bc .u32 a k=a/2^k:=by
 unfold bc
 have e:min (k:Int).toNat u32.bits=k:=by show min (k:Int).toNat 32=k;omega
 have hp:(0:Int)<2^k:=dI (by decide)
 rw[e,dJ _ (dK hp)]
def KN(x:Int)(n:Nat):Prop:=x<2^n/\(n=0\/(2:Int)^(n-1)<=x)
theorem W0(hq:q=x/2^k)(h0:0<q)(h:KN q n):KN x (n+k):=by
 have hp:(0:Int)<2^k:=dI (by decide)
 obtain⟨h1,h2⟩:=h
 have hn:n≠0:=λe=>by subst e;simp at h1;omega
 refine⟨?_,.inr ?_⟩
 ·rw[dL]
  have:x<(x/2^k+1)*2^k:=Int.lt_ediv_add_one_mul_self x hp
  have h3:(x/2^k+1)*2^k<=2^n*2^k:=dM (by omega) (dK hp)
  omega
 ·have h2:=h2.resolve_left hn
  have e:n+k-1=(n-1)+k:=by omega
  rw[e,dL]
  have h3:(2:Int)^(n-1)*2^k<=q*2^k:=dM h2 (dK hp)
  have h4:q*2^k<=x:=by rw[hq];exact Int.ediv_mul_le x (Int.ne_of_gt hp)
  omega
theorem vI(h:KN x n)(hx:x<2^p):n<=p:=by
 obtain⟨h1,h2⟩:=h
 rcases h2 with h2|h2
 ·omega
 ·rcases Nat.lt_or_ge p n with bh|gl
  ·have:(2:Int)^p<=2^(n-1):=by
    have:=dO (show 0<2 by omega) (show p<=n-1 by omega)
    exact_mod_cast this
   omega
  ·exact gl
theorem Zos(h:KN x n)(hn:n<=p):x<2^p:=by
 have:(2:Int)^n<=2^p:=by
  have:=dO (show 0<2 by omega) hn
  exact_mod_cast this
 exact Int.lt_of_lt_of_le h.1 this
def BR(i:Nat):Bool:=match(wj (i:Int))with
 |.ofNat n=>decide ((i:Int)<2^n)&&(Nat.beq n 0||decide ((2:Int)^(n-1)<=i))&&decide (n<=8)
 |_=>false
theorem S2(h0:0<=q)(h1:q<256):∃n:Nat,wj q=n/\KN q n/\n<=8:=by
 have all:List.all (cW 256) BR=true:=by kernel_rfl
 have:=List.all_eq_true.1 all q.toNat (List.mem_range.2 (by omega))
 have hq:((q.toNat:Nat):Int)=q:=by omega
 unfold BR at this
 rw[hq]at this
 split at this
 ·rename_i n hn
  simp only[aE,aT,decide_eq_true_eq]at this
  refine⟨n,hn,⟨this.1.1,?_⟩,this.2⟩
  rcases this.1.2 with h|h
  ·exact .inl (bE h)
  ·exact .inr h
 ·cases this
theorem xaD(h:U x)(hx:16777216<=x):wj x=24+wj (x/16777216):=by
 obtain⟨h0,h1⟩:=h
 have AT:bc .u32 x 16=x/65536:=DB 16 (by omega)
 have ui:bc .u32 (x/65536) 8=x/16777216:=by rw[show((8:Int))=((8:Nat):Int) from rfl,DB 8 (by omega)];omega
 have d1:decide (x>=65536)=true:=dY (by omega)
 have d2:decide (x/65536>=256)=true:=dY (by omega)
 have d3:decide (x/16777216>=65536)=false:=dN (by omega)
 have d4:decide (x/16777216>=256)=false:=dN (by omega)
 have u:u8.wrap (x/16777216)=x/16777216:=by rw[wrap_u8];omega
 simp only[wj,DC,Tree.m,AT,ui,d1,d2,d3,d4,u,cond_true,cond_false]
 generalize(aV _ (dA (x/16777216)) (0:UInt8))=b
 have hb:=dP b
 rw[wrap_i64,wrap_i64,wrap_i64,wrap_i64]
 omega
theorem qaE(h0:65536<=x)(h1:x<16777216):wj x=16+wj (x/65536):=by
 have AT:bc .u32 x 16=x/65536:=DB 16 (by omega)
 have d1:decide (x>=65536)=true:=dY (by omega)
 have d2:decide (x/65536>=256)=false:=dN (by omega)
 have d3:decide (x/65536>=65536)=false:=dN (by omega)
 have u:u8.wrap (x/65536)=x/65536:=by rw[wrap_u8];omega
 simp only[wj,DC,Tree.m,AT,d1,d2,d3,u,cond_true,cond_false]
 generalize(aV _ (dA (x/65536)) (0:UInt8))=b
 have hb:=dP b
 rw[wrap_i64,wrap_i64,wrap_i64]
 omega
theorem NN(h0:256<=x)(h1:x<65536):wj x=8+wj (x/256):=by
 have s8:bc .u32 x 8=x/256:=DB 8 (by omega)
 have d1:decide (x>=65536)=false:=dN (by omega)
 have d2:decide (x>=256)=true:=dY (by omega)
 have d3:decide (x/256>=65536)=false:=dN (by omega)
 have d4:decide (x/256>=256)=false:=dN (by omega)
 have u:u8.wrap (x/256)=x/256:=by rw[wrap_u8];omega
 simp only[wj,DC,Tree.m,s8,d1,d2,d3,d4,u,cond_true,cond_false]
 generalize(aV _ (dA (x/256)) (0:UInt8))=b
 have hb:=dP b
 rw[wrap_i64,wrap_i64,wrap_i64,wrap_i64]
 omega
theorem Zt6(h:U x):∃n:Nat,wj x=n/\KN x n:=by
 obtain⟨h0,h1⟩:=h
 rcases dQ x 256 with a|a
 ·obtain⟨n,e,l,_⟩:=S2 h0 a
  exact⟨n,e,l⟩
 ·rcases dQ x 65536 with b|b
  ·obtain⟨n,e,l,_⟩:=S2 (q:=x/256) (by omega) (by omega)
   exact⟨n+8,by rw[NN a b,e];omega,W0 (k:=8) rfl (by omega) l⟩
  ·rcases dQ x 16777216 with c|c
   ·obtain⟨n,e,l,_⟩:=S2 (q:=x/65536) (by omega) (by omega)
    exact⟨n+16,by rw[qaE b c,e];omega,W0 (k:=16) rfl (by omega) l⟩
   ·obtain⟨n,e,l,_⟩:=S2 (q:=x/16777216) (by omega) (by omega)
    exact⟨n+24,by rw[xaD ⟨h0,h1⟩ c,e];omega,W0 (k:=24) rfl (by omega) l⟩
theorem NO(h:U b.D0):AR b P=true↔b.D0<2^P:=by
 obtain⟨n,e,l⟩:=Zt6 h
 have hp:(if(0:Int)>(P:Int)then(0:Int)else P)=P:=by rw[if_neg (by omega)]
 simp only[AR,Io,Tree.m,ee,e,hp,decide_eq_true_eq]
 constructor
 ·intro h;exact Zos l (by omega)
 ·intro h;have:=vI l h;omega
theorem W3(h:U a)(h1:a<2^P):(dR 32 a).toNat<2^P:=by
 obtain⟨a0,a1⟩:=h
 rw[dS,dH a0 (by omega)]
 have:((2^P:Nat):Int)=(2:Int)^P:=by exact_mod_cast rfl
 omega
theorem NP{a b:Int}(ha:U a)(hb:U b)(hP:P<=32)(h1:a<2^P)(h2:b<2^P):iM .u32 a b<2^P:=by
 have e:(dR 32 a|||dR 32 b).toNat<2^P:=by
  rw[dT]
  exact Nat.or_lt_two_pow (W3 ha h1) (W3 hb h2)
 have hc:((2^P:Nat):Int)=(2:Int)^P:=by exact_mod_cast rfl
 have l:=(dR 32 a|||dR 32 b).isLt
 show wrap .u32 ((dR 32 a|||dR 32 b).toNat:Int)<2^P
 rw[wrap_u32]
 omega
theorem zai{a b:Int}(ha:U a)(h1:a<2^P):oJ .u32 a b<2^P:=by
 have e:(dR 32 a&&&~~~dR 32 b).toNat<2^P:=by
  rw[dU]
  exact Nat.lt_of_le_of_lt dV (W3 ha h1)
 have hc:((2^P:Nat):Int)=(2:Int)^P:=by exact_mod_cast rfl
 have l:=(dR 32 a&&&~~~dR 32 b).isLt
 show wrap .u32 ((dR 32 a&&&~~~dR 32 b).toNat:Int)<2^P
 rw[wrap_u32]
 omega
theorem qg(h0:0<=v)(h1:v<32):eu .u32 1 v=2^v.toNat:=by
 have e:min v.toNat u32.bits=v.toNat:=by show min v.toNat 32=v.toNat;omega
 obtain⟨n,rfl⟩:∃n:Nat,v=n:=⟨v.toNat,by omega⟩
 have hn:n<32:=by omega
 have bh:(2:Nat)^n<4294967296:=by
  have:=dW (show 1<2 by omega) hn
  simpa using this
 have hc:((2^n:Nat):Int)=(2:Int)^n:=by exact_mod_cast rfl
 unfold eu
 rw[e,wrap_u32,Int.one_mul,dX,<-hc]
 clear hc e
 generalize(2:Nat)^n=z at*
 omega
def BS(P:Nat)(b b':gm):Prop:=okB b'/\(AR b P=true->AR b' P=true)
theorem Zrz{m:List Int}(h:ep P m)(hb:okB b)(port:Int)(hv:U v):(DD b m port v).w (λr=>BS P b r.1/\ep P r.2):=by
 have jn:kF m=m:=rfl
 have h2:=h.p2
 have hp:=ug h
 have dv:(Tree.an (nP m) (.lv (kF m) λx=>.lf (b,x))).w (λr=>BS P b r.1/\ep P r.2):=c6 (Gt h) (aq λx hx=>by rw[jn]at hx;subst hx;exact⟨⟨hb,λh=>h⟩,h⟩)
 unfold DD
 refine ab (λ_=>dv) λbh=>ax (dY hv.1) (ab (λ_=>aq λx1 hx=>ab (λIp=>ab (λ_=>c6 ⟨by decide,by decide,by decide⟩ (aq λx2 _=>cv (zf h _ _) λx3 ⟨h3,_⟩=>?_)) (λ_=>dv)) (λ_=>dv)) (λ_=>ab (λ_=>c6 (Gt h) (aq λx hx=>?_)) (λ_=>dv)))
 ·have bh:=oN bh
  have Ip:=oY Ip
  rw[hx,hp]at Ip
  obtain⟨v0,v1⟩:=hv
  have ev:i64.wrap v=v:=by rw[wrap_i64];omega
  rw[ev]at Ip
  refine⟨⟨⟨hb.1,fp _⟩,λhm=>?_⟩,h3⟩
  rw[NO hb.2]at hm
  rw[NO (fp _)]
  have hs:eu .u32 1 v<2^P:=by
   rw[qg v0 (by omega)]
   have:=dW (show 1<2 by omega) (show v.toNat<P by omega)
   exact_mod_cast this
  exact NP hb.2 (fp _) h2 hm hs
 ·rw[jn]at hx;subst hx
  refine⟨⟨⟨hb.1,fp _⟩,λhm=>?_⟩,h⟩
  rw[NO hb.2]at hm
  rw[NO (fp _)]
  exact zai hb.2 hm
structure kept(P:Nat)(m n:bg):Prop where
 ok:Ai P n
 dev:wg m=true->wg n=true
 oh:n.B2=m.B2
 tw:n.B7=m.B7
 wait:n.B4=m.B4
 halt:n.B6=m.B6
theorem Zii{m:bg}(h:Ai P m):kept P m m:=⟨h,λh=>h,rfl,rfl,rfl,rfl⟩
theorem Iq{m n:bg}(hm:ep P m.Mem)(hn:ep P n.Mem)(hc:AP m.B3=true->AP n.B3=true)(ht:AQ m.B9=true->AQ n.B9=true)
 (hd:ra m.B5 P=true->ra n.B5 P=true) (hk:wh m.D1 P=true->wh n.D1 P=true) (hb:AR m.A6 P=true->AR n.A6 P=true) (h:wg m=true):wg n=true:=by
 rw[vZ]at h⊢
 rw[ug hm]at h
 rw[ug hn]
 simp only[aE]at h⊢
 exact⟨hc h.1,ht h.2.1,hd h.2.2.1,hk h.2.2.2.1,hb h.2.2.2.2⟩
theorem Zmk{m:bg}(h:Ai P m)(port:Int)(hv:U v)(gk:Int):(KO m port v gk).w (λr=>kept P m r.1/\r.2.length<=1):=by
 have k:=Zii h
 obtain⟨h1,h2,h3,h4,h5,h6⟩:=h
 have id:∀{p:Prop},p->p:=λh=>h
 have D:∀(x:fv×List iq),(sx P m.B5 x.1/\x.2.length<=1)->kept P m {B2:=m.B2,Mem:=m.Mem,B3:=m.B3,B9:=m.B9,B5:=x.1,D1:=m.D1,A6:=m.A6,B7:=m.B7,B4:=m.B4,B6:=m.B6}/\x.2.length<=1:=λx hx=>
  ⟨⟨⟨h1,h2,hx.1.1,h4,h5,h6⟩,Iq h2 h2 id id hx.1.2 id id,rfl,rfl,rfl,rfl⟩,hx.2⟩
 have N:∀(x:gz×List iq),(BQ P m.D1 x.1/\x.2.length<=1)->kept P m {B2:=m.B2,Mem:=m.Mem,B3:=m.B3,B9:=m.B9,B5:=m.B5,D1:=x.1,A6:=m.A6,B7:=m.B7,B4:=m.B4,B6:=m.B6}/\x.2.length<=1:=λx hx=>
  ⟨⟨⟨h1,h2,h3,hx.1.1,h5,h6⟩,Iq h2 h2 id id id hx.1.2 id,rfl,rfl,rfl,rfl⟩,hx.2⟩
 have B:∀(x:gm×List Int),(BS P m.A6 x.1/\ep P x.2)->kept P m {B2:=m.B2,Mem:=x.2,B3:=m.B3,B9:=m.B9,B5:=m.B5,D1:=m.D1,A6:=x.1,B7:=m.B7,B4:=m.B4,B6:=m.B6}/\([]:List iq).length<=1:=λx hx=>
  ⟨⟨⟨h1,hx.2,h3,h4,hx.1.1.1,hx.1.1.2⟩,Iq h2 hx.2 id id id id hx.1.2,rfl,rfl,rfl,rfl⟩,bC _⟩
 unfold KO
 repeat'(first
  |exact⟨k,aX _⟩
  |exact⟨k,bC _⟩
  |exact aq λx hx=>⟨⟨⟨h1,h2,h3,h4,h5,h6⟩,Iq h2 h2 id (λ_=>by rw[hx];exact qai _ _) id id id,rfl,rfl,rfl,rfl⟩,bC _⟩
  |exact cv (xah h2 h3 _ hv _) λx hx=>D x hx
  |exact cv (zaD h2 h4 _ hv _) λx hx=>N x hx
  |exact cv (Zrz h2 ⟨h5,h6⟩ _ hv) λx hx=>B x hx
  |refine ab (λ_=>?_) (λ_=>?_))
theorem Zbv(c:iH)(port:Int):(Ir c port).w (λr=>U r.2/\(AP c=true->AP r.1=true)):=by
 have u1:U 4294967295:=⟨by omega,by omega⟩
 unfold Ir
 refine ab (λ_=>ab (λ_=>⟨u1,λh=>h⟩) (λhb=>ax ?_ (ax ?_ ⟨fp _,λhm=>?_⟩))) (λ_=>ab (λ_=>⟨fp _,λh=>h⟩) (λ_=>⟨gj,λh=>h⟩))
 ·have hb:=oN hb
  have:0<c.E0.length:=List.length_pos_iff.2 hb
  simp[bN];omega
 ·have hb:=oN hb
  have:0<c.E0.length:=List.length_pos_iff.2 hb
  exact dY (by omega)
 ·have hm:decide ((c.E0.length:Int)<=16)=true:=hm
  have hm:=oY hm
  show decide (((cU _ (cV _ c.E0)).length:Int)<=16)=true
  refine dY ?_
  rw[aD,aG];omega
theorem Zrv{m:bg}(h:Ai P m)(port:Int)(hc:U clock):(KP m port clock).w (λr=>kept P m r.1/\U r.2):=by
 have k:=Zii h
 obtain⟨h1,h2,h3,h4,h5,h6⟩:=h
 have id:∀{p:Prop},p->p:=λh=>h
 have ti:∀t,U (W4 t):=λt=>by
  refine Tree.post (S3 t) (W:=U) ?_
  unfold S3
  exact ab (λ_=>⟨by omega,by omega⟩) (λ_=>gj)
 have di:∀p,U (NQ m.B5 p):=λp=>by
  refine Tree.post (S4 m.B5 p) (W:=U) ?_
  unfold S4
  exact ab (λ_=>h3.block) (λ_=>ab (λ_=>h3.frame) (λ_=>ab (λ_=>fp _) (λ_=>gj)))
 have ni:∀p,U (KQ m.D1 p):=λp=>by
  refine Tree.post (NR m.D1 p) (W:=U) ?_
  unfold NR
  exact ab (λ_=>h4.frame) (λ_=>ab (λ_=>h4.Gw) (λ_=>ab (λ_=>ab (λ_=>ab (λ_=>fp _) (λ_=>fp _)) (λ_=>ab (λ_=>fp _) (λ_=>gj))) (λ_=>gj)))
 have bi:∀p,(KR m.A6 p).w U:=λp=>by
  unfold KR
  exact ab (λ_=>h5) (λ_=>ab (λ_=>cv (Zpw h6) λ_ _=>fp _) (λ_=>gj))
 have C:∀(x:iH×Int),(U x.2/\(AP m.B3=true->AP x.1=true))->kept P m {B2:=m.B2,Mem:=m.Mem,B3:=x.1,B9:=m.B9,B5:=m.B5,D1:=m.D1,A6:=m.A6,B7:=m.B7,B4:=m.B4,B6:=m.B6}/\U x.2:=λx hx=>
  ⟨⟨⟨h1,h2,h3,h4,h5,h6⟩,Iq h2 h2 hx.2 id id id id,rfl,rfl,rfl,rfl⟩,hx.1⟩
 unfold KP
 repeat'(first
  |exact⟨k,hc⟩
  |exact⟨k,gj⟩
  |exact cv (Zbv _ _) λx hx=>C x hx
  |exact SU (Zbv _ _) λx hx=>C x hx
  |exact aq λx hx=>⟨k,by rw[hx];exact ti _⟩
  |exact aq λx hx=>⟨k,by rw[hx];exact di _⟩
  |exact aq λx hx=>⟨k,by rw[hx];exact ni _⟩
  |exact cv (bi _) λx hx=>⟨k,hx⟩
  |refine ab (λ_=>?_) (λ_=>?_))
structure nh(c:bu):Prop where
 x0:c.X.a0=0
 st:c.C3.a0<=31
 en:c.C3.a7<=31
 rt:c.C3.a6<=255
 ve:cZ c.C3.a1 4=0
theorem nh.pc(h:nh c)(p:Int):nh {X:=c.X,Pc:=p,C3:=c.C3}:=⟨h.x0,h.st,h.en,h.rt,h.ve⟩
theorem Gx(a:Int):bb .u32 a 31<=31:=by
 have e:(dR 32 a&&&dR 32 31).toNat<=31:=by
  rw[dU]
  exact Nat.le_trans Nat.and_le_right (by decide)
 show wrap .u32 ((dR 32 a&&&dR 32 31).toNat:Int)<=31
 rw[wrap_u32];omega
theorem EA(a:Int):bb .u32 a 255<=255:=by have:=BT a;omega
theorem NS(a:Int):cZ (oJ .u32 a 3) 4=0:=by
 have e:(dR 32 a&&&~~~dR 32 3).toNat%4=0:=by
  rw[dU,show(~~~dR 32 3).toNat=4294967292 by decide]
  have:=Nat.and_mod_two_pow (a:=(dR 32 a).toNat) (b:=4294967292) (n:=2)
  simpa using this
 have l:=(dR 32 a&&&~~~dR 32 3).isLt
 show cZ (wrap .u32 ((dR 32 a&&&~~~dR 32 3).toNat:Int)) 4=0
 rw[wrap_u32,dZ (by omega)]
 omega
theorem Gy{f:Int->Int}(h:(cW 32).all (λn=>decide (f n<=31))=true){s:Int}(h0:0<=s)(h1:s<=31):f s<=31:=by
 have:=List.all_eq_true.1 h s.toNat (List.mem_range.2 (by omega))
 have e:((s.toNat:Nat):Int)=s:=by omega
 rw[e]at this
 exact oY this
theorem Is(h:iQ c)(m:nh c)(k b:Int):nh (rb c k b):=
 ⟨m.x0,Gy (f:=λs=>oJ .u32 (iM .u32 (Aj (Aj s 1 8) 2 16) 1) 2) (by kernel_rfl) h.a0.1 m.st,m.en,m.rt,m.ve⟩
theorem Zt3(h:iQ c)(m:nh c):nh (KS c):=
 ⟨m.x0,Gy (f:=λs=>Aj (Aj s 8 1) 16 2) (by kernel_rfl) h.a0.1 m.st,m.en,m.rt,m.ve⟩
theorem KT(m:nh c)(hr:0<=r/\r<16)(v:Int):(EB c r v).w nh:=by
 unfold EB
 refine ab (λhn=>ax (rc hr) ?_) (λ_=>m)
 have hn:r≠0:=by simpa using hn
 obtain⟨n,e⟩:∃n:Nat,r.toNat=n+1:=⟨r.toNat-1,by omega⟩
 refine⟨?_,m.st,m.en,m.rt,m.ve⟩
 show(ir.of 0 (dB (ir.l c.X) r.toNat v)).a0=0
 rw[e]
 exact m.x0
theorem xg(m:nh c)(k v:Int):(It c k v).w nh:=by
 unfold It
 refine ab (λhk=>ax (by rw[eq_of_beq hk];decide) ?_) λ_=>ab (λhk=>ax (by rw[eq_of_beq hk];decide) ?_) λ_=>ab (λhk=>ax (by rw[eq_of_beq hk];decide) ?_) λ_=>ab (λhk=>ax (by rw[eq_of_beq hk];decide) ?_) λ_=>ab (λhk=>ax (by rw[eq_of_beq hk];decide) ?_) λ_=>ab (λhk=>ax (by rw[eq_of_beq hk];decide) ?_) λ_=>ab (λhk=>ax (by rw[eq_of_beq hk];decide) ?_) λ_=>ab (λhk=>ax (by rw[eq_of_beq hk];decide) ?_) (λ_=>m)
 all_goals(have hk:=eq_of_beq hk;subst hk)
 ·exact⟨m.x0,Gx _,m.en,m.rt,m.ve⟩
 ·exact⟨m.x0,m.st,Gx _,m.rt,m.ve⟩
 ·exact⟨m.x0,m.st,m.en,EA _,m.ve⟩
 ·exact⟨m.x0,m.st,m.en,m.rt,NS _⟩
 ·exact⟨m.x0,m.st,m.en,m.rt,m.ve⟩
 ·exact⟨m.x0,m.st,m.en,m.rt,m.ve⟩
 ·exact⟨m.x0,m.st,m.en,m.rt,m.ve⟩
 ·exact⟨m.x0,m.st,m.en,m.rt,m.ve⟩
section
variable {c:bu} (h:iQ c) (m:nh c) {i:ib} (hi:sA i)
include h m hi
theorem Zn:(EC c i).w (λr=>nh r.1):=by
 unfold EC
 refine ax (rc hi.a) (ax (rc hi.b) ?_)
 repeat'(first
  |refine ab (λ_=>?_) (λ_=>?_)
  |exact cv (KT m hi.a _) λx hx=>hx.pc _
  |exact aq λx _=>ab (λ_=>m.pc _) (λ_=>m.pc _)
  |exact aq λx hx=>by rw[hx];exact Is h m _ _
  |exact aq λx hx=>by rw[hx];exact Zt3 h m
  |exact ax (by have:=hi.jr (by simp_all);simp[bN];omega) (cv (KT m hi.a _) λx hx=>hx.pc _)
  |exact cv (xg m _ _) λx hx=>hx.pc _
  |refine ax (rc hi.c) ?_
  |exact cv (KU _ (h.r _) (fp _)) λy hy=>cv (KT m hi.a _) λx hx=>hx.pc _
  |exact cv (KU _ (h.r _) (h.r _)) λy hy=>cv (KT m hi.a _) λx hx=>hx.pc _
  |refine bj ?_)
 all_goals exact m.pc _
theorem qJ(hm:ep P mem):(Iu c mem i).w (λr=>nh r.1):=by
 have w:=S5 i.Op
 unfold Iu
 refine ax (rc hi.b) (aq λx0 h0=>?_)
 rw[<-h0]at w
 refine cv (NT hm (fp _) w 2) λx1 h1=>ab (λ_=>aq λy hy=>by rw[hy];exact Is h m _ _) (λ_=>aq λx3 h3=>?_)
 rw[h0,<-h3]at w
 exact cv (Iv h1.2 h1.1 w) λx4 h4=>ab (λ_=>cv (Z0 h4.1 8) λy hy=>cv (KT m hi.a _) λx hx=>hx.pc _) (λ_=>cv (KT m hi.a _) λx hx=>hx.pc _)
theorem zg(hm:ep P mem):(Iw c mem i).w (λr=>nh r.1):=by
 have w:=S5 i.Op
 unfold Iw
 refine ax (rc hi.b) (aq λx0 h0=>?_)
 rw[<-h0]at w
 refine cv (NT hm (fp _) w 3) λx1 h1=>ab (λ_=>aq λy hy=>by rw[hy];exact Is h m _ _) (λ_=>aq λx3 h3=>ax (rc hi.a) ?_)
 rw[h0,<-h3]at w
 exact cv (S6 h1.2 h1.1 w (h.r _)) λx hx=>m.pc _
end
theorem xJ(h:iQ c)(m:nh c)(hm:ep P mem):(ED c mem).w (λr=>nh r.1):=by
 unfold ED
 refine cv (W5 hm h) λx0 h0=>ab (λ_=>aq λy hy=>by rw[hy];exact Is h m _ _) (λ_=>cv (W6 _) λx2 h2=>ab (λ_=>aq λy hy=>by rw[hy];exact Is h m _ _) (λhb=>?_))
 have hi:=h2 (by simpa using hb)
 refine aq λx4 _=>?_
 repeat'(first
  |refine ab (λ_=>?_) (λ_=>?_)
  |exact cv (qJ h m hi h0.2) λx hx=>hx
  |exact cv (zg h m hi h0.2) λx hx=>hx
  |exact cv (Zn h m hi) λx hx=>hx
  |exact aq λy hy=>by rw[hy];exact Is h m _ _
  |refine aq λ_ _=>?_)
theorem Zp1(h:iQ c){i:ib}(hi:sA i):(EC c i).w (λr=>0<=r.2.F9/\r.2.F9<16):=by
 have z:(0:Int)<=0/\(0:Int)<16:=⟨by decide,by decide⟩
 unfold EC
 refine ax (rc hi.a) (ax (rc hi.b) ?_)
 repeat'(first
  |refine ab (λ_=>?_) (λ_=>?_)
  |exact cv (DE h hi.a (fp _)) λx hx=>z
  |exact aq λx _=>ab (λ_=>z) (λ_=>z)
  |exact aq λx hx=>z
  |exact ax (by have:=hi.jr (by simp_all);simp[bN];omega) (cv (DE h hi.a (h.a _)) λx hx=>z)
  |exact cv (Zqo h _ (h.r _)) λx hx=>z
  |refine ax (rc hi.c) ?_
  |exact cv (KU _ (h.r _) (fp _)) λy hy=>cv (DE h hi.a hy) λx hx=>z
  |exact cv (KU _ (h.r _) (h.r _)) λy hy=>cv (DE h hi.a hy) λx hx=>z
  |refine bj ?_)
 all_goals first|exact z|exact hi.a
theorem Zpe(h:iQ c)(hm:ep P mem):(ED c mem).w (λr=>0<=r.2.2.F9/\r.2.2.F9<16):=by
 have z:(0:Int)<=0/\(0:Int)<16:=⟨by decide,by decide⟩
 unfold ED
 refine cv (W5 hm h) λx0 h0=>ab (λ_=>aq λy hy=>z) (λ_=>cv (W6 _) λx2 h2=>ab (λ_=>aq λy hy=>z) (λhb=>?_))
 have hi:=h2 (by simpa using hb)
 refine aq λx4 _=>?_
 repeat'(first
  |refine ab (λ_=>?_) (λ_=>?_)
  |exact cv (Z56 h hi h0.2) λx hx=>z
  |exact cv (Z2l h hi h0.2) λx hx=>z
  |exact cv (Zp1 h hi) λx hx=>hx
  |exact aq λy hy=>z
  |refine aq λ_ _=>?_)
theorem mQ{a x:Bool}:(bif a then false else x)=true↔a=false/\x=true:=by cases a<;>simp
theorem KV(m:bg):AS m=true↔jU m.Mem≠0/\nh m.B2/\m.B7<=1152921504606846976/\¬(m.B4=true/\m.B6=true)/\wg m=true:=by
 rw[xaC]
 unfold NH chain
 rw[mQ,mQ,mQ,mQ,mQ,mQ,mQ]
 simp only[decide_eq_false_iff_not,Int.not_lt,beq_eq_false_iff_ne,bne_eq_false_iff_eq,gt_iff_lt]
 constructor
 ·rintro⟨a1,a2,a3,a4,a5,a6,a7,a8⟩
  refine⟨a1,⟨a2,a3,a4,a5,a6⟩,a7,?_,?_⟩
  ·rintro⟨w,h⟩;rw[w,h]at a8;cases a8
  ·revert a8;cases m.B4
   ·exactλh=>h
   ·cases m.B6
    ·exactλh=>h
    ·intro h;cases h
 ·rintro⟨a1,⟨a2,a3,a4,a5,a6⟩,a7,a8,a9⟩
  refine⟨a1,a2,a3,a4,a5,a6,a7,?_⟩
  rw[a9]
  cases hw:m.B4
  ·rfl
  ·cases hh:m.B6
   ·rfl
   ·exact absurd ⟨hw,hh⟩ a8
theorem Zpk{m:bg}(h:EE m=true):AS m=true/\m.B6=false/\m.B7<1152921504606846976:=by
 simp only[EE,Ix,Tree.m,ee]at h
 cases h1:AS m
 ·rw[h1]at h;cases h
 ·cases h2:m.B6
  ·rw[h1,h2]at h
   cases h3:S7 m
   ·rw[h3]at h
    have h:decide (m.B7<1152921504606846976)=true:=h
    exact⟨rfl,rfl,oY h⟩
   ·rw[h3]at h;cases h
  ·rw[h1,h2]at h;cases h
theorem Zln{m:bg}(h:Ai P m)(g:nh m.B2):(Q8 m).w (λr=>nh r.B2/\Ai P r/\r.Mem=m.Mem/\r.B4=false/\r.B6=m.B6/\r.B7=m.B7/\r.B3=m.B3/\r.B9=m.B9/\r.B5=m.B5/\r.D1=m.D1/\r.A6=m.A6):=by
 obtain⟨h1,h2,h3,h4,h5,h6⟩:=h
 unfold Q8
 refine ab (λ_=>⟨g,⟨h1,h2,h3,h4,h5,h6⟩,rfl,rfl,rfl,rfl,rfl,rfl,rfl,rfl,rfl⟩) (λ_=>cv (Zbo (m:=⟨_,_,_,_,_,_,m.A6,_,_,_⟩) h6) λx0 _=>fj (inv:=λz=>0<=z/\z<=5) (μ:=Qjy m) ⟨by omega,by omega⟩ (cN _) (λz hz=>?_))
 obtain⟨z1,z2⟩:=hz
 refine ab (λhb=>ax (dY z1) (ab (λ_=>aq λx1 hx=>⟨by rw[hx];exact Is h1 g _ _,⟨by rw[hx];exact Iy h1 _ gj,h2,h3,h4,h5,h6⟩,rfl,rfl,rfl,rfl,rfl,rfl,rfl,rfl,rfl⟩) (λ_=>ei ?_))) (λ_=>⟨g,⟨h1,h2,h3,h4,h5,h6⟩,rfl,rfl,rfl,rfl,rfl,rfl,rfl,rfl,rfl⟩)
 have hb:=oY hb
 show(0<=i64.wrap (z+1)/\i64.wrap (z+1)<=5)/\(5-i64.wrap (z+1)).toNat<(5-z).toNat
 have ew:i64.wrap (z+1)=z+1:=by rw[wrap_i64];omega
 rw[ew];omega
structure Good(P:Nat)(m r:bg):Prop where
 ok:Ai P r
 tw:0<=r.B7
 may:AS m=true->AS r=true
 or:r=m\/r.B7=m.B7+1
theorem W7{m:bg}(h:Ai P m)(Gm:0<=m.B7)(hk:U clock):(NU m clock).w (λr=>r.2.length<=1/\Good P m r.1):=by
 have jn:kF m.Mem=m.Mem:=rfl
 unfold NU
 refine c6 (Gt h.mem) (aq λl hl=>?_)
 rw[jn]at hl;subst hl
 refine c6 (Tree.pp (zay (m:=⟨_,_,_,_,_,_,m.A6,_,_,_⟩) h.given)).1 (aq λx1 o7=>ab (λ_=>⟨bC _,h,Gm,λh=>h,.inl rfl⟩) (λhb=>?_))
 have hr:EE m=true:=by rw[<-show x1=EE m from o7];simpa using hb
 obtain⟨hm,hh,hct⟩:=Zpk hr
 obtain⟨g1,g2,g3,g4,g5⟩:=(KV m).1 hm
 have hP:(P:Int)≠0:=by rw[<-ug h.mem];exact g1
 have fin:∀(n:bg),Ai P n->nh n.B2->wg n=true->n.B7=m.B7->¬(n.B4=true/\n.B6=true)->Good P m {B2:=n.B2,Mem:=n.Mem,B3:=n.B3,B9:=n.B9,B5:=n.B5,D1:=n.D1,A6:=n.A6,B7:=wrap .u64 (n.B7+1),B4:=n.B4,B6:=n.B6}:=λn a b c d e=>by
  have ec:wrap .u64 (n.B7+1)=m.B7+1:=by rw[d,wrap_u64];omega
  refine⟨⟨a.oh,a.mem,a.mn,a.wm,a.target,a.given⟩,?_,λ_=>(KV _).2 ⟨?_,b,?_,e,c⟩,.inr ec⟩
  ·show 0<=wrap .u64 (n.B7+1);omega
  ·show jU n.Mem≠0;rw[ug a.mem];exact hP
  ·show wrap .u64 (n.B7+1)<=_;omega
 refine cv (Zln (m:=⟨_,_,m.B3,m.B9,m.B5,m.D1,m.A6,m.B7,m.B4,m.B6⟩) ⟨h.oh,h.mem,h.mn,h.wm,h.target,h.given⟩ g2) λx2 Iz=>?_
 obtain⟨b1,b2,b3,b4,b5,b6,b7,b8,b9,b10,b11⟩:=Iz
 have ex:=Tree.pp (xax b2.oh b2.mem)
 have em:=Tree.pp (xJ b2.oh b1 b2.mem)
 have er:=Tree.pp (Zpe b2.oh b2.mem)
 refine c6 ex.1 (aq λx3 h3=>?_)
 obtain⟨e1,e2,e3⟩:iQ x3.1/\ep P x3.2.1/\U x3.2.2.Value:=by rw[h3];exact ex.2
 have f1:nh x3.1:=by rw[h3];exact em.2
 have r1:0<=x3.2.2.F9/\x3.2.2.F9<16:=by rw[h3];exact er.2
 have W8:Ai P ⟨x3.1,x3.2.1,x2.B3,x2.B9,x2.B5,x2.D1,x2.A6,x2.B7,x2.B4,x2.B6⟩:=⟨e1,e2,b2.mn,b2.wm,b2.target,b2.given⟩
 have dev:∀(w h:Bool),wg ⟨x3.1,x3.2.1,x2.B3,x2.B9,x2.B5,x2.D1,x2.A6,x2.B7,w,h⟩=true:=λw hh=>by
  have id:∀{p:Prop},p->p:=λh=>h
  refine Iq (m:=m) (P:=P) h.mem e2 ?_ ?_ ?_ ?_ ?_ g5
  ·show _->AP x2.B3=true;rw[b7];exact id
  ·show _->AQ x2.B9=true;rw[b8];exact id
  ·show _->ra x2.B5 P=true;rw[b9];exact id
  ·show _->wh x2.D1 P=true;rw[b10];exact id
  ·show _->AR x2.A6 P=true;rw[b11];exact id
 have hw:x2.B4=false:=b4
 have hh2:x2.B6=false:=b5.trans hh
 have BU:x2.B7=m.B7:=b6
 refine ab (λ_=>?_) λ_=>ab (λ_=>?_) λ_=>ab (λ_=>?_) λ_=>ab (λ_=>?_) λ_=>?_
 ·refine cv (Zrv W8 _ hk) λx4 h4=>?_
  obtain⟨k,u⟩:=h4
  have kc:x4.1.B2=x3.1:=k.oh
  have kt:x4.1.B7=m.B7:=k.tw.trans BU
  have kw:¬(x4.1.B4=true/\x4.1.B6=true):=λe=>by have:x4.1.B4=x2.B4:=k.wait;rw[this,hw]at e;cases e.1
  have km:nh x4.1.B2:=by rw[kc];exact f1
  refine ab (λhn=>ax (rc r1) ⟨bC _,?_⟩) (λ_=>⟨bC _,fin x4.1 k.ok km (k.dev (dev _ _)) kt kw⟩)
  have hn:x3.2.2.F9≠0:=by simpa using hn
  obtain⟨q,e⟩:∃q:Nat,x3.2.2.F9.toNat=q+1:=⟨x3.2.2.F9.toNat-1,by omega⟩
  refine fin ⟨⟨ir.of 0 (dB (ir.l x4.1.B2.X) x3.2.2.F9.toNat x4.2),x4.1.B2.Pc,x4.1.B2.C3⟩,x4.1.Mem,x4.1.B3,x4.1.B9,x4.1.B5,x4.1.D1,x4.1.A6,x4.1.B7,x4.1.B4,x4.1.B6⟩ ⟨⟨W9 k.ok.oh.x u _,k.ok.oh.pc,k.ok.oh.jr⟩,k.ok.mem,k.ok.mn,k.ok.wm,k.ok.target,k.ok.given⟩ ⟨?_,km.st,km.en,km.rt,km.ve⟩ (k.dev (dev _ _)) kt kw
  show(ir.of 0 (dB (ir.l x4.1.B2.X) x3.2.2.F9.toNat x4.2)).a0=0
  rw[e]
  exact km.x0
 ·refine cv (Zmk W8 _ e3 _) λx5 h5=>?_
  obtain⟨k,u⟩:=h5
  have kc:x5.1.B2=x3.1:=k.oh
  exact⟨u,fin x5.1 k.ok (by rw[kc];exact f1) (k.dev (dev _ _)) (k.tw.trans BU) (λe=>by have:x5.1.B4=x2.B4:=k.wait;rw[this,hw]at e;cases e.1)⟩
 ·exact⟨bC _,fin ⟨x3.1,x3.2.1,x2.B3,x2.B9,x2.B5,x2.D1,x2.A6,x2.B7,true,x2.B6⟩ ⟨e1,e2,b2.mn,b2.wm,b2.target,b2.given⟩ f1 (dev _ _) BU (λe=>by have e2:x2.B6=true:=e.2;rw[hh2]at e2;cases e2)⟩
 ·exact⟨bC _,fin ⟨x3.1,x3.2.1,x2.B3,x2.B9,x2.B5,x2.D1,x2.A6,x2.B7,x2.B4,true⟩ ⟨e1,e2,b2.mn,b2.wm,b2.target,b2.given⟩ f1 (dev _ _) BU (λe=>by have e2:x2.B4=true:=e.1;rw[hw]at e2;cases e2)⟩
 ·exact⟨bC _,fin ⟨x3.1,x3.2.1,x2.B3,x2.B9,x2.B5,x2.D1,x2.A6,x2.B7,x2.B4,x2.B6⟩ W8 f1 (dev _ _) BU (λe=>by have e2:x2.B4=true:=e.1;rw[hw]at e2;cases e2)⟩
theorem S8(h:U a):(dR 32 a).toNat=a.toNat:=by
 obtain⟨h1,h2⟩:=h
 rw[dS];omega
theorem Xa{a b:Int}(ha:U a)(hb:U b):bb .u32 a b=((a.toNat&&&b.toNat:Nat):Int):=by
 have l:=(dR 32 a&&&dR 32 b).isLt
 have e:(dR 32 a&&&dR 32 b).toNat=a.toNat&&&b.toNat:=by rw[dU,S8 ha,S8 hb]
 show wrap .u32 ((dR 32 a&&&dR 32 b).toNat:Int)=_
 rw[wrap_u32,<-e];omega
theorem zaE{a b:Int}(ha:U a)(hb:U b):iM .u32 a b=((a.toNat|||b.toNat:Nat):Int):=by
 have l:=(dR 32 a|||dR 32 b).isLt
 have e:(dR 32 a|||dR 32 b).toNat=a.toNat|||b.toNat:=by rw[dT,S8 ha,S8 hb]
 show wrap .u32 ((dR 32 a|||dR 32 b).toNat:Int)=_
 rw[wrap_u32,<-e];omega
theorem Xb(ha:U a)(k:Nat)(hk:k<=32)(hq:q=((2^k-1:Nat):Int)):bb .u32 a q=a%2^k:=by
 have hp:2^k<=2^32:=dO (by decide) hk
 have h1:(2:Nat)^32=4294967296:=by decide
 have uj:=Nat.two_pow_pos k
 subst hq
 rw[Xa ha ⟨by omega,by omega⟩,dX,Nat.and_two_pow_sub_one_eq_mod]
 have:=ha.1
 rw[Int.natCast_emod,eA this]
 simp
theorem m15(ha:U a):bb .u32 a 15=a%16:=Xb ha 4 (by decide) rfl
theorem BV(ha:U a):bb .u32 a 255=a%256:=Xb ha 8 (by decide) rfl
theorem IA(ha:U a):bb .u32 a 65535=a%65536:=Xb ha 16 (by decide) rfl
theorem EF(p:Int->Bool)(N:Nat)(h:(cW N).all (λn=>p n)=true){s:Int}(h0:0<=s)(h1:s<N):p s=true:=by
 have:=List.all_eq_true.1 h s.toNat (List.mem_range.2 (by omega))
 rwa [eA h0]at this
theorem H7(h0: -9223372036854775808<=x)(h1:x<9223372036854775808):wrap .i64 x=x:=by rw[wrap_i64];omega
theorem NV(a:Int):bc .u32 a 0=a:=by have:=DB (a:=a) 0 (by decide);simpa using this
theorem fld(w:Int):tz w 24 8=bb .u32 (bc .u32 w 24) 255/\tz w 20 4=bb .u32 (bc .u32 w 20) 15/\tz w 16 4=bb .u32 (bc .u32 w 16) 15/\tz w 0 16=bb .u32 (bc .u32 w 0) 65535/\tz w 8 8=bb .u32 (bc .u32 w 8) 255:=
 ⟨by kernel_rfl,by kernel_rfl,by kernel_rfl,by kernel_rfl,by kernel_rfl⟩
def BW(f:Int):w4×Bool:=
 bif f==1 then(⟨false,false,false,0,0⟩,true)else bif f==2 then(⟨true,true,true,0,0⟩,true)else bif f==3 then(⟨true,true,false,-32768,32767⟩,true)
 else bif f==4 then(⟨true,true,false,0,65535⟩,true)else bif f==5 then(⟨true,true,false,0,31⟩,true)else bif f==6 then(⟨true,false,false,0,65535⟩,true)
 else bif f==7 then(⟨true,false,false,-32768,32767⟩,true)else bif f==8 then(⟨true,false,false,0,7⟩,true)else bif f==9 then(⟨true,false,false,0,11⟩,true)else(⟨false,false,false,0,0⟩,false)
def BX(x y:w4×Bool):Bool:=x.1.a==y.1.a&&x.1.b==y.1.b&&x.1.c==y.1.c&&x.1.low==y.1.low&&x.1.F5==y.1.F5&&x.2==y.2
theorem zJ{x y:w4×Bool}(h:BX x y=true):x=y:=by
 obtain⟨⟨a,b,c,d,e⟩,f⟩:=x
 obtain⟨⟨a',b',c',d',e'⟩,f'⟩:=y
 simp only[BX,aE,beq_iff_eq]at h
 obtain⟨⟨⟨⟨⟨rfl,rfl⟩,rfl⟩,rfl⟩,rfl⟩,rfl⟩:=h
 rfl
theorem y0(h0:0<=op)(h1:op<256):S9 op=BW (oK op):=by
 exact zJ (EF (λop=>BX (S9 op) (BW (oK op))) 256 (by kernel_rfl) h0 h1)
theorem yg(h0:0<=op)(h1:op<256):oK op=0\/oK op=1\/oK op=2\/oK op=3\/oK op=4\/oK op=5\/oK op=6\/oK op=7\/oK op=8\/oK op=9:=by
 have:=oY (EF (λop=>decide (0<=oK op/\oK op<=9)) 256 (by kernel_rfl) h0 h1)
 omega
theorem xai(h0:0<=op)(h1:op<256):NW op=KW op:=by
 exact eq_of_beq (EF (λop=>NW op==KW op) 256 (by kernel_rfl) h0 h1)
theorem yJ{a x y:Bool}:(cond a x y=true)↔((a=true/\x=true)\/(a=false/\y=true)):=by cases a<;>simp
theorem Xc{i:ib}(h0:0<=i.Op)(h1:i.Op<256)(hi:wrap .i64 i.cf=i.cf):IB i=EG i:=by
 rw[eB]
 simp only[IB,NX,Tree.m,ee,EG,NY,y0 h0 h1,hi]
 rcases yg h0 h1 with h|h|h|h|h|h|h|h|h|h<;>rw[h]<;>
 simp[BW,KX,Ta,KY,Tb,Xd,Xe,Tree.m,ee,yJ]<;>omega
theorem Xf(h0:0<=x)(h1:x<65536):wrap .i32 (DF x 16)=wrap .i32 (wrap .i16 x):=by
 have e:DF x 16=wrap .u32 (bc .i32 (wrap .i32 (eu .u32 x 16)) 16):=by kernel_rfl
 have e2:∀y,bc .i32 y 16=y/65536:=λy=>by
  show eC y 65536=_
  rw[dJ _ (by decide)]
 have e3:eu .u32 x 16=wrap .u32 (x*65536):=rfl
 have e4:wrap .i16 x=(x+32768)%65536-32768:=by
  simp[wrap,IntKind.bits,IntKind.signed]
  split<;>omega
 rw[e,e2,e3,e4]
 simp only[wrap_i32,wrap_u32]
 omega
theorem sx8(h0:0<=x)(h1:x<256):DF x 8=Gz x 8:=by
 exact eq_of_beq (EF (λx=>DF x 8==Gz x 8) 256 (by kernel_rfl) h0 h1)
theorem vg(hw:U w):NZ w=AU w:=by
 obtain⟨f1,f2,f3,f4,_⟩:=fld w
 obtain⟨w0,w1⟩:=hw
 have ui:bc .u32 w 24=w/16777216:=by have:=DB (a:=w) 24 (by decide);simpa using this
 have s20:U (bc .u32 w 20):=Ak ⟨w0,w1⟩ _
 have AT:U (bc .u32 w 16):=Ak ⟨w0,w1⟩ _
 rw[BV (Ak ⟨w0,w1⟩ _),ui]at f1
 rw[m15 s20]at f2
 rw[m15 AT]at f3
 rw[NV]at f4
 have g1:w/16777216%256=w/16777216:=by omega
 rw[g1]at f1
 have o0:0<=w/16777216:=by omega
 have o1:w/16777216<256:=by omega
 have eo:wrap .i64 (w/16777216)=w/16777216:=H7 (by omega) (by omega)
 have i32:∀x,wrap .i64 (wrap .i32 x)=wrap .i32 x:=λx=>by rw[wrap_i64,wrap_i32];omega
 have l0:=IA ⟨w0,w1⟩
 have lx:=Xf (x:=bb .u32 w 65535) (by omega) (by omega)
 simp only[NZ,KZ,AU,K0,Tree.m,ee,f1,f2,f3,f4,ui,eo,y0 o0 o1,m15 s20,m15 AT,lx]
 generalize w/16777216=op at*
 generalize wrap .i64 (bc .u32 w 20%16)=a
 generalize wrap .i64 (bc .u32 w 16%16)=b
 generalize bb .u32 w 65535=l
 rw[Xc (i:=⟨op,a,b,wrap .i64 l,0⟩) o0 o1 rfl,Xc (i:=⟨op,a,b,0,wrap .i32 (wrap .i16 l)⟩) o0 o1 (i32 _),Xc (i:=⟨op,a,b,0,wrap .i32 l⟩) o0 o1 (i32 _)]
 rcases yg o0 o1 with h|h|h|h|h|h|h|h|h|h<;>rw[h]<;>rfl
def EH(W v:Int)(s:Nat):Int:=iM .u32 (oJ .u32 W (eu .u32 255 s)) (eu .u32 (bb .u32 v 255) s)
def wo(w:Int)(k:Nat):Int:=if k=0 then w%256 else if k=1 then w/256%256 else if k=2 then w/65536%256 else w/16777216%256
def lD(m:List Int)(a:Nat):Int:=wo (m.getD (a/4) 0) (a%4)
theorem qh(w:Int)(k:Nat):0<=wo w k/\wo w k<256:=by
 unfold wo
 split
 ·omega
 ·split
  ·omega
  ·split<;>omega
theorem qaj(hw:U w)(hv:U v)(h:∀k,k<4->wo w k=wo v k):w=v:=by
 have h0:=h 0 (by omega)
 have h1:=h 1 (by omega)
 have h2:=h 2 (by omega)
 have h3:=h 3 (by omega)
 simp[wo]at h0 h1 h2 h3
 obtain⟨a,b⟩:=hw
 obtain⟨c,d⟩:=hv
 omega
theorem xh{m n:List Int}(hl:m.length=n.length)(hm:∀w∈m,U w)(hn:∀w∈n,U w)(h:∀a,lD m a=lD n a):m=n:=by
 refine bR hl λi h1 h2=>?_
 have e1:m[i]=m.getD i 0:=by simp[aV,h1]
 have e2:n[i]=n.getD i 0:=by simp[aV,h2]
 rw[e1,e2]
 refine qaj (AV hm i) (AV hn i) λk hk=>?_
 have:=h (4*i+k)
 simp only[lD]at this
 rwa [show(4*i+k)/4=i by omega,show(4*i+k)%4=k by omega]at this
theorem Qx{l:List Int}{i:Nat}(h:i<l.length)(v:Int):(l.set i v).getD i 0=v:=by
 simp[aV,h]
theorem zh{m:List Int}{i:Nat}(hi:i<m.length)(v:Int)(a:Nat):lD (m.set i v) a=if a/4=i then wo v (a%4)else lD m a:=by
 unfold lD
 split
 ·rename_i h;rw[h,Qx hi]
 ·rename_i h;rw[we _ _ _ _ (λe=>h e.symm)]
theorem yh{x y:Int}(hx:U x)(hy:U y)(k:Nat)(hk:x<2^k)(h:x+y*2^k<4294967296):iM .u32 x (y*2^k)=x+y*2^k:=by
 obtain⟨n,rfl⟩:∃n:Nat,x=n:=⟨x.toNat,by have:=hx.1;omega⟩
 obtain⟨z,rfl⟩:∃n:Nat,y=n:=⟨y.toNat,by have:=hy.1;omega⟩
 have e:((z:Int)*2^k)=((z*2^k:Nat):Int):=by simp
 rw[e]at h⊢
 have hn:n<2^k:=by exact_mod_cast hk
 rw[zaE hx ⟨by omega,by omega⟩,dX,dX,Nat.or_comm,Nat.mul_comm,<-Nat.two_pow_add_eq_or_of_lt hn]
 omega
theorem four{a b c d:Int}(ha:0<=a/\a<256)(hb:0<=b/\b<256)(hc:0<=c/\c<256)(hd:0<=d/\d<256):iM .u32 (iM .u32 (iM .u32 (wrap .u32 a) (eu .u32 (wrap .u32 b) 8)) (eu .u32 (wrap .u32 c) 16)) (eu .u32 (wrap .u32 d) 24)=a+b*2^8+c*2^16+d*2^24:=by
 have w:∀{x:Int},0<=x/\x<256->wrap .u32 x=x:=λhx=>by rw[wrap_u32];omega
 have s8:∀{x:Int},0<=x/\x<256->eu .u32 x 8=x*2^8:=fun{x} hx=>by show wrap .u32 (x*2^8)=_;rw[wrap_u32];omega
 have AT:∀{x:Int},0<=x/\x<256->eu .u32 x 16=x*2^16:=fun{x} hx=>by show wrap .u32 (x*2^16)=_;rw[wrap_u32];omega
 have ui:∀{x:Int},0<=x/\x<256->eu .u32 x 24=x*2^24:=fun{x} hx=>by show wrap .u32 (x*2^24)=_;rw[wrap_u32];omega
 rw[w ha,w hb,w hc,w hd,s8 hb,AT hc,ui hd]
 rw[yh ⟨by omega,by omega⟩ ⟨by omega,by omega⟩ 8 (by omega) (by omega),yh ⟨by omega,by omega⟩ ⟨by omega,by omega⟩ 16 (by omega) (by omega),yh ⟨by omega,by omega⟩ ⟨by omega,by omega⟩ 24 (by omega) (by omega)]
theorem vJ{a b c d:Int}(ha:0<=a/\a<256)(hb:0<=b/\b<256)(hc:0<=c/\c<256)(hd:0<=d/\d<256)(k:Nat)(hk:k<4):wo (a+b*2^8+c*2^16+d*2^24) k=if k=0 then a else if k=1 then b else if k=2 then c else d:=by
 have hk:k=0\/k=1\/k=2\/k=3:=by omega
 rcases hk with rfl|rfl|rfl|rfl<;>simp[wo]<;>omega
theorem Xg{m:List Int}(h:ep P m)(f:Int):Ev m f=decide (0<=f/\f<P):=by
 have hp:=ug h
 simp only[Ev,KG,Tree.m,ee,hp]
 by_cases h1:0<=f
 ·rw[dY h1];simp[h1]
 ·rw[dN h1];simp[h1]
theorem qK(s:List UInt8)(a b k:Nat)(h:k<b):(cU b (cV a s)).getD k 0=s.getD (a+k) 0:=by
 simp[cX,aF,h]
theorem GA(x:UInt8):0<=(x.toNat:Int)/\(x.toNat:Int)<256:=by have:=x.toNat_lt;omega
theorem Xh{m:List Int}(h:ep P m)(f0:0<=f)(f1:f<P)(hs:s.length=128):(Im m f s).w (λr=>r.2=true/\ep P r.1/\∀b:Nat,lD r.1 b=if f*128<=b/\(b:Int)<f*128+128 then((s.getD (b-f*128).toNat 0).toNat:Int)else lD m b):=by
 have jn:kF m=m:=rfl
 have h2:=h.p2
 unfold Im
 refine c6 (Gt h) (aq λx0 nO=>aq λx1 o7=>?_)
 rw[jn]at nO;subst nO
 rw[Xg h,dY ⟨f0,f1⟩]at o7
 subst o7
 refine ab (λhb=>by cases hb) λ_=>ab (λhb=>by simp[hs]at hb) λ_=>?_
 refine fj (inv:=λz:Int×List Int=>0<=z.1/\z.1<=32/\ep P z.2/\∀b:Nat,lD z.2 b=if f*128<=b/\(b:Int)<f*128+4*z.1 then((s.getD (b-f*128).toNat 0).toNat:Int)else lD x0 b) (μ:=WY x0 f s) ⟨show(0:Int)<=0 by decide,show(0:Int)<=32 by decide,h,λb=>by rw[if_neg];show¬(_/\_<_+4*(0:Int));omega⟩ (cN _) λz ⟨z1,z2,z3,z4⟩=>?_
 refine ab (λhb=>?_) (λhb=>⟨rfl,z3,λb=>?_⟩)
 ·have hb:=oY hb
  have e1:i64.wrap (4*z.1)=4*z.1:=by rw[wrap_i64];omega
  have e2:i64.wrap (i64.wrap (4*z.1)+4)=4*z.1+4:=by rw[wrap_i64,wrap_i64];omega
  have e3:i64.wrap (i64.wrap (f*32)+z.1)=f*32+z.1:=by rw[wrap_i64,wrap_i64];omega
  have hl:=z3.len
  have cut:dA (i64.wrap (i64.wrap (4*z.1)+4))-dA (i64.wrap (4*z.1))=4:=by rw[e2,e1];omega
  have hlen:(cU (dA (i64.wrap (i64.wrap (4*z.1)+4))-dA (i64.wrap (4*z.1))) (cV (dA (i64.wrap (4*z.1))) s)).length=4:=by
   rw[cut,e1,aD,aG];omega
  refine ax (dY (by rw[e2,e1];omega)) ?_
  refine ax (dY (by rw[hlen];decide)) (ax (dY (by rw[hlen];decide)) (ax (dY (by rw[hlen];decide)) (ax (dY (by rw[hlen];decide)) (ax (by rw[e3];simp[bN];omega) (ei ?_)))))
  have ew:i64.wrap (z.1+1)=z.1+1:=by rw[wrap_i64];omega
  rw[cut]
  refine⟨⟨by show 0<=i64.wrap (z.1+1);rw[ew];omega,by show i64.wrap (z.1+1)<=32;rw[ew];omega,?_,?_⟩,by show(32-i64.wrap (z.1+1)).toNat<(32-z.1).toNat;rw[ew];omega⟩
  ·show ep P (dB _ _ _)
   exact⟨by rw[dC];exact hl,z3.p1,z3.p2,Ew z3.u (nE _ _) _⟩
  ·intro b
   show lD (dB z.2 (dA (i64.wrap (i64.wrap (f*32)+z.1))) _) b=if f*128<=(b:Int)/\(b:Int)<f*128+4*i64.wrap (z.1+1)then _ else _
   rw[e3,ew,four (GA _) (GA _) (GA _) (GA _),zh (by omega)]
   have g:∀k:Nat,k<4->(cU 4 (cV (dA (i64.wrap (4*z.1))) s)).getD k 0=s.getD ((4*z.1).toNat+k) 0:=λk hk=>by rw[e1];exact qK _ _ _ _ hk
   by_cases hc:b/4=(f*32+z.1).toNat
   ·have Tc:f*128<=(b:Int)/\(b:Int)<f*128+4*(z.1+1):=by omega
    rw[if_pos hc,vJ (GA _) (GA _) (GA _) (GA _) _ (by omega),if_pos Tc]
    have hb4:b%4=0\/b%4=1\/b%4=2\/b%4=3:=by omega
    have gi:(b-f*128).toNat=(4*z.1).toNat+b%4:=by omega
    rw[gi]
    rcases hb4 with h4|h4|h4|h4<;>rw[h4]
    ·rw[if_pos rfl,<-g 0 (by omega)];rfl
    ·rw[if_neg (by decide),if_pos rfl,<-g 1 (by omega)];rfl
    ·rw[if_neg (by decide),if_neg (by decide),if_pos rfl,<-g 2 (by omega)];rfl
    ·rw[if_neg (by decide),if_neg (by decide),if_neg (by decide),<-g 3 (by omega)];rfl
   ·rw[if_neg hc,z4 b]
    by_cases hd:f*128<=(b:Int)/\(b:Int)<f*128+4*z.1
    ·rw[if_pos hd,if_pos (by omega)]
    ·rw[if_neg hd,if_neg (by omega)]
 ·have hb:=oN hb
  show lD z.2 b=_
  rw[z4 b,show z.1=32 by omega]
  rfl
theorem Zph{α:Type}(l l2:List α)(k:Nat)(z:α):(l++l2).getD k z=if k<l.length then l.getD k z else l2.getD (k-l.length) z:=by
 simp only[cX,List.getElem?_append]
 split<;>rfl
theorem u8w:wrap .u8 x=x%256:=wrap_u8 x
theorem GB(W:Int):bc .u32 W 8=W/256/\bc .u32 W 16=W/65536/\bc .u32 W 24=W/16777216:=by
 refine⟨?_,?_,?_⟩
 ·show eC W 256=_;rw[dJ _ (by decide)]
 ·show eC W 65536=_;rw[dJ _ (by decide)]
 ·show eC W 16777216=_;rw[dJ _ (by decide)]
theorem b4d(W:Int)(hk:k<4):[wrap .u8 W,wrap .u8 (bc .u32 W 8),wrap .u8 (bc .u32 W 16),wrap .u8 (bc .u32 W 24)].getD k 0=wo W k:=by
 obtain⟨a,b,c⟩:=GB W
 have hk:k=0\/k=1\/k=2\/k=3:=by omega
 rcases hk with rfl|rfl|rfl|rfl<;>simp[wo,a,b,c,u8w]
theorem Xi(l:List Int)(k:Nat)(h:0<=l.getD k 0/\l.getD k 0<256)(hk:k<l.length):(((bytesOf l).getD k 0).toNat:Int)=l.getD k 0:=by
 have e:(bytesOf l).getD k 0=eD (l.getD k 0).toNat:=by
  simp[bytesOf,cX,hk]
 rw[e,UInt8.toNat_ofNat']
 omega
theorem Zoy(l:List UInt8)(k:Nat)(hk:k<l.length):(o8 l).getD k 0=((l.getD k 0).toNat:Int):=by
 simp[o8,cX,hk]
theorem xaE(w:List Int)(h:w.length<=32):(Ey w).w (λr=>r.length=4*w.length/\∀k:Nat,k<4*w.length->((r.getD k 0).toNat:Int)=wo (w.getD (k/4) 0) (k%4)):=by
 have e0:i64.wrap (4*(w.length:Int))=4*w.length:=by rw[wrap_i64];omega
 unfold Ey
 refine ax (by rw[e0];simp[bN,D.plain];omega) ?_
 refine fj (inv:=λz:Int×List Int=>0<=z.1/\z.1<=w.length/\(z.2.length:Int)=4*z.1/\∀k:Nat,(k:Int)<4*z.1->z.2.getD k 0=wo (w.getD (k/4) 0) (k%4)) (μ:=NF w) ⟨by decide,by show(0:Int)<=w.length;omega,rfl,λk hk=>by have hk:(k:Int)<4*0:=hk;omega⟩ (cN _) λz ⟨z1,z2,z3,z4⟩=>?_
 refine ab (λhb=>?_) (λhb=>?_)
 ·have hb:=oY hb
  have ew:i64.wrap (z.1+1)=z.1+1:=by rw[wrap_i64];omega
  refine ax (by simp[bN];omega) (ax (dY (by omega)) (ei ?_))
  show(_/\_/\_/\∀k:Nat,(k:Int)<4*i64.wrap (z.1+1)->(z.2++_).getD k 0=_)/\(_:Nat)<_
  refine⟨⟨by rw[ew];omega,by rw[ew];omega,by rw[ew,lA];simp only[dD,dE];omega,λk hk=>?_⟩,by show(w.length-i64.wrap (z.1+1)).toNat<(w.length-z.1).toNat;rw[ew];omega⟩
  rw[ew]at hk
  rw[Zph]
  split
  ·exact z4 k (by omega)
  ·rename_i hn
   rw[b4d _ (by omega),show z.1.toNat=k/4 by omega,show k-z.2.length=k%4 by omega]
 ·have hb:=oN hb
  show(bytesOf z.2).length=_/\∀k:Nat,_->(((bytesOf z.2).getD k 0).toNat:Int)=_
  refine⟨by rw[NG];omega,λk hk=>?_⟩
  have e:=z4 k (by omega)
  have:=qh (w.getD (k/4) 0) (k%4)
  rw[Xi _ _ (by rw[e];exact this) (by omega),e]
def BY(m:List Int)(f:Int)(r:List UInt8):Prop:=r.length=128/\∀k:Nat,k<128->((r.getD k 0).toNat:Int)=lD m ((f*128).toNat+k)
theorem vh{m:List Int}{r s:List UInt8}(a:BY m f r)(b:BY m f s):r=s:=by
 obtain⟨a1,a2⟩:=a
 obtain⟨b1,b2⟩:=b
 refine bR (by omega) λi h1 h2=>?_
 have e:=(a2 i (by omega)).trans (b2 i (by omega)).symm
 have e1:r[i]=r.getD i 0:=by simp[aV,h1]
 have e2:s[i]=s.getD i 0:=by simp[aV,h2]
 rw[e1,e2]
 exact UInt8.toNat_inj.1 (by omega)
theorem qi{m:List Int}(h:ep P m)(f0:0<=f)(f1:f<P):(DA m f).w (λr=>BY m f r.1/\r.2=true):=by
 have hl:=h.len
 have h2:=h.p2
 unfold DA
 refine aq λx0 nO=>?_
 rw[Xg h,dY ⟨f0,f1⟩]at nO
 subst nO
 refine ab (λhb=>by cases hb) (λhb=>?_)
 have e1:i64.wrap (f*32)=f*32:=by rw[wrap_i64];omega
 have e2:i64.wrap (i64.wrap (f*32)+32)=f*32+32:=by rw[wrap_i64,wrap_i64];omega
 have cut:dA (i64.wrap (i64.wrap (f*32)+32))-dA (i64.wrap (f*32))=32:=by rw[e2,e1];omega
 have hlen:(cU 32 (cV (dA (i64.wrap (f*32))) m)).length=32:=by
  rw[e1,aD,aG];omega
 refine ax (by rw[e2,e1];simp[bN];omega) ?_
 rw[cut]
 refine c6 (by show dF _<=1000000000000;rw[hlen];decide) (aq λx1 h1=>?_)
 have t:=(Tree.pp (xaE _ (dG hlen))).2
 rw[hlen,show(Ey (cU 32 (cV (dA (i64.wrap (f*32))) m))).m=x1 from h1.symm]at t
 refine⟨⟨t.1,λk hk=>?_⟩,rfl⟩
 show((x1.getD k 0).toNat:Int)=_
 rw[t.2 k hk,lD,e1]
 have g:(cU 32 (cV (dA (f*32)) m)).getD (k/4) 0=m.getD ((f*32).toNat+k/4) 0:=by
  simp[cX,aF,show k/4<32 by omega]
 rw[g,show((f*128).toNat+k)/4=(f*32).toNat+k/4 by omega,show((f*128).toNat+k)%4=k%4 by omega]
theorem qaF(x:Int):Xj x 4=bytesOf [wrap .u8 (bc .u32 x 0),wrap .u8 (bc .u32 x 8),wrap .u8 (bc .u32 x 16),wrap .u8 (bc .u32 x 24)]:=by kernel_rfl
theorem zaj{m:List Int}(hm:ep P m){frame:Int}(f0:0<=frame)(f1:frame<P):(GC m frame).w (λr=>BY m frame r.1/\r.2=true):=by
 have hp:=DG hm
 have hl:=hm.len
 have h2:=hm.p2
 unfold GC
 refine ab (λh=>by have:=oY h;omega) (λh=>aq λx0 hx=>ab (λh1=>by have:=oY h1;rw[hx,hp]at this;omega) (λh1=>?_))
 refine fj (inv:=λz:Int×List Int=>0<=z.1/\z.1<=32/\(z.2.length:Int)=4*z.1/\∀k:Nat,(k:Int)<4*z.1->z.2.getD k 0=lD m ((frame*128).toNat+k)) (μ:=Xk m frame) ⟨by decide,by decide,rfl,λk hk=>by have hk:(k:Int)<4*0:=hk;omega⟩ (cN _) (λz hz=>?_)
 obtain⟨z1,z2,z3,z4⟩:=hz
 refine ab (λhb=>?_) (λhb=>?_)
 ·have hb:=oY hb
  have e:wrap i64 (wrap i64 (frame*32)+z.1)=frame*32+z.1:=by rw[wrap_i64,wrap_i64];omega
  refine ax (by rw[e];simp[bN];omega) (c6 (show(4:Int)<=1000000000000 by decide) (aq λx1 h4=>?_))
  rw[qaF,NV,e]at h4
  have l4:x1.length=4:=by rw[h4];rfl
  refine ax (dY (by rw[Td,l4];omega)) (ei ?_)
  show(0<=i64.wrap (z.1+1)/\i64.wrap (z.1+1)<=32/\((z.2++o8 x1).length:Int)=4*i64.wrap (z.1+1)/\∀k:Nat,(k:Int)<4*i64.wrap (z.1+1)->(z.2++o8 x1).getD k 0=_)/\(32-i64.wrap (z.1+1)).toNat<(32-z.1).toNat
  have ew:i64.wrap (z.1+1)=z.1+1:=by rw[wrap_i64];omega
  rw[ew]
  refine⟨⟨by omega,by omega,by rw[lA,Td,l4];omega,λk hk=>?_⟩,by omega⟩
  rw[Zph]
  split
  ·exact z4 k (by omega)
  ·rename_i hn
   have DH:k-z.2.length<4:=by omega
   rw[Zoy _ _ (by omega),h4]
   have d:=b4d (m.getD (frame*32+z.1).toNat 0) DH
   rw[Xi _ _ (by rw[d];exact qh _ _) (by simpa using DH),d,lD]
   rw[show((frame*128).toNat+k)/4=(frame*32+z.1).toNat by omega,show((frame*128).toNat+k)%4=k-z.2.length by omega]
 ·have hb:=oN hb
  refine⟨⟨?_,λk hk=>?_⟩,rfl⟩
  ·show(bytesOf z.2).length=128
   rw[NG];omega
  ·show(((bytesOf z.2).getD k 0).toNat:Int)=_
   have e:=z4 k (by omega)
   rw[Xi _ _ (by rw[e];exact qh _ _) (by omega),e]
theorem Zk0{m:List Int}(h:ep P m)(f:Int):jB m f=K1 m f:=by
 by_cases hf:0<=f/\f<P
 ·have a:=(Tree.pp (qi h hf.1 hf.2)).2
  have b:=(Tree.pp (zaj h hf.1 hf.2)).2
  exact Prod.ext (vh a.1 b.1) (a.2.trans b.2.symm)
 ·have hp:=DG h
  have e1:jB m f=([],false):=by
   simp only[jB,DA,Tree.m,ee,Xg h,dN hf];rfl
  have e2:K1 m f=([],false):=by
   simp only[K1,GC,Tree.m,ee,hp]
   by_cases h0:f<0
   ·rw[dY h0];rfl
   ·rw[dN h0,dY (show f>=P by omega)];rfl
  rw[e1,e2]
section
variable {P:Nat} {m:List Int} (h:ep P m)
include h
theorem N0(ha:U a)(hs:size=1\/size=4):uk m a size=decide (a%size=0/\a<128*P):=by
 have hq:=DG h
 have h2:=h.p2
 have a0:=ha.1
 have e:wrap u32 size=size:=by rcases hs with rfl|rfl<;>decide
 have e0:decide (wrap u32 size≠0)=true:=by rcases hs with rfl|rfl<;>decide
 have t:cZ a (wrap u32 size)=a%size:=by rw[e,dZ a0]
 have l:∀x,x=wq m->a%size=0->decide (a<wrap u32 (wrap i64 (128*x)))=decide (a%size=0/\a<128*P):=λx hx hz=>by
  rw[hx,hq,wrap_u32,wrap_i64]
  exact decide_eq_decide.2 ⟨λh=>⟨hz,by omega⟩,λh=>by omega⟩
 refine Tree.post (IC m a size) (W:=λb=>b=decide (a%size=0/\a<128*P)) ?_
 unfold IC
 refine ab (λh1=>ab (λh4=>?_) (λ_=>?_)) (λ_=>?_)
 ·have h1:¬size=1:=by simpa using h1
  have h4:¬size=4:=by simpa using h4
  omega
 all_goals
  refine ax e0 (ab (λhb=>aq λx hx=>l x hx ?_) (λhb=>?_))
  ·rw[t]at hb;exact eq_of_beq hb
  ·rw[t]at hb
   exact(dN (λh=>by rw[h.1]at hb;cases hb)).symm
theorem Z57(ha:U a)(hs:size=1\/size=4):Xl m a size=uk m a size:=by
 rw[N0 h ha hs]
 have hq:=Xm h
 have h2:=h.p2
 have a0:=ha.1
 have a1:=ha.2
 have e:wrap u32 size=size:=by rcases hs with rfl|rfl<;>decide
 have e0:decide (wrap u32 size≠0)=true:=by rcases hs with rfl|rfl<;>decide
 have t:cZ a (wrap u32 size)=a%size:=by rw[e,dZ a0]
 have l:∀x,x=jU m->a%size=0->decide (wrap u64 (wrap u64 a+wrap u64 size)<=wrap u64 (wrap u64 x*128))=decide (a%size=0/\a<128*P):=λx hx hz=>by
  rw[hx,hq]
  simp only[wrap_u64]
  refine decide_eq_decide.2 ⟨λh=>⟨hz,?_⟩,λh=>?_⟩<;>rcases hs with rfl|rfl<;>omega
 refine Tree.post (ID m a size) (W:=λb=>b=decide (a%size=0/\a<128*P)) ?_
 unfold ID
 refine ab (λh1=>ab (λh4=>?_) (λ_=>?_)) (λ_=>?_)
 ·have h1:¬size=1:=by simpa using h1
  have h4:¬size=4:=by simpa using h4
  omega
 all_goals
  refine ax e0 (ab (λhb=>?_) (λhb=>aq λx hx=>l x hx ?_))
  ·rw[t]at hb
   exact(dN (λh=>by rw[h.1]at hb;cases hb)).symm
  ·rw[t]at hb;simpa using hb
end
theorem Xn(w:Int):tz w 0 8=bb .u32 (bc .u32 w 0) 255/\tz w 8 8=bb .u32 (bc .u32 w 8) 255/\tz w 16 8=bb .u32 (bc .u32 w 16) 255/\tz w 24 8=bb .u32 (bc .u32 w 24) 255:=
 ⟨by kernel_rfl,by kernel_rfl,by kernel_rfl,by kernel_rfl⟩
theorem Xo(w v:Int):K3 w 0 8 v=EH w v 0/\K3 w 8 8 v=EH w v 8/\K3 w 16 8 v=EH w v 16/\K3 w 24 8 v=EH w v 24:=
 ⟨by kernel_rfl,by kernel_rfl,by kernel_rfl,by kernel_rfl⟩
theorem xi(ha:U a):wrap .i64 (wrap .i64 (cZ a 4)*8)=8*(a%4)/\wrap .u32 (8*cZ a 4)=8*(a%4):=by
 obtain⟨a0,a1⟩:=ha
 rw[dZ a0]
 exact⟨by rw[wrap_i64,wrap_i64];omega,by rw[wrap_u32];omega⟩
section
variable {P:Nat} {m:List Int} (h:ep P m)
include h
theorem N1(ha:U a)(hs:size=1\/size=4):BZ m a size=oL m a size:=by
 have e:=Z57 h ha hs
 obtain⟨s1,s2⟩:=xi ha
 have f:tz (m.getD (dA (wrap .u32 (eF a 4))) 0) (8*(a%4)) 8=bb .u32 (bc .u32 (m.getD (dA (wrap .u32 (eF a 4))) 0) (8*(a%4))) 255:=by
  obtain⟨f0,f1,f2,f3⟩:=Xn (m.getD (dA (wrap .u32 (eF a 4))) 0)
  have:a%4=0\/a%4=1\/a%4=2\/a%4=3:=by omega
  rcases this with h|h|h|h<;>rw[h]
  ·exact f0
  ·exact f1
  ·exact f2
  ·exact f3
 simp only[BZ,K4,oL,DI,Tree.m,ee,e,s1,s2,f]
omit h in
theorem Xp(a size:Int):(oL m a size).2=uk m a size:=by
 simp only[oL,DI,Tree.m,ee]
 cases uk m a size
 ·rfl
 ·cases size==1<;>rfl
theorem Zby(ha:U a)(hs:size=1\/size=4)(v:Int):K5 m a size v=bif uk m a size then(IE m a size v,true)else(m,false):=by
 have jn:kF m=m:=rfl
 have e:=Z57 h ha hs
 obtain⟨s1,s2⟩:=xi ha
 have f:∀w,K3 w (8*(a%4)) 8 v=iM .u32 (oJ .u32 w (eu .u32 255 (8*(a%4)))) (eu .u32 (bb .u32 v 255) (8*(a%4))):=λw=>by
  obtain⟨f0,f1,f2,f3⟩:=Xo w v
  have:a%4=0\/a%4=1\/a%4=2\/a%4=3:=by omega
  rcases this with h|h|h|h<;>rw[h]
  ·exact f0
  ·exact f1
  ·exact f2
  ·exact f3
 simp only[K5,K6,IE,K7,Tree.m,ee,jn,e,s1,s2,f]
 rcases hs with rfl|rfl<;>cases uk m a _<;>rfl
end
section
variable {P:Nat} {m:List Int} (h:ep P m)
include h
theorem zi{root va:Int}(hr:U root)(hv:U va)(ha:access=1\/access=2\/access=3):Te m root va access=Al m root va access:=by
 have hp:=DG h
 have h2:=h.p2
 have hlen:=h.len
 obtain⟨r1,r2⟩:=hr
 obtain⟨v1,v2⟩:=hv
 have Ip:∀{f:Int},U f->N2 m f=decide (f<P):=λhf=>yV h hf
 have eP:wrap .u32 (P:Int)=P:=by rw[wrap_u32];omega
 have kn:N3 access=true:=by rcases ha with rfl|rfl|rfl<;>rfl
 have ca:Qmx access=(Ca access,true):=by rcases ha with rfl|rfl|rfl<;>rfl
 simp only[Te,K8,Al,GF,Tree.m,ee,hp,eP,kn,ca,Ip ⟨r1,r2⟩]
 by_cases c1:va>=4096
 ·rw[dY c1];rfl
 by_cases c2:root<P
 ·have eE:wrap u32 (wrap u32 (root*128)+wrap u32 (4*wrap u32 (eF va 128)))=root*128+4*(va/128):=by
   rw[eG v1,wrap_u32,wrap_u32,wrap_u32,wrap_u32];omega
  have hE:U (root*128+4*(va/128)):=⟨by omega,by omega⟩
  have wi:uk m (root*128+4*(va/128)) 4=true:=by
   rw[N0 h hE (.inr rfl)];exact dY ⟨by omega,by omega⟩
  rw[dN c1,dY c2,dN (show¬root>=P by omega),eE,N1 h hE (.inr rfl),Xp,wi]
  have ld:(oL m (root*128+4*(va/128)) 4).1=m.getD (dA (wrap .u32 (eF (root*128+4*(va/128)) 4))) 0:=by
   simp only[oL,DI,Tree.m,ee,wi];rfl
  rw[ld]
  generalize m.getD (dA (wrap .u32 (eF (root*128+4*(va/128)) 4))) 0=w
  have fo:Xq w=bb .u32 (bc .u32 w 8) 255:=(fld w).2.2.2.2
  rw[fo,Ip (K9 _ _)]
  have gl:decide (bb .u32 (bc .u32 w 8) 255>=(P:Int))=!decide (bb .u32 (bc .u32 w 8) 255<(P:Int)):=by
   by_cases hq:bb .u32 (bc .u32 w 8) 255<(P:Int)
   ·rw[dY hq,dN (by omega)];rfl
   ·rw[dN hq,dY (by omega)];rfl
  rw[gl]
  generalize decide (bb .u32 (bc .u32 w 8) 255<(P:Int))=d
  rcases ha with rfl|rfl|rfl
  ·show _=(bif bb .u32 w 1==0 then _ else bif bb .u32 w 4==0 then _ else bif !d then _ else _)
   have:Tf w 1=(bif bb .u32 w 1==0 then false else !(bb .u32 w 4==0)):=rfl
   rw[this]
   cases bb .u32 w 1==0<;>cases bb .u32 w 4==0<;>cases d<;>rfl
  ·show _=(bif bb .u32 w 1==0 then _ else bif !d then _ else _)
   have:Tf w 2=(bif bb .u32 w 1==0 then false else true):=rfl
   rw[this]
   cases bb .u32 w 1==0<;>cases d<;>rfl
  ·show _=(bif bb .u32 w 1==0 then _ else bif bb .u32 w 2==0 then _ else bif !d then _ else _)
   have:Tf w 3=(bif bb .u32 w 1==0 then false else !(bb .u32 w 2==0)):=rfl
   rw[this]
   cases bb .u32 w 1==0<;>cases bb .u32 w 2==0<;>cases d<;>rfl
 ·rw[dN c1,dN c2,dY (show root>=P by omega)];rfl
theorem Zty(ha:U a)(access:Int):N4 m a access=Tg m a access:=by
 have jn:kF m=m:=rfl
 have hl:=h.len
 have a0:=ha.1
 simp only[N4,La,Tg,Lb,Tree.m,ee,N1 h ha (.inr rfl),Xp,Zby h ha (.inr rfl),jn]
 cases hw:uk m a 4
 ·rfl
 ·rw[N0 h ha (.inr rfl)]at hw
  have hw:=oY hw
  have wi:uk m a 4=true:=by rw[N0 h ha (.inr rfl)];exact dY hw
  have ld:(oL m a 4).1=m.getD (dA (wrap .u32 (eF a 4))) 0:=by
   simp only[oL,DI,Tree.m,ee,wi];rfl
  have pu:∀v,IE m a 4 v=m.set (dA (wrap .u32 (eF a 4))) v:=λv=>rfl
  rw[ld,pu,pu]
  have hi:dA (wrap .u32 (eF a 4))<m.length:=by
   rw[eG a0,wrap_u32];omega
  generalize dA (wrap .u32 (eF a 4))=i at*
  rw[Qx hi,List.set_set]
  rfl
end
theorem N5(h0:0<=c.C3.a0)(h:c.C3.a0<=31)(k b:Int):rb c k b=pM c k b:=by
 have e:=eq_of_beq (EF (λs=>oJ .u32 (iM .u32 (Aj (Aj s 1 8) 2 16) 1) 2==iM .u32 (oJ .u32 (iM .u32 (iM .u32 (oJ .u32 s 24) (wrap .u32 (8*Cb (bb .u32 s 1 !=0)))) (wrap .u32 (16*Cb (bb .u32 s 2 !=0)))) 2) 1) 32 (by kernel_rfl) h0 (by omega))
 simp only[rb,N6,pM,N7,Tree.m,ee,e]
theorem Zow(h0:0<=c.C3.a0)(h:c.C3.a0<=31):KS c=Th c:=by
 have e:=eq_of_beq (EF (λs=>Aj (Aj s 8 1) 16 2==iM .u32 (iM .u32 (oJ .u32 s 3) (wrap .u32 (1*Cb (bb .u32 s 8 !=0)))) (wrap .u32 (2*Cb (bb .u32 s 16 !=0)))) 32 (by kernel_rfl) h0 (by omega))
 simp only[KS,N8,Th,N9,Tree.m,ee,e]
theorem Ztj(h0:0<=c.C3.a0)(h:c.C3.a0<=31):Xr c=(!IF c&&(bb .u32 c.C3.a0 4 !=0)):=
 eq_of_beq (EF (λs=>(bb .u32 s 5==4)==(!(bb .u32 s 1 !=0)&&(bb .u32 s 4 !=0))) 32 (by kernel_rfl) h0 (by omega))
theorem Ti(c:bu)(hr:0<=r/\r<16)(v:Int):um c r v=lF c r v:=by
 simp only[um,EB,lF,IG,Tree.m]
 by_cases h:r=0
 ·subst h;rfl
 ·rw[dY (show r>0 by omega),dY hr.2,show(r !=0)=true by simpa using h];rfl
theorem xK{a b:Int}(ha:U a)(hb:U b):Lc a b=Ld a b:=by
 obtain⟨a0,a1⟩:=ha
 obtain⟨b0,b1⟩:=hb
 have i:∀x,wrap .i64 (wrap .i32 x)=wrap .i32 x:=λx=>by rw[wrap_i64,wrap_i32];omega
 have r32:∀x,-2147483648<=wrap .i32 x/\wrap .i32 x<2147483648:=λx=>by rw[wrap_i32];omega
 have q32:∀x y:Int,-2147483648<=x/\x<2147483648-> -2147483648<=eF x y/\eF x y<=2147483648:=λx y hx=>by
  have h1:(eF x y).natAbs<=x.natAbs:=by rw[Int.natAbs_tdiv];exact Nat.div_le_self _ _
  omega
 simp only[Lc,Lf,Ld,Lg,Tree.m,i]
 cases hb:b==0
 ·have w:∀z,wrap .u32 (wrap .i32 z)=wrap .u32 z:=λz=>by rw[wrap_i32,wrap_u32,wrap_u32];omega
  have w2:wrap .i64 (eF (wrap .i32 a) (wrap .i32 b))=eF (wrap .i32 a) (wrap .i32 b):=by
   have:=q32 _ (wrap .i32 b) (r32 a)
   rw[wrap_i64];omega
  rw[w,w2]
  cases h1:a==2147483648
  ·rfl
  ·cases h2:b==4294967295
   ·rfl
   ·have h1:=eq_of_beq h1
    have h2:=eq_of_beq h2
    subst h1;subst h2
    rfl
 ·rfl
theorem zK{op a b:Int}(h0:1<=op)(h1:op<=23)(ha:U a)(hb:U b):nF op a b=DJ op a b:=by
 have sub:wrap .u32 (a+wrap .u32 (0-b))=wrap .u32 (a-b):=by
  rw[wrap_u32,wrap_u32,wrap_u32];omega
 have rG:op=1\/op=2\/op=3\/op=4\/op=5\/op=6\/op=7\/op=8\/op=9\/op=10\/op=11\/op=12\/op=13\/op=14\/op=15\/op=16\/op=17\/op=18\/op=19\/op=20\/op=21\/op=22\/op=23:=by omega
 have d:=xK ha hb
 rcases rG with rfl|rfl|rfl|rfl|rfl|rfl|rfl|rfl|rfl|rfl|rfl|rfl|rfl|rfl|rfl|rfl|rfl|rfl|rfl|rfl|rfl|rfl|rfl
 ·rfl
 ·show(wrap .u32 (a+wrap .u32 (0-b)),true)=(wrap .u32 (a-b),true)
  rw[sub]
 ·rfl
 ·rfl
 ·rfl
 ·rfl
 ·rfl
 ·rfl
 ·rfl
 ·show((Lc a b).1,true)=((Ld a b).1,true)
  rw[d]
 ·show((Lc a b).2,true)=((Ld a b).2,true)
  rw[d]
 all_goals rfl
theorem Xs{m:List Int}(h:ep P m)(hc:iQ c)(j0:c.C3.a0<=31){va:Int}(hv:U va)(hs:size=1\/size=4)(ha:access=1\/access=2\/access=3):rK c m va size access=((lQ c m va size access).1,(lQ c m va size access).2.2,(lQ c m va size access).2.1):=by
 have jn:kF m=m:=rfl
 have kn:N3 access=true:=by rcases ha with rfl|rfl|rfl<;>rfl
 have ca:Qvf access=(Ca access,true):=by rcases ha with rfl|rfl|rfl<;>rfl
 have pg:=Ztj hc.a0.1 j0
 have wk:=zi h hc.a6 hv ha
 have tc:N4 m (Al m c.C3.a6 va access).G1 access=Tg m (Al m c.C3.a6 va access).G1 access:=Zty h (Tree.pp (qab h hc.a6 hv access)).2.2.1 access
 have sz:(bif size !=1 then bif size !=4 then false else true else true)=true:=by rcases hs with rfl|rfl<;>rfl
 simp only[rK,Qb,lQ,IH,Tree.m,ee,jn,kn,ca,pg,wk,tc,N1 h hv hs,Xp]
 rcases hs with rfl|rfl<;>
 ·show(bif _ then _ else _)=_
  cases cZ va _ !=0<;>cases IF c<;>cases bb .u32 c.C3.a0 4 !=0<;>cases(Al m c.C3.a6 va access).G0 !=0<;>cases uk m va _<;>rfl
theorem Xt{α:Type}{Q:α->Prop}{c:Bool}{x y:α}(hx:Q x)(hy:Q y):Q (cond c x y):=by cases c<;>assumption
theorem xaj(m:List Int)(root:Int){va:Int}(hv:U va)(access:Int):(Al m root va access).G0=0->(Al m root va access).Addr%4=va%4:=by
 have hc:Ca access≠0:=by
   simp only[Ca,Lh,Tree.m]
   cases access==1<;>cases access==3<;>simp
 have q :(λt:rF=>t.G0=0->t.Addr%4=va%4) (Al m root va access):=by
   simp only[Al,GF,Tree.m,ee]
   repeat'(first
     |exact λe=>absurd e hc
     | (intro _
        show wrap .u32 (wrap .u32 (_*128)+cZ va 128)%4=va%4
        rw[dZ hv.1,wrap_u32,wrap_u32];omega)
     |refine Xt (Q:=λt:rF=>t.G0=0->t.Addr%4=va%4) ?_ ?_)
 exact q
theorem yK{m:List Int}{va:Int}(hv:U va)(hs:size=1\/size=4)(ha:access=1\/access=2\/access=3):(lQ c m va size access).2.1=0->(lQ c m va size access).1%size=0:=by
 have kn:N3 access=true:=by rcases ha with rfl|rfl|rfl<;>rfl
 have hc:Ca access≠0:=by
  simp only[Ca,Lh,Tree.m]
  cases access==1<;>cases access==3<;>simp
 rcases hs with rfl|rfl
 ·intro _;omega
 simp only[lQ,IH,Tree.m,ee,kn]
 show(bif cZ va 4 !=0 then((0:Int),(3:Int),m)else _).2.1=0->(bif cZ va 4 !=0 then((0:Int),(3:Int),m)else _).1%4=0
 rw[dZ hv.1]
 cases hz:va%4 !=0
 ·have hz:va%4=0:=by simpa using hz
  have w:=xaj m c.C3.a6 hv access
  cases hp:Xr c
  ·cases hw:uk m va 4
   ·exactλe=>absurd e hc
   ·exactλ_=>hz
  ·cases hq:(Al m c.C3.a6 va access).G0 !=0
   ·have hq:(Al m c.C3.a6 va access).G0=0:=by simpa using hq
    exactλ_=>(w hq).trans hz
   ·have hq:¬(Al m c.C3.a6 va access).G0=0:=by simpa using hq
    exactλe=>absurd e hq
 ·intro e;cases e
def dm:ly:={C2:=0,F0:=0,F9:=0,Value:=0}
def jQ(c:bu)(m:List Int)(i:ib):bu×List Int×ly:=
 bif i.Op==32 then((tA c m i).1,(tA c m i).2,dm)else bif i.Op==33 then((tA c m i).1,(tA c m i).2,dm)else bif i.Op==34 then((tA c m i).1,(tA c m i).2,dm)
 else bif i.Op==35 then((Cc c m i).1,(Cc c m i).2,dm)else bif i.Op==36 then((Cc c m i).1,(Cc c m i).2,dm)else((Xu c i).1,m,(Xu c i).2)
def df(c:bu)(r:Int):Int:=aV (ir.l c.X) r.toNat 0
def pN(c:bu)(m:List Int)(i:ib):bu×ly×List Int:=
 bif decide (i.Op>=56)then((Xv c i).1,(Xv c i).2,m)else bif decide (i.Op>=40)then(Z6q c i,dm,m)else bif decide (i.Op>=32)then((GG c m i).1,dm,(GG c m i).2)
 else bif i.Op==24 then({X:=(lF c i.A (eu .u32 (wrap .u32 i.cf) 16)).X,Pc:=wrap .u32 ((lF c i.A (eu .u32 (wrap .u32 i.cf) 16)).Pc+4),C3:=(lF c i.A (eu .u32 (wrap .u32 i.cf) 16)).C3},dm,m)
 else bif decide (i.Op<=13)then
  ({X:=(lF c i.A (DJ i.Op (df c i.B) (df c i.C)).1).X,Pc:=wrap .u32 ((lF c i.A (DJ i.Op (df c i.B) (df c i.C)).1).Pc+4),C3:=(lF c i.A (DJ i.Op (df c i.B) (df c i.C)).1).C3},dm,m)
 else({X:=(lF c i.A (DJ i.Op (df c i.B) (wrap .u32 i.cf)).1).X,Pc:=wrap .u32 ((lF c i.A (DJ i.Op (df c i.B) (wrap .u32 i.cf)).1).Pc+4),C3:=(lF c i.A (DJ i.Op (df c i.B) (wrap .u32 i.cf)).1).C3},dm,m)
def o9(op:Int):Prop:=op=1\/op=2\/op=3\/op=4\/op=5\/op=6\/op=7\/op=8\/op=9\/op=10\/op=11\/op=12\/op=13\/op=16\/op=17\/op=18\/op=19\/op=20\/op=21\/op=22\/op=23\/op=24\/op=32\/op=33\/op=34\/op=35\/op=36\/op=40\/op=41\/op=42\/op=43\/op=44\/op=45\/op=48\/op=49\/op=56\/op=57\/op=58\/op=59\/op=60\/op=61\/op=62\/op=63\/op=64
theorem y3(c:bu)(r v:Int):(lF c r v).Pc=c.Pc/\(lF c r v).C3=c.C3:=by
 simp only[lF,IG,Tree.m]
 cases decide (r>0)
 ·exact⟨rfl,rfl⟩
 ·cases decide (r<16)<;>exact⟨rfl,rfl⟩
def II(c:bu):bu:={X:=c.X,Pc:=wrap .u32 (c.Pc+4),C3:=c.C3}
def va(c:bu)(B cf:Int):Int:=wrap .u32 (aV (ir.l c.X) B.toNat 0+wrap .u32 cf)
def Oa(c:bu)(A v size:Int)(f:Int->Int)(y:Int×List Int×Int):bu×List Int:=bif y.2.2 !=0 then(rb c y.2.2 v,y.2.1)else(II (um c A (f (BZ y.2.1 y.1 size).1)),y.2.1)
def Ob(c:bu)(A v size:Int)(f:Int->Int)(x:Int×Int×List Int):bu×List Int:=bif x.2.1 !=0 then(pM c x.2.1 v,x.2.2)else(II (lF c A (f (oL x.2.2 x.1 size).1)),x.2.2)
def Tj(c:bu)(A v size:Int)(y:Int×List Int×Int):bu×List Int:=bif y.2.2 !=0 then(rb c y.2.2 v,y.2.1)else(II c,(K5 y.2.1 y.1 size (aV (ir.l c.X) A.toNat 0)).1)
def Tk(c:bu)(A v size:Int)(x:Int×Int×List Int):bu×List Int:=bif x.2.1 !=0 then(pM c x.2.1 v,x.2.2)else(II c,IE x.2.2 x.1 size (aV (ir.l c.X) A.toNat 0))
theorem Oc(c:bu)(m:List Int)(A B C cf:Int):
 (tA c m ⟨32,A,B,C,cf⟩=Oa c A (va c B cf) 4 (λv=>v) (rK c m (va c B cf) 4 2)/\GG c m ⟨32,A,B,C,cf⟩=Ob c A (va c B cf) 4 (λv=>v) (lQ c m (va c B cf) 4 2))/\
 (tA c m ⟨33,A,B,C,cf⟩=Oa c A (va c B cf) 1 (λv=>DF v 8) (rK c m (va c B cf) 1 2)/\GG c m ⟨33,A,B,C,cf⟩=Ob c A (va c B cf) 1 (λv=>Gz v 8) (lQ c m (va c B cf) 1 2))/\
 (tA c m ⟨34,A,B,C,cf⟩=Oa c A (va c B cf) 1 (λv=>v) (rK c m (va c B cf) 1 2)/\GG c m ⟨34,A,B,C,cf⟩=Ob c A (va c B cf) 1 (λv=>v) (lQ c m (va c B cf) 1 2))/\
 (Cc c m ⟨35,A,B,C,cf⟩=Tj c A (va c B cf) 4 (rK c m (va c B cf) 4 3)/\GG c m ⟨35,A,B,C,cf⟩=Tk c A (va c B cf) 4 (lQ c m (va c B cf) 4 3))/\
 (Cc c m ⟨36,A,B,C,cf⟩=Tj c A (va c B cf) 1 (rK c m (va c B cf) 1 3)/\GG c m ⟨36,A,B,C,cf⟩=Tk c A (va c B cf) 1 (lQ c m (va c B cf) 1 3)):=
 ⟨⟨by kernel_rfl,by kernel_rfl⟩,⟨by kernel_rfl,by kernel_rfl⟩,⟨by kernel_rfl,by kernel_rfl⟩,⟨by kernel_rfl,by kernel_rfl⟩,⟨by kernel_rfl,by kernel_rfl⟩⟩
theorem qak{m:List Int}(h:ep P m)(a:Int):DF (oL m a 1).1 8=Gz (oL m a 1).1 8:=by
 have:∀x:Int×Bool,(∃w,U w/\x=(bb .u32 w 255,true))\/x=(0,false)->DF x.1 8=Gz x.1 8:=λx hx=>by
  rcases hx with⟨w,hw,rfl⟩|rfl
  ·have e:=BV hw
   exact sx8 (by show 0<=bb .u32 w 255;omega) (by show bb .u32 w 255<256;omega)
  ·rfl
 refine this _ ?_
 simp only[oL,DI,Tree.m,ee]
 cases uk m a 1
 ·exact .inr rfl
 ·exact .inl ⟨_,Ak (AV h.u _) _,rfl⟩
section
variable {P:Nat} {m:List Int} (h:ep P m) {c:bu} (hc:iQ c) (j0:c.C3.a0<=31)
include h hc j0
omit j0 in
theorem Xw(hv:U v)(hs:size=1\/size=4)(access:Int):ep P (lQ c m v size access).2.2/\U (lQ c m v size access).1/\((lQ c m v size access).2.1=0->(lQ c m v size access).1<128*P):=(Tree.pp (Tl h hc hv hs access)).2
theorem Xx(hA:0<=A/\A<16)(hv:U v)(hs:size=1\/size=4){f g:Int->Int}(hf:∀{m':List Int},ep P m'->∀a,f (oL m' a size).1=g (oL m' a size).1):Oa c A v size f (rK c m v size 2)=Ob c A v size g (lQ c m v size 2):=by
 rw[Xs h hc j0 hv hs (.inr (.inl rfl))]
 obtain⟨k,u,_⟩:=Xw h hc hv hs 2
 generalize lQ c m v size 2=x at*
 simp only[Oa,Ob,N1 k u hs,N5 hc.a0.1 j0,Ti c hA,hf k]
theorem yi(hv:U v)(hs:size=1\/size=4):Tj c A v size (rK c m v size 3)=Tk c A v size (lQ c m v size 3):=by
 rw[Xs h hc j0 hv hs (.inr (.inr rfl))]
 obtain⟨k,u,b⟩:=Xw h hc hv hs 3
 have al:=yK (c:=c) (m:=m) hv hs (access:=3) (.inr (.inr rfl))
 generalize lQ c m v size 3=x at*
 simp only[Tj,Tk,Zby k u hs,N5 hc.a0.1 j0,N0 k u hs]
 cases hq:x.2.1 !=0
 ·have hq:x.2.1=0:=by simpa using hq
  rw[dY ⟨al hq,b hq⟩];rfl
 ·rfl
end
theorem vK(c:bu)(k v:Int):(Od c k v).Pc=c.Pc:=by
 simp only[Od,Li,Tree.m]
 repeat'(first|rfl|refine Xt (Q:=λx:bu=>x.Pc=c.Pc) ?_ ?_)
def jf(c:bu)(A v p:Int):bu:={X:=(um c A v).X,Pc:=p,C3:=(um c A v).C3}
def EI(c:bu)(A v p:Int):bu:={X:=(lF c A v).X,Pc:=p,C3:=(lF c A v).C3}
def jJ(c:bu):Int:=wrap .u32 (c.Pc+4)
theorem Oe(c:bu)(hA:0<=A/\A<16)(v p:Int):jf c A v p=EI c A v p:=by
 unfold jf EI;rw[Ti c hA]
theorem Xy(c:bu)(A v:Int):II (lF c A v)=EI c A v (jJ c):=by
 unfold II EI jJ;rw[(y3 c A v).1]
theorem Lj(t:Bool)(x y:bu)(m:List Int):((bif t then(x,dm)else(y,dm)).1,m,(bif t then(x,dm)else(y,dm)).2)=((bif t then x else y),m,dm):=by cases t<;>rfl
def GH(op:Int):Bool:=decide (op=1)||decide (op=2)||decide (op=3)||decide (op=4)||decide (op=5)||decide (op=6)||decide (op=7)||decide (op=8)||decide (op=9)||decide (op=10)||decide (op=11)||decide (op=12)||decide (op=13)||decide (op=16)||decide (op=17)||decide (op=18)||decide (op=19)||decide (op=20)||decide (op=21)||decide (op=22)||decide (op=23)||decide (op=24)||decide (op=32)||decide (op=33)||decide (op=34)||decide (op=35)||decide (op=36)||decide (op=40)||decide (op=41)||decide (op=42)||decide (op=43)||decide (op=44)||decide (op=45)||decide (op=48)||decide (op=49)||decide (op=56)||decide (op=57)||decide (op=58)||decide (op=59)||decide (op=60)||decide (op=61)||decide (op=62)||decide (op=63)||decide (op=64)
section
variable {P:Nat} {m:List Int} (h:ep P m) {c:bu} (hc:iQ c) (j0:c.C3.a0<=31) {A B C cf:Int} (hA:0<=A/\A<16)
include h hc j0 hA
theorem qj(rG:o9 op):jQ c m ⟨op,A,B,C,cf⟩=((pN c m ⟨op,A,B,C,cf⟩).1,(pN c m ⟨op,A,B,C,cf⟩).2.2,(pN c m ⟨op,A,B,C,cf⟩).2.1):=by
 have pb:∀{k y:Int},1<=k->k<=23->U y->((jf c A (nF k (df c B) y).1 (jJ c),m,dm):bu×List Int×ly)=(II (lF c A (DJ k (df c B) y).1),m,dm):=λh1 h2 hy=>by
  rw[zK h1 h2 (show U (df c B) from hc.r _) hy,Xy,Oe c hA]
 have uC:U (df c C):=hc.r _
 have uI:U (wrap .u32 cf):=fp _
 obtain⟨⟨l1,l2⟩,⟨l3,l4⟩,⟨l5,l6⟩,⟨l7,l8⟩,⟨l9,l10⟩⟩:=Oc c m A B C cf
 have DK:U (va c B cf):=fp _
 rcases rG with rfl|rfl|rfl|rfl|rfl|rfl|rfl|rfl|rfl|rfl|rfl|rfl|rfl|rfl|rfl|rfl|rfl|rfl|rfl|rfl|rfl|rfl|rfl|rfl|rfl|rfl|rfl|rfl|rfl|rfl|rfl|rfl|rfl|rfl|rfl|rfl|rfl|rfl|rfl|rfl|rfl|rfl|rfl|rfl
 ·exact(show jQ c m ⟨1,A,B,C,cf⟩=(jf c A (nF 1 (df c B) (df c C)).1 (jJ c),m,dm) by kernel_rfl).trans ((pb (by decide) (by decide) uC).trans (by kernel_rfl))
 ·exact(show jQ c m ⟨2,A,B,C,cf⟩=(jf c A (nF 2 (df c B) (df c C)).1 (jJ c),m,dm) by kernel_rfl).trans ((pb (by decide) (by decide) uC).trans (by kernel_rfl))
 ·exact(show jQ c m ⟨3,A,B,C,cf⟩=(jf c A (nF 3 (df c B) (df c C)).1 (jJ c),m,dm) by kernel_rfl).trans ((pb (by decide) (by decide) uC).trans (by kernel_rfl))
 ·exact(show jQ c m ⟨4,A,B,C,cf⟩=(jf c A (nF 4 (df c B) (df c C)).1 (jJ c),m,dm) by kernel_rfl).trans ((pb (by decide) (by decide) uC).trans (by kernel_rfl))
 ·exact(show jQ c m ⟨5,A,B,C,cf⟩=(jf c A (nF 5 (df c B) (df c C)).1 (jJ c),m,dm) by kernel_rfl).trans ((pb (by decide) (by decide) uC).trans (by kernel_rfl))
 ·exact(show jQ c m ⟨6,A,B,C,cf⟩=(jf c A (nF 6 (df c B) (df c C)).1 (jJ c),m,dm) by kernel_rfl).trans ((pb (by decide) (by decide) uC).trans (by kernel_rfl))
 ·exact(show jQ c m ⟨7,A,B,C,cf⟩=(jf c A (nF 7 (df c B) (df c C)).1 (jJ c),m,dm) by kernel_rfl).trans ((pb (by decide) (by decide) uC).trans (by kernel_rfl))
 ·exact(show jQ c m ⟨8,A,B,C,cf⟩=(jf c A (nF 8 (df c B) (df c C)).1 (jJ c),m,dm) by kernel_rfl).trans ((pb (by decide) (by decide) uC).trans (by kernel_rfl))
 ·exact(show jQ c m ⟨9,A,B,C,cf⟩=(jf c A (nF 9 (df c B) (df c C)).1 (jJ c),m,dm) by kernel_rfl).trans ((pb (by decide) (by decide) uC).trans (by kernel_rfl))
 ·exact(show jQ c m ⟨10,A,B,C,cf⟩=(jf c A (nF 10 (df c B) (df c C)).1 (jJ c),m,dm) by kernel_rfl).trans ((pb (by decide) (by decide) uC).trans (by kernel_rfl))
 ·exact(show jQ c m ⟨11,A,B,C,cf⟩=(jf c A (nF 11 (df c B) (df c C)).1 (jJ c),m,dm) by kernel_rfl).trans ((pb (by decide) (by decide) uC).trans (by kernel_rfl))
 ·exact(show jQ c m ⟨12,A,B,C,cf⟩=(jf c A (nF 12 (df c B) (df c C)).1 (jJ c),m,dm) by kernel_rfl).trans ((pb (by decide) (by decide) uC).trans (by kernel_rfl))
 ·exact(show jQ c m ⟨13,A,B,C,cf⟩=(jf c A (nF 13 (df c B) (df c C)).1 (jJ c),m,dm) by kernel_rfl).trans ((pb (by decide) (by decide) uC).trans (by kernel_rfl))
 ·exact(show jQ c m ⟨16,A,B,C,cf⟩=(jf c A (nF 16 (df c B) (wrap .u32 cf)).1 (jJ c),m,dm) by kernel_rfl).trans ((pb (by decide) (by decide) uI).trans (by kernel_rfl))
 ·exact(show jQ c m ⟨17,A,B,C,cf⟩=(jf c A (nF 17 (df c B) (wrap .u32 cf)).1 (jJ c),m,dm) by kernel_rfl).trans ((pb (by decide) (by decide) uI).trans (by kernel_rfl))
 ·exact(show jQ c m ⟨18,A,B,C,cf⟩=(jf c A (nF 18 (df c B) (wrap .u32 cf)).1 (jJ c),m,dm) by kernel_rfl).trans ((pb (by decide) (by decide) uI).trans (by kernel_rfl))
 ·exact(show jQ c m ⟨19,A,B,C,cf⟩=(jf c A (nF 19 (df c B) (wrap .u32 cf)).1 (jJ c),m,dm) by kernel_rfl).trans ((pb (by decide) (by decide) uI).trans (by kernel_rfl))
 ·exact(show jQ c m ⟨20,A,B,C,cf⟩=(jf c A (nF 20 (df c B) (wrap .u32 cf)).1 (jJ c),m,dm) by kernel_rfl).trans ((pb (by decide) (by decide) uI).trans (by kernel_rfl))
 ·exact(show jQ c m ⟨21,A,B,C,cf⟩=(jf c A (nF 21 (df c B) (wrap .u32 cf)).1 (jJ c),m,dm) by kernel_rfl).trans ((pb (by decide) (by decide) uI).trans (by kernel_rfl))
 ·exact(show jQ c m ⟨22,A,B,C,cf⟩=(jf c A (nF 22 (df c B) (wrap .u32 cf)).1 (jJ c),m,dm) by kernel_rfl).trans ((pb (by decide) (by decide) uI).trans (by kernel_rfl))
 ·exact(show jQ c m ⟨23,A,B,C,cf⟩=(jf c A (nF 23 (df c B) (wrap .u32 cf)).1 (jJ c),m,dm) by kernel_rfl).trans ((pb (by decide) (by decide) uI).trans (by kernel_rfl))
 ·refine(show jQ c m ⟨24,A,B,C,cf⟩=(jf c A (eu .u32 (wrap .u32 cf) 16) (jJ c),m,dm) by kernel_rfl).trans ?_
  rw[Oe c hA,<-Xy];kernel_rfl
 ·have e:=Xx h hc j0 hA DK (.inr rfl) (f:=λv=>v) (g:=λv=>v) (λ_ _=>rfl)
  rw[<-l1,<-l2]at e
  refine(show jQ c m ⟨32,A,B,C,cf⟩=((tA c m ⟨32,A,B,C,cf⟩).1,(tA c m ⟨32,A,B,C,cf⟩).2,dm) by kernel_rfl).trans ?_
  rw[e];kernel_rfl
 ·have e:=Xx h hc j0 hA DK (.inl rfl) (f:=λv=>DF v 8) (g:=λv=>Gz v 8) (λhm a=>qak hm a)
  rw[<-l3,<-l4]at e
  refine(show jQ c m ⟨33,A,B,C,cf⟩=((tA c m ⟨33,A,B,C,cf⟩).1,(tA c m ⟨33,A,B,C,cf⟩).2,dm) by kernel_rfl).trans ?_
  rw[e];kernel_rfl
 ·have e:=Xx h hc j0 hA DK (.inl rfl) (f:=λv=>v) (g:=λv=>v) (λ_ _=>rfl)
  rw[<-l5,<-l6]at e
  refine(show jQ c m ⟨34,A,B,C,cf⟩=((tA c m ⟨34,A,B,C,cf⟩).1,(tA c m ⟨34,A,B,C,cf⟩).2,dm) by kernel_rfl).trans ?_
  rw[e];kernel_rfl
 ·have e:=yi h hc j0 (A:=A) DK (.inr rfl)
  rw[<-l7,<-l8]at e
  refine(show jQ c m ⟨35,A,B,C,cf⟩=((Cc c m ⟨35,A,B,C,cf⟩).1,(Cc c m ⟨35,A,B,C,cf⟩).2,dm) by kernel_rfl).trans ?_
  rw[e];kernel_rfl
 ·have e:=yi h hc j0 (A:=A) DK (.inl rfl)
  rw[<-l9,<-l10]at e
  refine(show jQ c m ⟨36,A,B,C,cf⟩=((Cc c m ⟨36,A,B,C,cf⟩).1,(Cc c m ⟨36,A,B,C,cf⟩).2,dm) by kernel_rfl).trans ?_
  rw[e];kernel_rfl
 ·exact(show jQ c m ⟨40,A,B,C,cf⟩=((bif(re 40 (df c A) (df c B))then((⟨c.X,wrap .u32 (c.Pc+wrap .u32 (4*wrap .u32 cf)),c.C3⟩:bu),dm)else(⟨c.X,jJ c,c.C3⟩,dm)).1,m,(bif(re 40 (df c A) (df c B))then((⟨c.X,wrap .u32 (c.Pc+wrap .u32 (4*wrap .u32 cf)),c.C3⟩:bu),dm)else(⟨c.X,jJ c,c.C3⟩,dm)).2) by kernel_rfl).trans ((Lj (re 40 (df c A) (df c B)) ⟨c.X,wrap .u32 (c.Pc+wrap .u32 (4*wrap .u32 cf)),c.C3⟩ ⟨c.X,jJ c,c.C3⟩ m).trans (by kernel_rfl))
 ·exact(show jQ c m ⟨41,A,B,C,cf⟩=((bif(re 41 (df c A) (df c B))then((⟨c.X,wrap .u32 (c.Pc+wrap .u32 (4*wrap .u32 cf)),c.C3⟩:bu),dm)else(⟨c.X,jJ c,c.C3⟩,dm)).1,m,(bif(re 41 (df c A) (df c B))then((⟨c.X,wrap .u32 (c.Pc+wrap .u32 (4*wrap .u32 cf)),c.C3⟩:bu),dm)else(⟨c.X,jJ c,c.C3⟩,dm)).2) by kernel_rfl).trans ((Lj (re 41 (df c A) (df c B)) ⟨c.X,wrap .u32 (c.Pc+wrap .u32 (4*wrap .u32 cf)),c.C3⟩ ⟨c.X,jJ c,c.C3⟩ m).trans (by kernel_rfl))
 ·exact(show jQ c m ⟨42,A,B,C,cf⟩=((bif(re 42 (df c A) (df c B))then((⟨c.X,wrap .u32 (c.Pc+wrap .u32 (4*wrap .u32 cf)),c.C3⟩:bu),dm)else(⟨c.X,jJ c,c.C3⟩,dm)).1,m,(bif(re 42 (df c A) (df c B))then((⟨c.X,wrap .u32 (c.Pc+wrap .u32 (4*wrap .u32 cf)),c.C3⟩:bu),dm)else(⟨c.X,jJ c,c.C3⟩,dm)).2) by kernel_rfl).trans ((Lj (re 42 (df c A) (df c B)) ⟨c.X,wrap .u32 (c.Pc+wrap .u32 (4*wrap .u32 cf)),c.C3⟩ ⟨c.X,jJ c,c.C3⟩ m).trans (by kernel_rfl))
 ·exact(show jQ c m ⟨43,A,B,C,cf⟩=((bif(re 43 (df c A) (df c B))then((⟨c.X,wrap .u32 (c.Pc+wrap .u32 (4*wrap .u32 cf)),c.C3⟩:bu),dm)else(⟨c.X,jJ c,c.C3⟩,dm)).1,m,(bif(re 43 (df c A) (df c B))then((⟨c.X,wrap .u32 (c.Pc+wrap .u32 (4*wrap .u32 cf)),c.C3⟩:bu),dm)else(⟨c.X,jJ c,c.C3⟩,dm)).2) by kernel_rfl).trans ((Lj (re 43 (df c A) (df c B)) ⟨c.X,wrap .u32 (c.Pc+wrap .u32 (4*wrap .u32 cf)),c.C3⟩ ⟨c.X,jJ c,c.C3⟩ m).trans (by kernel_rfl))
 ·exact(show jQ c m ⟨44,A,B,C,cf⟩=((bif(re 44 (df c A) (df c B))then((⟨c.X,wrap .u32 (c.Pc+wrap .u32 (4*wrap .u32 cf)),c.C3⟩:bu),dm)else(⟨c.X,jJ c,c.C3⟩,dm)).1,m,(bif(re 44 (df c A) (df c B))then((⟨c.X,wrap .u32 (c.Pc+wrap .u32 (4*wrap .u32 cf)),c.C3⟩:bu),dm)else(⟨c.X,jJ c,c.C3⟩,dm)).2) by kernel_rfl).trans ((Lj (re 44 (df c A) (df c B)) ⟨c.X,wrap .u32 (c.Pc+wrap .u32 (4*wrap .u32 cf)),c.C3⟩ ⟨c.X,jJ c,c.C3⟩ m).trans (by kernel_rfl))
 ·exact(show jQ c m ⟨45,A,B,C,cf⟩=((bif(re 45 (df c A) (df c B))then((⟨c.X,wrap .u32 (c.Pc+wrap .u32 (4*wrap .u32 cf)),c.C3⟩:bu),dm)else(⟨c.X,jJ c,c.C3⟩,dm)).1,m,(bif(re 45 (df c A) (df c B))then((⟨c.X,wrap .u32 (c.Pc+wrap .u32 (4*wrap .u32 cf)),c.C3⟩:bu),dm)else(⟨c.X,jJ c,c.C3⟩,dm)).2) by kernel_rfl).trans ((Lj (re 45 (df c A) (df c B)) ⟨c.X,wrap .u32 (c.Pc+wrap .u32 (4*wrap .u32 cf)),c.C3⟩ ⟨c.X,jJ c,c.C3⟩ m).trans (by kernel_rfl))
 ·refine(show jQ c m ⟨48,A,B,C,cf⟩=(jf c A (jJ c) (wrap .u32 ((um c A (jJ c)).Pc+wrap .u32 (4*wrap .u32 cf))),m,dm) by kernel_rfl).trans ?_
  rw[Oe c hA,Ti c hA,(y3 c A (jJ c)).1];kernel_rfl
 ·refine(show jQ c m ⟨49,A,B,C,cf⟩=(jf c A (jJ c) (va c B cf),m,dm) by kernel_rfl).trans ?_
  rw[Oe c hA];kernel_rfl
 ·refine(show jQ c m ⟨56,A,B,C,cf⟩=(rb c 7 0,m,dm) by kernel_rfl).trans ?_
  rw[N5 hc.a0.1 j0];kernel_rfl
 ·refine(show jQ c m ⟨57,A,B,C,cf⟩=(KS c,m,dm) by kernel_rfl).trans ?_
  rw[Zow hc.a0.1 j0];kernel_rfl
 ·refine(show jQ c m ⟨58,A,B,C,cf⟩=(jf c A (aV (A8.l c.C3) cf.toNat 0) (jJ c),m,dm) by kernel_rfl).trans ?_
  rw[Oe c hA,<-Xy];kernel_rfl
 ·have e:=vK c (wrap .i64 cf) (df c A)
  refine(show jQ c m ⟨59,A,B,C,cf⟩=((⟨(Od c (wrap .i64 cf) (df c A)).X,wrap .u32 (c.Pc+4),(Od c (wrap .i64 cf) (df c A)).C3⟩:bu),m,dm) by kernel_rfl).trans ?_
  rw[<-e];kernel_rfl
 ·exact(show jQ c m ⟨60,A,B,C,cf⟩=((pN c m ⟨60,A,B,C,cf⟩).1,(pN c m ⟨60,A,B,C,cf⟩).2.2,(pN c m ⟨60,A,B,C,cf⟩).2.1) by kernel_rfl)
 ·exact(show jQ c m ⟨61,A,B,C,cf⟩=((pN c m ⟨61,A,B,C,cf⟩).1,(pN c m ⟨61,A,B,C,cf⟩).2.2,(pN c m ⟨61,A,B,C,cf⟩).2.1) by kernel_rfl)
 ·exact(show jQ c m ⟨62,A,B,C,cf⟩=((pN c m ⟨62,A,B,C,cf⟩).1,(pN c m ⟨62,A,B,C,cf⟩).2.2,(pN c m ⟨62,A,B,C,cf⟩).2.1) by kernel_rfl)
 ·exact(show jQ c m ⟨63,A,B,C,cf⟩=((pN c m ⟨63,A,B,C,cf⟩).1,(pN c m ⟨63,A,B,C,cf⟩).2.2,(pN c m ⟨63,A,B,C,cf⟩).2.1) by kernel_rfl)
 ·exact(show jQ c m ⟨64,A,B,C,cf⟩=((pN c m ⟨64,A,B,C,cf⟩).1,(pN c m ⟨64,A,B,C,cf⟩).2.2,(pN c m ⟨64,A,B,C,cf⟩).2.1) by kernel_rfl)
end
theorem zak(h0:0<=op)(h1:op<256)(h:oK op≠0):o9 op:=by
 have e:=oY (EF (λop=>decide (oK op=0\/GH op=true)) 256 (by kernel_rfl) h0 h1)
 rcases e with e|e
 ·exact absurd e h
 ·simpa only[GH,o9,aT,decide_eq_true_eq,or_assoc]using e
theorem xj(o:o9 op):1<=op/\op<=64:=by
 unfold o9 at o
 rcases o with h|h|h|h|h|h|h|h|h|h|h|h|h|h|h|h|h|h|h|h|h|h|h|h|h|h|h|h|h|h|h|h|h|h|h|h|h|h|h|h|h|h|h|h<;>(rw[h];decide)
theorem zj(hw:U w):(AU w).2=true->o9 (AU w).1.Op:=by
 have ui:bc .u32 w 24=w/16777216:=by have:=DB (a:=w) 24 (by decide);simpa using this
 obtain⟨w0,w1⟩:=hw
 have eo:wrap .i64 (w/16777216)=w/16777216:=H7 (by omega) (by omega)
 have q:(λr:ib×Bool=>r.2=true->o9 r.1.Op) (AU w):=by
  simp only[AU,K0,Tree.m,ee,ui,eo]
  cases hf:oK (w/16777216)==0
  ·have g:o9 (w/16777216):=zak (by omega) (by omega) (by simpa using hf)
   repeat'(first
    |exactλ_=>g
    |exactλe=>eH (show false=true from e)
    |refine Xt (Q:=λr:ib×Bool=>r.2=true->o9 r.1.Op) ?_ ?_)
  ·exactλe=>eH (show false=true from e)
 exact q
section
variable (c:bu) (m:List Int)
def Tm(x:Int×Int×List Int)(w:Int)(d:ib×Bool):bu×ly×List Int:=
 bif x.2.1 !=0 then(pM c x.2.1 c.Pc,dm,x.2.2)else bif !d.2 then(pM c 1 w,dm,x.2.2)else bif KW d.1.Op then(bif bb .u32 c.C3.a0 1==0 then(pM c 2 w,dm,x.2.2)else pN c x.2.2 d.1)else pN c x.2.2 d.1
def Of(y:Int×List Int×Int)(d:ib×Bool):bu×List Int×ly:=
 bif y.2.2 !=0 then(rb c y.2.2 c.Pc,y.2.1,dm)else bif !d.2 then(rb c 1 y.1,y.2.1,dm)else bif NW d.1.Op then(bif !IF c then(rb c 2 y.1,y.2.1,dm)else jQ c y.2.1 d.1)else jQ c y.2.1 d.1
theorem Og:AW c m=Tm c (lQ c m c.Pc 4 1) (oL (lQ c m c.Pc 4 1).2.2 (lQ c m c.Pc 4 1).1 4).1 (AU (oL (lQ c m c.Pc 4 1).2.2 (lQ c m c.Pc 4 1).1 4).1):=by kernel_rfl
theorem xak:Cd c m=Of c (Tn c m) (NZ (Tn c m).1):=by kernel_rfl
theorem qL:Tn c m=bif(rK c m c.Pc 4 1).2.2 !=0 then(0,(rK c m c.Pc 4 1).2.1,(rK c m c.Pc 4 1).2.2)else((BZ (rK c m c.Pc 4 1).2.1 (rK c m c.Pc 4 1).1 4).1,(rK c m c.Pc 4 1).2.1,0):=by kernel_rfl
end
theorem yj{m:List Int}(h:ep P m)(hc:iQ c)(j0:c.C3.a0<=31):Cd c m=((AW c m).1,(AW c m).2.2,(AW c m).2.1):=by
 obtain⟨k,u,b⟩:=Xw h hc hc.pc (.inr rfl) 1
 have tr:∀k b,rb c k b=pM c k b:=N5 hc.a0.1 j0
 rw[xak,Og,qL,Xs h hc j0 hc.pc (.inr rfl) (.inl rfl)]
 generalize lQ c m c.Pc 4 1=x at*
 cases hx:x.2.1 !=0
 ·rw [N1 k u (.inr rfl)]
  have hw:U (oL x.2.2 x.1 4).1:=(Tree.pp (Oh k u (.inr rfl))).2
  generalize(oL x.2.2 x.1 4).1=w at*
  show Of c (w,x.2.2,0) (NZ w)=_
  rw[vg hw]
  have o:=zj hw
  have i:=Tree.post _ (Zpc w)
  change(AU w).2=true->sA (AU w).1 at i
  generalize AU w=d at*
  obtain⟨⟨op,A,B,C,cf⟩,ok⟩:=d
  cases ok
  ·simp only[Of,Tm,hx,tr];rfl
  ·have o:o9 op:=o rfl
   have i:=i rfl
   have p:=qj (C:=C) (B:=B) (cf:=cf) k hc j0 i.a o
   have pv:NW op=KW op:=xai (by have:=xj o;omega) (by have:=xj o;omega)
   have kn:(!IF c)=(bb .u32 c.C3.a0 1==0):=by
    show(!(!(bb .u32 c.C3.a0 1==0)))=_
    exact Bool.not_not _
   simp only[Of,Tm,hx,tr,pv,kn,p]
   cases KW op
   ·rfl
   ·cases bb .u32 c.C3.a0 1==0<;>rfl
 ·simp only[Of,Tm,hx,cond_true,tr]
theorem qk{a b:Int}:decide (a>=b)=!decide (a<b):=by
 by_cases h:a<b
 ·rw[dY h,dN (by omega)];rfl
 ·rw[dN h,dY (by omega)];rfl
def bits(g:Int)(l:List Nat)(s:Int):Int:=l.foldl (λ(a:Int) (i:Nat)=>wrap .i64 (a+wrap .i64 (bb .u32 (bc .u32 g (i:Int)) 1))) s
theorem xL(b:gm):Lk b=bits b.D0 [0,1,2,3,4,5,6,7,8,9,10,11,12,13,14,15,16,17,18,19,20,21,22,23,24,25,26,27,28,29,30,31] 0:=by kernel_rfl
theorem zaF(hg:U g){i:Nat}(hi:i<=32):wrap .i64 (bb .u32 (bc .u32 g (i:Int)) 1)=g/2^i%2:=by
 rw[EJ (Ak hg _),DB i hi]
 have:0<=g/2^i%2/\g/2^i%2<2:=by omega
 exact H7 (by omega) (by omega)
theorem zL(hg:U g)(l:List Nat):∀s:Int,(∀i∈l,i<=32)->0<=s->s+l.length<=1000->bits g l s=s+(l.map λi=>g/2^i%2).sum:=by
 induction l with
 |nil=>intro s _ _ _;simp[bits]
 |cons i l ih=>
  intro s hl h0 h1
  have h1:s+(l.length+1)<=1000:=by simpa using h1
  have hb:0<=g/2^i%2/\g/2^i%2<2:=by omega
  have e:bits g (i::l) s=bits g l (s+g/2^i%2):=by
   show bits g l (wrap .i64 (s+wrap .i64 (bb .u32 (bc .u32 g (i:Int)) 1)))=_
   rw[zaF hg (hl i (by simp)),H7 (by omega) (by omega)]
  rw[e,ih _ (λj hj=>hl j (by simp[hj])) (by omega) (by omega)]
  simp;omega
theorem Zsn(n:gz)(port:Int):KQ n port=To n port:=by
 simp only[KQ,NR,To,Oi,Tree.m]
 cases n.D2<;>cases n.C4<;>rfl
theorem Z9g(t:iV):AQ t=Tp t:=by
 simp only[AQ,S1,Tp,Xz,Tree.m]
 cases t.F1<;>cases t.D9<;>rfl
theorem Zll(n:gz)(p:Int):wh n p=Tq n p:=by
 simp only[wh,Qs,Tq,Qp,Tree.m]
 cases n.D2<;>cases n.C4<;>rfl
theorem Zg4(d:fv)(p:Int):ra d p=Ts d p:=by
  simp only[ra,Ez,SZ,NL,Ts,XA,Tree.m,ee,qk]
  cases decide (d.ae>64)
  . by_cases s:d.C9=0\/d.C9=1\/d.C9=2\/d.C9=3
    . rcases s with s|s|s|s<;>rw[s]
      . rfl
      . by_cases c1:d.F6=1
        . rw[c1];cases decide (d.C5<d.ae)<;>cases decide (wrap .i64 d.C6<p)<;>cases decide (d.C7=[])<;>rfl
        . by_cases c2:d.F6=2
          . rw[c2];cases decide (d.C5<d.ae)<;>cases decide (wrap .i64 d.C6<p)<;>cases(d.C7.length:Int)==128<;>rfl
          . rw[show(d.F6==1)=false by simpa using c1,show(d.F6==2)=false by simpa using c2]
            cases decide (d.C5<d.ae)<;>cases decide (wrap .i64 d.C6<p)<;>rfl
      . rfl
      . rfl
    . rw[show(d.C9==0)=false by simp;omega,show(d.C9==1)=false by simp;omega,show(d.C9==2)=false by simp;omega,show(d.C9==3)=false by simp;omega]
      by_cases n:d.C9<0
      . rw[dY n];rfl
      . rw[dN n,dY (show d.C9>3 by omega)];rfl
  . rfl
theorem yL(c:iH):Tt c=Tu c:=by
 show(!decide (c.E0=[]))=decide ((c.E0.length:Int)>0)
 cases c.E0 with
 |nil=>rfl
 |cons a l=>rw[dN (by simp),dY (by simp)];rfl
theorem qal(k:List UInt8):decide (k=[])=((k.length:Int)==0):=by
 cases k with
 |nil=>rfl
 |cons a l=>
  rw[dN (by simp)]
  exact(beq_eq_false_iff_ne.2 (by simp;omega)).symm
theorem Zs1(c:iH)(port:Int):XB c port=Ll c port:=by
 simp only[XB,Ir,Ll,GI,Tree.m,qal]
 cases port==0
 ·rfl
 ·cases(c.E0.length:Int)==0<;>rfl
theorem vL(t:iV)(v:Int):NM t v=XC v:=by
 simp only[NM,S0,XC,XD,Tree.m]
 cases h:v==0
 ·rw[show(v !=0)=true by simp only[bne,h];rfl];rfl
 ·rw[show(v !=0)=false by simp only[bne,h];rfl,eq_of_beq h];rfl
section
variable {P:Nat} {m:List Int} (h:ep P m)
include h
theorem Zu5(f:Int):NJ m f=tB m f:=by
 have a:=ug h
 have b:=DG h
 simp only[NJ,Qj,tB,Oj,Tree.m,ee,a,b]
theorem Zsc(f:Int):KH m f=tB m f:=by
 have a:=ug h
 have b:=DG h
 simp only[KH,SY,tB,Oj,Tree.m,ee,a,b]
theorem Zlx(d:fv)(port v gk:Int):XE d m port v gk=XF d m port v gk:=by
  have pg:=Zu5 h
  have pa:=Zk0 h
  have rq: ∀d a,XG d a=XH d a:=λ_ _=>rfl
  simp only[XE,KJ,Z16,KI,XF,Lm,Tree.m,ee,pg,pa,rq]
  cases port==4
  . cases port==5
    . cases h6:port==6
      . rw[show(port !=6)=true by simp only[bne,h6];rfl];rfl
      . rw [show(port !=6)=false by simp only[bne,h6];rfl]
        by_cases v1:v=1
        . subst v1
          cases hs:d.C9==0
          . rw[show(d.C9 !=0)=true by simp only[bne,hs];rfl];rfl
          . rw[show(d.C9 !=0)=false by simp only[bne,hs];rfl];rfl
        . by_cases v2:v=2
          . subst v2
            cases hs:d.C9==0
            . rw[show(d.C9 !=0)=true by simp only[bne,hs];rfl];rfl
            . rw[show(d.C9 !=0)=false by simp only[bne,hs];rfl];rfl
          . rw[show(v==1)=false by simpa using v1,show(v==2)=false by simpa using v2]
            cases v==0
            . rfl
            . have:KK d=(bif d.C9==2 then true else d.C9==3):=rfl
              rw[this]
              cases d.C9==2<;>cases d.C9==3<;>rfl
    . rfl
  . rfl
theorem Znj(n:gz)(port v gk:Int):XI n m port v gk=XJ n m port v gk:=by
  have pg:=Zsc h
  have pa:=Zk0 h
  simp only[XI,KM,Zh5,KL,XJ,Ln,Tree.m,ee,pg,pa]
  have g1:decide (n.F7>=1)=!decide (n.F7<1):=qk
  have g2:decide (n.F7<=128)=!decide (n.F7>128):=by
    by_cases h:n.F7>128
    . rw[dY h,dN (by omega)];rfl
    . rw[dN h,dY (by omega)];rfl
  rw[g1,g2]
  cases port==7
  . cases port==8
    . cases h9:port==9
      . rw[show(port !=9)=true by simp only[bne,h9];rfl];rfl
      . rw [show(port !=9)=false by simp only[bne,h9];rfl]
        by_cases v1:v=1
        . subst v1
          cases decide (n.F7<1)<;>cases decide (n.F7>128)<;>cases tB m n.Frame<;>rfl
        . by_cases v2:v=2
          . subst v2;rfl
          . rw[show(v==1)=false by simpa using v1,show(v==2)=false by simpa using v2]
            cases v==0<;>rfl
    . rfl
  . rfl
end
def XK:List UInt8:=(cW 256).map λn=>eD (n%2+n/2%2+n/4%2+n/8%2+n/16%2+n/32%2+n/64%2+n/128%2)
def pt(n:Int):Int:=((UInt8.toNat (XK.getD n.toNat 0):Nat):Int)
theorem qM(x:Int):XL x=wrap .i64 (wrap .u8 (wrap .u8 (wrap .u8 (pt (bc .u32 x 24)+pt (bb .u32 (bc .u32 x 16) 255))+pt (bb .u32 (bc .u32 x 8) 255))+pt (bb .u32 x 255))):=by kernel_rfl
theorem Ok(h0:0<=a)(h1:a<256):pt a=a%2+a/2%2+a/4%2+a/8%2+a/16%2+a/32%2+a/64%2+a/128%2:=
 eq_of_beq (EF (λa=>pt a==a%2+a/2%2+a/4%2+a/8%2+a/16%2+a/32%2+a/64%2+a/128%2) 256 (by kernel_rfl) h0 h1)
theorem xk(hg:U g):bits g [0,1,2,3,4,5,6,7,8,9,10,11,12,13,14,15,16,17,18,19,20,21,22,23,24,25,26,27,28,29,30,31] 0=pt (g%256)+pt (g/256%256)+pt (g/65536%256)+pt (g/16777216):=by
 rw[zL hg _ 0 (by decide) (by decide) (by decide),Ok (by omega) (by omega),Ok (by omega) (by omega),Ok (by omega) (by omega),Ok (by have:=hg.1;omega) (by have:=hg.2;omega)]
 obtain⟨g0,g1⟩:=hg
 simp only[List.map_cons,List.map_nil,List.sum_cons,List.sum_nil]
 have e:∀i j:Nat,∀k:Int,i<8->k=2^j->g/2^(i+j)%2=(g/k%256)/2^i%2:=λi j k hi hk=>by
  subst hk
  rw[Nat.add_comm,dL,<-eI (dK (dI (by decide)))]
  generalize g/2^j=x
  have:i=0\/i=1\/i=2\/i=3\/i=4\/i=5\/i=6\/i=7:=by omega
  rcases this with rfl|rfl|rfl|rfl|rfl|rfl|rfl|rfl<;>simp<;>omega
 have e0:∀i:Nat,i<8->g/2^i%2=(g%256)/2^i%2:=λi hi=>by have:=e i 0 1 hi rfl;simpa using this
 have e24:g/16777216%256=g/16777216:=by omega
 rw[e0 0 (by decide),e0 1 (by decide),e0 2 (by decide),e0 3 (by decide),e0 4 (by decide),e0 5 (by decide),e0 6 (by decide),e0 7 (by decide)]
 rw[e 0 8 256 (by decide) (by decide),e 1 8 256 (by decide) (by decide),e 2 8 256 (by decide) (by decide),e 3 8 256 (by decide) (by decide),e 4 8 256 (by decide) (by decide),e 5 8 256 (by decide) (by decide),e 6 8 256 (by decide) (by decide),e 7 8 256 (by decide) (by decide)]
 rw[e 0 16 65536 (by decide) (by decide),e 1 16 65536 (by decide) (by decide),e 2 16 65536 (by decide) (by decide),e 3 16 65536 (by decide) (by decide),e 4 16 65536 (by decide) (by decide),e 5 16 65536 (by decide) (by decide),e 6 16 65536 (by decide) (by decide),e 7 16 65536 (by decide) (by decide)]
 rw[e 0 24 16777216 (by decide) (by decide),e 1 24 16777216 (by decide) (by decide),e 2 24 16777216 (by decide) (by decide),e 3 24 16777216 (by decide) (by decide),e 4 24 16777216 (by decide) (by decide),e 5 24 16777216 (by decide) (by decide),e 6 24 16777216 (by decide) (by decide),e 7 24 16777216 (by decide) (by decide),e24]
 generalize g%256=a
 generalize g/256%256=b
 generalize g/65536%256=c
 generalize g/16777216=d
 simp only[show(2:Int)^0=1 from rfl,show(2:Int)^1=2 from rfl,show(2:Int)^2=4 from rfl,show(2:Int)^3=8 from rfl,show(2:Int)^4=16 from rfl,show(2:Int)^5=32 from rfl,show(2:Int)^6=64 from rfl,show(2:Int)^7=128 from rfl,Int.ediv_one]
 omega
theorem wu(h0:0<=a)(h1:a<256):0<=pt a/\pt a<=8:=by rw[Ok h0 h1];omega
theorem Zcp(hg:U b.D0):Tv b=Lk b/\0<=Lk b/\Lk b<=32:=by
 obtain⟨s8,AT,ui⟩:=GB b.D0
 have u8:U (bc .u32 b.D0 8):=Ak hg _
 have u16:U (bc .u32 b.D0 16):=Ak hg _
 have e:Tv b=XL b.D0:=rfl
 rw[e,qM,xL,xk hg,BV u8,BV u16,BV hg,s8,AT,ui]
 obtain⟨g0,g1⟩:=hg
 have p0:=wu (a:=b.D0%256) (by omega) (by omega)
 have p1:=wu (a:=b.D0/256%256) (by omega) (by omega)
 have p2:=wu (a:=b.D0/65536%256) (by omega) (by omega)
 have p3:=wu (a:=b.D0/16777216) (by omega) (by omega)
 have w8:∀x,wrap .u8 x=x%256:=λx=>wrap_u8 x
 rw[w8,w8,w8,wrap_i64]
 omega
theorem Zlv(h:okB b):Ol b=Om b:=by
 obtain⟨e,l0,l1⟩:=Zcp h.2
 obtain⟨t0,t1⟩:=h.1
 simp only[Ol,Lo,Om,Qa,Tree.m,ee,e]
 rw[wrap_u32,wrap_u64,wrap_u64,dH l0 (by omega),dH l0 (by omega),dH t0 (by omega)]
theorem Zs7(h:okB b)(port:Int):XM b port=Lp b port:=by
 simp only[XM,KR,Lp,Lq,Tree.m,ee,(Zcp h.2).1]
theorem zal(g:Int)(z:Nat):g%2^(z+1)=g%2^z+2^z*(g/2^z%2):=by
 have hp:(0:Int)<2^z:=dI (by decide)
 have h1:=eJ g (2^z)
 have h2:=eJ (g/2^z) 2
 have h3:(g/2^z)/2=g/2^(z+1):=by rw[eK,eI (dK hp)]
 have h4:=eJ g (2^(z+1))
 rw[h3]at h2
 have h5:(2:Int)^(z+1)*(g/2^(z+1))=2^z*(2*(g/2^(z+1))):=by rw[eK,Int.mul_assoc]
 have h6:(2:Int)^z*(g/2^z)=2^z*(2*(g/2^(z+1)))+2^z*(g/2^z%2):=by rw[<-Int.mul_add,h2]
 omega
theorem xaF(hg:U b.D0)(hP:P<=32):(Lr b P).w (λr=>r=decide (b.D0<2^P)):=by
 unfold Lr
 have fin:∀v:Int,0<=v->v<=32->wrap .u64 v=(v.toNat:Int):=λv h0 h1=>by rw[wrap_u64];omega
 refine fj (inv:=λz:Int=>0<=z/\z<=32/\b.D0%2^z.toNat<2^P) (μ:=Tw b P) ⟨by decide,by decide,by have:(0:Int)<2^P:=dI (by decide);simpa using this⟩ (cN _) λz ⟨z0,z1,z2⟩=>?_
 refine ab (λhb=>?_) (λhb=>?_)
 ·have hb:=oY hb
  have ew:i64.wrap (z+1)=z+1:=H7 (by omega) (by omega)
  have bt:bb .u32 (bc .u32 b.D0 (wrap .u64 z)) 1=b.D0/2^z.toNat%2:=by
   rw[fin z z0 z1,EJ (Ak hg _),DB _ (by omega)]
  have bp:=zal b.D0 z.toNat
  have zt:(z+1).toNat=z.toNat+1:=by omega
  refine ax (dY (by rw[wrap_u64];omega)) ?_
  rw[bt]
  refine ab (λe=>ab (λhp=>?_) (λhp=>ei ?_)) (λe=>ei ?_)
  ·have e:=eq_of_beq e
   have hp:=oY hp
   show false=_
   refine(dN λbh=>?_).symm
   have hle:(2:Int)^P<=2^z.toNat:=by exact_mod_cast dO (show 0<2 by decide) (show P<=z.toNat by omega)
   have:b.D0/2^z.toNat=0:=Int.ediv_eq_zero_of_lt hg.1 (by omega)
   rw[this]at e;cases e
  ·have e:=eq_of_beq e
   have hp:=oN hp
   show(0<=i64.wrap (z+1)/\i64.wrap (z+1)<=32/\b.D0%2^(i64.wrap (z+1)).toNat<2^P)/\(32-i64.wrap (z+1)).toNat<(32-z).toNat
   rw[ew,zt]
   have hle:(2:Int)^(z.toNat+1)<=2^P:=by exact_mod_cast dO (show 0<2 by decide) (show z.toNat+1<=P by omega)
   have:=Int.emod_lt_of_pos b.D0 (show(0:Int)<2^(z.toNat+1) from dI (by decide))
   exact⟨⟨by omega,by omega,by omega⟩,by omega⟩
  ·have e:¬b.D0/2^z.toNat%2=1:=by simpa using e
   have e:b.D0/2^z.toNat%2=0:=by omega
   rw[e]at bp
   show(0<=i64.wrap (z+1)/\i64.wrap (z+1)<=32/\b.D0%2^(i64.wrap (z+1)).toNat<2^P)/\(32-i64.wrap (z+1)).toNat<(32-z).toNat
   rw[ew,zt,bp]
   exact⟨⟨by omega,by omega,by omega⟩,by omega⟩
 ·have hb:=oN hb
  have:z=32:=by omega
  subst this
  show true=_
  refine(dY ?_).symm
  have h2:b.D0%2^(32:Int).toNat=b.D0:=dH hg.1 hg.2
  rwa [h2]at z2
theorem Zp(hg:U b.D0)(hP:P<=32):AR b P=Tx b P:=by
 have r:=(Tree.pp (xaF hg hP)).2
 change Tx b P=_ at r
 rw[r,eB,NO hg,decide_eq_true_eq]
theorem On:strings_Repeat [(0:UInt8)] 128=cO 128 0:=by kernel_rfl
theorem qaG{m:List Int}(hm:ep P m){port:Int}(hv:U v)(hp:v<P)(IJ:port=10)(hb:(bb .u32 (bc .u32 b.D0 v) 1==0)=true):(AX b m port v).w (λr=>r.1={A2:=b.A2,D0:=iM .u32 b.D0 (eu .u32 1 v)}/\ep P r.2/\∀k:Nat,lD r.2 k=if v*128<=k/\(k:Int)<v*128+128 then 0 else lD m k):=by
 have Dz:decide (0<=v)=true:=dY hv.1
 have h2:=hm.p2
 have pg:tB m v=true:=by rw[Ty hm hv];exact dY hp
 obtain⟨v1,v2⟩:=hv
 subst IJ
 unfold AX
 refine ab (λ_=>aq λx0 hx=>ab (λ_=>ax Dz (ab (λ_=>ax Dz ?_) (λh=>by rw[hb]at h;cases h))) (λh=>by rw[hx,pg]at h;cases h)) (λh=>by cases h)
 refine fj (inv:=λz=>0<=z.1/\z.1<=32/\ep P z.2/\∀k:Nat,lD z.2 k=if v*128<=k/\(k:Int)<v*128+4*z.1 then 0 else lD m k) (μ:=XN b m 10 v) ⟨show(0:Int)<=0 by decide,show(0:Int)<=32 by decide,hm,λk=>by rw[if_neg];show¬(_/\_<_+4*(0:Int));omega⟩ (cN _) (λz hz=>?_)
 obtain⟨z1,z2,z3,z4⟩:=hz
 have hl:=z3.len
 refine ab (λh=>?_) (λh=>⟨rfl,z3,λk=>?_⟩)
 ·have h:=oY h
  have e:wrap i64 (wrap i64 (wrap i64 v*32)+z.1)=v*32+z.1:=by rw[wrap_i64,wrap_i64,wrap_i64];omega
  refine ax (by rw[e];simp[bN];omega) (ei ?_)
  have ew:i64.wrap (z.1+1)=z.1+1:=by rw[wrap_i64];omega
  show(0<=i64.wrap (z.1+1)/\i64.wrap (z.1+1)<=32/\ep P (dB _ _ _)/\∀k:Nat,lD (dB z.2 (dA (wrap i64 (wrap i64 (wrap i64 v*32)+z.1))) 0) k=if v*128<=(k:Int)/\(k:Int)<v*128+4*i64.wrap (z.1+1)then 0 else _)/\(32-i64.wrap (z.1+1)).toNat<(32-z.1).toNat
  rw[ew,e]
  refine⟨⟨by omega,by omega,⟨by simp[hl],z3.p1,z3.p2,Ew z3.u gj _⟩,λk=>?_⟩,by omega⟩
  rw[zh (by omega)]
  by_cases hc:k/4=(v*32+z.1).toNat
  ·rw[if_pos hc,if_pos (by omega)]
   have:k%4=0\/k%4=1\/k%4=2\/k%4=3:=by omega
   rcases this with h|h|h|h<;>rw[h]<;>rfl
  ·rw[if_neg hc,z4 k]
   by_cases hd:v*128<=(k:Int)/\(k:Int)<v*128+4*z.1
   ·rw[if_pos hd,if_pos (by omega)]
   ·rw[if_neg hd,if_neg (by omega)]
 ·have h:=oN h
  show lD z.2 k=_
  rw[z4 k,show z.1=32 by omega];rfl
theorem XO(hg:U g)(v0:0<=v)(v1:v<32):(bb .u32 g (eu .u32 1 v)==0)=(bb .u32 (bc .u32 g v) 1==0):=by
 obtain⟨z,rfl⟩:∃z:Nat,v=z:=⟨v.toNat,by omega⟩
 obtain⟨n,rfl⟩:∃n:Nat,g=n:=⟨g.toNat,by have:=hg.1;omega⟩
 have hz:z<32:=by omega
 have bh:(2:Nat)^z<4294967296:=by have:=dW (show 1<2 by omega) hz;simpa using this
 rw[EJ (Ak hg _),DB z (by omega),qg v0 v1,dX]
 have hc:((2:Int)^z)=((2^z:Nat):Int):=by simp
 generalize hq:2^z=q at*
 rw[hc,Xa hg ⟨by omega,by omega⟩,dX,dX,<-hq]
 have e1:(n&&&2^z)=0↔n/2^z%2=0:=by
  have t:n.testBit z=decide (n/2^z%2=1):=Nat.testBit_eq_decide_div_mod_eq
  constructor
  ·intro h
   have h2:(n&&&2^z).testBit z=false:=by rw[h];exact eL z
   rw[eM,Nat.testBit_two_pow_self,Bool.and_true,t]at h2
   have:=oN h2
   omega
  ·intro h
   have t0:n.testBit z=false:=by rw[t];exact dN (by omega)
   apply Nat.eq_of_testBit_eq
   intro i
   rw[eM,Nat.testBit_two_pow,eL]
   by_cases hi:z=i
   ·subst hi;rw[t0];rfl
   ·rw[dN hi,Bool.and_false]
 rw[eB,beq_iff_eq,beq_iff_eq]
 constructor
 ·intro h;have:=e1.1 (by omega);omega
 ·intro h;have:=e1.2 (by omega);omega
theorem Zoc{m:List Int}(h:ep P m)(hb:okB b)(port:Int)(hv:U v):GJ b m port v=AY b m port v:=by
  have jn:kF m=m:=rfl
  have hp:=ug h
  have h2:=h.p2
  have ew:i64.wrap v=v:=H7 (by have:=hv.1;omega) (by have:=hv.2;omega)
  have pe:=Ty h hv
  by_cases XP:v<32
  . have bv :=XO hb.2 hv.1 XP
    by_cases IJ:port=10
    . by_cases hP:v<P
      . cases hz:bb .u32 (bc .u32 b.D0 v) 1==0
        . simp only[GJ,DD,AY,AX,Tree.m,ee,jn,hp,ew,pe,bv,hz,IJ,dY hP,dN (show¬v>=32 by omega)]
          rfl
        . obtain⟨g1,g2,g3⟩:=(Tree.pp (qaG h hv hP IJ hz)).2
          change(AY b m port v).1=_ at g1
          change ep P (AY b m port v).2 at g2
          change∀k:Nat,lD (AY b m port v).2 k=_ at g3
          obtain⟨s1,s2,s3⟩:=(Tree.pp (Xh h hv.1 hP (s:=cO 128 0) (by simp))).2
          have em:(rL m v (cO 128 0)).1=(AY b m port v).2:=by
            refine xh (s2.len.trans g2.len.symm) s2.u g2.u λk=> ?_
            rw[g3 k]
            refine(s3 k).trans ?_
            by_cases hk:v*128<=(k:Int)/\(k:Int)<v*128+128
            . rw[if_pos hk,if_pos hk]
              have:(cO 128 (0:UInt8)).getD ((k:Int)-v*128).toNat 0=0:=by
                rw[cX,List.getElem?_replicate]
                split<;>rfl
              rw[this];rfl
            . rw[if_neg hk,if_neg hk]
          have el:GJ b m port v=({A2:=b.A2,D0:=iM .u32 b.D0 (eu .u32 1 v)},(rL m v (cO 128 0)).1):=by
            simp only[GJ,DD,Tree.m,ee,jn,hp,ew,bv,hz,IJ,dY hP,dN (show¬v>=32 by omega),On]
            rfl
          rw[el,em,<-g1]
      . simp only[GJ,DD,AY,AX,Tree.m,ee,jn,hp,ew,pe,IJ,dN hP,dN (show¬v>=32 by omega)]
        rfl
    . simp only[GJ,DD,AY,AX,Tree.m,ee,jn,dY XP,dN (show¬v>=32 by omega),show(port==10)=false by simpa using IJ]
      cases port==11<;>rfl
  . simp only[GJ,DD,AY,AX,Tree.m,ee,jn,pe,dN XP,dY (show v>=32 by omega),dN (show¬v<P by omega)]
    cases port==10<;>cases port==11<;>rfl
structure Ls(m:bg):Prop where
 oh:iQ m.B2
 mem:∀w∈m.Mem,U w
 mn:Ah m.B5
 wm:uh m.D1
 Lt:okB m.A6
 tw:0<=m.B7
theorem Zl6(m:List Int)(hm:∀w∈m,U w):jU m=wq m/\(jU m=0\/∃P:Nat,1<=P/\ep P m):=by
 refine⟨rfl,?_⟩
 simp only[jU,Gs,Tree.m]
 cases h1:cZ (m.length:Int) 32 !=0
 ·cases h2:decide ((m.length:Int)>1024)
  ·have h1:cZ (m.length:Int) 32=0:=by simpa using h1
   have h2:=oN h2
   rw[dZ (by omega)]at h1
   by_cases h0:m.length=0
   ·left;rw[h0];rfl
   ·right;exact⟨m.length/32,by omega,⟨by omega,by omega,by omega,hm⟩⟩
  ·left;rfl
 ·left;rfl
theorem Ce{a x:Bool}:(bif !a then false else x)=true↔a=true/\x=true:=by cases a<;>simp
theorem xM(m:bg):IK m=true↔ ¬(wq m.Mem<1)/\nh m.B2/\Qkg m.B3=true/\Tp m.B9=true/\Ts m.B5 (wq m.Mem)=true/\Tq m.D1 (wq m.Mem)=true/\Tx m.A6 (wq m.Mem)=true/\m.B7<=1152921504606846976/\¬(m.B4=true/\m.B6=true):=by
 simp only[IK,XQ,Tree.m,ee]
 rw[mQ,mQ,mQ,mQ,mQ,mQ,Ce,Ce,Ce,Ce,Ce]
 simp only[decide_eq_false_iff_not,Int.not_lt,bne_eq_false_iff_eq,gt_iff_lt]
 have l:((bif decide (m.B7<=1152921504606846976)then(bif m.B4 then !m.B6 else true)else false)=true)↔m.B7<=1152921504606846976/\¬(m.B4=true/\m.B6=true):=by
  by_cases hc:m.B7<=1152921504606846976
  ·rw[dY hc]
   cases m.B4<;>cases m.B6<;>simp[hc]
  ·rw[dN hc];simp[hc]
 rw[l]
 constructor
 ·rintro⟨a1,a2,a3,a4,a5,a6,a7⟩
  exact⟨by omega,⟨a2,a3,a4,a5,a6⟩,a7⟩
 ·rintro⟨a1,⟨a2,a3,a4,a5,a6⟩,a7⟩
  exact⟨by omega,a2,a3,a4,a5,a6,a7⟩
theorem Zqe{m:bg}(h:Ls m):AS m=IK m:=by
 rw[eB,KV,xM,vZ]
 obtain⟨e,c⟩:=Zl6 m.Mem h.mem
 simp only[aE,<-e]
 rcases c with c|⟨P,hP,hm⟩
 ·constructor
  ·rintro⟨a,_⟩;exact absurd c a
  ·rintro⟨a,_⟩;omega
 ·rw[ug hm,Z9g,Zg4,Zll,Zp h.Lt.2 hm.p2]
  constructor
  ·rintro⟨a1,a2,a3,a4,a5,a6,a7,a8,a9⟩;exact⟨by omega,a2,a5,a6,a7,a8,a9,a3,a4⟩
  ·rintro⟨a1,a2,a5,a6,a7,a8,a9,a3,a4⟩;exact⟨by omega,a2,a3,a4,a5,a6,a7,a8,a9⟩
def Tz(a b c d e:Bool):Int:=iM .u32 (iM .u32 (iM .u32 (iM .u32 (DL a 0) (DL b 1)) (DL c 2)) (DL d 3)) (DL e 4)
theorem IL(m:bg):TA m=Tz (XR m.B9) (Tt m.B3) (KK m.B5) (XS m.D1) (Ol m.A6):=by
 unfold TA Lu
 simp only[Tree.m,ee]
 generalize XR m.B9=a
 generalize Tt m.B3=b
 generalize KK m.B5=c
 generalize XS m.D1=d
 generalize Ol m.A6=e
 cases a<;>cases b<;>cases c<;>cases d<;>cases e<;>kernel_rfl
theorem Ztt(a b c d e:Bool):0<=Tz a b c d e/\Tz a b c d e<32:=by
 cases a<;>cases b<;>cases c<;>cases d<;>cases e<;>decide
theorem Cf(m:bg):Oo m=Tz (XT m.B9) (Tu m.B3) (XU m.B5) (XV m.D1) (Om m.A6):=rfl
section
variable {m:bg} (h:Ls m)
include h
theorem Zrf:TA m=Oo m:=by
 rw[IL,Cf,yL,Zlv h.Lt];rfl
theorem Z23:Lv m=AZ m:=by
 have e:=Zrf h
 simp only[Lv,Lw,AZ,Lx,Tree.m,ee,e]
theorem zk:S7 m=IM m:=by
 have e:=Z23 h
 simp only[S7,Ly,IM,Lz,Tree.m,ee,e]
theorem Zkq:EE m=!GK m:=by
 have e1:=Zqe h
 have e2:=zk h
 have e3:decide (m.B7>=1152921504606846976)=!decide (m.B7<1152921504606846976):=qk
 simp only[EE,Ix,GK,IN,Tree.m,ee,e1,e2,e3]
 cases IK m<;>cases m.B6<;>cases IM m<;>cases decide (m.B7<1152921504606846976)<;>rfl
theorem Zd7:0<=AZ m/\AZ m<32:=by
 have e:AZ m=bb .u32 (Oo m) m.B2.C3.a7:=rfl
 have l:=Ztt (XT m.B9) (Tu m.B3) (XU m.B5) (XV m.D1) (Om m.A6)
 rw[<-Cf]at l
 rw[e,Xa ⟨l.1,by omega⟩ h.oh.a7]
 have:=dV (n:=(Oo m).toNat) (m:=m.B2.C3.a7.toNat)
 omega
def low(l:Int):Int:=if l%2=1 then 0 else if l/2%2=1 then 1 else if l/4%2=1 then 2 else if l/8%2=1 then 3 else 4
end
theorem wv{l:Int}(h0:0<=l)(h1:l<32):l=0\/l=1\/l=2\/l=3\/l=4\/l=5\/l=6\/l=7\/l=8\/l=9\/l=10\/l=11\/l=12\/l=13\/l=14\/l=15\/l=16\/l=17\/l=18\/l=19\/l=20\/l=21\/l=22\/l=23\/l=24\/l=25\/l=26\/l=27\/l=28\/l=29\/l=30\/l=31:=by omega
def IP(m:bg)(l:Int):bu:=bif bb .u32 m.B2.C3.a0 2==0 then m.B2 else bif l==0 then m.B2 else pM m.B2 (wrap .i64 (16+low l)) 0
theorem Oq{m:bg}(h:Ls m):rh m=IP m (AZ m):=by
 obtain⟨l0,l1⟩:=Zd7 h
 unfold rh LA
 simp only[Tree.m,ee]
 revert l0 l1
 generalize AZ m=l
 intro l0 l1
 unfold IP
 cases bb .u32 m.B2.C3.a0 2==0
 ·rcases wv l0 l1 with rfl|rfl|rfl|rfl|rfl|rfl|rfl|rfl|rfl|rfl|rfl|rfl|rfl|rfl|rfl|rfl|rfl|rfl|rfl|rfl|rfl|rfl|rfl|rfl|rfl|rfl|rfl|rfl|rfl|rfl|rfl|rfl<;>kernel_rfl
 ·rfl
def XW(m:bg)(c:bu):bg:={B2:=c,Mem:=m.Mem,B3:=m.B3,B9:=m.B9,B5:=m.B5,D1:=m.D1,A6:=m.A6,B7:=m.B7,B4:=false,B6:=m.B6}
theorem Zrt{m:bg}(h:Ls m)(j0:m.B2.C3.a0<=31):pd m=XW m (rh m):=by
 obtain⟨l0,l1⟩:=Zd7 h
 have tr:∀k b,rb m.B2 k b=pM m.B2 k b:=N5 h.oh.a0.1 j0
 have e:Lv (XW m m.B2)=AZ m:=Z23 (m:=XW m m.B2) ⟨h.oh,h.mem,h.mn,h.wm,h.Lt,h.tw⟩
 rw[Oq h]
 unfold pd Q8
 simp only[Tree.m,ee]
 rw[show Lv {B2:=m.B2,Mem:=m.Mem,B3:=m.B3,B9:=m.B9,B5:=m.B5,D1:=m.D1,A6:=m.A6,B7:=m.B7,B4:=false,B6:=m.B6}=AZ m from e]
 revert l0 l1
 generalize AZ m=l
 intro l0 l1
 unfold IP
 simp only[<-tr]
 cases bb .u32 m.B2.C3.a0 2==0
 ·rcases wv l0 l1 with rfl|rfl|rfl|rfl|rfl|rfl|rfl|rfl|rfl|rfl|rfl|rfl|rfl|rfl|rfl|rfl|rfl|rfl|rfl|rfl|rfl|rfl|rfl|rfl|rfl|rfl|rfl|rfl|rfl|rfl|rfl|rfl<;>(show _=_;kernel_rfl)
 ·rfl
theorem GL{p:Int}:p=0\/p=1\/p=2\/p=3\/p=4\/p=5\/p=6\/p=7\/p=8\/p=9\/p=10\/p=11\/p<0\/12<=p:=by omega
theorem xal{m:bg}(hb:okB m.A6)(port clock:Int):uo m port clock=((DM m port clock).2,(DM m port clock).1):=by
 have e1:=Zs1 m.B3
 have e2:∀p,NQ m.B5 p=XX m.B5 p:=λ_=>rfl
 have e3:=Zsn m.D1
 have e4:=Zs7 hb
 have e5:W4 m.B9=XY m.B9:=rfl
 simp only[uo,KP,DM,Nk,Tree.m,ee,e1,e2,e3,e4,e5]
 rcases GL (p:=port)with rfl|rfl|rfl|rfl|rfl|rfl|rfl|rfl|rfl|rfl|rfl|rfl|h|h
 all_goals first|rfl|skip
 ·have n:∀k:Int,0<=k->(port==k)=false:=λk hk=>beq_eq_false_iff_ne.2 (by omega)
  have c:Ll m.B3 port=(m.B3,0):=by
   simp only[Ll,GI,Tree.m,n 0 (by decide),n 1 (by decide),cond_false]
  simp only[n 0 (by decide),n 1 (by decide),n 2 (by decide),n 3 (by decide),n 4 (by decide),n 5 (by decide),n 6 (by decide),n 7 (by decide),n 8 (by decide),n 9 (by decide),n 10 (by decide),n 11 (by decide),cond_false,dY (show port<=1 by omega),cond_true,c]
 ·have n:∀k:Int,k<12->(port==k)=false:=λk hk=>beq_eq_false_iff_ne.2 (by omega)
  have c:Lp m.A6 port=0:=by
   simp only[Lp,Lq,Tree.m,n 10 (by decide),n 11 (by decide),cond_false]
  simp only[n 0 (by decide),n 1 (by decide),n 2 (by decide),n 3 (by decide),n 4 (by decide),n 5 (by decide),n 6 (by decide),n 7 (by decide),n 8 (by decide),n 9 (by decide),n 10 (by decide),n 11 (by decide),cond_false,dN (show¬port<=1 by omega),dN (show¬port<=6 by omega),dN (show¬port<=9 by omega),c]
theorem yM{m:bg}(hm:ep P m.Mem)(hb:okB m.A6)(port:Int)(hv:U v):EK m port v m.B7=((EL m port v).2,(EL m port v).1):=by
 have e1:=Zlx hm m.B5
 have e2:=Znj hm m.D1
 have e3:=Zoc hm hb port hv
 have e4:=vL m.B9 v
 simp only[EK,KO,EL,Kl,Tree.m,ee,e1,e2,e3,e4]
 rcases GL (p:=port)with rfl|rfl|rfl|rfl|rfl|rfl|rfl|rfl|rfl|rfl|rfl|rfl|h|h
 all_goals first|rfl|skip
 ·have n:∀k:Int,0<=k->(port==k)=false:=λk hk=>beq_eq_false_iff_ne.2 (by omega)
  simp only[n 0 (by decide),n 1 (by decide),n 2 (by decide),n 3 (by decide),n 4 (by decide),n 5 (by decide),n 6 (by decide),n 7 (by decide),n 8 (by decide),n 9 (by decide),n 10 (by decide),n 11 (by decide),cond_false,dY (show port<=2 by omega),cond_true]
 ·have n:∀k:Int,k<12->(port==k)=false:=λk hk=>beq_eq_false_iff_ne.2 (by omega)
  have c:AY m.A6 m.Mem port v=(m.A6,m.Mem):=by
   simp only[AY,AX,Tree.m,n 10 (by decide),n 11 (by decide),cond_false]
  simp only[n 0 (by decide),n 1 (by decide),n 2 (by decide),n 3 (by decide),n 4 (by decide),n 5 (by decide),n 6 (by decide),n 7 (by decide),n 8 (by decide),n 9 (by decide),n 10 (by decide),n 11 (by decide),cond_false,dN (show¬port<=2 by omega),dN (show¬port<=6 by omega),dN (show¬port<=9 by omega),c]
def tick(n:bg)(c:bu)(w h:Bool):bg:={B2:=c,Mem:=n.Mem,B3:=n.B3,B9:=n.B9,B5:=n.B5,D1:=n.D1,A6:=n.A6,B7:=wrap .u64 (n.B7+1),B4:=w,B6:=h}
def GM(m:bg)(c:bu)(mem:List Int):bg:={B2:=c,Mem:=mem,B3:=m.B3,B9:=m.B9,B5:=m.B5,D1:=m.D1,A6:=m.A6,B7:=m.B7,B4:=false,B6:=m.B6}
def EM(n:bg)(e:ly)(clock gk:Int):bg×List iq:=
 bif e.C2==1 then
  (bif e.F9 !=0 then(tick (uo n e.F0 clock).1 {X:=ir.of 0 (dB (ir.l (uo n e.F0 clock).1.B2.X) e.F9.toNat (uo n e.F0 clock).2),Pc:=(uo n e.F0 clock).1.B2.Pc,C3:=(uo n e.F0 clock).1.B2.C3} (uo n e.F0 clock).1.B4 (uo n e.F0 clock).1.B6,[])
  else(tick (uo n e.F0 clock).1 (uo n e.F0 clock).1.B2 (uo n e.F0 clock).1.B4 (uo n e.F0 clock).1.B6,[]))
 else bif e.C2==2 then(tick (EK n e.F0 e.Value gk).1 (EK n e.F0 e.Value gk).1.B2 (EK n e.F0 e.Value gk).1.B4 (EK n e.F0 e.Value gk).1.B6,(EK n e.F0 e.Value gk).2)
 else bif e.C2==3 then(tick n n.B2 true n.B6,[])else bif e.C2==4 then(tick n n.B2 n.B4 true,[])else(tick n n.B2 n.B4 n.B6,[])
def EN(n:bg)(e:ly)(clock:Int):List iq×bg:=
 bif e.C2==1 then([],tick (DM n e.F0 clock).2 (lF (DM n e.F0 clock).2.B2 e.F9 (DM n e.F0 clock).1) (DM n e.F0 clock).2.B4 (DM n e.F0 clock).2.B6)
 else bif e.C2==2 then((EL n e.F0 e.Value).1,tick (EL n e.F0 e.Value).2 (EL n e.F0 e.Value).2.B2 (EL n e.F0 e.Value).2.B4 (EL n e.F0 e.Value).2.B6)
 else bif e.C2==3 then([],tick n n.B2 true n.B6)else bif e.C2==4 then([],tick n n.B2 n.B4 true)else([],tick n n.B2 n.B4 n.B6)
theorem zaG(m:bg)(clock:Int):Am m clock=EN (GM m (AW (rh m) m.Mem).1 (AW (rh m) m.Mem).2.2) (AW (rh m) m.Mem).2.1 clock:=by kernel_rfl
theorem vM(m:bg)(clock:Int):Ba m clock=bif !EE m then(m,[])else EM {B2:=(Cd (pd m).B2 (pd m).Mem).1,Mem:=(Cd (pd m).B2 (pd m).Mem).2.1,B3:=(pd m).B3,B9:=(pd m).B9,B5:=(pd m).B5,D1:=(pd m).D1,A6:=(pd m).A6,B7:=(pd m).B7,B4:=(pd m).B4,B6:=(pd m).B6} (Cd (pd m).B2 (pd m).Mem).2.2 clock m.B7:=by kernel_rfl
theorem qam(m:List Int):XZ m=m:=by
 simp[XZ,LB,Tree.m]
theorem y4(m:bg):TB m=m:=by
 simp only[TB,Km,Tree.m,ee,qam]
theorem Zp8(m:bg)(clock:Int):Ot m clock=bif GK m then(m,[])else((Am m clock).2,(Am m clock).1):=by
 simp only[Ot,LC,Tree.m,ee,y4]
theorem qN{n:bg}(hm:ep P n.Mem)(hb:okB n.A6){e:ly}(hr:0<=e.F9/\e.F9<16)(hv:U e.Value)(clock:Int):EM n e clock n.B7=((EN n e clock).2,(EN n e clock).1):=by
 unfold EM EN
 rw[xal hb e.F0 clock,yM hm hb e.F0 hv]
 cases e.C2==1
 ·cases e.C2==2
  ·cases e.C2==3
   ·cases e.C2==4<;>rfl
   ·rfl
  ·rfl
 ·generalize DM n e.F0 clock=r
  have s:=Ti r.2.B2 hr r.1
  show(bif e.F9 !=0 then _ else _)=(tick r.2 (lF r.2.B2 e.F9 r.1) r.2.B4 r.2.B6,[])
  rw[<-s]
  simp only[um,EB,Tree.m]
  cases e.F9 !=0<;>rfl
theorem Zk2{m:bg}(h:Ls m)(clock:Int):Ba m clock=Ot m clock:=by
 rw[vM,Zp8,Zkq h]
 cases hs:GK m
 ·have hr:EE m=true:=by rw[Zkq h,hs];rfl
  obtain⟨hm,hh,hct⟩:=Zpk hr
  obtain⟨g1,g2,g3,g4,g5⟩:=(KV m).1 hm
  rcases(Zl6 m.Mem h.mem).2 with c|⟨P,hP,je⟩
  ·exact absurd c g1
  have okm:Ai P m:=⟨h.oh,je,h.mn,h.wm,h.Lt.1,h.Lt.2⟩
  obtain⟨b1,b2,b3,_⟩:=(Tree.pp (Zln okm g2)).2
  change nh (pd m).B2 at b1
  change Ai P (pd m)at b2
  change(pd m).Mem=m.Mem at b3
  have be:=Zrt h g2.st
  have b1':nh (rh m):=by have:=b1;rw[be]at this;exact this
  have X0:iQ (rh m):=by have:=b2.oh;rw[be]at this;exact this
  have ex:=yj je X0 b1'.st
  have er:=(Tree.pp (Zpe X0 je)).2
  change 0<=(Cd (rh m) m.Mem).2.2.F9/\(Cd (rh m) m.Mem).2.2.F9<16 at er
  obtain⟨d1,d2,d3⟩:=(Tree.pp (Nn X0 je)).2
  change U (AW (rh m) m.Mem).2.1.Value at d2
  change ep P (AW (rh m) m.Mem).2.2 at d3
  rw[ex]at er
  rw[zaG,be]
  show EM {B2:=(Cd (rh m) m.Mem).1,Mem:=(Cd (rh m) m.Mem).2.1,B3:=m.B3,B9:=m.B9,B5:=m.B5,D1:=m.D1,A6:=m.A6,B7:=m.B7,B4:=false,B6:=m.B6} (Cd (rh m) m.Mem).2.2 clock m.B7=_
  rw[ex]
  exact qN (n:=GM m (AW (rh m) m.Mem).1 (AW (rh m) m.Mem).2.2) d3 h.Lt er d2 clock
 ·rfl

import Derived.Test.YthjfindbamdacaaGreatDoorAuditTellsLaws2
import Derived.Test.YthjfindbamdacaaGreatDoorAuditTellsNewsB
import Derived.Test.YthjfindbamdacaaGreatDoorAuditTellsZt
open Nat renaming lt_succ_self->cO,blt->bJ,le_refl->aO,zero_le->aT,le_trans->bH,min_le_left->cY,le_of_eq->dK,pow_le_pow_right->dS,and_le_left->eA,pow_lt_pow_right->eB,two_pow_pos->eF,two_pow_add_eq_or_of_lt->eJ,eq_of_testBit_eq->eK,testBit_mod_two_pow->eM,testBit->eN,zero_testBit->fD,testBit_and->fE
open List renaming replicate->cP,append->cQ,mem_cons->cR,not_mem_nil->cS,length_replicate->cU,length_take->bD,length_drop->bF,mem_of_mem_take->cV,mem_of_mem_drop->cW,length_singleton->cX,take->cZ,drop->dA,ext_getElem->bN,range->dB,getD_eq_getElem?_getD->dC,set->dF,length_set->dG,length_cons->dH,length_nil->dI,length->dJ,getD->aK,getElem?_take->aU
open Int renaming tmod->dD,toNat->dE,emod_eq_of_lt->dL,pow_pos->dM,fdiv_eq_ediv_of_nonneg->dO,le_of_lt->dP,pow_add->dQ,mul_le_mul_of_nonneg_right->dR,lt_or_le->dU,toNat_natCast->eC,tmod_eq_emod_of_nonneg->eD,toNat_of_nonneg->eG,fdiv->eI,tdiv->eT,tdiv_eq_ediv_of_nonneg->eU,ediv_ediv_of_nonneg->fA,mul_ediv_add_emod->fB,pow_succ->fC
open Bool renaming or_eq_true->aI,eq_iff_iff->eH,noConfusion->eZ
open UInt8 renaming toNat_lt->dT,toNat->eV,ofNat->eW
open BitVec renaming ofInt->dV,toNat_ofInt->dW,toNat_or->dX,toNat_and->dZ,getLsbD->eO,eq_of_toNat_eq->eQ,ofInt_natCast->eR,toNat_ofNat->eS
open Prod renaming ext->eY
set_option maxRecDepth 100000
set_option linter.all false
namespace Go.Proofs.YthjfindbamdacaaGreatDoor
open Go Go.GD
open Go.IntKind(wrap i64 u32 u64 u8 wrap_i64 wrap_u32 wrap_u64 wrap_u8 wrap_i32)
theorem vF(i:gm):U (oV i).1:=by
 refine Tree.post (S3 i) (W:=λr=>U r.1) ?_
 unfold S3
 exact au λ_ _=>ab (λ_=>ep) (λ_=>nd _ _)
theorem S4(l:List Int)(hl:l.length*8<=reachBytes):(NP l).w (λr=>(r.length:Int)=l.length/\∀w∈r,U w):=by
 have tF:l.length*8<=140737488351232:=hl
 have app:∀{r:List Int} {x:Int},(∀w∈r,U w)->U x->∀w∈r++[x],U w:=λhr hx w hw=>by
  rw[List.mem_append]at hw
  rcases hw with hw|hw
  ·exact hr w hw
  ·rw[List.mem_singleton.1 hw];exact hx
 unfold NP
 refine ej (inv:=λz=>Qs6 l z/\∀w∈z.2,U w) (μ:=S5 l) ⟨⟨by omega,by simp,by simp⟩,by simp⟩ (cO _) (λv0 hv=>?_)
 obtain⟨⟨h1,h2,h3⟩,h4⟩:=hv
 refine ab (λh=>?_) (λh=>?_)
 ·have h:=oY h
  have next:∀x:Int,U x->(Qs6 l (wrap i64 (v0.1+1),v0.2++[x])/\∀w∈v0.2++[x],U w)/\S5 l (wrap i64 (v0.1+1),v0.2++[x])<S5 l v0:=λx hx=>by
   have hw:i64.wrap (v0.1+1)=v0.1+1:=by rw[wrap_i64];omega
   rw[hw]
   refine⟨⟨⟨?_,?_,?_⟩,app h4 hx⟩,?_⟩
   ·show 0<=v0.1+1;omega
   ·show v0.1+1<=l.length;omega
   ·show((v0.2++[x]).length:Int)=v0.1+1;simp;omega
   ·show(l.length-(v0.1+1)).toNat<(l.length-v0.1).toNat;omega
  have hb:(Nat.beq 1 1&&bJ 0 1&&decide (0<=v0.1/\v0.1<(l.length:Int)))=true:=by simp[bJ];omega
  have hc:decide (4*(v0.2.length+1)<=140737488355328)=true:=dY (by omega)
  exact ar hb (ab (λ_=>ar hb (ar hc (next _ (fq _)))) (λ_=>ar hb (cu (zS _) (au λx0 _=>au λx1 hx=>ar hc (next _ (by rw[hx];exact vF _))))))
 ·have h:=oN h
  exact⟨by show(v0.2.length:Int)=l.length;omega,h4⟩
section
variable {P:Nat} {m:ao} (h:oA P m)
include h
theorem NQ(port:Int){clock:Int}(hc:U clock):(IU m port clock).w (λx=>U x.1/\oA P x.2/\x.2.A0=m.A0):=by
 have k:=(⟨h,rfl⟩:oA P m/\m.A0=m.A0)
 obtain⟨h1,h2,h3,h4,h5,h7⟩:=h
 unfold IU
 exact ab (λ_=>au λx hx=>⟨hx▸Zjq _ _,⟨⟨h1,h2,h3,h4,h5,h7⟩,rfl⟩⟩) (λ_=>ab (λ_=>⟨hc,k⟩) (λ_=>ab (λ_=>au λx hx=>⟨hx▸xy _,k⟩) (λ_=>ab (λ_=>au λx hx=>⟨hx▸vR h3 _,k⟩) (λ_=>ab (λ_=>au λx hx=>⟨hx▸xaq h4 _,k⟩) (λ_=>au λx hx=>⟨hx▸Zjk h5.1 _,k⟩)))))
theorem zat(port:Int){v:Int}(hv:U v):(GB m port v).w (λx=>x.1.length<=1/\oA P x.2/\x.2.A0=m.A0):=by
 have k:=(⟨h,rfl⟩:oA P m/\m.A0=m.A0)
 obtain⟨h1,h2,h3,h4,h5,h7⟩:=h
 unfold GB
 exact ab (λ_=>⟨aO _,k⟩) (λ_=>ab (λ_=>⟨aT _,k⟩) (λ_=>ab (λ_=>au λ_ _=>⟨aT _,⟨⟨h1,h2,h3,h4,h5,h7⟩,rfl⟩⟩) (λ_=>ab (λ_=>bh (qy h2 h3 _ hv _) λx hx=>⟨hx.2,⟨⟨h1,h2,hx.1,h4,h5,h7⟩,rfl⟩⟩) (λ_=>ab (λ_=>bh (yR h2 h4 _ hv _) λx hx=>⟨hx.2,⟨⟨h1,h2,h3,hx.1,h5,h7⟩,rfl⟩⟩) (λ_=>bh (xaE h2 h5 _ hv) λx hx=>⟨aT _,⟨⟨h1,hx.2,h3,h4,hx.1,h7⟩,rfl⟩⟩)))))
theorem WU{clock:Int}(hc:U clock):(NR m clock).w (λx=>x.1.length<=1/\oA P x.2/\x.2.A0=wrap .u64 (m.A0+1)):=by
 obtain⟨h1,h2,h3,h4,h5,h7⟩:=h
 unfold NR
 refine bh (WV h1) λx0 c0=>bh (IV c0 h2) λx1 hx=>?_
 obtain⟨c1,v1,m1⟩:=hx
 refine ab (λ_=>S6 (NQ (m:=⟨_,_,_,_,_,_,_,_,_,_⟩) ⟨c1,m1,h3,h4,h5,h7⟩ _ hc) λx2 hx=>?_) (λ_=>ab (λ_=>bh (zat (m:=⟨_,_,_,_,_,_,_,_,_,_⟩) ⟨c1,m1,h3,h4,h5,h7⟩ _ v1) λx4 hx=>?_) (λ_=>?_))
 ·obtain⟨u,⟨k1,k2,k3,k4,k5,k7⟩,k6⟩:=hx
  exact bh (Fm k1 _ u) λx3 h3=>⟨aT _,⟨h3,k2,k3,k4,k5,w0 _⟩,congrArg (λn=>wrap .u64 (n+1)) k6⟩
 ·obtain⟨u,⟨k1,k2,k3,k4,k5,k7⟩,k6⟩:=hx
  exact⟨u,⟨k1,k2,k3,k4,k5,w0 _⟩,congrArg (λn=>wrap .u64 (n+1)) k6⟩
 ·repeat'(first
   |exact⟨aT _,⟨c1,m1,h3,h4,h5,w0 _⟩,rfl⟩
   |refine ab (λ_=>?_) (λ_=>?_))
theorem qU:(KS m).w (λx=>oA P x/\x.A0=m.A0):=by
 obtain⟨h1,h2,h3,h4,h5,h7⟩:=h
 unfold KS
 exact bh (xaD h2) λx hx=>⟨⟨h1,by rw[hx];exact h2,h3,h4,h5,h7⟩,rfl⟩
end
theorem wP(n:Nat):∀w∈cP n (0:Int),U w:=λw hw=>by rw[(List.mem_replicate.1 hw).2];exact ep
theorem qab:oA 0 ⟨⟨⟨0,0,0,0,0,0,0,0,0,0,0,0,0,0,0,0⟩,0,⟨0,0,0,0,0,0,0,0⟩⟩,[],⟨[]⟩,⟨false,0,false⟩,⟨0,0,0,0,0,0,0,[]⟩,⟨0,0,false,0,false,0⟩,⟨0,0⟩,0,false,false⟩:=
 ⟨⟨wP 16,ep,wP 8⟩,⟨rfl,by omega,by omega,λw hw=>by cases hw⟩,⟨ep,ep,ep,ep⟩,⟨ep,ep,ep,ep⟩,⟨ep,ep⟩,by decide⟩
theorem S7{P:Nat}{m:ao}(h:oA P m)(hc:0<=m.A0):(Fo m [] 87).w (λx=>∃Q,oA Q x.1):=by
 have z:∃Q,oA Q _:=⟨0,qab⟩
 unfold Fo
 refine au λx0 _=>ab (λ_=>z) λ_=>ab (λ_=>z) λ_=>ab (λ_=>z) λ_=>cu (show KT [] by show([]:List dr).length<=1000000000000;decide) (au λx1 _=>ab (λ_=>z) λ_=>bh (qU h) λx2 hx=>?_)
 refine ej (inv:=λv:ao×List fc=>oA P v.1/\0<=v.1.A0/\v.2.length+(87-v.1.A0).toNat<=87) (μ:=S8 m [] 87) ⟨hx.1,by rw[hx.2];exact hc,by rw[hx.2];show 0+_<=87;omega⟩ (cO _) λv0 ⟨a1,a2,a3⟩=>?_
 refine ab (λhb=>ab (λ_=>?_) (λ_=>⟨P,a1⟩)) (λ_=>⟨P,a1⟩)
 have hb:=oY hb
 refine ej (inv:=λ_=>True) (μ:=S9 m [] 87 v0) trivial (cO _) λv1 _=>?_
 refine ab (λ_=>⟨P,a1⟩) λ_=>bh (qZ _) λx3 _=>ab (λ_=>⟨P,a1⟩) λ_=>bh (WW a1.lY a1.mem) λx4 _=>ab (λ_=>z) λ_=>bh (WU a1 ep) λx5 h5=>?_
 obtain⟨b1,b2,b3⟩:=h5
 refine ar (dY (by omega)) (dm ?_)
 have e:x5.2.A0=v0.1.A0+1:=by rw[b3,wrap_u64];omega
 show(_/\_/\_)/\(_:Nat)<_
 refine⟨⟨b2,by show 0<=x5.2.A0;omega,by show(v0.2++x5.1).length+(87-x5.2.A0).toNat<=87;rw[lA];omega⟩,by show(87-x5.2.A0).toNat<(87-v0.1.A0).toNat;omega⟩
set_option synthInstance.maxHeartbeats 2000000
set_option synthInstance.maxSize 100000
noncomputable section
instance qG (src:List UInt8):Ck (Qk2 src):=rQ (t:=NS src) (by delta NS;infer_instance)
instance qC (s:List UInt8):Ck (Qi7 s):=rQ (t:=NT s) (by delta NT;infer_instance)
instance xC (n:Int):Ck (Fp n):=let d:Decidable (Fp n):=(by delta Fp;infer_instance);⟨@decide _ d,@oY _ d⟩
instance xf (n:Int):Ck (WX n):=rQ (t:=Fq n) (by delta Fq;infer_instance)
instance zab (r:Int):Ck (Qpt r):=rQ (t:=IW r) (by delta IW;infer_instance)
instance xU (s:List UInt8):Ck (WY s):=rQ (t:=Qh s) (by delta Qh;infer_instance)
instance Zr6 (op:Int):Ck (Qd2 op):=rQ (t:=NU op) (by delta NU;infer_instance)
instance Zq2 (s:List UInt8):Ck (KU s):=rQ (t:=NV s) (by delta NV;infer_instance)
instance zf (ea:List UInt8):Ck (NW ea):=rQ (t:=NX ea) (by delta NX;infer_instance)
instance zC (s:List UInt8):Ck (Qh1 s):=rQ (t:=NY s) (by delta NY;infer_instance)
instance yf (l:List lI) (p:List UInt8):Ck (NZ l p):=rQ (t:=N0 l p) (by delta N0;infer_instance)
instance yC (s:List UInt8):Ck (Qi6 s):=rQ (t:=N1 s) (by delta N1;infer_instance)
instance qg (l:List Q2) (label:List UInt8):Ck (GC l label):=let d:Decidable (GC l label):=(by delta GC;infer_instance);⟨@decide _ d,@oY _ d⟩
instance zU (src:List UInt8):Ck (Qmm src):=rQ (t:=N2 src) (by delta N2;infer_instance)
instance yU (st:kC) (v:Int):Ck (N3 st v):=rQ (t:=N4 st v) (by delta N4;infer_instance)
instance Zr4 (src:List UInt8):Ck (WZ src):=rQ (t:=N5 src) (by delta N5;infer_instance)
theorem xab:WZ ((108:UInt8)::(Cp++KV++(KW++KX)++(KY++KZ++(K0++K1))++(K3++K4++(K5++K6)++(K7++K8++(K9++La))))):=ck inferInstance (by kernel_rfl)
def inU(x:Int):Bool:=decide (0<=x)&&decide (x<4294967296)
theorem qac(l:List Int)(h:(Nat.ble l.length 160&&List.all l inU)=true):l.length<=160/\∀w∈l,U w:=by
 rw[aE]at h
 refine⟨lE h.1,λw hw=>?_⟩
 have:=List.all_eq_true.1 h.2 w hw
 simp only[inU,aE,decide_eq_true_eq]at this
 exact this
theorem Ta:(Lb (cQ (cQ (cQ (cQ Tb KV) (cQ KW KX)) (cQ (cQ KY KZ) (cQ K0 K1))) (cQ (cQ (cQ K3 K4) (cQ K5 K6)) (cQ (cQ K7 K8) (cQ K9 La))))).1.length<=160/\∀w∈(Lb (cQ (cQ (cQ (cQ Tb KV) (cQ KW KX)) (cQ (cQ KY KZ) (cQ K0 K1))) (cQ (cQ (cQ K3 K4) (cQ K5 K6)) (cQ (cQ K7 K8) (cQ K9 La))))).1,U w:=qac _ (by kernel_rfl)
end
theorem sO(i:List Int)(hu:∀w∈i,U w)(hl:i.length<=256):(Ec 8 4 i).w (λx=>oA 8 x.1/\x.1.A0=0):=by
 unfold Ec
 refine ab (λh=>absurd h (by decide)) λ_=>ab (λh=>absurd h (by decide)) λ_=>ab (λh=>absurd h (by decide)) λ_=>ab (λh=>absurd h (by decide)) λ_=>ab (λh=>?_) λ_=>au λx0 e0=>cu (Zi9 _) (au λx1 e1=>?_)
 ·have h:=oY h
  rw[show i64.wrap (8*32)=256 by decide]at h
  omega
 have hx:x1=cP 256 0:=by rw[e1];kernel_rfl
 have c0:iM x0:=by rw[e0];exact⟨by
  intro w hw
  simp only[W0,Tc,Tree.m,fu.l,cR,cS,or_false,or_self]at hw
  rw[hw];exact ep,ep,by
  intro w hw
  simp only[W0,Tc,Tree.m,A8.l,cR,cS,or_false,or_self]at hw
  rcases hw with rfl|rfl
  ·exact⟨by omega,by omega⟩
  ·exact ep⟩
 have hz:∀w∈x1,U w:=by rw[hx];exact wP 256
 have hn:x1.length=256:=by rw[hx,cU]
 refine⟨⟨c0,⟨?_,by omega,by omega,λw hw=>?_⟩,⟨ep,ep,ep,ep⟩,⟨ep,ep,ep,ep⟩,⟨ep,ep⟩,Int.le_refl _⟩,rfl⟩
 ·simp only[lA,bD,bF,hn];omega
 ·rcases List.mem_append.1 hw with h1|h1
  ·exact hu w (cV h1)
  ·exact hz w (cW h1)
theorem xg(kind:Int)(l:List Int)(hl:l.length*8<=reachBytes):(Fs kind l).w (λx=>∃Q,oA Q x):=by
 have tF:l.length*8<=140737488351232:=hl
 unfold Fs
 refine cu (Lc (by decide)) (au λx0 _=>ab (λ_=>cu xab (au λx1 e1=>?_)) (λ_=>?_))
 ·obtain⟨q1,q2⟩:x1.1.length<=160/\∀w∈x1.1,U w:=by rw[e1];exact Ta
  refine ej (inv:=λv:List Int=>v.length<=160/\∀w∈v,U w) (μ:=Td kind l) ⟨q1,q2⟩ (cO _) λv0 ⟨a1,a2⟩=>?_
  refine ab (λhb=>?_) (λ_=>?_)
  ·have hb:=oY hb
   refine ar (dY (by omega)) (dm ?_)
   show(_/\_)/\(_:Nat)<_
   refine⟨⟨by rw[lA,cX];omega,λw hw=>?_⟩,by show 160-(v0++[0]).length<160-v0.length;rw[lA,cX];omega⟩
   rcases List.mem_append.1 hw with h1|h1
   ·exact a2 w h1
   ·rw[List.mem_singleton.1 h1];exact ep
  ·refine bh (S4 l hl) λx2 ⟨b1,b2⟩=>ar (dY (by omega)) ?_
   have hu:∀w∈v0++x2,U w:=λw hw=>(List.mem_append.1 hw).elim (a2 w) (b2 w)
   refine ab (λhb=>?_) (λhb=>?_)
   ·have hb:=oY hb
    refine ar (by simp[bJ];rw[lA]at hb;omega) (bh (sO _ (λw hw=>hu w (cW (cV hw))) (by rw[bD];exact bH (cY _ _) (by decide))) λx3 ⟨c1,c2⟩=>ab (λ_=>bh (S7 c1 (by omega)) λx4 hx=>hx) (λ_=>⟨8,c1⟩))
   ·have hb:=oN hb
    exact bh (sO _ hu (by omega)) λx3 ⟨c1,c2⟩=>ab (λ_=>bh (S7 c1 (by omega)) λx4 hx=>hx) (λ_=>⟨8,c1⟩)
 ·refine bh (S4 l hl) λx2 ⟨b1,b2⟩=>ar (dY (by omega)) ?_
  refine ab (λhb=>?_) (λhb=>?_)
  ·have hb:=oY hb
   refine ar (by simp[bJ];omega) (bh (sO _ (λw hw=>b2 w (cW (cV hw))) (by rw[bD];exact bH (cY _ _) (by decide))) λx3 ⟨c1,c2⟩=>ab (λ_=>bh (S7 c1 (by omega)) λx4 hx=>hx) (λ_=>⟨8,c1⟩))
  ·have hb:=oN hb
   exact bh (sO _ b2 (by omega)) λx3 ⟨c1,c2⟩=>ab (λ_=>bh (S7 c1 (by omega)) λx4 hx=>hx) (λ_=>⟨8,c1⟩)
noncomputable section
def lJ:List Int:=(Lb (cQ (cQ (cQ (cQ Tb KV) (cQ KW KX)) (cQ (cQ KY KZ) (cQ K0 K1))) (cQ (cQ (cQ K3 K4) (cQ K5 K6)) (cQ (cQ K7 K8) (cQ K9 La))))).1
def Ed:List Int:=lJ++cP (160-lJ.length) 0
theorem N6(t0 t1 t2 t3 t4 t5 t6 t7 t8 t9 t10 t11 t12 t13 t14 t15 t16 t17 t18 t19 t20 t21 t22 t23 t24 t25 t26 t27 t28 t29 t30 t31 t32 t33 t34 t35 t36 t37 t38 t39 t40 t41 t42 t43 t44 t45 t46 t47 t48 t49 t50 t51 t52 t53 t54 t55 t56 t57 t58 t59 t60 t61 t62 t63 t64 t65 t66 t67 t68 t69 t70 t71 t72 t73 t74 t75 t76 t77 t78 t79 t80 t81 t82 t83 t84 t85 t86 t87 t88 t89 t90 t91 t92 t93 t94 t95:Int):(IX (lz 8 4 (Ed++[t0,t1,t2,t3,t4,t5,t6,t7,t8,t9,t10,t11,t12,t13,t14,t15,t16,t17,t18,t19,t20,t21,t22,t23,t24,t25,t26,t27,t28,t29,t30,t31,t32,t33,t34,t35,t36,t37,t38,t39,t40,t41,t42,t43,t44,t45,t46,t47,t48,t49,t50,t51,t52,t53,t54,t55,t56,t57,t58,t59,t60,t61,t62,t63,t64,t65,t66,t67,t68,t69,t70,t71,t72,t73,t74,t75,t76,t77,t78,t79,t80,t81,t82,t83,t84,t85,t86,t87,t88,t89,t90,t91,t92,t93,t94,t95])).1 [] 87).2.2.2=0:=by kernel_rfl
end
attribute [local irreducible] Lb
theorem zac(i j:List Int)(hi:i.length<=256)(hj:j.length<=256)(e:i++cP (256-i.length) 0=j++cP (256-j.length) 0):lz 8 4 i=lz 8 4 j:=by
 have w:i64.wrap (8*32)=256:=by decide
 have m:Te 8=cP 256 0:=by kernel_rfl
 have d:∀k:List Int,k.length<=256->decide ((k.length:Int)>256)=false:=λk h=>dN (by omega)
 have mem:∀k:List Int,k.length<=256->cZ (min k.length (cP 256 (0:Int)).length) k++dA (min k.length (cP 256 (0:Int)).length) (cP 256 0)=k++cP (256-k.length) 0:=λk h=>by
  rw[cU,Nat.min_eq_left h,List.take_length,List.drop_replicate]
 have r:Te 8=cP 256 0:=by kernel_rfl
 simp only[lz,Ec,Tree.m,w,dk,r,d i hi,d j hj]
 simp only[mem i hi,mem j hj,e]
theorem IY(t:List Int)(ht:t.length=96):t=[t.getD 0 0,t.getD 1 0,t.getD 2 0,t.getD 3 0,t.getD 4 0,t.getD 5 0,t.getD 6 0,t.getD 7 0,t.getD 8 0,t.getD 9 0,t.getD 10 0,t.getD 11 0,t.getD 12 0,t.getD 13 0,t.getD 14 0,t.getD 15 0,t.getD 16 0,t.getD 17 0,t.getD 18 0,t.getD 19 0,t.getD 20 0,t.getD 21 0,t.getD 22 0,t.getD 23 0,t.getD 24 0,t.getD 25 0,t.getD 26 0,t.getD 27 0,t.getD 28 0,t.getD 29 0,t.getD 30 0,t.getD 31 0,t.getD 32 0,t.getD 33 0,t.getD 34 0,t.getD 35 0,t.getD 36 0,t.getD 37 0,t.getD 38 0,t.getD 39 0,t.getD 40 0,t.getD 41 0,t.getD 42 0,t.getD 43 0,t.getD 44 0,t.getD 45 0,t.getD 46 0,t.getD 47 0,t.getD 48 0,t.getD 49 0,t.getD 50 0,t.getD 51 0,t.getD 52 0,t.getD 53 0,t.getD 54 0,t.getD 55 0,t.getD 56 0,t.getD 57 0,t.getD 58 0,t.getD 59 0,t.getD 60 0,t.getD 61 0,t.getD 62 0,t.getD 63 0,t.getD 64 0,t.getD 65 0,t.getD 66 0,t.getD 67 0,t.getD 68 0,t.getD 69 0,t.getD 70 0,t.getD 71 0,t.getD 72 0,t.getD 73 0,t.getD 74 0,t.getD 75 0,t.getD 76 0,t.getD 77 0,t.getD 78 0,t.getD 79 0,t.getD 80 0,t.getD 81 0,t.getD 82 0,t.getD 83 0,t.getD 84 0,t.getD 85 0,t.getD 86 0,t.getD 87 0,t.getD 88 0,t.getD 89 0,t.getD 90 0,t.getD 91 0,t.getD 92 0,t.getD 93 0,t.getD 94 0,t.getD 95 0]:=by
 apply bN
 ·rw[ht];rfl
 ·intro i h1 h2
  have e:∀j (hj:j<96),[t.getD 0 0,t.getD 1 0,t.getD 2 0,t.getD 3 0,t.getD 4 0,t.getD 5 0,t.getD 6 0,t.getD 7 0,t.getD 8 0,t.getD 9 0,t.getD 10 0,t.getD 11 0,t.getD 12 0,t.getD 13 0,t.getD 14 0,t.getD 15 0,t.getD 16 0,t.getD 17 0,t.getD 18 0,t.getD 19 0,t.getD 20 0,t.getD 21 0,t.getD 22 0,t.getD 23 0,t.getD 24 0,t.getD 25 0,t.getD 26 0,t.getD 27 0,t.getD 28 0,t.getD 29 0,t.getD 30 0,t.getD 31 0,t.getD 32 0,t.getD 33 0,t.getD 34 0,t.getD 35 0,t.getD 36 0,t.getD 37 0,t.getD 38 0,t.getD 39 0,t.getD 40 0,t.getD 41 0,t.getD 42 0,t.getD 43 0,t.getD 44 0,t.getD 45 0,t.getD 46 0,t.getD 47 0,t.getD 48 0,t.getD 49 0,t.getD 50 0,t.getD 51 0,t.getD 52 0,t.getD 53 0,t.getD 54 0,t.getD 55 0,t.getD 56 0,t.getD 57 0,t.getD 58 0,t.getD 59 0,t.getD 60 0,t.getD 61 0,t.getD 62 0,t.getD 63 0,t.getD 64 0,t.getD 65 0,t.getD 66 0,t.getD 67 0,t.getD 68 0,t.getD 69 0,t.getD 70 0,t.getD 71 0,t.getD 72 0,t.getD 73 0,t.getD 74 0,t.getD 75 0,t.getD 76 0,t.getD 77 0,t.getD 78 0,t.getD 79 0,t.getD 80 0,t.getD 81 0,t.getD 82 0,t.getD 83 0,t.getD 84 0,t.getD 85 0,t.getD 86 0,t.getD 87 0,t.getD 88 0,t.getD 89 0,t.getD 90 0,t.getD 91 0,t.getD 92 0,t.getD 93 0,t.getD 94 0,t.getD 95 0][j]'hj=t.getD j 0:=by
   intro j hj
   have:[t.getD 0 0,t.getD 1 0,t.getD 2 0,t.getD 3 0,t.getD 4 0,t.getD 5 0,t.getD 6 0,t.getD 7 0,t.getD 8 0,t.getD 9 0,t.getD 10 0,t.getD 11 0,t.getD 12 0,t.getD 13 0,t.getD 14 0,t.getD 15 0,t.getD 16 0,t.getD 17 0,t.getD 18 0,t.getD 19 0,t.getD 20 0,t.getD 21 0,t.getD 22 0,t.getD 23 0,t.getD 24 0,t.getD 25 0,t.getD 26 0,t.getD 27 0,t.getD 28 0,t.getD 29 0,t.getD 30 0,t.getD 31 0,t.getD 32 0,t.getD 33 0,t.getD 34 0,t.getD 35 0,t.getD 36 0,t.getD 37 0,t.getD 38 0,t.getD 39 0,t.getD 40 0,t.getD 41 0,t.getD 42 0,t.getD 43 0,t.getD 44 0,t.getD 45 0,t.getD 46 0,t.getD 47 0,t.getD 48 0,t.getD 49 0,t.getD 50 0,t.getD 51 0,t.getD 52 0,t.getD 53 0,t.getD 54 0,t.getD 55 0,t.getD 56 0,t.getD 57 0,t.getD 58 0,t.getD 59 0,t.getD 60 0,t.getD 61 0,t.getD 62 0,t.getD 63 0,t.getD 64 0,t.getD 65 0,t.getD 66 0,t.getD 67 0,t.getD 68 0,t.getD 69 0,t.getD 70 0,t.getD 71 0,t.getD 72 0,t.getD 73 0,t.getD 74 0,t.getD 75 0,t.getD 76 0,t.getD 77 0,t.getD 78 0,t.getD 79 0,t.getD 80 0,t.getD 81 0,t.getD 82 0,t.getD 83 0,t.getD 84 0,t.getD 85 0,t.getD 86 0,t.getD 87 0,t.getD 88 0,t.getD 89 0,t.getD 90 0,t.getD 91 0,t.getD 92 0,t.getD 93 0,t.getD 94 0,t.getD 95 0]=(dB 96).map (λk=>t.getD k 0):=rfl
   simp only[this,List.getElem_map,List.getElem_range]
  rw[e i (by omega),dC,List.getElem?_eq_getElem h1]
  rfl
theorem xat(t:List Int)(ht:t.length=96):(IX (lz 8 4 (Ed++t)).1 [] 87).2.2.2=0:=by
 rw[IY t ht]
 exact N6 _ _ _ _ _ _ _ _ _ _ _ _ _ _ _ _ _ _ _ _ _ _ _ _ _ _ _ _ _ _ _ _ _ _ _ _ _ _ _ _ _ _ _ _ _ _ _ _ _ _ _ _ _ _ _ _ _ _ _ _ _ _ _ _ _ _ _ _ _ _ _ _ _ _ _ _ _ _ _ _ _ _ _ _ _ _ _ _ _ _ _ _ _ _ _ _
theorem xac:Ed.length=160:=by
 have h:lJ.length<=160:=Ta.1
 unfold Ed
 rw[lA,cU];omega
def out(f:Int)(m m':List Int):Prop:=∀j:Nat,¬(f*32<=j/\(j:Int)<f*32+32)->m'.getD j 0=m.getD j 0
theorem Ld(f:Int)(m:List Int):out f m m:=λ_ _=>rfl
theorem wQ(l:List Int)(i j:Nat)(v:Int)(h:i≠j):(l.set i v).getD j 0=l.getD j 0:=by
 simp only[dC,List.getElem?_set_ne h]
theorem r0{P:Nat}{m:List Int}(h:ey P m):lZ m=P:=by
 obtain⟨h1,h2,h3,_⟩:=h
 simp only[lZ,Le,Tree.m]
 have e:(m.length:Int)=32*P:=by omega
 rw[e]
 have e1:(dD (32*(P:Int)) 32 !=0)=false:=by simp[Int.mul_tmod_right]
 have e2:decide ((32*(P:Int))>1024)=false:=dN (by omega)
 rw[e1,e2]
 simp only[cond_false]
 rw[Int.mul_tdiv_cancel_left _ (by decide),wrap_i64];omega
theorem vU{P:Nat}{m:List Int}(h:ey P m)(f:Int):IZ m f=true->0<=f/\f<P:=by
 have hp:=r0 h
 simp only[IZ,N7,Tree.m,dk,hp]
 cases h1:decide (f>=0)
 ·intro h;cases h
 ·intro h;exact⟨oY h1,oY h⟩
theorem W3{P:Nat}{m:List Int}(h:ey P m)(f:Int)(s:List UInt8):(GF m f s).w (λr=>ey P r.1/\out f m r.1/\(r.2=false->r.1=m)):=by
 have gz:jK m=m:=rfl
 have h2:=h.p2
 unfold GF
 refine cu (r6 h) (au λx0 nK=>au λx1 nL=>?_)
 rw[gz]at nK;subst nK
 refine ab (λ_=>⟨h,Ld _ _,λ_=>rfl⟩) λhb=>ab (λ_=>⟨h,Ld _ _,λ_=>rfl⟩) λhs=>?_
 have hb:x1=true:=by simpa using hb
 obtain⟨f0,f1⟩:=vU h f (nL.symm.trans hb)
 have hs:(s.length:Int)=128:=by simpa using hs
 refine ej (inv:=λz:Int×List Int=>0<=z.1/\z.1<=32/\ey P z.2/\out f x0 z.2) (μ:=W4 x0 f s) ⟨show(0:Int)<=0 by decide,show(0:Int)<=32 by decide,h,Ld _ _⟩ (cO _) λz ⟨z1,z2,z3,z4⟩=>?_
 refine ab (λhb=>?_) (λ_=>⟨z3,z4,λh=>by cases h⟩)
 have hb:=oY hb
 have e1:i64.wrap (4*z.1)=4*z.1:=by rw[wrap_i64];omega
 have e2:i64.wrap (i64.wrap (4*z.1)+4)=4*z.1+4:=by rw[wrap_i64,wrap_i64];omega
 have e3:i64.wrap (i64.wrap (f*32)+z.1)=f*32+z.1:=by rw[wrap_i64,wrap_i64];omega
 have hl:=z3.len
 have hlen:(cZ (dE (i64.wrap (i64.wrap (4*z.1)+4))-dE (i64.wrap (4*z.1))) (dA (dE (i64.wrap (4*z.1))) s)).length=4:=by
  rw[e2,e1,bD,bF];omega
 refine ar (dY (by rw[e2,e1];omega)) ?_
 refine ar (dY (by rw[hlen];decide)) (ar (dY (by rw[hlen];decide)) (ar (dY (by rw[hlen];decide)) (ar (dY (by rw[hlen];decide)) (ar (by rw[e3];simp[bJ];omega) (dm ?_)))))
 show(_/\_/\ey P (dF _ _ _)/\out f x0 (dF _ _ _))/\(_:Nat)<_
 have ew:i64.wrap (z.1+1)=z.1+1:=by rw[wrap_i64];omega
 rw[e3]
 refine⟨⟨by rw[ew];omega,by rw[ew];omega,⟨by rw[dG];exact hl,z3.p1,z3.p2,Ee z3.u (nd _ _) _⟩,λj hj=>?_⟩,by show(32-i64.wrap (z.1+1)).toNat<(32-z.1).toNat;rw[ew];omega⟩
 rw[wQ _ _ _ _ (by omega)]
 exact z4 j hj
theorem qau(w:List Int)(h:w.length<=32):(Ft w).w (λr=>r.length=4*w.length):=by
 have e0:i64.wrap (4*(w.length:Int))=4*w.length:=by rw[wrap_i64];omega
 unfold Ft
 refine ar (by rw[e0];simp[bJ,D.plain];omega) ?_
 refine ej (inv:=λz:Int×List Int=>0<=z.1/\z.1<=w.length/\(z.2.length:Int)=4*z.1) (μ:=N8 w) ⟨by decide,by show(0:Int)<=w.length;omega,rfl⟩ (cO _) λz ⟨z1,z2,z3⟩=>?_
 refine ab (λhb=>?_) (λhb=>?_)
 ·have hb:=oY hb
  have ew:i64.wrap (z.1+1)=z.1+1:=by rw[wrap_i64];omega
  refine ar (by simp[bJ];omega) (ar (dY (by omega)) (dm ?_))
  show(_/\_/\_)/\(_:Nat)<_
  refine⟨⟨by rw[ew];omega,by rw[ew];omega,by rw[ew,lA];simp only[dH,dI];omega⟩,by show(w.length-i64.wrap (z.1+1)).toNat<(w.length-z.1).toNat;rw[ew];omega⟩
 ·have hb:=oN hb
  show(bytesOf z.2).length=_
  rw[N9];omega
theorem W5{P:Nat}{m:List Int}(h:ey P m)(f:Int):(GG m f).w (λr=>0<=f->f<P->r.1.length=128):=by
 have hl:=h.len
 have h2:=h.p2
 unfold GG
 refine au λx0 nK=>ab (λhb=>λf0 f1=>?_) (λhb=>?_)
 ·have hp:=r0 h
  have hb:x0=false:=by simpa using hb
  rw[hb]at nK
  simp only[IZ,N7,Tree.m,dk,hp]at nK
  rw[dY f0]at nK
  exact absurd f1 (oN nK.symm)
 ·have hb:x0=true:=by simpa using hb
  obtain⟨f0,f1⟩:=vU h f (nK.symm.trans hb)
  have e1:i64.wrap (f*32)=f*32:=by rw[wrap_i64];omega
  have e2:i64.wrap (i64.wrap (f*32)+32)=f*32+32:=by rw[wrap_i64,wrap_i64];omega
  have hlen:(cZ (dE (i64.wrap (i64.wrap (f*32)+32))-dE (i64.wrap (f*32))) (dA (dE (i64.wrap (f*32))) m)).length=32:=by
   rw[e2,e1,bD,bF];omega
  refine ar (by rw[e2,e1];simp[bJ];omega) ?_
  refine cu (by show dJ _<=1000000000000;rw[hlen];decide) (au λx1 h1=>?_)
  have h1:x1.length=4*(cZ (dE (i64.wrap (i64.wrap (f*32)+32))-dE (i64.wrap (f*32))) (dA (dE (i64.wrap (f*32))) m)).length:=by rw[h1];exact(Tree.pp (qau _ (dK hlen))).2
  intro _ _
  show x1.length=128
  rw[h1,hlen]
theorem Tf{f:Int}(hf:U f){P:Nat}(hP:P<=32)(h:decide (u64.wrap f<u64.wrap (P:Int))=true):0<=f/\f<P:=by
 have h:=oY h
 obtain⟨h1,h2⟩:=hf
 rw[wrap_u64,wrap_u64,dL h1 (by omega),dL (by omega) (by omega)]at h
 exact⟨h1,h⟩
theorem Zom{P:Nat}{m:List Int}(h:ey P m){d:fm}(hd:oB d)(e:j9):(Lf d m e).w (λr=>oB r.1/\ey P r.2.1/\out d.B0 m r.2.1/\(r.2.2=false->r.2.1=m)/\(∀p,ky d p=true->ky r.1 p=true)):=by
 have gz:jK m=m:=rfl
 have cy:∀b:Bool,oB d/\ey P m/\out d.B0 m m/\(b=false->m=m)/\(∀p,ky d p=true->ky d p=true):=λb=>⟨hd,h,Ld _ _,λ_=>rfl,λ_ h=>h⟩
 have GH:∀{p:Int},ky d p=true->decide (d.ag>64)=false:=fun{p} hm=>by
  cases hb:decide (d.ag>64)
  ·rfl
  ·have:ky d p=false:=by simp only[ky,wR,Tree.m];rw[hb];rfl
   rw[this]at hm;cases hm
 have m2:∀p,ky d p=true->ky {ag:=d.ag,B9:=d.B9,Frame:=d.Frame,B6:=2,D1:=0,B4:=0,B0:=0,B5:=[]} p=true:=λp hm=>by
  simp only[ky,wR,Tree.m];rw[GH hm];rfl
 have m3:∀p,ky d p=true->ky {ag:=d.ag,B9:=d.B9,Frame:=d.Frame,B6:=3,D1:=0,B4:=0,B0:=0,B5:=[]} p=true:=λp hm=>by
  simp only[ky,wR,Tree.m];rw[GH hm];rfl
 unfold Lf
 refine ab (λ_=>cu (r6 h) (au λx hx=>by rw[gz]at hx;subst hx;exact cy _)) λ_=>ab (λ_=>cu (r6 h) (au λx hx=>by rw[gz]at hx;subst hx;exact cy _)) λ_=>ab (λ_=>cu (r6 h) (au λx hx=>by rw[gz]at hx;subst hx;exact cy _)) λ_=>cu (r6 h) (au λx3 GI=>?_)
 rw[gz]at GI;subst GI
 have fin:∀{m':List Int},ey P m'->out d.B0 x3 m'->(Tree.br (e.N==1) (.lf (({ag:=d.ag,B9:=d.B9,Frame:=d.Frame,B6:=2,D1:=0,B4:=0,B0:=0,B5:=[]}:fm),m',true)) (.lf (({ag:=d.ag,B9:=d.B9,Frame:=d.Frame,B6:=3,D1:=0,B4:=0,B0:=0,B5:=[]}:fm),m',true))).w (λr=>oB r.1/\ey P r.2.1/\out d.B0 x3 r.2.1/\(r.2.2=false->r.2.1=x3)/\(∀p,ky d p=true->ky r.1 p=true)):=λhm ho=>
  ab (λ_=>⟨⟨hd.block,hd.frame,ep,ep⟩,hm,ho,(λh=>by cases h),m2⟩) (λ_=>⟨⟨hd.block,hd.frame,ep,ep⟩,hm,ho,(λh=>by cases h),m3⟩)
 have nod:(Tree.br (!decide (e.D2=[])) (.lf (d,x3,false)) (Tree.br (e.N==1) (.lf (({ag:=d.ag,B9:=d.B9,Frame:=d.Frame,B6:=2,D1:=0,B4:=0,B0:=0,B5:=[]}:fm),x3,true)) (.lf (({ag:=d.ag,B9:=d.B9,Frame:=d.Frame,B6:=3,D1:=0,B4:=0,B0:=0,B5:=[]}:fm),x3,true)))).w (λr=>oB r.1/\ey P r.2.1/\out d.B0 x3 r.2.1/\(r.2.2=false->r.2.1=x3)/\(∀p,ky d p=true->ky r.1 p=true)):=
  ab (λ_=>cy _) (λ_=>fin h (Ld _ _))
 refine ab (λ_=>ab (λ_=>au λx4 Oa=>ab (λ_=>cy _) λhb=>?_) (λ_=>nod)) (λ_=>nod)
 have hp:=r0 h
 have hb:x4=true:=by simpa using hb
 rw[hb]at Oa
 simp only[I0,Ob,Tree.m,dk,hp]at Oa
 obtain⟨f0,f1⟩:=Tf hd.ig h.p2 Oa.symm
 have ef:i64.wrap d.B0=d.B0:=by have:=h.p2;rw[wrap_i64];omega
 refine bh (W3 h _ _) λx5 ⟨h5,o5,k5⟩=>?_
 rw[ef]at o5
 exact ab (λhf=>⟨hd,h5,o5,λ_=>k5 (by simpa using hf),λ_ h=>h⟩) (λ_=>fin h5 o5)
theorem zg{P:Nat}{m:List Int}(h:ey P m){n:ij}(hn:pr n)(frame:List UInt8):(Lg n m frame).w (λr=>pr r.1/\ey P r.2.1/\out n.B7 m r.2.1/\(r.2.2=false->r.2.1=m)/\(∀p,pw n p=true->pw r.1 p=true)):=by
 have gz:jK m=m:=rfl
 have cy:pr n/\ey P m/\out n.B7 m m/\(false=false->m=m)/\(∀p,pw n p=true->pw n p=true):=⟨hn,h,Ld _ _,λ_=>rfl,λ_ h=>h⟩
 unfold Lg
 refine ab (λ_=>cu (r6 h) (au λx hx=>by rw[gz]at hx;subst hx;exact cy)) λhpo=>ab (λ_=>cu (r6 h) (au λx hx=>by rw[gz]at hx;subst hx;exact cy)) λl1=>ab (λ_=>cu (r6 h) (au λx hx=>by rw[gz]at hx;subst hx;exact cy)) λl2=>au λx3 GI=>ab (λ_=>cu (r6 h) (au λx hx=>by rw[gz]at hx;subst hx;exact cy)) λhb=>?_
 have l1:=oN l1
 have l2:=oN l2
 have hp:=r0 h
 have hb:x3=true:=by simpa using hb
 rw[hb]at GI
 simp only[GJ,Oc,Tree.m,dk,hp]at GI
 obtain⟨f0,f1⟩:=Tf hn.buffer h.p2 GI.symm
 have ef:i64.wrap n.B7=n.B7:=by have:=h.p2;rw[wrap_i64];omega
 refine bh (W5 h _) λx5 h5=>?_
 rw[ef]at h5
 have h5:=h5 f0 f1
 have Cm:(maxLen:Nat)=9223372036854775807:=rfl
 refine ar (dY (by omega)) (ar (dY (by simp only[bD,bF,Cm];omega)) (bh (W3 h _ _) λx6 ⟨h6,o6,_⟩=>?_))
 rw[ef]at o6
 have hg:u32.wrap (frame.length:Int)=frame.length:=by rw[wrap_u32];omega
 refine⟨⟨hn.frame,hn.len,ep,fq _⟩,h6,o6,(λh=>by cases h),λp _=>?_⟩
 simp only[pw,Lh,Tree.m]
 rw[hg,dY (show(frame.length:Int)>=1 by omega),dY (show(frame.length:Int)<=128 by omega)]
 rfl
theorem qad(c:je)(b:Int):(Od c b).w (λr=>tJ c=true->tJ r.1=true):=by
 have Cm:(maxLen:Nat)=9223372036854775807:=rfl
 unfold Od
 refine ab (λ_=>λh=>h) (λhb=>?_)
 have hb:=oN hb
 refine ar (dY (by rw[Cm];omega)) ?_
 intro _
 show decide (((c.C6++[_]).length:Int)<=16)=true
 rw[lA,cX]
 exact dY (by omega)
theorem xG(t:jk)(h:tK t=true):tK (Tg t).1=true:=by
 simp only[Tg,W6,Tree.m]
 cases ha:t.D0
 ·exact h
 ·rfl
theorem yg(m:ao):sP m=(tJ m.A2&&(tK m.A9&&(ky m.A4 (lZ m.Mem)&&(pw m.C1 (lZ m.Mem)&&uF m.A1 (lZ m.Mem))))):=by
 simp only[sP,Ef,Tree.m,dk]
 cases tJ m.A2<;>cases tK m.A9<;>cases ky m.A4 (lZ m.Mem)<;>cases pw m.C1 (lZ m.Mem)<;>rfl
theorem zau{b c:gr}(h:c.C0=b.C0)(p:Int):uF c p=uF b p:=by
 simp only[uF,GK,Tree.m,h]
theorem I1{a x y:Bool}(h:x=true->y=true):(bif a then false else x)=true->(bif a then false else y)=true:=by cases a<;>simp_all
def chain(b1 b2 b3 b4 b5 b6 b7 w h dev:Bool):Bool:=bif b1 then false else bif b2 then false else bif b3 then false else bif b4 then false else bif b5 then false else bif b6 then false else bif b7 then false else bif w then(bif h then false else dev)else dev
theorem Zqq{b1 b2 b3 b4 b5 b6 b7 w h d d':Bool}(hd:d=true->d'=true):chain b1 b2 b3 b4 b5 b6 b7 w h d=true->chain b1 b2 b3 b4 b5 b6 b7 w h d'=true:=by
 refine I1 (I1 (I1 (I1 (I1 (I1 (I1 ?_))))))
 cases w
 ·exact hd
 ·cases h
  ·exact hd
  ·exactλh=>h
def Fu(p:Int)(c:bg)(ct:Int)(w h dev:Bool):Bool:=chain (p==0) (c.X.a0 !=0) (decide (c.B1.a0>31)) (decide (c.B1.a7>31)) (decide (c.B1.a6>255)) (dD c.B1.a1 4 !=0) (decide (ct>1152921504606846976)) w h dev
theorem vg{p:Int}{c:bg}{ct:Int}{w h d d':Bool}(hd:d=true->d'=true)(g:Fu p c ct w h d=true):Fu p c ct w h d'=true:=Zqq hd g
theorem xV(m:ao):mM m=Fu (lZ m.Mem) m.A7 m.A0 m.A3 m.A6 (sP m):=rfl
theorem Oe{m n:ao}(hp:lZ n.Mem=lZ m.Mem)(W7:n.A7=m.A7)(Of:n.A0=m.A0)(hw:n.A3=m.A3)(hh:n.A6=m.A6)
 (hc:tJ m.A2=true->tJ n.A2=true) (ht:tK m.A9=true->tK n.A9=true) (hd:∀p,ky m.A4 p=true->ky n.A4 p=true) (hn:∀p,pw m.C1 p=true->pw n.C1 p=true) (hb:n.A1.C0=m.A1.C0) (h:mM m=true):mM n=true:=by
 have dev:sP m=true->sP n=true:=λh=>by
  rw[yg]at h⊢
  simp only[aE]at h⊢
  rw[hp,zau hb]
  exact⟨hc h.1,ht h.2.1,hd _ h.2.2.1,hn _ h.2.2.2.1,h.2.2.2.2⟩
 rw[xV]at h⊢
 rw[hp,W7,Of,hw,hh]
 exact vg dev h
section
variable {P:Nat} {m:List Int} (h:ey P m)
include h
theorem Og{f:Int}(hf:U f){b:Bool}(hx:b=I0 m f)(hb:b=true):0<=f/\f<P:=by
 have hp:=r0 h
 rw[hb]at hx
 simp only[I0,Ob,Tree.m,dk,hp]at hx
 exact Tf hf h.p2 hx.symm
theorem GL{f:Int}(hf:U f){b:Bool}(hx:b=GJ m f)(hb:b=true):0<=f/\f<P:=by
 have hp:=r0 h
 rw[hb]at hx
 simp only[GJ,Oc,Tree.m,dk,hp]at hx
 exact Tf hf h.p2 hx.symm
def sQ(P:Nat)(d d':fm):Prop:=oB d'/\(ky d P=true->ky d' P=true)
theorem qh{d:fm}(hd:oB d){cmd:Int}(hc:cmd=1\/cmd=2)(bn:Int):(Li d m cmd bn).w (λr=>sQ P d r.1/\r.2.length<=1):=by
 have h2:=h.p2
 have st3:(d.B6 !=0)=false->sQ P d {ag:=d.ag,B9:=d.B9,Frame:=d.Frame,B6:=3,D1:=d.D1,B4:=d.B4,B0:=d.B0,B5:=d.B5}:=λhs=>by
  have hs:d.B6=0:=by simpa using hs
  refine⟨⟨hd.block,hd.frame,hd.kz,hd.ig⟩,λhm=>?_⟩
  simp only[ky,wR,Tree.m,hs]at hm⊢
  exact hm
 have GH:ky d P=true->decide (d.ag>64)=false:=λhm=>by
  cases hb:decide (d.ag>64)
  ·rfl
  ·have:ky d P=false:=by simp only[ky,wR,Tree.m];rw[hb];rfl
   rw[this]at hm;cases hm
 unfold Li
 refine ab (λ_=>⟨⟨hd,λh=>h⟩,aT _⟩) λhs=>ab (λ_=>⟨st3 hs,aT _⟩) λhb=>au λx0 hx=>ab (λ_=>⟨st3 hs,aT _⟩) λhp=>?_
 have hb:=oN hb
 obtain⟨f0,f1⟩:=Og h hd.frame hx (by simpa using hp)
 have ef:i64.wrap d.Frame=d.Frame:=by rw[wrap_i64];omega
 have e1:decide (d.B9<d.ag)=true:=dY (by omega)
 have e2:decide (i64.wrap d.Frame<(P:Int))=true:=by rw[ef];exact dY f1
 refine ab (λAH=>bh (W5 h _) λx1 h1=>?_) (λAH=>?_)
 ·rw[ef]at h1
  have h1:=h1 f0 f1
  have AH:=eq_of_beq AH
  subst AH
  refine au λx2 _=>⟨⟨⟨hd.block,hd.frame,hd.block,hd.frame⟩,λhm=>?_⟩,aO _⟩
  simp only[ky,wR,Oh,I2,Tree.m,dk,GH hm,e1,e2,h1]
  rfl
 ·have hc:cmd=1:=by
   rcases hc with h|h
   ·exact h
   ·rw[h]at AH;exact absurd AH (by decide)
  subst hc
  refine au λx2 _=>⟨⟨⟨hd.block,hd.frame,hd.block,hd.frame⟩,λhm=>?_⟩,aO _⟩
  simp only[ky,wR,Oh,I2,Tree.m,dk,GH hm,e1,e2]
  rfl
theorem zad{d:fm}(hd:oB d)(port:Int){v:Int}(hv:U v)(bn:Int):(Lj d m port v bn).w (λr=>sQ P d r.1/\r.2.length<=1):=by
 have cy:sQ P d d:=⟨hd,λh=>h⟩
 have e1:∀{k:Int},(v==k)=true->i64.wrap v=k:=λhk=>by
  have:=eq_of_beq hk
  obtain⟨a,b⟩:=hv
  rw[wrap_i64];omega
 unfold Lj
 refine ab (λ_=>⟨⟨⟨hv,hd.frame,hd.kz,hd.ig⟩,λh=>h⟩,aT _⟩) λ_=>ab (λ_=>⟨⟨⟨hd.block,hv,hd.kz,hd.ig⟩,λh=>h⟩,aT _⟩) λ_=>ab (λ_=>ab (λhk=>bh (qh h hd (.inl (e1 hk)) _) λx hx=>hx) λ_=>ab (λhk=>bh (qh h hd (.inr (e1 hk)) _) λx hx=>hx) λ_=>ab (λ_=>au λx hx=>ab (λhb=>?_) (λ_=>⟨cy,aT _⟩)) (λ_=>⟨cy,aT _⟩)) (λ_=>⟨cy,aT _⟩)
 refine⟨⟨⟨hd.block,hd.frame,hd.kz,hd.ig⟩,λhm=>?_⟩,aT _⟩
 rw[hb]at hx
 simp only[Lk,W8,Tree.m]at hx
 cases h2:d.B6==2
 ·rw[h2]at hx
  have h3:d.B6=3:=eq_of_beq hx.symm
  simp only[ky,wR,Tree.m,h3]at hm⊢
  exact hm
 ·have h3:d.B6=2:=eq_of_beq h2
  simp only[ky,wR,Tree.m,h3]at hm⊢
  exact hm
def Cq(P:Nat)(n n':ij):Prop:=pr n'/\(pw n P=true->pw n' P=true)
theorem xau{n:ij}(hn:pr n)(bn:Int):(Ll n m bn).w (λr=>r.length<=1):=by
 have h2:=h.p2
 unfold Ll
 refine ab (λ_=>aT _) λl1=>ab (λ_=>aT _) λl2=>au λx0 hx=>ab (λ_=>aT _) λhp=>bh (W5 h _) λx1 h1=>?_
 have l1:=oN l1
 have l2:=oN l2
 obtain⟨f0,f1⟩:=GL h hn.frame hx (by simpa using hp)
 have ef:i64.wrap n.Frame=n.Frame:=by rw[wrap_i64];omega
 rw[ef]at h1
 have h1:=h1 f0 f1
 exact ar (dY (by omega)) (aO _)
theorem qav{n:ij}(hn:pr n)(port:Int){v:Int}(hv:U v)(bn:Int):(Lm n m port v bn).w (λr=>Cq P n r.1/\r.2.length<=1):=by
 have h2:=h.p2
 have cy:Cq P n n:=⟨hn,λh=>h⟩
 unfold Lm
 refine ab (λ_=>⟨⟨⟨hv,hn.len,hn.buffer,hn.GM⟩,λh=>h⟩,aT _⟩) λ_=>ab (λ_=>⟨⟨⟨hn.frame,hv,hn.buffer,hn.GM⟩,λh=>h⟩,aT _⟩) λ_=>ab (λ_=>ab (λ_=>bh (xau h hn _) λx hx=>⟨cy,hx⟩) λ_=>ab (λ_=>au λx hx=>ab (λhb=>ab (λnp=>ab (λnr=>?_) (λ_=>⟨cy,aT _⟩)) (λ_=>⟨cy,aT _⟩)) (λ_=>⟨cy,aT _⟩)) λ_=>ab (λ_=>?_) (λ_=>⟨cy,aT _⟩)) (λ_=>⟨cy,aT _⟩)
 ·obtain⟨f0,f1⟩:=GL h hn.frame hx hb
  have np:n.C2=false:=by simpa using np
  have nr:n.B3=false:=by simpa using nr
  have e2:decide (i64.wrap n.Frame>=(P:Int))=false:=dN (by rw[wrap_i64];omega)
  refine⟨⟨⟨hn.frame,hn.len,hn.frame,hn.GM⟩,λhm=>?_⟩,aT _⟩
  simp only[pw,Lh,Tree.m,np,nr,e2]at hm⊢
  cases hb:(n.B7 !=0)
  ·rw[hb]at hm;exact hm
  ·rw[hb]at hm;cases hm
 ·refine⟨⟨⟨hn.frame,hn.len,hn.buffer,ep⟩,λhm=>?_⟩,aT _⟩
  simp only[pw,Lh,Tree.m]at hm⊢
  revert hm
  cases n.C2<;>cases n.B3<;>cases decide (i64.wrap n.B7>=(P:Int))<;>cases(n.B7 !=0)<;>simp
end
theorem xad(t:jk)(v:Int):tK (Oi t v)=true:=by
 simp only[Oi,Th,tK,Ti,Tree.m]
 cases h:(v !=0)
 ·have:v=0:=by simpa using h
  subst this;rfl
 ·rfl
theorem Eg{a:Int}(k:Nat)(hk:k<=32):bf .u32 a k=a/2^k:=by
 unfold bf
 have e:min (k:Int).toNat u32.bits=k:=by show min (k:Int).toNat 32=k;omega
 have hp:(0:Int)<2^k:=dM (by decide)
 rw[e,dO _ (dP hp)]
def Ln(x:Int)(n:Nat):Prop:=x<2^n/\(n=0\/(2:Int)^(n-1)<=x)
theorem W9{x q:Int}{n k:Nat}(hq:q=x/2^k)(h0:0<q)(h:Ln q n):Ln x (n+k):=by
 have hp:(0:Int)<2^k:=dM (by decide)
 obtain⟨h1,h2⟩:=h
 have hn:n≠0:=λe=>by subst e;simp at h1;omega
 refine⟨?_,.inr ?_⟩
 ·rw[dQ]
  have:x<(x/2^k+1)*2^k:=Int.lt_ediv_add_one_mul_self x hp
  have h3:(x/2^k+1)*2^k<=2^n*2^k:=dR (by omega) (dP hp)
  omega
 ·have h2:=h2.resolve_left hn
  have e:n+k-1=(n-1)+k:=by omega
  rw[e,dQ]
  have h3:(2:Int)^(n-1)*2^k<=q*2^k:=dR h2 (dP hp)
  have h4:q*2^k<=x:=by rw[hq];exact Int.ediv_mul_le x (Int.ne_of_gt hp)
  omega
theorem zG{x:Int}{n p:Nat}(h:Ln x n)(hx:x<2^p):n<=p:=by
 obtain⟨h1,h2⟩:=h
 rcases h2 with h2|h2
 ·omega
 ·rcases Nat.lt_or_ge p n with cq|pQ
  ·have:(2:Int)^p<=2^(n-1):=by
    have:=dS (show 0<2 by omega) (show p<=n-1 by omega)
    exact_mod_cast this
   omega
  ·exact pQ
theorem Zjr{x:Int}{n p:Nat}(h:Ln x n)(hn:n<=p):x<2^p:=by
 have:(2:Int)^n<=2^p:=by
  have:=dS (show 0<2 by omega) hn
  exact_mod_cast this
 exact Int.lt_of_lt_of_le h.1 this
def Cr(i:Nat):Bool:=match(wS (i:Int))with
 |.ofNat n=>decide ((i:Int)<2^n)&&(Nat.beq n 0||decide ((2:Int)^(n-1)<=i))&&decide (n<=8)
 |_=>false
theorem Tj{q:Int}(h0:0<=q)(h1:q<256):∃n:Nat,wS q=n/\Ln q n/\n<=8:=by
 have all:List.all (dB 256) Cr=true:=by kernel_rfl
 have:=List.all_eq_true.1 all q.toNat (List.mem_range.2 (by omega))
 have hq:((q.toNat:Nat):Int)=q:=by omega
 unfold Cr at this
 rw[hq]at this
 split at this
 ·rename_i n hn
  simp only[aE,aI,decide_eq_true_eq]at this
  refine⟨n,hn,⟨this.1.1,?_⟩,this.2⟩
  rcases this.1.2 with h|h
  ·exact .inl (bE h)
  ·exact .inr h
 ·cases this
theorem zav{x:Int}(h:U x)(hx:16777216<=x):wS x=24+wS (x/16777216):=by
 obtain⟨h0,h1⟩:=h
 have Bt:bf .u32 x 16=x/65536:=Eg 16 (by omega)
 have uG:bf .u32 (x/65536) 8=x/16777216:=by rw[show((8:Int))=((8:Nat):Int) from rfl,Eg 8 (by omega)];omega
 have d1:decide (x>=65536)=true:=dY (by omega)
 have d2:decide (x/65536>=256)=true:=dY (by omega)
 have d3:decide (x/16777216>=65536)=false:=dN (by omega)
 have d4:decide (x/16777216>=256)=false:=dN (by omega)
 have u:u8.wrap (x/16777216)=x/16777216:=by rw[wrap_u8];omega
 simp only[wS,Eh,Tree.m,Bt,uG,d1,d2,d3,d4,u,cond_true,cond_false]
 generalize(aK _ (dE (x/16777216)) (0:UInt8))=b
 have hb:=dT b
 rw[wrap_i64,wrap_i64,wrap_i64,wrap_i64]
 omega
theorem xav{x:Int}(h0:65536<=x)(h1:x<16777216):wS x=16+wS (x/65536):=by
 have Bt:bf .u32 x 16=x/65536:=Eg 16 (by omega)
 have d1:decide (x>=65536)=true:=dY (by omega)
 have d2:decide (x/65536>=256)=false:=dN (by omega)
 have d3:decide (x/65536>=65536)=false:=dN (by omega)
 have u:u8.wrap (x/65536)=x/65536:=by rw[wrap_u8];omega
 simp only[wS,Eh,Tree.m,Bt,d1,d2,d3,u,cond_true,cond_false]
 generalize(aK _ (dE (x/65536)) (0:UInt8))=b
 have hb:=dT b
 rw[wrap_i64,wrap_i64,wrap_i64]
 omega
theorem Oj{x:Int}(h0:256<=x)(h1:x<65536):wS x=8+wS (x/256):=by
 have s8:bf .u32 x 8=x/256:=Eg 8 (by omega)
 have d1:decide (x>=65536)=false:=dN (by omega)
 have d2:decide (x>=256)=true:=dY (by omega)
 have d3:decide (x/256>=65536)=false:=dN (by omega)
 have d4:decide (x/256>=256)=false:=dN (by omega)
 have u:u8.wrap (x/256)=x/256:=by rw[wrap_u8];omega
 simp only[wS,Eh,Tree.m,s8,d1,d2,d3,d4,u,cond_true,cond_false]
 generalize(aK _ (dE (x/256)) (0:UInt8))=b
 have hb:=dT b
 rw[wrap_i64,wrap_i64,wrap_i64,wrap_i64]
 omega
theorem Zq6{x:Int}(h:U x):∃n:Nat,wS x=n/\Ln x n:=by
 obtain⟨h0,h1⟩:=h
 rcases dU x 256 with a|a
 ·obtain⟨n,e,l,_⟩:=Tj h0 a
  exact⟨n,e,l⟩
 ·rcases dU x 65536 with b|b
  ·obtain⟨n,e,l,_⟩:=Tj (q:=x/256) (by omega) (by omega)
   exact⟨n+8,by rw[Oj a b,e];omega,W9 (k:=8) rfl (by omega) l⟩
  ·rcases dU x 16777216 with c|c
   ·obtain⟨n,e,l,_⟩:=Tj (q:=x/65536) (by omega) (by omega)
    exact⟨n+16,by rw[xav b c,e];omega,W9 (k:=16) rfl (by omega) l⟩
   ·obtain⟨n,e,l,_⟩:=Tj (q:=x/16777216) (by omega) (by omega)
    exact⟨n+24,by rw[zav ⟨h0,h1⟩ c,e];omega,W9 (k:=24) rfl (by omega) l⟩
theorem Ok{b:gr}(h:U b.C0){P:Nat}:uF b P=true↔b.C0<2^P:=by
 obtain⟨n,e,l⟩:=Zq6 h
 have hp:(if(0:Int)>(P:Int)then(0:Int)else P)=P:=by rw[if_neg (by omega)]
 simp only[uF,GK,Tree.m,dk,e,hp,decide_eq_true_eq]
 constructor
 ·intro h;exact Zjr l (by omega)
 ·intro h;have:=zG l h;omega
theorem Xa{a:Int}(h:U a){P:Nat}(h1:a<2^P):(dV 32 a).toNat<2^P:=by
 obtain⟨a0,a1⟩:=h
 rw[dW,dL a0 (by omega)]
 have:((2^P:Nat):Int)=(2:Int)^P:=by exact_mod_cast rfl
 omega
theorem Ol{a b:Int}(ha:U a)(hb:U b){P:Nat}(hP:P<=32)(h1:a<2^P)(h2:b<2^P):il .u32 a b<2^P:=by
 have e:(dV 32 a|||dV 32 b).toNat<2^P:=by
  rw[dX]
  exact Nat.or_lt_two_pow (Xa ha h1) (Xa hb h2)
 have hc:((2^P:Nat):Int)=(2:Int)^P:=by exact_mod_cast rfl
 have l:=(dV 32 a|||dV 32 b).isLt
 show wrap .u32 ((dV 32 a|||dV 32 b).toNat:Int)<2^P
 rw[wrap_u32]
 omega
theorem qae{a b:Int}(ha:U a){P:Nat}(h1:a<2^P):nU .u32 a b<2^P:=by
 have e:(dV 32 a&&&~~~dV 32 b).toNat<2^P:=by
  rw[dZ]
  exact Nat.lt_of_le_of_lt eA (Xa ha h1)
 have hc:((2^P:Nat):Int)=(2:Int)^P:=by exact_mod_cast rfl
 have l:=(dV 32 a&&&~~~dV 32 b).isLt
 show wrap .u32 ((dV 32 a&&&~~~dV 32 b).toNat:Int)<2^P
 rw[wrap_u32]
 omega
theorem xh{v:Int}(h0:0<=v)(h1:v<32):eg .u32 1 v=2^v.toNat:=by
 have e:min v.toNat u32.bits=v.toNat:=by show min v.toNat 32=v.toNat;omega
 obtain⟨n,rfl⟩:∃n:Nat,v=n:=⟨v.toNat,by omega⟩
 have hn:n<32:=by omega
 have cq:(2:Nat)^n<4294967296:=by
  have:=eB (show 1<2 by omega) hn
  simpa using this
 have hc:((2^n:Nat):Int)=(2:Int)^n:=by exact_mod_cast rfl
 unfold eg
 rw[e,wrap_u32,Int.one_mul,eC,<-hc]
 clear hc e
 generalize(2:Nat)^n=z at*
 omega
def Cs(P:Nat)(b b':gr):Prop:=okB b'/\(uF b P=true->uF b' P=true)
theorem Zpx{P:Nat}{m:List Int}(h:ey P m){b:gr}(hb:okB b)(port:Int){v:Int}(hv:U v):(Ei b m port v).w (λr=>Cs P b r.1/\ey P r.2):=by
 have gz:jK m=m:=rfl
 have h2:=h.p2
 have hp:=r0 h
 have cy:(Tree.an (mN m) (.lv (jK m) λx=>.lf (b,x))).w (λr=>Cs P b r.1/\ey P r.2):=cu (r6 h) (au λx hx=>by rw[gz]at hx;subst hx;exact⟨⟨hb,λh=>h⟩,h⟩)
 unfold Ei
 refine ab (λ_=>cy) λcq=>ar (dY hv.1) (ab (λ_=>au λx1 hx=>ab (λI3=>ab (λ_=>cu ⟨by decide,by decide,by decide⟩ (au λx2 _=>bh (W3 h _ _) λx3 ⟨h3,_⟩=>?_)) (λ_=>cy)) (λ_=>cy)) (λ_=>ab (λ_=>cu (r6 h) (au λx hx=>?_)) (λ_=>cy)))
 ·have cq:=oN cq
  have I3:=oY I3
  rw[hx,hp]at I3
  obtain⟨v0,v1⟩:=hv
  have ev:i64.wrap v=v:=by rw[wrap_i64];omega
  rw[ev]at I3
  refine⟨⟨⟨hb.1,fq _⟩,λhm=>?_⟩,h3⟩
  rw[Ok hb.2]at hm
  rw[Ok (fq _)]
  have hs:eg .u32 1 v<2^P:=by
   rw[xh v0 (by omega)]
   have:=eB (show 1<2 by omega) (show v.toNat<P by omega)
   exact_mod_cast this
  exact Ol hb.2 (fq _) h2 hm hs
 ·rw[gz]at hx;subst hx
  refine⟨⟨⟨hb.1,fq _⟩,λhm=>?_⟩,h⟩
  rw[Ok hb.2]at hm
  rw[Ok (fq _)]
  exact qae hb.2 hm
structure kept(P:Nat)(m n:ao):Prop where
 ok:rA P n
 dev:sP m=true->sP n=true
 lY:n.A7=m.A7
 pV:n.A0=m.A0
 wait:n.A3=m.A3
 halt:n.A6=m.A6
theorem Zge{P:Nat}{m:ao}(h:rA P m):kept P m m:=⟨h,λh=>h,rfl,rfl,rfl,rfl⟩
theorem Lo{P:Nat}{m n:ao}(hm:ey P m.Mem)(hn:ey P n.Mem)(hc:tJ m.A2=true->tJ n.A2=true)(ht:tK m.A9=true->tK n.A9=true)
 (hd:ky m.A4 P=true->ky n.A4 P=true) (hk:pw m.C1 P=true->pw n.C1 P=true) (hb:uF m.A1 P=true->uF n.A1 P=true) (h:sP m=true):sP n=true:=by
 rw[yg]at h⊢
 rw[r0 hm]at h
 rw[r0 hn]
 simp only[aE]at h⊢
 exact⟨hc h.1,ht h.2.1,hd h.2.2.1,hk h.2.2.2.1,hb h.2.2.2.2⟩
theorem Zkr{P:Nat}{m:ao}(h:rA P m)(port:Int){v:Int}(hv:U v)(bn:Int):(Lp m port v bn).w (λr=>kept P m r.1/\r.2.length<=1):=by
 have k:=Zge h
 obtain⟨h1,h2,h3,h4,h5,h6⟩:=h
 have id:∀{p:Prop},p->p:=λh=>h
 have D:∀(x:fm×List fc),(sQ P m.A4 x.1/\x.2.length<=1)->kept P m {A7:=m.A7,Mem:=m.Mem,A2:=m.A2,A9:=m.A9,A4:=x.1,C1:=m.C1,A1:=m.A1,A0:=m.A0,A3:=m.A3,A6:=m.A6}/\x.2.length<=1:=λx hx=>
  ⟨⟨⟨h1,h2,hx.1.1,h4,h5,h6⟩,Lo h2 h2 id id hx.1.2 id id,rfl,rfl,rfl,rfl⟩,hx.2⟩
 have N:∀(x:ij×List fc),(Cq P m.C1 x.1/\x.2.length<=1)->kept P m {A7:=m.A7,Mem:=m.Mem,A2:=m.A2,A9:=m.A9,A4:=m.A4,C1:=x.1,A1:=m.A1,A0:=m.A0,A3:=m.A3,A6:=m.A6}/\x.2.length<=1:=λx hx=>
  ⟨⟨⟨h1,h2,h3,hx.1.1,h5,h6⟩,Lo h2 h2 id id id hx.1.2 id,rfl,rfl,rfl,rfl⟩,hx.2⟩
 have B:∀(x:gr×List Int),(Cs P m.A1 x.1/\ey P x.2)->kept P m {A7:=m.A7,Mem:=x.2,A2:=m.A2,A9:=m.A9,A4:=m.A4,C1:=m.C1,A1:=x.1,A0:=m.A0,A3:=m.A3,A6:=m.A6}/\([]:List fc).length<=1:=λx hx=>
  ⟨⟨⟨h1,hx.2,h3,h4,hx.1.1.1,hx.1.1.2⟩,Lo h2 hx.2 id id id id hx.1.2,rfl,rfl,rfl,rfl⟩,aT _⟩
 unfold Lp
 repeat'(first
  |exact⟨k,aO _⟩
  |exact⟨k,aT _⟩
  |exact au λx hx=>⟨⟨⟨h1,h2,h3,h4,h5,h6⟩,Lo h2 h2 id (λ_=>by rw[hx];exact xad _ _) id id id,rfl,rfl,rfl,rfl⟩,aT _⟩
  |exact bh (zad h2 h3 _ hv _) λx hx=>D x hx
  |exact bh (qav h2 h4 _ hv _) λx hx=>N x hx
  |exact bh (Zpx h2 ⟨h5,h6⟩ _ hv) λx hx=>B x hx
  |refine ab (λ_=>?_) (λ_=>?_))
theorem Z9h(c:je)(port:Int):(I4 c port).w (λr=>U r.2/\(tJ c=true->tJ r.1=true)):=by
 have u1:U 4294967295:=⟨by omega,by omega⟩
 unfold I4
 refine ab (λ_=>ab (λ_=>⟨u1,λh=>h⟩) (λhb=>ar ?_ (ar ?_ ⟨fq _,λhm=>?_⟩))) (λ_=>ab (λ_=>⟨fq _,λh=>h⟩) (λ_=>⟨ep,λh=>h⟩))
 ·have hb:=oN hb
  have:0<c.C6.length:=List.length_pos_iff.2 hb
  simp[bJ];omega
 ·have hb:=oN hb
  have:0<c.C6.length:=List.length_pos_iff.2 hb
  exact dY (by omega)
 ·have hm:decide ((c.C6.length:Int)<=16)=true:=hm
  have hm:=oY hm
  show decide (((cZ _ (dA _ c.C6)).length:Int)<=16)=true
  refine dY ?_
  rw[bD,bF];omega
theorem Zql{P:Nat}{m:ao}(h:rA P m)(port:Int){clock:Int}(hc:U clock):(Lq m port clock).w (λr=>kept P m r.1/\U r.2):=by
 have k:=Zge h
 obtain⟨h1,h2,h3,h4,h5,h6⟩:=h
 have id:∀{p:Prop},p->p:=λh=>h
 have ti:∀t,U (Xb t):=λt=>by
  refine Tree.post (Tk t) (W:=U) ?_
  unfold Tk
  exact ab (λ_=>⟨by omega,by omega⟩) (λ_=>ep)
 have di:∀p,U (Om m.A4 p):=λp=>by
  refine Tree.post (Tl m.A4 p) (W:=U) ?_
  unfold Tl
  exact ab (λ_=>h3.block) (λ_=>ab (λ_=>h3.frame) (λ_=>ab (λ_=>fq _) (λ_=>ep)))
 have ni:∀p,U (Lr m.C1 p):=λp=>by
  refine Tree.post (On m.C1 p) (W:=U) ?_
  unfold On
  exact ab (λ_=>h4.frame) (λ_=>ab (λ_=>h4.GM) (λ_=>ab (λ_=>ab (λ_=>ab (λ_=>fq _) (λ_=>fq _)) (λ_=>ab (λ_=>fq _) (λ_=>ep))) (λ_=>ep)))
 have bi:∀p,(Ls m.A1 p).w U:=λp=>by
  unfold Ls
  exact ab (λ_=>h5) (λ_=>ab (λ_=>bh (Zo2 h6) λ_ _=>fq _) (λ_=>ep))
 have C:∀(x:je×Int),(U x.2/\(tJ m.A2=true->tJ x.1=true))->kept P m {A7:=m.A7,Mem:=m.Mem,A2:=x.1,A9:=m.A9,A4:=m.A4,C1:=m.C1,A1:=m.A1,A0:=m.A0,A3:=m.A3,A6:=m.A6}/\U x.2:=λx hx=>
  ⟨⟨⟨h1,h2,h3,h4,h5,h6⟩,Lo h2 h2 hx.2 id id id id,rfl,rfl,rfl,rfl⟩,hx.1⟩
 unfold Lq
 repeat'(first
  |exact⟨k,hc⟩
  |exact⟨k,ep⟩
  |exact bh (Z9h _ _) λx hx=>C x hx
  |exact S6 (Z9h _ _) λx hx=>C x hx
  |exact au λx hx=>⟨k,by rw[hx];exact ti _⟩
  |exact au λx hx=>⟨k,by rw[hx];exact di _⟩
  |exact au λx hx=>⟨k,by rw[hx];exact ni _⟩
  |exact bh (bi _) λx hx=>⟨k,hx⟩
  |refine ab (λ_=>?_) (λ_=>?_))
structure mO(c:bg):Prop where
 x0:c.X.a0=0
 st:c.B1.a0<=31
 en:c.B1.a7<=31
 rt:c.B1.a6<=255
 ve:dD c.B1.a1 4=0
theorem mO.pc{c:bg}(h:mO c)(p:Int):mO {X:=c.X,Pc:=p,B1:=c.B1}:=⟨h.x0,h.st,h.en,h.rt,h.ve⟩
theorem GN(a:Int):bc .u32 a 31<=31:=by
 have e:(dV 32 a&&&dV 32 31).toNat<=31:=by
  rw[dZ]
  exact bH Nat.and_le_right (by decide)
 show wrap .u32 ((dV 32 a&&&dV 32 31).toNat:Int)<=31
 rw[wrap_u32];omega
theorem Fv(a:Int):bc .u32 a 255<=255:=by have:=Ct a;omega
theorem Oo(a:Int):dD (nU .u32 a 3) 4=0:=by
 have e:(dV 32 a&&&~~~dV 32 3).toNat%4=0:=by
  rw[dZ,show(~~~dV 32 3).toNat=4294967292 by decide]
  have:=Nat.and_mod_two_pow (a:=(dV 32 a).toNat) (b:=4294967292) (n:=2)
  simpa using this
 have l:=(dV 32 a&&&~~~dV 32 3).isLt
 show dD (wrap .u32 ((dV 32 a&&&~~~dV 32 3).toNat:Int)) 4=0
 rw[wrap_u32,eD (by omega)]
 omega
theorem GO{f:Int->Int}(h:(dB 32).all (λn=>decide (f n<=31))=true){s:Int}(h0:0<=s)(h1:s<=31):f s<=31:=by
 have:=List.all_eq_true.1 h s.toNat (List.mem_range.2 (by omega))
 have e:((s.toNat:Nat):Int)=s:=by omega
 rw[e]at this
 exact oY this
theorem Qm{c:bg}(h:iM c)(m:mO c)(k b:Int):mO (rB c k b):=
 ⟨m.x0,GO (f:=λs=>nU .u32 (il .u32 (AL (AL s 1 8) 2 16) 1) 2) (by kernel_rfl) h.a0.1 m.st,m.en,m.rt,m.ve⟩
theorem Zqp{c:bg}(h:iM c)(m:mO c):mO (Lt c):=
 ⟨m.x0,GO (f:=λs=>AL (AL s 8 1) 16 2) (by kernel_rfl) h.a0.1 m.st,m.en,m.rt,m.ve⟩
theorem Lu{c:bg}(m:mO c){r:Int}(hr:0<=r/\r<16)(v:Int):(Fw c r v).w mO:=by
 unfold Fw
 refine ab (λhn=>ar (rc hr) ?_) (λ_=>m)
 have hn:r≠0:=by simpa using hn
 obtain⟨n,e⟩:∃n:Nat,r.toNat=n+1:=⟨r.toNat-1,by omega⟩
 refine⟨?_,m.st,m.en,m.rt,m.ve⟩
 show(fu.of 0 (dF (fu.l c.X) r.toNat v)).a0=0
 rw[e]
 exact m.x0
theorem zh{c:bg}(m:mO c)(k v:Int):(I5 c k v).w mO:=by
 unfold I5
 refine ab (λhk=>ar (by rw[eq_of_beq hk];decide) ?_) λ_=>ab (λhk=>ar (by rw[eq_of_beq hk];decide) ?_) λ_=>ab (λhk=>ar (by rw[eq_of_beq hk];decide) ?_) λ_=>ab (λhk=>ar (by rw[eq_of_beq hk];decide) ?_) λ_=>ab (λhk=>ar (by rw[eq_of_beq hk];decide) ?_) λ_=>ab (λhk=>ar (by rw[eq_of_beq hk];decide) ?_) λ_=>ab (λhk=>ar (by rw[eq_of_beq hk];decide) ?_) λ_=>ab (λhk=>ar (by rw[eq_of_beq hk];decide) ?_) (λ_=>m)
 all_goals(have hk:=eq_of_beq hk;subst hk)
 ·exact⟨m.x0,GN _,m.en,m.rt,m.ve⟩
 ·exact⟨m.x0,m.st,GN _,m.rt,m.ve⟩
 ·exact⟨m.x0,m.st,m.en,Fv _,m.ve⟩
 ·exact⟨m.x0,m.st,m.en,m.rt,Oo _⟩
 ·exact⟨m.x0,m.st,m.en,m.rt,m.ve⟩
 ·exact⟨m.x0,m.st,m.en,m.rt,m.ve⟩
 ·exact⟨m.x0,m.st,m.en,m.rt,m.ve⟩
 ·exact⟨m.x0,m.st,m.en,m.rt,m.ve⟩
section
variable {c:bg} (h:iM c) (m:mO c) {i:gm} (hi:sR i)
include h m hi
theorem Zl9:(Fx c i).w (λr=>mO r.1):=by
 unfold Fx
 refine ar (rc hi.a) (ar (rc hi.b) ?_)
 repeat'(first
  |refine ab (λ_=>?_) (λ_=>?_)
  |exact bh (Lu m hi.a _) λx hx=>hx.pc _
  |exact au λx _=>ab (λ_=>m.pc _) (λ_=>m.pc _)
  |exact au λx hx=>by rw[hx];exact Qm h m _ _
  |exact au λx hx=>by rw[hx];exact Zqp h m
  |exact ar (by have:=hi.jy (by simp_all);simp[bJ];omega) (bh (Lu m hi.a _) λx hx=>hx.pc _)
  |exact bh (zh m _ _) λx hx=>hx.pc _
  |refine ar (rc hi.c) ?_
  |exact bh (Lv _ (h.r _) (fq _)) λy hy=>bh (Lu m hi.a _) λx hx=>hx.pc _
  |exact bh (Lv _ (h.r _) (h.r _)) λy hy=>bh (Lu m hi.a _) λx hx=>hx.pc _
  |refine bq ?_)
 all_goals exact m.pc _
theorem yG{P:Nat}{mem:List Int}(hm:ey P mem):(Qd c mem i).w (λr=>mO r.1):=by
 have w:=Tm i.Op
 unfold Qd
 refine ar (rc hi.b) (au λx0 h0=>?_)
 rw[<-h0]at w
 refine bh (Oq hm (fq _) w 2) λx1 h1=>ab (λ_=>au λy hy=>by rw[hy];exact Qm h m _ _) (λ_=>au λx3 h3=>?_)
 rw[h0,<-h3]at w
 exact bh (I6 h1.2 h1.1 w) λx4 h4=>ab (λ_=>bh (Xc h4.1 8) λy hy=>bh (Lu m hi.a _) λx hx=>hx.pc _) (λ_=>bh (Lu m hi.a _) λx hx=>hx.pc _)
theorem yh{P:Nat}{mem:List Int}(hm:ey P mem):(Qb c mem i).w (λr=>mO r.1):=by
 have w:=Tm i.Op
 unfold Qb
 refine ar (rc hi.b) (au λx0 h0=>?_)
 rw[<-h0]at w
 refine bh (Oq hm (fq _) w 3) λx1 h1=>ab (λ_=>au λy hy=>by rw[hy];exact Qm h m _ _) (λ_=>au λx3 h3=>ar (rc hi.a) ?_)
 rw[h0,<-h3]at w
 exact bh (Tn h1.2 h1.1 w (h.r _)) λx hx=>m.pc _
end
theorem vG{c:bg}(h:iM c)(m:mO c){P:Nat}{mem:List Int}(hm:ey P mem):(Fy c mem).w (λr=>mO r.1):=by
 unfold Fy
 refine bh (Xd hm h) λx0 h0=>ab (λ_=>au λy hy=>by rw[hy];exact Qm h m _ _) (λ_=>bh (Xe _) λx2 h2=>ab (λ_=>au λy hy=>by rw[hy];exact Qm h m _ _) (λhb=>?_))
 have hi:=h2 (by simpa using hb)
 refine au λx4 _=>?_
 repeat'(first
  |refine ab (λ_=>?_) (λ_=>?_)
  |exact bh (yG h m hi h0.2) λx hx=>hx
  |exact bh (yh h m hi h0.2) λx hx=>hx
  |exact bh (Zl9 h m hi) λx hx=>hx
  |exact au λy hy=>by rw[hy];exact Qm h m _ _
  |refine au λ_ _=>?_)
theorem Zkm{c:bg}(h:iM c){i:gm}(hi:sR i):(Fx c i).w (λr=>0<=r.2.D7/\r.2.D7<16):=by
 have z:(0:Int)<=0/\(0:Int)<16:=⟨by decide,by decide⟩
 unfold Fx
 refine ar (rc hi.a) (ar (rc hi.b) ?_)
 repeat'(first
  |refine ab (λ_=>?_) (λ_=>?_)
  |exact bh (Ej h hi.a (fq _)) λx hx=>z
  |exact au λx _=>ab (λ_=>z) (λ_=>z)
  |exact au λx hx=>z
  |exact ar (by have:=hi.jy (by simp_all);simp[bJ];omega) (bh (Ej h hi.a (h.a _)) λx hx=>z)
  |exact bh (Znl h _ (h.r _)) λx hx=>z
  |refine ar (rc hi.c) ?_
  |exact bh (Lv _ (h.r _) (fq _)) λy hy=>bh (Ej h hi.a hy) λx hx=>z
  |exact bh (Lv _ (h.r _) (h.r _)) λy hy=>bh (Ej h hi.a hy) λx hx=>z
  |refine bq ?_)
 all_goals first|exact z|exact hi.a
theorem Zmu{c:bg}(h:iM c){P:Nat}{mem:List Int}(hm:ey P mem):(Fy c mem).w (λr=>0<=r.2.2.D7/\r.2.2.D7<16):=by
 have z:(0:Int)<=0/\(0:Int)<16:=⟨by decide,by decide⟩
 unfold Fy
 refine bh (Xd hm h) λx0 h0=>ab (λ_=>au λy hy=>z) (λ_=>bh (Xe _) λx2 h2=>ab (λ_=>au λy hy=>z) (λhb=>?_))
 have hi:=h2 (by simpa using hb)
 refine au λx4 _=>?_
 repeat'(first
  |refine ab (λ_=>?_) (λ_=>?_)
  |exact bh (Z28 h hi h0.2) λx hx=>z
  |exact bh (Qzp h hi h0.2) λx hx=>z
  |exact bh (Zkm h hi) λx hx=>hx
  |exact au λy hy=>z
  |refine au λ_ _=>?_)
theorem nf{a x:Bool}:(bif a then false else x)=true↔a=false/\x=true:=by cases a<;>simp
theorem GP(m:ao):mM m=true↔lZ m.Mem≠0/\mO m.A7/\m.A0<=1152921504606846976/\¬(m.A3=true/\m.A6=true)/\sP m=true:=by
 rw[xV]
 unfold Fu chain
 rw[nf,nf,nf,nf,nf,nf,nf]
 simp only[decide_eq_false_iff_not,Int.not_lt,beq_eq_false_iff_ne,bne_eq_false_iff_eq,gt_iff_lt]
 constructor
 ·rintro⟨a1,a2,a3,a4,a5,a6,a7,a8⟩
  refine⟨a1,⟨a2,a3,a4,a5,a6⟩,a7,?_,?_⟩
  ·rintro⟨w,h⟩;rw[w,h]at a8;cases a8
  ·revert a8;cases m.A3
   ·exactλh=>h
   ·cases m.A6
    ·exactλh=>h
    ·intro h;cases h
 ·rintro⟨a1,⟨a2,a3,a4,a5,a6⟩,a7,a8,a9⟩
  refine⟨a1,a2,a3,a4,a5,a6,a7,?_⟩
  rw[a9]
  cases hw:m.A3
  ·rfl
  ·cases hh:m.A6
   ·rfl
   ·exact absurd ⟨hw,hh⟩ a8
theorem To{m:ao}(h:AM m=true):mM m=true/\m.A6=false/\m.A0<1152921504606846976:=by
 simp only[AM,I7,Tree.m,dk]at h
 cases h1:mM m
 ·rw[h1]at h;cases h
 ·cases h2:m.A6
  ·rw[h1,h2]at h
   cases h3:Lw m
   ·rw[h3]at h
    have h:decide (m.A0<1152921504606846976)=true:=h
    exact⟨rfl,rfl,oY h⟩
   ·rw[h3]at h;cases h
  ·rw[h1,h2]at h;cases h
theorem Xf{P:Nat}{m:ao}(h:rA P m)(g:mO m.A7):(GQ m).w (λr=>mO r.A7/\rA P r/\r.Mem=m.Mem/\r.A3=false/\r.A6=m.A6/\r.A0=m.A0/\r.A2=m.A2/\r.A9=m.A9/\r.A4=m.A4/\r.C1=m.C1/\r.A1=m.A1):=by
 obtain⟨h1,h2,h3,h4,h5,h6⟩:=h
 unfold GQ
 refine ab (λ_=>⟨g,⟨h1,h2,h3,h4,h5,h6⟩,rfl,rfl,rfl,rfl,rfl,rfl,rfl,rfl,rfl⟩) (λ_=>bh (Xg (m:=⟨_,_,_,_,_,_,m.A1,_,_,_⟩) h6) λx0 _=>ej (inv:=λz=>0<=z/\z<=5) (μ:=Xh m) ⟨by omega,by omega⟩ (cO _) (λz hz=>?_))
 obtain⟨z1,z2⟩:=hz
 refine ab (λhb=>ar (dY z1) (ab (λ_=>au λx1 hx=>⟨by rw[hx];exact Qm h1 g _ _,⟨by rw[hx];exact GR h1 _ ep,h2,h3,h4,h5,h6⟩,rfl,rfl,rfl,rfl,rfl,rfl,rfl,rfl,rfl⟩) (λ_=>dm ?_))) (λ_=>⟨g,⟨h1,h2,h3,h4,h5,h6⟩,rfl,rfl,rfl,rfl,rfl,rfl,rfl,rfl,rfl⟩)
 have hb:=oY hb
 show(0<=i64.wrap (z+1)/\i64.wrap (z+1)<=5)/\(5-i64.wrap (z+1)).toNat<(5-z).toNat
 have ew:i64.wrap (z+1)=z+1:=by rw[wrap_i64];omega
 rw[ew];omega
structure Good(P:Nat)(m r:ao):Prop where
 ok:rA P r
 pV:0<=r.A0
 may:mM m=true->mM r=true
 or:r=m\/r.A0=m.A0+1
theorem vh{P:Nat}{m:ao}(h:rA P m)(Gx:0<=m.A0){clock:Int}(hk:U clock):(GS m clock).w (λr=>r.2.length<=1/\Good P m r.1):=by
 have gz:jK m.Mem=m.Mem:=rfl
 unfold GS
 refine cu (r6 h.mem) (au λl hl=>?_)
 rw[gz]at hl;subst hl
 refine cu (Tree.pp (Xi (m:=⟨_,_,_,_,_,_,m.A1,_,_,_⟩) h.given)).1 (au λx1 nL=>ab (λ_=>⟨aT _,h,Gx,λh=>h,.inl rfl⟩) (λhb=>?_))
 have hr:AM m=true:=by rw[<-show x1=AM m from nL];simpa using hb
 obtain⟨hm,hh,Of⟩:=To hr
 obtain⟨g1,g2,g3,g4,g5⟩:=(GP m).1 hm
 have hP:(P:Int)≠0:=by rw[<-r0 h.mem];exact g1
 have fin:∀(n:ao),rA P n->mO n.A7->sP n=true->n.A0=m.A0->¬(n.A3=true/\n.A6=true)->Good P m {A7:=n.A7,Mem:=n.Mem,A2:=n.A2,A9:=n.A9,A4:=n.A4,C1:=n.C1,A1:=n.A1,A0:=wrap .u64 (n.A0+1),A3:=n.A3,A6:=n.A6}:=λn a b c d e=>by
  have ec:wrap .u64 (n.A0+1)=m.A0+1:=by rw[d,wrap_u64];omega
  refine⟨⟨a.lY,a.mem,a.kM,a.r7,a.target,a.given⟩,?_,λ_=>(GP _).2 ⟨?_,b,?_,e,c⟩,.inr ec⟩
  ·show 0<=wrap .u64 (n.A0+1);omega
  ·show lZ n.Mem≠0;rw[r0 a.mem];exact hP
  ·show wrap .u64 (n.A0+1)<=_;omega
 refine bh (Xf (m:=⟨_,_,m.A2,m.A9,m.A4,m.C1,m.A1,m.A0,m.A3,m.A6⟩) ⟨h.lY,h.mem,h.kM,h.r7,h.target,h.given⟩ g2) λx2 I8=>?_
 obtain⟨b1,b2,b3,b4,b5,b6,b7,b8,b9,Xj,Xk⟩:=I8
 have ex:=Tree.pp (xx b2.lY b2.mem)
 have em:=Tree.pp (vG b2.lY b1 b2.mem)
 have er:=Tree.pp (Zmu b2.lY b2.mem)
 refine cu ex.1 (au λx3 h3=>?_)
 obtain⟨e1,e2,e3⟩:iM x3.1/\ey P x3.2.1/\U x3.2.2.Value:=by rw[h3];exact ex.2
 have f1:mO x3.1:=by rw[h3];exact em.2
 have r1:0<=x3.2.2.D7/\x3.2.2.D7<16:=by rw[h3];exact er.2
 have Xl:rA P ⟨x3.1,x3.2.1,x2.A2,x2.A9,x2.A4,x2.C1,x2.A1,x2.A0,x2.A3,x2.A6⟩:=⟨e1,e2,b2.kM,b2.r7,b2.target,b2.given⟩
 have dev:∀(w h:Bool),sP ⟨x3.1,x3.2.1,x2.A2,x2.A9,x2.A4,x2.C1,x2.A1,x2.A0,w,h⟩=true:=λw hh=>by
  have id:∀{p:Prop},p->p:=λh=>h
  refine Lo (m:=m) (P:=P) h.mem e2 ?_ ?_ ?_ ?_ ?_ g5
  ·show _->tJ x2.A2=true;rw[b7];exact id
  ·show _->tK x2.A9=true;rw[b8];exact id
  ·show _->ky x2.A4 P=true;rw[b9];exact id
  ·show _->pw x2.C1 P=true;rw[Xj];exact id
  ·show _->uF x2.A1 P=true;rw[Xk];exact id
 have hw:x2.A3=false:=b4
 have hh2:x2.A6=false:=b5.trans hh
 have Cu:x2.A0=m.A0:=b6
 refine ab (λ_=>?_) λ_=>ab (λ_=>?_) λ_=>ab (λ_=>?_) λ_=>ab (λ_=>?_) λ_=>?_
 ·refine bh (Zql Xl _ hk) λx4 h4=>?_
  obtain⟨k,u⟩:=h4
  have kc:x4.1.A7=x3.1:=k.lY
  have kt:x4.1.A0=m.A0:=k.pV.trans Cu
  have kw:¬(x4.1.A3=true/\x4.1.A6=true):=λe=>by have:x4.1.A3=x2.A3:=k.wait;rw[this,hw]at e;cases e.1
  have km:mO x4.1.A7:=by rw[kc];exact f1
  refine ab (λhn=>ar (rc r1) ⟨aT _,?_⟩) (λ_=>⟨aT _,fin x4.1 k.ok km (k.dev (dev _ _)) kt kw⟩)
  have hn:x3.2.2.D7≠0:=by simpa using hn
  obtain⟨q,e⟩:∃q:Nat,x3.2.2.D7.toNat=q+1:=⟨x3.2.2.D7.toNat-1,by omega⟩
  refine fin ⟨⟨fu.of 0 (dF (fu.l x4.1.A7.X) x3.2.2.D7.toNat x4.2),x4.1.A7.Pc,x4.1.A7.B1⟩,x4.1.Mem,x4.1.A2,x4.1.A9,x4.1.A4,x4.1.C1,x4.1.A1,x4.1.A0,x4.1.A3,x4.1.A6⟩ ⟨⟨Xm k.ok.lY.x u _,k.ok.lY.pc,k.ok.lY.jy⟩,k.ok.mem,k.ok.kM,k.ok.r7,k.ok.target,k.ok.given⟩ ⟨?_,km.st,km.en,km.rt,km.ve⟩ (k.dev (dev _ _)) kt kw
  show(fu.of 0 (dF (fu.l x4.1.A7.X) x3.2.2.D7.toNat x4.2)).a0=0
  rw[e]
  exact km.x0
 ·refine bh (Zkr Xl _ e3 _) λx5 h5=>?_
  obtain⟨k,u⟩:=h5
  have kc:x5.1.A7=x3.1:=k.lY
  exact⟨u,fin x5.1 k.ok (by rw[kc];exact f1) (k.dev (dev _ _)) (k.pV.trans Cu) (λe=>by have:x5.1.A3=x2.A3:=k.wait;rw[this,hw]at e;cases e.1)⟩
 ·exact⟨aT _,fin ⟨x3.1,x3.2.1,x2.A2,x2.A9,x2.A4,x2.C1,x2.A1,x2.A0,true,x2.A6⟩ ⟨e1,e2,b2.kM,b2.r7,b2.target,b2.given⟩ f1 (dev _ _) Cu (λe=>by have e2:x2.A6=true:=e.2;rw[hh2]at e2;cases e2)⟩
 ·exact⟨aT _,fin ⟨x3.1,x3.2.1,x2.A2,x2.A9,x2.A4,x2.C1,x2.A1,x2.A0,x2.A3,true⟩ ⟨e1,e2,b2.kM,b2.r7,b2.target,b2.given⟩ f1 (dev _ _) Cu (λe=>by have e2:x2.A3=true:=e.1;rw[hw]at e2;cases e2)⟩
 ·exact⟨aT _,fin ⟨x3.1,x3.2.1,x2.A2,x2.A9,x2.A4,x2.C1,x2.A1,x2.A0,x2.A3,x2.A6⟩ Xl f1 (dev _ _) Cu (λe=>by have e2:x2.A3=true:=e.1;rw[hw]at e2;cases e2)⟩
theorem Znu{P:Nat}{m:ao}(h:oA P m){e:j9}(he:U e.N):(GU m e).w (λr=>(mM m=true->mM r.1=true)/\r.1.A0=m.A0/\U r.1.A1.C0):=by
 obtain⟨h1,h2,h3,h4,h5,h7⟩:=h
 have gz:jK m.Mem=m.Mem:=rfl
 have pg:∀{m':List Int},ey P m'->lZ m'=lZ m.Mem:=λh=>by rw[r0 h,r0 h2]
 have cy:(mM m=true->mM m=true)/\m.A0=m.A0/\U m.A1.C0:=⟨λh=>h,rfl,h5.2⟩
 unfold GU
 refine cu (r6 h2) (au λl hl=>?_)
 rw[gz]at hl;subst hl
 refine bh (Tp (m:=⟨_,_,_,_,_,_,m.A1,_,_,_⟩) h5.2) λx1 _=>ab (λ_=>cy) λ_=>ab (λ_=>cy) λ_=>?_
 refine ab (λ_=>ab (λ_=>ab (λ_=>au λx hx=>?_) (λ_=>cy)) (λ_=>cy)) λ_=>ab (λ_=>ab (λ_=>ab (λ_=>bh (qad _ _) λx hx=>?_) (λ_=>cy)) (λ_=>cy)) λ_=>ab (λhk=>bh (Zom h2 h3 e) λx hx=>?_) λ_=>ab (λhk=>ab (λ_=>bh (zg h2 h4 _) λx hx=>?_) (λ_=>cy)) λ_=>ab (λ_=>ab (λ_=>?_) (λ_=>cy)) (λ_=>cy)
 ·exact⟨Oe rfl rfl rfl rfl rfl (λh=>h) (λh=>by rw[hx];exact xG _ h) (λ_ h=>h) (λ_ h=>h) rfl,rfl,h5.2⟩
 ·exact⟨Oe rfl rfl rfl rfl rfl hx (λh=>h) (λ_ h=>h) (λ_ h=>h) rfl,rfl,h5.2⟩
 ·obtain⟨a1,a2,a3,a4,a5⟩:=hx
  exact⟨Oe (pg a2) rfl rfl rfl rfl (λh=>h) (λh=>h) a5 (λ_ h=>h) rfl,rfl,h5.2⟩
 ·obtain⟨a1,a2,a3,a4,a5⟩:=hx
  exact⟨Oe (pg a2) rfl rfl rfl rfl (λh=>h) (λh=>h) (λ_ h=>h) a5 rfl,rfl,h5.2⟩
 ·exact⟨Oe rfl rfl rfl rfl rfl (λh=>h) (λh=>h) (λ_ h=>h) (λ_ h=>h) rfl,rfl,h5.2⟩
theorem Lx{a:Int}(h:U a):(dV 32 a).toNat=a.toNat:=by
 obtain⟨h1,h2⟩:=h
 rw[dW];omega
theorem Xn{a b:Int}(ha:U a)(hb:U b):bc .u32 a b=((a.toNat&&&b.toNat:Nat):Int):=by
 have l:=(dV 32 a&&&dV 32 b).isLt
 have e:(dV 32 a&&&dV 32 b).toNat=a.toNat&&&b.toNat:=by rw[dZ,Lx ha,Lx hb]
 show wrap .u32 ((dV 32 a&&&dV 32 b).toNat:Int)=_
 rw[wrap_u32,<-e];omega
theorem qaw{a b:Int}(ha:U a)(hb:U b):il .u32 a b=((a.toNat|||b.toNat:Nat):Int):=by
 have l:=(dV 32 a|||dV 32 b).isLt
 have e:(dV 32 a|||dV 32 b).toNat=a.toNat|||b.toNat:=by rw[dX,Lx ha,Lx hb]
 show wrap .u32 ((dV 32 a|||dV 32 b).toNat:Int)=_
 rw[wrap_u32,<-e];omega
theorem Xo{a:Int}(ha:U a)(k:Nat)(hk:k<=32){q:Int}(hq:q=((2^k-1:Nat):Int)):bc .u32 a q=a%2^k:=by
 have hp:2^k<=2^32:=dS (by decide) hk
 have h1:(2:Nat)^32=4294967296:=by decide
 have uH:=eF k
 subst hq
 rw[Xn ha ⟨by omega,by omega⟩,eC,Nat.and_two_pow_sub_one_eq_mod]
 have:=ha.1
 rw[Int.natCast_emod,eG this]
 simp
theorem m15{a:Int}(ha:U a):bc .u32 a 15=a%16:=Xo ha 4 (by decide) rfl
theorem Cv{a:Int}(ha:U a):bc .u32 a 255=a%256:=Xo ha 8 (by decide) rfl
theorem I9{a:Int}(ha:U a):bc .u32 a 65535=a%65536:=Xo ha 16 (by decide) rfl
theorem Fz(p:Int->Bool)(N:Nat)(h:(dB N).all (λn=>p n)=true){s:Int}(h0:0<=s)(h1:s<N):p s=true:=by
 have:=List.all_eq_true.1 h s.toNat (List.mem_range.2 (by omega))
 rwa [eG h0]at this
theorem Eb{x:Int}(h0: -9223372036854775808<=x)(h1:x<9223372036854775808):wrap .i64 x=x:=by rw[wrap_i64];omega
theorem Ot(a:Int):bf .u32 a 0=a:=by have:=Eg (a:=a) 0 (by decide);simpa using this
theorem fld(w:Int):tL w 24 8=bc .u32 (bf .u32 w 24) 255/\tL w 20 4=bc .u32 (bf .u32 w 20) 15/\tL w 16 4=bc .u32 (bf .u32 w 16) 15/\tL w 0 16=bc .u32 (bf .u32 w 0) 65535/\tL w 8 8=bc .u32 (bf .u32 w 8) 255:=
 ⟨by kernel_rfl,by kernel_rfl,by kernel_rfl,by kernel_rfl,by kernel_rfl⟩
def Cw(f:Int):Aq×Bool:=
 bif f==1 then(⟨false,false,false,0,0⟩,true)else bif f==2 then(⟨true,true,true,0,0⟩,true)else bif f==3 then(⟨true,true,false,-32768,32767⟩,true)
 else bif f==4 then(⟨true,true,false,0,65535⟩,true)else bif f==5 then(⟨true,true,false,0,31⟩,true)else bif f==6 then(⟨true,false,false,0,65535⟩,true)
 else bif f==7 then(⟨true,false,false,-32768,32767⟩,true)else bif f==8 then(⟨true,false,false,0,7⟩,true)else bif f==9 then(⟨true,false,false,0,11⟩,true)else(⟨false,false,false,0,0⟩,false)
def Cx(x y:Aq×Bool):Bool:=x.1.a==y.1.a&&x.1.b==y.1.b&&x.1.c==y.1.c&&x.1.low==y.1.low&&x.1.D3==y.1.D3&&x.2==y.2
theorem qH{x y:Aq×Bool}(h:Cx x y=true):x=y:=by
 obtain⟨⟨a,b,c,d,e⟩,f⟩:=x
 obtain⟨⟨a',b',c',d',e'⟩,f'⟩:=y
 simp only[Cx,aE,beq_iff_eq]at h
 obtain⟨⟨⟨⟨⟨rfl,rfl⟩,rfl⟩,rfl⟩,rfl⟩,rfl⟩:=h
 rfl
theorem zV{op:Int}(h0:0<=op)(h1:op<256):Tq op=Cw (oW op):=by
 exact qH (Fz (λop=>Cx (Tq op) (Cw (oW op))) 256 (by kernel_rfl) h0 h1)
theorem qi{op:Int}(h0:0<=op)(h1:op<256):oW op=0\/oW op=1\/oW op=2\/oW op=3\/oW op=4\/oW op=5\/oW op=6\/oW op=7\/oW op=8\/oW op=9:=by
 have:=oY (Fz (λop=>decide (0<=oW op/\oW op<=9)) 256 (by kernel_rfl) h0 h1)
 omega
theorem zae{op:Int}(h0:0<=op)(h1:op<256):Ou op=GV op:=by
 exact eq_of_beq (Fz (λop=>Ou op==GV op) 256 (by kernel_rfl) h0 h1)
theorem xH{a x y:Bool}:(cond a x y=true)↔((a=true/\x=true)\/(a=false/\y=true)):=by cases a<;>simp
theorem Xp{i:gm}(h0:0<=i.Op)(h1:i.Op<256)(hi:wrap .i64 i.bo=i.bo):Ja i=Ek i:=by
 rw[eH]
 simp only[Ja,Ov,Tree.m,dk,Ek,Ow,zV h0 h1,hi]
 rcases qi h0 h1 with h|h|h|h|h|h|h|h|h|h<;>rw[h]<;>
 simp[Cw,Ly,Ts,Lz,Tt,Xq,Xr,Tree.m,dk,xH]<;>omega
theorem Xs{x:Int}(h0:0<=x)(h1:x<65536):wrap .i32 (El x 16)=wrap .i32 (wrap .i16 x):=by
 have e:El x 16=wrap .u32 (bf .i32 (wrap .i32 (eg .u32 x 16)) 16):=by kernel_rfl
 have e2:∀y,bf .i32 y 16=y/65536:=λy=>by
  show eI y 65536=_
  rw[dO _ (by decide)]
 have e3:eg .u32 x 16=wrap .u32 (x*65536):=rfl
 have e4:wrap .i16 x=(x+32768)%65536-32768:=by
  simp[wrap,IntKind.bits,IntKind.signed]
  split<;>omega
 rw[e,e2,e3,e4]
 simp only[wrap_i32,wrap_u32]
 omega
theorem sx8{x:Int}(h0:0<=x)(h1:x<256):El x 8=GW x 8:=by
 exact eq_of_beq (Fz (λx=>El x 8==GW x 8) 256 (by kernel_rfl) h0 h1)
theorem xi{w:Int}(hw:U w):Ox w=rC w:=by
 obtain⟨f1,f2,f3,f4,_⟩:=fld w
 obtain⟨w0,w1⟩:=hw
 have uG:bf .u32 w 24=w/16777216:=by have:=Eg (a:=w) 24 (by decide);simpa using this
 have s20:U (bf .u32 w 20):=AN ⟨w0,w1⟩ _
 have Bt:U (bf .u32 w 16):=AN ⟨w0,w1⟩ _
 rw[Cv (AN ⟨w0,w1⟩ _),uG]at f1
 rw[m15 s20]at f2
 rw[m15 Bt]at f3
 rw[Ot]at f4
 have g1:w/16777216%256=w/16777216:=by omega
 rw[g1]at f1
 have o0:0<=w/16777216:=by omega
 have o1:w/16777216<256:=by omega
 have eo:wrap .i64 (w/16777216)=w/16777216:=Eb (by omega) (by omega)
 have i32:∀x,wrap .i64 (wrap .i32 x)=wrap .i32 x:=λx=>by rw[wrap_i64,wrap_i32];omega
 have l0:=I9 ⟨w0,w1⟩
 have lx:=Xs (x:=bc .u32 w 65535) (by omega) (by omega)
 simp only[Ox,LA,rC,GX,Tree.m,dk,f1,f2,f3,f4,uG,eo,zV o0 o1,m15 s20,m15 Bt,lx]
 generalize w/16777216=op at*
 generalize wrap .i64 (bf .u32 w 20%16)=a
 generalize wrap .i64 (bf .u32 w 16%16)=b
 generalize bc .u32 w 65535=l
 rw[Xp (i:=⟨op,a,b,wrap .i64 l,0⟩) o0 o1 rfl,Xp (i:=⟨op,a,b,0,wrap .i32 (wrap .i16 l)⟩) o0 o1 (i32 _),Xp (i:=⟨op,a,b,0,wrap .i32 l⟩) o0 o1 (i32 _)]
 rcases qi o0 o1 with h|h|h|h|h|h|h|h|h|h<;>rw[h]<;>rfl
theorem xae(x v:BitVec 32)(s:Nat)(hs:s<=24):((x&&&~~~(255#32<<<s))|||((v&&&255#32)<<<s)).toNat=2^(s+8)*(x.toNat/2^(s+8))+(2^s*(v.toNat%256)+x.toNat%2^s):=by
 have hx:=x.isLt
 have h1:x.toNat%2^s<2^s:=Nat.mod_lt _ (eF s)
 have h2:2^s*(v.toNat%256)+x.toNat%2^s<2^(s+8):=by
  have:v.toNat%256<256:=Nat.mod_lt _ (by decide)
  have h3:2^s*(v.toNat%256)<=2^s*255:=Nat.mul_le_mul_left _ (by omega)
  have:2^(s+8)=2^s*256:=by rw[Nat.pow_add]
  omega
 rw[eJ h2,eJ h1]
 apply eK
 intro i
 rw[BitVec.testBit_toNat]
 simp only[BitVec.getLsbD_or,BitVec.getLsbD_and,BitVec.getLsbD_not,BitVec.getLsbD_shiftLeft,Nat.testBit_or,Nat.testBit_two_pow_mul,eM,Nat.testBit_div_two_pow,BitVec.getLsbD_ofNat]
 have Xt:∀j,eN 255 j=decide (j<8):=λj=>by
  rw[show 255=2^8-1 from rfl,Nat.testBit_two_pow_sub_one]
 have Xu:∀n j,eN (n%256) j=(decide (j<8)&&eN n j):=λn j=>by
  rw[show 256=2^8 from rfl,eM]
 rw[Xt,Xu]
 by_cases hi:i<32
 ·by_cases a1:i<s
  ·have a2:¬(s<=i):=by omega
   have a3:¬(s+8<=i):=by omega
   simp[hi,a1,a2,a3,eO]
  ·by_cases a4:s+8<=i
   ·have a2:¬(i-s<8):=by omega
    have a5:i-(s+8)+(s+8)=i:=by omega
    have a6:s<=i:=by omega
    simp[hi,a1,a2,a4,a5,a6,eO]
   ·have a2:(i-s<8):=by omega
    have a6:s<=i:=by omega
    have a7:i-s<32:=by omega
    simp[hi,a1,a2,a4,a6,a7,eO]
 ·have a0:x.toNat.testBit i=false:=Nat.testBit_lt_two_pow (Nat.lt_of_lt_of_le hx (dS (by decide) (by omega)))
  have a1:¬(i<s):=by omega
  have a2:¬(i-s<8):=by omega
  have a4:s+8<=i:=by omega
  have a5:i-(s+8)+(s+8)=i:=by omega
  simp[hi,a0,a1,a2,a4,a5]
theorem Z9m(b:BitVec 32):dV 32 (wrap .u32 (b.toNat:Int))=b:=by
 have:=b.isLt
 rw[wrap_u32]
 apply eQ
 rw[dW];omega
theorem Zpv(x:Int):dV 32 (wrap .u32 x)=dV 32 x:=by
 apply eQ
 rw[dW,dW,wrap_u32]
 have:((2^32:Nat):Int)=4294967296:=by decide
 rw[this,Int.emod_emod_of_dvd _ (Int.dvd_refl _)]
theorem Zhe{x:Int}(hx:U x)(s:Nat)(hs:s<=32):dV 32 (eg .u32 x s)=dV 32 x<<<s:=by
 obtain⟨n,rfl⟩:∃n:Nat,x=n:=⟨x.toNat,by have:=hx.1;omega⟩
 have e:min (dE (s:Int)) u32.bits=s:=by show min (dE (s:Int)) 32=s;omega
 unfold eg
 rw[e,Zpv]
 have e2:((n:Int)*2^s)=((n*2^s:Nat):Int):=by simp
 have:=hx.2
 rw[e2,eR,eR]
 apply eQ
 rw[BitVec.toNat_shiftLeft,eS,eS,Nat.shiftLeft_eq,Nat.mod_mul_mod]
def uJ(W v:Int)(s:Nat):Int:=il .u32 (nU .u32 W (eg .u32 255 s)) (eg .u32 (bc .u32 v 255) s)
theorem qaf{W v:Int}(hW:U W)(hv:U v)(s:Nat)(hs:s<=24):uJ W v s=2^(s+8)*(W/2^(s+8))+(2^s*(v%256)+W%2^s):=by
 have e:=xae (dV 32 W) (dV 32 v) s hs
 have l:=((dV 32 W&&&~~~(255#32<<<s))|||((dV 32 v&&&255#32)<<<s)).isLt
 have h1:dV 32 (nU .u32 W (eg .u32 255 s))=dV 32 W&&&~~~(255#32<<<s):=by
  show dV 32 (wrap .u32 (dV 32 W&&&~~~dV 32 (eg .u32 255 s)).toNat)=_
  rw[Z9m,Zhe ⟨by decide,by decide⟩ s (by omega)]
  rfl
 have h2:dV 32 (eg .u32 (bc .u32 v 255) s)=(dV 32 v&&&255#32)<<<s:=by
  rw[Zhe (Jb _ _) s (by omega)]
  congr 1
  show dV 32 (wrap .u32 (dV 32 v&&&dV 32 255).toNat)=_
  rw[Z9m];rfl
 show wrap .u32 ((dV 32 (nU .u32 W (eg .u32 255 s))|||dV 32 (eg .u32 (bc .u32 v 255) s)).toNat:Int)=_
 rw[h1,h2]
 have lw:wrap .u32 ((((dV 32 W&&&~~~(255#32<<<s))|||((dV 32 v&&&255#32)<<<s)).toNat:Nat):Int)=(((dV 32 W&&&~~~(255#32<<<s))|||((dV 32 v&&&255#32)<<<s)).toNat:Nat):=by rw[wrap_u32];omega
 rw[lw,e,Lx hW,Lx hv]
 obtain⟨n,rfl⟩:∃n:Nat,W=n:=⟨W.toNat,by have:=hW.1;omega⟩
 obtain⟨k,rfl⟩:∃n:Nat,v=n:=⟨v.toNat,by have:=hv.1;omega⟩
 simp
def sS(w:Int)(k:Nat):Int:=if k=0 then w%256 else if k=1 then w/256%256 else if k=2 then w/65536%256 else w/16777216%256
def lK(m:List Int)(a:Nat):Int:=sS (m.getD (a/4) 0) (a%4)
theorem zi(w:Int)(k:Nat):0<=sS w k/\sS w k<256:=by
 unfold sS
 split
 ·omega
 ·split
  ·omega
  ·split<;>omega
theorem zaf{w v:Int}(hw:U w)(hv:U v)(h:∀k,k<4->sS w k=sS v k):w=v:=by
 have h0:=h 0 (by omega)
 have h1:=h 1 (by omega)
 have h2:=h 2 (by omega)
 have h3:=h 3 (by omega)
 simp[sS]at h0 h1 h2 h3
 obtain⟨a,b⟩:=hw
 obtain⟨c,d⟩:=hv
 omega
theorem Zm{m n:List Int}(hl:m.length=n.length)(hm:∀w∈m,U w)(hn:∀w∈n,U w)(h:∀a,lK m a=lK n a):m=n:=by
 refine bN hl λi h1 h2=>?_
 have e1:m[i]=m.getD i 0:=by simp[aK,h1]
 have e2:n[i]=n.getD i 0:=by simp[aK,h2]
 rw[e1,e2]
 refine zaf (AO hm i) (AO hn i) λk hk=>?_
 have:=h (4*i+k)
 simp only[lK]at this
 rwa [show(4*i+k)/4=i by omega,show(4*i+k)%4=k by omega]at this
theorem Qut{l:List Int}{i:Nat}(h:i<l.length)(v:Int):(l.set i v).getD i 0=v:=by
 simp[aK,h]
theorem Xv{m:List Int}{i:Nat}(hi:i<m.length)(v:Int)(a:Nat):lK (m.set i v) a=if a/4=i then sS v (a%4)else lK m a:=by
 unfold lK
 split
 ·rename_i h;rw[h,Qut hi]
 ·rename_i h;rw[wQ _ _ _ _ (λe=>h e.symm)]
theorem xaf{W v:Int}(hW:U W)(hv:U v){j:Nat}(hj:j<4){k:Nat}(hk:k<4):sS (uJ W v (8*j)) k=if k=j then v%256 else sS W k:=by
 have h:=qaf hW hv (8*j) (by omega)
 rw[h]
 obtain⟨w0,w1⟩:=hW
 have h0:0<=v%256:=by omega
 have h1:v%256<256:=by omega
 generalize v%256=b at*
 clear h
 have hj:j=0\/j=1\/j=2\/j=3:=by omega
 have hk:k=0\/k=1\/k=2\/k=3:=by omega
 rcases hj with rfl|rfl|rfl|rfl<;>rcases hk with rfl|rfl|rfl|rfl<;>simp[sS]<;>omega
theorem qag{m:List Int}{a v:Int}(ha:U a):Bu m a 1 v=m.set (a/4).toNat (uJ (m.getD (a/4).toNat 0) v (8*(a%4).toNat)):=by
 obtain⟨a0,a1⟩:=ha
 have e1:wrap .u32 (eT a 4)=a/4:=by rw[wrap_u32,eU a0];omega
 have e2:wrap .u32 (8*dD a 4)=((8*(a%4).toNat:Nat):Int):=by rw[wrap_u32,eD a0];omega
 have e3:((1:Int)==4)=false:=rfl
 simp only[Bu,Jc,Tree.m,e1,e2,e3,cond_false]
 rfl
theorem yi{P:Nat}{m:List Int}(h:ey P m){a v:Int}(ha:U a)(hl:a<128*P)(hv:U v):ey P (Bu m a 1 v)/\∀b:Nat,lK (Bu m a 1 v) b=if(b:Int)=a then v%256 else lK m b:=by
 have hlen:=h.len
 have a0:=ha.1
 rw[qag ha]
 have hi:(a/4).toNat<m.length:=by omega
 refine⟨⟨by rw[dG];exact hlen,h.p1,h.p2,Ee h.u (nd _ _) _⟩,λb=>?_⟩
 rw[Xv hi]
 by_cases hb:b/4=(a/4).toNat
 ·rw[if_pos hb,xaf (AO h.u _) hv (by omega) (by omega)]
  by_cases hc:b%4=(a%4).toNat
  ·rw[if_pos hc,if_pos (by omega)]
  ·rw[if_neg hc,if_neg (by omega),lK,hb]
 ·rw[if_neg hb,if_neg (by omega)]
theorem yV{P:Nat}{m:List Int}(h:ey P m){frame:Int}(f0:0<=frame)(f1:frame<P)(s:List UInt8):(GY m frame s).w (λr=>ey P r/\∀b:Nat,lK r b=if frame*128<=b/\(b:Int)<frame*128+min s.length 128 then((s.getD (b-frame*128).toNat 0).toNat:Int)else lK m b):=by
 unfold GY
 have h3:=h.p2
 refine ej (inv:=λz=>0<=z.1/\z.1<=min s.length 128/\ey P z.2/\∀b:Nat,lK z.2 b=if frame*128<=b/\(b:Int)<frame*128+z.1 then((s.getD (b-frame*128).toNat 0).toNat:Int)else lK m b) (μ:=Xw m frame s) ⟨show(0:Int)<=0 by decide,by show(0:Int)<=_;omega,h,λb=>by rw[if_neg];show¬(_/\_<_+(0:Int));omega⟩ (cO _) (λv0 wN=>?_)
 obtain⟨i,mm⟩:=v0
 obtain⟨i0,i1,hm,hy⟩:=wN
 have i0:0<=i:=i0
 have i1:i<=min s.length 128:=i1
 have hm:ey P mm:=hm
 have fin:∀r:List Int,r=mm->i=min s.length 128->ey P r/\∀b:Nat,lK r b=if frame*128<=b/\(b:Int)<frame*128+min s.length 128 then((s.getD (b-frame*128).toNat 0).toNat:Int)else lK m b:=λr hr hi=>by
  subst hr;refine⟨hm,λb=>?_⟩
  rw[hy b];simp only[hi]
 refine ab (λh1=>ab (λh2=>ar ?_ ?_) (λh2=>fin mm rfl ?_)) (λh1=>fin mm rfl ?_)
 ·have:=oY h1
  simp[bJ];omega
 ·have h1:i<s.length:=oY h1
  have h2:i<128:=oY h2
  have e:wrap u32 (wrap i64 (wrap i64 (frame*128)+i))=frame*128+i:=by
   rw[wrap_u32,wrap_i64,wrap_i64];omega
  show(Tree.an (Tu mm (wrap u32 (wrap i64 (wrap i64 (frame*128)+i))) 1 _) (Tree.lv _ _)).w _
  rw[e]
  have hu:U (frame*128+i):=⟨by omega,by omega⟩
  have hvU:∀n:Nat,U (wrap .u32 (n:Int)):=λn=>fq _
  obtain⟨g1,_⟩:=Tree.pp (Cy hm (size:=1) (addr:=frame*128+i) hu (by rw[hm.len];omega) (hvU (eV (s.getD i.toNat 0))))
  obtain⟨g2,g3⟩:=yi hm hu (by omega) (hvU (eV (s.getD i.toNat 0)))
  refine cu g1 (au λx0 nK=>?_)
  rw[nK]
  have ew:i64.wrap (i+1)=i+1:=by rw[wrap_i64];omega
  refine dm ?_
  show(0<=i64.wrap (i+1)/\i64.wrap (i+1)<=min s.length 128/\ey P _/\∀b:Nat,lK _ b=if frame*128<=b/\(b:Int)<frame*128+i64.wrap (i+1)then _ else _)/\(128-i64.wrap (i+1)).toNat<(128-i).toNat
  rw[ew]
  refine⟨⟨by omega,by omega,g2,λb=>?_⟩,by omega⟩
  rw[show Bu mm (frame*128+i) 1 _=_ from rfl,g3 b]
  by_cases hb:(b:Int)=frame*128+i
  ·rw[if_pos hb,if_pos (by omega),wrap_u32]
   have:=(s.getD i.toNat 0).toNat_lt
   rw[show(b-frame*128).toNat=i.toNat by omega];omega
  ·rw[if_neg hb,hy b]
   show(if frame*128<=(b:Int)/\(b:Int)<frame*128+i then _ else _)=_
   by_cases hc:frame*128<=(b:Int)/\(b:Int)<frame*128+i
   ·rw[if_pos hc,if_pos (by omega)]
   ·rw[if_neg hc,if_neg (by omega)]
 ·have h1:i<s.length:=oY h1
  have h2:¬i<128:=oN h2
  omega
 ·have h1:¬i<s.length:=oN h1
  omega
theorem vi{x y:Int}(hx:U x)(hy:U y)(k:Nat)(hk:x<2^k)(h:x+y*2^k<4294967296):il .u32 x (y*2^k)=x+y*2^k:=by
 obtain⟨n,rfl⟩:∃n:Nat,x=n:=⟨x.toNat,by have:=hx.1;omega⟩
 obtain⟨z,rfl⟩:∃n:Nat,y=n:=⟨y.toNat,by have:=hy.1;omega⟩
 have e:((z:Int)*2^k)=((z*2^k:Nat):Int):=by simp
 rw[e]at h⊢
 have hn:n<2^k:=by exact_mod_cast hk
 rw[qaw hx ⟨by omega,by omega⟩,eC,eC,Nat.or_comm,Nat.mul_comm,<-eJ hn]
 omega
theorem four{a b c d:Int}(ha:0<=a/\a<256)(hb:0<=b/\b<256)(hc:0<=c/\c<256)(hd:0<=d/\d<256):il .u32 (il .u32 (il .u32 (wrap .u32 a) (eg .u32 (wrap .u32 b) 8)) (eg .u32 (wrap .u32 c) 16)) (eg .u32 (wrap .u32 d) 24)=a+b*2^8+c*2^16+d*2^24:=by
 have w:∀{x:Int},0<=x/\x<256->wrap .u32 x=x:=λhx=>by rw[wrap_u32];omega
 have s8:∀{x:Int},0<=x/\x<256->eg .u32 x 8=x*2^8:=fun{x} hx=>by show wrap .u32 (x*2^8)=_;rw[wrap_u32];omega
 have Bt:∀{x:Int},0<=x/\x<256->eg .u32 x 16=x*2^16:=fun{x} hx=>by show wrap .u32 (x*2^16)=_;rw[wrap_u32];omega
 have uG:∀{x:Int},0<=x/\x<256->eg .u32 x 24=x*2^24:=fun{x} hx=>by show wrap .u32 (x*2^24)=_;rw[wrap_u32];omega
 rw[w ha,w hb,w hc,w hd,s8 hb,Bt hc,uG hd]
 rw[vi ⟨by omega,by omega⟩ ⟨by omega,by omega⟩ 8 (by omega) (by omega),vi ⟨by omega,by omega⟩ ⟨by omega,by omega⟩ 16 (by omega) (by omega),vi ⟨by omega,by omega⟩ ⟨by omega,by omega⟩ 24 (by omega) (by omega)]
theorem zH{a b c d:Int}(ha:0<=a/\a<256)(hb:0<=b/\b<256)(hc:0<=c/\c<256)(hd:0<=d/\d<256)(k:Nat)(hk:k<4):sS (a+b*2^8+c*2^16+d*2^24) k=if k=0 then a else if k=1 then b else if k=2 then c else d:=by
 have hk:k=0\/k=1\/k=2\/k=3:=by omega
 rcases hk with rfl|rfl|rfl|rfl<;>simp[sS]<;>omega
theorem Tv{P:Nat}{m:List Int}(h:ey P m)(f:Int):IZ m f=decide (0<=f/\f<P):=by
 have hp:=r0 h
 simp only[IZ,N7,Tree.m,dk,hp]
 by_cases h1:0<=f
 ·rw[dY h1];simp[h1]
 ·rw[dN h1];simp[h1]
theorem yH(s:List UInt8)(a b k:Nat)(h:k<b):(cZ b (dA a s)).getD k 0=s.getD (a+k) 0:=by
 simp[dC,aU,h]
theorem GZ(x:UInt8):0<=(x.toNat:Int)/\(x.toNat:Int)<256:=by have:=x.toNat_lt;omega
theorem Xx{P:Nat}{m:List Int}(h:ey P m){f:Int}(f0:0<=f)(f1:f<P){s:List UInt8}(hs:s.length=128):(GF m f s).w (λr=>r.2=true/\ey P r.1/\∀b:Nat,lK r.1 b=if f*128<=b/\(b:Int)<f*128+128 then((s.getD (b-f*128).toNat 0).toNat:Int)else lK m b):=by
 have gz:jK m=m:=rfl
 have h2:=h.p2
 unfold GF
 refine cu (r6 h) (au λx0 nK=>au λx1 nL=>?_)
 rw[gz]at nK;subst nK
 rw[Tv h,dY ⟨f0,f1⟩]at nL
 subst nL
 refine ab (λhb=>by cases hb) λ_=>ab (λhb=>by simp[hs]at hb) λ_=>?_
 refine ej (inv:=λz:Int×List Int=>0<=z.1/\z.1<=32/\ey P z.2/\∀b:Nat,lK z.2 b=if f*128<=b/\(b:Int)<f*128+4*z.1 then((s.getD (b-f*128).toNat 0).toNat:Int)else lK x0 b) (μ:=W4 x0 f s) ⟨show(0:Int)<=0 by decide,show(0:Int)<=32 by decide,h,λb=>by rw[if_neg];show¬(_/\_<_+4*(0:Int));omega⟩ (cO _) λz ⟨z1,z2,z3,z4⟩=>?_
 refine ab (λhb=>?_) (λhb=>⟨rfl,z3,λb=>?_⟩)
 ·have hb:=oY hb
  have e1:i64.wrap (4*z.1)=4*z.1:=by rw[wrap_i64];omega
  have e2:i64.wrap (i64.wrap (4*z.1)+4)=4*z.1+4:=by rw[wrap_i64,wrap_i64];omega
  have e3:i64.wrap (i64.wrap (f*32)+z.1)=f*32+z.1:=by rw[wrap_i64,wrap_i64];omega
  have hl:=z3.len
  have cut:dE (i64.wrap (i64.wrap (4*z.1)+4))-dE (i64.wrap (4*z.1))=4:=by rw[e2,e1];omega
  have hlen:(cZ (dE (i64.wrap (i64.wrap (4*z.1)+4))-dE (i64.wrap (4*z.1))) (dA (dE (i64.wrap (4*z.1))) s)).length=4:=by
   rw[cut,e1,bD,bF];omega
  refine ar (dY (by rw[e2,e1];omega)) ?_
  refine ar (dY (by rw[hlen];decide)) (ar (dY (by rw[hlen];decide)) (ar (dY (by rw[hlen];decide)) (ar (dY (by rw[hlen];decide)) (ar (by rw[e3];simp[bJ];omega) (dm ?_)))))
  have ew:i64.wrap (z.1+1)=z.1+1:=by rw[wrap_i64];omega
  rw[cut]
  refine⟨⟨by show 0<=i64.wrap (z.1+1);rw[ew];omega,by show i64.wrap (z.1+1)<=32;rw[ew];omega,?_,?_⟩,by show(32-i64.wrap (z.1+1)).toNat<(32-z.1).toNat;rw[ew];omega⟩
  ·show ey P (dF _ _ _)
   exact⟨by rw[dG];exact hl,z3.p1,z3.p2,Ee z3.u (nd _ _) _⟩
  ·intro b
   show lK (dF z.2 (dE (i64.wrap (i64.wrap (f*32)+z.1))) _) b=if f*128<=(b:Int)/\(b:Int)<f*128+4*i64.wrap (z.1+1)then _ else _
   rw[e3,ew,four (GZ _) (GZ _) (GZ _) (GZ _),Xv (by omega)]
   have g:∀k:Nat,k<4->(cZ 4 (dA (dE (i64.wrap (4*z.1))) s)).getD k 0=s.getD ((4*z.1).toNat+k) 0:=λk hk=>by rw[e1];exact yH _ _ _ _ hk
   by_cases hc:b/4=(f*32+z.1).toNat
   ·have Tw:f*128<=(b:Int)/\(b:Int)<f*128+4*(z.1+1):=by omega
    rw[if_pos hc,zH (GZ _) (GZ _) (GZ _) (GZ _) _ (by omega),if_pos Tw]
    have hb4:b%4=0\/b%4=1\/b%4=2\/b%4=3:=by omega
    have gi:(b-f*128).toNat=(4*z.1).toNat+b%4:=by omega
    rw[gi]
    rcases hb4 with h4|h4|h4|h4<;>rw[h4]
    ·rw[if_pos rfl,<-g 0 (by omega)];rfl
    ·rw[if_neg (by decide),if_pos rfl,<-g 1 (by omega)];rfl
    ·rw[if_neg (by decide),if_neg (by decide),if_pos rfl,<-g 2 (by omega)];rfl
    ·rw[if_neg (by decide),if_neg (by decide),if_neg (by decide),<-g 3 (by omega)];rfl
   ·rw[if_neg hc,z4 b]
    by_cases hd:f*128<=(b:Int)/\(b:Int)<f*128+4*z.1
    ·rw[if_pos hd,if_pos (by omega)]
    ·rw[if_neg hd,if_neg (by omega)]
 ·have hb:=oN hb
  show lK z.2 b=_
  rw[z4 b,show z.1=32 by omega]
  rfl
theorem Xy{α:Type}(l l2:List α)(k:Nat)(z:α):(l++l2).getD k z=if k<l.length then l.getD k z else l2.getD (k-l.length) z:=by
 simp only[dC,List.getElem?_append]
 split<;>rfl
theorem u8w{x:Int}:wrap .u8 x=x%256:=wrap_u8 x
theorem G0(W:Int):bf .u32 W 8=W/256/\bf .u32 W 16=W/65536/\bf .u32 W 24=W/16777216:=by
 refine⟨?_,?_,?_⟩
 ·show eI W 256=_;rw[dO _ (by decide)]
 ·show eI W 65536=_;rw[dO _ (by decide)]
 ·show eI W 16777216=_;rw[dO _ (by decide)]
theorem b4d(W:Int){k:Nat}(hk:k<4):[wrap .u8 W,wrap .u8 (bf .u32 W 8),wrap .u8 (bf .u32 W 16),wrap .u8 (bf .u32 W 24)].getD k 0=sS W k:=by
 obtain⟨a,b,c⟩:=G0 W
 have hk:k=0\/k=1\/k=2\/k=3:=by omega
 rcases hk with rfl|rfl|rfl|rfl<;>simp[sS,a,b,c,u8w]
theorem Xz(l:List Int)(k:Nat)(h:0<=l.getD k 0/\l.getD k 0<256)(hk:k<l.length):(((bytesOf l).getD k 0).toNat:Int)=l.getD k 0:=by
 have e:(bytesOf l).getD k 0=eW (l.getD k 0).toNat:=by
  simp[bytesOf,dC,hk]
 rw[e,UInt8.toNat_ofNat']
 omega
theorem Zkk(l:List UInt8)(k:Nat)(hk:k<l.length):(iX l).getD k 0=((l.getD k 0).toNat:Int):=by
 simp[iX,dC,hk]
theorem zaw(w:List Int)(h:w.length<=32):(Ft w).w (λr=>r.length=4*w.length/\∀k:Nat,k<4*w.length->((r.getD k 0).toNat:Int)=sS (w.getD (k/4) 0) (k%4)):=by
 have e0:i64.wrap (4*(w.length:Int))=4*w.length:=by rw[wrap_i64];omega
 unfold Ft
 refine ar (by rw[e0];simp[bJ,D.plain];omega) ?_
 refine ej (inv:=λz:Int×List Int=>0<=z.1/\z.1<=w.length/\(z.2.length:Int)=4*z.1/\∀k:Nat,(k:Int)<4*z.1->z.2.getD k 0=sS (w.getD (k/4) 0) (k%4)) (μ:=N8 w) ⟨by decide,by show(0:Int)<=w.length;omega,rfl,λk hk=>by have hk:(k:Int)<4*0:=hk;omega⟩ (cO _) λz ⟨z1,z2,z3,z4⟩=>?_
 refine ab (λhb=>?_) (λhb=>?_)
 ·have hb:=oY hb
  have ew:i64.wrap (z.1+1)=z.1+1:=by rw[wrap_i64];omega
  refine ar (by simp[bJ];omega) (ar (dY (by omega)) (dm ?_))
  show(_/\_/\_/\∀k:Nat,(k:Int)<4*i64.wrap (z.1+1)->(z.2++_).getD k 0=_)/\(_:Nat)<_
  refine⟨⟨by rw[ew];omega,by rw[ew];omega,by rw[ew,lA];simp only[dH,dI];omega,λk hk=>?_⟩,by show(w.length-i64.wrap (z.1+1)).toNat<(w.length-z.1).toNat;rw[ew];omega⟩
  rw[ew]at hk
  rw[Xy]
  split
  ·exact z4 k (by omega)
  ·rename_i hn
   rw[b4d _ (by omega),show z.1.toNat=k/4 by omega,show k-z.2.length=k%4 by omega]
 ·have hb:=oN hb
  show(bytesOf z.2).length=_/\∀k:Nat,_->(((bytesOf z.2).getD k 0).toNat:Int)=_
  refine⟨by rw[N9];omega,λk hk=>?_⟩
  have e:=z4 k (by omega)
  have:=zi (w.getD (k/4) 0) (k%4)
  rw[Xz _ _ (by rw[e];exact this) (by omega),e]
def AP(m:List Int)(f:Int)(r:List UInt8):Prop:=r.length=128/\∀k:Nat,k<128->((r.getD k 0).toNat:Int)=lK m ((f*128).toNat+k)
theorem xaw{m:List Int}{f:Int}{r s:List UInt8}(a:AP m f r)(b:AP m f s):r=s:=by
 obtain⟨a1,a2⟩:=a
 obtain⟨b1,b2⟩:=b
 refine bN (by omega) λi h1 h2=>?_
 have e:=(a2 i (by omega)).trans (b2 i (by omega)).symm
 have e1:r[i]=r.getD i 0:=by simp[aK,h1]
 have e2:s[i]=s.getD i 0:=by simp[aK,h2]
 rw[e1,e2]
 exact UInt8.toNat_inj.1 (by omega)
theorem qj{P:Nat}{m:List Int}(h:ey P m){f:Int}(f0:0<=f)(f1:f<P):(GG m f).w (λr=>AP m f r.1/\r.2=true):=by
 have hl:=h.len
 have h2:=h.p2
 unfold GG
 refine au λx0 nK=>?_
 rw[Tv h,dY ⟨f0,f1⟩]at nK
 subst nK
 refine ab (λhb=>by cases hb) (λhb=>?_)
 have e1:i64.wrap (f*32)=f*32:=by rw[wrap_i64];omega
 have e2:i64.wrap (i64.wrap (f*32)+32)=f*32+32:=by rw[wrap_i64,wrap_i64];omega
 have cut:dE (i64.wrap (i64.wrap (f*32)+32))-dE (i64.wrap (f*32))=32:=by rw[e2,e1];omega
 have hlen:(cZ 32 (dA (dE (i64.wrap (f*32))) m)).length=32:=by
  rw[e1,bD,bF];omega
 refine ar (by rw[e2,e1];simp[bJ];omega) ?_
 rw[cut]
 refine cu (by show dJ _<=1000000000000;rw[hlen];decide) (au λx1 h1=>?_)
 have t:=(Tree.pp (zaw _ (dK hlen))).2
 rw[hlen,show(Ft (cZ 32 (dA (dE (i64.wrap (f*32))) m))).m=x1 from h1.symm]at t
 refine⟨⟨t.1,λk hk=>?_⟩,rfl⟩
 show((x1.getD k 0).toNat:Int)=_
 rw[t.2 k hk,lK,e1]
 have g:(cZ 32 (dA (dE (f*32)) m)).getD (k/4) 0=m.getD ((f*32).toNat+k/4) 0:=by
  simp[dC,aU,show k/4<32 by omega]
 rw[g,show((f*128).toNat+k)/4=(f*32).toNat+k/4 by omega,show((f*128).toNat+k)%4=k%4 by omega]
theorem qax(x:Int):XA x 4=bytesOf [wrap .u8 (bf .u32 x 0),wrap .u8 (bf .u32 x 8),wrap .u8 (bf .u32 x 16),wrap .u8 (bf .u32 x 24)]:=by kernel_rfl
theorem zag{P:Nat}{m:List Int}(hm:ey P m){frame:Int}(f0:0<=frame)(f1:frame<P):(G1 m frame).w (λr=>AP m frame r.1/\r.2=true):=by
 have hp:=Em hm
 have hl:=hm.len
 have h2:=hm.p2
 unfold G1
 refine ab (λh=>by have:=oY h;omega) (λh=>au λx0 hx=>ab (λh1=>by have:=oY h1;rw[hx,hp]at this;omega) (λh1=>?_))
 refine ej (inv:=λz:Int×List Int=>0<=z.1/\z.1<=32/\(z.2.length:Int)=4*z.1/\∀k:Nat,(k:Int)<4*z.1->z.2.getD k 0=lK m ((frame*128).toNat+k)) (μ:=XB m frame) ⟨by decide,by decide,rfl,λk hk=>by have hk:(k:Int)<4*0:=hk;omega⟩ (cO _) (λz hz=>?_)
 obtain⟨z1,z2,z3,z4⟩:=hz
 refine ab (λhb=>?_) (λhb=>?_)
 ·have hb:=oY hb
  have e:wrap i64 (wrap i64 (frame*32)+z.1)=frame*32+z.1:=by rw[wrap_i64,wrap_i64];omega
  refine ar (by rw[e];simp[bJ];omega) (cu (show(4:Int)<=1000000000000 by decide) (au λx1 h4=>?_))
  rw[qax,Ot,e]at h4
  have l4:x1.length=4:=by rw[h4];rfl
  refine ar (dY (by rw[Tx,l4];omega)) (dm ?_)
  show(0<=i64.wrap (z.1+1)/\i64.wrap (z.1+1)<=32/\((z.2++iX x1).length:Int)=4*i64.wrap (z.1+1)/\∀k:Nat,(k:Int)<4*i64.wrap (z.1+1)->(z.2++iX x1).getD k 0=_)/\(32-i64.wrap (z.1+1)).toNat<(32-z.1).toNat
  have ew:i64.wrap (z.1+1)=z.1+1:=by rw[wrap_i64];omega
  rw[ew]
  refine⟨⟨by omega,by omega,by rw[lA,Tx,l4];omega,λk hk=>?_⟩,by omega⟩
  rw[Xy]
  split
  ·exact z4 k (by omega)
  ·rename_i hn
   have En:k-z.2.length<4:=by omega
   rw[Zkk _ _ (by omega),h4]
   have d:=b4d (m.getD (frame*32+z.1).toNat 0) En
   rw[Xz _ _ (by rw[d];exact zi _ _) (by simpa using En),d,lK]
   rw[show((frame*128).toNat+k)/4=(frame*32+z.1).toNat by omega,show((frame*128).toNat+k)%4=k-z.2.length by omega]
 ·have hb:=oN hb
  refine⟨⟨?_,λk hk=>?_⟩,rfl⟩
  ·show(bytesOf z.2).length=128
   rw[N9];omega
  ·show(((bytesOf z.2).getD k 0).toNat:Int)=_
   have e:=z4 k (by omega)
   rw[Xz _ _ (by rw[e];exact zi _ _) (by omega),e]
theorem Zei{P:Nat}{m:List Int}(h:ey P m)(f:Int):Eo m f=LB m f:=by
 by_cases hf:0<=f/\f<P
 ·have a:=(Tree.pp (qj h hf.1 hf.2)).2
  have b:=(Tree.pp (zag h hf.1 hf.2)).2
  exact eY (xaw a.1 b.1) (a.2.trans b.2.symm)
 ·have hp:=Em h
  have e1:Eo m f=([],false):=by
   simp only[Eo,GG,Tree.m,dk,Tv h,dN hf];rfl
  have e2:LB m f=([],false):=by
   simp only[LB,G1,Tree.m,dk,hp]
   by_cases h0:f<0
   ·rw[dY h0];rfl
   ·rw[dN h0,dY (show f>=P by omega)];rfl
  rw[e1,e2]
section
variable {P:Nat} {m:List Int} (h:ey P m)
include h
theorem Zhu{f:Int}(f0:0<=f)(f1:f<P){s:List UInt8}(hs:s.length=128):Ep m f s=(Oy m f s,true):=by
 have a:=(Tree.pp (Xx h f0 f1 hs)).2
 have b:=(Tree.pp (yV h f0 f1 s)).2
 refine eY (Zm (a.2.1.len.trans b.1.len.symm) a.2.1.u b.1.u λk=>?_) a.1
 have e:((min s.length 128:Nat):Int)=128:=by rw[hs];rfl
 have b2:=b.2 k
 have a2:=a.2.2 k
 rw[e]at b2
 exact a2.trans b2.symm
theorem Zhk{f:Int}(f0:0<=f)(f1:f<P){s r:List UInt8}(hs:s.length<=128)(hr:AP m f r):Ep m f (s++r.drop s.length)=(Oy m f s,true):=by
 have hl:(s++r.drop s.length).length=128:=by have:=hr.1;simp;omega
 have a:=(Tree.pp (Xx h f0 f1 hl)).2
 have b:=(Tree.pp (yV h f0 f1 s)).2
 refine eY (Zm (a.2.1.len.trans b.1.len.symm) a.2.1.u b.1.u λk=>?_) a.1
 have b2:=b.2 k
 have a2:=a.2.2 k
 refine a2.trans (Eq.trans ?_ b2.symm)
 by_cases hc:f*128<=(k:Int)/\(k:Int)<f*128+128
 ·rw [if_pos hc,Xy]
  by_cases hd:(k-f*128).toNat<s.length
  ·rw[if_pos hd,if_pos (by omega)]
  ·rw[if_neg hd,if_neg (by omega)]
   have e:(r.drop s.length).getD ((k-f*128).toNat-s.length) 0=r.getD (k-f*128).toNat 0:=by
    simp[dC,show s.length+((k-f*128).toNat-s.length)=(k-f*128).toNat by omega]
   rw[e,hr.2 _ (by omega),show(f*128).toNat+(k-f*128).toNat=k by omega]
 ·rw[if_neg hc,if_neg (by omega)]
theorem LC{a:Int}(ha:U a){size:Int}(hs:size=1\/size=4):r8 m a size=decide (a%size=0/\a<128*P):=by
 have hq:=Em h
 have h2:=h.p2
 have a0:=ha.1
 have e:wrap u32 size=size:=by rcases hs with rfl|rfl<;>decide
 have e0:decide (wrap u32 size≠0)=true:=by rcases hs with rfl|rfl<;>decide
 have t:dD a (wrap u32 size)=a%size:=by rw[e,eD a0]
 have l:∀x,x=wT m->a%size=0->decide (a<wrap u32 (wrap i64 (128*x)))=decide (a%size=0/\a<128*P):=λx hx hz=>by
  rw[hx,hq,wrap_u32,wrap_i64]
  exact decide_eq_decide.2 ⟨λh=>⟨hz,by omega⟩,λh=>by omega⟩
 refine Tree.post (Jd m a size) (W:=λb=>b=decide (a%size=0/\a<128*P)) ?_
 unfold Jd
 refine ab (λh1=>ab (λh4=>?_) (λ_=>?_)) (λ_=>?_)
 ·have h1:¬size=1:=by simpa using h1
  have h4:¬size=4:=by simpa using h4
  omega
 all_goals
  refine ar e0 (ab (λhb=>au λx hx=>l x hx ?_) (λhb=>?_))
  ·rw[t]at hb;exact eq_of_beq hb
  ·rw[t]at hb
   exact(dN (λh=>by rw[h.1]at hb;cases hb)).symm
theorem Z2x{a:Int}(ha:U a){size:Int}(hs:size=1\/size=4):XC m a size=r8 m a size:=by
 rw[LC h ha hs]
 have hq:=XD h
 have h2:=h.p2
 have a0:=ha.1
 have a1:=ha.2
 have e:wrap u32 size=size:=by rcases hs with rfl|rfl<;>decide
 have e0:decide (wrap u32 size≠0)=true:=by rcases hs with rfl|rfl<;>decide
 have t:dD a (wrap u32 size)=a%size:=by rw[e,eD a0]
 have l:∀x,x=lZ m->a%size=0->decide (wrap u64 (wrap u64 a+wrap u64 size)<=wrap u64 (wrap u64 x*128))=decide (a%size=0/\a<128*P):=λx hx hz=>by
  rw[hx,hq]
  simp only[wrap_u64]
  refine decide_eq_decide.2 ⟨λh=>⟨hz,?_⟩,λh=>?_⟩<;>rcases hs with rfl|rfl<;>omega
 refine Tree.post (Je m a size) (W:=λb=>b=decide (a%size=0/\a<128*P)) ?_
 unfold Je
 refine ab (λh1=>ab (λh4=>?_) (λ_=>?_)) (λ_=>?_)
 ·have h1:¬size=1:=by simpa using h1
  have h4:¬size=4:=by simpa using h4
  omega
 all_goals
  refine ar e0 (ab (λhb=>?_) (λhb=>au λx hx=>l x hx ?_))
  ·rw[t]at hb
   exact(dN (λh=>by rw[h.1]at hb;cases hb)).symm
  ·rw[t]at hb;simpa using hb
end
theorem XE(w:Int):tL w 0 8=bc .u32 (bf .u32 w 0) 255/\tL w 8 8=bc .u32 (bf .u32 w 8) 255/\tL w 16 8=bc .u32 (bf .u32 w 16) 255/\tL w 24 8=bc .u32 (bf .u32 w 24) 255:=
 ⟨by kernel_rfl,by kernel_rfl,by kernel_rfl,by kernel_rfl⟩
theorem XF(w v:Int):LD w 0 8 v=uJ w v 0/\LD w 8 8 v=uJ w v 8/\LD w 16 8 v=uJ w v 16/\LD w 24 8 v=uJ w v 24:=
 ⟨by kernel_rfl,by kernel_rfl,by kernel_rfl,by kernel_rfl⟩
theorem xj{a:Int}(ha:U a):wrap .i64 (wrap .i64 (dD a 4)*8)=8*(a%4)/\wrap .u32 (8*dD a 4)=8*(a%4):=by
 obtain⟨a0,a1⟩:=ha
 rw[eD a0]
 exact⟨by rw[wrap_i64,wrap_i64];omega,by rw[wrap_u32];omega⟩
section
variable {P:Nat} {m:List Int} (h:ey P m)
include h
theorem Oz{a:Int}(ha:U a){size:Int}(hs:size=1\/size=4):Cz m a size=kW m a size:=by
 have e:=Z2x h ha hs
 obtain⟨s1,s2⟩:=xj ha
 have f:tL (m.getD (dE (wrap .u32 (eT a 4))) 0) (8*(a%4)) 8=bc .u32 (bf .u32 (m.getD (dE (wrap .u32 (eT a 4))) 0) (8*(a%4))) 255:=by
  obtain⟨f0,f1,f2,f3⟩:=XE (m.getD (dE (wrap .u32 (eT a 4))) 0)
  have:a%4=0\/a%4=1\/a%4=2\/a%4=3:=by omega
  rcases this with h|h|h|h<;>rw[h]
  ·exact f0
  ·exact f1
  ·exact f2
  ·exact f3
 simp only[Cz,LF,kW,AQ,Tree.m,dk,e,s1,s2,f]
omit h in
theorem XG(a size:Int):(kW m a size).2=r8 m a size:=by
 simp only[kW,AQ,Tree.m,dk]
 cases r8 m a size
 ·rfl
 ·cases size==1<;>rfl
theorem Z9b{a:Int}(ha:U a){size:Int}(hs:size=1\/size=4)(v:Int):LG m a size v=bif r8 m a size then(Bu m a size v,true)else(m,false):=by
 have gz:jK m=m:=rfl
 have e:=Z2x h ha hs
 obtain⟨s1,s2⟩:=xj ha
 have f:∀w,LD w (8*(a%4)) 8 v=il .u32 (nU .u32 w (eg .u32 255 (8*(a%4)))) (eg .u32 (bc .u32 v 255) (8*(a%4))):=λw=>by
  obtain⟨f0,f1,f2,f3⟩:=XF w v
  have:a%4=0\/a%4=1\/a%4=2\/a%4=3:=by omega
  rcases this with h|h|h|h<;>rw[h]
  ·exact f0
  ·exact f1
  ·exact f2
  ·exact f3
 simp only[LG,LH,Bu,Jc,Tree.m,dk,gz,e,s1,s2,f]
 rcases hs with rfl|rfl<;>cases r8 m a _<;>rfl
end
section
variable {P:Nat} {m:List Int} (h:ey P m)
include h
theorem zj{root va:Int}(hr:U root)(hv:U va){access:Int}(ha:access=1\/access=2\/access=3):Ty m root va access=AR m root va access:=by
 have hp:=Em h
 have h2:=h.p2
 have hlen:=h.len
 obtain⟨r1,r2⟩:=hr
 obtain⟨v1,v2⟩:=hv
 have I3:∀{f:Int},U f->OA m f=decide (f<P):=λhf=>xQ h hf
 have eP:wrap .u32 (P:Int)=P:=by rw[wrap_u32];omega
 have kn:LI access=true:=by rcases ha with rfl|rfl|rfl<;>rfl
 have ca:Qk access=(tM access,true):=by rcases ha with rfl|rfl|rfl<;>rfl
 simp only[Ty,LJ,AR,G2,Tree.m,dk,hp,eP,kn,ca,I3 ⟨r1,r2⟩]
 by_cases c1:va>=4096
 ·rw[dY c1];rfl
 by_cases c2:root<P
 ·have eE:wrap u32 (wrap u32 (root*128)+wrap u32 (4*wrap u32 (eT va 128)))=root*128+4*(va/128):=by
   rw[eU v1,wrap_u32,wrap_u32,wrap_u32,wrap_u32];omega
  have hE:U (root*128+4*(va/128)):=⟨by omega,by omega⟩
  have wi:r8 m (root*128+4*(va/128)) 4=true:=by
   rw[LC h hE (.inr rfl)];exact dY ⟨by omega,by omega⟩
  rw[dN c1,dY c2,dN (show¬root>=P by omega),eE,Oz h hE (.inr rfl),XG,wi]
  have ld:(kW m (root*128+4*(va/128)) 4).1=m.getD (dE (wrap .u32 (eT (root*128+4*(va/128)) 4))) 0:=by
   simp only[kW,AQ,Tree.m,dk,wi];rfl
  rw[ld]
  generalize m.getD (dE (wrap .u32 (eT (root*128+4*(va/128)) 4))) 0=w
  have fo:XH w=bc .u32 (bf .u32 w 8) 255:=(fld w).2.2.2.2
  rw[fo,I3 (Jb _ _)]
  have pQ:decide (bc .u32 (bf .u32 w 8) 255>=(P:Int))=!decide (bc .u32 (bf .u32 w 8) 255<(P:Int)):=by
   by_cases hq:bc .u32 (bf .u32 w 8) 255<(P:Int)
   ·rw[dY hq,dN (by omega)];rfl
   ·rw[dN hq,dY (by omega)];rfl
  rw[pQ]
  generalize decide (bc .u32 (bf .u32 w 8) 255<(P:Int))=d
  rcases ha with rfl|rfl|rfl
  ·show _=(bif bc .u32 w 1==0 then _ else bif bc .u32 w 4==0 then _ else bif !d then _ else _)
   have:Tz w 1=(bif bc .u32 w 1==0 then false else !(bc .u32 w 4==0)):=rfl
   rw[this]
   cases bc .u32 w 1==0<;>cases bc .u32 w 4==0<;>cases d<;>rfl
  ·show _=(bif bc .u32 w 1==0 then _ else bif !d then _ else _)
   have:Tz w 2=(bif bc .u32 w 1==0 then false else true):=rfl
   rw[this]
   cases bc .u32 w 1==0<;>cases d<;>rfl
  ·show _=(bif bc .u32 w 1==0 then _ else bif bc .u32 w 2==0 then _ else bif !d then _ else _)
   have:Tz w 3=(bif bc .u32 w 1==0 then false else !(bc .u32 w 2==0)):=rfl
   rw[this]
   cases bc .u32 w 1==0<;>cases bc .u32 w 2==0<;>cases d<;>rfl
 ·rw[dN c1,dN c2,dY (show root>=P by omega)];rfl
theorem Zoo{a:Int}(ha:U a)(access:Int):OB m a access=TA m a access:=by
 have gz:jK m=m:=rfl
 have hl:=h.len
 have a0:=ha.1
 simp only[OB,LK,TA,LM,Tree.m,dk,Oz h ha (.inr rfl),XG,Z9b h ha (.inr rfl),gz]
 cases hw:r8 m a 4
 ·rfl
 ·rw[LC h ha (.inr rfl)]at hw
  have hw:=oY hw
  have wi:r8 m a 4=true:=by rw[LC h ha (.inr rfl)];exact dY hw
  have ld:(kW m a 4).1=m.getD (dE (wrap .u32 (eT a 4))) 0:=by
   simp only[kW,AQ,Tree.m,dk,wi];rfl
  have pu:∀v,Bu m a 4 v=m.set (dE (wrap .u32 (eT a 4))) v:=λv=>rfl
  rw[ld,pu,pu]
  have hi:dE (wrap .u32 (eT a 4))<m.length:=by
   rw[eU a0,wrap_u32];omega
  generalize dE (wrap .u32 (eT a 4))=i at*
  rw[Qut hi,List.set_set]
  rfl
end
theorem OC{c:bg}(h0:0<=c.B1.a0)(h:c.B1.a0<=31)(k b:Int):rB c k b=pW c k b:=by
 have e:=eq_of_beq (Fz (λs=>nU .u32 (il .u32 (AL (AL s 1 8) 2 16) 1) 2==il .u32 (nU .u32 (il .u32 (il .u32 (nU .u32 s 24) (wrap .u32 (8*CA (bc .u32 s 1 !=0)))) (wrap .u32 (16*CA (bc .u32 s 2 !=0)))) 2) 1) 32 (by kernel_rfl) h0 (by omega))
 simp only[rB,OD,pW,OE,Tree.m,dk,e]
theorem Zjd{c:bg}(h0:0<=c.B1.a0)(h:c.B1.a0<=31):Lt c=TB c:=by
 have e:=eq_of_beq (Fz (λs=>AL (AL s 8 1) 16 2==il .u32 (il .u32 (nU .u32 s 3) (wrap .u32 (1*CA (bc .u32 s 8 !=0)))) (wrap .u32 (2*CA (bc .u32 s 16 !=0)))) 32 (by kernel_rfl) h0 (by omega))
 simp only[Lt,OF,TB,OG,Tree.m,dk,e]
theorem Z8n{c:bg}(h0:0<=c.B1.a0)(h:c.B1.a0<=31):TC c=(!G3 c&&(bc .u32 c.B1.a0 4 !=0)):=
 eq_of_beq (Fz (λs=>(bc .u32 s 5==4)==(!(bc .u32 s 1 !=0)&&(bc .u32 s 4 !=0))) 32 (by kernel_rfl) h0 (by omega))
theorem TE(c:bg){r:Int}(hr:0<=r/\r<16)(v:Int):uK c r v=lQ c r v:=by
 simp only[uK,Fw,lQ,Jf,Tree.m]
 by_cases h:r=0
 ·subst h;rfl
 ·rw[dY (show r>0 by omega),dY hr.2,show(r !=0)=true by simpa using h];rfl
theorem vH{a b:Int}(ha:U a)(hb:U b):LN a b=LO a b:=by
 obtain⟨a0,a1⟩:=ha
 obtain⟨b0,b1⟩:=hb
 have i:∀x,wrap .i64 (wrap .i32 x)=wrap .i32 x:=λx=>by rw[wrap_i64,wrap_i32];omega
 have r32:∀x,-2147483648<=wrap .i32 x/\wrap .i32 x<2147483648:=λx=>by rw[wrap_i32];omega
 have q32:∀x y:Int,-2147483648<=x/\x<2147483648-> -2147483648<=eT x y/\eT x y<=2147483648:=λx y hx=>by
  have h1:(eT x y).natAbs<=x.natAbs:=by rw[Int.natAbs_tdiv];exact Nat.div_le_self _ _
  omega
 simp only[LN,LP,LO,LQ,Tree.m,i]
 cases hb:b==0
 ·have w:∀z,wrap .u32 (wrap .i32 z)=wrap .u32 z:=λz=>by rw[wrap_i32,wrap_u32,wrap_u32];omega
  have w2:wrap .i64 (eT (wrap .i32 a) (wrap .i32 b))=eT (wrap .i32 a) (wrap .i32 b):=by
   have:=q32 _ (wrap .i32 b) (r32 a)
   rw[wrap_i64];omega
  rw[w,w2]
  cases h1:a==2147483648
  ·rfl
  ·cases h2:b==4294967295
   ·rfl
   ·have h1:=eq_of_beq h1
    have h2:=eq_of_beq h2
    subst h1;subst h2
    rfl
 ·rfl
theorem qI{op a b:Int}(h0:1<=op)(h1:op<=23)(ha:U a)(hb:U b):nM op a b=Er op a b:=by
 have sub:wrap .u32 (a+wrap .u32 (0-b))=wrap .u32 (a-b):=by
  rw[wrap_u32,wrap_u32,wrap_u32];omega
 have rW:op=1\/op=2\/op=3\/op=4\/op=5\/op=6\/op=7\/op=8\/op=9\/op=10\/op=11\/op=12\/op=13\/op=14\/op=15\/op=16\/op=17\/op=18\/op=19\/op=20\/op=21\/op=22\/op=23:=by omega
 have d:=vH ha hb
 rcases rW with rfl|rfl|rfl|rfl|rfl|rfl|rfl|rfl|rfl|rfl|rfl|rfl|rfl|rfl|rfl|rfl|rfl|rfl|rfl|rfl|rfl|rfl|rfl
 ·rfl
 ·show(wrap .u32 (a+wrap .u32 (0-b)),true)=(wrap .u32 (a-b),true)
  rw[sub]
 ·rfl
 ·rfl
 ·rfl
 ·rfl
 ·rfl
 ·rfl
 ·rfl
 ·show((LN a b).1,true)=((LO a b).1,true)
  rw[d]
 ·show((LN a b).2,true)=((LO a b).2,true)
  rw[d]
 all_goals rfl
theorem XI{P:Nat}{m:List Int}(h:ey P m){c:bg}(hc:iM c)(j0:c.B1.a0<=31){va:Int}(hv:U va){size:Int}(hs:size=1\/size=4){access:Int}(ha:access=1\/access=2\/access=3):r9 c m va size access=((lL c m va size access).1,(lL c m va size access).2.2,(lL c m va size access).2.1):=by
 have gz:jK m=m:=rfl
 have kn:LI access=true:=by rcases ha with rfl|rfl|rfl<;>rfl
 have ca:Qt1 access=(tM access,true):=by rcases ha with rfl|rfl|rfl<;>rfl
 have pg:=Z8n hc.a0.1 j0
 have wk:=zj h hc.a6 hv ha
 have tc:OB m (AR m c.B1.a6 va access).E0 access=TA m (AR m c.B1.a6 va access).E0 access:=Zoo h (Tree.pp (vY h hc.a6 hv access)).2.2.1 access
 have sz:(bif size !=1 then bif size !=4 then false else true else true)=true:=by rcases hs with rfl|rfl<;>rfl
 simp only[r9,LR,lL,G4,Tree.m,dk,gz,kn,ca,pg,wk,tc,Oz h hv hs,XG]
 rcases hs with rfl|rfl<;>
 ·show(bif _ then _ else _)=_
  cases dD va _ !=0<;>cases G3 c<;>cases bc .u32 c.B1.a0 4 !=0<;>cases(AR m c.B1.a6 va access).D9 !=0<;>cases r8 m va _<;>rfl
theorem XJ{α:Type}{Q:α->Prop}{c:Bool}{x y:α}(hx:Q x)(hy:Q y):Q (cond c x y):=by cases c<;>assumption
theorem xag(m:List Int)(root:Int){va:Int}(hv:U va)(access:Int):(AR m root va access).D9=0->(AR m root va access).Addr%4=va%4:=by
 have hc:tM access≠0:=by
   simp only[tM,LS,Tree.m]
   cases access==1<;>cases access==3<;>simp
 have q :(λt:rS=>t.D9=0->t.Addr%4=va%4) (AR m root va access):=by
   simp only[AR,G2,Tree.m,dk]
   repeat'(first
     |exact λe=>absurd e hc
     | (intro _
        show wrap .u32 (wrap .u32 (_*128)+dD va 128)%4=va%4
        rw[eD hv.1,wrap_u32,wrap_u32];omega)
     |refine XJ (Q:=λt:rS=>t.D9=0->t.Addr%4=va%4) ?_ ?_)
 exact q
theorem xI{c:bg}{m:List Int}{va:Int}(hv:U va){size:Int}(hs:size=1\/size=4){access:Int}(ha:access=1\/access=2\/access=3):(lL c m va size access).2.1=0->(lL c m va size access).1%size=0:=by
 have kn:LI access=true:=by rcases ha with rfl|rfl|rfl<;>rfl
 have hc:tM access≠0:=by
  simp only[tM,LS,Tree.m]
  cases access==1<;>cases access==3<;>simp
 rcases hs with rfl|rfl
 ·intro _;omega
 simp only[lL,G4,Tree.m,dk,kn]
 show(bif dD va 4 !=0 then((0:Int),(3:Int),m)else _).2.1=0->(bif dD va 4 !=0 then((0:Int),(3:Int),m)else _).1%4=0
 rw[eD hv.1]
 cases hz:va%4 !=0
 ·have hz:va%4=0:=by simpa using hz
  have w:=xag m c.B1.a6 hv access
  cases hp:TC c
  ·cases hw:r8 m va 4
   ·exactλe=>absurd e hc
   ·exactλ_=>hz
  ·cases hq:(AR m c.B1.a6 va access).D9 !=0
   ·have hq:(AR m c.B1.a6 va access).D9=0:=by simpa using hq
    exactλ_=>(w hq).trans hz
   ·have hq:¬(AR m c.B1.a6 va access).D9=0:=by simpa using hq
    exactλe=>absurd e hq
 ·intro e;cases e
def dd:kY:={C3:=0,C7:=0,D7:=0,Value:=0}
def jS(c:bg)(m:List Int)(i:gm):bg×List Int×kY:=
 bif i.Op==32 then((tN c m i).1,(tN c m i).2,dd)else bif i.Op==33 then((tN c m i).1,(tN c m i).2,dd)else bif i.Op==34 then((tN c m i).1,(tN c m i).2,dd)
 else bif i.Op==35 then((CB c m i).1,(CB c m i).2,dd)else bif i.Op==36 then((CB c m i).1,(CB c m i).2,dd)else((XK c i).1,m,(XK c i).2)
def db(c:bg)(r:Int):Int:=aK (fu.l c.X) r.toNat 0
def oX(c:bg)(m:List Int)(i:gm):bg×kY×List Int:=
 bif decide (i.Op>=56)then((TF c i).1,(TF c i).2,m)else bif decide (i.Op>=40)then(Z5o c i,dd,m)else bif decide (i.Op>=32)then((G5 c m i).1,dd,(G5 c m i).2)
 else bif i.Op==24 then({X:=(lQ c i.A (eg .u32 (wrap .u32 i.bo) 16)).X,Pc:=wrap .u32 ((lQ c i.A (eg .u32 (wrap .u32 i.bo) 16)).Pc+4),B1:=(lQ c i.A (eg .u32 (wrap .u32 i.bo) 16)).B1},dd,m)
 else bif decide (i.Op<=13)then
  ({X:=(lQ c i.A (Er i.Op (db c i.B) (db c i.C)).1).X,Pc:=wrap .u32 ((lQ c i.A (Er i.Op (db c i.B) (db c i.C)).1).Pc+4),B1:=(lQ c i.A (Er i.Op (db c i.B) (db c i.C)).1).B1},dd,m)
 else({X:=(lQ c i.A (Er i.Op (db c i.B) (wrap .u32 i.bo)).1).X,Pc:=wrap .u32 ((lQ c i.A (Er i.Op (db c i.B) (wrap .u32 i.bo)).1).Pc+4),B1:=(lQ c i.A (Er i.Op (db c i.B) (wrap .u32 i.bo)).1).B1},dd,m)
def px(op:Int):Prop:=op=1\/op=2\/op=3\/op=4\/op=5\/op=6\/op=7\/op=8\/op=9\/op=10\/op=11\/op=12\/op=13\/op=16\/op=17\/op=18\/op=19\/op=20\/op=21\/op=22\/op=23\/op=24\/op=32\/op=33\/op=34\/op=35\/op=36\/op=40\/op=41\/op=42\/op=43\/op=44\/op=45\/op=48\/op=49\/op=56\/op=57\/op=58\/op=59\/op=60\/op=61\/op=62\/op=63\/op=64
theorem vV(c:bg)(r v:Int):(lQ c r v).Pc=c.Pc/\(lQ c r v).B1=c.B1:=by
 simp only[lQ,Jf,Tree.m]
 cases decide (r>0)
 ·exact⟨rfl,rfl⟩
 ·cases decide (r<16)<;>exact⟨rfl,rfl⟩
def Jg(c:bg):bg:={X:=c.X,Pc:=wrap .u32 (c.Pc+4),B1:=c.B1}
def va(c:bg)(B bo:Int):Int:=wrap .u32 (aK (fu.l c.X) B.toNat 0+wrap .u32 bo)
def OH(c:bg)(A v size:Int)(f:Int->Int)(y:Int×List Int×Int):bg×List Int:=bif y.2.2 !=0 then(rB c y.2.2 v,y.2.1)else(Jg (uK c A (f (Cz y.2.1 y.1 size).1)),y.2.1)
def OI(c:bg)(A v size:Int)(f:Int->Int)(x:Int×Int×List Int):bg×List Int:=bif x.2.1 !=0 then(pW c x.2.1 v,x.2.2)else(Jg (lQ c A (f (kW x.2.2 x.1 size).1)),x.2.2)
def TG(c:bg)(A v size:Int)(y:Int×List Int×Int):bg×List Int:=bif y.2.2 !=0 then(rB c y.2.2 v,y.2.1)else(Jg c,(LG y.2.1 y.1 size (aK (fu.l c.X) A.toNat 0)).1)
def TH(c:bg)(A v size:Int)(x:Int×Int×List Int):bg×List Int:=bif x.2.1 !=0 then(pW c x.2.1 v,x.2.2)else(Jg c,Bu x.2.2 x.1 size (aK (fu.l c.X) A.toNat 0))
theorem OJ(c:bg)(m:List Int)(A B C bo:Int):
 (tN c m ⟨32,A,B,C,bo⟩=OH c A (va c B bo) 4 (λv=>v) (r9 c m (va c B bo) 4 2)/\G5 c m ⟨32,A,B,C,bo⟩=OI c A (va c B bo) 4 (λv=>v) (lL c m (va c B bo) 4 2))/\
 (tN c m ⟨33,A,B,C,bo⟩=OH c A (va c B bo) 1 (λv=>El v 8) (r9 c m (va c B bo) 1 2)/\G5 c m ⟨33,A,B,C,bo⟩=OI c A (va c B bo) 1 (λv=>GW v 8) (lL c m (va c B bo) 1 2))/\
 (tN c m ⟨34,A,B,C,bo⟩=OH c A (va c B bo) 1 (λv=>v) (r9 c m (va c B bo) 1 2)/\G5 c m ⟨34,A,B,C,bo⟩=OI c A (va c B bo) 1 (λv=>v) (lL c m (va c B bo) 1 2))/\
 (CB c m ⟨35,A,B,C,bo⟩=TG c A (va c B bo) 4 (r9 c m (va c B bo) 4 3)/\G5 c m ⟨35,A,B,C,bo⟩=TH c A (va c B bo) 4 (lL c m (va c B bo) 4 3))/\
 (CB c m ⟨36,A,B,C,bo⟩=TG c A (va c B bo) 1 (r9 c m (va c B bo) 1 3)/\G5 c m ⟨36,A,B,C,bo⟩=TH c A (va c B bo) 1 (lL c m (va c B bo) 1 3)):=
 ⟨⟨by kernel_rfl,by kernel_rfl⟩,⟨by kernel_rfl,by kernel_rfl⟩,⟨by kernel_rfl,by kernel_rfl⟩,⟨by kernel_rfl,by kernel_rfl⟩,⟨by kernel_rfl,by kernel_rfl⟩⟩
theorem qah{P:Nat}{m:List Int}(h:ey P m)(a:Int):El (kW m a 1).1 8=GW (kW m a 1).1 8:=by
 have:∀x:Int×Bool,(∃w,U w/\x=(bc .u32 w 255,true))\/x=(0,false)->El x.1 8=GW x.1 8:=λx hx=>by
  rcases hx with⟨w,hw,rfl⟩|rfl
  ·have e:=Cv hw
   exact sx8 (by show 0<=bc .u32 w 255;omega) (by show bc .u32 w 255<256;omega)
  ·rfl
 refine this _ ?_
 simp only[kW,AQ,Tree.m,dk]
 cases r8 m a 1
 ·exact .inr rfl
 ·exact .inl ⟨_,AN (AO h.u _) _,rfl⟩
section
variable {P:Nat} {m:List Int} (h:ey P m) {c:bg} (hc:iM c) (j0:c.B1.a0<=31)
include h hc j0
omit j0 in
theorem XL{v:Int}(hv:U v){size:Int}(hs:size=1\/size=4)(access:Int):ey P (lL c m v size access).2.2/\U (lL c m v size access).1/\((lL c m v size access).2.1=0->(lL c m v size access).1<128*P):=(Tree.pp (TJ h hc hv hs access)).2
theorem XM{A v:Int}(hA:0<=A/\A<16)(hv:U v){size:Int}(hs:size=1\/size=4){f g:Int->Int}(hf:∀{m':List Int},ey P m'->∀a,f (kW m' a size).1=g (kW m' a size).1):OH c A v size f (r9 c m v size 2)=OI c A v size g (lL c m v size 2):=by
 rw[XI h hc j0 hv hs (.inr (.inl rfl))]
 obtain⟨k,u,_⟩:=XL h hc hv hs 2
 generalize lL c m v size 2=x at*
 simp only[OH,OI,Oz k u hs,OC hc.a0.1 j0,TE c hA,hf k]
theorem yj{A v:Int}(hv:U v){size:Int}(hs:size=1\/size=4):TG c A v size (r9 c m v size 3)=TH c A v size (lL c m v size 3):=by
 rw[XI h hc j0 hv hs (.inr (.inr rfl))]
 obtain⟨k,u,b⟩:=XL h hc hv hs 3
 have al:=xI (c:=c) (m:=m) hv hs (access:=3) (.inr (.inr rfl))
 generalize lL c m v size 3=x at*
 simp only[TG,TH,Z9b k u hs,OC hc.a0.1 j0,LC k u hs]
 cases hq:x.2.1 !=0
 ·have hq:x.2.1=0:=by simpa using hq
  rw[dY ⟨al hq,b hq⟩];rfl
 ·rfl
end
theorem zI(c:bg)(k v:Int):(OK c k v).Pc=c.Pc:=by
 simp only[OK,LU,Tree.m]
 repeat'(first|rfl|refine XJ (Q:=λx:bg=>x.Pc=c.Pc) ?_ ?_)
def jl(c:bg)(A v p:Int):bg:={X:=(uK c A v).X,Pc:=p,B1:=(uK c A v).B1}
def FA(c:bg)(A v p:Int):bg:={X:=(lQ c A v).X,Pc:=p,B1:=(lQ c A v).B1}
def jN(c:bg):Int:=wrap .u32 (c.Pc+4)
theorem OL(c:bg){A:Int}(hA:0<=A/\A<16)(v p:Int):jl c A v p=FA c A v p:=by
 unfold jl FA;rw[TE c hA]
theorem XN(c:bg)(A v:Int):Jg (lQ c A v)=FA c A v (jN c):=by
 unfold Jg FA jN;rw[(vV c A v).1]
theorem LV(t:Bool)(x y:bg)(m:List Int):((bif t then(x,dd)else(y,dd)).1,m,(bif t then(x,dd)else(y,dd)).2)=((bif t then x else y),m,dd):=by cases t<;>rfl
def G6(op:Int):Bool:=decide (op=1)||decide (op=2)||decide (op=3)||decide (op=4)||decide (op=5)||decide (op=6)||decide (op=7)||decide (op=8)||decide (op=9)||decide (op=10)||decide (op=11)||decide (op=12)||decide (op=13)||decide (op=16)||decide (op=17)||decide (op=18)||decide (op=19)||decide (op=20)||decide (op=21)||decide (op=22)||decide (op=23)||decide (op=24)||decide (op=32)||decide (op=33)||decide (op=34)||decide (op=35)||decide (op=36)||decide (op=40)||decide (op=41)||decide (op=42)||decide (op=43)||decide (op=44)||decide (op=45)||decide (op=48)||decide (op=49)||decide (op=56)||decide (op=57)||decide (op=58)||decide (op=59)||decide (op=60)||decide (op=61)||decide (op=62)||decide (op=63)||decide (op=64)
section
variable {P:Nat} {m:List Int} (h:ey P m) {c:bg} (hc:iM c) (j0:c.B1.a0<=31) {A B C bo:Int} (hA:0<=A/\A<16)
include h hc j0 hA
theorem vj{op:Int}(rW:px op):jS c m ⟨op,A,B,C,bo⟩=((oX c m ⟨op,A,B,C,bo⟩).1,(oX c m ⟨op,A,B,C,bo⟩).2.2,(oX c m ⟨op,A,B,C,bo⟩).2.1):=by
 have py:∀{k y:Int},1<=k->k<=23->U y->((jl c A (nM k (db c B) y).1 (jN c),m,dd):bg×List Int×kY)=(Jg (lQ c A (Er k (db c B) y).1),m,dd):=λh1 h2 hy=>by
  rw[qI h1 h2 (show U (db c B) from hc.r _) hy,XN,OL c hA]
 have uC:U (db c C):=hc.r _
 have uI:U (wrap .u32 bo):=fq _
 obtain⟨⟨l1,l2⟩,⟨l3,l4⟩,⟨l5,l6⟩,⟨l7,l8⟩,⟨l9,l10⟩⟩:=OJ c m A B C bo
 have Es:U (va c B bo):=fq _
 rcases rW with rfl|rfl|rfl|rfl|rfl|rfl|rfl|rfl|rfl|rfl|rfl|rfl|rfl|rfl|rfl|rfl|rfl|rfl|rfl|rfl|rfl|rfl|rfl|rfl|rfl|rfl|rfl|rfl|rfl|rfl|rfl|rfl|rfl|rfl|rfl|rfl|rfl|rfl|rfl|rfl|rfl|rfl|rfl|rfl
 ·exact(show jS c m ⟨1,A,B,C,bo⟩=(jl c A (nM 1 (db c B) (db c C)).1 (jN c),m,dd) by kernel_rfl).trans ((py (by decide) (by decide) uC).trans (by kernel_rfl))
 ·exact(show jS c m ⟨2,A,B,C,bo⟩=(jl c A (nM 2 (db c B) (db c C)).1 (jN c),m,dd) by kernel_rfl).trans ((py (by decide) (by decide) uC).trans (by kernel_rfl))
 ·exact(show jS c m ⟨3,A,B,C,bo⟩=(jl c A (nM 3 (db c B) (db c C)).1 (jN c),m,dd) by kernel_rfl).trans ((py (by decide) (by decide) uC).trans (by kernel_rfl))
 ·exact(show jS c m ⟨4,A,B,C,bo⟩=(jl c A (nM 4 (db c B) (db c C)).1 (jN c),m,dd) by kernel_rfl).trans ((py (by decide) (by decide) uC).trans (by kernel_rfl))
 ·exact(show jS c m ⟨5,A,B,C,bo⟩=(jl c A (nM 5 (db c B) (db c C)).1 (jN c),m,dd) by kernel_rfl).trans ((py (by decide) (by decide) uC).trans (by kernel_rfl))
 ·exact(show jS c m ⟨6,A,B,C,bo⟩=(jl c A (nM 6 (db c B) (db c C)).1 (jN c),m,dd) by kernel_rfl).trans ((py (by decide) (by decide) uC).trans (by kernel_rfl))
 ·exact(show jS c m ⟨7,A,B,C,bo⟩=(jl c A (nM 7 (db c B) (db c C)).1 (jN c),m,dd) by kernel_rfl).trans ((py (by decide) (by decide) uC).trans (by kernel_rfl))
 ·exact(show jS c m ⟨8,A,B,C,bo⟩=(jl c A (nM 8 (db c B) (db c C)).1 (jN c),m,dd) by kernel_rfl).trans ((py (by decide) (by decide) uC).trans (by kernel_rfl))
 ·exact(show jS c m ⟨9,A,B,C,bo⟩=(jl c A (nM 9 (db c B) (db c C)).1 (jN c),m,dd) by kernel_rfl).trans ((py (by decide) (by decide) uC).trans (by kernel_rfl))
 ·exact(show jS c m ⟨10,A,B,C,bo⟩=(jl c A (nM 10 (db c B) (db c C)).1 (jN c),m,dd) by kernel_rfl).trans ((py (by decide) (by decide) uC).trans (by kernel_rfl))
 ·exact(show jS c m ⟨11,A,B,C,bo⟩=(jl c A (nM 11 (db c B) (db c C)).1 (jN c),m,dd) by kernel_rfl).trans ((py (by decide) (by decide) uC).trans (by kernel_rfl))
 ·exact(show jS c m ⟨12,A,B,C,bo⟩=(jl c A (nM 12 (db c B) (db c C)).1 (jN c),m,dd) by kernel_rfl).trans ((py (by decide) (by decide) uC).trans (by kernel_rfl))
 ·exact(show jS c m ⟨13,A,B,C,bo⟩=(jl c A (nM 13 (db c B) (db c C)).1 (jN c),m,dd) by kernel_rfl).trans ((py (by decide) (by decide) uC).trans (by kernel_rfl))
 ·exact(show jS c m ⟨16,A,B,C,bo⟩=(jl c A (nM 16 (db c B) (wrap .u32 bo)).1 (jN c),m,dd) by kernel_rfl).trans ((py (by decide) (by decide) uI).trans (by kernel_rfl))
 ·exact(show jS c m ⟨17,A,B,C,bo⟩=(jl c A (nM 17 (db c B) (wrap .u32 bo)).1 (jN c),m,dd) by kernel_rfl).trans ((py (by decide) (by decide) uI).trans (by kernel_rfl))
 ·exact(show jS c m ⟨18,A,B,C,bo⟩=(jl c A (nM 18 (db c B) (wrap .u32 bo)).1 (jN c),m,dd) by kernel_rfl).trans ((py (by decide) (by decide) uI).trans (by kernel_rfl))
 ·exact(show jS c m ⟨19,A,B,C,bo⟩=(jl c A (nM 19 (db c B) (wrap .u32 bo)).1 (jN c),m,dd) by kernel_rfl).trans ((py (by decide) (by decide) uI).trans (by kernel_rfl))
 ·exact(show jS c m ⟨20,A,B,C,bo⟩=(jl c A (nM 20 (db c B) (wrap .u32 bo)).1 (jN c),m,dd) by kernel_rfl).trans ((py (by decide) (by decide) uI).trans (by kernel_rfl))
 ·exact(show jS c m ⟨21,A,B,C,bo⟩=(jl c A (nM 21 (db c B) (wrap .u32 bo)).1 (jN c),m,dd) by kernel_rfl).trans ((py (by decide) (by decide) uI).trans (by kernel_rfl))
 ·exact(show jS c m ⟨22,A,B,C,bo⟩=(jl c A (nM 22 (db c B) (wrap .u32 bo)).1 (jN c),m,dd) by kernel_rfl).trans ((py (by decide) (by decide) uI).trans (by kernel_rfl))
 ·exact(show jS c m ⟨23,A,B,C,bo⟩=(jl c A (nM 23 (db c B) (wrap .u32 bo)).1 (jN c),m,dd) by kernel_rfl).trans ((py (by decide) (by decide) uI).trans (by kernel_rfl))
 ·refine(show jS c m ⟨24,A,B,C,bo⟩=(jl c A (eg .u32 (wrap .u32 bo) 16) (jN c),m,dd) by kernel_rfl).trans ?_
  rw[OL c hA,<-XN];kernel_rfl
 ·have e:=XM h hc j0 hA Es (.inr rfl) (f:=λv=>v) (g:=λv=>v) (λ_ _=>rfl)
  rw[<-l1,<-l2]at e
  refine(show jS c m ⟨32,A,B,C,bo⟩=((tN c m ⟨32,A,B,C,bo⟩).1,(tN c m ⟨32,A,B,C,bo⟩).2,dd) by kernel_rfl).trans ?_
  rw[e];kernel_rfl
 ·have e:=XM h hc j0 hA Es (.inl rfl) (f:=λv=>El v 8) (g:=λv=>GW v 8) (λhm a=>qah hm a)
  rw[<-l3,<-l4]at e
  refine(show jS c m ⟨33,A,B,C,bo⟩=((tN c m ⟨33,A,B,C,bo⟩).1,(tN c m ⟨33,A,B,C,bo⟩).2,dd) by kernel_rfl).trans ?_
  rw[e];kernel_rfl
 ·have e:=XM h hc j0 hA Es (.inl rfl) (f:=λv=>v) (g:=λv=>v) (λ_ _=>rfl)
  rw[<-l5,<-l6]at e
  refine(show jS c m ⟨34,A,B,C,bo⟩=((tN c m ⟨34,A,B,C,bo⟩).1,(tN c m ⟨34,A,B,C,bo⟩).2,dd) by kernel_rfl).trans ?_
  rw[e];kernel_rfl
 ·have e:=yj h hc j0 (A:=A) Es (.inr rfl)
  rw[<-l7,<-l8]at e
  refine(show jS c m ⟨35,A,B,C,bo⟩=((CB c m ⟨35,A,B,C,bo⟩).1,(CB c m ⟨35,A,B,C,bo⟩).2,dd) by kernel_rfl).trans ?_
  rw[e];kernel_rfl
 ·have e:=yj h hc j0 (A:=A) Es (.inl rfl)
  rw[<-l9,<-l10]at e
  refine(show jS c m ⟨36,A,B,C,bo⟩=((CB c m ⟨36,A,B,C,bo⟩).1,(CB c m ⟨36,A,B,C,bo⟩).2,dd) by kernel_rfl).trans ?_
  rw[e];kernel_rfl
 ·exact(show jS c m ⟨40,A,B,C,bo⟩=((bif(rD 40 (db c A) (db c B))then((⟨c.X,wrap .u32 (c.Pc+wrap .u32 (4*wrap .u32 bo)),c.B1⟩:bg),dd)else(⟨c.X,jN c,c.B1⟩,dd)).1,m,(bif(rD 40 (db c A) (db c B))then((⟨c.X,wrap .u32 (c.Pc+wrap .u32 (4*wrap .u32 bo)),c.B1⟩:bg),dd)else(⟨c.X,jN c,c.B1⟩,dd)).2) by kernel_rfl).trans ((LV (rD 40 (db c A) (db c B)) ⟨c.X,wrap .u32 (c.Pc+wrap .u32 (4*wrap .u32 bo)),c.B1⟩ ⟨c.X,jN c,c.B1⟩ m).trans (by kernel_rfl))
 ·exact(show jS c m ⟨41,A,B,C,bo⟩=((bif(rD 41 (db c A) (db c B))then((⟨c.X,wrap .u32 (c.Pc+wrap .u32 (4*wrap .u32 bo)),c.B1⟩:bg),dd)else(⟨c.X,jN c,c.B1⟩,dd)).1,m,(bif(rD 41 (db c A) (db c B))then((⟨c.X,wrap .u32 (c.Pc+wrap .u32 (4*wrap .u32 bo)),c.B1⟩:bg),dd)else(⟨c.X,jN c,c.B1⟩,dd)).2) by kernel_rfl).trans ((LV (rD 41 (db c A) (db c B)) ⟨c.X,wrap .u32 (c.Pc+wrap .u32 (4*wrap .u32 bo)),c.B1⟩ ⟨c.X,jN c,c.B1⟩ m).trans (by kernel_rfl))
 ·exact(show jS c m ⟨42,A,B,C,bo⟩=((bif(rD 42 (db c A) (db c B))then((⟨c.X,wrap .u32 (c.Pc+wrap .u32 (4*wrap .u32 bo)),c.B1⟩:bg),dd)else(⟨c.X,jN c,c.B1⟩,dd)).1,m,(bif(rD 42 (db c A) (db c B))then((⟨c.X,wrap .u32 (c.Pc+wrap .u32 (4*wrap .u32 bo)),c.B1⟩:bg),dd)else(⟨c.X,jN c,c.B1⟩,dd)).2) by kernel_rfl).trans ((LV (rD 42 (db c A) (db c B)) ⟨c.X,wrap .u32 (c.Pc+wrap .u32 (4*wrap .u32 bo)),c.B1⟩ ⟨c.X,jN c,c.B1⟩ m).trans (by kernel_rfl))
 ·exact(show jS c m ⟨43,A,B,C,bo⟩=((bif(rD 43 (db c A) (db c B))then((⟨c.X,wrap .u32 (c.Pc+wrap .u32 (4*wrap .u32 bo)),c.B1⟩:bg),dd)else(⟨c.X,jN c,c.B1⟩,dd)).1,m,(bif(rD 43 (db c A) (db c B))then((⟨c.X,wrap .u32 (c.Pc+wrap .u32 (4*wrap .u32 bo)),c.B1⟩:bg),dd)else(⟨c.X,jN c,c.B1⟩,dd)).2) by kernel_rfl).trans ((LV (rD 43 (db c A) (db c B)) ⟨c.X,wrap .u32 (c.Pc+wrap .u32 (4*wrap .u32 bo)),c.B1⟩ ⟨c.X,jN c,c.B1⟩ m).trans (by kernel_rfl))
 ·exact(show jS c m ⟨44,A,B,C,bo⟩=((bif(rD 44 (db c A) (db c B))then((⟨c.X,wrap .u32 (c.Pc+wrap .u32 (4*wrap .u32 bo)),c.B1⟩:bg),dd)else(⟨c.X,jN c,c.B1⟩,dd)).1,m,(bif(rD 44 (db c A) (db c B))then((⟨c.X,wrap .u32 (c.Pc+wrap .u32 (4*wrap .u32 bo)),c.B1⟩:bg),dd)else(⟨c.X,jN c,c.B1⟩,dd)).2) by kernel_rfl).trans ((LV (rD 44 (db c A) (db c B)) ⟨c.X,wrap .u32 (c.Pc+wrap .u32 (4*wrap .u32 bo)),c.B1⟩ ⟨c.X,jN c,c.B1⟩ m).trans (by kernel_rfl))
 ·exact(show jS c m ⟨45,A,B,C,bo⟩=((bif(rD 45 (db c A) (db c B))then((⟨c.X,wrap .u32 (c.Pc+wrap .u32 (4*wrap .u32 bo)),c.B1⟩:bg),dd)else(⟨c.X,jN c,c.B1⟩,dd)).1,m,(bif(rD 45 (db c A) (db c B))then((⟨c.X,wrap .u32 (c.Pc+wrap .u32 (4*wrap .u32 bo)),c.B1⟩:bg),dd)else(⟨c.X,jN c,c.B1⟩,dd)).2) by kernel_rfl).trans ((LV (rD 45 (db c A) (db c B)) ⟨c.X,wrap .u32 (c.Pc+wrap .u32 (4*wrap .u32 bo)),c.B1⟩ ⟨c.X,jN c,c.B1⟩ m).trans (by kernel_rfl))
 ·refine(show jS c m ⟨48,A,B,C,bo⟩=(jl c A (jN c) (wrap .u32 ((uK c A (jN c)).Pc+wrap .u32 (4*wrap .u32 bo))),m,dd) by kernel_rfl).trans ?_
  rw[OL c hA,TE c hA,(vV c A (jN c)).1];kernel_rfl
 ·refine(show jS c m ⟨49,A,B,C,bo⟩=(jl c A (jN c) (va c B bo),m,dd) by kernel_rfl).trans ?_
  rw[OL c hA];kernel_rfl
 ·refine(show jS c m ⟨56,A,B,C,bo⟩=(rB c 7 0,m,dd) by kernel_rfl).trans ?_
  rw[OC hc.a0.1 j0];kernel_rfl
 ·refine(show jS c m ⟨57,A,B,C,bo⟩=(Lt c,m,dd) by kernel_rfl).trans ?_
  rw[Zjd hc.a0.1 j0];kernel_rfl
 ·refine(show jS c m ⟨58,A,B,C,bo⟩=(jl c A (aK (A8.l c.B1) bo.toNat 0) (jN c),m,dd) by kernel_rfl).trans ?_
  rw[OL c hA,<-XN];kernel_rfl
 ·have e:=zI c (wrap .i64 bo) (db c A)
  refine(show jS c m ⟨59,A,B,C,bo⟩=((⟨(OK c (wrap .i64 bo) (db c A)).X,wrap .u32 (c.Pc+4),(OK c (wrap .i64 bo) (db c A)).B1⟩:bg),m,dd) by kernel_rfl).trans ?_
  rw[<-e];kernel_rfl
 ·exact(show jS c m ⟨60,A,B,C,bo⟩=((oX c m ⟨60,A,B,C,bo⟩).1,(oX c m ⟨60,A,B,C,bo⟩).2.2,(oX c m ⟨60,A,B,C,bo⟩).2.1) by kernel_rfl)
 ·exact(show jS c m ⟨61,A,B,C,bo⟩=((oX c m ⟨61,A,B,C,bo⟩).1,(oX c m ⟨61,A,B,C,bo⟩).2.2,(oX c m ⟨61,A,B,C,bo⟩).2.1) by kernel_rfl)
 ·exact(show jS c m ⟨62,A,B,C,bo⟩=((oX c m ⟨62,A,B,C,bo⟩).1,(oX c m ⟨62,A,B,C,bo⟩).2.2,(oX c m ⟨62,A,B,C,bo⟩).2.1) by kernel_rfl)
 ·exact(show jS c m ⟨63,A,B,C,bo⟩=((oX c m ⟨63,A,B,C,bo⟩).1,(oX c m ⟨63,A,B,C,bo⟩).2.2,(oX c m ⟨63,A,B,C,bo⟩).2.1) by kernel_rfl)
 ·exact(show jS c m ⟨64,A,B,C,bo⟩=((oX c m ⟨64,A,B,C,bo⟩).1,(oX c m ⟨64,A,B,C,bo⟩).2.2,(oX c m ⟨64,A,B,C,bo⟩).2.1) by kernel_rfl)
end
theorem zah{op:Int}(h0:0<=op)(h1:op<256)(h:oW op≠0):px op:=by
 have e:=oY (Fz (λop=>decide (oW op=0\/G6 op=true)) 256 (by kernel_rfl) h0 h1)
 rcases e with e|e
 ·exact absurd e h
 ·simpa only[G6,px,aI,decide_eq_true_eq,or_assoc]using e
theorem qk{op:Int}(o:px op):1<=op/\op<=64:=by
 unfold px at o
 rcases o with h|h|h|h|h|h|h|h|h|h|h|h|h|h|h|h|h|h|h|h|h|h|h|h|h|h|h|h|h|h|h|h|h|h|h|h|h|h|h|h|h|h|h|h<;>(rw[h];decide)
theorem xk{w:Int}(hw:U w):(rC w).2=true->px (rC w).1.Op:=by
 have uG:bf .u32 w 24=w/16777216:=by have:=Eg (a:=w) 24 (by decide);simpa using this
 obtain⟨w0,w1⟩:=hw
 have eo:wrap .i64 (w/16777216)=w/16777216:=Eb (by omega) (by omega)
 have q:(λr:gm×Bool=>r.2=true->px r.1.Op) (rC w):=by
  simp only[rC,GX,Tree.m,dk,uG,eo]
  cases hf:oW (w/16777216)==0
  ·have g:px (w/16777216):=zah (by omega) (by omega) (by simpa using hf)
   repeat'(first
    |exactλ_=>g
    |exactλe=>eZ (show false=true from e)
    |refine XJ (Q:=λr:gm×Bool=>r.2=true->px r.1.Op) ?_ ?_)
  ·exactλe=>eZ (show false=true from e)
 exact q
section
variable (c:bg) (m:List Int)
def Et(x:Int×Int×List Int)(w:Int)(d:gm×Bool):bg×kY×List Int:=
 bif x.2.1 !=0 then(pW c x.2.1 c.Pc,dd,x.2.2)else bif !d.2 then(pW c 1 w,dd,x.2.2)else bif GV d.1.Op then(bif bc .u32 c.B1.a0 1==0 then(pW c 2 w,dd,x.2.2)else oX c x.2.2 d.1)else oX c x.2.2 d.1
def OM(y:Int×List Int×Int)(d:gm×Bool):bg×List Int×kY:=
 bif y.2.2 !=0 then(rB c y.2.2 c.Pc,y.2.1,dd)else bif !d.2 then(rB c 1 y.1,y.2.1,dd)else bif Ou d.1.Op then(bif !G3 c then(rB c 2 y.1,y.2.1,dd)else jS c y.2.1 d.1)else jS c y.2.1 d.1
theorem G7:uL c m=Et c (lL c m c.Pc 4 1) (kW (lL c m c.Pc 4 1).2.2 (lL c m c.Pc 4 1).1 4).1 (rC (kW (lL c m c.Pc 4 1).2.2 (lL c m c.Pc 4 1).1 4).1):=by kernel_rfl
theorem xah:wU c m=OM c (TL c m) (Ox (TL c m).1):=by kernel_rfl
theorem yI:TL c m=bif(r9 c m c.Pc 4 1).2.2 !=0 then(0,(r9 c m c.Pc 4 1).2.1,(r9 c m c.Pc 4 1).2.2)else((Cz (r9 c m c.Pc 4 1).2.1 (r9 c m c.Pc 4 1).1 4).1,(r9 c m c.Pc 4 1).2.1,0):=by kernel_rfl
end
theorem Zgg{P:Nat}{m:List Int}(h:ey P m){c:bg}(hc:iM c)(j0:c.B1.a0<=31):wU c m=((uL c m).1,(uL c m).2.2,(uL c m).2.1):=by
 obtain⟨k,u,b⟩:=XL h hc hc.pc (.inr rfl) 1
 have tr:∀k b,rB c k b=pW c k b:=OC hc.a0.1 j0
 rw[xah,G7,yI,XI h hc j0 hc.pc (.inr rfl) (.inl rfl)]
 generalize lL c m c.Pc 4 1=x at*
 cases hx:x.2.1 !=0
 ·rw [Oz k u (.inr rfl)]
  have hw:U (kW x.2.2 x.1 4).1:=(Tree.pp (ON k u (.inr rfl))).2
  generalize(kW x.2.2 x.1 4).1=w at*
  show OM c (w,x.2.2,0) (Ox w)=_
  rw[xi hw]
  have o:=xk hw
  have i:=Tree.post _ (Znc w)
  change(rC w).2=true->sR (rC w).1 at i
  generalize rC w=d at*
  obtain⟨⟨op,A,B,C,bo⟩,ok⟩:=d
  cases ok
  ·simp only[OM,Et,hx,tr];rfl
  ·have o:px op:=o rfl
   have i:=i rfl
   have p:=vj (C:=C) (B:=B) (bo:=bo) k hc j0 i.a o
   have pv:Ou op=GV op:=zae (by have:=qk o;omega) (by have:=qk o;omega)
   have kn:(!G3 c)=(bc .u32 c.B1.a0 1==0):=by
    show(!(!(bc .u32 c.B1.a0 1==0)))=_
    exact Bool.not_not _
   simp only[OM,Et,hx,tr,pv,kn,p]
   cases GV op
   ·rfl
   ·cases bc .u32 c.B1.a0 1==0<;>rfl
 ·simp only[OM,Et,hx,cond_true,tr]
theorem zk{a b:Int}:decide (a>=b)=!decide (a<b):=by
 by_cases h:a<b
 ·rw[dY h,dN (by omega)];rfl
 ·rw[dN h,dY (by omega)];rfl
def bits(g:Int)(l:List Nat)(s:Int):Int:=l.foldl (λ(a:Int) (i:Nat)=>wrap .i64 (a+wrap .i64 (bc .u32 (bf .u32 g (i:Int)) 1))) s
theorem vI(b:gr):LW b=bits b.C0 [0,1,2,3,4,5,6,7,8,9,10,11,12,13,14,15,16,17,18,19,20,21,22,23,24,25,26,27,28,29,30,31] 0:=by kernel_rfl
theorem zax{g:Int}(hg:U g){i:Nat}(hi:i<=32):wrap .i64 (bc .u32 (bf .u32 g (i:Int)) 1)=g/2^i%2:=by
 rw[FB (AN hg _),Eg i hi]
 have:0<=g/2^i%2/\g/2^i%2<2:=by omega
 exact Eb (by omega) (by omega)
theorem qJ{g:Int}(hg:U g)(l:List Nat):∀s:Int,(∀i∈l,i<=32)->0<=s->s+l.length<=1000->bits g l s=s+(l.map λi=>g/2^i%2).sum:=by
 induction l with
 |nil=>intro s _ _ _;simp[bits]
 |cons i l ih=>
  intro s hl h0 h1
  have h1:s+(l.length+1)<=1000:=by simpa using h1
  have hb:0<=g/2^i%2/\g/2^i%2<2:=by omega
  have e:bits g (i::l) s=bits g l (s+g/2^i%2):=by
   show bits g l (wrap .i64 (s+wrap .i64 (bc .u32 (bf .u32 g (i:Int)) 1)))=_
   rw[zax hg (hl i (by simp)),Eb (by omega) (by omega)]
  rw[e,ih _ (λj hj=>hl j (by simp[hj])) (by omega) (by omega)]
  simp;omega
theorem Zpw(n:ij)(port:Int):Lr n port=TM n port:=by
 simp only[Lr,On,TM,OO,Tree.m]
 cases n.C2<;>cases n.B3<;>rfl
theorem Z71(t:jk):tK t=TN t:=by
 simp only[tK,Ti,TN,XO,Tree.m]
 cases t.D0<;>cases t.C9<;>rfl
theorem Zi(n:ij)(p:Int):pw n p=TO n p:=by
 simp only[pw,Lh,TO,XP,Tree.m]
 cases n.C2<;>cases n.B3<;>rfl
theorem Zbe(d:fm)(p:Int):ky d p=TP d p:=by
  simp only[ky,wR,Oh,I2,TP,XQ,Tree.m,dk,zk]
  cases decide (d.ag>64)
  . by_cases s:d.B6=0\/d.B6=1\/d.B6=2\/d.B6=3
    . rcases s with s|s|s|s<;>rw[s]
      . rfl
      . by_cases c1:d.D1=1
        . rw[c1];cases decide (d.B4<d.ag)<;>cases decide (wrap .i64 d.B0<p)<;>cases decide (d.B5=[])<;>rfl
        . by_cases c2:d.D1=2
          . rw[c2];cases decide (d.B4<d.ag)<;>cases decide (wrap .i64 d.B0<p)<;>cases(d.B5.length:Int)==128<;>rfl
          . rw[show(d.D1==1)=false by simpa using c1,show(d.D1==2)=false by simpa using c2]
            cases decide (d.B4<d.ag)<;>cases decide (wrap .i64 d.B0<p)<;>rfl
      . rfl
      . rfl
    . rw[show(d.B6==0)=false by simp;omega,show(d.B6==1)=false by simp;omega,show(d.B6==2)=false by simp;omega,show(d.B6==3)=false by simp;omega]
      by_cases n:d.B6<0
      . rw[dY n];rfl
      . rw[dN n,dY (show d.B6>3 by omega)];rfl
  . rfl
theorem xJ(c:je):TQ c=TR c:=by
 show(!decide (c.C6=[]))=decide ((c.C6.length:Int)>0)
 cases c.C6 with
 |nil=>rfl
 |cons a l=>rw[dN (by simp),dY (by simp)];rfl
theorem qai(k:List UInt8):decide (k=[])=((k.length:Int)==0):=by
 cases k with
 |nil=>rfl
 |cons a l=>
  rw[dN (by simp)]
  exact(beq_eq_false_iff_ne.2 (by simp;omega)).symm
theorem Zox(c:je)(port:Int):XR c port=LX c port:=by
 simp only[XR,I4,LX,G8,Tree.m,qai]
 cases port==0
 ·rfl
 ·cases(c.C6.length:Int)==0<;>rfl
theorem zJ(t:jk)(v:Int):Oi t v=TS v:=by
 simp only[Oi,Th,TS,OP,Tree.m]
 cases h:v==0
 ·rw[show(v !=0)=true by simp only[bne,h];rfl];rfl
 ·rw[show(v !=0)=false by simp only[bne,h];rfl,eq_of_beq h];rfl
section
variable {P:Nat} {m:List Int} (h:ey P m)
include h
theorem Z8j(f:Int):I0 m f=nV m f:=by
 have a:=r0 h
 have b:=Em h
 simp only[I0,Ob,nV,OQ,Tree.m,dk,a,b]
theorem Z9z(f:Int):GJ m f=nV m f:=by
 have a:=r0 h
 have b:=Em h
 simp only[GJ,Oc,nV,OQ,Tree.m,dk,a,b]
theorem Zft(d:fm)(port v bn:Int):XS d m port v bn=TT d m port v bn:=by
  have pg:=Z8j h
  have pa:=Zei h
  have rq: ∀d a,XT d a=XU d a:=λ_ _=>rfl
  simp only[XS,Lj,Qxh,Li,TT,G9,Tree.m,dk,pg,pa,rq]
  cases port==4
  . cases port==5
    . cases h6:port==6
      . rw[show(port !=6)=true by simp only[bne,h6];rfl];rfl
      . rw [show(port !=6)=false by simp only[bne,h6];rfl]
        by_cases v1:v=1
        . subst v1
          cases hs:d.B6==0
          . rw[show(d.B6 !=0)=true by simp only[bne,hs];rfl];rfl
          . rw[show(d.B6 !=0)=false by simp only[bne,hs];rfl];rfl
        . by_cases v2:v=2
          . subst v2
            cases hs:d.B6==0
            . rw[show(d.B6 !=0)=true by simp only[bne,hs];rfl];rfl
            . rw[show(d.B6 !=0)=false by simp only[bne,hs];rfl];rfl
          . rw[show(v==1)=false by simpa using v1,show(v==2)=false by simpa using v2]
            cases v==0
            . rfl
            . have:Lk d=(bif d.B6==2 then true else d.B6==3):=rfl
              rw[this]
              cases d.B6==2<;>cases d.B6==3<;>rfl
    . rfl
  . rfl
theorem Zk0(n:ij)(port v bn:Int):XV n m port v bn=XW n m port v bn:=by
  have pg:=Z9z h
  have pa:=Zei h
  simp only[XV,Lm,Zds,Ll,XW,LY,Tree.m,dk,pg,pa]
  have g1:decide (n.D6>=1)=!decide (n.D6<1):=zk
  have g2:decide (n.D6<=128)=!decide (n.D6>128):=by
    by_cases h:n.D6>128
    . rw[dY h,dN (by omega)];rfl
    . rw[dN h,dY (by omega)];rfl
  rw[g1,g2]
  cases port==7
  . cases port==8
    . cases h9:port==9
      . rw[show(port !=9)=true by simp only[bne,h9];rfl];rfl
      . rw [show(port !=9)=false by simp only[bne,h9];rfl]
        by_cases v1:v=1
        . subst v1
          cases decide (n.D6<1)<;>cases decide (n.D6>128)<;>cases nV m n.Frame<;>rfl
        . by_cases v2:v=2
          . subst v2;rfl
          . rw[show(v==1)=false by simpa using v1,show(v==2)=false by simpa using v2]
            cases v==0<;>rfl
    . rfl
  . rfl
theorem Zc2{d:fm}(hd:oB d)(e:j9):XX d m e=((LZ d m e).1,(LZ d m e).2.2,(LZ d m e).2.1):=by
  have gz:jK m=m:=rfl
  have pg:=Z8j h d.B0
  have lp:decide ((e.D2.length:Int)>0)=!decide (e.D2=[]):=by
    cases e.D2 with
    |nil=>rfl
    |cons a l=>rw[dY (by simp),dN (by simp)];rfl
  have bad:(e.D2.length:Int)≠128->nV m d.B0=true->Ep m (wrap .i64 d.B0) e.D2=(m,false):=λhl hp=>by
    rw[FC h hd.ig]at hp
    have hp:=oY hp
    have h1:=hd.ig.1
    have h3:=h.p2
    have ew:i64.wrap d.B0=d.B0:=Eb (by omega) (by omega)
    simp only[Ep,GF,Tree.m,dk,gz,ew,Tv h,dY (⟨h1,hp⟩:0<=d.B0/\d.B0<P),show((e.D2.length:Int) !=128)=true by simpa using hl]
    rfl
  have ei:(e.D2.length:Int)=128->nV m d.B0=true->Ep m (wrap .i64 d.B0) e.D2=(Oy m (wrap .i64 d.B0) e.D2,true):=λhl hp=>by
    rw[FC h hd.ig]at hp
    have hp:=oY hp
    have h1:=hd.ig.1
    have h3:=h.p2
    have ew:i64.wrap d.B0=d.B0:=Eb (by omega) (by omega)
    rw[ew];exact Zhu h h1 hp (by omega)
  simp only[XX,Lf,LZ,Ha,Tree.m,dk,gz,pg,lp]
  cases d.B6 !=1
  . cases e.C3 !=4
    . cases decide (e.N>1)
      . cases e.N==1
        . cases decide (e.D2=[])<;>rfl
        . cases hc:d.D1==1
          . cases decide (e.D2=[])<;>rfl
          . by_cases hl:(e.D2.length:Int)=128
            . rw[show((e.D2.length:Int) !=128)=false by simpa using hl]
              cases hp:nV m d.B0
              . rfl
              . rw[ei hl hp];rfl
            . rw[show((e.D2.length:Int) !=128)=true by simpa using hl]
              cases hp:nV m d.B0
              . rfl
              . rw[bad hl hp];rfl
      . rfl
    . rfl
  . rfl
theorem Zh6{n:ij}(hn:pr n)(frame:List UInt8):XY n m frame=((OR n m frame).1,(OR n m frame).2.2,(OR n m frame).2.1):=by
  have gz:jK m=m:=rfl
  have pg:=Z9z h n.B7
  simp only[XY,Lg,OR,L0,Tree.m,dk,gz,pg]
  cases !n.C2
  . cases decide ((frame.length:Int)<1)
    . cases hf:decide ((frame.length:Int)>128)
      . cases hp:nV m n.B7
        . rfl
        . rw[FC h hn.buffer]at hp
          have hp:=oY hp
          have h1:=hn.buffer.1
          have h3:=h.p2
          have ew:i64.wrap n.B7=n.B7:=Eb (by omega) (by omega)
          have hf:=oN hf
          obtain⟨b1,b2⟩:=(Tree.pp (qj h h1 hp)).2
          change AP m n.B7 (Eo m n.B7).1 at b1
          have tk:cZ (dE ((Eo m n.B7).1.length:Int)-dE (frame.length:Int)) (dA (dE (frame.length:Int)) (Eo m n.B7).1)=(Eo m n.B7).1.drop frame.length:=by
            rw[eC,eC]
            exact List.take_of_length_le (by simp)
          rw[ew,tk,Zhk h h1 hp (by omega) b1]
          rfl
      . rfl
    . rfl
  . rfl
end
def XZ:List UInt8:=(dB 256).map λn=>eW (n%2+n/2%2+n/4%2+n/8%2+n/16%2+n/32%2+n/64%2+n/128%2)
def pt(n:Int):Int:=((eV (XZ.getD n.toNat 0):Nat):Int)
theorem yJ(x:Int):X0 x=wrap .i64 (wrap .u8 (wrap .u8 (wrap .u8 (pt (bf .u32 x 24)+pt (bc .u32 (bf .u32 x 16) 255))+pt (bc .u32 (bf .u32 x 8) 255))+pt (bc .u32 x 255))):=by kernel_rfl
theorem OS{a:Int}(h0:0<=a)(h1:a<256):pt a=a%2+a/2%2+a/4%2+a/8%2+a/16%2+a/32%2+a/64%2+a/128%2:=
 eq_of_beq (Fz (λa=>pt a==a%2+a/2%2+a/4%2+a/8%2+a/16%2+a/32%2+a/64%2+a/128%2) 256 (by kernel_rfl) h0 h1)
theorem yk{g:Int}(hg:U g):bits g [0,1,2,3,4,5,6,7,8,9,10,11,12,13,14,15,16,17,18,19,20,21,22,23,24,25,26,27,28,29,30,31] 0=pt (g%256)+pt (g/256%256)+pt (g/65536%256)+pt (g/16777216):=by
 rw[qJ hg _ 0 (by decide) (by decide) (by decide),OS (by omega) (by omega),OS (by omega) (by omega),OS (by omega) (by omega),OS (by have:=hg.1;omega) (by have:=hg.2;omega)]
 obtain⟨g0,g1⟩:=hg
 simp only[List.map_cons,List.map_nil,List.sum_cons,List.sum_nil]
 have e:∀i j:Nat,∀k:Int,i<8->k=2^j->g/2^(i+j)%2=(g/k%256)/2^i%2:=λi j k hi hk=>by
  subst hk
  rw[Nat.add_comm,dQ,<-fA (dP (dM (by decide)))]
  generalize g/2^j=x
  have:i=0\/i=1\/i=2\/i=3\/i=4\/i=5\/i=6\/i=7:=by omega
  rcases this with rfl|rfl|rfl|rfl|rfl|rfl|rfl|rfl<;>simp<;>omega
 have e0:∀i:Nat,i<8->g/2^i%2=(g%256)/2^i%2:=λi hi=>by have:=e i 0 1 hi rfl;simpa using this
 have e24:g/16777216%256=g/16777216:=by omega
 rw[e0 0 (by decide),e0 1 (by decide),e0 2 (by decide),e0 3 (by decide),e0 4 (by decide),e0 5 (by decide),e0 6 (by decide),e0 7 (by decide)]
 rw[e 0 8 256 (by decide) (by decide),e 1 8 256 (by decide) (by decide),e 2 8 256 (by decide) (by decide),e 3 8 256 (by decide) (by decide),e 4 8 256 (by decide) (by decide),e 5 8 256 (by decide) (by decide),e 6 8 256 (by decide) (by decide),e 7 8 256 (by decide) (by decide)]
 rw[e 0 16 65536 (by decide) (by decide),e 1 16 65536 (by decide) (by decide),e 2 16 65536 (by decide) (by decide),e 3 16 65536 (by decide) (by decide),e 4 16 65536 (by decide) (by decide),e 5 16 65536 (by decide) (by decide),e 6 16 65536 (by decide) (by decide),e 7 16 65536 (by decide) (by decide)]
 rw[e 0 24 16777216 (by decide) (by decide),e 1 24 16777216 (by decide) (by decide),e 2 24 16777216 (by decide) (by decide),e 3 24 16777216 (by decide) (by decide),e 4 24 16777216 (by decide) (by decide),e 5 24 16777216 (by decide) (by decide),e 6 24 16777216 (by decide) (by decide),e 7 24 16777216 (by decide) (by decide),e24]
 generalize g%256=a
 generalize g/256%256=b
 generalize g/65536%256=c
 generalize g/16777216=d
 simp only[show(2:Int)^0=1 from rfl,show(2:Int)^1=2 from rfl,show(2:Int)^2=4 from rfl,show(2:Int)^3=8 from rfl,show(2:Int)^4=16 from rfl,show(2:Int)^5=32 from rfl,show(2:Int)^6=64 from rfl,show(2:Int)^7=128 from rfl,Int.ediv_one]
 omega
theorem wV{a:Int}(h0:0<=a)(h1:a<256):0<=pt a/\pt a<=8:=by rw[OS h0 h1];omega
theorem Z8g{b:gr}(hg:U b.C0):TU b=LW b/\0<=LW b/\LW b<=32:=by
 obtain⟨s8,Bt,uG⟩:=G0 b.C0
 have u8:U (bf .u32 b.C0 8):=AN hg _
 have u16:U (bf .u32 b.C0 16):=AN hg _
 have e:TU b=X0 b.C0:=rfl
 rw[e,yJ,vI,yk hg,Cv u8,Cv u16,Cv hg,s8,Bt,uG]
 obtain⟨g0,g1⟩:=hg
 have p0:=wV (a:=b.C0%256) (by omega) (by omega)
 have p1:=wV (a:=b.C0/256%256) (by omega) (by omega)
 have p2:=wV (a:=b.C0/65536%256) (by omega) (by omega)
 have p3:=wV (a:=b.C0/16777216) (by omega) (by omega)
 have w8:∀x,wrap .u8 x=x%256:=λx=>wrap_u8 x
 rw[w8,w8,w8,wrap_i64]
 omega
theorem Ziv{b:gr}(h:okB b):OT b=OU b:=by
 obtain⟨e,l0,l1⟩:=Z8g h.2
 obtain⟨t0,t1⟩:=h.1
 simp only[OT,Q5,OU,X1,Tree.m,dk,e]
 rw[wrap_u32,wrap_u64,wrap_u64,dL l0 (by omega),dL l0 (by omega),dL t0 (by omega)]
theorem Zpt{b:gr}(h:okB b)(port:Int):X2 b port=L1 b port:=by
 simp only[X2,Ls,L1,L2,Tree.m,dk,(Z8g h.2).1]
theorem zai(g:Int)(z:Nat):g%2^(z+1)=g%2^z+2^z*(g/2^z%2):=by
 have hp:(0:Int)<2^z:=dM (by decide)
 have h1:=fB g (2^z)
 have h2:=fB (g/2^z) 2
 have h3:(g/2^z)/2=g/2^(z+1):=by rw[fC,fA (dP hp)]
 have h4:=fB g (2^(z+1))
 rw[h3]at h2
 have h5:(2:Int)^(z+1)*(g/2^(z+1))=2^z*(2*(g/2^(z+1))):=by rw[fC,Int.mul_assoc]
 have h6:(2:Int)^z*(g/2^z)=2^z*(2*(g/2^(z+1)))+2^z*(g/2^z%2):=by rw[<-Int.mul_add,h2]
 omega
theorem xax{b:gr}(hg:U b.C0){P:Nat}(hP:P<=32):(L3 b P).w (λr=>r=decide (b.C0<2^P)):=by
 unfold L3
 have fin:∀v:Int,0<=v->v<=32->wrap .u64 v=(v.toNat:Int):=λv h0 h1=>by rw[wrap_u64];omega
 refine ej (inv:=λz:Int=>0<=z/\z<=32/\b.C0%2^z.toNat<2^P) (μ:=TV b P) ⟨by decide,by decide,by have:(0:Int)<2^P:=dM (by decide);simpa using this⟩ (cO _) λz ⟨z0,z1,z2⟩=>?_
 refine ab (λhb=>?_) (λhb=>?_)
 ·have hb:=oY hb
  have ew:i64.wrap (z+1)=z+1:=Eb (by omega) (by omega)
  have bt:bc .u32 (bf .u32 b.C0 (wrap .u64 z)) 1=b.C0/2^z.toNat%2:=by
   rw[fin z z0 z1,FB (AN hg _),Eg _ (by omega)]
  have bp:=zai b.C0 z.toNat
  have zt:(z+1).toNat=z.toNat+1:=by omega
  refine ar (dY (by rw[wrap_u64];omega)) ?_
  rw[bt]
  refine ab (λe=>ab (λhp=>?_) (λhp=>dm ?_)) (λe=>dm ?_)
  ·have e:=eq_of_beq e
   have hp:=oY hp
   show false=_
   refine(dN λcq=>?_).symm
   have hle:(2:Int)^P<=2^z.toNat:=by exact_mod_cast dS (show 0<2 by decide) (show P<=z.toNat by omega)
   have:b.C0/2^z.toNat=0:=Int.ediv_eq_zero_of_lt hg.1 (by omega)
   rw[this]at e;cases e
  ·have e:=eq_of_beq e
   have hp:=oN hp
   show(0<=i64.wrap (z+1)/\i64.wrap (z+1)<=32/\b.C0%2^(i64.wrap (z+1)).toNat<2^P)/\(32-i64.wrap (z+1)).toNat<(32-z).toNat
   rw[ew,zt]
   have hle:(2:Int)^(z.toNat+1)<=2^P:=by exact_mod_cast dS (show 0<2 by decide) (show z.toNat+1<=P by omega)
   have:=Int.emod_lt_of_pos b.C0 (show(0:Int)<2^(z.toNat+1) from dM (by decide))
   exact⟨⟨by omega,by omega,by omega⟩,by omega⟩
  ·have e:¬b.C0/2^z.toNat%2=1:=by simpa using e
   have e:b.C0/2^z.toNat%2=0:=by omega
   rw[e]at bp
   show(0<=i64.wrap (z+1)/\i64.wrap (z+1)<=32/\b.C0%2^(i64.wrap (z+1)).toNat<2^P)/\(32-i64.wrap (z+1)).toNat<(32-z).toNat
   rw[ew,zt,bp]
   exact⟨⟨by omega,by omega,by omega⟩,by omega⟩
 ·have hb:=oN hb
  have:z=32:=by omega
  subst this
  show true=_
  refine(dY ?_).symm
  have h2:b.C0%2^(32:Int).toNat=b.C0:=dL hg.1 hg.2
  rwa [h2]at z2
theorem Zjf{b:gr}(hg:U b.C0){P:Nat}(hP:P<=32):uF b P=TW b P:=by
 have r:=(Tree.pp (xax hg hP)).2
 change TW b P=_ at r
 rw[r,eH,Ok hg,decide_eq_true_eq]
theorem OV:strings_Repeat [(0:UInt8)] 128=cP 128 0:=by kernel_rfl
theorem qay{P:Nat}{m:List Int}(hm:ey P m){b:gr}{port:Int}{v:Int}(hv:U v)(hp:v<P)(AS:port=10)(hb:(bc .u32 (bf .u32 b.C0 v) 1==0)=true):(Bv b m port v).w (λr=>r.1={C4:=b.C4,C0:=il .u32 b.C0 (eg .u32 1 v)}/\ey P r.2/\∀k:Nat,lK r.2 k=if v*128<=k/\(k:Int)<v*128+128 then 0 else lK m k):=by
 have wN:decide (0<=v)=true:=dY hv.1
 have h2:=hm.p2
 have pg:nV m v=true:=by rw[FC hm hv];exact dY hp
 obtain⟨v1,v2⟩:=hv
 subst AS
 unfold Bv
 refine ab (λ_=>au λx0 hx=>ab (λ_=>ar wN (ab (λ_=>ar wN ?_) (λh=>by rw[hb]at h;cases h))) (λh=>by rw[hx,pg]at h;cases h)) (λh=>by cases h)
 refine ej (inv:=λz=>0<=z.1/\z.1<=32/\ey P z.2/\∀k:Nat,lK z.2 k=if v*128<=k/\(k:Int)<v*128+4*z.1 then 0 else lK m k) (μ:=X3 b m 10 v) ⟨show(0:Int)<=0 by decide,show(0:Int)<=32 by decide,hm,λk=>by rw[if_neg];show¬(_/\_<_+4*(0:Int));omega⟩ (cO _) (λz hz=>?_)
 obtain⟨z1,z2,z3,z4⟩:=hz
 have hl:=z3.len
 refine ab (λh=>?_) (λh=>⟨rfl,z3,λk=>?_⟩)
 ·have h:=oY h
  have e:wrap i64 (wrap i64 (wrap i64 v*32)+z.1)=v*32+z.1:=by rw[wrap_i64,wrap_i64,wrap_i64];omega
  refine ar (by rw[e];simp[bJ];omega) (dm ?_)
  have ew:i64.wrap (z.1+1)=z.1+1:=by rw[wrap_i64];omega
  show(0<=i64.wrap (z.1+1)/\i64.wrap (z.1+1)<=32/\ey P (dF _ _ _)/\∀k:Nat,lK (dF z.2 (dE (wrap i64 (wrap i64 (wrap i64 v*32)+z.1))) 0) k=if v*128<=(k:Int)/\(k:Int)<v*128+4*i64.wrap (z.1+1)then 0 else _)/\(32-i64.wrap (z.1+1)).toNat<(32-z.1).toNat
  rw[ew,e]
  refine⟨⟨by omega,by omega,⟨by simp[hl],z3.p1,z3.p2,Ee z3.u ep _⟩,λk=>?_⟩,by omega⟩
  rw[Xv (by omega)]
  by_cases hc:k/4=(v*32+z.1).toNat
  ·rw[if_pos hc,if_pos (by omega)]
   have:k%4=0\/k%4=1\/k%4=2\/k%4=3:=by omega
   rcases this with h|h|h|h<;>rw[h]<;>rfl
  ·rw[if_neg hc,z4 k]
   by_cases hd:v*128<=(k:Int)/\(k:Int)<v*128+4*z.1
   ·rw[if_pos hd,if_pos (by omega)]
   ·rw[if_neg hd,if_neg (by omega)]
 ·have h:=oN h
  show lK z.2 k=_
  rw[z4 k,show z.1=32 by omega];rfl
theorem X4{g v:Int}(hg:U g)(v0:0<=v)(v1:v<32):(bc .u32 g (eg .u32 1 v)==0)=(bc .u32 (bf .u32 g v) 1==0):=by
 obtain⟨z,rfl⟩:∃z:Nat,v=z:=⟨v.toNat,by omega⟩
 obtain⟨n,rfl⟩:∃n:Nat,g=n:=⟨g.toNat,by have:=hg.1;omega⟩
 have hz:z<32:=by omega
 have cq:(2:Nat)^z<4294967296:=by have:=eB (show 1<2 by omega) hz;simpa using this
 rw[FB (AN hg _),Eg z (by omega),xh v0 v1,eC]
 have hc:((2:Int)^z)=((2^z:Nat):Int):=by simp
 generalize hq:2^z=q at*
 rw[hc,Xn hg ⟨by omega,by omega⟩,eC,eC,<-hq]
 have e1:(n&&&2^z)=0↔n/2^z%2=0:=by
  have t:n.testBit z=decide (n/2^z%2=1):=Nat.testBit_eq_decide_div_mod_eq
  constructor
  ·intro h
   have h2:(n&&&2^z).testBit z=false:=by rw[h];exact fD z
   rw[fE,Nat.testBit_two_pow_self,Bool.and_true,t]at h2
   have:=oN h2
   omega
  ·intro h
   have t0:n.testBit z=false:=by rw[t];exact dN (by omega)
   apply eK
   intro i
   rw[fE,Nat.testBit_two_pow,fD]
   by_cases hi:z=i
   ·subst hi;rw[t0];rfl
   ·rw[dN hi,Bool.and_false]
 rw[eH,beq_iff_eq,beq_iff_eq]
 constructor
 ·intro h;have:=e1.1 (by omega);omega
 ·intro h;have:=e1.2 (by omega);omega
theorem Zlf{P:Nat}{m:List Int}(h:ey P m){b:gr}(hb:okB b)(port:Int){v:Int}(hv:U v):Hb b m port v=Bw b m port v:=by
  have gz:jK m=m:=rfl
  have hp:=r0 h
  have h2:=h.p2
  have ew:i64.wrap v=v:=Eb (by have:=hv.1;omega) (by have:=hv.2;omega)
  have pe:=FC h hv
  by_cases OW:v<32
  . have bv :=X4 hb.2 hv.1 OW
    by_cases AS:port=10
    . by_cases hP:v<P
      . cases hz:bc .u32 (bf .u32 b.C0 v) 1==0
        . simp only[Hb,Ei,Bw,Bv,Tree.m,dk,gz,hp,ew,pe,bv,hz,AS,dY hP,dN (show¬v>=32 by omega)]
          rfl
        . obtain⟨g1,g2,g3⟩:=(Tree.pp (qay h hv hP AS hz)).2
          change(Bw b m port v).1=_ at g1
          change ey P (Bw b m port v).2 at g2
          change∀k:Nat,lK (Bw b m port v).2 k=_ at g3
          obtain⟨s1,s2,s3⟩:=(Tree.pp (Xx h hv.1 hP (s:=cP 128 0) (by simp))).2
          have em:(Ep m v (cP 128 0)).1=(Bw b m port v).2:=by
            refine Zm (s2.len.trans g2.len.symm) s2.u g2.u λk=> ?_
            rw[g3 k]
            refine(s3 k).trans ?_
            by_cases hk:v*128<=(k:Int)/\(k:Int)<v*128+128
            . rw[if_pos hk,if_pos hk]
              have:(cP 128 (0:UInt8)).getD ((k:Int)-v*128).toNat 0=0:=by
                rw[dC,List.getElem?_replicate]
                split<;>rfl
              rw[this];rfl
            . rw[if_neg hk,if_neg hk]
          have el:Hb b m port v=({C4:=b.C4,C0:=il .u32 b.C0 (eg .u32 1 v)},(Ep m v (cP 128 0)).1):=by
            simp only[Hb,Ei,Tree.m,dk,gz,hp,ew,bv,hz,AS,dY hP,dN (show¬v>=32 by omega),OV]
            rfl
          rw[el,em,<-g1]
      . simp only[Hb,Ei,Bw,Bv,Tree.m,dk,gz,hp,ew,pe,AS,dN hP,dN (show¬v>=32 by omega)]
        rfl
    . simp only[Hb,Ei,Bw,Bv,Tree.m,dk,gz,dY OW,dN (show¬v>=32 by omega),show(port==10)=false by simpa using AS]
      cases port==11<;>rfl
  . simp only[Hb,Ei,Bw,Bv,Tree.m,dk,gz,pe,dN OW,dY (show v>=32 by omega),dN (show¬v<P by omega)]
    cases port==10<;>cases port==11<;>rfl
structure oC(m:ao):Prop where
 lY:iM m.A7
 mem:∀w∈m.Mem,U w
 kM:oB m.A4
 r7:pr m.C1
 tO:okB m.A1
 pV:0<=m.A0
theorem OX(m:List Int)(hm:∀w∈m,U w):lZ m=wT m/\(lZ m=0\/∃P:Nat,1<=P/\ey P m):=by
 refine⟨rfl,?_⟩
 simp only[lZ,Le,Tree.m]
 cases h1:dD (m.length:Int) 32 !=0
 ·cases h2:decide ((m.length:Int)>1024)
  ·have h1:dD (m.length:Int) 32=0:=by simpa using h1
   have h2:=oN h2
   rw[eD (by omega)]at h1
   by_cases h0:m.length=0
   ·left;rw[h0];rfl
   ·right;exact⟨m.length/32,by omega,⟨by omega,by omega,by omega,hm⟩⟩
  ·left;rfl
 ·left;rfl
theorem CC{a x:Bool}:(bif !a then false else x)=true↔a=true/\x=true:=by cases a<;>simp
theorem vJ(m:ao):sd m=true↔ ¬(wT m.Mem<1)/\mO m.A7/\Qim m.A2=true/\TN m.A9=true/\TP m.A4 (wT m.Mem)=true/\TO m.C1 (wT m.Mem)=true/\TW m.A1 (wT m.Mem)=true/\m.A0<=1152921504606846976/\¬(m.A3=true/\m.A6=true):=by
 simp only[sd,X5,Tree.m,dk]
 rw[nf,nf,nf,nf,nf,nf,CC,CC,CC,CC,CC]
 simp only[decide_eq_false_iff_not,Int.not_lt,bne_eq_false_iff_eq,gt_iff_lt]
 have l:((bif decide (m.A0<=1152921504606846976)then(bif m.A3 then !m.A6 else true)else false)=true)↔m.A0<=1152921504606846976/\¬(m.A3=true/\m.A6=true):=by
  by_cases hc:m.A0<=1152921504606846976
  ·rw[dY hc]
   cases m.A3<;>cases m.A6<;>simp[hc]
  ·rw[dN hc];simp[hc]
 rw[l]
 constructor
 ·rintro⟨a1,a2,a3,a4,a5,a6,a7⟩
  exact⟨by omega,⟨a2,a3,a4,a5,a6⟩,a7⟩
 ·rintro⟨a1,⟨a2,a3,a4,a5,a6⟩,a7⟩
  exact⟨by omega,a2,a3,a4,a5,a6,a7⟩
theorem Jh{m:ao}(h:oC m):mM m=sd m:=by
 rw[eH,GP,vJ,yg]
 obtain⟨e,c⟩:=OX m.Mem h.mem
 simp only[aE,<-e]
 rcases c with c|⟨P,hP,hm⟩
 ·constructor
  ·rintro⟨a,_⟩;exact absurd c a
  ·rintro⟨a,_⟩;omega
 ·rw[r0 hm,Z71,Zbe,Zi,Zjf h.tO.2 hm.p2]
  constructor
  ·rintro⟨a1,a2,a3,a4,a5,a6,a7,a8,a9⟩;exact⟨by omega,a2,a5,a6,a7,a8,a9,a3,a4⟩
  ·rintro⟨a1,a2,a5,a6,a7,a8,a9,a3,a4⟩;exact⟨by omega,a2,a3,a4,a5,a6,a7,a8,a9⟩
def TX(a b c d e:Bool):Int:=il .u32 (il .u32 (il .u32 (il .u32 (Eu a 0) (Eu b 1)) (Eu c 2)) (Eu d 3)) (Eu e 4)
theorem Ji(m:ao):TY m=TX (X6 m.A9) (TQ m.A2) (Lk m.A4) (X7 m.C1) (OT m.A1):=by
 unfold TY L4
 simp only[Tree.m,dk]
 generalize X6 m.A9=a
 generalize TQ m.A2=b
 generalize Lk m.A4=c
 generalize X7 m.C1=d
 generalize OT m.A1=e
 cases a<;>cases b<;>cases c<;>cases d<;>cases e<;>kernel_rfl
theorem Zqu(a b c d e:Bool):0<=TX a b c d e/\TX a b c d e<32:=by
 cases a<;>cases b<;>cases c<;>cases d<;>cases e<;>decide
theorem CD(m:ao):OY m=TX (X8 m.A9) (TR m.A2) (X9 m.A4) (Ya m.C1) (OU m.A1):=rfl
section
variable {m:ao} (h:oC m)
include h
theorem Zop:TY m=OY m:=by
 rw[Ji,CD,xJ,Ziv h.tO];rfl
theorem Qzq:L5 m=Bx m:=by
 have e:=Zop h
 simp only[L5,Hc,Bx,L6,Tree.m,dk,e]
theorem Zhw:Lw m=pz m:=by
 have e:=Qzq h
 simp only[Lw,Hd,pz,L7,Tree.m,dk,e]
theorem TZ:AM m=!rF m:=by
 have e1:=Jh h
 have e2:=Zhw h
 have e3:decide (m.A0>=1152921504606846976)=!decide (m.A0<1152921504606846976):=zk
 simp only[AM,I7,rF,T0,Tree.m,dk,e1,e2,e3]
 cases sd m<;>cases m.A6<;>cases pz m<;>cases decide (m.A0<1152921504606846976)<;>rfl
theorem Z8o:0<=Bx m/\Bx m<32:=by
 have e:Bx m=bc .u32 (OY m) m.A7.B1.a7:=rfl
 have l:=Zqu (X8 m.A9) (TR m.A2) (X9 m.A4) (Ya m.C1) (OU m.A1)
 rw[<-CD]at l
 rw[e,Xn ⟨l.1,by omega⟩ h.lY.a7]
 have:=eA (n:=(OY m).toNat) (m:=m.A7.B1.a7.toNat)
 omega
def low(l:Int):Int:=if l%2=1 then 0 else if l/2%2=1 then 1 else if l/4%2=1 then 2 else if l/8%2=1 then 3 else 4
end
theorem wW{l:Int}(h0:0<=l)(h1:l<32):l=0\/l=1\/l=2\/l=3\/l=4\/l=5\/l=6\/l=7\/l=8\/l=9\/l=10\/l=11\/l=12\/l=13\/l=14\/l=15\/l=16\/l=17\/l=18\/l=19\/l=20\/l=21\/l=22\/l=23\/l=24\/l=25\/l=26\/l=27\/l=28\/l=29\/l=30\/l=31:=by omega
def Jj(m:ao)(l:Int):bg:=bif bc .u32 m.A7.B1.a0 2==0 then m.A7 else bif l==0 then m.A7 else pW m.A7 (wrap .i64 (16+low l)) 0
theorem OZ{m:ao}(h:oC m):nt m=Jj m (Bx m):=by
 obtain⟨l0,l1⟩:=Z8o h
 unfold nt L9
 simp only[Tree.m,dk]
 revert l0 l1
 generalize Bx m=l
 intro l0 l1
 unfold Jj
 cases bc .u32 m.A7.B1.a0 2==0
 ·rcases wW l0 l1 with rfl|rfl|rfl|rfl|rfl|rfl|rfl|rfl|rfl|rfl|rfl|rfl|rfl|rfl|rfl|rfl|rfl|rfl|rfl|rfl|rfl|rfl|rfl|rfl|rfl|rfl|rfl|rfl|rfl|rfl|rfl|rfl<;>kernel_rfl
 ·rfl
def Yb(m:ao)(c:bg):ao:={A7:=c,Mem:=m.Mem,A2:=m.A2,A9:=m.A9,A4:=m.A4,C1:=m.C1,A1:=m.A1,A0:=m.A0,A3:=false,A6:=m.A6}
theorem Z8l{m:ao}(h:oC m)(j0:m.A7.B1.a0<=31):nu m=Yb m (nt m):=by
 obtain⟨l0,l1⟩:=Z8o h
 have tr:∀k b,rB m.A7 k b=pW m.A7 k b:=OC h.lY.a0.1 j0
 have e:L5 (Yb m m.A7)=Bx m:=Qzq (m:=Yb m m.A7) ⟨h.lY,h.mem,h.kM,h.r7,h.tO,h.pV⟩
 rw[OZ h]
 unfold nu GQ
 simp only[Tree.m,dk]
 rw[show L5 {A7:=m.A7,Mem:=m.Mem,A2:=m.A2,A9:=m.A9,A4:=m.A4,C1:=m.C1,A1:=m.A1,A0:=m.A0,A3:=false,A6:=m.A6}=Bx m from e]
 revert l0 l1
 generalize Bx m=l
 intro l0 l1
 unfold Jj
 simp only[<-tr]
 cases bc .u32 m.A7.B1.a0 2==0
 ·rcases wW l0 l1 with rfl|rfl|rfl|rfl|rfl|rfl|rfl|rfl|rfl|rfl|rfl|rfl|rfl|rfl|rfl|rfl|rfl|rfl|rfl|rfl|rfl|rfl|rfl|rfl|rfl|rfl|rfl|rfl|rfl|rfl|rfl|rfl<;>(show _=_;kernel_rfl)
 ·rfl
theorem He{p:Int}:p=0\/p=1\/p=2\/p=3\/p=4\/p=5\/p=6\/p=7\/p=8\/p=9\/p=10\/p=11\/p<0\/12<=p:=by omega
theorem xai{m:ao}(hb:okB m.A1)(port clock:Int):uM m port clock=((CE m port clock).2,(CE m port clock).1):=by
 have e1:=Zox m.A2
 have e2:∀p,Om m.A4 p=Yc m.A4 p:=λ_=>rfl
 have e3:=Zpw m.C1
 have e4:=Zpt hb
 have e5:Xb m.A9=Yd m.A9:=rfl
 simp only[uM,Lq,CE,IU,Tree.m,dk,e1,e2,e3,e4,e5]
 rcases He (p:=port)with rfl|rfl|rfl|rfl|rfl|rfl|rfl|rfl|rfl|rfl|rfl|rfl|h|h
 all_goals first|rfl|skip
 ·have n:∀k:Int,0<=k->(port==k)=false:=λk hk=>beq_eq_false_iff_ne.2 (by omega)
  have c:LX m.A2 port=(m.A2,0):=by
   simp only[LX,G8,Tree.m,n 0 (by decide),n 1 (by decide),cond_false]
  simp only[n 0 (by decide),n 1 (by decide),n 2 (by decide),n 3 (by decide),n 4 (by decide),n 5 (by decide),n 6 (by decide),n 7 (by decide),n 8 (by decide),n 9 (by decide),n 10 (by decide),n 11 (by decide),cond_false,dY (show port<=1 by omega),cond_true,c]
 ·have n:∀k:Int,k<12->(port==k)=false:=λk hk=>beq_eq_false_iff_ne.2 (by omega)
  have c:L1 m.A1 port=0:=by
   simp only[L1,L2,Tree.m,n 10 (by decide),n 11 (by decide),cond_false]
  simp only[n 0 (by decide),n 1 (by decide),n 2 (by decide),n 3 (by decide),n 4 (by decide),n 5 (by decide),n 6 (by decide),n 7 (by decide),n 8 (by decide),n 9 (by decide),n 10 (by decide),n 11 (by decide),cond_false,dN (show¬port<=1 by omega),dN (show¬port<=6 by omega),dN (show¬port<=9 by omega),c]
theorem qK{P:Nat}{m:ao}(hm:ey P m.Mem)(hb:okB m.A1)(port:Int){v:Int}(hv:U v):FD m port v m.A0=((Ev m port v).2,(Ev m port v).1):=by
 have e1:=Zft hm m.A4
 have e2:=Zk0 hm m.C1
 have e3:=Zlf hm hb port hv
 have e4:=zJ m.A9 v
 simp only[FD,Lp,Ev,GB,Tree.m,dk,e1,e2,e3,e4]
 rcases He (p:=port)with rfl|rfl|rfl|rfl|rfl|rfl|rfl|rfl|rfl|rfl|rfl|rfl|h|h
 all_goals first|rfl|skip
 ·have n:∀k:Int,0<=k->(port==k)=false:=λk hk=>beq_eq_false_iff_ne.2 (by omega)
  simp only[n 0 (by decide),n 1 (by decide),n 2 (by decide),n 3 (by decide),n 4 (by decide),n 5 (by decide),n 6 (by decide),n 7 (by decide),n 8 (by decide),n 9 (by decide),n 10 (by decide),n 11 (by decide),cond_false,dY (show port<=2 by omega),cond_true]
 ·have n:∀k:Int,k<12->(port==k)=false:=λk hk=>beq_eq_false_iff_ne.2 (by omega)
  have c:Bw m.A1 m.Mem port v=(m.A1,m.Mem):=by
   simp only[Bw,Bv,Tree.m,n 10 (by decide),n 11 (by decide),cond_false]
  simp only[n 0 (by decide),n 1 (by decide),n 2 (by decide),n 3 (by decide),n 4 (by decide),n 5 (by decide),n 6 (by decide),n 7 (by decide),n 8 (by decide),n 9 (by decide),n 10 (by decide),n 11 (by decide),cond_false,dN (show¬port<=2 by omega),dN (show¬port<=6 by omega),dN (show¬port<=9 by omega),c]
def tick(n:ao)(c:bg)(w h:Bool):ao:={A7:=c,Mem:=n.Mem,A2:=n.A2,A9:=n.A9,A4:=n.A4,C1:=n.C1,A1:=n.A1,A0:=wrap .u64 (n.A0+1),A3:=w,A6:=h}
def CF(m:ao)(c:bg)(mem:List Int):ao:={A7:=c,Mem:=mem,A2:=m.A2,A9:=m.A9,A4:=m.A4,C1:=m.C1,A1:=m.A1,A0:=m.A0,A3:=false,A6:=m.A6}
def FE(n:ao)(e:kY)(clock bn:Int):ao×List fc:=
 bif e.C3==1 then
  (bif e.D7 !=0 then(tick (uM n e.C7 clock).1 {X:=fu.of 0 (dF (fu.l (uM n e.C7 clock).1.A7.X) e.D7.toNat (uM n e.C7 clock).2),Pc:=(uM n e.C7 clock).1.A7.Pc,B1:=(uM n e.C7 clock).1.A7.B1} (uM n e.C7 clock).1.A3 (uM n e.C7 clock).1.A6,[])
  else(tick (uM n e.C7 clock).1 (uM n e.C7 clock).1.A7 (uM n e.C7 clock).1.A3 (uM n e.C7 clock).1.A6,[]))
 else bif e.C3==2 then(tick (FD n e.C7 e.Value bn).1 (FD n e.C7 e.Value bn).1.A7 (FD n e.C7 e.Value bn).1.A3 (FD n e.C7 e.Value bn).1.A6,(FD n e.C7 e.Value bn).2)
 else bif e.C3==3 then(tick n n.A7 true n.A6,[])else bif e.C3==4 then(tick n n.A7 n.A3 true,[])else(tick n n.A7 n.A3 n.A6,[])
def CG(n:ao)(e:kY)(clock:Int):List fc×ao:=
 bif e.C3==1 then([],tick (CE n e.C7 clock).2 (lQ (CE n e.C7 clock).2.A7 e.D7 (CE n e.C7 clock).1) (CE n e.C7 clock).2.A3 (CE n e.C7 clock).2.A6)
 else bif e.C3==2 then((Ev n e.C7 e.Value).1,tick (Ev n e.C7 e.Value).2 (Ev n e.C7 e.Value).2.A7 (Ev n e.C7 e.Value).2.A3 (Ev n e.C7 e.Value).2.A6)
 else bif e.C3==3 then([],tick n n.A7 true n.A6)else bif e.C3==4 then([],tick n n.A7 n.A3 true)else([],tick n n.A7 n.A3 n.A6)
theorem qW(m:ao)(clock:Int):ez m clock=CG (CF m (uL (nt m) m.Mem).1 (uL (nt m) m.Mem).2.2) (uL (nt m) m.Mem).2.1 clock:=by kernel_rfl
theorem Zmq(m:ao)(clock:Int):AT m clock=bif !AM m then(m,[])else FE {A7:=(wU (nu m).A7 (nu m).Mem).1,Mem:=(wU (nu m).A7 (nu m).Mem).2.1,A2:=(nu m).A2,A9:=(nu m).A9,A4:=(nu m).A4,C1:=(nu m).C1,A1:=(nu m).A1,A0:=(nu m).A0,A3:=(nu m).A3,A6:=(nu m).A6} (wU (nu m).A7 (nu m).Mem).2.2 clock m.A0:=by kernel_rfl
theorem qaj(m:List Int):Ye m=m:=by
 simp[Ye,Ma,Tree.m]
theorem Jk(m:ao):Mb m=m:=by
 simp only[Mb,KS,Tree.m,dk,qaj]
theorem Yf(m:ao)(clock:Int):Yg m clock=bif rF m then(m,[])else((ez m clock).2,(ez m clock).1):=by
 simp only[Yg,Z3p,Tree.m,dk,Jk]
theorem xK{P:Nat}{n:ao}(hm:ey P n.Mem)(hb:okB n.A1){e:kY}(hr:0<=e.D7/\e.D7<16)(hv:U e.Value)(clock:Int):FE n e clock n.A0=((CG n e clock).2,(CG n e clock).1):=by
 unfold FE CG
 rw[xai hb e.C7 clock,qK hm hb e.C7 hv]
 cases e.C3==1
 ·cases e.C3==2
  ·cases e.C3==3
   ·cases e.C3==4<;>rfl
   ·rfl
  ·rfl
 ·generalize CE n e.C7 clock=r
  have s:=TE r.2.A7 hr r.1
  show(bif e.D7 !=0 then _ else _)=(tick r.2 (lQ r.2.A7 e.D7 r.1) r.2.A3 r.2.A6,[])
  rw[<-s]
  simp only[uK,Fw,Tree.m]
  cases e.D7 !=0<;>rfl
theorem Zhs{m:ao}(h:oC m)(clock:Int):AT m clock=Yg m clock:=by
 rw[Zmq,Yf,TZ h]
 cases hs:rF m
 ·have hr:AM m=true:=by rw[TZ h,hs];rfl
  obtain⟨hm,hh,Of⟩:=To hr
  obtain⟨g1,g2,g3,g4,g5⟩:=(GP m).1 hm
  rcases(OX m.Mem h.mem).2 with c|⟨P,hP,gv⟩
  ·exact absurd c g1
  have Yh:rA P m:=⟨h.lY,gv,h.kM,h.r7,h.tO.1,h.tO.2⟩
  obtain⟨b1,b2,b3,_⟩:=(Tree.pp (Xf Yh g2)).2
  change mO (nu m).A7 at b1
  change rA P (nu m)at b2
  change(nu m).Mem=m.Mem at b3
  have be:=Z8l h g2.st
  have T8:mO (nt m):=by have:=b1;rw[be]at this;exact this
  have Mc:iM (nt m):=by have:=b2.lY;rw[be]at this;exact this
  have ex:=Zgg gv Mc T8.st
  have er:=(Tree.pp (Zmu Mc gv)).2
  change 0<=(wU (nt m) m.Mem).2.2.D7/\(wU (nt m) m.Mem).2.2.D7<16 at er
  obtain⟨d1,d2,d3⟩:=(Tree.pp (IV Mc gv)).2
  change U (uL (nt m) m.Mem).2.1.Value at d2
  change ey P (uL (nt m) m.Mem).2.2 at d3
  rw[ex]at er
  rw[qW,be]
  show FE {A7:=(wU (nt m) m.Mem).1,Mem:=(wU (nt m) m.Mem).2.1,A2:=m.A2,A9:=m.A9,A4:=m.A4,C1:=m.C1,A1:=m.A1,A0:=m.A0,A3:=false,A6:=m.A6} (wU (nt m) m.Mem).2.2 clock m.A0=_
  rw[ex]
  exact xK (n:=CF m (uL (nt m) m.Mem).1 (uL (nt m) m.Mem).2.2) d3 h.tO er d2 clock
 ·rfl
theorem Zag{m:ao}(h:oC m)(e:j9):Md m e=O0 m e:=by
 have gz:jK m.Mem=m.Mem:=rfl
 have mm:=Jh h
 have t1:Tg m.A9=Yi m.A9:=rfl
 have t2:∀b,Qoh m.A2 b=Z3w m.A2 b:=λ_=>rfl
 simp only[Md,GU,O0,T9,pX,Hf,Tree.m,dk,Jk,gz,t1,t2]
 rw[show mM {A7:=m.A7,Mem:=m.Mem,A2:=m.A2,A9:=m.A9,A4:=m.A4,C1:=m.C1,A1:=m.A1,A0:=m.A0,A3:=m.A3,A6:=m.A6}=sd m from mm]
 cases hM:sd m
 ·rfl
 have hM':mM m=true:=mm.trans hM
 rcases(OX m.Mem h.mem).2 with c|⟨P,hP,gv⟩
 ·exact absurd c ((GP m).1 hM').1
 have cs:=Zc2 gv h.kM e
 have rs:=Zh6 gv h.r7 e.D2
 clear mm hM hM' gz h
 obtain⟨c,mem,con,ti,d,n,b,ct,w,hl⟩:=m
 cases hl
 ·by_cases k2:e.C3=2
  ·rw[k2];cases e.N==0<;>cases decide (e.D2=[])<;>rfl
  by_cases k3:e.C3=3
  ·rw[k3];cases decide (e.N<=255)<;>cases decide (e.D2=[])<;>rfl
  by_cases k4:e.C3=4
  ·rw[k4,cs];rfl
  by_cases k5:e.C3=5
  ·rw[k5,rs];cases e.N==0<;>rfl
  by_cases k6:e.C3=6
  ·rw[k6];cases decide (e.D2=[])<;>rfl
  ·rw[show(e.C3==2)=false by simpa using k2,show(e.C3==3)=false by simpa using k3,show(e.C3==4)=false by simpa using k4,show(e.C3==5)=false by simpa using k5,show(e.C3==6)=false by simpa using k6]
   rfl
 ·rfl
section
variable {m:ao} (h:oC m) (hl:m.Mem.length<=1024)
include h
theorem sT(hm:mM m=true):∃P,rA P m/\oA P m:=by
 rcases(OX m.Mem h.mem).2 with c|⟨P,hP,gv⟩
 ·exact absurd c ((GP m).1 hm).1
 ·exact⟨P,⟨h.lY,gv,h.kM,h.r7,h.tO.1,h.tO.2⟩,⟨h.lY,gv,h.kM,h.r7,h.tO,h.pV⟩⟩
include hl
theorem vk{clock:Int}(hk:U clock):O1 m clock/\(AT m clock).2.length<=1/\(AT m clock).1.Mem.length<=1024:=by
 cases hr:AM m
 ·have e:AT m clock=(m,[]):=by rw[Zmq,hr];rfl
  rw[e]
  refine⟨?_,aT _,hl⟩
  have gz:jK m.Mem=m.Mem:=rfl
  show(GS m clock).p
  unfold Tree.p GS
  refine cu (by show m.Mem.length<=35184372088832;omega) (au λl hl=>?_)
  rw[gz]at hl;subst hl
  refine cu (Tree.pp (Xi (m:=⟨_,_,_,_,_,_,m.A1,_,_,_⟩) h.tO.2)).1 (au λx1 nL=>ab (λ_=>trivial) (λhb=>?_))
  have:x1=false:=nL.trans hr
  rw[this]at hb;cases hb
 ·obtain⟨P,s,_⟩:=sT h (To hr).1
  have g:=Tree.pp (vh s h.pV hk)
  have ml:=g.2.2.ok.mem.len
  have mp:=g.2.2.ok.mem.p2
  exact⟨g.1,g.2.1,by show(GS m clock).m.1.Mem.length<=1024;omega⟩
omit h hl in
theorem Zmr{P:Nat}(h:oA P m){e:j9}(he:U e.N):(Hf m e).w (λx=>oA P x.2):=by
 have k:=h
 obtain⟨h1,h2,h3,h4,h5,h7⟩:=h
 unfold Hf
 repeat'(first
  |exact k
  |exact⟨h1,h2,h3,h4,⟨he,h5.2⟩,h7⟩
  |exact au λ_ _=>⟨h1,h2,h3,h4,h5,h7⟩
  |exact bh (qaF _ _) λ_ _=>⟨h1,h2,h3,h4,h5,h7⟩
  |exact bh (vQ h2 h3 _) λx hx=>⟨h1,hx.2,hx.1,h4,h5,h7⟩
  |exact bh (qS h2 h4 _) λx hx=>⟨h1,hx.2,h3,hx.1,h5,h7⟩
  |refine ab (λ_=>?_) (λ_=>?_))
theorem Zqh{e:j9}(he:U e.N):Qd0 m e:=by
 cases hm:mM m
 ·have gz:jK m.Mem=m.Mem:=rfl
  show(GU m e).p
  unfold Tree.p GU
  refine cu (by show m.Mem.length<=35184372088832;omega) (au λl hl=>?_)
  rw[gz]at hl;subst hl
  refine cu (Tree.pp (Tp (m:=⟨_,_,_,_,_,_,m.A1,_,_,_⟩) h.tO.2)).1 (au λx1 nL=>ab (λ_=>trivial) (λhb=>?_))
  have:x1=false:=nL.trans hm
  rw[this]at hb;cases hb
 ·obtain⟨P,s,o⟩:=sT h hm
  exact(Tree.pp (Znu o he)).1

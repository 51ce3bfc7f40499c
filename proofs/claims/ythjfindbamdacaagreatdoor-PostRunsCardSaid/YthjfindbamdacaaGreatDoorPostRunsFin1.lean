import Derived.Test.YthjfindbamdacaaGreatDoorPostRunsLaws2
import Derived.Test.YthjfindbamdacaaGreatDoorPostRunsNewsB
import Derived.Test.YthjfindbamdacaaGreatDoorPostRunsZt
open Nat renaming lt_succ_self->cL,blt->bJ,le_refl->aO,zero_le->aT,le_trans->bH,min_le_left->cV,le_of_eq->dH,pow_le_pow_right->dP,and_le_left->dW,pow_lt_pow_right->dX,two_pow_pos->eB,two_pow_add_eq_or_of_lt->eF,eq_of_testBit_eq->eG,testBit_mod_two_pow->eH,testBit->eI,zero_testBit->eX,testBit_and->eY
open List renaming replicate->cM,append->cN,mem_cons->cO,not_mem_nil->cP,length_replicate->cQ,length_take->bD,length_drop->bF,mem_of_mem_take->cR,mem_of_mem_drop->cS,length_singleton->cU,take->cW,drop->cX,ext_getElem->bN,range->cY,getD_eq_getElem?_getD->cZ,set->dC,length_set->dD,length_cons->dE,length_nil->dF,length->dG,getD->aK,getElem?_take->aU
open Int renaming tmod->dA,toNat->dB,emod_eq_of_lt->dI,pow_pos->dJ,fdiv_eq_ediv_of_nonneg->dK,le_of_lt->dL,pow_add->dM,mul_le_mul_of_nonneg_right->dO,lt_or_le->dR,toNat_natCast->dZ,tmod_eq_emod_of_nonneg->eA,toNat_of_nonneg->cK,fdiv->eD,tdiv->eN,tdiv_eq_ediv_of_nonneg->eO,ediv_ediv_of_nonneg->eU,mul_ediv_add_emod->eV,pow_succ->eW
open Bool renaming or_eq_true->aI,eq_iff_iff->eC,noConfusion->eT
open UInt8 renaming toNat_lt->dQ,toNat->eQ,ofNat->eR
open BitVec renaming ofInt->dS,toNat_ofInt->dT,toNat_or->dU,toNat_and->dV,getLsbD->eJ,eq_of_toNat_eq->eK,ofInt_natCast->eL,toNat_ofNat->eM
open Prod renaming ext->eS
set_option maxRecDepth 100000
set_option linter.all false
namespace Go.Proofs.YthjfindbamdacaaGreatDoor
open Go Go.GD
open Go.IntKind(wrap i64 u32 u64 u8 wrap_i64 wrap_u32 wrap_u64 wrap_u8 wrap_i32)
theorem vC(i:Q0g):U (Q1q i).1:=by
 refine Tree.post (Qgh i) (W:=λr=>U r.1) ?_
 unfold Qgh
 exact w_lv λ_ _=>w_br (λ_=>U_0) (λ_=>U_or _ _)
theorem yd(l:List Int)(hl:l.length*8<=reachBytes):(Qih l).w (λr=>(r.length:Int)=l.length/\∀w∈r,U w):=by
 have hl':l.length*8<=140737488351232:=hl
 have app:∀{r:List Int} {x:Int},(∀w∈r,U w)->U x->∀w∈r++[x],U w:=λhr hx w hw=>by
  rw[List.mem_append]at hw
  rcases hw with hw|hw
  ·exact hr w hw
  ·rw[List.mem_singleton.1 hw];exact hx
 unfold Qih
 refine w_lp (inv:=λz=>Qr l z/\∀w∈z.2,U w) (μ:=Qdn l) ⟨⟨by omega,by simp,by simp⟩,by simp⟩ (cL _) (λv0 hv=>?_)
 obtain⟨⟨h1,h2,h3⟩,h4⟩:=hv
 refine w_br (λh=>?_) (λh=>?_)
 ·have h:=oY h
  have next:∀x:Int,U x->(Qr l (wrap i64 (v0.1+1),v0.2++[x])/\∀w∈v0.2++[x],U w)/\Qdn l (wrap i64 (v0.1+1),v0.2++[x])<Qdn l v0:=λx hx=>by
   have hw:i64.wrap (v0.1+1)=v0.1+1:=by rw[wrap_i64];omega
   rw[hw]
   refine⟨⟨⟨?_,?_,?_⟩,app h4 hx⟩,?_⟩
   ·show 0<=v0.1+1;omega
   ·show v0.1+1<=l.length;omega
   ·show((v0.2++[x]).length:Int)=v0.1+1;simp;omega
   ·show(l.length-(v0.1+1)).toNat<(l.length-v0.1).toNat;omega
  have hb:(Nat.beq 1 1&&bJ 0 1&&decide (0<=v0.1/\v0.1<(l.length:Int)))=true:=by simp[bJ];omega
  have hc:decide (4*(v0.2.length+1)<=140737488355328)=true:=dY (by omega)
  exact w_cn hb (w_br (λ_=>w_cn hb (w_cn hc (next _ (Q0s _)))) (λ_=>w_cn hb (w_an (xP _) (w_lv λx0 _=>w_lv λx1 hx=>w_cn hc (next _ (by rw[hx];exact vC _))))))
 ·have h:=oN h
  exact⟨by show(v0.2.length:Int)=l.length;omega,h4⟩
section
variable {P:Nat} {m:Q00} (h:okM P m)
include h
theorem min_w(port:Int){clock:Int}(hc:U clock):(Qp0 m port clock).w (λx=>U x.1/\okM P x.2/\x.2.A2=m.A2):=by
 have k:=(⟨h,rfl⟩:okM P m/\m.A2=m.A2)
 obtain⟨h1,h2,h3,h4,h5,h7⟩:=h
 unfold Qp0
 exact w_br (λ_=>w_lv λx hx=>⟨hx▸Zik _ _,⟨⟨h1,h2,h3,h4,h5,h7⟩,rfl⟩⟩) (λ_=>w_br (λ_=>⟨hc,k⟩) (λ_=>w_br (λ_=>w_lv λx hx=>⟨hx▸zv _,k⟩) (λ_=>w_br (λ_=>w_lv λx hx=>⟨hx▸vO h3 _,k⟩) (λ_=>w_br (λ_=>w_lv λx hx=>⟨hx▸qao h4 _,k⟩) (λ_=>w_lv λx hx=>⟨hx▸Zix h5.1 _,k⟩)))))
theorem zaq(port:Int){v:Int}(hv:U v):(Qgz m port v).w (λx=>x.1.length<=1/\okM P x.2/\x.2.A2=m.A2):=by
 have k:=(⟨h,rfl⟩:okM P m/\m.A2=m.A2)
 obtain⟨h1,h2,h3,h4,h5,h7⟩:=h
 unfold Qgz
 exact w_br (λ_=>⟨aO _,k⟩) (λ_=>w_br (λ_=>⟨aT _,k⟩) (λ_=>w_br (λ_=>w_lv λ_ _=>⟨aT _,⟨⟨h1,h2,h3,h4,h5,h7⟩,rfl⟩⟩) (λ_=>w_br (λ_=>Q0e (xv h2 h3 _ hv _) λx hx=>⟨hx.2,⟨⟨h1,h2,hx.1,h4,h5,h7⟩,rfl⟩⟩) (λ_=>w_br (λ_=>Q0e (yO h2 h4 _ hv _) λx hx=>⟨hx.2,⟨⟨h1,h2,h3,hx.1,h5,h7⟩,rfl⟩⟩) (λ_=>Q0e (qaA h2 h5 _ hv) λx hx=>⟨aT _,⟨⟨h1,hx.2,h3,h4,hx.1,h7⟩,rfl⟩⟩)))))
theorem Qw0{clock:Int}(hc:U clock):(Qbj m clock).w (λx=>x.1.length<=1/\okM P x.2/\x.2.A2=wrap .u64 (m.A2+1)):=by
 obtain⟨h1,h2,h3,h4,h5,h7⟩:=h
 unfold Qbj
 refine Q0e (Qtz h1) λx0 c0=>Q0e (do_w c0 h2) λx1 hx=>?_
 obtain⟨c1,v1,m1⟩:=hx
 refine w_br (λ_=>Zkd (min_w (m:=⟨_,_,_,_,_,_,_,_,_,_⟩) ⟨c1,m1,h3,h4,h5,h7⟩ _ hc) λx2 hx=>?_) (λ_=>w_br (λ_=>Q0e (zaq (m:=⟨_,_,_,_,_,_,_,_,_,_⟩) ⟨c1,m1,h3,h4,h5,h7⟩ _ v1) λx4 hx=>?_) (λ_=>?_))
 ·obtain⟨u,⟨k1,k2,k3,k4,k5,k7⟩,k6⟩:=hx
  exact Q0e (Z8v k1 _ u) λx3 h3=>⟨aT _,⟨h3,k2,k3,k4,k5,w0 _⟩,congrArg (λn=>wrap .u64 (n+1)) k6⟩
 ·obtain⟨u,⟨k1,k2,k3,k4,k5,k7⟩,k6⟩:=hx
  exact⟨u,⟨k1,k2,k3,k4,k5,w0 _⟩,congrArg (λn=>wrap .u64 (n+1)) k6⟩
 ·repeat'(first
   |exact⟨aT _,⟨c1,m1,h3,h4,h5,w0 _⟩,rfl⟩
   |refine w_br (λ_=>?_) (λ_=>?_))
theorem xaq:(Qcj m).w (λx=>okM P x/\x.A2=m.A2):=by
 obtain⟨h1,h2,h3,h4,h5,h7⟩:=h
 unfold Qcj
 exact Q0e (qaz h2) λx hx=>⟨⟨h1,by rw[hx];exact h2,h3,h4,h5,h7⟩,rfl⟩
end
theorem U_all(n:Nat):∀w∈cM n (0:Int),U w:=λw hw=>by rw[(List.mem_replicate.1 hw).2];exact U_0
theorem xY:okM 0 ⟨⟨⟨0,0,0,0,0,0,0,0,0,0,0,0,0,0,0,0⟩,0,⟨0,0,0,0,0,0,0,0⟩⟩,[],⟨[]⟩,⟨false,0,false⟩,⟨0,0,0,0,0,0,0,[]⟩,⟨0,0,false,0,false,0⟩,⟨0,0⟩,0,false,false⟩:=
 ⟨⟨U_all 16,U_0,U_all 8⟩,⟨rfl,by omega,by omega,λw hw=>by cases hw⟩,⟨U_0,U_0,U_0,U_0⟩,⟨U_0,U_0,U_0,U_0⟩,⟨U_0,U_0⟩,by decide⟩
theorem Zjn{P:Nat}{m:Q00}(h:okM P m)(hc:0<=m.A2):(Q9y m [] 87).w (λx=>∃Q,okM Q x.1):=by
 have z:∃Q,okM Q _:=⟨0,xY⟩
 unfold Q9y
 refine w_lv λx0 _=>w_br (λ_=>z) λ_=>w_br (λ_=>z) λ_=>w_br (λ_=>z) λ_=>w_an (show Q8w [] by show([]:List Q3f).length<=1000000000000;decide) (w_lv λx1 _=>w_br (λ_=>z) λ_=>Q0e (xaq h) λx2 hx=>?_)
 refine w_lp (inv:=λv:Q00×List Q0a=>okM P v.1/\0<=v.1.A2/\v.2.length+(87-v.1.A2).toNat<=87) (μ:=Qg5 m [] 87) ⟨hx.1,by rw[hx.2];exact hc,by rw[hx.2];show 0+_<=87;omega⟩ (cL _) λv0 ⟨a1,a2,a3⟩=>?_
 refine w_br (λhb=>w_br (λ_=>?_) (λ_=>⟨P,a1⟩)) (λ_=>⟨P,a1⟩)
 have hb:=oY hb
 refine w_lp (inv:=λ_=>True) (μ:=Qg2 m [] 87 v0) trivial (cL _) λv1 _=>?_
 refine w_br (λ_=>⟨P,a1⟩) λ_=>Q0e (zV _) λx3 _=>w_br (λ_=>⟨P,a1⟩) λ_=>Q0e (xan a1.cpu a1.mem) λx4 _=>w_br (λ_=>z) λ_=>Q0e (Qw0 a1 U_0) λx5 h5=>?_
 obtain⟨b1,b2,b3⟩:=h5
 refine w_cn (dY (by omega)) (w_nx ?_)
 have e:x5.2.A2=v0.1.A2+1:=by rw[b3,wrap_u64];omega
 show(_/\_/\_)/\(_:Nat)<_
 refine⟨⟨b2,by show 0<=x5.2.A2;omega,by show(v0.2++x5.1).length+(87-x5.2.A2).toNat<=87;rw[lA];omega⟩,by show(87-x5.2.A2).toNat<(87-v0.1.A2).toNat;omega⟩
set_option synthInstance.maxHeartbeats 2000000
set_option synthInstance.maxSize 100000
noncomputable section
instance qD (src:List UInt8):Ck (Qkf src):=ckT (t:=Qfl src) (by delta Qfl;infer_instance)
instance vz (s:List UInt8):Ck (Qif s):=ckT (t:=Qd6 s) (by delta Qd6;infer_instance)
instance qA (n:Int):Ck (Q3y n):=let d:Decidable (Q3y n):=(by delta Q3y;infer_instance);⟨@decide _ d,@oY _ d⟩
instance vd (n:Int):Ck (Qfz n):=ckT (t:=Q7j n) (by delta Q7j;infer_instance)
instance zY (r:Int):Ck (Qnu r):=ckT (t:=Qer r) (by delta Qer;infer_instance)
instance zQ (s:List UInt8):Ck (Qgp s):=ckT (t:=Qir s) (by delta Qir;infer_instance)
instance Znk (op:Int):Ck (Qeh op):=ckT (t:=Q9q op) (by delta Q9q;infer_instance)
instance Zmh (s:List UInt8):Ck (Q3t s):=ckT (t:=Q8o s) (by delta Q8o;infer_instance)
instance qe (what:List UInt8):Ck (Q6r what):=ckT (t:=Qbp what) (by delta Qbp;infer_instance)
instance xA (s:List UInt8):Ck (Qib s):=ckT (t:=Qcz s) (by delta Qcz;infer_instance)
instance xe (l:List Q0j) (p:List UInt8):Ck (Q6m l p):=ckT (t:=Qbm l p) (by delta Qbm;infer_instance)
instance zA (s:List UInt8):Ck (Qhr s):=ckT (t:=Qcs s) (by delta Qcs;infer_instance)
instance ze (l:List Q2f) (label:List UInt8):Ck (Q45 l label):=let d:Decidable (Q45 l label):=(by delta Q45;infer_instance);⟨@decide _ d,@oY _ d⟩
instance yQ (src:List UInt8):Ck (Qlx src):=ckT (t:=Qid src) (by delta Qid;infer_instance)
instance vQ (st:Q09) (v:Int):Ck (Qan st v):=ckT (t:=Qiq st v) (by delta Qiq;infer_instance)
instance Znl (src:List UInt8):Ck (Qax src):=ckT (t:=Q9p src) (by delta Q9p;infer_instance)
theorem yY:Qax ((108:UInt8)::(tblZe0++Z77++(Z60++Z69)++(Z7y++Z7d++(Z7r++Z72))++(Z6b++Z7i++(Qws++Qv5)++(Qwj++Qwi++(Quu++Qwq))))):=ck inferInstance (by kernel_rfl)
def inU(x:Int):Bool:=decide (0<=x)&&decide (x<4294967296)
theorem vY(l:List Int)(h:(Nat.ble l.length 160&&List.all l inU)=true):l.length<=160/\∀w∈l,U w:=by
 rw[aE]at h
 refine⟨lE h.1,λw hw=>?_⟩
 have:=List.all_eq_true.1 h.2 w hw
 simp only[inU,aE,decide_eq_true_eq]at this
 exact this
theorem ye:(Q1i (cN (cN (cN (cN Zas Z77) (cN Z60 Z69)) (cN (cN Z7y Z7d) (cN Z7r Z72))) (cN (cN (cN Z6b Z7i) (cN Qws Qv5)) (cN (cN Qwj Qwi) (cN Quu Qwq))))).1.length<=160/\∀w∈(Q1i (cN (cN (cN (cN Zas Z77) (cN Z60 Z69)) (cN (cN Z7y Z7d) (cN Z7r Z72))) (cN (cN (cN Z6b Z7i) (cN Qws Qv5)) (cN (cN Qwj Qwi) (cN Quu Qwq))))).1,U w:=vY _ (by kernel_rfl)
end
theorem new_w(i:List Int)(hu:∀w∈i,U w)(hl:i.length<=256):(Qck 8 4 i).w (λx=>okM 8 x.1/\x.1.A2=0):=by
 unfold Qck
 refine w_br (λh=>absurd h (by decide)) λ_=>w_br (λh=>absurd h (by decide)) λ_=>w_br (λh=>absurd h (by decide)) λ_=>w_br (λh=>absurd h (by decide)) λ_=>w_br (λh=>?_) λ_=>w_lv λx0 e0=>w_an (Zd6 _) (w_lv λx1 e1=>?_)
 ·have h:=oY h
  rw[show i64.wrap (8*32)=256 by decide]at h
  omega
 have hx:x1=cM 256 0:=by rw[e1];kernel_rfl
 have c0:Q29 x0:=by rw[e0];exact⟨by
  intro w hw
  simp only[Qpd,Qjt,Tree.m,A16.l,cO,cP,or_false,or_self]at hw
  rw[hw];exact U_0,U_0,by
  intro w hw
  simp only[Qpd,Qjt,Tree.m,A8.l,cO,cP,or_false,or_self]at hw
  rcases hw with rfl|rfl
  ·exact⟨by omega,by omega⟩
  ·exact U_0⟩
 have hz:∀w∈x1,U w:=by rw[hx];exact U_all 256
 have hn:x1.length=256:=by rw[hx,cQ]
 refine⟨⟨c0,⟨?_,by omega,by omega,λw hw=>?_⟩,⟨U_0,U_0,U_0,U_0⟩,⟨U_0,U_0,U_0,U_0⟩,⟨U_0,U_0⟩,Int.le_refl _⟩,rfl⟩
 ·simp only[lA,bD,bF,hn];omega
 ·rcases List.mem_append.1 hw with h1|h1
  ·exact hu w (cR h1)
  ·exact hz w (cS h1)
theorem Zfo(kind:Int)(l:List Int)(hl:l.length*8<=reachBytes):(Q7g kind l).w (λx=>∃Q,okM Q x):=by
 have hl':l.length*8<=140737488351232:=hl
 unfold Q7g
 refine w_an (Qhy (by decide)) (w_lv λx0 _=>w_br (λ_=>w_an yY (w_lv λx1 e1=>?_)) (λ_=>?_))
 ·obtain⟨q1,q2⟩:x1.1.length<=160/\∀w∈x1.1,U w:=by rw[e1];exact ye
  refine w_lp (inv:=λv:List Int=>v.length<=160/\∀w∈v,U w) (μ:=Qda kind l) ⟨q1,q2⟩ (cL _) λv0 ⟨a1,a2⟩=>?_
  refine w_br (λhb=>?_) (λ_=>?_)
  ·have hb:=oY hb
   refine w_cn (dY (by omega)) (w_nx ?_)
   show(_/\_)/\(_:Nat)<_
   refine⟨⟨by rw[lA,cU];omega,λw hw=>?_⟩,by show 160-(v0++[0]).length<160-v0.length;rw[lA,cU];omega⟩
   rcases List.mem_append.1 hw with h1|h1
   ·exact a2 w h1
   ·rw[List.mem_singleton.1 h1];exact U_0
  ·refine Q0e (yd l hl) λx2 ⟨b1,b2⟩=>w_cn (dY (by omega)) ?_
   have hu:∀w∈v0++x2,U w:=λw hw=>(List.mem_append.1 hw).elim (a2 w) (b2 w)
   refine w_br (λhb=>?_) (λhb=>?_)
   ·have hb:=oY hb
    refine w_cn (by simp[bJ];rw[lA]at hb;omega) (Q0e (new_w _ (λw hw=>hu w (cS (cR hw))) (by rw[bD];exact bH (cV _ _) (by decide))) λx3 ⟨c1,c2⟩=>w_br (λ_=>Q0e (Zjn c1 (by omega)) λx4 hx=>hx) (λ_=>⟨8,c1⟩))
   ·have hb:=oN hb
    exact Q0e (new_w _ hu (by omega)) λx3 ⟨c1,c2⟩=>w_br (λ_=>Q0e (Zjn c1 (by omega)) λx4 hx=>hx) (λ_=>⟨8,c1⟩)
 ·refine Q0e (yd l hl) λx2 ⟨b1,b2⟩=>w_cn (dY (by omega)) ?_
  refine w_br (λhb=>?_) (λhb=>?_)
  ·have hb:=oY hb
   refine w_cn (by simp[bJ];omega) (Q0e (new_w _ (λw hw=>b2 w (cS (cR hw))) (by rw[bD];exact bH (cV _ _) (by decide))) λx3 ⟨c1,c2⟩=>w_br (λ_=>Q0e (Zjn c1 (by omega)) λx4 hx=>hx) (λ_=>⟨8,c1⟩))
  ·have hb:=oN hb
   exact Q0e (new_w _ b2 (by omega)) λx3 ⟨c1,c2⟩=>w_br (λ_=>Q0e (Zjn c1 (by omega)) λx4 hx=>hx) (λ_=>⟨8,c1⟩)
noncomputable section
def boot:List Int:=(Q1i (cN (cN (cN (cN Zas Z77) (cN Z60 Z69)) (cN (cN Z7y Z7d) (cN Z7r Z72))) (cN (cN (cN Z6b Z7i) (cN Qws Qv5)) (cN (cN Qwj Qwi) (cN Quu Qwq))))).1
def Qk0:List Int:=boot++cM (160-boot.length) 0
theorem run87(t0 t1 t2 t3 t4 t5 t6 t7 t8 t9 t10 t11 t12 t13 t14 t15 t16 t17 t18 t19 t20 t21 t22 t23 t24 t25 t26 t27 t28 t29 t30 t31 t32 t33 t34 t35 t36 t37 t38 t39 t40 t41 t42 t43 t44 t45 t46 t47 t48 t49 t50 t51 t52 t53 t54 t55 t56 t57 t58 t59 t60 t61 t62 t63 t64 t65 t66 t67 t68 t69 t70 t71 t72 t73 t74 t75 t76 t77 t78 t79 t80 t81 t82 t83 t84 t85 t86 t87 t88 t89 t90 t91 t92 t93 t94 t95:Int):(Qef (Q25 8 4 (Qk0++[t0,t1,t2,t3,t4,t5,t6,t7,t8,t9,t10,t11,t12,t13,t14,t15,t16,t17,t18,t19,t20,t21,t22,t23,t24,t25,t26,t27,t28,t29,t30,t31,t32,t33,t34,t35,t36,t37,t38,t39,t40,t41,t42,t43,t44,t45,t46,t47,t48,t49,t50,t51,t52,t53,t54,t55,t56,t57,t58,t59,t60,t61,t62,t63,t64,t65,t66,t67,t68,t69,t70,t71,t72,t73,t74,t75,t76,t77,t78,t79,t80,t81,t82,t83,t84,t85,t86,t87,t88,t89,t90,t91,t92,t93,t94,t95])).1 [] 87).2.2.2=0:=by kernel_rfl
end
attribute [local irreducible] Q1i
theorem qZ(i j:List Int)(hi:i.length<=256)(hj:j.length<=256)(e:i++cM (256-i.length) 0=j++cM (256-j.length) 0):Q25 8 4 i=Q25 8 4 j:=by
 have w:i64.wrap (8*32)=256:=by decide
 have m:Qtv 8=cM 256 0:=by kernel_rfl
 have d:∀k:List Int,k.length<=256->decide ((k.length:Int)>256)=false:=λk h=>dN (by omega)
 have mem:∀k:List Int,k.length<=256->cW (min k.length (cM 256 (0:Int)).length) k++cX (min k.length (cM 256 (0:Int)).length) (cM 256 0)=k++cM (256-k.length) 0:=λk h=>by
  rw[cQ,Nat.min_eq_left h,List.take_length,List.drop_replicate]
 have r:Qtv 8=cM 256 0:=by kernel_rfl
 simp only[Q25,Qck,Tree.m,w,letv,r,d i hi,d j hj]
 simp only[mem i hi,mem j hj,e]
theorem list96(t:List Int)(ht:t.length=96):t=[t.getD 0 0,t.getD 1 0,t.getD 2 0,t.getD 3 0,t.getD 4 0,t.getD 5 0,t.getD 6 0,t.getD 7 0,t.getD 8 0,t.getD 9 0,t.getD 10 0,t.getD 11 0,t.getD 12 0,t.getD 13 0,t.getD 14 0,t.getD 15 0,t.getD 16 0,t.getD 17 0,t.getD 18 0,t.getD 19 0,t.getD 20 0,t.getD 21 0,t.getD 22 0,t.getD 23 0,t.getD 24 0,t.getD 25 0,t.getD 26 0,t.getD 27 0,t.getD 28 0,t.getD 29 0,t.getD 30 0,t.getD 31 0,t.getD 32 0,t.getD 33 0,t.getD 34 0,t.getD 35 0,t.getD 36 0,t.getD 37 0,t.getD 38 0,t.getD 39 0,t.getD 40 0,t.getD 41 0,t.getD 42 0,t.getD 43 0,t.getD 44 0,t.getD 45 0,t.getD 46 0,t.getD 47 0,t.getD 48 0,t.getD 49 0,t.getD 50 0,t.getD 51 0,t.getD 52 0,t.getD 53 0,t.getD 54 0,t.getD 55 0,t.getD 56 0,t.getD 57 0,t.getD 58 0,t.getD 59 0,t.getD 60 0,t.getD 61 0,t.getD 62 0,t.getD 63 0,t.getD 64 0,t.getD 65 0,t.getD 66 0,t.getD 67 0,t.getD 68 0,t.getD 69 0,t.getD 70 0,t.getD 71 0,t.getD 72 0,t.getD 73 0,t.getD 74 0,t.getD 75 0,t.getD 76 0,t.getD 77 0,t.getD 78 0,t.getD 79 0,t.getD 80 0,t.getD 81 0,t.getD 82 0,t.getD 83 0,t.getD 84 0,t.getD 85 0,t.getD 86 0,t.getD 87 0,t.getD 88 0,t.getD 89 0,t.getD 90 0,t.getD 91 0,t.getD 92 0,t.getD 93 0,t.getD 94 0,t.getD 95 0]:=by
 apply bN
 ·rw[ht];rfl
 ·intro i h1 h2
  have e:∀j (hj:j<96),[t.getD 0 0,t.getD 1 0,t.getD 2 0,t.getD 3 0,t.getD 4 0,t.getD 5 0,t.getD 6 0,t.getD 7 0,t.getD 8 0,t.getD 9 0,t.getD 10 0,t.getD 11 0,t.getD 12 0,t.getD 13 0,t.getD 14 0,t.getD 15 0,t.getD 16 0,t.getD 17 0,t.getD 18 0,t.getD 19 0,t.getD 20 0,t.getD 21 0,t.getD 22 0,t.getD 23 0,t.getD 24 0,t.getD 25 0,t.getD 26 0,t.getD 27 0,t.getD 28 0,t.getD 29 0,t.getD 30 0,t.getD 31 0,t.getD 32 0,t.getD 33 0,t.getD 34 0,t.getD 35 0,t.getD 36 0,t.getD 37 0,t.getD 38 0,t.getD 39 0,t.getD 40 0,t.getD 41 0,t.getD 42 0,t.getD 43 0,t.getD 44 0,t.getD 45 0,t.getD 46 0,t.getD 47 0,t.getD 48 0,t.getD 49 0,t.getD 50 0,t.getD 51 0,t.getD 52 0,t.getD 53 0,t.getD 54 0,t.getD 55 0,t.getD 56 0,t.getD 57 0,t.getD 58 0,t.getD 59 0,t.getD 60 0,t.getD 61 0,t.getD 62 0,t.getD 63 0,t.getD 64 0,t.getD 65 0,t.getD 66 0,t.getD 67 0,t.getD 68 0,t.getD 69 0,t.getD 70 0,t.getD 71 0,t.getD 72 0,t.getD 73 0,t.getD 74 0,t.getD 75 0,t.getD 76 0,t.getD 77 0,t.getD 78 0,t.getD 79 0,t.getD 80 0,t.getD 81 0,t.getD 82 0,t.getD 83 0,t.getD 84 0,t.getD 85 0,t.getD 86 0,t.getD 87 0,t.getD 88 0,t.getD 89 0,t.getD 90 0,t.getD 91 0,t.getD 92 0,t.getD 93 0,t.getD 94 0,t.getD 95 0][j]'hj=t.getD j 0:=by
   intro j hj
   have:[t.getD 0 0,t.getD 1 0,t.getD 2 0,t.getD 3 0,t.getD 4 0,t.getD 5 0,t.getD 6 0,t.getD 7 0,t.getD 8 0,t.getD 9 0,t.getD 10 0,t.getD 11 0,t.getD 12 0,t.getD 13 0,t.getD 14 0,t.getD 15 0,t.getD 16 0,t.getD 17 0,t.getD 18 0,t.getD 19 0,t.getD 20 0,t.getD 21 0,t.getD 22 0,t.getD 23 0,t.getD 24 0,t.getD 25 0,t.getD 26 0,t.getD 27 0,t.getD 28 0,t.getD 29 0,t.getD 30 0,t.getD 31 0,t.getD 32 0,t.getD 33 0,t.getD 34 0,t.getD 35 0,t.getD 36 0,t.getD 37 0,t.getD 38 0,t.getD 39 0,t.getD 40 0,t.getD 41 0,t.getD 42 0,t.getD 43 0,t.getD 44 0,t.getD 45 0,t.getD 46 0,t.getD 47 0,t.getD 48 0,t.getD 49 0,t.getD 50 0,t.getD 51 0,t.getD 52 0,t.getD 53 0,t.getD 54 0,t.getD 55 0,t.getD 56 0,t.getD 57 0,t.getD 58 0,t.getD 59 0,t.getD 60 0,t.getD 61 0,t.getD 62 0,t.getD 63 0,t.getD 64 0,t.getD 65 0,t.getD 66 0,t.getD 67 0,t.getD 68 0,t.getD 69 0,t.getD 70 0,t.getD 71 0,t.getD 72 0,t.getD 73 0,t.getD 74 0,t.getD 75 0,t.getD 76 0,t.getD 77 0,t.getD 78 0,t.getD 79 0,t.getD 80 0,t.getD 81 0,t.getD 82 0,t.getD 83 0,t.getD 84 0,t.getD 85 0,t.getD 86 0,t.getD 87 0,t.getD 88 0,t.getD 89 0,t.getD 90 0,t.getD 91 0,t.getD 92 0,t.getD 93 0,t.getD 94 0,t.getD 95 0]=(cY 96).map (λk=>t.getD k 0):=rfl
   simp only[this,List.getElem_map,List.getElem_range]
  rw[e i (by omega),cZ,List.getElem?_eq_getElem h1]
  rfl
theorem qar(t:List Int)(ht:t.length=96):(Qef (Q25 8 4 (Qk0++t)).1 [] 87).2.2.2=0:=by
 rw[list96 t ht]
 exact run87 _ _ _ _ _ _ _ _ _ _ _ _ _ _ _ _ _ _ _ _ _ _ _ _ _ _ _ _ _ _ _ _ _ _ _ _ _ _ _ _ _ _ _ _ _ _ _ _ _ _ _ _ _ _ _ _ _ _ _ _ _ _ _ _ _ _ _ _ _ _ _ _ _ _ _ _ _ _ _ _ _ _ _ _ _ _ _ _ _ _ _ _ _ _ _ _
theorem xZ:Qk0.length=160:=by
 have h:boot.length<=160:=ye.1
 unfold Qk0
 rw[lA,cQ];omega
def out(f:Int)(m m':List Int):Prop:=∀j:Nat,¬(f*32<=j/\(j:Int)<f*32+32)->m'.getD j 0=m.getD j 0
theorem Qpg(f:Int)(m:List Int):out f m m:=λ_ _=>rfl
theorem getDset(l:List Int)(i j:Nat)(v:Int)(h:i≠j):(l.set i v).getD j 0=l.getD j 0:=by
 simp only[cZ,List.getElem?_set_ne h]
theorem Q1z{P:Nat}{m:List Int}(h:Q0q P m):Q1 m=P:=by
 obtain⟨h1,h2,h3,_⟩:=h
 simp only[Q1,Q8z,Tree.m]
 have e:(m.length:Int)=32*P:=by omega
 rw[e]
 have e1:(dA (32*(P:Int)) 32 !=0)=false:=by simp[Int.mul_tmod_right]
 have e2:decide ((32*(P:Int))>1024)=false:=dN (by omega)
 rw[e1,e2]
 simp only[cond_false]
 rw[Int.mul_tdiv_cancel_left _ (by decide),wrap_i64];omega
theorem qR{P:Nat}{m:List Int}(h:Q0q P m)(f:Int):Q5o m f=true->0<=f/\f<P:=by
 have hp:=Q1z h
 simp only[Q5o,Q8v,Tree.m,letv,hp]
 cases h1:decide (f>=0)
 ·intro h;cases h
 ·intro h;exact⟨oY h1,oY h⟩
theorem Qsw{P:Nat}{m:List Int}(h:Q0q P m)(f:Int)(s:List UInt8):(Q3i m f s).w (λr=>Q0q P r.1/\out f m r.1/\(r.2=false->r.1=m)):=by
 have hcl:Q03 m=m:=rfl
 have h2:=h.p2
 unfold Q3i
 refine w_an (Q9n h) (w_lv λx0 hx0=>w_lv λx1 hx1=>?_)
 rw[hcl]at hx0;subst hx0
 refine w_br (λ_=>⟨h,Qpg _ _,λ_=>rfl⟩) λhb=>w_br (λ_=>⟨h,Qpg _ _,λ_=>rfl⟩) λhs=>?_
 have hb:x1=true:=by simpa using hb
 obtain⟨f0,f1⟩:=qR h f (hx1.symm.trans hb)
 have hs:(s.length:Int)=128:=by simpa using hs
 refine w_lp (inv:=λz:Int×List Int=>0<=z.1/\z.1<=32/\Q0q P z.2/\out f x0 z.2) (μ:=Qbc x0 f s) ⟨show(0:Int)<=0 by decide,show(0:Int)<=32 by decide,h,Qpg _ _⟩ (cL _) λz ⟨z1,z2,z3,z4⟩=>?_
 refine w_br (λhb=>?_) (λ_=>⟨z3,z4,λh=>by cases h⟩)
 have hb:=oY hb
 have e1:i64.wrap (4*z.1)=4*z.1:=by rw[wrap_i64];omega
 have e2:i64.wrap (i64.wrap (4*z.1)+4)=4*z.1+4:=by rw[wrap_i64,wrap_i64];omega
 have e3:i64.wrap (i64.wrap (f*32)+z.1)=f*32+z.1:=by rw[wrap_i64,wrap_i64];omega
 have hl:=z3.len
 have hlen:(cW (dB (i64.wrap (i64.wrap (4*z.1)+4))-dB (i64.wrap (4*z.1))) (cX (dB (i64.wrap (4*z.1))) s)).length=4:=by
  rw[e2,e1,bD,bF];omega
 refine w_cn (dY (by rw[e2,e1];omega)) ?_
 refine w_cn (dY (by rw[hlen];decide)) (w_cn (dY (by rw[hlen];decide)) (w_cn (dY (by rw[hlen];decide)) (w_cn (dY (by rw[hlen];decide)) (w_cn (by rw[e3];simp[bJ];omega) (w_nx ?_)))))
 show(_/\_/\Q0q P (dC _ _ _)/\out f x0 (dC _ _ _))/\(_:Nat)<_
 have ew:i64.wrap (z.1+1)=z.1+1:=by rw[wrap_i64];omega
 rw[e3]
 refine⟨⟨by rw[ew];omega,by rw[ew];omega,⟨by rw[dD];exact hl,z3.p1,z3.p2,Z4k z3.u (U_or _ _) _⟩,λj hj=>?_⟩,by show(32-i64.wrap (z.1+1)).toNat<(32-z.1).toNat;rw[ew];omega⟩
 rw[getDset _ _ _ _ (by omega)]
 exact z4 j hj
theorem zar(w:List Int)(h:w.length<=32):(Q5k w).w (λr=>r.length=4*w.length):=by
 have e0:i64.wrap (4*(w.length:Int))=4*w.length:=by rw[wrap_i64];omega
 unfold Q5k
 refine w_cn (by rw[e0];simp[bJ,D.plain];omega) ?_
 refine w_lp (inv:=λz:Int×List Int=>0<=z.1/\z.1<=w.length/\(z.2.length:Int)=4*z.1) (μ:=Q7o w) ⟨by decide,by show(0:Int)<=w.length;omega,rfl⟩ (cL _) λz ⟨z1,z2,z3⟩=>?_
 refine w_br (λhb=>?_) (λhb=>?_)
 ·have hb:=oY hb
  have ew:i64.wrap (z.1+1)=z.1+1:=by rw[wrap_i64];omega
  refine w_cn (by simp[bJ];omega) (w_cn (dY (by omega)) (w_nx ?_))
  show(_/\_/\_)/\(_:Nat)<_
  refine⟨⟨by rw[ew];omega,by rw[ew];omega,by rw[ew,lA];simp only[dE,dF];omega⟩,by show(w.length-i64.wrap (z.1+1)).toNat<(w.length-z.1).toNat;rw[ew];omega⟩
 ·have hb:=oN hb
  show(bytesOf z.2).length=_
  rw[Qj2];omega
theorem Qwl{P:Nat}{m:List Int}(h:Q0q P m)(f:Int):(Q5l m f).w (λr=>0<=f->f<P->r.1.length=128):=by
 have hl:=h.len
 have h2:=h.p2
 unfold Q5l
 refine w_lv λx0 hx0=>w_br (λhb=>λf0 f1=>?_) (λhb=>?_)
 ·have hp:=Q1z h
  have hb:x0=false:=by simpa using hb
  rw[hb]at hx0
  simp only[Q5o,Q8v,Tree.m,letv,hp]at hx0
  rw[dY f0]at hx0
  exact absurd f1 (oN hx0.symm)
 ·have hb:x0=true:=by simpa using hb
  obtain⟨f0,f1⟩:=qR h f (hx0.symm.trans hb)
  have e1:i64.wrap (f*32)=f*32:=by rw[wrap_i64];omega
  have e2:i64.wrap (i64.wrap (f*32)+32)=f*32+32:=by rw[wrap_i64,wrap_i64];omega
  have hlen:(cW (dB (i64.wrap (i64.wrap (f*32)+32))-dB (i64.wrap (f*32))) (cX (dB (i64.wrap (f*32))) m)).length=32:=by
   rw[e2,e1,bD,bF];omega
  refine w_cn (by rw[e2,e1];simp[bJ];omega) ?_
  refine w_an (by show dG _<=1000000000000;rw[hlen];decide) (w_lv λx1 h1=>?_)
  have h1:x1.length=4*(cW (dB (i64.wrap (i64.wrap (f*32)+32))-dB (i64.wrap (f*32))) (cX (dB (i64.wrap (f*32))) m)).length:=by rw[h1];exact(Tree.pp (zar _ (dH hlen))).2
  intro _ _
  show x1.length=128
  rw[h1,hlen]
theorem Zkh{f:Int}(hf:U f){P:Nat}(hP:P<=32)(h:decide (u64.wrap f<u64.wrap (P:Int))=true):0<=f/\f<P:=by
 have h:=oY h
 obtain⟨h1,h2⟩:=hf
 rw[wrap_u64,wrap_u64,dI h1 (by omega),dI (by omega) (by omega)]at h
 exact⟨h1,h⟩
theorem Zmq{P:Nat}{m:List Int}(h:Q0q P m){d:Q0d}(hd:Q4t d)(e:Q0f):(Q66 d m e).w (λr=>Q4t r.1/\Q0q P r.2.1/\out d.B1 m r.2.1/\(r.2.2=false->r.2.1=m)/\(∀p,Q1m d p=true->Q1m r.1 p=true)):=by
 have hcl:Q03 m=m:=rfl
 have keep:∀b:Bool,Q4t d/\Q0q P m/\out d.B1 m m/\(b=false->m=m)/\(∀p,Q1m d p=true->Q1m d p=true):=λb=>⟨hd,h,Qpg _ _,λ_=>rfl,λ_ h=>h⟩
 have blk:∀{p:Int},Q1m d p=true->decide (d.Blocks>64)=false:=fun{p} hm=>by
  cases hb:decide (d.Blocks>64)
  ·rfl
  ·have:Q1m d p=false:=by simp only[Q1m,Q6k,Tree.m];rw[hb];rfl
   rw[this]at hm;cases hm
 have m2:∀p,Q1m d p=true->Q1m {Blocks:=d.Blocks,B8:=d.B8,Frame:=d.Frame,B9:=2,D5:=0,B5:=0,B1:=0,C1:=[]} p=true:=λp hm=>by
  simp only[Q1m,Q6k,Tree.m];rw[blk hm];rfl
 have m3:∀p,Q1m d p=true->Q1m {Blocks:=d.Blocks,B8:=d.B8,Frame:=d.Frame,B9:=3,D5:=0,B5:=0,B1:=0,C1:=[]} p=true:=λp hm=>by
  simp only[Q1m,Q6k,Tree.m];rw[blk hm];rfl
 unfold Q66
 refine w_br (λ_=>w_an (Q9n h) (w_lv λx hx=>by rw[hcl]at hx;subst hx;exact keep _)) λ_=>w_br (λ_=>w_an (Q9n h) (w_lv λx hx=>by rw[hcl]at hx;subst hx;exact keep _)) λ_=>w_br (λ_=>w_an (Q9n h) (w_lv λx hx=>by rw[hcl]at hx;subst hx;exact keep _)) λ_=>w_an (Q9n h) (w_lv λx3 hx3=>?_)
 rw[hcl]at hx3;subst hx3
 have fin:∀{m':List Int},Q0q P m'->out d.B1 x3 m'->(Tree.br (e.N==1) (.lf (({Blocks:=d.Blocks,B8:=d.B8,Frame:=d.Frame,B9:=2,D5:=0,B5:=0,B1:=0,C1:=[]}:Q0d),m',true)) (.lf (({Blocks:=d.Blocks,B8:=d.B8,Frame:=d.Frame,B9:=3,D5:=0,B5:=0,B1:=0,C1:=[]}:Q0d),m',true))).w (λr=>Q4t r.1/\Q0q P r.2.1/\out d.B1 x3 r.2.1/\(r.2.2=false->r.2.1=x3)/\(∀p,Q1m d p=true->Q1m r.1 p=true)):=λhm ho=>
  w_br (λ_=>⟨⟨hd.block,hd.frame,U_0,U_0⟩,hm,ho,(λh=>by cases h),m2⟩) (λ_=>⟨⟨hd.block,hd.frame,U_0,U_0⟩,hm,ho,(λh=>by cases h),m3⟩)
 have nod:(Tree.br (!decide (e.C5=[])) (.lf (d,x3,false)) (Tree.br (e.N==1) (.lf (({Blocks:=d.Blocks,B8:=d.B8,Frame:=d.Frame,B9:=2,D5:=0,B5:=0,B1:=0,C1:=[]}:Q0d),x3,true)) (.lf (({Blocks:=d.Blocks,B8:=d.B8,Frame:=d.Frame,B9:=3,D5:=0,B5:=0,B1:=0,C1:=[]}:Q0d),x3,true)))).w (λr=>Q4t r.1/\Q0q P r.2.1/\out d.B1 x3 r.2.1/\(r.2.2=false->r.2.1=x3)/\(∀p,Q1m d p=true->Q1m r.1 p=true)):=
  w_br (λ_=>keep _) (λ_=>fin h (Qpg _ _))
 refine w_br (λ_=>w_br (λ_=>w_lv λx4 hx4=>w_br (λ_=>keep _) λhb=>?_) (λ_=>nod)) (λ_=>nod)
 have hp:=Q1z h
 have hb:x4=true:=by simpa using hb
 rw[hb]at hx4
 simp only[Q3w,Q8b,Tree.m,letv,hp]at hx4
 obtain⟨f0,f1⟩:=Zkh hd.opFrame h.p2 hx4.symm
 have ef:i64.wrap d.B1=d.B1:=by have:=h.p2;rw[wrap_i64];omega
 refine Q0e (Qsw h _ _) λx5 ⟨h5,o5,k5⟩=>?_
 rw[ef]at o5
 exact w_br (λhf=>⟨hd,h5,o5,λ_=>k5 (by simpa using hf),λ_ h=>h⟩) (λ_=>fin h5 o5)
theorem qf{P:Nat}{m:List Int}(h:Q0q P m){n:Q0u}(hn:Qas n)(frame:List UInt8):(Qb3 n m frame).w (λr=>Qas r.1/\Q0q P r.2.1/\out n.B6 m r.2.1/\(r.2.2=false->r.2.1=m)/\(∀p,Q6i n p=true->Q6i r.1 p=true)):=by
 have hcl:Q03 m=m:=rfl
 have keep:Qas n/\Q0q P m/\out n.B6 m m/\(false=false->m=m)/\(∀p,Q6i n p=true->Q6i n p=true):=⟨hn,h,Qpg _ _,λ_=>rfl,λ_ h=>h⟩
 unfold Qb3
 refine w_br (λ_=>w_an (Q9n h) (w_lv λx hx=>by rw[hcl]at hx;subst hx;exact keep)) λhpo=>w_br (λ_=>w_an (Q9n h) (w_lv λx hx=>by rw[hcl]at hx;subst hx;exact keep)) λl1=>w_br (λ_=>w_an (Q9n h) (w_lv λx hx=>by rw[hcl]at hx;subst hx;exact keep)) λl2=>w_lv λx3 hx3=>w_br (λ_=>w_an (Q9n h) (w_lv λx hx=>by rw[hcl]at hx;subst hx;exact keep)) λhb=>?_
 have l1:=oN l1
 have l2:=oN l2
 have hp:=Q1z h
 have hb:x3=true:=by simpa using hb
 rw[hb]at hx3
 simp only[Q4m,Qa,Tree.m,letv,hp]at hx3
 obtain⟨f0,f1⟩:=Zkh hn.buffer h.p2 hx3.symm
 have ef:i64.wrap n.B6=n.B6:=by have:=h.p2;rw[wrap_i64];omega
 refine Q0e (Qwl h _) λx5 h5=>?_
 rw[ef]at h5
 have h5:=h5 f0 f1
 have hmax:(maxLen:Nat)=9223372036854775807:=rfl
 refine w_cn (dY (by omega)) (w_cn (dY (by simp only[bD,bF,hmax];omega)) (Q0e (Qsw h _ _) λx6 ⟨h6,o6,_⟩=>?_))
 rw[ef]at o6
 have hg:u32.wrap (frame.length:Int)=frame.length:=by rw[wrap_u32];omega
 refine⟨⟨hn.frame,hn.len,U_0,Q0s _⟩,h6,o6,(λh=>by cases h),λp _=>?_⟩
 simp only[Q6i,Qla,Tree.m]
 rw[hg,dY (show(frame.length:Int)>=1 by omega),dY (show(frame.length:Int)<=128 by omega)]
 rfl
theorem zZ(c:Q0c)(b:Int):(Qbw c b).w (λr=>Q2v c=true->Q2v r.1=true):=by
 have hmax:(maxLen:Nat)=9223372036854775807:=rfl
 unfold Qbw
 refine w_br (λ_=>λh=>h) (λhb=>?_)
 have hb:=oN hb
 refine w_cn (dY (by rw[hmax];omega)) ?_
 intro _
 show decide (((c.D0++[_]).length:Int)<=16)=true
 rw[lA,cU]
 exact dY (by omega)
theorem xD(t:Q0n)(h:Q56 t=true):Q56 (Qal t).1=true:=by
 simp only[Qal,Qog,Tree.m]
 cases ha:t.D4
 ·exact h
 ·rfl
theorem xf(m:Q00):Q16 m=(Q2v m.A3&&(Q56 m.B2&&(Q1m m.B0 (Q1 m.Mem)&&(Q6i m.C2 (Q1 m.Mem)&&Q37 m.A1 (Q1 m.Mem))))):=by
 simp only[Q16,Q26,Tree.m,letv]
 cases Q2v m.A3<;>cases Q56 m.B2<;>cases Q1m m.B0 (Q1 m.Mem)<;>cases Q6i m.C2 (Q1 m.Mem)<;>rfl
theorem xar{b c:Q06}(h:c.C0=b.C0)(p:Int):Q37 c p=Q37 b p:=by
 simp only[Q37,Q71,Tree.m,h]
theorem cnd{a x y:Bool}(h:x=true->y=true):(bif a then false else x)=true->(bif a then false else y)=true:=by cases a<;>simp_all
def chain(b1 b2 b3 b4 b5 b6 b7 w h dev:Bool):Bool:=bif b1 then false else bif b2 then false else bif b3 then false else bif b4 then false else bif b5 then false else bif b6 then false else bif b7 then false else bif w then(bif h then false else dev)else dev
theorem Zmz{b1 b2 b3 b4 b5 b6 b7 w h d d':Bool}(hd:d=true->d'=true):chain b1 b2 b3 b4 b5 b6 b7 w h d=true->chain b1 b2 b3 b4 b5 b6 b7 w h d'=true:=by
 refine cnd (cnd (cnd (cnd (cnd (cnd (cnd ?_))))))
 cases w
 ·exact hd
 ·cases h
  ·exact hd
  ·exactλh=>h
def mayC(p:Int)(c:Q02)(ct:Int)(w h dev:Bool):Bool:=chain (p==0) (c.X.a0 !=0) (decide (c.B3.a0>31)) (decide (c.B3.a7>31)) (decide (c.B3.a6>255)) (dA c.B3.a1 4 !=0) (decide (ct>1152921504606846976)) w h dev
theorem zf{p:Int}{c:Q02}{ct:Int}{w h d d':Bool}(hd:d=true->d'=true)(g:mayC p c ct w h d=true):mayC p c ct w h d'=true:=Zmz hd g
theorem xR(m:Q00):Q10 m=mayC (Q1 m.Mem) m.A4 m.A2 m.A6 m.A9 (Q16 m):=rfl
theorem Qsu{m n:Q00}(hp:Q1 n.Mem=Q1 m.Mem)(hcpu:n.A4=m.A4)(hct:n.A2=m.A2)(hw:n.A6=m.A6)(hh:n.A9=m.A9)
 (hc:Q2v m.A3=true->Q2v n.A3=true) (ht:Q56 m.B2=true->Q56 n.B2=true) (hd:∀p,Q1m m.B0 p=true->Q1m n.B0 p=true) (hn:∀p,Q6i m.C2 p=true->Q6i n.C2 p=true) (hb:n.A1.C0=m.A1.C0) (h:Q10 m=true):Q10 n=true:=by
 have dev:Q16 m=true->Q16 n=true:=λh=>by
  rw[xf]at h⊢
  simp only[aE]at h⊢
  rw[hp,xar hb]
  exact⟨hc h.1,ht h.2.1,hd _ h.2.2.1,hn _ h.2.2.2.1,h.2.2.2.2⟩
 rw[xR]at h⊢
 rw[hp,hcpu,hct,hw,hh]
 exact zf dev h
section
variable {P:Nat} {m:List Int} (h:Q0q P m)
include h
theorem dpage{f:Int}(hf:U f){b:Bool}(hx:b=Q3w m f)(hb:b=true):0<=f/\f<P:=by
 have hp:=Q1z h
 rw[hb]at hx
 simp only[Q3w,Q8b,Tree.m,letv,hp]at hx
 exact Zkh hf h.p2 hx.symm
theorem npage{f:Int}(hf:U f){b:Bool}(hx:b=Q4m m f)(hb:b=true):0<=f/\f<P:=by
 have hp:=Q1z h
 rw[hb]at hx
 simp only[Q4m,Qa,Tree.m,letv,hp]at hx
 exact Zkh hf h.p2 hx.symm
def keepD(P:Nat)(d d':Q0d):Prop:=Q4t d'/\(Q1m d P=true->Q1m d' P=true)
theorem yf{d:Q0d}(hd:Q4t d){cmd:Int}(hc:cmd=1\/cmd=2)(at0:Int):(Q9x d m cmd at0).w (λr=>keepD P d r.1/\r.2.length<=1):=by
 have h2:=h.p2
 have st3:(d.B9 !=0)=false->keepD P d {Blocks:=d.Blocks,B8:=d.B8,Frame:=d.Frame,B9:=3,D5:=d.D5,B5:=d.B5,B1:=d.B1,C1:=d.C1}:=λhs=>by
  have hs:d.B9=0:=by simpa using hs
  refine⟨⟨hd.block,hd.frame,hd.opBlock,hd.opFrame⟩,λhm=>?_⟩
  simp only[Q1m,Q6k,Tree.m,hs]at hm⊢
  exact hm
 have blk:Q1m d P=true->decide (d.Blocks>64)=false:=λhm=>by
  cases hb:decide (d.Blocks>64)
  ·rfl
  ·have:Q1m d P=false:=by simp only[Q1m,Q6k,Tree.m];rw[hb];rfl
   rw[this]at hm;cases hm
 unfold Q9x
 refine w_br (λ_=>⟨⟨hd,λh=>h⟩,aT _⟩) λhs=>w_br (λ_=>⟨st3 hs,aT _⟩) λhb=>w_lv λx0 hx=>w_br (λ_=>⟨st3 hs,aT _⟩) λhp=>?_
 have hb:=oN hb
 obtain⟨f0,f1⟩:=dpage h hd.frame hx (by simpa using hp)
 have ef:i64.wrap d.Frame=d.Frame:=by rw[wrap_i64];omega
 have e1:decide (d.B8<d.Blocks)=true:=dY (by omega)
 have e2:decide (i64.wrap d.Frame<(P:Int))=true:=by rw[ef];exact dY f1
 refine w_br (λhcm=>Q0e (Qwl h _) λx1 h1=>?_) (λhcm=>?_)
 ·rw[ef]at h1
  have h1:=h1 f0 f1
  have hcm:=eq_of_beq hcm
  subst hcm
  refine w_lv λx2 _=>⟨⟨⟨hd.block,hd.frame,hd.block,hd.frame⟩,λhm=>?_⟩,aO _⟩
  simp only[Q1m,Q6k,Q9m,Q80,Tree.m,letv,blk hm,e1,e2,h1]
  rfl
 ·have hc:cmd=1:=by
   rcases hc with h|h
   ·exact h
   ·rw[h]at hcm;exact absurd hcm (by decide)
  subst hc
  refine w_lv λx2 _=>⟨⟨⟨hd.block,hd.frame,hd.block,hd.frame⟩,λhm=>?_⟩,aO _⟩
  simp only[Q1m,Q6k,Q9m,Q80,Tree.m,letv,blk hm,e1,e2]
  rfl
theorem yZ{d:Q0d}(hd:Q4t d)(port:Int){v:Int}(hv:U v)(at0:Int):(Qea d m port v at0).w (λr=>keepD P d r.1/\r.2.length<=1):=by
 have keep:keepD P d d:=⟨hd,λh=>h⟩
 have e1:∀{k:Int},(v==k)=true->i64.wrap v=k:=λhk=>by
  have:=eq_of_beq hk
  obtain⟨a,b⟩:=hv
  rw[wrap_i64];omega
 unfold Qea
 refine w_br (λ_=>⟨⟨⟨hv,hd.frame,hd.opBlock,hd.opFrame⟩,λh=>h⟩,aT _⟩) λ_=>w_br (λ_=>⟨⟨⟨hd.block,hv,hd.opBlock,hd.opFrame⟩,λh=>h⟩,aT _⟩) λ_=>w_br (λ_=>w_br (λhk=>Q0e (yf h hd (.inl (e1 hk)) _) λx hx=>hx) λ_=>w_br (λhk=>Q0e (yf h hd (.inr (e1 hk)) _) λx hx=>hx) λ_=>w_br (λ_=>w_lv λx hx=>w_br (λhb=>?_) (λ_=>⟨keep,aT _⟩)) (λ_=>⟨keep,aT _⟩)) (λ_=>⟨keep,aT _⟩)
 refine⟨⟨⟨hd.block,hd.frame,hd.opBlock,hd.opFrame⟩,λhm=>?_⟩,aT _⟩
 rw[hb]at hx
 simp only[Q9r,Qka,Tree.m]at hx
 cases h2:d.B9==2
 ·rw[h2]at hx
  have h3:d.B9=3:=eq_of_beq hx.symm
  simp only[Q1m,Q6k,Tree.m,h3]at hm⊢
  exact hm
 ·have h3:d.B9=2:=eq_of_beq h2
  simp only[Q1m,Q6k,Tree.m,h3]at hm⊢
  exact hm
def keepN(P:Nat)(n n':Q0u):Prop:=Qas n'/\(Q6i n P=true->Q6i n' P=true)
theorem qas{n:Q0u}(hn:Qas n)(at0:Int):(Qeq n m at0).w (λr=>r.length<=1):=by
 have h2:=h.p2
 unfold Qeq
 refine w_br (λ_=>aT _) λl1=>w_br (λ_=>aT _) λl2=>w_lv λx0 hx=>w_br (λ_=>aT _) λhp=>Q0e (Qwl h _) λx1 h1=>?_
 have l1:=oN l1
 have l2:=oN l2
 obtain⟨f0,f1⟩:=npage h hn.frame hx (by simpa using hp)
 have ef:i64.wrap n.Frame=n.Frame:=by rw[wrap_i64];omega
 rw[ef]at h1
 have h1:=h1 f0 f1
 exact w_cn (dY (by omega)) (aO _)
theorem zas{n:Q0u}(hn:Qas n)(port:Int){v:Int}(hv:U v)(at0:Int):(Qhg n m port v at0).w (λr=>keepN P n r.1/\r.2.length<=1):=by
 have h2:=h.p2
 have keep:keepN P n n:=⟨hn,λh=>h⟩
 unfold Qhg
 refine w_br (λ_=>⟨⟨⟨hv,hn.len,hn.buffer,hn.got⟩,λh=>h⟩,aT _⟩) λ_=>w_br (λ_=>⟨⟨⟨hn.frame,hv,hn.buffer,hn.got⟩,λh=>h⟩,aT _⟩) λ_=>w_br (λ_=>w_br (λ_=>Q0e (qas h hn _) λx hx=>⟨keep,hx⟩) λ_=>w_br (λ_=>w_lv λx hx=>w_br (λhb=>w_br (λnp=>w_br (λnr=>?_) (λ_=>⟨keep,aT _⟩)) (λ_=>⟨keep,aT _⟩)) (λ_=>⟨keep,aT _⟩)) λ_=>w_br (λ_=>?_) (λ_=>⟨keep,aT _⟩)) (λ_=>⟨keep,aT _⟩)
 ·obtain⟨f0,f1⟩:=npage h hn.frame hx hb
  have np:n.C4=false:=by simpa using np
  have nr:n.B7=false:=by simpa using nr
  have e2:decide (i64.wrap n.Frame>=(P:Int))=false:=dN (by rw[wrap_i64];omega)
  refine⟨⟨⟨hn.frame,hn.len,hn.frame,hn.got⟩,λhm=>?_⟩,aT _⟩
  simp only[Q6i,Qla,Tree.m,np,nr,e2]at hm⊢
  cases hb:(n.B6 !=0)
  ·rw[hb]at hm;exact hm
  ·rw[hb]at hm;cases hm
 ·refine⟨⟨⟨hn.frame,hn.len,hn.buffer,U_0⟩,λhm=>?_⟩,aT _⟩
  simp only[Q6i,Qla,Tree.m]at hm⊢
  revert hm
  cases n.C4<;>cases n.B7<;>cases decide (i64.wrap n.B6>=(P:Int))<;>cases(n.B6 !=0)<;>simp
end
theorem vZ(t:Q0n)(v:Int):Q56 (Qhj t v)=true:=by
 simp only[Qhj,Qml,Q56,Qlm,Tree.m]
 cases h:(v !=0)
 ·have:v=0:=by simpa using h
  subst this;rfl
 ·rfl
theorem Qqs{a:Int}(k:Nat)(hk:k<=32):ishr .u32 a k=a/2^k:=by
 unfold ishr
 have e:min (k:Int).toNat u32.bits=k:=by show min (k:Int).toNat 32=k;omega
 have hp:(0:Int)<2^k:=dJ (by decide)
 rw[e,dK _ (dL hp)]
def Zle(x:Int)(n:Nat):Prop:=x<2^n/\(n=0\/(2:Int)^(n-1)<=x)
theorem Zab{x q:Int}{n k:Nat}(hq:q=x/2^k)(h0:0<q)(h:Zle q n):Zle x (n+k):=by
 have hp:(0:Int)<2^k:=dJ (by decide)
 obtain⟨h1,h2⟩:=h
 have hn:n≠0:=λe=>by subst e;simp at h1;omega
 refine⟨?_,.inr ?_⟩
 ·rw[dM]
  have:x<(x/2^k+1)*2^k:=Int.lt_ediv_add_one_mul_self x hp
  have h3:(x/2^k+1)*2^k<=2^n*2^k:=dO (by omega) (dL hp)
  omega
 ·have h2:=h2.resolve_left hn
  have e:n+k-1=(n-1)+k:=by omega
  rw[e,dM]
  have h3:(2:Int)^(n-1)*2^k<=q*2^k:=dO h2 (dL hp)
  have h4:q*2^k<=x:=by rw[hq];exact Int.ediv_mul_le x (Int.ne_of_gt hp)
  omega
theorem zD{x:Int}{n p:Nat}(h:Zle x n)(hx:x<2^p):n<=p:=by
 obtain⟨h1,h2⟩:=h
 rcases h2 with h2|h2
 ·omega
 ·rcases Nat.lt_or_ge p n with hlt|hge
  ·have:(2:Int)^p<=2^(n-1):=by
    have:=dP (show 0<2 by omega) (show p<=n-1 by omega)
    exact_mod_cast this
   omega
  ·exact hge
theorem Zgu{x:Int}{n p:Nat}(h:Zle x n)(hn:n<=p):x<2^p:=by
 have:(2:Int)^n<=2^p:=by
  have:=dP (show 0<2 by omega) hn
  exact_mod_cast this
 exact Int.lt_of_lt_of_le h.1 this
def lenChk(i:Nat):Bool:=match(Q1s (i:Int))with
 |.ofNat n=>decide ((i:Int)<2^n)&&(Nat.beq n 0||decide ((2:Int)^(n-1)<=i))&&decide (n<=8)
 |_=>false
theorem Qty{q:Int}(h0:0<=q)(h1:q<256):∃n:Nat,Q1s q=n/\Zle q n/\n<=8:=by
 have all:List.all (cY 256) lenChk=true:=by kernel_rfl
 have:=List.all_eq_true.1 all q.toNat (List.mem_range.2 (by omega))
 have hq:((q.toNat:Nat):Int)=q:=by omega
 unfold lenChk at this
 rw[hq]at this
 split at this
 ·rename_i n hn
  simp only[aE,aI,decide_eq_true_eq]at this
  refine⟨n,hn,⟨this.1.1,?_⟩,this.2⟩
  rcases this.1.2 with h|h
  ·exact .inl (bE h)
  ·exact .inr h
 ·cases this
theorem xas{x:Int}(h:U x)(hx:16777216<=x):Q1s x=24+Q1s (x/16777216):=by
 obtain⟨h0,h1⟩:=h
 have s16:ishr .u32 x 16=x/65536:=Qqs 16 (by omega)
 have s24:ishr .u32 (x/65536) 8=x/16777216:=by rw[show((8:Int))=((8:Nat):Int) from rfl,Qqs 8 (by omega)];omega
 have d1:decide (x>=65536)=true:=dY (by omega)
 have d2:decide (x/65536>=256)=true:=dY (by omega)
 have d3:decide (x/16777216>=65536)=false:=dN (by omega)
 have d4:decide (x/16777216>=256)=false:=dN (by omega)
 have u:u8.wrap (x/16777216)=x/16777216:=by rw[wrap_u8];omega
 simp only[Q1s,Q2i,Tree.m,s16,s24,d1,d2,d3,d4,u,cond_true,cond_false]
 generalize(aK _ (dB (x/16777216)) (0:UInt8))=b
 have hb:=dQ b
 rw[wrap_i64,wrap_i64,wrap_i64,wrap_i64]
 omega
theorem qat{x:Int}(h0:65536<=x)(h1:x<16777216):Q1s x=16+Q1s (x/65536):=by
 have s16:ishr .u32 x 16=x/65536:=Qqs 16 (by omega)
 have d1:decide (x>=65536)=true:=dY (by omega)
 have d2:decide (x/65536>=256)=false:=dN (by omega)
 have d3:decide (x/65536>=65536)=false:=dN (by omega)
 have u:u8.wrap (x/65536)=x/65536:=by rw[wrap_u8];omega
 simp only[Q1s,Q2i,Tree.m,s16,d1,d2,d3,u,cond_true,cond_false]
 generalize(aK _ (dB (x/65536)) (0:UInt8))=b
 have hb:=dQ b
 rw[wrap_i64,wrap_i64,wrap_i64]
 omega
theorem len_8{x:Int}(h0:256<=x)(h1:x<65536):Q1s x=8+Q1s (x/256):=by
 have s8:ishr .u32 x 8=x/256:=Qqs 8 (by omega)
 have d1:decide (x>=65536)=false:=dN (by omega)
 have d2:decide (x>=256)=true:=dY (by omega)
 have d3:decide (x/256>=65536)=false:=dN (by omega)
 have d4:decide (x/256>=256)=false:=dN (by omega)
 have u:u8.wrap (x/256)=x/256:=by rw[wrap_u8];omega
 simp only[Q1s,Q2i,Tree.m,s8,d1,d2,d3,d4,u,cond_true,cond_false]
 generalize(aK _ (dB (x/256)) (0:UInt8))=b
 have hb:=dQ b
 rw[wrap_i64,wrap_i64,wrap_i64,wrap_i64]
 omega
theorem Zms{x:Int}(h:U x):∃n:Nat,Q1s x=n/\Zle x n:=by
 obtain⟨h0,h1⟩:=h
 rcases dR x 256 with a|a
 ·obtain⟨n,e,l,_⟩:=Qty h0 a
  exact⟨n,e,l⟩
 ·rcases dR x 65536 with b|b
  ·obtain⟨n,e,l,_⟩:=Qty (q:=x/256) (by omega) (by omega)
   exact⟨n+8,by rw[len_8 a b,e];omega,Zab (k:=8) rfl (by omega) l⟩
  ·rcases dR x 16777216 with c|c
   ·obtain⟨n,e,l,_⟩:=Qty (q:=x/65536) (by omega) (by omega)
    exact⟨n+16,by rw[qat b c,e];omega,Zab (k:=16) rfl (by omega) l⟩
   ·obtain⟨n,e,l,_⟩:=Qty (q:=x/16777216) (by omega) (by omega)
    exact⟨n+24,by rw[xas ⟨h0,h1⟩ c,e];omega,Zab (k:=24) rfl (by omega) l⟩
theorem Z0x{b:Q06}(h:U b.C0){P:Nat}:Q37 b P=true↔b.C0<2^P:=by
 obtain⟨n,e,l⟩:=Zms h
 have hp:(if(0:Int)>(P:Int)then(0:Int)else P)=P:=by rw[if_neg (by omega)]
 simp only[Q37,Q71,Tree.m,letv,e,hp,decide_eq_true_eq]
 constructor
 ·intro h;exact Zgu l (by omega)
 ·intro h;have:=zD l h;omega
theorem Z8e{a:Int}(h:U a){P:Nat}(h1:a<2^P):(dS 32 a).toNat<2^P:=by
 obtain⟨a0,a1⟩:=h
 rw[dT,dI a0 (by omega)]
 have:((2^P:Nat):Int)=(2:Int)^P:=by exact_mod_cast rfl
 omega
theorem or_lt{a b:Int}(ha:U a)(hb:U b){P:Nat}(hP:P<=32)(h1:a<2^P)(h2:b<2^P):ior .u32 a b<2^P:=by
 have e:(dS 32 a|||dS 32 b).toNat<2^P:=by
  rw[dU]
  exact Nat.or_lt_two_pow (Z8e ha h1) (Z8e hb h2)
 have hc:((2^P:Nat):Int)=(2:Int)^P:=by exact_mod_cast rfl
 have l:=(dS 32 a|||dS 32 b).isLt
 show wrap .u32 ((dS 32 a|||dS 32 b).toNat:Int)<2^P
 rw[wrap_u32]
 omega
theorem y0{a b:Int}(ha:U a){P:Nat}(h1:a<2^P):Q7 .u32 a b<2^P:=by
 have e:(dS 32 a&&&~~~dS 32 b).toNat<2^P:=by
  rw[dV]
  exact Nat.lt_of_le_of_lt dW (Z8e ha h1)
 have hc:((2^P:Nat):Int)=(2:Int)^P:=by exact_mod_cast rfl
 have l:=(dS 32 a&&&~~~dS 32 b).isLt
 show wrap .u32 ((dS 32 a&&&~~~dS 32 b).toNat:Int)<2^P
 rw[wrap_u32]
 omega
theorem vf{v:Int}(h0:0<=v)(h1:v<32):ishl .u32 1 v=2^v.toNat:=by
 have e:min v.toNat u32.bits=v.toNat:=by show min v.toNat 32=v.toNat;omega
 obtain⟨n,rfl⟩:∃n:Nat,v=n:=⟨v.toNat,by omega⟩
 have hn:n<32:=by omega
 have hlt:(2:Nat)^n<4294967296:=by
  have:=dX (show 1<2 by omega) hn
  simpa using this
 have hc:((2^n:Nat):Int)=(2:Int)^n:=by exact_mod_cast rfl
 unfold ishl
 rw[e,wrap_u32,Int.one_mul,dZ,<-hc]
 clear hc e
 generalize(2:Nat)^n=z at*
 omega
def keepB(P:Nat)(b b':Q06):Prop:=okB b'/\(Q37 b P=true->Q37 b' P=true)
theorem Zl8{P:Nat}{m:List Int}(h:Q0q P m){b:Q06}(hb:okB b)(port:Int){v:Int}(hv:U v):(Q3h b m port v).w (λr=>keepB P b r.1/\Q0q P r.2):=by
 have hcl:Q03 m=m:=rfl
 have h2:=h.p2
 have hp:=Q1z h
 have keep:(Tree.an (Q08 m) (.lv (Q03 m) λx=>.lf (b,x))).w (λr=>keepB P b r.1/\Q0q P r.2):=w_an (Q9n h) (w_lv λx hx=>by rw[hcl]at hx;subst hx;exact⟨⟨hb,λh=>h⟩,h⟩)
 unfold Q3h
 refine w_br (λ_=>keep) λhlt=>w_cn (dY hv.1) (w_br (λ_=>w_lv λx1 hx=>w_br (λhpg=>w_br (λ_=>w_an ⟨by decide,by decide,by decide⟩ (w_lv λx2 _=>Q0e (Qsw h _ _) λx3 ⟨h3,_⟩=>?_)) (λ_=>keep)) (λ_=>keep)) (λ_=>w_br (λ_=>w_an (Q9n h) (w_lv λx hx=>?_)) (λ_=>keep)))
 ·have hlt:=oN hlt
  have hpg:=oY hpg
  rw[hx,hp]at hpg
  obtain⟨v0,v1⟩:=hv
  have ev:i64.wrap v=v:=by rw[wrap_i64];omega
  rw[ev]at hpg
  refine⟨⟨⟨hb.1,Q0s _⟩,λhm=>?_⟩,h3⟩
  rw[Z0x hb.2]at hm
  rw[Z0x (Q0s _)]
  have hs:ishl .u32 1 v<2^P:=by
   rw[vf v0 (by omega)]
   have:=dX (show 1<2 by omega) (show v.toNat<P by omega)
   exact_mod_cast this
  exact or_lt hb.2 (Q0s _) h2 hm hs
 ·rw[hcl]at hx;subst hx
  refine⟨⟨⟨hb.1,Q0s _⟩,λhm=>?_⟩,h⟩
  rw[Z0x hb.2]at hm
  rw[Z0x (Q0s _)]
  exact y0 hb.2 hm
structure kept(P:Nat)(m n:Q00):Prop where
 ok:okS P n
 dev:Q16 m=true->Q16 n=true
 cpu:n.A4=m.A4
 cnt:n.A2=m.A2
 wait:n.A6=m.A6
 halt:n.A9=m.A9
theorem Zfg{P:Nat}{m:Q00}(h:okS P m):kept P m m:=⟨h,λh=>h,rfl,rfl,rfl,rfl⟩
theorem Qpq{P:Nat}{m n:Q00}(hm:Q0q P m.Mem)(hn:Q0q P n.Mem)(hc:Q2v m.A3=true->Q2v n.A3=true)(ht:Q56 m.B2=true->Q56 n.B2=true)
 (hd:Q1m m.B0 P=true->Q1m n.B0 P=true) (hk:Q6i m.C2 P=true->Q6i n.C2 P=true) (hb:Q37 m.A1 P=true->Q37 n.A1 P=true) (h:Q16 m=true):Q16 n=true:=by
 rw[xf]at h⊢
 rw[Q1z hm]at h
 rw[Q1z hn]
 simp only[aE]at h⊢
 exact⟨hc h.1,ht h.2.1,hd h.2.2.1,hk h.2.2.2.1,hb h.2.2.2.2⟩
theorem Zhq{P:Nat}{m:Q00}(h:okS P m)(port:Int){v:Int}(hv:U v)(at0:Int):(Q3k m port v at0).w (λr=>kept P m r.1/\r.2.length<=1):=by
 have k:=Zfg h
 obtain⟨h1,h2,h3,h4,h5,h6⟩:=h
 have id:∀{p:Prop},p->p:=λh=>h
 have D:∀(x:Q0d×List Q0a),(keepD P m.B0 x.1/\x.2.length<=1)->kept P m {A4:=m.A4,Mem:=m.Mem,A3:=m.A3,B2:=m.B2,B0:=x.1,C2:=m.C2,A1:=m.A1,A2:=m.A2,A6:=m.A6,A9:=m.A9}/\x.2.length<=1:=λx hx=>
  ⟨⟨⟨h1,h2,hx.1.1,h4,h5,h6⟩,Qpq h2 h2 id id hx.1.2 id id,rfl,rfl,rfl,rfl⟩,hx.2⟩
 have N:∀(x:Q0u×List Q0a),(keepN P m.C2 x.1/\x.2.length<=1)->kept P m {A4:=m.A4,Mem:=m.Mem,A3:=m.A3,B2:=m.B2,B0:=m.B0,C2:=x.1,A1:=m.A1,A2:=m.A2,A6:=m.A6,A9:=m.A9}/\x.2.length<=1:=λx hx=>
  ⟨⟨⟨h1,h2,h3,hx.1.1,h5,h6⟩,Qpq h2 h2 id id id hx.1.2 id,rfl,rfl,rfl,rfl⟩,hx.2⟩
 have B:∀(x:Q06×List Int),(keepB P m.A1 x.1/\Q0q P x.2)->kept P m {A4:=m.A4,Mem:=x.2,A3:=m.A3,B2:=m.B2,B0:=m.B0,C2:=m.C2,A1:=x.1,A2:=m.A2,A6:=m.A6,A9:=m.A9}/\([]:List Q0a).length<=1:=λx hx=>
  ⟨⟨⟨h1,hx.2,h3,h4,hx.1.1.1,hx.1.1.2⟩,Qpq h2 hx.2 id id id id hx.1.2,rfl,rfl,rfl,rfl⟩,aT _⟩
 unfold Q3k
 repeat'(first
  |exact⟨k,aO _⟩
  |exact⟨k,aT _⟩
  |exact w_lv λx hx=>⟨⟨⟨h1,h2,h3,h4,h5,h6⟩,Qpq h2 h2 id (λ_=>by rw[hx];exact vZ _ _) id id id,rfl,rfl,rfl,rfl⟩,aT _⟩
  |exact Q0e (yZ h2 h3 _ hv _) λx hx=>D x hx
  |exact Q0e (zas h2 h4 _ hv _) λx hx=>N x hx
  |exact Q0e (Zl8 h2 ⟨h5,h6⟩ _ hv) λx hx=>B x hx
  |refine w_br (λ_=>?_) (λ_=>?_))
theorem Z71(c:Q0c)(port:Int):(Q9z c port).w (λr=>U r.2/\(Q2v c=true->Q2v r.1=true)):=by
 have u1:U 4294967295:=⟨by omega,by omega⟩
 unfold Q9z
 refine w_br (λ_=>w_br (λ_=>⟨u1,λh=>h⟩) (λhb=>w_cn ?_ (w_cn ?_ ⟨Q0s _,λhm=>?_⟩))) (λ_=>w_br (λ_=>⟨Q0s _,λh=>h⟩) (λ_=>⟨U_0,λh=>h⟩))
 ·have hb:=oN hb
  have:0<c.D0.length:=List.length_pos_iff.2 hb
  simp[bJ];omega
 ·have hb:=oN hb
  have:0<c.D0.length:=List.length_pos_iff.2 hb
  exact dY (by omega)
 ·have hm:decide ((c.D0.length:Int)<=16)=true:=hm
  have hm:=oY hm
  show decide (((cW _ (cX _ c.D0)).length:Int)<=16)=true
  refine dY ?_
  rw[bD,bF];omega
theorem Zn{P:Nat}{m:Q00}(h:okS P m)(port:Int){clock:Int}(hc:U clock):(Q40 m port clock).w (λr=>kept P m r.1/\U r.2):=by
 have k:=Zfg h
 obtain⟨h1,h2,h3,h4,h5,h6⟩:=h
 have id:∀{p:Prop},p->p:=λh=>h
 have ti:∀t,U (Z00 t):=λt=>by
  refine Tree.post (Qpt t) (W:=U) ?_
  unfold Qpt
  exact w_br (λ_=>⟨by omega,by omega⟩) (λ_=>U_0)
 have di:∀p,U (Qvt m.B0 p):=λp=>by
  refine Tree.post (Qtf m.B0 p) (W:=U) ?_
  unfold Qtf
  exact w_br (λ_=>h3.block) (λ_=>w_br (λ_=>h3.frame) (λ_=>w_br (λ_=>Q0s _) (λ_=>U_0)))
 have ni:∀p,U (Z2q m.C2 p):=λp=>by
  refine Tree.post (Qu5 m.C2 p) (W:=U) ?_
  unfold Qu5
  exact w_br (λ_=>h4.frame) (λ_=>w_br (λ_=>h4.got) (λ_=>w_br (λ_=>w_br (λ_=>w_br (λ_=>Q0s _) (λ_=>Q0s _)) (λ_=>w_br (λ_=>Q0s _) (λ_=>U_0))) (λ_=>U_0)))
 have bi:∀p,(Qcl m.A1 p).w U:=λp=>by
  unfold Qcl
  exact w_br (λ_=>h5) (λ_=>w_br (λ_=>Q0e (Zkm h6) λ_ _=>Q0s _) (λ_=>U_0))
 have C:∀(x:Q0c×Int),(U x.2/\(Q2v m.A3=true->Q2v x.1=true))->kept P m {A4:=m.A4,Mem:=m.Mem,A3:=x.1,B2:=m.B2,B0:=m.B0,C2:=m.C2,A1:=m.A1,A2:=m.A2,A6:=m.A6,A9:=m.A9}/\U x.2:=λx hx=>
  ⟨⟨⟨h1,h2,h3,h4,h5,h6⟩,Qpq h2 h2 hx.2 id id id id,rfl,rfl,rfl,rfl⟩,hx.1⟩
 unfold Q40
 repeat'(first
  |exact⟨k,hc⟩
  |exact⟨k,U_0⟩
  |exact Q0e (Z71 _ _) λx hx=>C x hx
  |exact Zkd (Z71 _ _) λx hx=>C x hx
  |exact w_lv λx hx=>⟨k,by rw[hx];exact ti _⟩
  |exact w_lv λx hx=>⟨k,by rw[hx];exact di _⟩
  |exact w_lv λx hx=>⟨k,by rw[hx];exact ni _⟩
  |exact Q0e (bi _) λx hx=>⟨k,hx⟩
  |refine w_br (λ_=>?_) (λ_=>?_))
structure Q84(c:Q02):Prop where
 x0:c.X.a0=0
 st:c.B3.a0<=31
 en:c.B3.a7<=31
 rt:c.B3.a6<=255
 ve:dA c.B3.a1 4=0
theorem Q84.pc{c:Q02}(h:Q84 c)(p:Int):Q84 {X:=c.X,Pc:=p,B3:=c.B3}:=⟨h.x0,h.st,h.en,h.rt,h.ve⟩
theorem and31(a:Int):iand .u32 a 31<=31:=by
 have e:(dS 32 a&&&dS 32 31).toNat<=31:=by
  rw[dV]
  exact bH Nat.and_le_right (by decide)
 show wrap .u32 ((dS 32 a&&&dS 32 31).toNat:Int)<=31
 rw[wrap_u32];omega
theorem and255'(a:Int):iand .u32 a 255<=255:=by have:=and255 a;omega
theorem andn3(a:Int):dA (Q7 .u32 a 3) 4=0:=by
 have e:(dS 32 a&&&~~~dS 32 3).toNat%4=0:=by
  rw[dV,show(~~~dS 32 3).toNat=4294967292 by decide]
  have:=Nat.and_mod_two_pow (a:=(dS 32 a).toNat) (b:=4294967292) (n:=2)
  simpa using this
 have l:=(dS 32 a&&&~~~dS 32 3).isLt
 show dA (wrap .u32 ((dS 32 a&&&~~~dS 32 3).toNat:Int)) 4=0
 rw[wrap_u32,eA (by omega)]
 omega
theorem fin32{f:Int->Int}(h:(cY 32).all (λn=>decide (f n<=31))=true){s:Int}(h0:0<=s)(h1:s<=31):f s<=31:=by
 have:=List.all_eq_true.1 h s.toNat (List.mem_range.2 (by omega))
 have e:((s.toNat:Nat):Int)=s:=by omega
 rw[e]at this
 exact oY this
theorem Qmk{c:Q02}(h:Q29 c)(m:Q84 c)(k b:Int):Q84 (Q3a c k b):=
 ⟨m.x0,fin32 (f:=λs=>Q7 .u32 (ior .u32 (Q99 (Q99 s 1 8) 2 16) 1) 2) (by kernel_rfl) h.a0.1 m.st,m.en,m.rt,m.ve⟩
theorem Zne{c:Q02}(h:Q29 c)(m:Q84 c):Q84 (Qel c):=
 ⟨m.x0,fin32 (f:=λs=>Q99 (Q99 s 8 1) 16 2) (by kernel_rfl) h.a0.1 m.st,m.en,m.rt,m.ve⟩
theorem Qw{c:Q02}(m:Q84 c){r:Int}(hr:0<=r/\r<16)(v:Int):(Qd9 c r v).w Q84:=by
 unfold Qd9
 refine w_br (λhn=>w_cn (rc hr) ?_) (λ_=>m)
 have hn:r≠0:=by simpa using hn
 obtain⟨n,e⟩:∃n:Nat,r.toNat=n+1:=⟨r.toNat-1,by omega⟩
 refine⟨?_,m.st,m.en,m.rt,m.ve⟩
 show(A16.of 0 (dC (A16.l c.X) r.toNat v)).a0=0
 rw[e]
 exact m.x0
theorem qg{c:Q02}(m:Q84 c)(k v:Int):(Qcc c k v).w Q84:=by
 unfold Qcc
 refine w_br (λhk=>w_cn (by rw[eq_of_beq hk];decide) ?_) λ_=>w_br (λhk=>w_cn (by rw[eq_of_beq hk];decide) ?_) λ_=>w_br (λhk=>w_cn (by rw[eq_of_beq hk];decide) ?_) λ_=>w_br (λhk=>w_cn (by rw[eq_of_beq hk];decide) ?_) λ_=>w_br (λhk=>w_cn (by rw[eq_of_beq hk];decide) ?_) λ_=>w_br (λhk=>w_cn (by rw[eq_of_beq hk];decide) ?_) λ_=>w_br (λhk=>w_cn (by rw[eq_of_beq hk];decide) ?_) λ_=>w_br (λhk=>w_cn (by rw[eq_of_beq hk];decide) ?_) (λ_=>m)
 all_goals(have hk:=eq_of_beq hk;subst hk)
 ·exact⟨m.x0,and31 _,m.en,m.rt,m.ve⟩
 ·exact⟨m.x0,m.st,and31 _,m.rt,m.ve⟩
 ·exact⟨m.x0,m.st,m.en,and255' _,m.ve⟩
 ·exact⟨m.x0,m.st,m.en,m.rt,andn3 _⟩
 ·exact⟨m.x0,m.st,m.en,m.rt,m.ve⟩
 ·exact⟨m.x0,m.st,m.en,m.rt,m.ve⟩
 ·exact⟨m.x0,m.st,m.en,m.rt,m.ve⟩
 ·exact⟨m.x0,m.st,m.en,m.rt,m.ve⟩
section
variable {c:Q02} (h:Q29 c) (m:Q84 c) {i:Q0g} (hi:Qbq i)
include h m hi
theorem Zii:(Q3u c i).w (λr=>Q84 r.1):=by
 unfold Q3u
 refine w_cn (rc hi.a) (w_cn (rc hi.b) ?_)
 repeat'(first
  |refine w_br (λ_=>?_) (λ_=>?_)
  |exact Q0e (Qw m hi.a _) λx hx=>hx.pc _
  |exact w_lv λx _=>w_br (λ_=>m.pc _) (λ_=>m.pc _)
  |exact w_lv λx hx=>by rw[hx];exact Qmk h m _ _
  |exact w_lv λx hx=>by rw[hx];exact Zne h m
  |exact w_cn (by have:=hi.csr (by simp_all);simp[bJ];omega) (Q0e (Qw m hi.a _) λx hx=>hx.pc _)
  |exact Q0e (qg m _ _) λx hx=>hx.pc _
  |refine w_cn (rc hi.c) ?_
  |exact Q0e (Z68 _ (h.r _) (Q0s _)) λy hy=>Q0e (Qw m hi.a _) λx hx=>hx.pc _
  |exact Q0e (Z68 _ (h.r _) (h.r _)) λy hy=>Q0e (Qw m hi.a _) λx hx=>hx.pc _
  |refine w_lf ?_)
 all_goals exact m.pc _
theorem yD{P:Nat}{mem:List Int}(hm:Q0q P mem):(Qec c mem i).w (λr=>Q84 r.1):=by
 have w:=Z9e i.Op
 unfold Qec
 refine w_cn (rc hi.b) (w_lv λx0 h0=>?_)
 rw[<-h0]at w
 refine Q0e (Q7t hm (Q0s _) w 2) λx1 h1=>w_br (λ_=>w_lv λy hy=>by rw[hy];exact Qmk h m _ _) (λ_=>w_lv λx3 h3=>?_)
 rw[h0,<-h3]at w
 exact Q0e (Qrj h1.2 h1.1 w) λx4 h4=>w_br (λ_=>Q0e (Qvi h4.1 8) λy hy=>Q0e (Qw m hi.a _) λx hx=>hx.pc _) (λ_=>Q0e (Qw m hi.a _) λx hx=>hx.pc _)
theorem xg{P:Nat}{mem:List Int}(hm:Q0q P mem):(Qc3 c mem i).w (λr=>Q84 r.1):=by
 have w:=Z9e i.Op
 unfold Qc3
 refine w_cn (rc hi.b) (w_lv λx0 h0=>?_)
 rw[<-h0]at w
 refine Q0e (Q7t hm (Q0s _) w 3) λx1 h1=>w_br (λ_=>w_lv λy hy=>by rw[hy];exact Qmk h m _ _) (λ_=>w_lv λx3 h3=>w_cn (rc hi.a) ?_)
 rw[h0,<-h3]at w
 exact Q0e (Z02 h1.2 h1.1 w (h.r _)) λx hx=>m.pc _
end
theorem vD{c:Q02}(h:Q29 c)(m:Q84 c){P:Nat}{mem:List Int}(hm:Q0q P mem):(Qad c mem).w (λr=>Q84 r.1):=by
 unfold Qad
 refine Q0e (Qcy hm h) λx0 h0=>w_br (λ_=>w_lv λy hy=>by rw[hy];exact Qmk h m _ _) (λ_=>Q0e (Qnv _) λx2 h2=>w_br (λ_=>w_lv λy hy=>by rw[hy];exact Qmk h m _ _) (λhb=>?_))
 have hi:=h2 (by simpa using hb)
 refine w_lv λx4 _=>?_
 repeat'(first
  |refine w_br (λ_=>?_) (λ_=>?_)
  |exact Q0e (yD h m hi h0.2) λx hx=>hx
  |exact Q0e (xg h m hi h0.2) λx hx=>hx
  |exact Q0e (Zii h m hi) λx hx=>hx
  |exact w_lv λy hy=>by rw[hy];exact Qmk h m _ _
  |refine w_lv λ_ _=>?_)
theorem Zh7{c:Q02}(h:Q29 c){i:Q0g}(hi:Qbq i):(Q3u c i).w (λr=>0<=r.2.D8/\r.2.D8<16):=by
 have z:(0:Int)<=0/\(0:Int)<16:=⟨by decide,by decide⟩
 unfold Q3u
 refine w_cn (rc hi.a) (w_cn (rc hi.b) ?_)
 repeat'(first
  |refine w_br (λ_=>?_) (λ_=>?_)
  |exact Q0e (Qqz h hi.a (Q0s _)) λx hx=>z
  |exact w_lv λx _=>w_br (λ_=>z) (λ_=>z)
  |exact w_lv λx hx=>z
  |exact w_cn (by have:=hi.csr (by simp_all);simp[bJ];omega) (Q0e (Qqz h hi.a (h.a _)) λx hx=>z)
  |exact Q0e (Zky h _ (h.r _)) λx hx=>z
  |refine w_cn (rc hi.c) ?_
  |exact Q0e (Z68 _ (h.r _) (Q0s _)) λy hy=>Q0e (Qqz h hi.a hy) λx hx=>z
  |exact Q0e (Z68 _ (h.r _) (h.r _)) λy hy=>Q0e (Qqz h hi.a hy) λx hx=>z
  |refine w_lf ?_)
 all_goals first|exact z|exact hi.a
theorem Zjr{c:Q02}(h:Q29 c){P:Nat}{mem:List Int}(hm:Q0q P mem):(Qad c mem).w (λr=>0<=r.2.2.D8/\r.2.2.D8<16):=by
 have z:(0:Int)<=0/\(0:Int)<16:=⟨by decide,by decide⟩
 unfold Qad
 refine Q0e (Qcy hm h) λx0 h0=>w_br (λ_=>w_lv λy hy=>z) (λ_=>Q0e (Qnv _) λx2 h2=>w_br (λ_=>w_lv λy hy=>z) (λhb=>?_))
 have hi:=h2 (by simpa using hb)
 refine w_lv λx4 _=>?_
 repeat'(first
  |refine w_br (λ_=>?_) (λ_=>?_)
  |exact Q0e (Z2d h hi h0.2) λx hx=>z
  |exact Q0e (Qy2 h hi h0.2) λx hx=>z
  |exact Q0e (Zh7 h hi) λx hx=>hx
  |exact w_lv λy hy=>z
  |refine w_lv λ_ _=>?_)
theorem cnd2{a x:Bool}:(bif a then false else x)=true↔a=false/\x=true:=by cases a<;>simp
theorem Qk9(m:Q00):Q10 m=true↔Q1 m.Mem≠0/\Q84 m.A4/\m.A2<=1152921504606846976/\¬(m.A6=true/\m.A9=true)/\Q16 m=true:=by
 rw[xR]
 unfold mayC chain
 rw[cnd2,cnd2,cnd2,cnd2,cnd2,cnd2,cnd2]
 simp only[decide_eq_false_iff_not,Int.not_lt,beq_eq_false_iff_ne,bne_eq_false_iff_eq,gt_iff_lt]
 constructor
 ·rintro⟨a1,a2,a3,a4,a5,a6,a7,a8⟩
  refine⟨a1,⟨a2,a3,a4,a5,a6⟩,a7,?_,?_⟩
  ·rintro⟨w,h⟩;rw[w,h]at a8;cases a8
  ·revert a8;cases m.A6
   ·exactλh=>h
   ·cases m.A9
    ·exactλh=>h
    ·intro h;cases h
 ·rintro⟨a1,⟨a2,a3,a4,a5,a6⟩,a7,a8,a9⟩
  refine⟨a1,a2,a3,a4,a5,a6,a7,?_⟩
  rw[a9]
  cases hw:m.A6
  ·rfl
  ·cases hh:m.A9
   ·rfl
   ·exact absurd ⟨hw,hh⟩ a8
theorem Qll{m:Q00}(h:Q14 m=true):Q10 m=true/\m.A9=false/\m.A2<1152921504606846976:=by
 simp only[Q14,Q3r,Tree.m,letv]at h
 cases h1:Q10 m
 ·rw[h1]at h;cases h
 ·cases h2:m.A9
  ·rw[h1,h2]at h
   cases h3:Q5 m
   ·rw[h3]at h
    have h:decide (m.A2<1152921504606846976)=true:=h
    exact⟨rfl,rfl,oY h⟩
   ·rw[h3]at h;cases h
  ·rw[h1,h2]at h;cases h
theorem Z3u{P:Nat}{m:Q00}(h:okS P m)(g:Q84 m.A4):(Q7v m).w (λr=>Q84 r.A4/\okS P r/\r.Mem=m.Mem/\r.A6=false/\r.A9=m.A9/\r.A2=m.A2/\r.A3=m.A3/\r.B2=m.B2/\r.B0=m.B0/\r.C2=m.C2/\r.A1=m.A1):=by
 obtain⟨h1,h2,h3,h4,h5,h6⟩:=h
 unfold Q7v
 refine w_br (λ_=>⟨g,⟨h1,h2,h3,h4,h5,h6⟩,rfl,rfl,rfl,rfl,rfl,rfl,rfl,rfl,rfl⟩) (λ_=>Q0e (Z7n (m:=⟨_,_,_,_,_,_,m.A1,_,_,_⟩) h6) λx0 _=>w_lp (inv:=λz=>0<=z/\z<=5) (μ:=Qhl m) ⟨by omega,by omega⟩ (cL _) (λz hz=>?_))
 obtain⟨z1,z2⟩:=hz
 refine w_br (λhb=>w_cn (dY z1) (w_br (λ_=>w_lv λx1 hx=>⟨by rw[hx];exact Qmk h1 g _ _,⟨by rw[hx];exact Qot h1 _ U_0,h2,h3,h4,h5,h6⟩,rfl,rfl,rfl,rfl,rfl,rfl,rfl,rfl,rfl⟩) (λ_=>w_nx ?_))) (λ_=>⟨g,⟨h1,h2,h3,h4,h5,h6⟩,rfl,rfl,rfl,rfl,rfl,rfl,rfl,rfl,rfl⟩)
 have hb:=oY hb
 show(0<=i64.wrap (z+1)/\i64.wrap (z+1)<=5)/\(5-i64.wrap (z+1)).toNat<(5-z).toNat
 have ew:i64.wrap (z+1)=z+1:=by rw[wrap_i64];omega
 rw[ew];omega
structure Good(P:Nat)(m r:Q00):Prop where
 ok:okS P r
 cnt:0<=r.A2
 may:Q10 m=true->Q10 r=true
 or:r=m\/r.A2=m.A2+1
theorem zg{P:Nat}{m:Q00}(h:okS P m)(hc0:0<=m.A2){clock:Int}(hk:U clock):(Q5p m clock).w (λr=>r.2.length<=1/\Good P m r.1):=by
 have hcl:Q03 m.Mem=m.Mem:=rfl
 unfold Q5p
 refine w_an (Q9n h.mem) (w_lv λl hl=>?_)
 rw[hcl]at hl;subst hl
 refine w_an (Tree.pp (yu (m:=⟨_,_,_,_,_,_,m.A1,_,_,_⟩) h.given)).1 (w_lv λx1 hx1=>w_br (λ_=>⟨aT _,h,hc0,λh=>h,.inl rfl⟩) (λhb=>?_))
 have hr:Q14 m=true:=by rw[<-show x1=Q14 m from hx1];simpa using hb
 obtain⟨hm,hh,hct⟩:=Qll hr
 obtain⟨g1,g2,g3,g4,g5⟩:=(Qk9 m).1 hm
 have hP:(P:Int)≠0:=by rw[<-Q1z h.mem];exact g1
 have fin:∀(n:Q00),okS P n->Q84 n.A4->Q16 n=true->n.A2=m.A2->¬(n.A6=true/\n.A9=true)->Good P m {A4:=n.A4,Mem:=n.Mem,A3:=n.A3,B2:=n.B2,B0:=n.B0,C2:=n.C2,A1:=n.A1,A2:=wrap .u64 (n.A2+1),A6:=n.A6,A9:=n.A9}:=λn a b c d e=>by
  have ec:wrap .u64 (n.A2+1)=m.A2+1:=by rw[d,wrap_u64];omega
  refine⟨⟨a.cpu,a.mem,a.disk,a.nic,a.target,a.given⟩,?_,λ_=>(Qk9 _).2 ⟨?_,b,?_,e,c⟩,.inr ec⟩
  ·show 0<=wrap .u64 (n.A2+1);omega
  ·show Q1 n.Mem≠0;rw[Q1z a.mem];exact hP
  ·show wrap .u64 (n.A2+1)<=_;omega
 refine Q0e (Z3u (m:=⟨_,_,m.A3,m.B2,m.B0,m.C2,m.A1,m.A2,m.A6,m.A9⟩) ⟨h.cpu,h.mem,h.disk,h.nic,h.target,h.given⟩ g2) λx2 hx2=>?_
 obtain⟨b1,b2,b3,b4,b5,b6,b7,b8,b9,b10,b11⟩:=hx2
 have ex:=Tree.pp (Zgs b2.cpu b2.mem)
 have em:=Tree.pp (vD b2.cpu b1 b2.mem)
 have er:=Tree.pp (Zjr b2.cpu b2.mem)
 refine w_an ex.1 (w_lv λx3 h3=>?_)
 obtain⟨e1,e2,e3⟩:Q29 x3.1/\Q0q P x3.2.1/\U x3.2.2.Value:=by rw[h3];exact ex.2
 have f1:Q84 x3.1:=by rw[h3];exact em.2
 have r1:0<=x3.2.2.D8/\x3.2.2.D8<16:=by rw[h3];exact er.2
 have ok3:okS P ⟨x3.1,x3.2.1,x2.A3,x2.B2,x2.B0,x2.C2,x2.A1,x2.A2,x2.A6,x2.A9⟩:=⟨e1,e2,b2.disk,b2.nic,b2.target,b2.given⟩
 have dev:∀(w h:Bool),Q16 ⟨x3.1,x3.2.1,x2.A3,x2.B2,x2.B0,x2.C2,x2.A1,x2.A2,w,h⟩=true:=λw hh=>by
  have id:∀{p:Prop},p->p:=λh=>h
  refine Qpq (m:=m) (P:=P) h.mem e2 ?_ ?_ ?_ ?_ ?_ g5
  ·show _->Q2v x2.A3=true;rw[b7];exact id
  ·show _->Q56 x2.B2=true;rw[b8];exact id
  ·show _->Q1m x2.B0 P=true;rw[b9];exact id
  ·show _->Q6i x2.C2 P=true;rw[b10];exact id
  ·show _->Q37 x2.A1 P=true;rw[b11];exact id
 have hw:x2.A6=false:=b4
 have hh2:x2.A9=false:=b5.trans hh
 have hct2:x2.A2=m.A2:=b6
 refine w_br (λ_=>?_) λ_=>w_br (λ_=>?_) λ_=>w_br (λ_=>?_) λ_=>w_br (λ_=>?_) λ_=>?_
 ·refine Q0e (Zn ok3 _ hk) λx4 h4=>?_
  obtain⟨k,u⟩:=h4
  have kc:x4.1.A4=x3.1:=k.cpu
  have kt:x4.1.A2=m.A2:=k.cnt.trans hct2
  have kw:¬(x4.1.A6=true/\x4.1.A9=true):=λe=>by have:x4.1.A6=x2.A6:=k.wait;rw[this,hw]at e;cases e.1
  have km:Q84 x4.1.A4:=by rw[kc];exact f1
  refine w_br (λhn=>w_cn (rc r1) ⟨aT _,?_⟩) (λ_=>⟨aT _,fin x4.1 k.ok km (k.dev (dev _ _)) kt kw⟩)
  have hn:x3.2.2.D8≠0:=by simpa using hn
  obtain⟨q,e⟩:∃q:Nat,x3.2.2.D8.toNat=q+1:=⟨x3.2.2.D8.toNat-1,by omega⟩
  refine fin ⟨⟨A16.of 0 (dC (A16.l x4.1.A4.X) x3.2.2.D8.toNat x4.2),x4.1.A4.Pc,x4.1.A4.B3⟩,x4.1.Mem,x4.1.A3,x4.1.B2,x4.1.B0,x4.1.C2,x4.1.A1,x4.1.A2,x4.1.A6,x4.1.A9⟩ ⟨⟨Ziy k.ok.cpu.x u _,k.ok.cpu.pc,k.ok.cpu.csr⟩,k.ok.mem,k.ok.disk,k.ok.nic,k.ok.target,k.ok.given⟩ ⟨?_,km.st,km.en,km.rt,km.ve⟩ (k.dev (dev _ _)) kt kw
  show(A16.of 0 (dC (A16.l x4.1.A4.X) x3.2.2.D8.toNat x4.2)).a0=0
  rw[e]
  exact km.x0
 ·refine Q0e (Zhq ok3 _ e3 _) λx5 h5=>?_
  obtain⟨k,u⟩:=h5
  have kc:x5.1.A4=x3.1:=k.cpu
  exact⟨u,fin x5.1 k.ok (by rw[kc];exact f1) (k.dev (dev _ _)) (k.cnt.trans hct2) (λe=>by have:x5.1.A6=x2.A6:=k.wait;rw[this,hw]at e;cases e.1)⟩
 ·exact⟨aT _,fin ⟨x3.1,x3.2.1,x2.A3,x2.B2,x2.B0,x2.C2,x2.A1,x2.A2,true,x2.A9⟩ ⟨e1,e2,b2.disk,b2.nic,b2.target,b2.given⟩ f1 (dev _ _) hct2 (λe=>by have e2:x2.A9=true:=e.2;rw[hh2]at e2;cases e2)⟩
 ·exact⟨aT _,fin ⟨x3.1,x3.2.1,x2.A3,x2.B2,x2.B0,x2.C2,x2.A1,x2.A2,x2.A6,true⟩ ⟨e1,e2,b2.disk,b2.nic,b2.target,b2.given⟩ f1 (dev _ _) hct2 (λe=>by have e2:x2.A6=true:=e.1;rw[hw]at e2;cases e2)⟩
 ·exact⟨aT _,fin ⟨x3.1,x3.2.1,x2.A3,x2.B2,x2.B0,x2.C2,x2.A1,x2.A2,x2.A6,x2.A9⟩ ok3 f1 (dev _ _) hct2 (λe=>by have e2:x2.A6=true:=e.1;rw[hw]at e2;cases e2)⟩
theorem Zj8{P:Nat}{m:Q00}(h:okM P m){e:Q0f}(he:U e.N):(Q50 m e).w (λr=>(Q10 m=true->Q10 r.1=true)/\r.1.A2=m.A2/\U r.1.A1.C0):=by
 obtain⟨h1,h2,h3,h4,h5,h7⟩:=h
 have hcl:Q03 m.Mem=m.Mem:=rfl
 have pg:∀{m':List Int},Q0q P m'->Q1 m'=Q1 m.Mem:=λh=>by rw[Q1z h,Q1z h2]
 have keep:(Q10 m=true->Q10 m=true)/\m.A2=m.A2/\U m.A1.C0:=⟨λh=>h,rfl,h5.2⟩
 unfold Q50
 refine w_an (Q9n h2) (w_lv λl hl=>?_)
 rw[hcl]at hl;subst hl
 refine Q0e (Z6d (m:=⟨_,_,_,_,_,_,m.A1,_,_,_⟩) h5.2) λx1 _=>w_br (λ_=>keep) λ_=>w_br (λ_=>keep) λ_=>?_
 refine w_br (λ_=>w_br (λ_=>w_br (λ_=>w_lv λx hx=>?_) (λ_=>keep)) (λ_=>keep)) λ_=>w_br (λ_=>w_br (λ_=>w_br (λ_=>Q0e (zZ _ _) λx hx=>?_) (λ_=>keep)) (λ_=>keep)) λ_=>w_br (λhk=>Q0e (Zmq h2 h3 e) λx hx=>?_) λ_=>w_br (λhk=>w_br (λ_=>Q0e (qf h2 h4 _) λx hx=>?_) (λ_=>keep)) λ_=>w_br (λ_=>w_br (λ_=>?_) (λ_=>keep)) (λ_=>keep)
 ·exact⟨Qsu rfl rfl rfl rfl rfl (λh=>h) (λh=>by rw[hx];exact xD _ h) (λ_ h=>h) (λ_ h=>h) rfl,rfl,h5.2⟩
 ·exact⟨Qsu rfl rfl rfl rfl rfl hx (λh=>h) (λ_ h=>h) (λ_ h=>h) rfl,rfl,h5.2⟩
 ·obtain⟨a1,a2,a3,a4,a5⟩:=hx
  exact⟨Qsu (pg a2) rfl rfl rfl rfl (λh=>h) (λh=>h) a5 (λ_ h=>h) rfl,rfl,h5.2⟩
 ·obtain⟨a1,a2,a3,a4,a5⟩:=hx
  exact⟨Qsu (pg a2) rfl rfl rfl rfl (λh=>h) (λh=>h) (λ_ h=>h) a5 rfl,rfl,h5.2⟩
 ·exact⟨Qsu rfl rfl rfl rfl rfl (λh=>h) (λh=>h) (λ_ h=>h) (λ_ h=>h) rfl,rfl,h5.2⟩
theorem Qoy{a:Int}(h:U a):(dS 32 a).toNat=a.toNat:=by
 obtain⟨h1,h2⟩:=h
 rw[dT];omega
theorem Z2r{a b:Int}(ha:U a)(hb:U b):iand .u32 a b=((a.toNat&&&b.toNat:Nat):Int):=by
 have l:=(dS 32 a&&&dS 32 b).isLt
 have e:(dS 32 a&&&dS 32 b).toNat=a.toNat&&&b.toNat:=by rw[dV,Qoy ha,Qoy hb]
 show wrap .u32 ((dS 32 a&&&dS 32 b).toNat:Int)=_
 rw[wrap_u32,<-e];omega
theorem zR{a b:Int}(ha:U a)(hb:U b):ior .u32 a b=((a.toNat|||b.toNat:Nat):Int):=by
 have l:=(dS 32 a|||dS 32 b).isLt
 have e:(dS 32 a|||dS 32 b).toNat=a.toNat|||b.toNat:=by rw[dU,Qoy ha,Qoy hb]
 show wrap .u32 ((dS 32 a|||dS 32 b).toNat:Int)=_
 rw[wrap_u32,<-e];omega
theorem Z9c{a:Int}(ha:U a)(k:Nat)(hk:k<=32){q:Int}(hq:q=((2^k-1:Nat):Int)):iand .u32 a q=a%2^k:=by
 have hp:2^k<=2^32:=dP (by decide) hk
 have h1:(2:Nat)^32=4294967296:=by decide
 have hpos:=eB k
 subst hq
 rw[Z2r ha ⟨by omega,by omega⟩,dZ,Nat.and_two_pow_sub_one_eq_mod]
 have:=ha.1
 rw[Int.natCast_emod,cK this]
 simp
theorem m15{a:Int}(ha:U a):iand .u32 a 15=a%16:=Z9c ha 4 (by decide) rfl
theorem m255{a:Int}(ha:U a):iand .u32 a 255=a%256:=Z9c ha 8 (by decide) rfl
theorem m65535{a:Int}(ha:U a):iand .u32 a 65535=a%65536:=Z9c ha 16 (by decide) rfl
theorem Qt9(p:Int->Bool)(N:Nat)(h:(cY N).all (λn=>p n)=true){s:Int}(h0:0<=s)(h1:s<N):p s=true:=by
 have:=List.all_eq_true.1 h s.toNat (List.mem_range.2 (by omega))
 rwa [cK h0]at this
theorem w64{x:Int}(h0: -9223372036854775808<=x)(h1:x<9223372036854775808):wrap .i64 x=x:=by rw[wrap_i64];omega
theorem shr0(a:Int):ishr .u32 a 0=a:=by have:=Qqs (a:=a) 0 (by decide);simpa using this
theorem fld(w:Int):Q3c w 24 8=iand .u32 (ishr .u32 w 24) 255/\Q3c w 20 4=iand .u32 (ishr .u32 w 20) 15/\Q3c w 16 4=iand .u32 (ishr .u32 w 16) 15/\Q3c w 0 16=iand .u32 (ishr .u32 w 0) 65535/\Q3c w 8 8=iand .u32 (ishr .u32 w 8) 255:=
 ⟨by kernel_rfl,by kernel_rfl,by kernel_rfl,by kernel_rfl,by kernel_rfl⟩
def useOf(f:Int):Q9b×Bool:=
 bif f==1 then(⟨false,false,false,0,0⟩,true)else bif f==2 then(⟨true,true,true,0,0⟩,true)else bif f==3 then(⟨true,true,false,-32768,32767⟩,true)
 else bif f==4 then(⟨true,true,false,0,65535⟩,true)else bif f==5 then(⟨true,true,false,0,31⟩,true)else bif f==6 then(⟨true,false,false,0,65535⟩,true)
 else bif f==7 then(⟨true,false,false,-32768,32767⟩,true)else bif f==8 then(⟨true,false,false,0,7⟩,true)else bif f==9 then(⟨true,false,false,0,11⟩,true)else(⟨false,false,false,0,0⟩,false)
def sameU(x y:Q9b×Bool):Bool:=x.1.a==y.1.a&&x.1.b==y.1.b&&x.1.c==y.1.c&&x.1.low==y.1.low&&x.1.D3==y.1.D3&&x.2==y.2
theorem qE{x y:Q9b×Bool}(h:sameU x y=true):x=y:=by
 obtain⟨⟨a,b,c,d,e⟩,f⟩:=x
 obtain⟨⟨a',b',c',d',e'⟩,f'⟩:=y
 simp only[sameU,aE,beq_iff_eq]at h
 obtain⟨⟨⟨⟨⟨rfl,rfl⟩,rfl⟩,rfl⟩,rfl⟩,rfl⟩:=h
 rfl
theorem yR{op:Int}(h0:0<=op)(h1:op<256):Z3i op=useOf (Q2u op):=by
 exact qE (Qt9 (λop=>sameU (Z3i op) (useOf (Q2u op))) 256 (by kernel_rfl) h0 h1)
theorem yg{op:Int}(h0:0<=op)(h1:op<256):Q2u op=0\/Q2u op=1\/Q2u op=2\/Q2u op=3\/Q2u op=4\/Q2u op=5\/Q2u op=6\/Q2u op=7\/Q2u op=8\/Q2u op=9:=by
 have:=oY (Qt9 (λop=>decide (0<=Q2u op/\Q2u op<=9)) 256 (by kernel_rfl) h0 h1)
 omega
theorem z6{op:Int}(h0:0<=op)(h1:op<256):Q2j op=Q69 op:=by
 exact eq_of_beq (Qt9 (λop=>Q2j op==Q69 op) 256 (by kernel_rfl) h0 h1)
theorem xE{a x y:Bool}:(cond a x y=true)↔((a=true/\x=true)\/(a=false/\y=true)):=by cases a<;>simp
theorem Z8i{i:Q0g}(h0:0<=i.Op)(h1:i.Op<256)(hi:wrap .i64 i.Imm=i.Imm):Qf2 i=Q90 i:=by
 rw[eC]
 simp only[Qf2,Qht,Tree.m,letv,Q90,Qf3,yR h0 h1,hi]
 rcases yg h0 h1 with h|h|h|h|h|h|h|h|h|h<;>rw[h]<;>
 simp[useOf,Q9g,Qet,Q8a,Qdd,Qlu,Qmg,Tree.m,letv,xE]<;>omega
theorem sx16{x:Int}(h0:0<=x)(h1:x<65536):wrap .i32 (Q2y x 16)=wrap .i32 (wrap .i16 x):=by
 have e:Q2y x 16=wrap .u32 (ishr .i32 (wrap .i32 (ishl .u32 x 16)) 16):=by kernel_rfl
 have e2:∀y,ishr .i32 y 16=y/65536:=λy=>by
  show eD y 65536=_
  rw[dK _ (by decide)]
 have e3:ishl .u32 x 16=wrap .u32 (x*65536):=rfl
 have e4:wrap .i16 x=(x+32768)%65536-32768:=by
  simp[wrap,IntKind.bits,IntKind.signed]
  split<;>omega
 rw[e,e2,e3,e4]
 simp only[wrap_i32,wrap_u32]
 omega
theorem sx8{x:Int}(h0:0<=x)(h1:x<256):Q2y x 8=Q3s x 8:=by
 exact eq_of_beq (Qt9 (λx=>Q2y x 8==Q3s x 8) 256 (by kernel_rfl) h0 h1)
theorem vg{w:Int}(hw:U w):Q11 w=Q4i w:=by
 obtain⟨f1,f2,f3,f4,_⟩:=fld w
 obtain⟨w0,w1⟩:=hw
 have s24:ishr .u32 w 24=w/16777216:=by have:=Qqs (a:=w) 24 (by decide);simpa using this
 have s20:U (ishr .u32 w 20):=Qvl ⟨w0,w1⟩ _
 have s16:U (ishr .u32 w 16):=Qvl ⟨w0,w1⟩ _
 rw[m255 (Qvl ⟨w0,w1⟩ _),s24]at f1
 rw[m15 s20]at f2
 rw[m15 s16]at f3
 rw[shr0]at f4
 have g1:w/16777216%256=w/16777216:=by omega
 rw[g1]at f1
 have o0:0<=w/16777216:=by omega
 have o1:w/16777216<256:=by omega
 have eo:wrap .i64 (w/16777216)=w/16777216:=w64 (by omega) (by omega)
 have i32:∀x,wrap .i64 (wrap .i32 x)=wrap .i32 x:=λx=>by rw[wrap_i64,wrap_i32];omega
 have l0:=m65535 ⟨w0,w1⟩
 have lx:=sx16 (x:=iand .u32 w 65535) (by omega) (by omega)
 simp only[Q11,Qch,Q4i,Qaj,Tree.m,letv,f1,f2,f3,f4,s24,eo,yR o0 o1,m15 s20,m15 s16,lx]
 generalize w/16777216=op at*
 generalize wrap .i64 (ishr .u32 w 20%16)=a
 generalize wrap .i64 (ishr .u32 w 16%16)=b
 generalize iand .u32 w 65535=l
 rw[Z8i (i:=⟨op,a,b,wrap .i64 l,0⟩) o0 o1 rfl,Z8i (i:=⟨op,a,b,0,wrap .i32 (wrap .i16 l)⟩) o0 o1 (i32 _),Z8i (i:=⟨op,a,b,0,wrap .i32 l⟩) o0 o1 (i32 _)]
 rcases yg o0 o1 with h|h|h|h|h|h|h|h|h|h<;>rw[h]<;>rfl
theorem y6(x v:BitVec 32)(s:Nat)(hs:s<=24):((x&&&~~~(255#32<<<s))|||((v&&&255#32)<<<s)).toNat=2^(s+8)*(x.toNat/2^(s+8))+(2^s*(v.toNat%256)+x.toNat%2^s):=by
 have hx:=x.isLt
 have h1:x.toNat%2^s<2^s:=Nat.mod_lt _ (eB s)
 have h2:2^s*(v.toNat%256)+x.toNat%2^s<2^(s+8):=by
  have:v.toNat%256<256:=Nat.mod_lt _ (by decide)
  have h3:2^s*(v.toNat%256)<=2^s*255:=Nat.mul_le_mul_left _ (by omega)
  have:2^(s+8)=2^s*256:=by rw[Nat.pow_add]
  omega
 rw[eF h2,eF h1]
 apply eG
 intro i
 rw[BitVec.testBit_toNat]
 simp only[BitVec.getLsbD_or,BitVec.getLsbD_and,BitVec.getLsbD_not,BitVec.getLsbD_shiftLeft,Nat.testBit_or,Nat.testBit_two_pow_mul,eH,Nat.testBit_div_two_pow,BitVec.getLsbD_ofNat]
 have e255:∀j,eI 255 j=decide (j<8):=λj=>by
  rw[show 255=2^8-1 from rfl,Nat.testBit_two_pow_sub_one]
 have e256:∀n j,eI (n%256) j=(decide (j<8)&&eI n j):=λn j=>by
  rw[show 256=2^8 from rfl,eH]
 rw[e255,e256]
 by_cases hi:i<32
 ·by_cases a1:i<s
  ·have a2:¬(s<=i):=by omega
   have a3:¬(s+8<=i):=by omega
   simp[hi,a1,a2,a3,eJ]
  ·by_cases a4:s+8<=i
   ·have a2:¬(i-s<8):=by omega
    have a5:i-(s+8)+(s+8)=i:=by omega
    have a6:s<=i:=by omega
    simp[hi,a1,a2,a4,a5,a6,eJ]
   ·have a2:(i-s<8):=by omega
    have a6:s<=i:=by omega
    have a7:i-s<32:=by omega
    simp[hi,a1,a2,a4,a6,a7,eJ]
 ·have a0:x.toNat.testBit i=false:=Nat.testBit_lt_two_pow (Nat.lt_of_lt_of_le hx (dP (by decide) (by omega)))
  have a1:¬(i<s):=by omega
  have a2:¬(i-s<8):=by omega
  have a4:s+8<=i:=by omega
  have a5:i-(s+8)+(s+8)=i:=by omega
  simp[hi,a0,a1,a2,a4,a5]
theorem Z64(b:BitVec 32):dS 32 (wrap .u32 (b.toNat:Int))=b:=by
 have:=b.isLt
 rw[wrap_u32]
 apply eK
 rw[dT];omega
theorem Zmc(x:Int):dS 32 (wrap .u32 x)=dS 32 x:=by
 apply eK
 rw[dT,dT,wrap_u32]
 have:((2^32:Nat):Int)=4294967296:=by decide
 rw[this,Int.emod_emod_of_dvd _ (Int.dvd_refl _)]
theorem Zch{x:Int}(hx:U x)(s:Nat)(hs:s<=32):dS 32 (ishl .u32 x s)=dS 32 x<<<s:=by
 obtain⟨n,rfl⟩:∃n:Nat,x=n:=⟨x.toNat,by have:=hx.1;omega⟩
 have e:min (dB (s:Int)) u32.bits=s:=by show min (dB (s:Int)) 32=s;omega
 unfold ishl
 rw[e,Zmc]
 have e2:((n:Int)*2^s)=((n*2^s:Nat):Int):=by simp
 have:=hx.2
 rw[e2,eL,eL]
 apply eK
 rw[BitVec.toNat_shiftLeft,eM,eM,Nat.shiftLeft_eq,Nat.mod_mul_mod]
def putW(W v:Int)(s:Nat):Int:=ior .u32 (Q7 .u32 W (ishl .u32 255 s)) (ishl .u32 (iand .u32 v 255) s)
theorem z7{W v:Int}(hW:U W)(hv:U v)(s:Nat)(hs:s<=24):putW W v s=2^(s+8)*(W/2^(s+8))+(2^s*(v%256)+W%2^s):=by
 have e:=y6 (dS 32 W) (dS 32 v) s hs
 have l:=((dS 32 W&&&~~~(255#32<<<s))|||((dS 32 v&&&255#32)<<<s)).isLt
 have h1:dS 32 (Q7 .u32 W (ishl .u32 255 s))=dS 32 W&&&~~~(255#32<<<s):=by
  show dS 32 (wrap .u32 (dS 32 W&&&~~~dS 32 (ishl .u32 255 s)).toNat)=_
  rw[Z64,Zch ⟨by decide,by decide⟩ s (by omega)]
  rfl
 have h2:dS 32 (ishl .u32 (iand .u32 v 255) s)=(dS 32 v&&&255#32)<<<s:=by
  rw[Zch (Z9q _ _) s (by omega)]
  congr 1
  show dS 32 (wrap .u32 (dS 32 v&&&dS 32 255).toNat)=_
  rw[Z64];rfl
 show wrap .u32 ((dS 32 (Q7 .u32 W (ishl .u32 255 s))|||dS 32 (ishl .u32 (iand .u32 v 255) s)).toNat:Int)=_
 rw[h1,h2]
 have lw:wrap .u32 ((((dS 32 W&&&~~~(255#32<<<s))|||((dS 32 v&&&255#32)<<<s)).toNat:Nat):Int)=(((dS 32 W&&&~~~(255#32<<<s))|||((dS 32 v&&&255#32)<<<s)).toNat:Nat):=by rw[wrap_u32];omega
 rw[lw,e,Qoy hW,Qoy hv]
 obtain⟨n,rfl⟩:∃n:Nat,W=n:=⟨W.toNat,by have:=hW.1;omega⟩
 obtain⟨k,rfl⟩:∃n:Nat,v=n:=⟨v.toNat,by have:=hv.1;omega⟩
 simp
def dig(w:Int)(k:Nat):Int:=if k=0 then w%256 else if k=1 then w/256%256 else if k=2 then w/65536%256 else w/16777216%256
def byt(m:List Int)(a:Nat):Int:=dig (m.getD (a/4) 0) (a%4)
theorem qh(w:Int)(k:Nat):0<=dig w k/\dig w k<256:=by
 unfold dig
 split
 ·omega
 ·split
  ·omega
  ·split<;>omega
theorem xh{w v:Int}(hw:U w)(hv:U v)(h:∀k,k<4->dig w k=dig v k):w=v:=by
 have h0:=h 0 (by omega)
 have h1:=h 1 (by omega)
 have h2:=h 2 (by omega)
 have h3:=h 3 (by omega)
 simp[dig]at h0 h1 h2 h3
 obtain⟨a,b⟩:=hw
 obtain⟨c,d⟩:=hv
 omega
theorem Zir{m n:List Int}(hl:m.length=n.length)(hm:∀w∈m,U w)(hn:∀w∈n,U w)(h:∀a,byt m a=byt n a):m=n:=by
 refine bN hl λi h1 h2=>?_
 have e1:m[i]=m.getD i 0:=by simp[aK,h1]
 have e2:n[i]=n.getD i 0:=by simp[aK,h2]
 rw[e1,e2]
 refine xh (Qi5 hm i) (Qi5 hn i) λk hk=>?_
 have:=h (4*i+k)
 simp only[byt]at this
 rwa [show(4*i+k)/4=i by omega,show(4*i+k)%4=k by omega]at this
theorem Qgk{l:List Int}{i:Nat}(h:i<l.length)(v:Int):(l.set i v).getD i 0=v:=by
 simp[aK,h]
theorem Zga{m:List Int}{i:Nat}(hi:i<m.length)(v:Int)(a:Nat):byt (m.set i v) a=if a/4=i then dig v (a%4)else byt m a:=by
 unfold byt
 split
 ·rename_i h;rw[h,Qgk hi]
 ·rename_i h;rw[getDset _ _ _ _ (λe=>h e.symm)]
theorem y7{W v:Int}(hW:U W)(hv:U v){j:Nat}(hj:j<4){k:Nat}(hk:k<4):dig (putW W v (8*j)) k=if k=j then v%256 else dig W k:=by
 have h:=z7 hW hv (8*j) (by omega)
 rw[h]
 obtain⟨w0,w1⟩:=hW
 have h0:0<=v%256:=by omega
 have h1:v%256<256:=by omega
 generalize v%256=b at*
 clear h
 have hj:j=0\/j=1\/j=2\/j=3:=by omega
 have hk:k=0\/k=1\/k=2\/k=3:=by omega
 rcases hj with rfl|rfl|rfl|rfl<;>rcases hk with rfl|rfl|rfl|rfl<;>simp[dig]<;>omega
theorem v7{m:List Int}{a v:Int}(ha:U a):Qat m a 1 v=m.set (a/4).toNat (putW (m.getD (a/4).toNat 0) v (8*(a%4).toNat)):=by
 obtain⟨a0,a1⟩:=ha
 have e1:wrap .u32 (eN a 4)=a/4:=by rw[wrap_u32,eO a0];omega
 have e2:wrap .u32 (8*dA a 4)=((8*(a%4).toNat:Nat):Int):=by rw[wrap_u32,eA a0];omega
 have e3:((1:Int)==4)=false:=rfl
 simp only[Qat,Qdw,Tree.m,e1,e2,e3,cond_false]
 rfl
theorem zh{P:Nat}{m:List Int}(h:Q0q P m){a v:Int}(ha:U a)(hl:a<128*P)(hv:U v):Q0q P (Qat m a 1 v)/\∀b:Nat,byt (Qat m a 1 v) b=if(b:Int)=a then v%256 else byt m b:=by
 have hlen:=h.len
 have a0:=ha.1
 rw[v7 ha]
 have hi:(a/4).toNat<m.length:=by omega
 refine⟨⟨by rw[dD];exact hlen,h.p1,h.p2,Z4k h.u (U_or _ _) _⟩,λb=>?_⟩
 rw[Zga hi]
 by_cases hb:b/4=(a/4).toNat
 ·rw[if_pos hb,y7 (Qi5 h.u _) hv (by omega) (by omega)]
  by_cases hc:b%4=(a%4).toNat
  ·rw[if_pos hc,if_pos (by omega)]
  ·rw[if_neg hc,if_neg (by omega),byt,hb]
 ·rw[if_neg hb,if_neg (by omega)]
theorem vR{P:Nat}{m:List Int}(h:Q0q P m){frame:Int}(f0:0<=frame)(f1:frame<P)(s:List UInt8):(Qa3 m frame s).w (λr=>Q0q P r/\∀b:Nat,byt r b=if frame*128<=b/\(b:Int)<frame*128+min s.length 128 then((s.getD (b-frame*128).toNat 0).toNat:Int)else byt m b):=by
 unfold Qa3
 have h3:=h.p2
 refine w_lp (inv:=λz=>0<=z.1/\z.1<=min s.length 128/\Q0q P z.2/\∀b:Nat,byt z.2 b=if frame*128<=b/\(b:Int)<frame*128+z.1 then((s.getD (b-frame*128).toNat 0).toNat:Int)else byt m b) (μ:=Qi m frame s) ⟨show(0:Int)<=0 by decide,by show(0:Int)<=_;omega,h,λb=>by rw[if_neg];show¬(_/\_<_+(0:Int));omega⟩ (cL _) (λv0 hv0=>?_)
 obtain⟨i,mm⟩:=v0
 obtain⟨i0,i1,hm,hy⟩:=hv0
 have i0:0<=i:=i0
 have i1:i<=min s.length 128:=i1
 have hm:Q0q P mm:=hm
 have fin:∀r:List Int,r=mm->i=min s.length 128->Q0q P r/\∀b:Nat,byt r b=if frame*128<=b/\(b:Int)<frame*128+min s.length 128 then((s.getD (b-frame*128).toNat 0).toNat:Int)else byt m b:=λr hr hi=>by
  subst hr;refine⟨hm,λb=>?_⟩
  rw[hy b];simp only[hi]
 refine w_br (λh1=>w_br (λh2=>w_cn ?_ ?_) (λh2=>fin mm rfl ?_)) (λh1=>fin mm rfl ?_)
 ·have:=oY h1
  simp[bJ];omega
 ·have h1:i<s.length:=oY h1
  have h2:i<128:=oY h2
  have e:wrap u32 (wrap i64 (wrap i64 (frame*128)+i))=frame*128+i:=by
   rw[wrap_u32,wrap_i64,wrap_i64];omega
  show(Tree.an (Qf7 mm (wrap u32 (wrap i64 (wrap i64 (frame*128)+i))) 1 _) (Tree.lv _ _)).w _
  rw[e]
  have hu:U (frame*128+i):=⟨by omega,by omega⟩
  have hvU:∀n:Nat,U (wrap .u32 (n:Int)):=λn=>Q0s _
  obtain⟨g1,_⟩:=Tree.pp (put_w hm (size:=1) (addr:=frame*128+i) hu (by rw[hm.len];omega) (hvU (eQ (s.getD i.toNat 0))))
  obtain⟨g2,g3⟩:=zh hm hu (by omega) (hvU (eQ (s.getD i.toNat 0)))
  refine w_an g1 (w_lv λx0 hx0=>?_)
  rw[hx0]
  have ew:i64.wrap (i+1)=i+1:=by rw[wrap_i64];omega
  refine w_nx ?_
  show(0<=i64.wrap (i+1)/\i64.wrap (i+1)<=min s.length 128/\Q0q P _/\∀b:Nat,byt _ b=if frame*128<=b/\(b:Int)<frame*128+i64.wrap (i+1)then _ else _)/\(128-i64.wrap (i+1)).toNat<(128-i).toNat
  rw[ew]
  refine⟨⟨by omega,by omega,g2,λb=>?_⟩,by omega⟩
  rw[show Qat mm (frame*128+i) 1 _=_ from rfl,g3 b]
  by_cases hb:(b:Int)=frame*128+i
  ·rw[if_pos hb,if_pos (by omega),wrap_u32]
   have:=(s.getD i.toNat 0).toNat_lt
   rw[show(b-frame*128).toNat=i.toNat by omega];omega
  ·rw[if_neg hb,hy b]
   show(if frame*128<=(b:Int)/\(b:Int)<frame*128+i then _ else _)=_
   by_cases hc:frame*128<=(b:Int)/\(b:Int)<frame*128+i
   ·rw[if_pos hc,if_pos (by omega)]
   ·rw[if_neg hc,if_neg (by omega)]
 ·have h1:i<s.length:=oY h1
  have h2:¬i<128:=oN h2
  omega
 ·have h1:¬i<s.length:=oN h1
  omega
theorem yh{x y:Int}(hx:U x)(hy:U y)(k:Nat)(hk:x<2^k)(h:x+y*2^k<4294967296):ior .u32 x (y*2^k)=x+y*2^k:=by
 obtain⟨n,rfl⟩:∃n:Nat,x=n:=⟨x.toNat,by have:=hx.1;omega⟩
 obtain⟨z,rfl⟩:∃n:Nat,y=n:=⟨y.toNat,by have:=hy.1;omega⟩
 have e:((z:Int)*2^k)=((z*2^k:Nat):Int):=by simp
 rw[e]at h⊢
 have hn:n<2^k:=by exact_mod_cast hk
 rw[zR hx ⟨by omega,by omega⟩,dZ,dZ,Nat.or_comm,Nat.mul_comm,<-eF hn]
 omega
theorem four{a b c d:Int}(ha:0<=a/\a<256)(hb:0<=b/\b<256)(hc:0<=c/\c<256)(hd:0<=d/\d<256):ior .u32 (ior .u32 (ior .u32 (wrap .u32 a) (ishl .u32 (wrap .u32 b) 8)) (ishl .u32 (wrap .u32 c) 16)) (ishl .u32 (wrap .u32 d) 24)=a+b*2^8+c*2^16+d*2^24:=by
 have w:∀{x:Int},0<=x/\x<256->wrap .u32 x=x:=λhx=>by rw[wrap_u32];omega
 have s8:∀{x:Int},0<=x/\x<256->ishl .u32 x 8=x*2^8:=fun{x} hx=>by show wrap .u32 (x*2^8)=_;rw[wrap_u32];omega
 have s16:∀{x:Int},0<=x/\x<256->ishl .u32 x 16=x*2^16:=fun{x} hx=>by show wrap .u32 (x*2^16)=_;rw[wrap_u32];omega
 have s24:∀{x:Int},0<=x/\x<256->ishl .u32 x 24=x*2^24:=fun{x} hx=>by show wrap .u32 (x*2^24)=_;rw[wrap_u32];omega
 rw[w ha,w hb,w hc,w hd,s8 hb,s16 hc,s24 hd]
 rw[yh ⟨by omega,by omega⟩ ⟨by omega,by omega⟩ 8 (by omega) (by omega),yh ⟨by omega,by omega⟩ ⟨by omega,by omega⟩ 16 (by omega) (by omega),yh ⟨by omega,by omega⟩ ⟨by omega,by omega⟩ 24 (by omega) (by omega)]
theorem zE{a b c d:Int}(ha:0<=a/\a<256)(hb:0<=b/\b<256)(hc:0<=c/\c<256)(hd:0<=d/\d<256)(k:Nat)(hk:k<4):dig (a+b*2^8+c*2^16+d*2^24) k=if k=0 then a else if k=1 then b else if k=2 then c else d:=by
 have hk:k=0\/k=1\/k=2\/k=3:=by omega
 rcases hk with rfl|rfl|rfl|rfl<;>simp[dig]<;>omega
theorem Qvh{P:Nat}{m:List Int}(h:Q0q P m)(f:Int):Q5o m f=decide (0<=f/\f<P):=by
 have hp:=Q1z h
 simp only[Q5o,Q8v,Tree.m,letv,hp]
 by_cases h1:0<=f
 ·rw[dY h1];simp[h1]
 ·rw[dN h1];simp[h1]
theorem yE(s:List UInt8)(a b k:Nat)(h:k<b):(cW b (cX a s)).getD k 0=s.getD (a+k) 0:=by
 simp[cZ,aU,h]
theorem u8I(x:UInt8):0<=(x.toNat:Int)/\(x.toNat:Int)<256:=by have:=x.toNat_lt;omega
theorem Qsd{P:Nat}{m:List Int}(h:Q0q P m){f:Int}(f0:0<=f)(f1:f<P){s:List UInt8}(hs:s.length=128):(Q3i m f s).w (λr=>r.2=true/\Q0q P r.1/\∀b:Nat,byt r.1 b=if f*128<=b/\(b:Int)<f*128+128 then((s.getD (b-f*128).toNat 0).toNat:Int)else byt m b):=by
 have hcl:Q03 m=m:=rfl
 have h2:=h.p2
 unfold Q3i
 refine w_an (Q9n h) (w_lv λx0 hx0=>w_lv λx1 hx1=>?_)
 rw[hcl]at hx0;subst hx0
 rw[Qvh h,dY ⟨f0,f1⟩]at hx1
 subst hx1
 refine w_br (λhb=>by cases hb) λ_=>w_br (λhb=>by simp[hs]at hb) λ_=>?_
 refine w_lp (inv:=λz:Int×List Int=>0<=z.1/\z.1<=32/\Q0q P z.2/\∀b:Nat,byt z.2 b=if f*128<=b/\(b:Int)<f*128+4*z.1 then((s.getD (b-f*128).toNat 0).toNat:Int)else byt x0 b) (μ:=Qbc x0 f s) ⟨show(0:Int)<=0 by decide,show(0:Int)<=32 by decide,h,λb=>by rw[if_neg];show¬(_/\_<_+4*(0:Int));omega⟩ (cL _) λz ⟨z1,z2,z3,z4⟩=>?_
 refine w_br (λhb=>?_) (λhb=>⟨rfl,z3,λb=>?_⟩)
 ·have hb:=oY hb
  have e1:i64.wrap (4*z.1)=4*z.1:=by rw[wrap_i64];omega
  have e2:i64.wrap (i64.wrap (4*z.1)+4)=4*z.1+4:=by rw[wrap_i64,wrap_i64];omega
  have e3:i64.wrap (i64.wrap (f*32)+z.1)=f*32+z.1:=by rw[wrap_i64,wrap_i64];omega
  have hl:=z3.len
  have cut:dB (i64.wrap (i64.wrap (4*z.1)+4))-dB (i64.wrap (4*z.1))=4:=by rw[e2,e1];omega
  have hlen:(cW (dB (i64.wrap (i64.wrap (4*z.1)+4))-dB (i64.wrap (4*z.1))) (cX (dB (i64.wrap (4*z.1))) s)).length=4:=by
   rw[cut,e1,bD,bF];omega
  refine w_cn (dY (by rw[e2,e1];omega)) ?_
  refine w_cn (dY (by rw[hlen];decide)) (w_cn (dY (by rw[hlen];decide)) (w_cn (dY (by rw[hlen];decide)) (w_cn (dY (by rw[hlen];decide)) (w_cn (by rw[e3];simp[bJ];omega) (w_nx ?_)))))
  have ew:i64.wrap (z.1+1)=z.1+1:=by rw[wrap_i64];omega
  rw[cut]
  refine⟨⟨by show 0<=i64.wrap (z.1+1);rw[ew];omega,by show i64.wrap (z.1+1)<=32;rw[ew];omega,?_,?_⟩,by show(32-i64.wrap (z.1+1)).toNat<(32-z.1).toNat;rw[ew];omega⟩
  ·show Q0q P (dC _ _ _)
   exact⟨by rw[dD];exact hl,z3.p1,z3.p2,Z4k z3.u (U_or _ _) _⟩
  ·intro b
   show byt (dC z.2 (dB (i64.wrap (i64.wrap (f*32)+z.1))) _) b=if f*128<=(b:Int)/\(b:Int)<f*128+4*i64.wrap (z.1+1)then _ else _
   rw[e3,ew,four (u8I _) (u8I _) (u8I _) (u8I _),Zga (by omega)]
   have g:∀k:Nat,k<4->(cW 4 (cX (dB (i64.wrap (4*z.1))) s)).getD k 0=s.getD ((4*z.1).toNat+k) 0:=λk hk=>by rw[e1];exact yE _ _ _ _ hk
   by_cases hc:b/4=(f*32+z.1).toNat
   ·have hin:f*128<=(b:Int)/\(b:Int)<f*128+4*(z.1+1):=by omega
    rw[if_pos hc,zE (u8I _) (u8I _) (u8I _) (u8I _) _ (by omega),if_pos hin]
    have hb4:b%4=0\/b%4=1\/b%4=2\/b%4=3:=by omega
    have gi:(b-f*128).toNat=(4*z.1).toNat+b%4:=by omega
    rw[gi]
    rcases hb4 with h4|h4|h4|h4<;>rw[h4]
    ·rw[if_pos rfl,<-g 0 (by omega)];rfl
    ·rw[if_neg (by decide),if_pos rfl,<-g 1 (by omega)];rfl
    ·rw[if_neg (by decide),if_neg (by decide),if_pos rfl,<-g 2 (by omega)];rfl
    ·rw[if_neg (by decide),if_neg (by decide),if_neg (by decide),<-g 3 (by omega)];rfl
   ·rw[if_neg hc,z4 b]
    by_cases hd:f*128<=(b:Int)/\(b:Int)<f*128+4*z.1
    ·rw[if_pos hd,if_pos (by omega)]
    ·rw[if_neg hd,if_neg (by omega)]
 ·have hb:=oN hb
  show byt z.2 b=_
  rw[z4 b,show z.1=32 by omega]
  rfl
theorem Z8h{α:Type}(l l2:List α)(k:Nat)(z:α):(l++l2).getD k z=if k<l.length then l.getD k z else l2.getD (k-l.length) z:=by
 simp only[cZ,List.getElem?_append]
 split<;>rfl
theorem u8w{x:Int}:wrap .u8 x=x%256:=wrap_u8 x
theorem shr_c(W:Int):ishr .u32 W 8=W/256/\ishr .u32 W 16=W/65536/\ishr .u32 W 24=W/16777216:=by
 refine⟨?_,?_,?_⟩
 ·show eD W 256=_;rw[dK _ (by decide)]
 ·show eD W 65536=_;rw[dK _ (by decide)]
 ·show eD W 16777216=_;rw[dK _ (by decide)]
theorem b4d(W:Int){k:Nat}(hk:k<4):[wrap .u8 W,wrap .u8 (ishr .u32 W 8),wrap .u8 (ishr .u32 W 16),wrap .u8 (ishr .u32 W 24)].getD k 0=dig W k:=by
 obtain⟨a,b,c⟩:=shr_c W
 have hk:k=0\/k=1\/k=2\/k=3:=by omega
 rcases hk with rfl|rfl|rfl|rfl<;>simp[dig,a,b,c,u8w]
theorem Qng(l:List Int)(k:Nat)(h:0<=l.getD k 0/\l.getD k 0<256)(hk:k<l.length):(((bytesOf l).getD k 0).toNat:Int)=l.getD k 0:=by
 have e:(bytesOf l).getD k 0=eR (l.getD k 0).toNat:=by
  simp[bytesOf,cZ,hk]
 rw[e,UInt8.toNat_ofNat']
 omega
theorem Zic(l:List UInt8)(k:Nat)(hk:k<l.length):(Qbt l).getD k 0=((l.getD k 0).toNat:Int):=by
 simp[Qbt,cZ,hk]
theorem zat(w:List Int)(h:w.length<=32):(Q5k w).w (λr=>r.length=4*w.length/\∀k:Nat,k<4*w.length->((r.getD k 0).toNat:Int)=dig (w.getD (k/4) 0) (k%4)):=by
 have e0:i64.wrap (4*(w.length:Int))=4*w.length:=by rw[wrap_i64];omega
 unfold Q5k
 refine w_cn (by rw[e0];simp[bJ,D.plain];omega) ?_
 refine w_lp (inv:=λz:Int×List Int=>0<=z.1/\z.1<=w.length/\(z.2.length:Int)=4*z.1/\∀k:Nat,(k:Int)<4*z.1->z.2.getD k 0=dig (w.getD (k/4) 0) (k%4)) (μ:=Q7o w) ⟨by decide,by show(0:Int)<=w.length;omega,rfl,λk hk=>by have hk:(k:Int)<4*0:=hk;omega⟩ (cL _) λz ⟨z1,z2,z3,z4⟩=>?_
 refine w_br (λhb=>?_) (λhb=>?_)
 ·have hb:=oY hb
  have ew:i64.wrap (z.1+1)=z.1+1:=by rw[wrap_i64];omega
  refine w_cn (by simp[bJ];omega) (w_cn (dY (by omega)) (w_nx ?_))
  show(_/\_/\_/\∀k:Nat,(k:Int)<4*i64.wrap (z.1+1)->(z.2++_).getD k 0=_)/\(_:Nat)<_
  refine⟨⟨by rw[ew];omega,by rw[ew];omega,by rw[ew,lA];simp only[dE,dF];omega,λk hk=>?_⟩,by show(w.length-i64.wrap (z.1+1)).toNat<(w.length-z.1).toNat;rw[ew];omega⟩
  rw[ew]at hk
  rw[Z8h]
  split
  ·exact z4 k (by omega)
  ·rename_i hn
   rw[b4d _ (by omega),show z.1.toNat=k/4 by omega,show k-z.2.length=k%4 by omega]
 ·have hb:=oN hb
  show(bytesOf z.2).length=_/\∀k:Nat,_->(((bytesOf z.2).getD k 0).toNat:Int)=_
  refine⟨by rw[Qj2];omega,λk hk=>?_⟩
  have e:=z4 k (by omega)
  have:=qh (w.getD (k/4) 0) (k%4)
  rw[Qng _ _ (by rw[e];exact this) (by omega),e]
def isPg(m:List Int)(f:Int)(r:List UInt8):Prop:=r.length=128/\∀k:Nat,k<128->((r.getD k 0).toNat:Int)=byt m ((f*128).toNat+k)
theorem qS{m:List Int}{f:Int}{r s:List UInt8}(a:isPg m f r)(b:isPg m f s):r=s:=by
 obtain⟨a1,a2⟩:=a
 obtain⟨b1,b2⟩:=b
 refine bN (by omega) λi h1 h2=>?_
 have e:=(a2 i (by omega)).trans (b2 i (by omega)).symm
 have e1:r[i]=r.getD i 0:=by simp[aK,h1]
 have e2:s[i]=s.getD i 0:=by simp[aK,h2]
 rw[e1,e2]
 exact UInt8.toNat_inj.1 (by omega)
theorem Qrs{P:Nat}{m:List Int}(h:Q0q P m){f:Int}(f0:0<=f)(f1:f<P):(Q5l m f).w (λr=>isPg m f r.1/\r.2=true):=by
 have hl:=h.len
 have h2:=h.p2
 unfold Q5l
 refine w_lv λx0 hx0=>?_
 rw[Qvh h,dY ⟨f0,f1⟩]at hx0
 subst hx0
 refine w_br (λhb=>by cases hb) (λhb=>?_)
 have e1:i64.wrap (f*32)=f*32:=by rw[wrap_i64];omega
 have e2:i64.wrap (i64.wrap (f*32)+32)=f*32+32:=by rw[wrap_i64,wrap_i64];omega
 have cut:dB (i64.wrap (i64.wrap (f*32)+32))-dB (i64.wrap (f*32))=32:=by rw[e2,e1];omega
 have hlen:(cW 32 (cX (dB (i64.wrap (f*32))) m)).length=32:=by
  rw[e1,bD,bF];omega
 refine w_cn (by rw[e2,e1];simp[bJ];omega) ?_
 rw[cut]
 refine w_an (by show dG _<=1000000000000;rw[hlen];decide) (w_lv λx1 h1=>?_)
 have t:=(Tree.pp (zat _ (dH hlen))).2
 rw[hlen,show(Q5k (cW 32 (cX (dB (i64.wrap (f*32))) m))).m=x1 from h1.symm]at t
 refine⟨⟨t.1,λk hk=>?_⟩,rfl⟩
 show((x1.getD k 0).toNat:Int)=_
 rw[t.2 k hk,byt,e1]
 have g:(cW 32 (cX (dB (f*32)) m)).getD (k/4) 0=m.getD ((f*32).toNat+k/4) 0:=by
  simp[cZ,aU,show k/4<32 by omega]
 rw[g,show((f*128).toNat+k)/4=(f*32).toNat+k/4 by omega,show((f*128).toNat+k)%4=k%4 by omega]
theorem xat(x:Int):Z95 x 4=bytesOf [wrap .u8 (ishr .u32 x 0),wrap .u8 (ishr .u32 x 8),wrap .u8 (ishr .u32 x 16),wrap .u8 (ishr .u32 x 24)]:=by kernel_rfl
theorem z8{P:Nat}{m:List Int}(hm:Q0q P m){frame:Int}(f0:0<=frame)(f1:frame<P):(Qa2 m frame).w (λr=>isPg m frame r.1/\r.2=true):=by
 have hp:=Qew hm
 have hl:=hm.len
 have h2:=hm.p2
 unfold Qa2
 refine w_br (λh=>by have:=oY h;omega) (λh=>w_lv λx0 hx=>w_br (λh1=>by have:=oY h1;rw[hx,hp]at this;omega) (λh1=>?_))
 refine w_lp (inv:=λz:Int×List Int=>0<=z.1/\z.1<=32/\(z.2.length:Int)=4*z.1/\∀k:Nat,(k:Int)<4*z.1->z.2.getD k 0=byt m ((frame*128).toNat+k)) (μ:=Qiw m frame) ⟨by decide,by decide,rfl,λk hk=>by have hk:(k:Int)<4*0:=hk;omega⟩ (cL _) (λz hz=>?_)
 obtain⟨z1,z2,z3,z4⟩:=hz
 refine w_br (λhb=>?_) (λhb=>?_)
 ·have hb:=oY hb
  have e:wrap i64 (wrap i64 (frame*32)+z.1)=frame*32+z.1:=by rw[wrap_i64,wrap_i64];omega
  refine w_cn (by rw[e];simp[bJ];omega) (w_an (show(4:Int)<=1000000000000 by decide) (w_lv λx1 h4=>?_))
  rw[xat,shr0,e]at h4
  have l4:x1.length=4:=by rw[h4];rfl
  refine w_cn (dY (by rw[Qq3,l4];omega)) (w_nx ?_)
  show(0<=i64.wrap (z.1+1)/\i64.wrap (z.1+1)<=32/\((z.2++Qbt x1).length:Int)=4*i64.wrap (z.1+1)/\∀k:Nat,(k:Int)<4*i64.wrap (z.1+1)->(z.2++Qbt x1).getD k 0=_)/\(32-i64.wrap (z.1+1)).toNat<(32-z.1).toNat
  have ew:i64.wrap (z.1+1)=z.1+1:=by rw[wrap_i64];omega
  rw[ew]
  refine⟨⟨by omega,by omega,by rw[lA,Qq3,l4];omega,λk hk=>?_⟩,by omega⟩
  rw[Z8h]
  split
  ·exact z4 k (by omega)
  ·rename_i hn
   have hk4:k-z.2.length<4:=by omega
   rw[Zic _ _ (by omega),h4]
   have d:=b4d (m.getD (frame*32+z.1).toNat 0) hk4
   rw[Qng _ _ (by rw[d];exact qh _ _) (by simpa using hk4),d,byt]
   rw[show((frame*128).toNat+k)/4=(frame*32+z.1).toNat by omega,show((frame*128).toNat+k)%4=k-z.2.length by omega]
 ·have hb:=oN hb
  refine⟨⟨?_,λk hk=>?_⟩,rfl⟩
  ·show(bytesOf z.2).length=128
   rw[Qj2];omega
  ·show(((bytesOf z.2).getD k 0).toNat:Int)=_
   have e:=z4 k (by omega)
   rw[Qng _ _ (by rw[e];exact qh _ _) (by omega),e]
theorem Ze3{P:Nat}{m:List Int}(h:Q0q P m)(f:Int):Q12 m f=Qhd m f:=by
 by_cases hf:0<=f/\f<P
 ·have a:=(Tree.pp (Qrs h hf.1 hf.2)).2
  have b:=(Tree.pp (z8 h hf.1 hf.2)).2
  exact eS (qS a.1 b.1) (a.2.trans b.2.symm)
 ·have hp:=Qew h
  have e1:Q12 m f=([],false):=by
   simp only[Q12,Q5l,Tree.m,letv,Qvh h,dN hf];rfl
  have e2:Qhd m f=([],false):=by
   simp only[Qhd,Qa2,Tree.m,letv,hp]
   by_cases h0:f<0
   ·rw[dY h0];rfl
   ·rw[dN h0,dY (show f>=P by omega)];rfl
  rw[e1,e2]
section
variable {P:Nat} {m:List Int} (h:Q0q P m)
include h
theorem Zg5{f:Int}(f0:0<=f)(f1:f<P){s:List UInt8}(hs:s.length=128):Q0r m f s=(Qks m f s,true):=by
 have a:=(Tree.pp (Qsd h f0 f1 hs)).2
 have b:=(Tree.pp (vR h f0 f1 s)).2
 refine eS (Zir (a.2.1.len.trans b.1.len.symm) a.2.1.u b.1.u λk=>?_) a.1
 have e:((min s.length 128:Nat):Int)=128:=by rw[hs];rfl
 have b2:=b.2 k
 have a2:=a.2.2 k
 rw[e]at b2
 exact a2.trans b2.symm
theorem Zea{f:Int}(f0:0<=f)(f1:f<P){s r:List UInt8}(hs:s.length<=128)(hr:isPg m f r):Q0r m f (s++r.drop s.length)=(Qks m f s,true):=by
 have hl:(s++r.drop s.length).length=128:=by have:=hr.1;simp;omega
 have a:=(Tree.pp (Qsd h f0 f1 hl)).2
 have b:=(Tree.pp (vR h f0 f1 s)).2
 refine eS (Zir (a.2.1.len.trans b.1.len.symm) a.2.1.u b.1.u λk=>?_) a.1
 have b2:=b.2 k
 have a2:=a.2.2 k
 refine a2.trans (Eq.trans ?_ b2.symm)
 by_cases hc:f*128<=(k:Int)/\(k:Int)<f*128+128
 ·rw [if_pos hc,Z8h]
  by_cases hd:(k-f*128).toNat<s.length
  ·rw[if_pos hd,if_pos (by omega)]
  ·rw[if_neg hd,if_neg (by omega)]
   have e:(r.drop s.length).getD ((k-f*128).toNat-s.length) 0=r.getD (k-f*128).toNat 0:=by
    simp[cZ,show s.length+((k-f*128).toNat-s.length)=(k-f*128).toNat by omega]
   rw[e,hr.2 _ (by omega),show(f*128).toNat+(k-f*128).toNat=k by omega]
 ·rw[if_neg hc,if_neg (by omega)]
theorem Qb2{a:Int}(ha:U a){size:Int}(hs:size=1\/size=4):Q36 m a size=decide (a%size=0/\a<128*P):=by
 have hq:=Qew h
 have h2:=h.p2
 have a0:=ha.1
 have e:wrap u32 size=size:=by rcases hs with rfl|rfl<;>decide
 have e0:decide (wrap u32 size≠0)=true:=by rcases hs with rfl|rfl<;>decide
 have t:dA a (wrap u32 size)=a%size:=by rw[e,eA a0]
 have l:∀x,x=Q4p m->a%size=0->decide (a<wrap u32 (wrap i64 (128*x)))=decide (a%size=0/\a<128*P):=λx hx hz=>by
  rw[hx,hq,wrap_u32,wrap_i64]
  exact decide_eq_decide.2 ⟨λh=>⟨hz,by omega⟩,λh=>by omega⟩
 refine Tree.post (Q8g m a size) (W:=λb=>b=decide (a%size=0/\a<128*P)) ?_
 unfold Q8g
 refine w_br (λh1=>w_br (λh4=>?_) (λ_=>?_)) (λ_=>?_)
 ·have h1:¬size=1:=by simpa using h1
  have h4:¬size=4:=by simpa using h4
  omega
 all_goals
  refine w_cn e0 (w_br (λhb=>w_lv λx hx=>l x hx ?_) (λhb=>?_))
  ·rw[t]at hb;exact eq_of_beq hb
  ·rw[t]at hb
   exact(dN (λh=>by rw[h.1]at hb;cases hb)).symm
theorem Qe2{a:Int}(ha:U a){size:Int}(hs:size=1\/size=4):Q20 m a size=Q36 m a size:=by
 rw[Qb2 h ha hs]
 have hq:=Qku h
 have h2:=h.p2
 have a0:=ha.1
 have a1:=ha.2
 have e:wrap u32 size=size:=by rcases hs with rfl|rfl<;>decide
 have e0:decide (wrap u32 size≠0)=true:=by rcases hs with rfl|rfl<;>decide
 have t:dA a (wrap u32 size)=a%size:=by rw[e,eA a0]
 have l:∀x,x=Q1 m->a%size=0->decide (wrap u64 (wrap u64 a+wrap u64 size)<=wrap u64 (wrap u64 x*128))=decide (a%size=0/\a<128*P):=λx hx hz=>by
  rw[hx,hq]
  simp only[wrap_u64]
  refine decide_eq_decide.2 ⟨λh=>⟨hz,?_⟩,λh=>?_⟩<;>rcases hs with rfl|rfl<;>omega
 refine Tree.post (Q6e m a size) (W:=λb=>b=decide (a%size=0/\a<128*P)) ?_
 unfold Q6e
 refine w_br (λh1=>w_br (λh4=>?_) (λ_=>?_)) (λ_=>?_)
 ·have h1:¬size=1:=by simpa using h1
  have h4:¬size=4:=by simpa using h4
  omega
 all_goals
  refine w_cn e0 (w_br (λhb=>?_) (λhb=>w_lv λx hx=>l x hx ?_))
  ·rw[t]at hb
   exact(dN (λh=>by rw[h.1]at hb;cases hb)).symm
  ·rw[t]at hb;simpa using hb
end
theorem fldj(w:Int):Q3c w 0 8=iand .u32 (ishr .u32 w 0) 255/\Q3c w 8 8=iand .u32 (ishr .u32 w 8) 255/\Q3c w 16 8=iand .u32 (ishr .u32 w 16) 255/\Q3c w 24 8=iand .u32 (ishr .u32 w 24) 255:=
 ⟨by kernel_rfl,by kernel_rfl,by kernel_rfl,by kernel_rfl⟩
theorem setj(w v:Int):Q6u w 0 8 v=putW w v 0/\Q6u w 8 8 v=putW w v 8/\Q6u w 16 8 v=putW w v 16/\Q6u w 24 8 v=putW w v 24:=
 ⟨by kernel_rfl,by kernel_rfl,by kernel_rfl,by kernel_rfl⟩
theorem vh{a:Int}(ha:U a):wrap .i64 (wrap .i64 (dA a 4)*8)=8*(a%4)/\wrap .u32 (8*dA a 4)=8*(a%4):=by
 obtain⟨a0,a1⟩:=ha
 rw[eA a0]
 exact⟨by rw[wrap_i64,wrap_i64];omega,by rw[wrap_u32];omega⟩
section
variable {P:Nat} {m:List Int} (h:Q0q P m)
include h
theorem Qnl{a:Int}(ha:U a){size:Int}(hs:size=1\/size=4):Q0x m a size=Q2w m a size:=by
 have e:=Qe2 h ha hs
 obtain⟨s1,s2⟩:=vh ha
 have f:Q3c (m.getD (dB (wrap .u32 (eN a 4))) 0) (8*(a%4)) 8=iand .u32 (ishr .u32 (m.getD (dB (wrap .u32 (eN a 4))) 0) (8*(a%4))) 255:=by
  obtain⟨f0,f1,f2,f3⟩:=fldj (m.getD (dB (wrap .u32 (eN a 4))) 0)
  have:a%4=0\/a%4=1\/a%4=2\/a%4=3:=by omega
  rcases this with h|h|h|h<;>rw[h]
  ·exact f0
  ·exact f1
  ·exact f2
  ·exact f3
 simp only[Q0x,Qaf,Q2w,Q7c,Tree.m,letv,e,s1,s2,f]
omit h in
theorem Z8s(a size:Int):(Q2w m a size).2=Q36 m a size:=by
 simp only[Q2w,Q7c,Tree.m,letv]
 cases Q36 m a size
 ·rfl
 ·cases size==1<;>rfl
theorem Z5z{a:Int}(ha:U a){size:Int}(hs:size=1\/size=4)(v:Int):Q23 m a size v=bif Q36 m a size then(Qat m a size v,true)else(m,false):=by
 have hcl:Q03 m=m:=rfl
 have e:=Qe2 h ha hs
 obtain⟨s1,s2⟩:=vh ha
 have f:∀w,Q6u w (8*(a%4)) 8 v=ior .u32 (Q7 .u32 w (ishl .u32 255 (8*(a%4)))) (ishl .u32 (iand .u32 v 255) (8*(a%4))):=λw=>by
  obtain⟨f0,f1,f2,f3⟩:=setj w v
  have:a%4=0\/a%4=1\/a%4=2\/a%4=3:=by omega
  rcases this with h|h|h|h<;>rw[h]
  ·exact f0
  ·exact f1
  ·exact f2
  ·exact f3
 simp only[Q23,Q9,Qat,Qdw,Tree.m,letv,hcl,e,s1,s2,f]
 rcases hs with rfl|rfl<;>cases Q36 m a _<;>rfl
end
section
variable {P:Nat} {m:List Int} (h:Q0q P m)
include h
theorem qi{root va:Int}(hr:U root)(hv:U va){access:Int}(ha:access=1\/access=2\/access=3):Q0t m root va access=Q75 m root va access:=by
 have hp:=Qew h
 have h2:=h.p2
 have hlen:=h.len
 obtain⟨r1,r2⟩:=hr
 obtain⟨v1,v2⟩:=hv
 have hpg:∀{f:Int},U f->Q1j m f=decide (f<P):=λhf=>Qt1 h hf
 have eP:wrap .u32 (P:Int)=P:=by rw[wrap_u32];omega
 have kn:Qgw access=true:=by rcases ha with rfl|rfl|rfl<;>rfl
 have ca:Q17 access=(Q42 access,true):=by rcases ha with rfl|rfl|rfl<;>rfl
 simp only[Q0t,Qac,Q75,Qaa,Tree.m,letv,hp,eP,kn,ca,hpg ⟨r1,r2⟩]
 by_cases c1:va>=4096
 ·rw[dY c1];rfl
 by_cases c2:root<P
 ·have eE:wrap u32 (wrap u32 (root*128)+wrap u32 (4*wrap u32 (eN va 128)))=root*128+4*(va/128):=by
   rw[eO v1,wrap_u32,wrap_u32,wrap_u32,wrap_u32];omega
  have hE:U (root*128+4*(va/128)):=⟨by omega,by omega⟩
  have wi:Q36 m (root*128+4*(va/128)) 4=true:=by
   rw[Qb2 h hE (.inr rfl)];exact dY ⟨by omega,by omega⟩
  rw[dN c1,dY c2,dN (show¬root>=P by omega),eE,Qnl h hE (.inr rfl),Z8s,wi]
  have ld:(Q2w m (root*128+4*(va/128)) 4).1=m.getD (dB (wrap .u32 (eN (root*128+4*(va/128)) 4))) 0:=by
   simp only[Q2w,Q7c,Tree.m,letv,wi];rfl
  rw[ld]
  generalize m.getD (dB (wrap .u32 (eN (root*128+4*(va/128)) 4))) 0=w
  have fo:Q21 w=iand .u32 (ishr .u32 w 8) 255:=(fld w).2.2.2.2
  rw[fo,hpg (Z9q _ _)]
  have hge:decide (iand .u32 (ishr .u32 w 8) 255>=(P:Int))=!decide (iand .u32 (ishr .u32 w 8) 255<(P:Int)):=by
   by_cases hq:iand .u32 (ishr .u32 w 8) 255<(P:Int)
   ·rw[dY hq,dN (by omega)];rfl
   ·rw[dN hq,dY (by omega)];rfl
  rw[hge]
  generalize decide (iand .u32 (ishr .u32 w 8) 255<(P:Int))=d
  rcases ha with rfl|rfl|rfl
  ·show _=(bif iand .u32 w 1==0 then _ else bif iand .u32 w 4==0 then _ else bif !d then _ else _)
   have:Q2k w 1=(bif iand .u32 w 1==0 then false else !(iand .u32 w 4==0)):=rfl
   rw[this]
   cases iand .u32 w 1==0<;>cases iand .u32 w 4==0<;>cases d<;>rfl
  ·show _=(bif iand .u32 w 1==0 then _ else bif !d then _ else _)
   have:Q2k w 2=(bif iand .u32 w 1==0 then false else true):=rfl
   rw[this]
   cases iand .u32 w 1==0<;>cases d<;>rfl
  ·show _=(bif iand .u32 w 1==0 then _ else bif iand .u32 w 2==0 then _ else bif !d then _ else _)
   have:Q2k w 3=(bif iand .u32 w 1==0 then false else !(iand .u32 w 2==0)):=rfl
   rw[this]
   cases iand .u32 w 1==0<;>cases iand .u32 w 2==0<;>cases d<;>rfl
 ·rw[dN c1,dN c2,dY (show root>=P by omega)];rfl
theorem Zn5{a:Int}(ha:U a)(access:Int):Q2n m a access=Qob m a access:=by
 have hcl:Q03 m=m:=rfl
 have hl:=h.len
 have a0:=ha.1
 simp only[Q2n,Q92,Qob,Qe1,Tree.m,letv,Qnl h ha (.inr rfl),Z8s,Z5z h ha (.inr rfl),hcl]
 cases hw:Q36 m a 4
 ·rfl
 ·rw[Qb2 h ha (.inr rfl)]at hw
  have hw:=oY hw
  have wi:Q36 m a 4=true:=by rw[Qb2 h ha (.inr rfl)];exact dY hw
  have ld:(Q2w m a 4).1=m.getD (dB (wrap .u32 (eN a 4))) 0:=by
   simp only[Q2w,Q7c,Tree.m,letv,wi];rfl
  have pu:∀v,Qat m a 4 v=m.set (dB (wrap .u32 (eN a 4))) v:=λv=>rfl
  rw[ld,pu,pu]
  have hi:dB (wrap .u32 (eN a 4))<m.length:=by
   rw[eO a0,wrap_u32];omega
  generalize dB (wrap .u32 (eN a 4))=i at*
  rw[Qgk hi,List.set_set]
  rfl
end
theorem Qlc{c:Q02}(h0:0<=c.B3.a0)(h:c.B3.a0<=31)(k b:Int):Q3a c k b=Q3d c k b:=by
 have e:=eq_of_beq (Qt9 (λs=>Q7 .u32 (ior .u32 (Q99 (Q99 s 1 8) 2 16) 1) 2==ior .u32 (Q7 .u32 (ior .u32 (ior .u32 (Q7 .u32 s 24) (wrap .u32 (8*Qbx (iand .u32 s 1 !=0)))) (wrap .u32 (16*Qbx (iand .u32 s 2 !=0)))) 2) 1) 32 (by kernel_rfl) h0 (by omega))
 simp only[Q3a,Qkk,Q3d,Qik,Tree.m,letv,e]
theorem Zgb{c:Q02}(h0:0<=c.B3.a0)(h:c.B3.a0<=31):Qel c=Qj5 c:=by
 have e:=eq_of_beq (Qt9 (λs=>Q99 (Q99 s 8 1) 16 2==ior .u32 (ior .u32 (Q7 .u32 s 3) (wrap .u32 (1*Qbx (iand .u32 s 8 !=0)))) (wrap .u32 (2*Qbx (iand .u32 s 16 !=0)))) 32 (by kernel_rfl) h0 (by omega))
 simp only[Qel,Qfi,Qj5,Qcx,Tree.m,letv,e]
theorem Znf{c:Q02}(h0:0<=c.B3.a0)(h:c.B3.a0<=31):Qpi c=(!Q58 c&&(iand .u32 c.B3.a0 4 !=0)):=
 eq_of_beq (Qt9 (λs=>(iand .u32 s 5==4)==(!(iand .u32 s 1 !=0)&&(iand .u32 s 4 !=0))) 32 (by kernel_rfl) h0 (by omega))
theorem Qzf(c:Q02){r:Int}(hr:0<=r/\r<16)(v:Int):Qbb c r v=Q24 c r v:=by
 simp only[Qbb,Qd9,Q24,Qe5,Tree.m]
 by_cases h:r=0
 ·subst h;rfl
 ·rw[dY (show r>0 by omega),dY hr.2,show(r !=0)=true by simpa using h];rfl
theorem vE{a b:Int}(ha:U a)(hb:U b):Qc2 a b=Qc6 a b:=by
 obtain⟨a0,a1⟩:=ha
 obtain⟨b0,b1⟩:=hb
 have i:∀x,wrap .i64 (wrap .i32 x)=wrap .i32 x:=λx=>by rw[wrap_i64,wrap_i32];omega
 have r32:∀x,-2147483648<=wrap .i32 x/\wrap .i32 x<2147483648:=λx=>by rw[wrap_i32];omega
 have q32:∀x y:Int,-2147483648<=x/\x<2147483648-> -2147483648<=eN x y/\eN x y<=2147483648:=λx y hx=>by
  have h1:(eN x y).natAbs<=x.natAbs:=by rw[Int.natAbs_tdiv];exact Nat.div_le_self _ _
  omega
 simp only[Qc2,Qay,Qc6,Qak,Tree.m,i]
 cases hb:b==0
 ·have w:∀z,wrap .u32 (wrap .i32 z)=wrap .u32 z:=λz=>by rw[wrap_i32,wrap_u32,wrap_u32];omega
  have w2:wrap .i64 (eN (wrap .i32 a) (wrap .i32 b))=eN (wrap .i32 a) (wrap .i32 b):=by
   have:=q32 _ (wrap .i32 b) (r32 a)
   rw[wrap_i64];omega
  rw[w,w2]
  cases h1:a==2147483648
  ·rfl
  ·cases h2:b==4294967295
   ·rfl
   ·have h1:=eq_of_beq h1
    have h2:=eq_of_beq h2
    subst h1;subst h2
    rfl
 ·rfl
theorem qF{op a b:Int}(h0:1<=op)(h1:op<=23)(ha:U a)(hb:U b):Q52 op a b=Qcr op a b:=by
 have sub:wrap .u32 (a+wrap .u32 (0-b))=wrap .u32 (a-b):=by
  rw[wrap_u32,wrap_u32,wrap_u32];omega
 have hop:op=1\/op=2\/op=3\/op=4\/op=5\/op=6\/op=7\/op=8\/op=9\/op=10\/op=11\/op=12\/op=13\/op=14\/op=15\/op=16\/op=17\/op=18\/op=19\/op=20\/op=21\/op=22\/op=23:=by omega
 have d:=vE ha hb
 rcases hop with rfl|rfl|rfl|rfl|rfl|rfl|rfl|rfl|rfl|rfl|rfl|rfl|rfl|rfl|rfl|rfl|rfl|rfl|rfl|rfl|rfl|rfl|rfl
 ·rfl
 ·show(wrap .u32 (a+wrap .u32 (0-b)),true)=(wrap .u32 (a-b),true)
  rw[sub]
 ·rfl
 ·rfl
 ·rfl
 ·rfl
 ·rfl
 ·rfl
 ·rfl
 ·show((Qc2 a b).1,true)=((Qc6 a b).1,true)
  rw[d]
 ·show((Qc2 a b).2,true)=((Qc6 a b).2,true)
  rw[d]
 all_goals rfl
theorem Qny{P:Nat}{m:List Int}(h:Q0q P m){c:Q02}(hc:Q29 c)(hst:c.B3.a0<=31){va:Int}(hv:U va){size:Int}(hs:size=1\/size=4){access:Int}(ha:access=1\/access=2\/access=3):Q0y c m va size access=((Q1d c m va size access).1,(Q1d c m va size access).2.2,(Q1d c m va size access).2.1):=by
 have hcl:Q03 m=m:=rfl
 have kn:Qgw access=true:=by rcases ha with rfl|rfl|rfl<;>rfl
 have ca:Q9i access=(Q42 access,true):=by rcases ha with rfl|rfl|rfl<;>rfl
 have pg:=Znf hc.a0.1 hst
 have wk:=qi h hc.a6 hv ha
 have tc:Q2n m (Q75 m c.B3.a6 va access).D9 access=Qob m (Q75 m c.B3.a6 va access).D9 access:=Zn5 h (Tree.pp (xV h hc.a6 hv access)).2.2.1 access
 have sz:(bif size !=1 then bif size !=4 then false else true else true)=true:=by rcases hs with rfl|rfl<;>rfl
 simp only[Q0y,Qaq,Q1d,Q9o,Tree.m,letv,hcl,kn,ca,pg,wk,tc,Qnl h hv hs,Z8s]
 rcases hs with rfl|rfl<;>
 ·show(bif _ then _ else _)=_
  cases dA va _ !=0<;>cases Q58 c<;>cases iand .u32 c.B3.a0 4 !=0<;>cases(Q75 m c.B3.a6 va access).D1 !=0<;>cases Q36 m va _<;>rfl
theorem Z1q{α:Type}{Q:α->Prop}{c:Bool}{x y:α}(hx:Q x)(hy:Q y):Q (cond c x y):=by cases c<;>assumption
theorem y8(m:List Int)(root:Int){va:Int}(hv:U va)(access:Int):(Q75 m root va access).D1=0->(Q75 m root va access).Addr%4=va%4:=by
 have hc:Q42 access≠0:=by
   simp only[Q42,Q93,Tree.m]
   cases access==1<;>cases access==3<;>simp
 have q :(λt:Q18=>t.D1=0->t.Addr%4=va%4) (Q75 m root va access):=by
   simp only[Q75,Qaa,Tree.m,letv]
   repeat'(first
     |exact λe=>absurd e hc
     | (intro _
        show wrap .u32 (wrap .u32 (_*128)+dA va 128)%4=va%4
        rw[eA hv.1,wrap_u32,wrap_u32];omega)
     |refine Z1q (Q:=λt:Q18=>t.D1=0->t.Addr%4=va%4) ?_ ?_)
 exact q
theorem xF{c:Q02}{m:List Int}{va:Int}(hv:U va){size:Int}(hs:size=1\/size=4){access:Int}(ha:access=1\/access=2\/access=3):(Q1d c m va size access).2.1=0->(Q1d c m va size access).1%size=0:=by
 have kn:Qgw access=true:=by rcases ha with rfl|rfl|rfl<;>rfl
 have hc:Q42 access≠0:=by
  simp only[Q42,Q93,Tree.m]
  cases access==1<;>cases access==3<;>simp
 rcases hs with rfl|rfl
 ·intro _;omega
 simp only[Q1d,Q9o,Tree.m,letv,kn]
 show(bif dA va 4 !=0 then((0:Int),(3:Int),m)else _).2.1=0->(bif dA va 4 !=0 then((0:Int),(3:Int),m)else _).1%4=0
 rw[eA hv.1]
 cases hz:va%4 !=0
 ·have hz:va%4=0:=by simpa using hz
  have w:=y8 m c.B3.a6 hv access
  cases hp:Qpi c
  ·cases hw:Q36 m va 4
   ·exactλe=>absurd e hc
   ·exactλ_=>hz
  ·cases hq:(Q75 m c.B3.a6 va access).D1 !=0
   ·have hq:(Q75 m c.B3.a6 va access).D1=0:=by simpa using hq
    exactλ_=>(w hq).trans hz
   ·have hq:¬(Q75 m c.B3.a6 va access).D1=0:=by simpa using hq
    exactλe=>absurd e hq
 ·intro e;cases e
def eff0:Q1f:={C3:=0,C8:=0,D8:=0,Value:=0}
def Q4f(c:Q02)(m:List Int)(i:Q0g):Q02×List Int×Q1f:=
 bif i.Op==32 then((Q2q c m i).1,(Q2q c m i).2,eff0)else bif i.Op==33 then((Q2q c m i).1,(Q2q c m i).2,eff0)else bif i.Op==34 then((Q2q c m i).1,(Q2q c m i).2,eff0)
 else bif i.Op==35 then((Q3n c m i).1,(Q3n c m i).2,eff0)else bif i.Op==36 then((Q3n c m i).1,(Q3n c m i).2,eff0)else((Q5f c i).1,m,(Q5f c i).2)
def regX(c:Q02)(r:Int):Int:=aK (A16.l c.X) r.toNat 0
def Qkj(c:Q02)(m:List Int)(i:Q0g):Q02×Q1f×List Int:=
 bif decide (i.Op>=56)then((Qlk c i).1,(Qlk c i).2,m)else bif decide (i.Op>=40)then(Z3j c i,eff0,m)else bif decide (i.Op>=32)then((Q5n c m i).1,eff0,(Q5n c m i).2)
 else bif i.Op==24 then({X:=(Q24 c i.A (ishl .u32 (wrap .u32 i.Imm) 16)).X,Pc:=wrap .u32 ((Q24 c i.A (ishl .u32 (wrap .u32 i.Imm) 16)).Pc+4),B3:=(Q24 c i.A (ishl .u32 (wrap .u32 i.Imm) 16)).B3},eff0,m)
 else bif decide (i.Op<=13)then
  ({X:=(Q24 c i.A (Qcr i.Op (regX c i.B) (regX c i.C)).1).X,Pc:=wrap .u32 ((Q24 c i.A (Qcr i.Op (regX c i.B) (regX c i.C)).1).Pc+4),B3:=(Q24 c i.A (Qcr i.Op (regX c i.B) (regX c i.C)).1).B3},eff0,m)
 else({X:=(Q24 c i.A (Qcr i.Op (regX c i.B) (wrap .u32 i.Imm)).1).X,Pc:=wrap .u32 ((Q24 c i.A (Qcr i.Op (regX c i.B) (wrap .u32 i.Imm)).1).Pc+4),B3:=(Q24 c i.A (Qcr i.Op (regX c i.B) (wrap .u32 i.Imm)).1).B3},eff0,m)
def isOp(op:Int):Prop:=op=1\/op=2\/op=3\/op=4\/op=5\/op=6\/op=7\/op=8\/op=9\/op=10\/op=11\/op=12\/op=13\/op=16\/op=17\/op=18\/op=19\/op=20\/op=21\/op=22\/op=23\/op=24\/op=32\/op=33\/op=34\/op=35\/op=36\/op=40\/op=41\/op=42\/op=43\/op=44\/op=45\/op=48\/op=49\/op=56\/op=57\/op=58\/op=59\/op=60\/op=61\/op=62\/op=63\/op=64
theorem xS(c:Q02)(r v:Int):(Q24 c r v).Pc=c.Pc/\(Q24 c r v).B3=c.B3:=by
 simp only[Q24,Qe5,Tree.m]
 cases decide (r>0)
 ·exact⟨rfl,rfl⟩
 ·cases decide (r<16)<;>exact⟨rfl,rfl⟩
def adv(c:Q02):Q02:={X:=c.X,Pc:=wrap .u32 (c.Pc+4),B3:=c.B3}
def va(c:Q02)(B Imm:Int):Int:=wrap .u32 (aK (A16.l c.X) B.toNat 0+wrap .u32 Imm)
def ldP(c:Q02)(A v size:Int)(f:Int->Int)(y:Int×List Int×Int):Q02×List Int:=bif y.2.2 !=0 then(Q3a c y.2.2 v,y.2.1)else(adv (Qbb c A (f (Q0x y.2.1 y.1 size).1)),y.2.1)
def ldR(c:Q02)(A v size:Int)(f:Int->Int)(x:Int×Int×List Int):Q02×List Int:=bif x.2.1 !=0 then(Q3d c x.2.1 v,x.2.2)else(adv (Q24 c A (f (Q2w x.2.2 x.1 size).1)),x.2.2)
def stP(c:Q02)(A v size:Int)(y:Int×List Int×Int):Q02×List Int:=bif y.2.2 !=0 then(Q3a c y.2.2 v,y.2.1)else(adv c,(Q23 y.2.1 y.1 size (aK (A16.l c.X) A.toNat 0)).1)
def stR(c:Q02)(A v size:Int)(x:Int×Int×List Int):Q02×List Int:=bif x.2.1 !=0 then(Q3d c x.2.1 v,x.2.2)else(adv c,Qat x.2.2 x.1 size (aK (A16.l c.X) A.toNat 0))
theorem ld_eq(c:Q02)(m:List Int)(A B C Imm:Int):
 (Q2q c m ⟨32,A,B,C,Imm⟩=ldP c A (va c B Imm) 4 (λv=>v) (Q0y c m (va c B Imm) 4 2)/\Q5n c m ⟨32,A,B,C,Imm⟩=ldR c A (va c B Imm) 4 (λv=>v) (Q1d c m (va c B Imm) 4 2))/\
 (Q2q c m ⟨33,A,B,C,Imm⟩=ldP c A (va c B Imm) 1 (λv=>Q2y v 8) (Q0y c m (va c B Imm) 1 2)/\Q5n c m ⟨33,A,B,C,Imm⟩=ldR c A (va c B Imm) 1 (λv=>Q3s v 8) (Q1d c m (va c B Imm) 1 2))/\
 (Q2q c m ⟨34,A,B,C,Imm⟩=ldP c A (va c B Imm) 1 (λv=>v) (Q0y c m (va c B Imm) 1 2)/\Q5n c m ⟨34,A,B,C,Imm⟩=ldR c A (va c B Imm) 1 (λv=>v) (Q1d c m (va c B Imm) 1 2))/\
 (Q3n c m ⟨35,A,B,C,Imm⟩=stP c A (va c B Imm) 4 (Q0y c m (va c B Imm) 4 3)/\Q5n c m ⟨35,A,B,C,Imm⟩=stR c A (va c B Imm) 4 (Q1d c m (va c B Imm) 4 3))/\
 (Q3n c m ⟨36,A,B,C,Imm⟩=stP c A (va c B Imm) 1 (Q0y c m (va c B Imm) 1 3)/\Q5n c m ⟨36,A,B,C,Imm⟩=stR c A (va c B Imm) 1 (Q1d c m (va c B Imm) 1 3)):=
 ⟨⟨by kernel_rfl,by kernel_rfl⟩,⟨by kernel_rfl,by kernel_rfl⟩,⟨by kernel_rfl,by kernel_rfl⟩,⟨by kernel_rfl,by kernel_rfl⟩,⟨by kernel_rfl,by kernel_rfl⟩⟩
theorem v8{P:Nat}{m:List Int}(h:Q0q P m)(a:Int):Q2y (Q2w m a 1).1 8=Q3s (Q2w m a 1).1 8:=by
 have:∀x:Int×Bool,(∃w,U w/\x=(iand .u32 w 255,true))\/x=(0,false)->Q2y x.1 8=Q3s x.1 8:=λx hx=>by
  rcases hx with⟨w,hw,rfl⟩|rfl
  ·have e:=m255 hw
   exact sx8 (by show 0<=iand .u32 w 255;omega) (by show iand .u32 w 255<256;omega)
  ·rfl
 refine this _ ?_
 simp only[Q2w,Q7c,Tree.m,letv]
 cases Q36 m a 1
 ·exact .inr rfl
 ·exact .inl ⟨_,Qvl (Qi5 h.u _) _,rfl⟩
section
variable {P:Nat} {m:List Int} (h:Q0q P m) {c:Q02} (hc:Q29 c) (hst:c.B3.a0<=31)
include h hc hst
omit hst in
theorem Zh5{v:Int}(hv:U v){size:Int}(hs:size=1\/size=4)(access:Int):Q0q P (Q1d c m v size access).2.2/\U (Q1d c m v size access).1/\((Q1d c m v size access).2.1=0->(Q1d c m v size access).1<128*P):=(Tree.pp (Za0 h hc hv hs access)).2
theorem Zi6{A v:Int}(hA:0<=A/\A<16)(hv:U v){size:Int}(hs:size=1\/size=4){f g:Int->Int}(hf:∀{m':List Int},Q0q P m'->∀a,f (Q2w m' a size).1=g (Q2w m' a size).1):ldP c A v size f (Q0y c m v size 2)=ldR c A v size g (Q1d c m v size 2):=by
 rw[Qny h hc hst hv hs (.inr (.inl rfl))]
 obtain⟨k,u,_⟩:=Zh5 h hc hv hs 2
 generalize Q1d c m v size 2=x at*
 simp only[ldP,ldR,Qnl k u hs,Qlc hc.a0.1 hst,Qzf c hA,hf k]
theorem xi{A v:Int}(hv:U v){size:Int}(hs:size=1\/size=4):stP c A v size (Q0y c m v size 3)=stR c A v size (Q1d c m v size 3):=by
 rw[Qny h hc hst hv hs (.inr (.inr rfl))]
 obtain⟨k,u,b⟩:=Zh5 h hc hv hs 3
 have al:=xF (c:=c) (m:=m) hv hs (access:=3) (.inr (.inr rfl))
 generalize Q1d c m v size 3=x at*
 simp only[stP,stR,Z5z k u hs,Qlc hc.a0.1 hst,Qb2 k u hs]
 cases hq:x.2.1 !=0
 ·have hq:x.2.1=0:=by simpa using hq
  rw[dY ⟨al hq,b hq⟩];rfl
 ·rfl
end
theorem zF(c:Q02)(k v:Int):(Qgy c k v).Pc=c.Pc:=by
 simp only[Qgy,Qcd,Tree.m]
 repeat'(first|rfl|refine Z1q (Q:=λx:Q02=>x.Pc=c.Pc) ?_ ?_)
def setP(c:Q02)(A v p:Int):Q02:={X:=(Qbb c A v).X,Pc:=p,B3:=(Qbb c A v).B3}
def setR(c:Q02)(A v p:Int):Q02:={X:=(Q24 c A v).X,Pc:=p,B3:=(Q24 c A v).B3}
def nxt(c:Q02):Int:=wrap .u32 (c.Pc+4)
theorem Zd0(c:Q02){A:Int}(hA:0<=A/\A<16)(v p:Int):setP c A v p=setR c A v p:=by
 unfold setP setR;rw[Qzf c hA]
theorem Zh4(c:Q02)(A v:Int):adv (Q24 c A v)=setR c A v (nxt c):=by
 unfold adv setR nxt;rw[(xS c A v).1]
theorem brc(t:Bool)(x y:Q02)(m:List Int):((bif t then(x,eff0)else(y,eff0)).1,m,(bif t then(x,eff0)else(y,eff0)).2)=((bif t then x else y),m,eff0):=by cases t<;>rfl
def isOpB(op:Int):Bool:=decide (op=1)||decide (op=2)||decide (op=3)||decide (op=4)||decide (op=5)||decide (op=6)||decide (op=7)||decide (op=8)||decide (op=9)||decide (op=10)||decide (op=11)||decide (op=12)||decide (op=13)||decide (op=16)||decide (op=17)||decide (op=18)||decide (op=19)||decide (op=20)||decide (op=21)||decide (op=22)||decide (op=23)||decide (op=24)||decide (op=32)||decide (op=33)||decide (op=34)||decide (op=35)||decide (op=36)||decide (op=40)||decide (op=41)||decide (op=42)||decide (op=43)||decide (op=44)||decide (op=45)||decide (op=48)||decide (op=49)||decide (op=56)||decide (op=57)||decide (op=58)||decide (op=59)||decide (op=60)||decide (op=61)||decide (op=62)||decide (op=63)||decide (op=64)
section
variable {P:Nat} {m:List Int} (h:Q0q P m) {c:Q02} (hc:Q29 c) (hst:c.B3.a0<=31) {A B C Imm:Int} (hA:0<=A/\A<16)
include h hc hst hA
theorem zi{op:Int}(hop:isOp op):Q4f c m ⟨op,A,B,C,Imm⟩=((Qkj c m ⟨op,A,B,C,Imm⟩).1,(Qkj c m ⟨op,A,B,C,Imm⟩).2.2,(Qkj c m ⟨op,A,B,C,Imm⟩).2.1):=by
 have alu:∀{k y:Int},1<=k->k<=23->U y->((setP c A (Q52 k (regX c B) y).1 (nxt c),m,eff0):Q02×List Int×Q1f)=(adv (Q24 c A (Qcr k (regX c B) y).1),m,eff0):=λh1 h2 hy=>by
  rw[qF h1 h2 (show U (regX c B) from hc.r _) hy,Zh4,Zd0 c hA]
 have uC:U (regX c C):=hc.r _
 have uI:U (wrap .u32 Imm):=Q0s _
 obtain⟨⟨l1,l2⟩,⟨l3,l4⟩,⟨l5,l6⟩,⟨l7,l8⟩,⟨l9,l10⟩⟩:=ld_eq c m A B C Imm
 have hva:U (va c B Imm):=Q0s _
 rcases hop with rfl|rfl|rfl|rfl|rfl|rfl|rfl|rfl|rfl|rfl|rfl|rfl|rfl|rfl|rfl|rfl|rfl|rfl|rfl|rfl|rfl|rfl|rfl|rfl|rfl|rfl|rfl|rfl|rfl|rfl|rfl|rfl|rfl|rfl|rfl|rfl|rfl|rfl|rfl|rfl|rfl|rfl|rfl|rfl
 ·exact(show Q4f c m ⟨1,A,B,C,Imm⟩=(setP c A (Q52 1 (regX c B) (regX c C)).1 (nxt c),m,eff0) by kernel_rfl).trans ((alu (by decide) (by decide) uC).trans (by kernel_rfl))
 ·exact(show Q4f c m ⟨2,A,B,C,Imm⟩=(setP c A (Q52 2 (regX c B) (regX c C)).1 (nxt c),m,eff0) by kernel_rfl).trans ((alu (by decide) (by decide) uC).trans (by kernel_rfl))
 ·exact(show Q4f c m ⟨3,A,B,C,Imm⟩=(setP c A (Q52 3 (regX c B) (regX c C)).1 (nxt c),m,eff0) by kernel_rfl).trans ((alu (by decide) (by decide) uC).trans (by kernel_rfl))
 ·exact(show Q4f c m ⟨4,A,B,C,Imm⟩=(setP c A (Q52 4 (regX c B) (regX c C)).1 (nxt c),m,eff0) by kernel_rfl).trans ((alu (by decide) (by decide) uC).trans (by kernel_rfl))
 ·exact(show Q4f c m ⟨5,A,B,C,Imm⟩=(setP c A (Q52 5 (regX c B) (regX c C)).1 (nxt c),m,eff0) by kernel_rfl).trans ((alu (by decide) (by decide) uC).trans (by kernel_rfl))
 ·exact(show Q4f c m ⟨6,A,B,C,Imm⟩=(setP c A (Q52 6 (regX c B) (regX c C)).1 (nxt c),m,eff0) by kernel_rfl).trans ((alu (by decide) (by decide) uC).trans (by kernel_rfl))
 ·exact(show Q4f c m ⟨7,A,B,C,Imm⟩=(setP c A (Q52 7 (regX c B) (regX c C)).1 (nxt c),m,eff0) by kernel_rfl).trans ((alu (by decide) (by decide) uC).trans (by kernel_rfl))
 ·exact(show Q4f c m ⟨8,A,B,C,Imm⟩=(setP c A (Q52 8 (regX c B) (regX c C)).1 (nxt c),m,eff0) by kernel_rfl).trans ((alu (by decide) (by decide) uC).trans (by kernel_rfl))
 ·exact(show Q4f c m ⟨9,A,B,C,Imm⟩=(setP c A (Q52 9 (regX c B) (regX c C)).1 (nxt c),m,eff0) by kernel_rfl).trans ((alu (by decide) (by decide) uC).trans (by kernel_rfl))
 ·exact(show Q4f c m ⟨10,A,B,C,Imm⟩=(setP c A (Q52 10 (regX c B) (regX c C)).1 (nxt c),m,eff0) by kernel_rfl).trans ((alu (by decide) (by decide) uC).trans (by kernel_rfl))
 ·exact(show Q4f c m ⟨11,A,B,C,Imm⟩=(setP c A (Q52 11 (regX c B) (regX c C)).1 (nxt c),m,eff0) by kernel_rfl).trans ((alu (by decide) (by decide) uC).trans (by kernel_rfl))
 ·exact(show Q4f c m ⟨12,A,B,C,Imm⟩=(setP c A (Q52 12 (regX c B) (regX c C)).1 (nxt c),m,eff0) by kernel_rfl).trans ((alu (by decide) (by decide) uC).trans (by kernel_rfl))
 ·exact(show Q4f c m ⟨13,A,B,C,Imm⟩=(setP c A (Q52 13 (regX c B) (regX c C)).1 (nxt c),m,eff0) by kernel_rfl).trans ((alu (by decide) (by decide) uC).trans (by kernel_rfl))
 ·exact(show Q4f c m ⟨16,A,B,C,Imm⟩=(setP c A (Q52 16 (regX c B) (wrap .u32 Imm)).1 (nxt c),m,eff0) by kernel_rfl).trans ((alu (by decide) (by decide) uI).trans (by kernel_rfl))
 ·exact(show Q4f c m ⟨17,A,B,C,Imm⟩=(setP c A (Q52 17 (regX c B) (wrap .u32 Imm)).1 (nxt c),m,eff0) by kernel_rfl).trans ((alu (by decide) (by decide) uI).trans (by kernel_rfl))
 ·exact(show Q4f c m ⟨18,A,B,C,Imm⟩=(setP c A (Q52 18 (regX c B) (wrap .u32 Imm)).1 (nxt c),m,eff0) by kernel_rfl).trans ((alu (by decide) (by decide) uI).trans (by kernel_rfl))
 ·exact(show Q4f c m ⟨19,A,B,C,Imm⟩=(setP c A (Q52 19 (regX c B) (wrap .u32 Imm)).1 (nxt c),m,eff0) by kernel_rfl).trans ((alu (by decide) (by decide) uI).trans (by kernel_rfl))
 ·exact(show Q4f c m ⟨20,A,B,C,Imm⟩=(setP c A (Q52 20 (regX c B) (wrap .u32 Imm)).1 (nxt c),m,eff0) by kernel_rfl).trans ((alu (by decide) (by decide) uI).trans (by kernel_rfl))
 ·exact(show Q4f c m ⟨21,A,B,C,Imm⟩=(setP c A (Q52 21 (regX c B) (wrap .u32 Imm)).1 (nxt c),m,eff0) by kernel_rfl).trans ((alu (by decide) (by decide) uI).trans (by kernel_rfl))
 ·exact(show Q4f c m ⟨22,A,B,C,Imm⟩=(setP c A (Q52 22 (regX c B) (wrap .u32 Imm)).1 (nxt c),m,eff0) by kernel_rfl).trans ((alu (by decide) (by decide) uI).trans (by kernel_rfl))
 ·exact(show Q4f c m ⟨23,A,B,C,Imm⟩=(setP c A (Q52 23 (regX c B) (wrap .u32 Imm)).1 (nxt c),m,eff0) by kernel_rfl).trans ((alu (by decide) (by decide) uI).trans (by kernel_rfl))
 ·refine(show Q4f c m ⟨24,A,B,C,Imm⟩=(setP c A (ishl .u32 (wrap .u32 Imm) 16) (nxt c),m,eff0) by kernel_rfl).trans ?_
  rw[Zd0 c hA,<-Zh4];kernel_rfl
 ·have e:=Zi6 h hc hst hA hva (.inr rfl) (f:=λv=>v) (g:=λv=>v) (λ_ _=>rfl)
  rw[<-l1,<-l2]at e
  refine(show Q4f c m ⟨32,A,B,C,Imm⟩=((Q2q c m ⟨32,A,B,C,Imm⟩).1,(Q2q c m ⟨32,A,B,C,Imm⟩).2,eff0) by kernel_rfl).trans ?_
  rw[e];kernel_rfl
 ·have e:=Zi6 h hc hst hA hva (.inl rfl) (f:=λv=>Q2y v 8) (g:=λv=>Q3s v 8) (λhm a=>v8 hm a)
  rw[<-l3,<-l4]at e
  refine(show Q4f c m ⟨33,A,B,C,Imm⟩=((Q2q c m ⟨33,A,B,C,Imm⟩).1,(Q2q c m ⟨33,A,B,C,Imm⟩).2,eff0) by kernel_rfl).trans ?_
  rw[e];kernel_rfl
 ·have e:=Zi6 h hc hst hA hva (.inl rfl) (f:=λv=>v) (g:=λv=>v) (λ_ _=>rfl)
  rw[<-l5,<-l6]at e
  refine(show Q4f c m ⟨34,A,B,C,Imm⟩=((Q2q c m ⟨34,A,B,C,Imm⟩).1,(Q2q c m ⟨34,A,B,C,Imm⟩).2,eff0) by kernel_rfl).trans ?_
  rw[e];kernel_rfl
 ·have e:=xi h hc hst (A:=A) hva (.inr rfl)
  rw[<-l7,<-l8]at e
  refine(show Q4f c m ⟨35,A,B,C,Imm⟩=((Q3n c m ⟨35,A,B,C,Imm⟩).1,(Q3n c m ⟨35,A,B,C,Imm⟩).2,eff0) by kernel_rfl).trans ?_
  rw[e];kernel_rfl
 ·have e:=xi h hc hst (A:=A) hva (.inl rfl)
  rw[<-l9,<-l10]at e
  refine(show Q4f c m ⟨36,A,B,C,Imm⟩=((Q3n c m ⟨36,A,B,C,Imm⟩).1,(Q3n c m ⟨36,A,B,C,Imm⟩).2,eff0) by kernel_rfl).trans ?_
  rw[e];kernel_rfl
 ·exact(show Q4f c m ⟨40,A,B,C,Imm⟩=((bif(Q2t 40 (regX c A) (regX c B))then((⟨c.X,wrap .u32 (c.Pc+wrap .u32 (4*wrap .u32 Imm)),c.B3⟩:Q02),eff0)else(⟨c.X,nxt c,c.B3⟩,eff0)).1,m,(bif(Q2t 40 (regX c A) (regX c B))then((⟨c.X,wrap .u32 (c.Pc+wrap .u32 (4*wrap .u32 Imm)),c.B3⟩:Q02),eff0)else(⟨c.X,nxt c,c.B3⟩,eff0)).2) by kernel_rfl).trans ((brc (Q2t 40 (regX c A) (regX c B)) ⟨c.X,wrap .u32 (c.Pc+wrap .u32 (4*wrap .u32 Imm)),c.B3⟩ ⟨c.X,nxt c,c.B3⟩ m).trans (by kernel_rfl))
 ·exact(show Q4f c m ⟨41,A,B,C,Imm⟩=((bif(Q2t 41 (regX c A) (regX c B))then((⟨c.X,wrap .u32 (c.Pc+wrap .u32 (4*wrap .u32 Imm)),c.B3⟩:Q02),eff0)else(⟨c.X,nxt c,c.B3⟩,eff0)).1,m,(bif(Q2t 41 (regX c A) (regX c B))then((⟨c.X,wrap .u32 (c.Pc+wrap .u32 (4*wrap .u32 Imm)),c.B3⟩:Q02),eff0)else(⟨c.X,nxt c,c.B3⟩,eff0)).2) by kernel_rfl).trans ((brc (Q2t 41 (regX c A) (regX c B)) ⟨c.X,wrap .u32 (c.Pc+wrap .u32 (4*wrap .u32 Imm)),c.B3⟩ ⟨c.X,nxt c,c.B3⟩ m).trans (by kernel_rfl))
 ·exact(show Q4f c m ⟨42,A,B,C,Imm⟩=((bif(Q2t 42 (regX c A) (regX c B))then((⟨c.X,wrap .u32 (c.Pc+wrap .u32 (4*wrap .u32 Imm)),c.B3⟩:Q02),eff0)else(⟨c.X,nxt c,c.B3⟩,eff0)).1,m,(bif(Q2t 42 (regX c A) (regX c B))then((⟨c.X,wrap .u32 (c.Pc+wrap .u32 (4*wrap .u32 Imm)),c.B3⟩:Q02),eff0)else(⟨c.X,nxt c,c.B3⟩,eff0)).2) by kernel_rfl).trans ((brc (Q2t 42 (regX c A) (regX c B)) ⟨c.X,wrap .u32 (c.Pc+wrap .u32 (4*wrap .u32 Imm)),c.B3⟩ ⟨c.X,nxt c,c.B3⟩ m).trans (by kernel_rfl))
 ·exact(show Q4f c m ⟨43,A,B,C,Imm⟩=((bif(Q2t 43 (regX c A) (regX c B))then((⟨c.X,wrap .u32 (c.Pc+wrap .u32 (4*wrap .u32 Imm)),c.B3⟩:Q02),eff0)else(⟨c.X,nxt c,c.B3⟩,eff0)).1,m,(bif(Q2t 43 (regX c A) (regX c B))then((⟨c.X,wrap .u32 (c.Pc+wrap .u32 (4*wrap .u32 Imm)),c.B3⟩:Q02),eff0)else(⟨c.X,nxt c,c.B3⟩,eff0)).2) by kernel_rfl).trans ((brc (Q2t 43 (regX c A) (regX c B)) ⟨c.X,wrap .u32 (c.Pc+wrap .u32 (4*wrap .u32 Imm)),c.B3⟩ ⟨c.X,nxt c,c.B3⟩ m).trans (by kernel_rfl))
 ·exact(show Q4f c m ⟨44,A,B,C,Imm⟩=((bif(Q2t 44 (regX c A) (regX c B))then((⟨c.X,wrap .u32 (c.Pc+wrap .u32 (4*wrap .u32 Imm)),c.B3⟩:Q02),eff0)else(⟨c.X,nxt c,c.B3⟩,eff0)).1,m,(bif(Q2t 44 (regX c A) (regX c B))then((⟨c.X,wrap .u32 (c.Pc+wrap .u32 (4*wrap .u32 Imm)),c.B3⟩:Q02),eff0)else(⟨c.X,nxt c,c.B3⟩,eff0)).2) by kernel_rfl).trans ((brc (Q2t 44 (regX c A) (regX c B)) ⟨c.X,wrap .u32 (c.Pc+wrap .u32 (4*wrap .u32 Imm)),c.B3⟩ ⟨c.X,nxt c,c.B3⟩ m).trans (by kernel_rfl))
 ·exact(show Q4f c m ⟨45,A,B,C,Imm⟩=((bif(Q2t 45 (regX c A) (regX c B))then((⟨c.X,wrap .u32 (c.Pc+wrap .u32 (4*wrap .u32 Imm)),c.B3⟩:Q02),eff0)else(⟨c.X,nxt c,c.B3⟩,eff0)).1,m,(bif(Q2t 45 (regX c A) (regX c B))then((⟨c.X,wrap .u32 (c.Pc+wrap .u32 (4*wrap .u32 Imm)),c.B3⟩:Q02),eff0)else(⟨c.X,nxt c,c.B3⟩,eff0)).2) by kernel_rfl).trans ((brc (Q2t 45 (regX c A) (regX c B)) ⟨c.X,wrap .u32 (c.Pc+wrap .u32 (4*wrap .u32 Imm)),c.B3⟩ ⟨c.X,nxt c,c.B3⟩ m).trans (by kernel_rfl))
 ·refine(show Q4f c m ⟨48,A,B,C,Imm⟩=(setP c A (nxt c) (wrap .u32 ((Qbb c A (nxt c)).Pc+wrap .u32 (4*wrap .u32 Imm))),m,eff0) by kernel_rfl).trans ?_
  rw[Zd0 c hA,Qzf c hA,(xS c A (nxt c)).1];kernel_rfl
 ·refine(show Q4f c m ⟨49,A,B,C,Imm⟩=(setP c A (nxt c) (va c B Imm),m,eff0) by kernel_rfl).trans ?_
  rw[Zd0 c hA];kernel_rfl
 ·refine(show Q4f c m ⟨56,A,B,C,Imm⟩=(Q3a c 7 0,m,eff0) by kernel_rfl).trans ?_
  rw[Qlc hc.a0.1 hst];kernel_rfl
 ·refine(show Q4f c m ⟨57,A,B,C,Imm⟩=(Qel c,m,eff0) by kernel_rfl).trans ?_
  rw[Zgb hc.a0.1 hst];kernel_rfl
 ·refine(show Q4f c m ⟨58,A,B,C,Imm⟩=(setP c A (aK (A8.l c.B3) Imm.toNat 0) (nxt c),m,eff0) by kernel_rfl).trans ?_
  rw[Zd0 c hA,<-Zh4];kernel_rfl
 ·have e:=zF c (wrap .i64 Imm) (regX c A)
  refine(show Q4f c m ⟨59,A,B,C,Imm⟩=((⟨(Qgy c (wrap .i64 Imm) (regX c A)).X,wrap .u32 (c.Pc+4),(Qgy c (wrap .i64 Imm) (regX c A)).B3⟩:Q02),m,eff0) by kernel_rfl).trans ?_
  rw[<-e];kernel_rfl
 ·exact(show Q4f c m ⟨60,A,B,C,Imm⟩=((Qkj c m ⟨60,A,B,C,Imm⟩).1,(Qkj c m ⟨60,A,B,C,Imm⟩).2.2,(Qkj c m ⟨60,A,B,C,Imm⟩).2.1) by kernel_rfl)
 ·exact(show Q4f c m ⟨61,A,B,C,Imm⟩=((Qkj c m ⟨61,A,B,C,Imm⟩).1,(Qkj c m ⟨61,A,B,C,Imm⟩).2.2,(Qkj c m ⟨61,A,B,C,Imm⟩).2.1) by kernel_rfl)
 ·exact(show Q4f c m ⟨62,A,B,C,Imm⟩=((Qkj c m ⟨62,A,B,C,Imm⟩).1,(Qkj c m ⟨62,A,B,C,Imm⟩).2.2,(Qkj c m ⟨62,A,B,C,Imm⟩).2.1) by kernel_rfl)
 ·exact(show Q4f c m ⟨63,A,B,C,Imm⟩=((Qkj c m ⟨63,A,B,C,Imm⟩).1,(Qkj c m ⟨63,A,B,C,Imm⟩).2.2,(Qkj c m ⟨63,A,B,C,Imm⟩).2.1) by kernel_rfl)
 ·exact(show Q4f c m ⟨64,A,B,C,Imm⟩=((Qkj c m ⟨64,A,B,C,Imm⟩).1,(Qkj c m ⟨64,A,B,C,Imm⟩).2.2,(Qkj c m ⟨64,A,B,C,Imm⟩).2.1) by kernel_rfl)
end
theorem y9{op:Int}(h0:0<=op)(h1:op<256)(h:Q2u op≠0):isOp op:=by
 have e:=oY (Qt9 (λop=>decide (Q2u op=0\/isOpB op=true)) 256 (by kernel_rfl) h0 h1)
 rcases e with e|e
 ·exact absurd e h
 ·simpa only[isOpB,isOp,aI,decide_eq_true_eq,or_assoc]using e
theorem yi{op:Int}(o:isOp op):1<=op/\op<=64:=by
 unfold isOp at o
 rcases o with h|h|h|h|h|h|h|h|h|h|h|h|h|h|h|h|h|h|h|h|h|h|h|h|h|h|h|h|h|h|h|h|h|h|h|h|h|h|h|h|h|h|h|h<;>(rw[h];decide)
theorem vi{w:Int}(hw:U w):(Q4i w).2=true->isOp (Q4i w).1.Op:=by
 have s24:ishr .u32 w 24=w/16777216:=by have:=Qqs (a:=w) 24 (by decide);simpa using this
 obtain⟨w0,w1⟩:=hw
 have eo:wrap .i64 (w/16777216)=w/16777216:=w64 (by omega) (by omega)
 have q:(λr:Q0g×Bool=>r.2=true->isOp r.1.Op) (Q4i w):=by
  simp only[Q4i,Qaj,Tree.m,letv,s24,eo]
  cases hf:Q2u (w/16777216)==0
  ·have g:isOp (w/16777216):=y9 (by omega) (by omega) (by simpa using hf)
   repeat'(first
    |exactλ_=>g
    |exactλe=>eT (show false=true from e)
    |refine Z1q (Q:=λr:Q0g×Bool=>r.2=true->isOp r.1.Op) ?_ ?_)
  ·exactλe=>eT (show false=true from e)
 exact q
section
variable (c:Q02) (m:List Int)
def doR(x:Int×Int×List Int)(w:Int)(d:Q0g×Bool):Q02×Q1f×List Int:=
 bif x.2.1 !=0 then(Q3d c x.2.1 c.Pc,eff0,x.2.2)else bif !d.2 then(Q3d c 1 w,eff0,x.2.2)else bif Q69 d.1.Op then(bif iand .u32 c.B3.a0 1==0 then(Q3d c 2 w,eff0,x.2.2)else Qkj c x.2.2 d.1)else Qkj c x.2.2 d.1
def doP(y:Int×List Int×Int)(d:Q0g×Bool):Q02×List Int×Q1f:=
 bif y.2.2 !=0 then(Q3a c y.2.2 c.Pc,y.2.1,eff0)else bif !d.2 then(Q3a c 1 y.1,y.2.1,eff0)else bif Q2j d.1.Op then(bif !Q58 c then(Q3a c 2 y.1,y.2.1,eff0)else Q4f c y.2.1 d.1)else Q4f c y.2.1 d.1
theorem do_eq:Qdy c m=doR c (Q1d c m c.Pc 4 1) (Q2w (Q1d c m c.Pc 4 1).2.2 (Q1d c m c.Pc 4 1).1 4).1 (Q4i (Q2w (Q1d c m c.Pc 4 1).2.2 (Q1d c m c.Pc 4 1).1 4).1):=by kernel_rfl
theorem qj:Q2s c m=doP c (Q0h c m) (Q11 (Q0h c m).1):=by kernel_rfl
theorem Qzn:Q0h c m=bif(Q0y c m c.Pc 4 1).2.2 !=0 then(0,(Q0y c m c.Pc 4 1).2.1,(Q0y c m c.Pc 4 1).2.2)else((Q0x (Q0y c m c.Pc 4 1).2.1 (Q0y c m c.Pc 4 1).1 4).1,(Q0y c m c.Pc 4 1).2.1,0):=by kernel_rfl
end
theorem xj{P:Nat}{m:List Int}(h:Q0q P m){c:Q02}(hc:Q29 c)(hst:c.B3.a0<=31):Q2s c m=((Qdy c m).1,(Qdy c m).2.2,(Qdy c m).2.1):=by
 obtain⟨k,u,b⟩:=Zh5 h hc hc.pc (.inr rfl) 1
 have tr:∀k b,Q3a c k b=Q3d c k b:=Qlc hc.a0.1 hst
 rw[qj,do_eq,Qzn,Qny h hc hst hc.pc (.inr rfl) (.inl rfl)]
 generalize Q1d c m c.Pc 4 1=x at*
 cases hx:x.2.1 !=0
 ·rw [Qnl k u (.inr rfl)]
  have hw:U (Q2w x.2.2 x.1 4).1:=(Tree.pp (Zfx k u (.inr rfl))).2
  generalize(Q2w x.2.2 x.1 4).1=w at*
  show doP c (w,x.2.2,0) (Q11 w)=_
  rw[vg hw]
  have o:=vi hw
  have i:=Tree.post _ (Zj2 w)
  change(Q4i w).2=true->Qbq (Q4i w).1 at i
  generalize Q4i w=d at*
  obtain⟨⟨op,A,B,C,Imm⟩,ok⟩:=d
  cases ok
  ·simp only[doP,doR,hx,tr];rfl
  ·have o:isOp op:=o rfl
   have i:=i rfl
   have p:=zi (C:=C) (B:=B) (Imm:=Imm) k hc hst i.a o
   have pv:Q2j op=Q69 op:=z6 (by have:=yi o;omega) (by have:=yi o;omega)
   have kn:(!Q58 c)=(iand .u32 c.B3.a0 1==0):=by
    show(!(!(iand .u32 c.B3.a0 1==0)))=_
    exact Bool.not_not _
   simp only[doP,doR,hx,tr,pv,kn,p]
   cases Q69 op
   ·rfl
   ·cases iand .u32 c.B3.a0 1==0<;>rfl
 ·simp only[doP,doR,hx,cond_true,tr]
theorem zj{a b:Int}:decide (a>=b)=!decide (a<b):=by
 by_cases h:a<b
 ·rw[dY h,dN (by omega)];rfl
 ·rw[dN h,dY (by omega)];rfl
def bits(g:Int)(l:List Nat)(s:Int):Int:=l.foldl (λ(a:Int) (i:Nat)=>wrap .i64 (a+wrap .i64 (iand .u32 (ishr .u32 g (i:Int)) 1))) s
theorem yF(b:Q06):Qep b=bits b.C0 [0,1,2,3,4,5,6,7,8,9,10,11,12,13,14,15,16,17,18,19,20,21,22,23,24,25,26,27,28,29,30,31] 0:=by kernel_rfl
theorem qau{g:Int}(hg:U g){i:Nat}(hi:i<=32):wrap .i64 (iand .u32 (ishr .u32 g (i:Int)) 1)=g/2^i%2:=by
 rw[and1 (Qvl hg _),Qqs i hi]
 have:0<=g/2^i%2/\g/2^i%2<2:=by omega
 exact w64 (by omega) (by omega)
theorem vF{g:Int}(hg:U g)(l:List Nat):∀s:Int,(∀i∈l,i<=32)->0<=s->s+l.length<=1000->bits g l s=s+(l.map λi=>g/2^i%2).sum:=by
 induction l with
 |nil=>intro s _ _ _;simp[bits]
 |cons i l ih=>
  intro s hl h0 h1
  have h1:s+(l.length+1)<=1000:=by simpa using h1
  have hb:0<=g/2^i%2/\g/2^i%2<2:=by omega
  have e:bits g (i::l) s=bits g l (s+g/2^i%2):=by
   show bits g l (wrap .i64 (s+wrap .i64 (iand .u32 (ishr .u32 g (i:Int)) 1)))=_
   rw[qau hg (hl i (by simp)),w64 (by omega) (by omega)]
  rw[e,ih _ (λj hj=>hl j (by simp[hj])) (by omega) (by omega)]
  simp;omega
theorem Znb(n:Q0u)(port:Int):Z2q n port=Qlj n port:=by
 simp only[Z2q,Qu5,Qlj,Qfn,Tree.m]
 cases n.C4<;>cases n.B7<;>rfl
theorem Z3x(t:Q0n):Q56 t=Qdj t:=by
 simp only[Q56,Qlm,Qdj,Qhf,Tree.m]
 cases t.D4<;>cases t.D2<;>rfl
theorem Ze(n:Q0u)(p:Int):Q6i n p=Qh8 n p:=by
 simp only[Q6i,Qla,Qh8,Qlw,Tree.m]
 cases n.C4<;>cases n.B7<;>rfl
theorem Zbn(d:Q0d)(p:Int):Q1m d p=Qfb d p:=by
  simp only[Q1m,Q6k,Q9m,Q80,Qfb,Qkb,Tree.m,letv,zj]
  cases decide (d.Blocks>64)
  . by_cases s:d.B9=0\/d.B9=1\/d.B9=2\/d.B9=3
    . rcases s with s|s|s|s<;>rw[s]
      . rfl
      . by_cases c1:d.D5=1
        . rw[c1];cases decide (d.B5<d.Blocks)<;>cases decide (wrap .i64 d.B1<p)<;>cases decide (d.C1=[])<;>rfl
        . by_cases c2:d.D5=2
          . rw[c2];cases decide (d.B5<d.Blocks)<;>cases decide (wrap .i64 d.B1<p)<;>cases(d.C1.length:Int)==128<;>rfl
          . rw[show(d.D5==1)=false by simpa using c1,show(d.D5==2)=false by simpa using c2]
            cases decide (d.B5<d.Blocks)<;>cases decide (wrap .i64 d.B1<p)<;>rfl
      . rfl
      . rfl
    . rw[show(d.B9==0)=false by simp;omega,show(d.B9==1)=false by simp;omega,show(d.B9==2)=false by simp;omega,show(d.B9==3)=false by simp;omega]
      by_cases n:d.B9<0
      . rw[dY n];rfl
      . rw[dN n,dY (show d.B9>3 by omega)];rfl
  . rfl
theorem qG(c:Q0c):Q9f c=Q67 c:=by
 show(!decide (c.D0=[]))=decide ((c.D0.length:Int)>0)
 cases c.D0 with
 |nil=>rfl
 |cons a l=>rw[dN (by simp),dY (by simp)];rfl
theorem qaa(k:List UInt8):decide (k=[])=((k.length:Int)==0):=by
 cases k with
 |nil=>rfl
 |cons a l=>
  rw[dN (by simp)]
  exact(beq_eq_false_iff_ne.2 (by simp;omega)).symm
theorem Zmf(c:Q0c)(port:Int):Qpc c port=Q7k c port:=by
 simp only[Qpc,Q9z,Q7k,Q43,Tree.m,qaa]
 cases port==0
 ·rfl
 ·cases(c.D0.length:Int)==0<;>rfl
theorem xG(t:Q0n)(v:Int):Qhj t v=Qzu v:=by
 simp only[Qhj,Qml,Qzu,Qwk,Tree.m]
 cases h:v==0
 ·rw[show(v !=0)=true by simp only[bne,h];rfl];rfl
 ·rw[show(v !=0)=false by simp only[bne,h];rfl,eq_of_beq h];rfl
section
variable {P:Nat} {m:List Int} (h:Q0q P m)
include h
theorem Z6h(f:Int):Q3w m f=Q2h m f:=by
 have a:=Q1z h
 have b:=Qew h
 simp only[Q3w,Q8b,Q2h,Qin,Tree.m,letv,a,b]
theorem Z7m(f:Int):Q4m m f=Q2h m f:=by
 have a:=Q1z h
 have b:=Qew h
 simp only[Q4m,Qa,Q2h,Qin,Tree.m,letv,a,b]
theorem Zdg(d:Q0d)(port v at0:Int):Q8c d m port v at0=Qj9 d m port v at0:=by
  have pg:=Z6h h
  have pa:=Ze3 h
  have rq: ∀d a,Qjn d a=Qje d a:=λ_ _=>rfl
  simp only[Q8c,Qea,Qh4,Q9x,Qj9,Q91,Tree.m,letv,pg,pa,rq]
  cases port==4
  . cases port==5
    . cases h6:port==6
      . rw[show(port !=6)=true by simp only[bne,h6];rfl];rfl
      . rw [show(port !=6)=false by simp only[bne,h6];rfl]
        by_cases v1:v=1
        . subst v1
          cases hs:d.B9==0
          . rw[show(d.B9 !=0)=true by simp only[bne,hs];rfl];rfl
          . rw[show(d.B9 !=0)=false by simp only[bne,hs];rfl];rfl
        . by_cases v2:v=2
          . subst v2
            cases hs:d.B9==0
            . rw[show(d.B9 !=0)=true by simp only[bne,hs];rfl];rfl
            . rw[show(d.B9 !=0)=false by simp only[bne,hs];rfl];rfl
          . rw[show(v==1)=false by simpa using v1,show(v==2)=false by simpa using v2]
            cases v==0
            . rfl
            . have:Q9r d=(bif d.B9==2 then true else d.B9==3):=rfl
              rw[this]
              cases d.B9==2<;>cases d.B9==3<;>rfl
    . rfl
  . rfl
theorem Zig(n:Q0u)(port v at0:Int):Qc5 n m port v at0=Qm1 n m port v at0:=by
  have pg:=Z7m h
  have pa:=Ze3 h
  simp only[Qc5,Qhg,Qpx,Qeq,Qm1,Qav,Tree.m,letv,pg,pa]
  have g1:decide (n.D7>=1)=!decide (n.D7<1):=zj
  have g2:decide (n.D7<=128)=!decide (n.D7>128):=by
    by_cases h:n.D7>128
    . rw[dY h,dN (by omega)];rfl
    . rw[dN h,dY (by omega)];rfl
  rw[g1,g2]
  cases port==7
  . cases port==8
    . cases h9:port==9
      . rw[show(port !=9)=true by simp only[bne,h9];rfl];rfl
      . rw [show(port !=9)=false by simp only[bne,h9];rfl]
        by_cases v1:v=1
        . subst v1
          cases decide (n.D7<1)<;>cases decide (n.D7>128)<;>cases Q2h m n.Frame<;>rfl
        . by_cases v2:v=2
          . subst v2;rfl
          . rw[show(v==1)=false by simpa using v1,show(v==2)=false by simpa using v2]
            cases v==0<;>rfl
    . rfl
  . rfl
theorem Za5{d:Q0d}(hd:Q4t d)(e:Q0f):Q2p d m e=((Qe3 d m e).1,(Qe3 d m e).2.2,(Qe3 d m e).2.1):=by
  have hcl:Q03 m=m:=rfl
  have pg:=Z6h h d.B1
  have lp:decide ((e.C5.length:Int)>0)=!decide (e.C5=[]):=by
    cases e.C5 with
    |nil=>rfl
    |cons a l=>rw[dY (by simp),dN (by simp)];rfl
  have bad:(e.C5.length:Int)≠128->Q2h m d.B1=true->Q0r m (wrap .i64 d.B1) e.C5=(m,false):=λhl hp=>by
    rw[Qlr h hd.opFrame]at hp
    have hp:=oY hp
    have h1:=hd.opFrame.1
    have h3:=h.p2
    have ew:i64.wrap d.B1=d.B1:=w64 (by omega) (by omega)
    simp only[Q0r,Q3i,Tree.m,letv,hcl,ew,Qvh h,dY (⟨h1,hp⟩:0<=d.B1/\d.B1<P),show((e.C5.length:Int) !=128)=true by simpa using hl]
    rfl
  have good:(e.C5.length:Int)=128->Q2h m d.B1=true->Q0r m (wrap .i64 d.B1) e.C5=(Qks m (wrap .i64 d.B1) e.C5,true):=λhl hp=>by
    rw[Qlr h hd.opFrame]at hp
    have hp:=oY hp
    have h1:=hd.opFrame.1
    have h3:=h.p2
    have ew:i64.wrap d.B1=d.B1:=w64 (by omega) (by omega)
    rw[ew];exact Zg5 h h1 hp (by omega)
  simp only[Q2p,Q66,Qe3,Qao,Tree.m,letv,hcl,pg,lp]
  cases d.B9 !=1
  . cases e.C3 !=4
    . cases decide (e.N>1)
      . cases e.N==1
        . cases decide (e.C5=[])<;>rfl
        . cases hc:d.D5==1
          . cases decide (e.C5=[])<;>rfl
          . by_cases hl:(e.C5.length:Int)=128
            . rw[show((e.C5.length:Int) !=128)=false by simpa using hl]
              cases hp:Q2h m d.B1
              . rfl
              . rw[good hl hp];rfl
            . rw[show((e.C5.length:Int) !=128)=true by simpa using hl]
              cases hp:Q2h m d.B1
              . rfl
              . rw[bad hl hp];rfl
      . rfl
    . rfl
  . rfl
theorem Zbu{n:Q0u}(hn:Qas n)(frame:List UInt8):Q4o n m frame=((Qem n m frame).1,(Qem n m frame).2.2,(Qem n m frame).2.1):=by
  have hcl:Q03 m=m:=rfl
  have pg:=Z7m h n.B6
  simp only[Q4o,Qb3,Qem,Qaw,Tree.m,letv,hcl,pg]
  cases !n.C4
  . cases decide ((frame.length:Int)<1)
    . cases hf:decide ((frame.length:Int)>128)
      . cases hp:Q2h m n.B6
        . rfl
        . rw[Qlr h hn.buffer]at hp
          have hp:=oY hp
          have h1:=hn.buffer.1
          have h3:=h.p2
          have ew:i64.wrap n.B6=n.B6:=w64 (by omega) (by omega)
          have hf:=oN hf
          obtain⟨b1,b2⟩:=(Tree.pp (Qrs h h1 hp)).2
          change isPg m n.B6 (Q12 m n.B6).1 at b1
          have tk:cW (dB ((Q12 m n.B6).1.length:Int)-dB (frame.length:Int)) (cX (dB (frame.length:Int)) (Q12 m n.B6).1)=(Q12 m n.B6).1.drop frame.length:=by
            rw[dZ,dZ]
            exact List.take_of_length_le (by simp)
          rw[ew,tk,Zea h h1 hp (by omega) b1]
          rfl
      . rfl
    . rfl
  . rfl
end
def ptab:List UInt8:=(cY 256).map λn=>eR (n%2+n/2%2+n/4%2+n/8%2+n/16%2+n/32%2+n/64%2+n/128%2)
def pt(n:Int):Int:=((eQ (ptab.getD n.toNat 0):Nat):Int)
theorem zG(x:Int):Q6z x=wrap .i64 (wrap .u8 (wrap .u8 (wrap .u8 (pt (ishr .u32 x 24)+pt (iand .u32 (ishr .u32 x 16) 255))+pt (iand .u32 (ishr .u32 x 8) 255))+pt (iand .u32 x 255))):=by kernel_rfl
theorem pt8{a:Int}(h0:0<=a)(h1:a<256):pt a=a%2+a/2%2+a/4%2+a/8%2+a/16%2+a/32%2+a/64%2+a/128%2:=
 eq_of_beq (Qt9 (λa=>pt a==a%2+a/2%2+a/4%2+a/8%2+a/16%2+a/32%2+a/64%2+a/128%2) 256 (by kernel_rfl) h0 h1)
theorem yj{g:Int}(hg:U g):bits g [0,1,2,3,4,5,6,7,8,9,10,11,12,13,14,15,16,17,18,19,20,21,22,23,24,25,26,27,28,29,30,31] 0=pt (g%256)+pt (g/256%256)+pt (g/65536%256)+pt (g/16777216):=by
 rw[vF hg _ 0 (by decide) (by decide) (by decide),pt8 (by omega) (by omega),pt8 (by omega) (by omega),pt8 (by omega) (by omega),pt8 (by have:=hg.1;omega) (by have:=hg.2;omega)]
 obtain⟨g0,g1⟩:=hg
 simp only[List.map_cons,List.map_nil,List.sum_cons,List.sum_nil]
 have e:∀i j:Nat,∀k:Int,i<8->k=2^j->g/2^(i+j)%2=(g/k%256)/2^i%2:=λi j k hi hk=>by
  subst hk
  rw[Nat.add_comm,dM,<-eU (dL (dJ (by decide)))]
  generalize g/2^j=x
  have:i=0\/i=1\/i=2\/i=3\/i=4\/i=5\/i=6\/i=7:=by omega
  rcases this with rfl|rfl|rfl|rfl|rfl|rfl|rfl|rfl<;>simp<;>omega
 have e0:∀i:Nat,i<8->g/2^i%2=(g%256)/2^i%2:=λi hi=>by have:=e i 0 1 hi rfl;simpa using this
 have e24:g/16777216%256=g/16777216:=by omega
 rw[e0 0 (by decide),e0 1 (by decide),e0 2 (by decide),e0 3 (by decide),e0 4 (by decide),e0 5 (by decide),e0 6 (by decide),e0 7 (by decide)]
 rw[e 0 8 256 (by decide) (by decide),e 1 8 256 (by decide) (by decide),e 2 8 256 (by decide) (by decide),e 3 8 256 (by decide) (by decide),e 4 8 256 (by decide) (by decide),e 5 8 256 (by decide) (by decide),e 6 8 256 (by decide) (by decide),e 7 8 256 (by decide) (by decide)]
 rw[e 0 16 65536 (by decide) (by decide),e 1 16 65536 (by decide) (by decide),e 2 16 65536 (by decide) (by decide),e 3 16 65536 (by decide) (by decide),e 4 16 65536 (by decide) (by decide),e 5 16 65536 (by decide) (by decide),e 6 16 65536 (by decide) (by decide),e 7 16 65536 (by decide) (by decide)]
 rw[e 0 24 16777216 (by decide) (by decide),e 1 24 16777216 (by decide) (by decide),e 2 24 16777216 (by decide) (by decide),e 3 24 16777216 (by decide) (by decide),e 4 24 16777216 (by decide) (by decide),e 5 24 16777216 (by decide) (by decide),e 6 24 16777216 (by decide) (by decide),e 7 24 16777216 (by decide) (by decide),e24]
 generalize g%256=a
 generalize g/256%256=b
 generalize g/65536%256=c
 generalize g/16777216=d
 simp only[show(2:Int)^0=1 from rfl,show(2:Int)^1=2 from rfl,show(2:Int)^2=4 from rfl,show(2:Int)^3=8 from rfl,show(2:Int)^4=16 from rfl,show(2:Int)^5=32 from rfl,show(2:Int)^6=64 from rfl,show(2:Int)^7=128 from rfl,Int.ediv_one]
 omega
theorem pt_le{a:Int}(h0:0<=a)(h1:a<256):0<=pt a/\pt a<=8:=by rw[pt8 h0 h1];omega
theorem Z82{b:Q06}(hg:U b.C0):Qdm b=Qep b/\0<=Qep b/\Qep b<=32:=by
 obtain⟨s8,s16,s24⟩:=shr_c b.C0
 have u8:U (ishr .u32 b.C0 8):=Qvl hg _
 have u16:U (ishr .u32 b.C0 16):=Qvl hg _
 have e:Qdm b=Q6z b.C0:=rfl
 rw[e,zG,yF,yj hg,m255 u8,m255 u16,m255 hg,s8,s16,s24]
 obtain⟨g0,g1⟩:=hg
 have p0:=pt_le (a:=b.C0%256) (by omega) (by omega)
 have p1:=pt_le (a:=b.C0/256%256) (by omega) (by omega)
 have p2:=pt_le (a:=b.C0/65536%256) (by omega) (by omega)
 have p3:=pt_le (a:=b.C0/16777216) (by omega) (by omega)
 have w8:∀x,wrap .u8 x=x%256:=λx=>wrap_u8 x
 rw[w8,w8,w8,wrap_i64]
 omega
theorem Zbs{b:Q06}(h:okB b):Q7s b=Q4l b:=by
 obtain⟨e,l0,l1⟩:=Z82 h.2
 obtain⟨t0,t1⟩:=h.1
 simp only[Q7s,Q5z,Q4l,Q9h,Tree.m,letv,e]
 rw[wrap_u32,wrap_u64,wrap_u64,dI l0 (by omega),dI l0 (by omega),dI t0 (by omega)]
theorem Zmn{b:Q06}(h:okB b)(port:Int):Qq0 b port=Q7h b port:=by
 simp only[Qq0,Qcl,Q7h,Q6l,Tree.m,letv,(Z82 h.2).1]
theorem zaa(g:Int)(z:Nat):g%2^(z+1)=g%2^z+2^z*(g/2^z%2):=by
 have hp:(0:Int)<2^z:=dJ (by decide)
 have h1:=eV g (2^z)
 have h2:=eV (g/2^z) 2
 have h3:(g/2^z)/2=g/2^(z+1):=by rw[eW,eU (dL hp)]
 have h4:=eV g (2^(z+1))
 rw[h3]at h2
 have h5:(2:Int)^(z+1)*(g/2^(z+1))=2^z*(2*(g/2^(z+1))):=by rw[eW,Int.mul_assoc]
 have h6:(2:Int)^z*(g/2^z)=2^z*(2*(g/2^(z+1)))+2^z*(g/2^z%2):=by rw[<-Int.mul_add,h2]
 omega
theorem zau{b:Q06}(hg:U b.C0){P:Nat}(hP:P<=32):(Q6 b P).w (λr=>r=decide (b.C0<2^P)):=by
 unfold Q6
 have fin:∀v:Int,0<=v->v<=32->wrap .u64 v=(v.toNat:Int):=λv h0 h1=>by rw[wrap_u64];omega
 refine w_lp (inv:=λz:Int=>0<=z/\z<=32/\b.C0%2^z.toNat<2^P) (μ:=Q76 b P) ⟨by decide,by decide,by have:(0:Int)<2^P:=dJ (by decide);simpa using this⟩ (cL _) λz ⟨z0,z1,z2⟩=>?_
 refine w_br (λhb=>?_) (λhb=>?_)
 ·have hb:=oY hb
  have ew:i64.wrap (z+1)=z+1:=w64 (by omega) (by omega)
  have bt:iand .u32 (ishr .u32 b.C0 (wrap .u64 z)) 1=b.C0/2^z.toNat%2:=by
   rw[fin z z0 z1,and1 (Qvl hg _),Qqs _ (by omega)]
  have bp:=zaa b.C0 z.toNat
  have zt:(z+1).toNat=z.toNat+1:=by omega
  refine w_cn (dY (by rw[wrap_u64];omega)) ?_
  rw[bt]
  refine w_br (λe=>w_br (λhp=>?_) (λhp=>w_nx ?_)) (λe=>w_nx ?_)
  ·have e:=eq_of_beq e
   have hp:=oY hp
   show false=_
   refine(dN λhlt=>?_).symm
   have hle:(2:Int)^P<=2^z.toNat:=by exact_mod_cast dP (show 0<2 by decide) (show P<=z.toNat by omega)
   have:b.C0/2^z.toNat=0:=Int.ediv_eq_zero_of_lt hg.1 (by omega)
   rw[this]at e;cases e
  ·have e:=eq_of_beq e
   have hp:=oN hp
   show(0<=i64.wrap (z+1)/\i64.wrap (z+1)<=32/\b.C0%2^(i64.wrap (z+1)).toNat<2^P)/\(32-i64.wrap (z+1)).toNat<(32-z).toNat
   rw[ew,zt]
   have hle:(2:Int)^(z.toNat+1)<=2^P:=by exact_mod_cast dP (show 0<2 by decide) (show z.toNat+1<=P by omega)
   have:=Int.emod_lt_of_pos b.C0 (show(0:Int)<2^(z.toNat+1) from dJ (by decide))
   exact⟨⟨by omega,by omega,by omega⟩,by omega⟩
  ·have e:¬b.C0/2^z.toNat%2=1:=by simpa using e
   have e:b.C0/2^z.toNat%2=0:=by omega
   rw[e]at bp
   show(0<=i64.wrap (z+1)/\i64.wrap (z+1)<=32/\b.C0%2^(i64.wrap (z+1)).toNat<2^P)/\(32-i64.wrap (z+1)).toNat<(32-z).toNat
   rw[ew,zt,bp]
   exact⟨⟨by omega,by omega,by omega⟩,by omega⟩
 ·have hb:=oN hb
  have:z=32:=by omega
  subst this
  show true=_
  refine(dY ?_).symm
  have h2:b.C0%2^(32:Int).toNat=b.C0:=dI hg.1 hg.2
  rwa [h2]at z2
theorem Zi1{b:Q06}(hg:U b.C0){P:Nat}(hP:P<=32):Q37 b P=Qa7 b P:=by
 have r:=(Tree.pp (zau hg hP)).2
 change Qa7 b P=_ at r
 rw[r,eC,Z0x hg,decide_eq_true_eq]
theorem zeros:strings_Repeat [(0:UInt8)] 128=cM 128 0:=by kernel_rfl
theorem xau{P:Nat}{m:List Int}(hm:Q0q P m){b:Q06}{port:Int}{v:Int}(hv:U v)(hp:v<P)(h10:port=10)(hb:(iand .u32 (ishr .u32 b.C0 v) 1==0)=true):(Q5d b m port v).w (λr=>r.1={C6:=b.C6,C0:=ior .u32 b.C0 (ishl .u32 1 v)}/\Q0q P r.2/\∀k:Nat,byt r.2 k=if v*128<=k/\(k:Int)<v*128+128 then 0 else byt m k):=by
 have hv0:decide (0<=v)=true:=dY hv.1
 have h2:=hm.p2
 have pg:Q2h m v=true:=by rw[Qlr hm hv];exact dY hp
 obtain⟨v1,v2⟩:=hv
 subst h10
 unfold Q5d
 refine w_br (λ_=>w_lv λx0 hx=>w_br (λ_=>w_cn hv0 (w_br (λ_=>w_cn hv0 ?_) (λh=>by rw[hb]at h;cases h))) (λh=>by rw[hx,pg]at h;cases h)) (λh=>by cases h)
 refine w_lp (inv:=λz=>0<=z.1/\z.1<=32/\Q0q P z.2/\∀k:Nat,byt z.2 k=if v*128<=k/\(k:Int)<v*128+4*z.1 then 0 else byt m k) (μ:=Qhp b m 10 v) ⟨show(0:Int)<=0 by decide,show(0:Int)<=32 by decide,hm,λk=>by rw[if_neg];show¬(_/\_<_+4*(0:Int));omega⟩ (cL _) (λz hz=>?_)
 obtain⟨z1,z2,z3,z4⟩:=hz
 have hl:=z3.len
 refine w_br (λh=>?_) (λh=>⟨rfl,z3,λk=>?_⟩)
 ·have h:=oY h
  have e:wrap i64 (wrap i64 (wrap i64 v*32)+z.1)=v*32+z.1:=by rw[wrap_i64,wrap_i64,wrap_i64];omega
  refine w_cn (by rw[e];simp[bJ];omega) (w_nx ?_)
  have ew:i64.wrap (z.1+1)=z.1+1:=by rw[wrap_i64];omega
  show(0<=i64.wrap (z.1+1)/\i64.wrap (z.1+1)<=32/\Q0q P (dC _ _ _)/\∀k:Nat,byt (dC z.2 (dB (wrap i64 (wrap i64 (wrap i64 v*32)+z.1))) 0) k=if v*128<=(k:Int)/\(k:Int)<v*128+4*i64.wrap (z.1+1)then 0 else _)/\(32-i64.wrap (z.1+1)).toNat<(32-z.1).toNat
  rw[ew,e]
  refine⟨⟨by omega,by omega,⟨by simp[hl],z3.p1,z3.p2,Z4k z3.u U_0 _⟩,λk=>?_⟩,by omega⟩
  rw[Zga (by omega)]
  by_cases hc:k/4=(v*32+z.1).toNat
  ·rw[if_pos hc,if_pos (by omega)]
   have:k%4=0\/k%4=1\/k%4=2\/k%4=3:=by omega
   rcases this with h|h|h|h<;>rw[h]<;>rfl
  ·rw[if_neg hc,z4 k]
   by_cases hd:v*128<=(k:Int)/\(k:Int)<v*128+4*z.1
   ·rw[if_pos hd,if_pos (by omega)]
   ·rw[if_neg hd,if_neg (by omega)]
 ·have h:=oN h
  show byt z.2 k=_
  rw[z4 k,show z.1=32 by omega];rfl
theorem bitv{g v:Int}(hg:U g)(v0:0<=v)(v1:v<32):(iand .u32 g (ishl .u32 1 v)==0)=(iand .u32 (ishr .u32 g v) 1==0):=by
 obtain⟨z,rfl⟩:∃z:Nat,v=z:=⟨v.toNat,by omega⟩
 obtain⟨n,rfl⟩:∃n:Nat,g=n:=⟨g.toNat,by have:=hg.1;omega⟩
 have hz:z<32:=by omega
 have hlt:(2:Nat)^z<4294967296:=by have:=dX (show 1<2 by omega) hz;simpa using this
 rw[and1 (Qvl hg _),Qqs z (by omega),vf v0 v1,dZ]
 have hc:((2:Int)^z)=((2^z:Nat):Int):=by simp
 generalize hq:2^z=q at*
 rw[hc,Z2r hg ⟨by omega,by omega⟩,dZ,dZ,<-hq]
 have e1:(n&&&2^z)=0↔n/2^z%2=0:=by
  have t:n.testBit z=decide (n/2^z%2=1):=Nat.testBit_eq_decide_div_mod_eq
  constructor
  ·intro h
   have h2:(n&&&2^z).testBit z=false:=by rw[h];exact eX z
   rw[eY,Nat.testBit_two_pow_self,Bool.and_true,t]at h2
   have:=oN h2
   omega
  ·intro h
   have t0:n.testBit z=false:=by rw[t];exact dN (by omega)
   apply eG
   intro i
   rw[eY,Nat.testBit_two_pow,eX]
   by_cases hi:z=i
   ·subst hi;rw[t0];rfl
   ·rw[dN hi,Bool.and_false]
 rw[eC,beq_iff_eq,beq_iff_eq]
 constructor
 ·intro h;have:=e1.1 (by omega);omega
 ·intro h;have:=e1.2 (by omega);omega
theorem Ziu{P:Nat}{m:List Int}(h:Q0q P m){b:Q06}(hb:okB b)(port:Int){v:Int}(hv:U v):Q3m b m port v=Q7x b m port v:=by
  have hcl:Q03 m=m:=rfl
  have hp:=Q1z h
  have h2:=h.p2
  have ew:i64.wrap v=v:=w64 (by have:=hv.1;omega) (by have:=hv.2;omega)
  have pe:=Qlr h hv
  by_cases h32:v<32
  . have bv :=bitv hb.2 hv.1 h32
    by_cases h10:port=10
    . by_cases hP:v<P
      . cases hz:iand .u32 (ishr .u32 b.C0 v) 1==0
        . simp only[Q3m,Q3h,Q7x,Q5d,Tree.m,letv,hcl,hp,ew,pe,bv,hz,h10,dY hP,dN (show¬v>=32 by omega)]
          rfl
        . obtain⟨g1,g2,g3⟩:=(Tree.pp (xau h hv hP h10 hz)).2
          change(Q7x b m port v).1=_ at g1
          change Q0q P (Q7x b m port v).2 at g2
          change∀k:Nat,byt (Q7x b m port v).2 k=_ at g3
          obtain⟨s1,s2,s3⟩:=(Tree.pp (Qsd h hv.1 hP (s:=cM 128 0) (by simp))).2
          have em:(Q0r m v (cM 128 0)).1=(Q7x b m port v).2:=by
            refine Zir (s2.len.trans g2.len.symm) s2.u g2.u λk=> ?_
            rw[g3 k]
            refine(s3 k).trans ?_
            by_cases hk:v*128<=(k:Int)/\(k:Int)<v*128+128
            . rw[if_pos hk,if_pos hk]
              have:(cM 128 (0:UInt8)).getD ((k:Int)-v*128).toNat 0=0:=by
                rw[cZ,List.getElem?_replicate]
                split<;>rfl
              rw[this];rfl
            . rw[if_neg hk,if_neg hk]
          have el:Q3m b m port v=({C6:=b.C6,C0:=ior .u32 b.C0 (ishl .u32 1 v)},(Q0r m v (cM 128 0)).1):=by
            simp only[Q3m,Q3h,Tree.m,letv,hcl,hp,ew,bv,hz,h10,dY hP,dN (show¬v>=32 by omega),zeros]
            rfl
          rw[el,em,<-g1]
      . simp only[Q3m,Q3h,Q7x,Q5d,Tree.m,letv,hcl,hp,ew,pe,h10,dN hP,dN (show¬v>=32 by omega)]
        rfl
    . simp only[Q3m,Q3h,Q7x,Q5d,Tree.m,letv,hcl,dY h32,dN (show¬v>=32 by omega),show(port==10)=false by simpa using h10]
      cases port==11<;>rfl
  . simp only[Q3m,Q3h,Q7x,Q5d,Tree.m,letv,hcl,pe,dN h32,dY (show v>=32 by omega),dN (show¬v<P by omega)]
    cases port==10<;>cases port==11<;>rfl
structure okV(m:Q00):Prop where
 cpu:Q29 m.A4
 mem:∀w∈m.Mem,U w
 disk:Q4t m.B0
 nic:Qas m.C2
 bal:okB m.A1
 cnt:0<=m.A2
theorem Qsi(m:List Int)(hm:∀w∈m,U w):Q1 m=Q4p m/\(Q1 m=0\/∃P:Nat,1<=P/\Q0q P m):=by
 refine⟨rfl,?_⟩
 simp only[Q1,Q8z,Tree.m]
 cases h1:dA (m.length:Int) 32 !=0
 ·cases h2:decide ((m.length:Int)>1024)
  ·have h1:dA (m.length:Int) 32=0:=by simpa using h1
   have h2:=oN h2
   rw[eA (by omega)]at h1
   by_cases h0:m.length=0
   ·left;rw[h0];rfl
   ·right;exact⟨m.length/32,by omega,⟨by omega,by omega,by omega,hm⟩⟩
  ·left;rfl
 ·left;rfl
theorem rcnd{a x:Bool}:(bif !a then false else x)=true↔a=true/\x=true:=by cases a<;>simp
theorem yG(m:Q00):Qdl m=true↔ ¬(Q4p m.Mem<1)/\Q84 m.A4/\Qi3 m.A3=true/\Qdj m.B2=true/\Qfb m.B0 (Q4p m.Mem)=true/\Qh8 m.C2 (Q4p m.Mem)=true/\Qa7 m.A1 (Q4p m.Mem)=true/\m.A2<=1152921504606846976/\¬(m.A6=true/\m.A9=true):=by
 simp only[Qdl,Qwg,Tree.m,letv]
 rw[cnd2,cnd2,cnd2,cnd2,cnd2,cnd2,rcnd,rcnd,rcnd,rcnd,rcnd]
 simp only[decide_eq_false_iff_not,Int.not_lt,bne_eq_false_iff_eq,gt_iff_lt]
 have l:((bif decide (m.A2<=1152921504606846976)then(bif m.A6 then !m.A9 else true)else false)=true)↔m.A2<=1152921504606846976/\¬(m.A6=true/\m.A9=true):=by
  by_cases hc:m.A2<=1152921504606846976
  ·rw[dY hc]
   cases m.A6<;>cases m.A9<;>simp[hc]
  ·rw[dN hc];simp[hc]
 rw[l]
 constructor
 ·rintro⟨a1,a2,a3,a4,a5,a6,a7⟩
  exact⟨by omega,⟨a2,a3,a4,a5,a6⟩,a7⟩
 ·rintro⟨a1,⟨a2,a3,a4,a5,a6⟩,a7⟩
  exact⟨by omega,a2,a3,a4,a5,a6,a7⟩
theorem Qzi{m:Q00}(h:okV m):Q10 m=Qdl m:=by
 rw[eC,Qk9,yG,xf]
 obtain⟨e,c⟩:=Qsi m.Mem h.mem
 simp only[aE,<-e]
 rcases c with c|⟨P,hP,hm⟩
 ·constructor
  ·rintro⟨a,_⟩;exact absurd c a
  ·rintro⟨a,_⟩;omega
 ·rw[Q1z hm,Z3x,Zbn,Ze,Zi1 h.bal.2 hm.p2]
  constructor
  ·rintro⟨a1,a2,a3,a4,a5,a6,a7,a8,a9⟩;exact⟨by omega,a2,a5,a6,a7,a8,a9,a3,a4⟩
  ·rintro⟨a1,a2,a5,a6,a7,a8,a9,a3,a4⟩;exact⟨by omega,a2,a3,a4,a5,a6,a7,a8,a9⟩
def Zba(a b c d e:Bool):Int:=ior .u32 (ior .u32 (ior .u32 (ior .u32 (Q9v a 0) (Q9v b 1)) (Q9v c 2)) (Q9v d 3)) (Q9v e 4)
theorem mlines(m:Q00):Q3g m=Zba (Qgn m.B2) (Q9f m.A3) (Q9r m.B0) (Qm7 m.C2) (Q7s m.A1):=by
 unfold Q3g Q7w
 simp only[Tree.m,letv]
 generalize Qgn m.B2=a
 generalize Q9f m.A3=b
 generalize Q9r m.B0=c
 generalize Qm7 m.C2=d
 generalize Q7s m.A1=e
 cases a<;>cases b<;>cases c<;>cases d<;>cases e<;>kernel_rfl
theorem Zmx(a b c d e:Bool):0<=Zba a b c d e/\Zba a b c d e<32:=by
 cases a<;>cases b<;>cases c<;>cases d<;>cases e<;>decide
theorem rlines(m:Q00):Qgx m=Zba (Qb m.B2) (Q67 m.A3) (Qbz m.B0) (Qdf m.C2) (Q4l m.A1):=rfl
section
variable {m:Q00} (h:okV m)
include h
theorem Z7s:Q3g m=Qgx m:=by
 rw[mlines,rlines,qG,Zbs h.bal];rfl
theorem Qxu:Q61 m=Q2m m:=by
 have e:=Z7s h
 simp only[Q61,Q3p,Q2m,Q96,Tree.m,letv,e]
theorem vj:Q5 m=Qfa m:=by
 have e:=Qxu h
 simp only[Q5,Q5v,Qfa,Qek,Tree.m,letv,e]
theorem Z1p:Q14 m=!Q7u m:=by
 have e1:=Qzi h
 have e2:=vj h
 have e3:decide (m.A2>=1152921504606846976)=!decide (m.A2<1152921504606846976):=zj
 simp only[Q14,Q3r,Q7u,Q9j,Tree.m,letv,e1,e2,e3]
 cases Qdl m<;>cases m.A9<;>cases Qfa m<;>cases decide (m.A2<1152921504606846976)<;>rfl
theorem Qwv:0<=Q2m m/\Q2m m<32:=by
 have e:Q2m m=iand .u32 (Qgx m) m.A4.B3.a7:=rfl
 have l:=Zmx (Qb m.B2) (Q67 m.A3) (Qbz m.B0) (Qdf m.C2) (Q4l m.A1)
 rw[<-rlines]at l
 rw[e,Z2r ⟨l.1,by omega⟩ h.cpu.a7]
 have:=dW (n:=(Qgx m).toNat) (m:=m.A4.B3.a7.toNat)
 omega
def low(l:Int):Int:=if l%2=1 then 0 else if l/2%2=1 then 1 else if l/4%2=1 then 2 else if l/8%2=1 then 3 else 4
end
theorem Zgw{l:Int}(h0:0<=l)(h1:l<32):l=0\/l=1\/l=2\/l=3\/l=4\/l=5\/l=6\/l=7\/l=8\/l=9\/l=10\/l=11\/l=12\/l=13\/l=14\/l=15\/l=16\/l=17\/l=18\/l=19\/l=20\/l=21\/l=22\/l=23\/l=24\/l=25\/l=26\/l=27\/l=28\/l=29\/l=30\/l=31:=by omega
def intr(m:Q00)(l:Int):Q02:=bif iand .u32 m.A4.B3.a0 2==0 then m.A4 else bif l==0 then m.A4 else Q3d m.A4 (wrap .i64 (16+low l)) 0
theorem rintr{m:Q00}(h:okV m):Q07 m=intr m (Q2m m):=by
 obtain⟨l0,l1⟩:=Qwv h
 unfold Q07 Q5b
 simp only[Tree.m,letv]
 revert l0 l1
 generalize Q2m m=l
 intro l0 l1
 unfold intr
 cases iand .u32 m.A4.B3.a0 2==0
 ·rcases Zgw l0 l1 with rfl|rfl|rfl|rfl|rfl|rfl|rfl|rfl|rfl|rfl|rfl|rfl|rfl|rfl|rfl|rfl|rfl|rfl|rfl|rfl|rfl|rfl|rfl|rfl|rfl|rfl|rfl|rfl|rfl|rfl|rfl|rfl<;>kernel_rfl
 ·rfl
def beg(m:Q00)(c:Q02):Q00:={A4:=c,Mem:=m.Mem,A3:=m.A3,B2:=m.B2,B0:=m.B0,C2:=m.C2,A1:=m.A1,A2:=m.A2,A6:=false,A9:=m.A9}
theorem Qpl{m:Q00}(h:okV m)(hst:m.A4.B3.a0<=31):Q1e m=beg m (Q07 m):=by
 obtain⟨l0,l1⟩:=Qwv h
 have tr:∀k b,Q3a m.A4 k b=Q3d m.A4 k b:=Qlc h.cpu.a0.1 hst
 have e:Q61 (beg m m.A4)=Q2m m:=Qxu (m:=beg m m.A4) ⟨h.cpu,h.mem,h.disk,h.nic,h.bal,h.cnt⟩
 rw[rintr h]
 unfold Q1e Q7v
 simp only[Tree.m,letv]
 rw[show Q61 {A4:=m.A4,Mem:=m.Mem,A3:=m.A3,B2:=m.B2,B0:=m.B0,C2:=m.C2,A1:=m.A1,A2:=m.A2,A6:=false,A9:=m.A9}=Q2m m from e]
 revert l0 l1
 generalize Q2m m=l
 intro l0 l1
 unfold intr
 simp only[<-tr]
 cases iand .u32 m.A4.B3.a0 2==0
 ·rcases Zgw l0 l1 with rfl|rfl|rfl|rfl|rfl|rfl|rfl|rfl|rfl|rfl|rfl|rfl|rfl|rfl|rfl|rfl|rfl|rfl|rfl|rfl|rfl|rfl|rfl|rfl|rfl|rfl|rfl|rfl|rfl|rfl|rfl|rfl<;>(show _=_;kernel_rfl)
 ·rfl
theorem ports{p:Int}:p=0\/p=1\/p=2\/p=3\/p=4\/p=5\/p=6\/p=7\/p=8\/p=9\/p=10\/p=11\/p<0\/12<=p:=by omega
theorem xaa{m:Q00}(hb:okB m.A1)(port clock:Int):Q0w m port clock=((Qii m port clock).2,(Qii m port clock).1):=by
 have e1:=Zmf m.A3
 have e2:∀p,Qvt m.B0 p=Qmj m.B0 p:=λ_=>rfl
 have e3:=Znb m.C2
 have e4:=Zmn hb
 have e5:Z00 m.B2=Qjk m.B2:=rfl
 simp only[Q0w,Q40,Qii,Qp0,Tree.m,letv,e1,e2,e3,e4,e5]
 rcases ports (p:=port)with rfl|rfl|rfl|rfl|rfl|rfl|rfl|rfl|rfl|rfl|rfl|rfl|h|h
 all_goals first|rfl|skip
 ·have n:∀k:Int,0<=k->(port==k)=false:=λk hk=>beq_eq_false_iff_ne.2 (by omega)
  have c:Q7k m.A3 port=(m.A3,0):=by
   simp only[Q7k,Q43,Tree.m,n 0 (by decide),n 1 (by decide),cond_false]
  simp only[n 0 (by decide),n 1 (by decide),n 2 (by decide),n 3 (by decide),n 4 (by decide),n 5 (by decide),n 6 (by decide),n 7 (by decide),n 8 (by decide),n 9 (by decide),n 10 (by decide),n 11 (by decide),cond_false,dY (show port<=1 by omega),cond_true,c]
 ·have n:∀k:Int,k<12->(port==k)=false:=λk hk=>beq_eq_false_iff_ne.2 (by omega)
  have c:Q7h m.A1 port=0:=by
   simp only[Q7h,Q6l,Tree.m,n 10 (by decide),n 11 (by decide),cond_false]
  simp only[n 0 (by decide),n 1 (by decide),n 2 (by decide),n 3 (by decide),n 4 (by decide),n 5 (by decide),n 6 (by decide),n 7 (by decide),n 8 (by decide),n 9 (by decide),n 10 (by decide),n 11 (by decide),cond_false,dN (show¬port<=1 by omega),dN (show¬port<=6 by omega),dN (show¬port<=9 by omega),c]
theorem vG{P:Nat}{m:Q00}(hm:Q0q P m.Mem)(hb:okB m.A1)(port:Int){v:Int}(hv:U v):Q0v m port v m.A2=((Qez m port v).2,(Qez m port v).1):=by
 have e1:=Zdg hm m.B0
 have e2:=Zig hm m.C2
 have e3:=Ziu hm hb port hv
 have e4:=xG m.B2 v
 simp only[Q0v,Q3k,Qez,Qgz,Tree.m,letv,e1,e2,e3,e4]
 rcases ports (p:=port)with rfl|rfl|rfl|rfl|rfl|rfl|rfl|rfl|rfl|rfl|rfl|rfl|h|h
 all_goals first|rfl|skip
 ·have n:∀k:Int,0<=k->(port==k)=false:=λk hk=>beq_eq_false_iff_ne.2 (by omega)
  simp only[n 0 (by decide),n 1 (by decide),n 2 (by decide),n 3 (by decide),n 4 (by decide),n 5 (by decide),n 6 (by decide),n 7 (by decide),n 8 (by decide),n 9 (by decide),n 10 (by decide),n 11 (by decide),cond_false,dY (show port<=2 by omega),cond_true]
 ·have n:∀k:Int,k<12->(port==k)=false:=λk hk=>beq_eq_false_iff_ne.2 (by omega)
  have c:Q7x m.A1 m.Mem port v=(m.A1,m.Mem):=by
   simp only[Q7x,Q5d,Tree.m,n 10 (by decide),n 11 (by decide),cond_false]
  simp only[n 0 (by decide),n 1 (by decide),n 2 (by decide),n 3 (by decide),n 4 (by decide),n 5 (by decide),n 6 (by decide),n 7 (by decide),n 8 (by decide),n 9 (by decide),n 10 (by decide),n 11 (by decide),cond_false,dN (show¬port<=2 by omega),dN (show¬port<=6 by omega),dN (show¬port<=9 by omega),c]
def tick(n:Q00)(c:Q02)(w h:Bool):Q00:={A4:=c,Mem:=n.Mem,A3:=n.A3,B2:=n.B2,B0:=n.B0,C2:=n.C2,A1:=n.A1,A2:=wrap .u64 (n.A2+1),A6:=w,A9:=h}
def withX(m:Q00)(c:Q02)(mem:List Int):Q00:={A4:=c,Mem:=mem,A3:=m.A3,B2:=m.B2,B0:=m.B0,C2:=m.C2,A1:=m.A1,A2:=m.A2,A6:=false,A9:=m.A9}
def finP(n:Q00)(e:Q1f)(clock at0:Int):Q00×List Q0a:=
 bif e.C3==1 then
  (bif e.D8 !=0 then(tick (Q0w n e.C8 clock).1 {X:=A16.of 0 (dC (A16.l (Q0w n e.C8 clock).1.A4.X) e.D8.toNat (Q0w n e.C8 clock).2),Pc:=(Q0w n e.C8 clock).1.A4.Pc,B3:=(Q0w n e.C8 clock).1.A4.B3} (Q0w n e.C8 clock).1.A6 (Q0w n e.C8 clock).1.A9,[])
  else(tick (Q0w n e.C8 clock).1 (Q0w n e.C8 clock).1.A4 (Q0w n e.C8 clock).1.A6 (Q0w n e.C8 clock).1.A9,[]))
 else bif e.C3==2 then(tick (Q0v n e.C8 e.Value at0).1 (Q0v n e.C8 e.Value at0).1.A4 (Q0v n e.C8 e.Value at0).1.A6 (Q0v n e.C8 e.Value at0).1.A9,(Q0v n e.C8 e.Value at0).2)
 else bif e.C3==3 then(tick n n.A4 true n.A9,[])else bif e.C3==4 then(tick n n.A4 n.A6 true,[])else(tick n n.A4 n.A6 n.A9,[])
def finR(n:Q00)(e:Q1f)(clock:Int):List Q0a×Q00:=
 bif e.C3==1 then([],tick (Qii n e.C8 clock).2 (Q24 (Qii n e.C8 clock).2.A4 e.D8 (Qii n e.C8 clock).1) (Qii n e.C8 clock).2.A6 (Qii n e.C8 clock).2.A9)
 else bif e.C3==2 then((Qez n e.C8 e.Value).1,tick (Qez n e.C8 e.Value).2 (Qez n e.C8 e.Value).2.A4 (Qez n e.C8 e.Value).2.A6 (Qez n e.C8 e.Value).2.A9)
 else bif e.C3==3 then([],tick n n.A4 true n.A9)else bif e.C3==4 then([],tick n n.A4 n.A6 true)else([],tick n n.A4 n.A6 n.A9)
theorem qav(m:Q00)(clock:Int):Q2a m clock=finR (withX m (Qdy (Q07 m) m.Mem).1 (Qdy (Q07 m) m.Mem).2.2) (Qdy (Q07 m) m.Mem).2.1 clock:=by kernel_rfl
theorem Qsm(m:Q00)(clock:Int):Q0z m clock=bif !Q14 m then(m,[])else finP {A4:=(Q2s (Q1e m).A4 (Q1e m).Mem).1,Mem:=(Q2s (Q1e m).A4 (Q1e m).Mem).2.1,A3:=(Q1e m).A3,B2:=(Q1e m).B2,B0:=(Q1e m).B0,C2:=(Q1e m).C2,A1:=(Q1e m).A1,A2:=(Q1e m).A2,A6:=(Q1e m).A6,A9:=(Q1e m).A9} (Q2s (Q1e m).A4 (Q1e m).Mem).2.2 clock m.A2:=by kernel_rfl
theorem qab(m:List Int):Qnw m=m:=by
 simp[Qnw,Qa0,Tree.m]
theorem Z7g(m:Q00):Qpy m=m:=by
 simp only[Qpy,Qcj,Tree.m,letv,qab]
theorem Z9o(m:Q00)(clock:Int):Qli m clock=bif Q7u m then(m,[])else((Q2a m clock).2,(Q2a m clock).1):=by
 simp only[Qli,Qei,Tree.m,letv,Z7g]
theorem qH{P:Nat}{n:Q00}(hm:Q0q P n.Mem)(hb:okB n.A1){e:Q1f}(hr:0<=e.D8/\e.D8<16)(hv:U e.Value)(clock:Int):finP n e clock n.A2=((finR n e clock).2,(finR n e clock).1):=by
 unfold finP finR
 rw[xaa hb e.C8 clock,vG hm hb e.C8 hv]
 cases e.C3==1
 ·cases e.C3==2
  ·cases e.C3==3
   ·cases e.C3==4<;>rfl
   ·rfl
  ·rfl
 ·generalize Qii n e.C8 clock=r
  have s:=Qzf r.2.A4 hr r.1
  show(bif e.D8 !=0 then _ else _)=(tick r.2 (Q24 r.2.A4 e.D8 r.1) r.2.A6 r.2.A9,[])
  rw[<-s]
  simp only[Qbb,Qd9,Tree.m]
  cases e.D8 !=0<;>rfl
theorem Z0b{m:Q00}(h:okV m)(clock:Int):Q0z m clock=Qli m clock:=by
 rw[Qsm,Z9o,Z1p h]
 cases hs:Q7u m
 ·have hr:Q14 m=true:=by rw[Z1p h,hs];rfl
  obtain⟨hm,hh,hct⟩:=Qll hr
  obtain⟨g1,g2,g3,g4,g5⟩:=(Qk9 m).1 hm
  rcases(Qsi m.Mem h.mem).2 with c|⟨P,hP,hmem⟩
  ·exact absurd c g1
  have okm:okS P m:=⟨h.cpu,hmem,h.disk,h.nic,h.bal.1,h.bal.2⟩
  obtain⟨b1,b2,b3,_⟩:=(Tree.pp (Z3u okm g2)).2
  change Q84 (Q1e m).A4 at b1
  change okS P (Q1e m)at b2
  change(Q1e m).Mem=m.Mem at b3
  have be:=Qpl h g2.st
  have b1':Q84 (Q07 m):=by have:=b1;rw[be]at this;exact this
  have b2':Q29 (Q07 m):=by have:=b2.cpu;rw[be]at this;exact this
  have ex:=xj hmem b2' b1'.st
  have er:=(Tree.pp (Zjr b2' hmem)).2
  change 0<=(Q2s (Q07 m) m.Mem).2.2.D8/\(Q2s (Q07 m) m.Mem).2.2.D8<16 at er
  obtain⟨d1,d2,d3⟩:=(Tree.pp (do_w b2' hmem)).2
  change U (Qdy (Q07 m) m.Mem).2.1.Value at d2
  change Q0q P (Qdy (Q07 m) m.Mem).2.2 at d3
  rw[ex]at er
  rw[qav,be]
  show finP {A4:=(Q2s (Q07 m) m.Mem).1,Mem:=(Q2s (Q07 m) m.Mem).2.1,A3:=m.A3,B2:=m.B2,B0:=m.B0,C2:=m.C2,A1:=m.A1,A2:=m.A2,A6:=false,A9:=m.A9} (Q2s (Q07 m) m.Mem).2.2 clock m.A2=_
  rw[ex]
  exact qH (n:=withX m (Qdy (Q07 m) m.Mem).1 (Qdy (Q07 m) m.Mem).2.2) d3 h.bal er d2 clock
 ·rfl
theorem Z5w{m:Q00}(h:okV m)(e:Q0f):Q0p m e=Qap m e:=by
 have hcl:Q03 m.Mem=m.Mem:=rfl
 have mm:=Qzi h
 have t1:Qal m.B2=Z1z m.B2:=rfl
 have t2:∀b,Qa9 m.A3 b=Z2w m.A3 b:=λ_=>rfl
 simp only[Q0p,Q50,Qap,Q70,Q5w,Qcg,Tree.m,letv,Z7g,hcl,t1,t2]
 rw[show Q10 {A4:=m.A4,Mem:=m.Mem,A3:=m.A3,B2:=m.B2,B0:=m.B0,C2:=m.C2,A1:=m.A1,A2:=m.A2,A6:=m.A6,A9:=m.A9}=Qdl m from mm]
 cases hM:Qdl m
 ·rfl
 have hM':Q10 m=true:=mm.trans hM
 rcases(Qsi m.Mem h.mem).2 with c|⟨P,hP,hmem⟩
 ·exact absurd c ((Qk9 m).1 hM').1
 have cs:=Za5 hmem h.disk e
 have rs:=Zbu hmem h.nic e.C5
 clear mm hM hM' hcl h
 obtain⟨c,mem,con,ti,d,n,b,ct,w,hl⟩:=m
 cases hl
 ·by_cases k2:e.C3=2
  ·rw[k2];cases e.N==0<;>cases decide (e.C5=[])<;>rfl
  by_cases k3:e.C3=3
  ·rw[k3];cases decide (e.N<=255)<;>cases decide (e.C5=[])<;>rfl
  by_cases k4:e.C3=4
  ·rw[k4,cs];rfl
  by_cases k5:e.C3=5
  ·rw[k5,rs];cases e.N==0<;>rfl
  by_cases k6:e.C3=6
  ·rw[k6];cases decide (e.C5=[])<;>rfl
  ·rw[show(e.C3==2)=false by simpa using k2,show(e.C3==3)=false by simpa using k3,show(e.C3==4)=false by simpa using k4,show(e.C3==5)=false by simpa using k5,show(e.C3==6)=false by simpa using k6]
   rfl
 ·rfl
section
variable {m:Q00} (h:okV m) (hl:m.Mem.length<=1024)
include h
theorem may_P(hm:Q10 m=true):∃P,okS P m/\okM P m:=by
 rcases(Qsi m.Mem h.mem).2 with c|⟨P,hP,hmem⟩
 ·exact absurd c ((Qk9 m).1 hm).1
 ·exact⟨P,⟨h.cpu,hmem,h.disk,h.nic,h.bal.1,h.bal.2⟩,⟨h.cpu,hmem,h.disk,h.nic,h.bal,h.cnt⟩⟩
include hl
theorem Zc4{clock:Int}(hk:U clock):Q46 m clock/\(Q0z m clock).2.length<=1/\(Q0z m clock).1.Mem.length<=1024:=by
 cases hr:Q14 m
 ·have e:Q0z m clock=(m,[]):=by rw[Qsm,hr];rfl
  rw[e]
  refine⟨?_,aT _,hl⟩
  have hcl:Q03 m.Mem=m.Mem:=rfl
  show(Q5p m clock).p
  unfold Tree.p Q5p
  refine w_an (by show m.Mem.length<=35184372088832;omega) (w_lv λl hl=>?_)
  rw[hcl]at hl;subst hl
  refine w_an (Tree.pp (yu (m:=⟨_,_,_,_,_,_,m.A1,_,_,_⟩) h.bal.2)).1 (w_lv λx1 hx1=>w_br (λ_=>trivial) (λhb=>?_))
  have:x1=false:=hx1.trans hr
  rw[this]at hb;cases hb
 ·obtain⟨P,s,_⟩:=may_P h (Qll hr).1
  have g:=Tree.pp (zg s h.cnt hk)
  have ml:=g.2.2.ok.mem.len
  have mp:=g.2.2.ok.mem.p2
  exact⟨g.1,g.2.1,by show(Q5p m clock).m.1.Mem.length<=1024;omega⟩
omit h in
theorem ownV:(Qcj m).w (λx=>x=m):=by
 unfold Qcj Qnw
 have c:(Qa0 m.Mem).w (λr=>r=m.Mem):=by
  unfold Qa0
  refine w_cn ?_ ?_
  ·simp[bJ,D.plain];omega
  ·show _=_;simp
 exact Q0e c λx hx=>by rw[hx];rfl
omit h hl in
theorem Zkx{P:Nat}(h:okM P m){e:Q0f}(he:U e.N):(Qcg m e).w (λx=>okM P x.2):=by
 have k:=h
 obtain⟨h1,h2,h3,h4,h5,h7⟩:=h
 unfold Qcg
 repeat'(first
  |exact k
  |exact⟨h1,h2,h3,h4,⟨he,h5.2⟩,h7⟩
  |exact w_lv λ_ _=>⟨h1,h2,h3,h4,h5,h7⟩
  |exact Q0e (zaA _ _) λ_ _=>⟨h1,h2,h3,h4,h5,h7⟩
  |exact Q0e (vN h2 h3 _) λx hx=>⟨h1,hx.2,hx.1,h4,h5,h7⟩
  |exact Q0e (qP h2 h4 _) λx hx=>⟨h1,hx.2,h3,hx.1,h5,h7⟩
  |refine w_br (λ_=>?_) (λ_=>?_))
theorem rapplyV{e:Q0f}(he:U e.N):Qk5 m e/\(Qap m e).1.Mem.length<=1024:=by
 refine Tree.pp (t:=Q70 m e) (W:=λr=>r.1.Mem.length<=1024) ?_
 unfold Q70
 refine Q0e (ownV hl) λx0 e0=>?_
 subst e0
 refine w_lv λx1 h1=>w_br (λ_=>hl) λhb=>?_
 have hm:Q10 x0=true:=by
  rw[Qzi h]
  have:x1=true:=by simpa using hb
  exact h1.symm.trans this
 obtain⟨P,_,o⟩:=may_P h hm
 exact Q0e (Zkx o he) λx hx=>by
  show x.2.Mem.length<=1024
  have:=hx.mem.len
  have:=hx.mem.p2
  omega
theorem Qw9{e:Q0f}(he:U e.N):Q33 m e:=by
 cases hm:Q10 m
 ·have hcl:Q03 m.Mem=m.Mem:=rfl
  show(Q50 m e).p
  unfold Tree.p Q50
  refine w_an (by show m.Mem.length<=35184372088832;omega) (w_lv λl hl=>?_)
  rw[hcl]at hl;subst hl
  refine w_an (Tree.pp (Z6d (m:=⟨_,_,_,_,_,_,m.A1,_,_,_⟩) h.bal.2)).1 (w_lv λx1 hx1=>w_br (λ_=>trivial) (λhb=>?_))
  have:x1=false:=hx1.trans hm
  rw[this]at hb;cases hb
 ·obtain⟨P,s,o⟩:=may_P h hm
  exact(Tree.pp (Zj8 o he)).1
end
theorem zab(a:Q00)(ha:a.Mem.length<=1000000000000):(Qho a a).w (λb=>b=true):=by
 unfold Qho
 repeat'(first
  |refine w_br (λ_=>?_) (λh=>absurd h (by simp[eqs,eq1];done))
  |exact w_an ha (w_lv λx hx=>by rw[hx];exact Z8 _ ha)
  |refine w_an ha (w_lv λx hx=>w_br (λ_=>?_) (λh=>by rw[hx,Z8 _ ha]at h;cases h))
  |exact rfl)
 all_goals(show(_==_)=true;simp)
theorem qk(a:List Q0a)(ha:a.length<=1000000000000):(Q5a a a).w (λb=>b=true):=by
 unfold Q5a
 refine w_br (λh=>by simp at h) (λ_=>?_)
 refine w_lp (inv:=λv:Int=>0<=v/\v<=a.length) (μ:=Q6g a a) ⟨by omega,by omega⟩ (cL _) λv ⟨h1,h2⟩=>?_
 refine w_br (λhb=>?_) (λ_=>rfl)
 have hb:=oY hb
 have e:i64.wrap (v+1)=v+1:=by rw[wrap_i64];omega
 refine w_cn (by simp[bJ];omega) (w_cn (by simp[bJ];omega) (w_br (λh=>by simp[eqs,eq1]at h) (λ_=>w_nx ?_)))
 show(_/\_)/\(_:Nat)<_
 exact⟨⟨by rw[e];omega,by rw[e];omega⟩,by show(a.length-i64.wrap (v+1)).toNat<(a.length-v).toNat;rw[e];omega⟩

/-
  A part of the proof.
-/
import Derived.Test.YtjaifpiopmhmlaaGreatBareIgnoresLaws2
import Derived.Test.YtjaifpiopmhmlaaGreatBareIgnoresNewsB
import Derived.Test.YtjaifpiopmhmlaaGreatBareIgnoresZg
import Derived.Test.YtjaifpiopmhmlaaGreatBareIgnoresZt
import Derived.Test.YtjaifpiopmhmlaaGreatBareIgnoresCk
set_option maxRecDepth 100000
set_option linter.all false
namespace Go.Proofs.YtjaifpiopmhmlaaGreat
open Go Go.GD
theorem yG(i:Q0i):U (Q1f i).1:=by
 refine Tree.post (Qg1 i) (W:=λr=>U r.1) ?_
 unfold Qg1
 exact w_lv λ_ _=>w_br (λ_=>U_0) (λ_=>U_or _ _)
theorem qd(l:List Int)(hl:l.length*8<=reachBytes):(Qhr l).w (λr=>(r.length:Int)=l.length/\ ∀w∈r,U w):=by
 have hl':l.length*8<=140737488351232:=hl
 have app: ∀{r:List Int} {x:Int},(∀w∈r,U w)->U x-> ∀w∈r++[x],U w:=λhr hx w hw=>by
   rw[List.mem_append]at hw
   rcases hw with hw|hw
   . exact hr w hw
   . rw[List.mem_singleton.1 hw];exact hx
 unfold Qhr
 refine w_lp (inv:=λz=>Qpv l z/\ ∀w∈z.2,U w) (μ:=Qc5 l) ⟨⟨by omega,by simp,by simp⟩,by simp⟩ (Nat.lt_succ_self _) (λv0 hv=> ?_)
 obtain⟨⟨h1,h2,h3⟩,h4⟩:=hv
 refine w_br (λh=> ?_) (λh=> ?_)
 . have h:=of_decide_eq_true h
   have next: ∀x:Int,U x->(Qpv l (IntKind.wrap IntKind.i64 (v0.1+1),v0.2++[x])/\ ∀w∈v0.2++[x],U w)/\Qc5 l (IntKind.wrap IntKind.i64 (v0.1+1),v0.2++[x])<Qc5 l v0:=λx hx=>by
     have hw:IntKind.i64.wrap (v0.1+1)=v0.1+1:=by rw[IntKind.wrap_i64];omega
     rw[hw]
     refine⟨⟨⟨?_,?_,?_⟩,app h4 hx⟩,?_⟩
     . show 0<=v0.1+1;omega
     . show v0.1+1<=l.length;omega
     . show((v0.2++[x]).length:Int)=v0.1+1;simp;omega
     . show(l.length-(v0.1+1)).toNat<(l.length-v0.1).toNat;omega
   have hb:(Nat.beq 1 1&&Nat.blt 0 1&&decide (0<=v0.1/\v0.1<(l.length:Int)))=true:=by simp [Nat.blt];omega
   have hc:decide (4*(v0.2.length+1)<=140737488355328)=true:=decide_eq_true (by omega)
   exact w_cn hb (w_br (λ_=>w_cn hb (w_cn hc (next _ (Q0s _)))) (λ_=>w_cn hb (w_an (qU _) (w_lv λx0 _=>w_lv λx1 hx=>w_cn hc (next _ (by rw[hx];exact yG _))))))
 . have h:=of_decide_eq_false h
   exact⟨by show(v0.2.length:Int)=l.length;omega,h4⟩
theorem Qsz(steps:Int):0<=Q13 steps/\Q13 steps<=4000:=by
 refine Tree.post (Qcc steps) (W:=λr=>0<=r/\r<=4000) ?_
 unfold Qcc
 refine w_lf ?_
 constructor<;>(repeat' split)<;>omega
theorem Zcj{P:Nat}{r:Q01}(h:okR P r)(steps:Int){clock:Int}(hc:U clock)(hl:r.C0.length<=900000)(hq:r.A6.length<=1000)(hu: ∀q∈r.A6,U q.N):
    (Q58 r steps clock).w (λx=>okR P x.1/\x.1.C0.length<=r.C0.length+r.A6.length+8000/\(x.1.A6=r.A6\/x.1.A6=[])/\x.2.length<=4000):=by
  unfold Q58
  refine Q0e (own_w h (by omega) (by omega)) λx0 hx=> ?_
  obtain⟨k1,k2,k3⟩:=hx
  refine w_lv λx1 _=>w_br (λ_=>⟨k1,by rw[k2];omega, .inl k3,Nat.zero_le _⟩) (λ_=> ?_)
  have hcl:U (if clock>x0.A9 then clock else x0.A9):=by split<;>first|exact hc|exact k1.clock
  refine w_lp (inv:=λz=>0<=z.1/\z.1<=r.A6.length/\okR P z.2/\(z.2.C0.length:Int)<=r.C0.length+z.1/\z.2.A6=r.A6) (μ:=Qb3 r steps clock) ⟨by omega,by omega,⟨k1.m,hcl⟩,by rw[k2];omega,k3⟩ (Nat.lt_succ_self _) (λz hz=> ?_)
  obtain⟨z1,z2,z3,z4,z5⟩:=hz
  refine w_br (λhb=> ?_) (λhb=> ?_)
  . have hb:=of_decide_eq_true hb
    rw[z5]at hb
    have hm:(z.2.A6.getD z.1.toNat (RK.dflt RK.apiEvent))∈r.A6:=by
      rw[z5]
      have hlt:z.1.toNat<r.A6.length:=by omega
      rw[List.getD_eq_getElem?_getD,List.getElem?_eq_getElem hlt]
      exact List.getElem_mem hlt
    refine w_cn (by rw[z5];simp [Nat.blt];omega) (Q0e (yw z3 (hu _ hm) (by omega)) λx hx=>w_nx ?_)
    obtain⟨a1,a2,a3⟩:=hx
    show(0<=IntKind.i64.wrap (z.1+1)/\IntKind.i64.wrap (z.1+1)<=r.A6.length/\okR P x/\(x.C0.length:Int)<=r.C0.length+IntKind.i64.wrap (z.1+1)/\x.A6=r.A6)/\(x.A6.length-IntKind.i64.wrap (z.1+1)).toNat<(z.2.A6.length-z.1).toNat
    have ew:IntKind.i64.wrap (z.1+1)=z.1+1:=by rw[IntKind.wrap_i64];omega
    rw[ew,a3,z5]
    exact⟨⟨by omega,by omega,a1,by omega,rfl⟩,by omega⟩
  . refine w_lp (inv:=λy=>0<=y.1/\y.1<=4000/\okR P y.2.1/\(y.2.1.C0.length:Int)<=r.C0.length+r.A6.length+2*y.1/\y.2.1.A6=[]/\(y.2.2.length:Int)<=y.1) (μ:=Q5c r steps clock z) ⟨by omega,by omega,⟨z3.m,z3.clock⟩,by simp;omega,rfl,by simp⟩ (Nat.lt_succ_self _) (λy hy=> ?_)
    obtain⟨y1,y2,y3,y4,y5,y6⟩:=hy
    have ew:IntKind.i64.wrap (y.1+1)=y.1+1:=by rw[IntKind.wrap_i64];omega
    refine w_lv λx3 hx3=>w_br (λhb=> ?_) (λ_=>⟨y3,by show y.2.1.C0.length<=_;omega, .inr y5,by show y.2.2.length<=_;omega⟩)
    have hb:=of_decide_eq_true hb
    have lim:=(Qsz steps).2
    rw[<-hx3]at lim
    refine w_lv λx4 _=>w_br (λ_=>Q0e (yw (e:=⟨_,_,_⟩) y3 U_0 (by omega)) λx5 h5=> ?_) (λ_=> ?_)
    . obtain⟨q1,q2,q3⟩:=h5
      have q3:=q3.trans y5
      refine Q0e (Zeo _) λs1 _=>w_br (λ_=>⟨q1,by show x5.C0.length<=_;omega, .inr q3,by show y.2.2.length<=_;omega⟩) (λ_=>Q0e (Qwl q1.m.cpu q1.m.mem) λs2 _=>w_br (λ_=>w_cn (decide_eq_true (by omega)) (Q0e (Qrp (r:=⟨x5.A0,x5.A9,x5.C0++[_],x5.A6⟩) ⟨q1.m,q1.clock⟩ q1.clock) λo ho=> ?_)) (λ_=>Q0e (Qrp q1 q1.clock) λo ho=> ?_))
      . obtain⟨a1,⟨⟨a2,a3⟩,a4,a5⟩⟩:=ho
        have e4:o.2.C0.length=x5.C0.length+1:=by rw[a4];simp
        have a5:o.2.A6=[]:=a5.trans q3
        refine w_cn (decide_eq_true (by omega)) (w_nx ?_)
        show(0<=IntKind.i64.wrap (y.1+1)/\IntKind.i64.wrap (y.1+1)<=4000/\okR P _/\(o.2.C0.length:Int)<=r.C0.length+r.A6.length+2*IntKind.i64.wrap (y.1+1)/\o.2.A6=[]/\((y.2.2++o.1).length:Int)<=IntKind.i64.wrap (y.1+1))/\(4000-IntKind.i64.wrap (y.1+1)).toNat<(4000-y.1).toNat
        rw[ew,a5,List.length_append]
        exact⟨⟨by omega,by omega,⟨a2,Q0s _⟩,by omega,rfl,by omega⟩,by omega⟩
      . obtain⟨a1,⟨⟨a2,a3⟩,a4,a5⟩⟩:=ho
        have e4:o.2.C0.length=x5.C0.length:=by rw[a4]
        have a5:o.2.A6=[]:=a5.trans q3
        refine w_cn (decide_eq_true (by omega)) (w_nx ?_)
        show(0<=IntKind.i64.wrap (y.1+1)/\IntKind.i64.wrap (y.1+1)<=4000/\okR P _/\(o.2.C0.length:Int)<=r.C0.length+r.A6.length+2*IntKind.i64.wrap (y.1+1)/\o.2.A6=[]/\((y.2.2++o.1).length:Int)<=IntKind.i64.wrap (y.1+1))/\(4000-IntKind.i64.wrap (y.1+1)).toNat<(4000-y.1).toNat
        rw[ew,a5,List.length_append]
        exact⟨⟨by omega,by omega,⟨a2,Q0s _⟩,by omega,rfl,by omega⟩,by omega⟩
    . refine Q0e (Zeo _) λs1 _=>w_br (λ_=>⟨y3,by show y.2.1.C0.length<=_;omega, .inr y5,by show y.2.2.length<=_;omega⟩) (λ_=>Q0e (Qwl y3.m.cpu y3.m.mem) λs2 _=>w_br (λ_=>w_cn (decide_eq_true (by omega)) (Q0e (Qrp (r:=⟨y.2.1.A0,y.2.1.A9,y.2.1.C0++[_],y.2.1.A6⟩) ⟨y3.m,y3.clock⟩ y3.clock) λo ho=> ?_)) (λ_=>Q0e (Qrp y3 y3.clock) λo ho=> ?_))
      . obtain⟨a1,⟨⟨a2,a3⟩,a4,a5⟩⟩:=ho
        have e4:o.2.C0.length=y.2.1.C0.length+1:=by rw[a4];simp
        have a5:o.2.A6=[]:=a5.trans y5
        refine w_cn (decide_eq_true (by omega)) (w_nx ?_)
        show(0<=IntKind.i64.wrap (y.1+1)/\IntKind.i64.wrap (y.1+1)<=4000/\okR P _/\(o.2.C0.length:Int)<=r.C0.length+r.A6.length+2*IntKind.i64.wrap (y.1+1)/\o.2.A6=[]/\((y.2.2++o.1).length:Int)<=IntKind.i64.wrap (y.1+1))/\(4000-IntKind.i64.wrap (y.1+1)).toNat<(4000-y.1).toNat
        rw[ew,a5,List.length_append]
        exact⟨⟨by omega,by omega,⟨a2,Q0s _⟩,by omega,rfl,by omega⟩,by omega⟩
      . obtain⟨a1,⟨⟨a2,a3⟩,a4,a5⟩⟩:=ho
        have e4:o.2.C0.length=y.2.1.C0.length:=by rw[a4]
        have a5:o.2.A6=[]:=a5.trans y5
        refine w_cn (decide_eq_true (by omega)) (w_nx ?_)
        show(0<=IntKind.i64.wrap (y.1+1)/\IntKind.i64.wrap (y.1+1)<=4000/\okR P _/\(o.2.C0.length:Int)<=r.C0.length+r.A6.length+2*IntKind.i64.wrap (y.1+1)/\o.2.A6=[]/\((y.2.2++o.1).length:Int)<=IntKind.i64.wrap (y.1+1))/\(4000-IntKind.i64.wrap (y.1+1)).toNat<(4000-y.1).toNat
        rw[ew,a5,List.length_append]
        exact⟨⟨by omega,by omega,⟨a2,Q0s _⟩,by omega,rfl,by omega⟩,by omega⟩
section
variable {P:Nat} {m:Q00} (h:okM P m)
include h
theorem min_w(port:Int){clock:Int}(hc:U clock):(Qjo m port clock).w (λx=>U x.1/\okM P x.2/\x.2.A1=m.A1):=by
 have k:=(⟨h,rfl⟩:okM P m/\m.A1=m.A1)
 obtain⟨h1,h2,h3,h4,h5,h7⟩:=h
 unfold Qjo
 exact w_br (λ_=>w_lv λx hx=>⟨hx▸Qyt _ _,⟨⟨h1,h2,h3,h4,h5,h7⟩,rfl⟩⟩) (λ_=>w_br (λ_=>⟨hc,k⟩) (λ_=>w_br (λ_=>w_lv λx hx=>⟨hx▸Zad _,k⟩) (λ_=>w_br (λ_=>w_lv λx hx=>⟨hx▸Zhi h3 _,k⟩) (λ_=>w_br (λ_=>w_lv λx hx=>⟨hx▸zw h4 _,k⟩) (λ_=>w_lv λx hx=>⟨hx▸Qzx h5.1 _,k⟩)))))
theorem qaB(port:Int){v:Int}(hv:U v):(Qct m port v).w (λx=>x.1.length<=1/\okM P x.2/\x.2.A1=m.A1):=by
 have k:=(⟨h,rfl⟩:okM P m/\m.A1=m.A1)
 obtain⟨h1,h2,h3,h4,h5,h7⟩:=h
 unfold Qct
 exact w_br (λ_=>⟨Nat.le_refl _,k⟩) (λ_=>w_br (λ_=>⟨Nat.zero_le _,k⟩) (λ_=>w_br (λ_=>w_lv λ_ _=>⟨Nat.zero_le _,⟨⟨h1,h2,h3,h4,h5,h7⟩,rfl⟩⟩) (λ_=>w_br (λ_=>Q0e (Zcf h2 h3 _ hv _) λx hx=>⟨hx.2,⟨⟨h1,h2,hx.1,h4,h5,h7⟩,rfl⟩⟩) (λ_=>w_br (λ_=>Q0e (Zhu h2 h4 _ hv _) λx hx=>⟨hx.2,⟨⟨h1,h2,h3,hx.1,h5,h7⟩,rfl⟩⟩) (λ_=>Q0e (xZ h2 h5 _ hv) λx hx=>⟨Nat.zero_le _,⟨⟨h1,hx.2,h3,h4,hx.1,h7⟩,rfl⟩⟩)))))
theorem Z50{clock:Int}(hc:U clock):(Q83 m clock).w (λx=>x.1.length<=1/\okM P x.2/\x.2.A1=IntKind.wrap .u64 (m.A1+1)):=by
 obtain⟨h1,h2,h3,h4,h5,h7⟩:=h
 unfold Q83
 refine Q0e (Qkx h1) λx0 c0=>Q0e (do_w c0 h2) λx1 hx=> ?_
 obtain⟨c1,v1,m1⟩:=hx
 refine w_br (λ_=>Z9p (min_w (m:=⟨_,_,_,_,_,_,_,_,_,_⟩) ⟨c1,m1,h3,h4,h5,h7⟩ _ hc) λx2 hx=> ?_) (λ_=>w_br (λ_=>Q0e (qaB (m:=⟨_,_,_,_,_,_,_,_,_,_⟩) ⟨c1,m1,h3,h4,h5,h7⟩ _ v1) λx4 hx=> ?_) (λ_=> ?_))
 . obtain⟨u,⟨k1,k2,k3,k4,k5,k7⟩,k6⟩:=hx
   exact Q0e (Z3j k1 _ u) λx3 h3=>⟨Nat.zero_le _,⟨h3,k2,k3,k4,k5,w0 _⟩,congrArg (λn=>IntKind.wrap .u64 (n+1)) k6⟩
 . obtain⟨u,⟨k1,k2,k3,k4,k5,k7⟩,k6⟩:=hx
   exact⟨u,⟨k1,k2,k3,k4,k5,w0 _⟩,congrArg (λn=>IntKind.wrap .u64 (n+1)) k6⟩
 . repeat'(first
     |exact⟨Nat.zero_le _,⟨c1,m1,h3,h4,h5,w0 _⟩,rfl⟩
     |refine w_br (λ_=> ?_) (λ_=> ?_))
theorem qV:(Qbe m).w (λx=>okM P x/\x.A1=m.A1):=by
 obtain⟨h1,h2,h3,h4,h5,h7⟩:=h
 unfold Qbe
 exact Q0e (xY h2) λx hx=>⟨⟨h1,by rw[hx];exact h2,h3,h4,h5,h7⟩,rfl⟩
end
theorem U_all(n:Nat): ∀w∈List.replicate n (0:Int),U w:=λw hw=>by rw[(List.mem_replicate.1 hw).2];exact U_0
theorem xab:okM 0 ⟨⟨⟨0,0,0,0,0,0,0,0,0,0,0,0,0,0,0,0⟩,0,⟨0,0,0,0,0,0,0,0⟩⟩,[],⟨[]⟩,⟨false,0,false⟩,⟨0,0,0,0,0,0,0,[]⟩,⟨0,0,false,0,false,0⟩,⟨0,0⟩,0,false,false⟩:=
 ⟨⟨U_all 16,U_0,U_all 8⟩,⟨rfl,by omega,by omega,λw hw=>by cases hw⟩,⟨U_0,U_0,U_0,U_0⟩,⟨U_0,U_0,U_0,U_0⟩,⟨U_0,U_0⟩,by decide⟩
theorem Zhr{P:Nat}{m:Q00}(h:okM P m)(hc:0<=m.A1):(Q8p m [] 87).w (λx=> ∃Q,okM Q x.1):=by
 have z: ∃Q,okM Q _:=⟨0,xab⟩
 unfold Q8p
 refine w_lv λx0 _=>w_br (λ_=>z) λ_=>w_br (λ_=>z) λ_=>w_br (λ_=>z) λ_=>w_an (show Q7t [] by show([]:List Q0l).length<=1000000000000;decide) (w_lv λx1 _=>w_br (λ_=>z) λ_=>Q0e (qV h) λx2 hx=> ?_)
 refine w_lp (inv:=λv:Q00×List Q02=>okM P v.1/\0<=v.1.A1/\v.2.length+(87-v.1.A1).toNat<=87) (μ:=Qfg m [] 87) ⟨hx.1,by rw[hx.2];exact hc,by rw[hx.2];show 0+_<=87;omega⟩ (Nat.lt_succ_self _) λv0 ⟨a1,a2,a3⟩=> ?_
 refine w_br (λhb=>w_br (λ_=> ?_) (λ_=>⟨P,a1⟩)) (λ_=>⟨P,a1⟩)
 have hb:=of_decide_eq_true hb
 refine w_lp (inv:=λ_=>True) (μ:=Qfa m [] 87 v0) trivial (Nat.lt_succ_self _) λv1 _=> ?_
 refine w_br (λ_=>⟨P,a1⟩) λ_=>Q0e (vY _) λx3 _=>w_br (λ_=>⟨P,a1⟩) λ_=>Q0e (xw a1.cpu a1.mem) λx4 _=>w_br (λ_=>z) λ_=>Q0e (Z50 a1 U_0) λx5 h5=> ?_
 obtain⟨b1,b2,b3⟩:=h5
 refine w_cn (decide_eq_true (by omega)) (w_nx ?_)
 have e:x5.2.A1=v0.1.A1+1:=by rw[b3,IntKind.wrap_u64];omega
 show(_/\_/\_)/\(_:Nat)<_
 refine⟨⟨b2,by show 0<=x5.2.A1;omega,by show(v0.2++x5.1).length+(87-x5.2.A1).toNat<=87;rw[List.length_append];omega⟩,by show(87-x5.2.A1).toNat<(87-v0.1.A1).toNat;omega⟩
set_option synthInstance.maxHeartbeats 2000000
set_option synthInstance.maxSize 100000
noncomputable section
instance vG (src:(List UInt8)):Ck (Qj6 src):=ckT (t:=Qe1 src) (by delta Qe1;infer_instance)
instance xC (s:(List UInt8)):Ck (Qh9 s):=ckT (t:=Qc2 s) (by delta Qc2;infer_instance)
instance zC (n:Int):Ck (Q33 n):=let d:Decidable (Q33 n):=(by delta Q33;infer_instance);⟨@decide _ d,@of_decide_eq_true _ d⟩
instance xd (n:Int):Ck (Qf8 n):=ckT (t:=Q6c n) (by delta Q6c;infer_instance)
instance qac (r:Int):Ck (Qnm r):=ckT (t:=Qdd r) (by delta Qdd;infer_instance)
instance xV (s:(List UInt8)):Ck (Qfq s):=ckT (t:=Qhw s) (by delta Qhw;infer_instance)
instance Zlp (op:Int):Ck (Qcr op):=ckT (t:=Q9c op) (by delta Q9c;infer_instance)
instance Zla (s:(List UInt8)):Ck (Q2z s):=ckT (t:=Q7v s) (by delta Q7v;infer_instance)
instance zd (what:(List UInt8)):Ck (Q5s what):=ckT (t:=Qak what) (by delta Qak;infer_instance)
instance yC (s:(List UInt8)):Ck (Qhq s):=ckT (t:=Qcj s) (by delta Qcj;infer_instance)
instance yd (l:(List Q0h)) (p:(List UInt8)):Ck (Q5u l p):=ckT (t:=Qac l p) (by delta Qac;infer_instance)
instance vC (s:(List UInt8)):Ck (Qh2 s):=ckT (t:=Qbr s) (by delta Qbr;infer_instance)
instance vd (l:(List Q2)) (label:(List UInt8)):Ck (Q36 l label):=let d:Decidable (Q36 l label):=(by delta Q36;infer_instance);⟨@decide _ d,@of_decide_eq_true _ d⟩
instance zV (src:(List UInt8)):Ck (Qli src):=ckT (t:=Qi4 src) (by delta Qi4;infer_instance)
instance yV (st:Q09) (v:Int):Ck (Q9p st v):=ckT (t:=Qgl st v) (by delta Qgl;infer_instance)
instance Zlq (src:(List UInt8)):Ck (Q9s src):=ckT (t:=Q98 src) (by delta Q98;infer_instance)
theorem zac:Q9s ((108:UInt8)::(tblZe0++Z69++(Z4i++Z5z)++(Z51++Z5t++(Z44++Z5f))++(Z46++Z6a++(Qub++Qu)++(Qud++Qvd++(Qto++Quc))))):=ck inferInstance (by kernel_rfl)
def inU(x:Int):Bool:=decide (0<=x)&&decide (x<4294967296)
theorem xac(l:List Int)(h:(Nat.ble l.length 160&&List.all l inU)=true):l.length<=160/\ ∀w∈l,U w:=by
 rw[Bool.and_eq_true]at h
 refine⟨Nat.le_of_ble_eq_true h.1,λw hw=> ?_⟩
 have:=List.all_eq_true.1 h.2 w hw
 simp only[inU,Bool.and_eq_true,decide_eq_true_eq]at this
 exact this
theorem qe:(Q15 (List.append (List.append (List.append (List.append Z89 Z69) (List.append Z4i Z5z)) (List.append (List.append Z51 Z5t) (List.append Z44 Z5f))) (List.append (List.append (List.append Z46 Z6a) (List.append Qub Qu)) (List.append (List.append Qud Qvd) (List.append Qto Quc))))).1.length<=160/\ ∀w∈(Q15 (List.append (List.append (List.append (List.append Z89 Z69) (List.append Z4i Z5z)) (List.append (List.append Z51 Z5t) (List.append Z44 Z5f))) (List.append (List.append (List.append Z46 Z6a) (List.append Qub Qu)) (List.append (List.append Qud Qvd) (List.append Qto Quc))))).1,U w:=xac _ (by kernel_rfl)
end
theorem new_w(i:List Int)(hu: ∀w∈i,U w)(hl:i.length<=256):(Q80 8 4 i).w (λx=>okM 8 x.1/\x.1.A1=0):=by
 unfold Q80
 refine w_br (λh=>absurd h (by decide)) λ_=>w_br (λh=>absurd h (by decide)) λ_=>w_br (λh=>absurd h (by decide)) λ_=>w_br (λh=>absurd h (by decide)) λ_=>w_br (λh=> ?_) λ_=>w_lv λx0 e0=>w_an (Zdw _) (w_lv λx1 e1=> ?_)
 . have h:=of_decide_eq_true h
   rw[show IntKind.i64.wrap (8*32)=256 by decide]at h
   omega
 have hx:x1=List.replicate 256 0:=by rw[e1];kernel_rfl
 have c0:Q2b x0:=by rw[e0];exact⟨by
   intro w hw
   simp only[Qnz,Qix,Tree.m,A16.l,List.mem_cons,List.not_mem_nil,or_false,or_self]at hw
   rw[hw];exact U_0,U_0,by
   intro w hw
   simp only[Qnz,Qix,Tree.m,A8.l,List.mem_cons,List.not_mem_nil,or_false,or_self]at hw
   rcases hw with rfl|rfl
   . exact⟨by omega,by omega⟩
   . exact U_0⟩
 have hz: ∀w∈x1,U w:=by rw[hx];exact U_all 256
 have hn:x1.length=256:=by rw[hx,List.length_replicate]
 refine⟨⟨c0,⟨?_,by omega,by omega,λw hw=> ?_⟩,⟨U_0,U_0,U_0,U_0⟩,⟨U_0,U_0,U_0,U_0⟩,⟨U_0,U_0⟩,Int.le_refl _⟩,rfl⟩
 . simp only[List.length_append,List.length_take,List.length_drop,hn];omega
 . rcases List.mem_append.1 hw with h1|h1
   . exact hu w (List.mem_of_mem_take h1)
   . exact hz w (List.mem_of_mem_drop h1)
theorem xe(kind:Int)(l:List Int)(hl:l.length*8<=reachBytes):(Q6d kind l).w (λx=> ∃Q,okM Q x):=by
  have hl':l.length*8<=140737488351232:=hl
  unfold Q6d
  refine w_an (Qe9 (by decide)) (w_lv λx0 _=>w_br (λ_=>w_an zac (w_lv λx1 e1=> ?_)) (λ_=> ?_))
  . obtain⟨q1,q2⟩:x1.1.length<=160/\ ∀w∈x1.1,U w:=by rw[e1];exact qe
    refine w_lp (inv:=λv:List Int=>v.length<=160/\ ∀w∈v,U w) (μ:=Qcd kind l) ⟨q1,q2⟩ (Nat.lt_succ_self _) λv0 ⟨a1,a2⟩=> ?_
    refine w_br (λhb=> ?_) (λ_=> ?_)
    . have hb:=of_decide_eq_true hb
      refine w_cn (decide_eq_true (by omega)) (w_nx ?_)
      show(_/\_)/\(_:Nat)<_
      refine⟨⟨by rw[List.length_append,List.length_singleton];omega,λw hw=> ?_⟩,by show 160-(v0++[0]).length<160-v0.length;rw[List.length_append,List.length_singleton];omega⟩
      rcases List.mem_append.1 hw with h1|h1
      . exact a2 w h1
      . rw[List.mem_singleton.1 h1];exact U_0
    . refine Q0e (qd l hl) λx2 ⟨b1,b2⟩=>w_cn (decide_eq_true (by omega)) ?_
      have hu: ∀w∈v0++x2,U w:=λw hw=>(List.mem_append.1 hw).elim (a2 w) (b2 w)
      refine w_br (λhb=> ?_) (λhb=> ?_)
      . have hb:=of_decide_eq_true hb
        refine w_cn (by simp [Nat.blt];rw[List.length_append]at hb;omega) (Q0e (new_w _ (λw hw=>hu w (List.mem_of_mem_drop (List.mem_of_mem_take hw))) (by rw[List.length_take];exact Nat.le_trans (Nat.min_le_left _ _) (by decide))) λx3 ⟨c1,c2⟩=>w_br (λ_=>Q0e (Zhr c1 (by omega)) λx4 hx=>hx) (λ_=>⟨8,c1⟩))
      . have hb:=of_decide_eq_false hb
        exact Q0e (new_w _ hu (by omega)) λx3 ⟨c1,c2⟩=>w_br (λ_=>Q0e (Zhr c1 (by omega)) λx4 hx=>hx) (λ_=>⟨8,c1⟩)
  . refine Q0e (qd l hl) λx2 ⟨b1,b2⟩=>w_cn (decide_eq_true (by omega)) ?_
    refine w_br (λhb=> ?_) (λhb=> ?_)
    . have hb:=of_decide_eq_true hb
      refine w_cn (by simp [Nat.blt];omega) (Q0e (new_w _ (λw hw=>b2 w (List.mem_of_mem_drop (List.mem_of_mem_take hw))) (by rw[List.length_take];exact Nat.le_trans (Nat.min_le_left _ _) (by decide))) λx3 ⟨c1,c2⟩=>w_br (λ_=>Q0e (Zhr c1 (by omega)) λx4 hx=>hx) (λ_=>⟨8,c1⟩))
    . have hb:=of_decide_eq_false hb
      exact Q0e (new_w _ b2 (by omega)) λx3 ⟨c1,c2⟩=>w_br (λ_=>Q0e (Zhr c1 (by omega)) λx4 hx=>hx) (λ_=>⟨8,c1⟩)
theorem zaB{P:Nat}{r:Q01}(h:okR P r)(n:Int)(hl:r.C0.length<=900000)(hq:r.A6.length<=16)(hu: ∀q∈r.A6,U q.N):
   (Q7b r n).w (λx=>okR P x.1/\x.1.C0.length<=r.C0.length+8016/\(x.1.A6.length<=16/\ ∀q∈x.1.A6,U q.N)/\x.2.length<=4000):=by
 unfold Q7b
 refine w_lv λx0 _=>w_br (λ_=>Q0e (vw n) λe he=>Q0e (yT h e (by omega) hq hu he) λx hx=> ?_) (λ_=>w_an (Qe9 (by decide)) (w_lv λx3 _=>Q0e (Zcj h _ (Q0s _) hl (by omega) hu) λx hx=> ?_))
 . obtain⟨a1,a2,a3,a4⟩:=hx
   exact⟨a1,by rw[a2];omega,⟨a3,a4⟩,Nat.zero_le _⟩
 . obtain⟨a1,a2,a3,a4⟩:=hx
   refine⟨a1,by show x.1.C0.length<=_;omega,?_,a4⟩
   rcases a3 with a3|a3
   . rw[a3];exact⟨hq,hu⟩
   . rw[a3];exact⟨Nat.zero_le _,λq hq=>by cases hq⟩
theorem xaB{P:Nat}{m:Q00}(h:okM P m)(l:List Int)(hl:l.length<=30):(Qb7 m l).w (λx=>okR P x.1):=by
 unfold Qb7
 have nr:(Q3f m).w (λx=>okR P x/\x.C0=[]/\x.A6=[]):=by
   unfold Q3f
   exact Q0e (qV h) λx hx=>⟨⟨hx.1,U_0⟩,rfl,rfl⟩
 refine Q0e nr λx0 ⟨n1,n2,n3⟩=> ?_
 refine w_lp (inv:=λv:Int×Q01×List Q02=>0<=v.1/\v.1<=l.length/\okR P v.2.1/\(v.2.1.C0.length:Int)<=8016*v.1/\(v.2.1.A6.length<=16/\ ∀q∈v.2.1.A6,U q.N)/\(v.2.2.length:Int)<=4000*v.1) (μ:=Qgx m l) ⟨Int.le_refl _,by show(0:Int)<=l.length;omega,n1,by rw[n2];exact Int.le_refl _,by rw[n3];exact⟨Nat.zero_le _,λq hq=>by cases hq⟩,Int.le_refl _⟩ (Nat.lt_succ_self _) λv0 ⟨a1,a2,a3,a4,⟨a5,a6⟩,a7⟩=> ?_
 refine w_br (λhb=> ?_) (λ_=>a3)
 have hb:=of_decide_eq_true hb
 refine w_cn (by simp [Nat.blt];omega) (Q0e (zaB a3 _ (by omega) a5 a6) λx1 ⟨b1,b2,b3,b4⟩=>w_cn (decide_eq_true (by omega)) (w_nx ?_))
 have e:IntKind.i64.wrap (v0.1+1)=v0.1+1:=by rw[IntKind.wrap_i64];omega
 show(_/\_/\_/\_/\_/\_)/\(_:Nat)<_
 refine⟨⟨by rw[e];omega,by rw[e];omega,b1,by rw[e];show(x1.1.C0.length:Int)<=_;omega,b3,by rw[e,List.length_append];omega⟩,by show(l.length-IntKind.i64.wrap (v0.1+1)).toNat<(l.length-v0.1).toNat;rw[e];omega⟩
noncomputable section
def boot:List Int:=(Q15 (List.append (List.append (List.append (List.append Z89 Z69) (List.append Z4i Z5z)) (List.append (List.append Z51 Z5t) (List.append Z44 Z5f))) (List.append (List.append (List.append Z46 Z6a) (List.append Qub Qu)) (List.append (List.append Qud Qvd) (List.append Qto Quc))))).1
def Qje:List Int:=boot++List.replicate (160-boot.length) 0
theorem run87(t0 t1 t2 t3 t4 t5 t6 t7 t8 t9 t10 t11 t12 t13 t14 t15 t16 t17 t18 t19 t20 t21 t22 t23 t24 t25 t26 t27 t28 t29 t30 t31 t32 t33 t34 t35 t36 t37 t38 t39 t40 t41 t42 t43 t44 t45 t46 t47 t48 t49 t50 t51 t52 t53 t54 t55 t56 t57 t58 t59 t60 t61 t62 t63 t64 t65 t66 t67 t68 t69 t70 t71 t72 t73 t74 t75 t76 t77 t78 t79 t80 t81 t82 t83 t84 t85 t86 t87 t88 t89 t90 t91 t92 t93 t94 t95:Int):(Qcs (Q1q 8 4 (Qje++[t0,t1,t2,t3,t4,t5,t6,t7,t8,t9,t10,t11,t12,t13,t14,t15,t16,t17,t18,t19,t20,t21,t22,t23,t24,t25,t26,t27,t28,t29,t30,t31,t32,t33,t34,t35,t36,t37,t38,t39,t40,t41,t42,t43,t44,t45,t46,t47,t48,t49,t50,t51,t52,t53,t54,t55,t56,t57,t58,t59,t60,t61,t62,t63,t64,t65,t66,t67,t68,t69,t70,t71,t72,t73,t74,t75,t76,t77,t78,t79,t80,t81,t82,t83,t84,t85,t86,t87,t88,t89,t90,t91,t92,t93,t94,t95])).1 [] 87).2.2.2=0:=by kernel_rfl
end
attribute [local irreducible] Q15
theorem qad(i j:List Int)(hi:i.length<=256)(hj:j.length<=256)(e:i++List.replicate (256-i.length) 0=j++List.replicate (256-j.length) 0):Q1q 8 4 i=Q1q 8 4 j:=by
 have w:IntKind.i64.wrap (8*32)=256:=by decide
 have m:Qru 8=List.replicate 256 0:=by kernel_rfl
 have d: ∀k:List Int,k.length<=256->decide ((k.length:Int)>256)=false:=λk h=>decide_eq_false (by omega)
 have mem: ∀k:List Int,k.length<=256->List.take (min k.length (List.replicate 256 (0:Int)).length) k++List.drop (min k.length (List.replicate 256 (0:Int)).length) (List.replicate 256 0)=k++List.replicate (256-k.length) 0:=λk h=>by
   rw[List.length_replicate,Nat.min_eq_left h,List.take_length,List.drop_replicate]
 have r:Qru 8=List.replicate 256 0:=by kernel_rfl
 simp only[Q1q,Q80,Tree.m,w,letv,r,d i hi,d j hj]
 simp only[mem i hi,mem j hj,e]
theorem list96(t:List Int)(ht:t.length=96):t=[t.getD 0 0,t.getD 1 0,t.getD 2 0,t.getD 3 0,t.getD 4 0,t.getD 5 0,t.getD 6 0,t.getD 7 0,t.getD 8 0,t.getD 9 0,t.getD 10 0,t.getD 11 0,t.getD 12 0,t.getD 13 0,t.getD 14 0,t.getD 15 0,t.getD 16 0,t.getD 17 0,t.getD 18 0,t.getD 19 0,t.getD 20 0,t.getD 21 0,t.getD 22 0,t.getD 23 0,t.getD 24 0,t.getD 25 0,t.getD 26 0,t.getD 27 0,t.getD 28 0,t.getD 29 0,t.getD 30 0,t.getD 31 0,t.getD 32 0,t.getD 33 0,t.getD 34 0,t.getD 35 0,t.getD 36 0,t.getD 37 0,t.getD 38 0,t.getD 39 0,t.getD 40 0,t.getD 41 0,t.getD 42 0,t.getD 43 0,t.getD 44 0,t.getD 45 0,t.getD 46 0,t.getD 47 0,t.getD 48 0,t.getD 49 0,t.getD 50 0,t.getD 51 0,t.getD 52 0,t.getD 53 0,t.getD 54 0,t.getD 55 0,t.getD 56 0,t.getD 57 0,t.getD 58 0,t.getD 59 0,t.getD 60 0,t.getD 61 0,t.getD 62 0,t.getD 63 0,t.getD 64 0,t.getD 65 0,t.getD 66 0,t.getD 67 0,t.getD 68 0,t.getD 69 0,t.getD 70 0,t.getD 71 0,t.getD 72 0,t.getD 73 0,t.getD 74 0,t.getD 75 0,t.getD 76 0,t.getD 77 0,t.getD 78 0,t.getD 79 0,t.getD 80 0,t.getD 81 0,t.getD 82 0,t.getD 83 0,t.getD 84 0,t.getD 85 0,t.getD 86 0,t.getD 87 0,t.getD 88 0,t.getD 89 0,t.getD 90 0,t.getD 91 0,t.getD 92 0,t.getD 93 0,t.getD 94 0,t.getD 95 0]:=by
 apply List.ext_getElem
 . rw[ht];rfl
 . intro i h1 h2
   have e: ∀j (hj:j<96),[t.getD 0 0,t.getD 1 0,t.getD 2 0,t.getD 3 0,t.getD 4 0,t.getD 5 0,t.getD 6 0,t.getD 7 0,t.getD 8 0,t.getD 9 0,t.getD 10 0,t.getD 11 0,t.getD 12 0,t.getD 13 0,t.getD 14 0,t.getD 15 0,t.getD 16 0,t.getD 17 0,t.getD 18 0,t.getD 19 0,t.getD 20 0,t.getD 21 0,t.getD 22 0,t.getD 23 0,t.getD 24 0,t.getD 25 0,t.getD 26 0,t.getD 27 0,t.getD 28 0,t.getD 29 0,t.getD 30 0,t.getD 31 0,t.getD 32 0,t.getD 33 0,t.getD 34 0,t.getD 35 0,t.getD 36 0,t.getD 37 0,t.getD 38 0,t.getD 39 0,t.getD 40 0,t.getD 41 0,t.getD 42 0,t.getD 43 0,t.getD 44 0,t.getD 45 0,t.getD 46 0,t.getD 47 0,t.getD 48 0,t.getD 49 0,t.getD 50 0,t.getD 51 0,t.getD 52 0,t.getD 53 0,t.getD 54 0,t.getD 55 0,t.getD 56 0,t.getD 57 0,t.getD 58 0,t.getD 59 0,t.getD 60 0,t.getD 61 0,t.getD 62 0,t.getD 63 0,t.getD 64 0,t.getD 65 0,t.getD 66 0,t.getD 67 0,t.getD 68 0,t.getD 69 0,t.getD 70 0,t.getD 71 0,t.getD 72 0,t.getD 73 0,t.getD 74 0,t.getD 75 0,t.getD 76 0,t.getD 77 0,t.getD 78 0,t.getD 79 0,t.getD 80 0,t.getD 81 0,t.getD 82 0,t.getD 83 0,t.getD 84 0,t.getD 85 0,t.getD 86 0,t.getD 87 0,t.getD 88 0,t.getD 89 0,t.getD 90 0,t.getD 91 0,t.getD 92 0,t.getD 93 0,t.getD 94 0,t.getD 95 0][j]'hj=t.getD j 0:=by
     intro j hj
     have:[t.getD 0 0,t.getD 1 0,t.getD 2 0,t.getD 3 0,t.getD 4 0,t.getD 5 0,t.getD 6 0,t.getD 7 0,t.getD 8 0,t.getD 9 0,t.getD 10 0,t.getD 11 0,t.getD 12 0,t.getD 13 0,t.getD 14 0,t.getD 15 0,t.getD 16 0,t.getD 17 0,t.getD 18 0,t.getD 19 0,t.getD 20 0,t.getD 21 0,t.getD 22 0,t.getD 23 0,t.getD 24 0,t.getD 25 0,t.getD 26 0,t.getD 27 0,t.getD 28 0,t.getD 29 0,t.getD 30 0,t.getD 31 0,t.getD 32 0,t.getD 33 0,t.getD 34 0,t.getD 35 0,t.getD 36 0,t.getD 37 0,t.getD 38 0,t.getD 39 0,t.getD 40 0,t.getD 41 0,t.getD 42 0,t.getD 43 0,t.getD 44 0,t.getD 45 0,t.getD 46 0,t.getD 47 0,t.getD 48 0,t.getD 49 0,t.getD 50 0,t.getD 51 0,t.getD 52 0,t.getD 53 0,t.getD 54 0,t.getD 55 0,t.getD 56 0,t.getD 57 0,t.getD 58 0,t.getD 59 0,t.getD 60 0,t.getD 61 0,t.getD 62 0,t.getD 63 0,t.getD 64 0,t.getD 65 0,t.getD 66 0,t.getD 67 0,t.getD 68 0,t.getD 69 0,t.getD 70 0,t.getD 71 0,t.getD 72 0,t.getD 73 0,t.getD 74 0,t.getD 75 0,t.getD 76 0,t.getD 77 0,t.getD 78 0,t.getD 79 0,t.getD 80 0,t.getD 81 0,t.getD 82 0,t.getD 83 0,t.getD 84 0,t.getD 85 0,t.getD 86 0,t.getD 87 0,t.getD 88 0,t.getD 89 0,t.getD 90 0,t.getD 91 0,t.getD 92 0,t.getD 93 0,t.getD 94 0,t.getD 95 0]=(List.range 96).map (λk=>t.getD k 0):=rfl
     simp only[this,List.getElem_map,List.getElem_range]
   rw[e i (by omega),List.getD_eq_getElem?_getD,List.getElem?_eq_getElem h1]
   rfl
theorem qaC(t:List Int)(ht:t.length=96):(Qcs (Q1q 8 4 (Qje++t)).1 [] 87).2.2.2=0:=by
 rw[list96 t ht]
 exact run87 _ _ _ _ _ _ _ _ _ _ _ _ _ _ _ _ _ _ _ _ _ _ _ _ _ _ _ _ _ _ _ _ _ _ _ _ _ _ _ _ _ _ _ _ _ _ _ _ _ _ _ _ _ _ _ _ _ _ _ _ _ _ _ _ _ _ _ _ _ _ _ _ _ _ _ _ _ _ _ _ _ _ _ _ _ _ _ _ _ _ _ _ _ _ _ _
theorem zad:Qje.length=160:=by
 have h:boot.length<=160:=qe.1
 unfold Qje
 rw[List.length_append,List.length_replicate];omega
def out(f:Int)(m m':List Int):Prop:= ∀j:Nat,¬(f*32<=j/\(j:Int)<f*32+32)->m'.getD j 0=m.getD j 0
theorem Qom(f:Int)(m:List Int):out f m m:=λ_ _=>rfl
theorem getDset(l:List Int)(i j:Nat)(v:Int)(h:i≠j):(l.set i v).getD j 0=l.getD j 0:=by
 simp only[List.getD_eq_getElem?_getD,List.getElem?_set_ne h]
theorem Q3c{P:Nat}{m:List Int}(h:Q1 P m):Q0v m=P:=by
 obtain⟨h1,h2,h3,_⟩:=h
 simp only[Q0v,Q85,Tree.m]
 have e:(m.length:Int)=32*P:=by omega
 rw[e]
 have e1:(Int.tmod (32*(P:Int)) 32 !=0)=false:=by simp [Int.mul_tmod_right]
 have e2:decide ((32*(P:Int))>1024)=false:=decide_eq_false (by omega)
 rw[e1,e2]
 simp only[cond_false]
 rw[Int.mul_tdiv_cancel_left _ (by decide),IntKind.wrap_i64];omega
theorem vV{P:Nat}{m:List Int}(h:Q1 P m)(f:Int):Q50 m f=true->0<=f/\f<P:=by
 have hp:=Q3c h
 simp only[Q50,Q7y,Tree.m,letv,hp]
 cases h1:decide (f>=0)
 . intro h;cases h
 . intro h;exact⟨of_decide_eq_true h1,of_decide_eq_true h⟩
theorem Z00{P:Nat}{m:List Int}(h:Q1 P m)(f:Int)(s:List UInt8):(Q37 m f s).w (λr=>Q1 P r.1/\out f m r.1/\(r.2=false->r.1=m)):=by
 have hcl:Q03 m=m:=rfl
 have h2:=h.p2
 unfold Q37
 refine w_an (Q8e h) (w_lv λx0 hx0=>w_lv λx1 hx1=> ?_)
 rw[hcl]at hx0;subst hx0
 refine w_br (λ_=>⟨h,Qom _ _,λ_=>rfl⟩) λhb=>w_br (λ_=>⟨h,Qom _ _,λ_=>rfl⟩) λhs=> ?_
 have hb:x1=true:=by simpa using hb
 obtain⟨f0,f1⟩:=vV h f (hx1.symm.trans hb)
 have hs:(s.length:Int)=128:=by simpa using hs
 refine w_lp (inv:=λz:Int×List Int=>0<=z.1/\z.1<=32/\Q1 P z.2/\out f x0 z.2) (μ:=Qa8 x0 f s) ⟨show(0:Int)<=0 by decide,show(0:Int)<=32 by decide,h,Qom _ _⟩ (Nat.lt_succ_self _) λz ⟨z1,z2,z3,z4⟩=> ?_
 refine w_br (λhb=> ?_) (λ_=>⟨z3,z4,λh=>by cases h⟩)
 have hb:=of_decide_eq_true hb
 have e1:IntKind.i64.wrap (4*z.1)=4*z.1:=by rw[IntKind.wrap_i64];omega
 have e2:IntKind.i64.wrap (IntKind.i64.wrap (4*z.1)+4)=4*z.1+4:=by rw[IntKind.wrap_i64,IntKind.wrap_i64];omega
 have e3:IntKind.i64.wrap (IntKind.i64.wrap (f*32)+z.1)=f*32+z.1:=by rw[IntKind.wrap_i64,IntKind.wrap_i64];omega
 have hl:=z3.len
 have hlen:(List.take (Int.toNat (IntKind.i64.wrap (IntKind.i64.wrap (4*z.1)+4))-Int.toNat (IntKind.i64.wrap (4*z.1))) (List.drop (Int.toNat (IntKind.i64.wrap (4*z.1))) s)).length=4:=by
   rw[e2,e1,List.length_take,List.length_drop];omega
 refine w_cn (decide_eq_true (by rw[e2,e1];omega)) ?_
 refine w_cn (decide_eq_true (by rw[hlen];decide)) (w_cn (decide_eq_true (by rw[hlen];decide)) (w_cn (decide_eq_true (by rw[hlen];decide)) (w_cn (decide_eq_true (by rw[hlen];decide)) (w_cn (by rw[e3];simp [Nat.blt];omega) (w_nx ?_)))))
 show(_/\_/\Q1 P (List.set _ _ _)/\out f x0 (List.set _ _ _))/\(_:Nat)<_
 have ew:IntKind.i64.wrap (z.1+1)=z.1+1:=by rw[IntKind.wrap_i64];omega
 rw[e3]
 refine⟨⟨by rw[ew];omega,by rw[ew];omega,⟨by rw[List.length_set];exact hl,z3.p1,z3.p2,Z2w z3.u (U_or _ _) _⟩,λj hj=> ?_⟩,by show(32-IntKind.i64.wrap (z.1+1)).toNat<(32-z.1).toNat;rw[ew];omega⟩
 rw[getDset _ _ _ _ (by omega)]
 exact z4 j hj
theorem zaC(w:List Int)(h:w.length<=32):(Q4u w).w (λr=>r.length=4*w.length):=by
 have e0:IntKind.i64.wrap (4*(w.length:Int))=4*w.length:=by rw[IntKind.wrap_i64];omega
 unfold Q4u
 refine w_cn (by rw[e0];simp [Nat.blt,D.plain];omega) ?_
 refine w_lp (inv:=λz:Int×List Int=>0<=z.1/\z.1<=w.length/\(z.2.length:Int)=4*z.1) (μ:=Q6t w) ⟨by decide,by show(0:Int)<=w.length;omega,rfl⟩ (Nat.lt_succ_self _) λz ⟨z1,z2,z3⟩=> ?_
 refine w_br (λhb=> ?_) (λhb=> ?_)
 . have hb:=of_decide_eq_true hb
   have ew:IntKind.i64.wrap (z.1+1)=z.1+1:=by rw[IntKind.wrap_i64];omega
   refine w_cn (by simp [Nat.blt];omega) (w_cn (decide_eq_true (by omega)) (w_nx ?_))
   show(_/\_/\_)/\(_:Nat)<_
   refine⟨⟨by rw[ew];omega,by rw[ew];omega,by rw[ew,List.length_append];simp only[List.length_cons,List.length_nil];omega⟩,by show(w.length-IntKind.i64.wrap (z.1+1)).toNat<(w.length-z.1).toNat;rw[ew];omega⟩
 . have hb:=of_decide_eq_false hb
   show(bytesOf z.2).length=_
   rw[Qhi];omega
theorem Zfc{P:Nat}{m:List Int}(h:Q1 P m)(f:Int):(Q65 m f).w (λr=>0<=f->f<P->r.1.length=128):=by
 have hl:=h.len
 have h2:=h.p2
 unfold Q65
 refine w_lv λx0 hx0=>w_br (λhb=>λf0 f1=> ?_) (λhb=> ?_)
 . have hp:=Q3c h
   have hb:x0=false:=by simpa using hb
   rw[hb]at hx0
   simp only[Q50,Q7y,Tree.m,letv,hp]at hx0
   rw[decide_eq_true f0]at hx0
   exact absurd f1 (of_decide_eq_false hx0.symm)
 . have hb:x0=true:=by simpa using hb
   obtain⟨f0,f1⟩:=vV h f (hx0.symm.trans hb)
   have e1:IntKind.i64.wrap (f*32)=f*32:=by rw[IntKind.wrap_i64];omega
   have e2:IntKind.i64.wrap (IntKind.i64.wrap (f*32)+32)=f*32+32:=by rw[IntKind.wrap_i64,IntKind.wrap_i64];omega
   have hlen:(List.take (Int.toNat (IntKind.i64.wrap (IntKind.i64.wrap (f*32)+32))-Int.toNat (IntKind.i64.wrap (f*32))) (List.drop (Int.toNat (IntKind.i64.wrap (f*32))) m)).length=32:=by
     rw[e2,e1,List.length_take,List.length_drop];omega
   refine w_cn (by rw[e2,e1];simp [Nat.blt];omega) ?_
   refine w_an (by show List.length _<=1000000000000;rw[hlen];decide) (w_lv λx1 h1=> ?_)
   have h1:x1.length=4*(List.take (Int.toNat (IntKind.i64.wrap (IntKind.i64.wrap (f*32)+32))-Int.toNat (IntKind.i64.wrap (f*32))) (List.drop (Int.toNat (IntKind.i64.wrap (f*32))) m)).length:=by rw[h1];exact(Tree.pp (zaC _ (Nat.le_of_eq hlen))).2
   intro _ _
   show x1.length=128
   rw[h1,hlen]
theorem Zhs{f:Int}(hf:U f){P:Nat}(hP:P<=32)(h:decide (IntKind.u64.wrap f<IntKind.u64.wrap (P:Int))=true):0<=f/\f<P:=by
 have h:=of_decide_eq_true h
 obtain⟨h1,h2⟩:=hf
 rw[IntKind.wrap_u64,IntKind.wrap_u64,Int.emod_eq_of_lt h1 (by omega),Int.emod_eq_of_lt (by omega) (by omega)]at h
 exact⟨h1,h⟩
theorem Zl4{P:Nat}{m:List Int}(h:Q1 P m){d:Q0f}(hd:Q8i d)(e:Q0d):(Q6u d m e).w (λr=>Q8i r.1/\Q1 P r.2.1/\out d.B3 m r.2.1/\(r.2.2=false->r.2.1=m)/\(∀p,Q1c d p=true->Q1c r.1 p=true)):=by
 have hcl:Q03 m=m:=rfl
 have keep: ∀b:Bool,Q8i d/\Q1 P m/\out d.B3 m m/\(b=false->m=m)/\(∀p,Q1c d p=true->Q1c d p=true):=λb=>⟨hd,h,Qom _ _,λ_=>rfl,λ_ h=>h⟩
 have blk: ∀{p:Int},Q1c d p=true->decide (d.Blocks>64)=false:=fun{p} hm=>by
   cases hb:decide (d.Blocks>64)
   . rfl
   . have:Q1c d p=false:=by simp only[Q1c,Q5v,Tree.m];rw[hb];rfl
     rw[this]at hm;cases hm
 have m2: ∀p,Q1c d p=true->Q1c {Blocks:=d.Blocks,B9:=d.B9,B4:=d.B4,C2:=2,D8:=0,B7:=0,B3:=0,C4:=[]} p=true:=λp hm=>by
   simp only[Q1c,Q5v,Tree.m];rw[blk hm];rfl
 have m3: ∀p,Q1c d p=true->Q1c {Blocks:=d.Blocks,B9:=d.B9,B4:=d.B4,C2:=3,D8:=0,B7:=0,B3:=0,C4:=[]} p=true:=λp hm=>by
   simp only[Q1c,Q5v,Tree.m];rw[blk hm];rfl
 unfold Q6u
 refine w_br (λ_=>w_an (Q8e h) (w_lv λx hx=>by rw[hcl]at hx;subst hx;exact keep _)) λ_=>w_br (λ_=>w_an (Q8e h) (w_lv λx hx=>by rw[hcl]at hx;subst hx;exact keep _)) λ_=>w_br (λ_=>w_an (Q8e h) (w_lv λx hx=>by rw[hcl]at hx;subst hx;exact keep _)) λ_=>w_an (Q8e h) (w_lv λx3 hx3=> ?_)
 rw[hcl]at hx3;subst hx3
 have fin: ∀{m':List Int},Q1 P m'->out d.B3 x3 m'->(Tree.br (e.N==1) (.lf (({Blocks:=d.Blocks,B9:=d.B9,B4:=d.B4,C2:=2,D8:=0,B7:=0,B3:=0,C4:=[]}:Q0f),m',true)) (.lf (({Blocks:=d.Blocks,B9:=d.B9,B4:=d.B4,C2:=3,D8:=0,B7:=0,B3:=0,C4:=[]}:Q0f),m',true))).w (λr=>Q8i r.1/\Q1 P r.2.1/\out d.B3 x3 r.2.1/\(r.2.2=false->r.2.1=x3)/\(∀p,Q1c d p=true->Q1c r.1 p=true)):=λhm ho=>
   w_br (λ_=>⟨⟨hd.block,hd.frame,U_0,U_0⟩,hm,ho,(λh=>by cases h),m2⟩) (λ_=>⟨⟨hd.block,hd.frame,U_0,U_0⟩,hm,ho,(λh=>by cases h),m3⟩)
 have nod:(Tree.br (!decide (e.C8=[])) (.lf (d,x3,false)) (Tree.br (e.N==1) (.lf (({Blocks:=d.Blocks,B9:=d.B9,B4:=d.B4,C2:=2,D8:=0,B7:=0,B3:=0,C4:=[]}:Q0f),x3,true)) (.lf (({Blocks:=d.Blocks,B9:=d.B9,B4:=d.B4,C2:=3,D8:=0,B7:=0,B3:=0,C4:=[]}:Q0f),x3,true)))).w (λr=>Q8i r.1/\Q1 P r.2.1/\out d.B3 x3 r.2.1/\(r.2.2=false->r.2.1=x3)/\(∀p,Q1c d p=true->Q1c r.1 p=true)):=
   w_br (λ_=>keep _) (λ_=>fin h (Qom _ _))
 refine w_br (λ_=>w_br (λ_=>w_lv λx4 hx4=>w_br (λ_=>keep _) λhb=> ?_) (λ_=>nod)) (λ_=>nod)
 have hp:=Q3c h
 have hb:x4=true:=by simpa using hb
 rw[hb]at hx4
 simp only[Q9j,Qbo,Tree.m,letv,hp]at hx4
 obtain⟨f0,f1⟩:=Zhs hd.opFrame h.p2 hx4.symm
 have ef:IntKind.i64.wrap d.B3=d.B3:=by have:=h.p2;rw[IntKind.wrap_i64];omega
 refine Q0e (Z00 h _ _) λx5 ⟨h5,o5,k5⟩=> ?_
 rw[ef]at o5
 exact w_br (λhf=>⟨hd,h5,o5,λ_=>k5 (by simpa using hf),λ_ h=>h⟩) (λ_=>fin h5 o5)
theorem ye{P:Nat}{m:List Int}(h:Q1 P m){n:Q0q}(hn:Qig n)(frame:List UInt8):(Qa2 n m frame).w (λr=>Qig r.1/\Q1 P r.2.1/\out n.C1 m r.2.1/\(r.2.2=false->r.2.1=m)/\(∀p,Q5o n p=true->Q5o r.1 p=true)):=by
 have hcl:Q03 m=m:=rfl
 have keep:Qig n/\Q1 P m/\out n.C1 m m/\(false=false->m=m)/\(∀p,Q5o n p=true->Q5o n p=true):=⟨hn,h,Qom _ _,λ_=>rfl,λ_ h=>h⟩
 unfold Qa2
 refine w_br (λ_=>w_an (Q8e h) (w_lv λx hx=>by rw[hcl]at hx;subst hx;exact keep)) λhpo=>w_br (λ_=>w_an (Q8e h) (w_lv λx hx=>by rw[hcl]at hx;subst hx;exact keep)) λl1=>w_br (λ_=>w_an (Q8e h) (w_lv λx hx=>by rw[hcl]at hx;subst hx;exact keep)) λl2=>w_lv λx3 hx3=>w_br (λ_=>w_an (Q8e h) (w_lv λx hx=>by rw[hcl]at hx;subst hx;exact keep)) λhb=> ?_
 have l1:=of_decide_eq_false l1
 have l2:=of_decide_eq_false l2
 have hp:=Q3c h
 have hb:x3=true:=by simpa using hb
 rw[hb]at hx3
 simp only[Q9n,Qex,Tree.m,letv,hp]at hx3
 obtain⟨f0,f1⟩:=Zhs hn.buffer h.p2 hx3.symm
 have ef:IntKind.i64.wrap n.C1=n.C1:=by have:=h.p2;rw[IntKind.wrap_i64];omega
 refine Q0e (Zfc h _) λx5 h5=> ?_
 rw[ef]at h5
 have h5:=h5 f0 f1
 have hmax:(maxLen:Nat)=9223372036854775807:=rfl
 refine w_cn (decide_eq_true (by omega)) (w_cn (decide_eq_true (by simp only[List.length_take,List.length_drop,hmax];omega)) (Q0e (Z00 h _ _) λx6 ⟨h6,o6,_⟩=> ?_))
 rw[ef]at o6
 have hg:IntKind.u32.wrap (frame.length:Int)=frame.length:=by rw[IntKind.wrap_u32];omega
 refine⟨⟨hn.frame,hn.len,U_0,Q0s _⟩,h6,o6,(λh=>by cases h),λp _=> ?_⟩
 simp only[Q5o,Qkn,Tree.m]
 rw[hg,decide_eq_true (show(frame.length:Int)>=1 by omega),decide_eq_true (show(frame.length:Int)<=128 by omega)]
 rfl
theorem xad(c:Q0b)(b:Int):(Qaj c b).w (λr=>Q24 c=true->Q24 r.1=true):=by
 have hmax:(maxLen:Nat)=9223372036854775807:=rfl
 unfold Qaj
 refine w_br (λ_=>λh=>h) (λhb=> ?_)
 have hb:=of_decide_eq_false hb
 refine w_cn (decide_eq_true (by rw[hmax];omega)) ?_
 intro _
 show decide (((c.D3++[_]).length:Int)<=16)=true
 rw[List.length_append,List.length_singleton]
 exact decide_eq_true (by omega)
theorem qH(t:Q0g)(h:Q3y t=true):Q3y (Qjv t).1=true:=by
 simp only[Qjv,Qn6,Tree.m]
 cases ha:t.D2
 . exact h
 . rfl
theorem qf(m:Q00):Q0x m=(Q24 m.A3&&(Q3y m.B0&&(Q1c m.B1 (Q0v m.Mem)&&(Q5o m.C5 (Q0v m.Mem)&&Q2f m.A2 (Q0v m.Mem))))):=by
 simp only[Q0x,Q1k,Tree.m,letv]
 cases Q24 m.A3<;>cases Q3y m.B0<;>cases Q1c m.B1 (Q0v m.Mem)<;>cases Q5o m.C5 (Q0v m.Mem)<;>rfl
theorem xaC{b c:Q07}(h:c.C3=b.C3)(p:Int):Q2f c p=Q2f b p:=by
 simp only[Q2f,Q3u,Tree.m,h]
theorem cnd{a x y:Bool}(h:x=true->y=true):(bif a then false else x)=true->(bif a then false else y)=true:=by cases a<;>simp_all
def chain(b1 b2 b3 b4 b5 b6 b7 w h dev:Bool):Bool:=bif b1 then false else bif b2 then false else bif b3 then false else bif b4 then false else bif b5 then false else bif b6 then false else bif b7 then false else bif w then(bif h then false else dev) else dev
theorem Zjj{b1 b2 b3 b4 b5 b6 b7 w h d d':Bool}(hd:d=true->d'=true):chain b1 b2 b3 b4 b5 b6 b7 w h d=true->chain b1 b2 b3 b4 b5 b6 b7 w h d'=true:=by
 refine cnd (cnd (cnd (cnd (cnd (cnd (cnd ?_))))))
 cases w
 . exact hd
 . cases h
   . exact hd
   . exact λh=>h
def mayC(p:Int)(c:Q04)(ct:Int)(w h dev:Bool):Bool:=chain (p==0) (c.X.a0 !=0) (decide (c.B6.a0>31)) (decide (c.B6.a7>31)) (decide (c.B6.a6>255)) (Int.tmod c.B6.a1 4 !=0) (decide (ct>1152921504606846976)) w h dev
theorem xf{p:Int}{c:Q04}{ct:Int}{w h d d':Bool}(hd:d=true->d'=true)(g:mayC p c ct w h d=true):mayC p c ct w h d'=true:=Zjj hd g
theorem qW(m:Q00):Q1a m=mayC (Q0v m.Mem) m.B2 m.A1 m.A4 m.A7 (Q0x m):=rfl
theorem Qs1{m n:Q00}(hp:Q0v n.Mem=Q0v m.Mem)(hcpu:n.B2=m.B2)(hct:n.A1=m.A1)(hw:n.A4=m.A4)(hh:n.A7=m.A7)
   (hc:Q24 m.A3=true->Q24 n.A3=true) (ht:Q3y m.B0=true->Q3y n.B0=true) (hd: ∀p,Q1c m.B1 p=true->Q1c n.B1 p=true) (hn: ∀p,Q5o m.C5 p=true->Q5o n.C5 p=true) (hb:n.A2.C3=m.A2.C3) (h:Q1a m=true):Q1a n=true:=by
 have dev:Q0x m=true->Q0x n=true:=λh=>by
   rw[qf]at h⊢
   simp only[Bool.and_eq_true]at h⊢
   rw[hp,xaC hb]
   exact⟨hc h.1,ht h.2.1,hd _ h.2.2.1,hn _ h.2.2.2.1,h.2.2.2.2⟩
 rw[qW]at h⊢
 rw[hp,hcpu,hct,hw,hh]
 exact xf dev h
section
variable {P:Nat} {m:List Int} (h:Q1 P m)
include h
theorem dpage{f:Int}(hf:U f){b:Bool}(hx:b=Q9j m f)(hb:b=true):0<=f/\f<P:=by
 have hp:=Q3c h
 rw[hb]at hx
 simp only[Q9j,Qbo,Tree.m,letv,hp]at hx
 exact Zhs hf h.p2 hx.symm
theorem npage{f:Int}(hf:U f){b:Bool}(hx:b=Q9n m f)(hb:b=true):0<=f/\f<P:=by
 have hp:=Q3c h
 rw[hb]at hx
 simp only[Q9n,Qex,Tree.m,letv,hp]at hx
 exact Zhs hf h.p2 hx.symm
def keepD(P:Nat)(d d':Q0f):Prop:=Q8i d'/\(Q1c d P=true->Q1c d' P=true)
theorem zf{d:Q0f}(hd:Q8i d){cmd:Int}(hc:cmd=1\/cmd=2)(at0:Int):(Qbb d m cmd at0).w (λr=>keepD P d r.1/\r.2.length<=1):=by
 have h2:=h.p2
 have st3:(d.C2 !=0)=false->keepD P d {Blocks:=d.Blocks,B9:=d.B9,B4:=d.B4,C2:=3,D8:=d.D8,B7:=d.B7,B3:=d.B3,C4:=d.C4}:=λhs=>by
   have hs:d.C2=0:=by simpa using hs
   refine⟨⟨hd.block,hd.frame,hd.opBlock,hd.opFrame⟩,λhm=> ?_⟩
   simp only[Q1c,Q5v,Tree.m,hs]at hm⊢
   exact hm
 have blk:Q1c d P=true->decide (d.Blocks>64)=false:=λhm=>by
   cases hb:decide (d.Blocks>64)
   . rfl
   . have:Q1c d P=false:=by simp only[Q1c,Q5v,Tree.m];rw[hb];rfl
     rw[this]at hm;cases hm
 unfold Qbb
 refine w_br (λ_=>⟨⟨hd,λh=>h⟩,Nat.zero_le _⟩) λhs=>w_br (λ_=>⟨st3 hs,Nat.zero_le _⟩) λhb=>w_lv λx0 hx=>w_br (λ_=>⟨st3 hs,Nat.zero_le _⟩) λhp=> ?_
 have hb:=of_decide_eq_false hb
 obtain⟨f0,f1⟩:=dpage h hd.frame hx (by simpa using hp)
 have ef:IntKind.i64.wrap d.B4=d.B4:=by rw[IntKind.wrap_i64];omega
 have e1:decide (d.B9<d.Blocks)=true:=decide_eq_true (by omega)
 have e2:decide (IntKind.i64.wrap d.B4<(P:Int))=true:=by rw[ef];exact decide_eq_true f1
 refine w_br (λhcm=>Q0e (Zfc h _) λx1 h1=> ?_) (λhcm=> ?_)
 . rw[ef]at h1
   have h1:=h1 f0 f1
   have hcm:=eq_of_beq hcm
   subst hcm
   refine w_lv λx2 _=>⟨⟨⟨hd.block,hd.frame,hd.block,hd.frame⟩,λhm=> ?_⟩,Nat.le_refl _⟩
   simp only[Q1c,Q5v,Q8s,Q6q,Tree.m,letv,blk hm,e1,e2,h1]
   rfl
 . have hc:cmd=1:=by
     rcases hc with h|h
     . exact h
     . rw[h]at hcm;exact absurd hcm (by decide)
   subst hc
   refine w_lv λx2 _=>⟨⟨⟨hd.block,hd.frame,hd.block,hd.frame⟩,λhm=> ?_⟩,Nat.le_refl _⟩
   simp only[Q1c,Q5v,Q8s,Q6q,Tree.m,letv,blk hm,e1,e2]
   rfl
theorem qae{d:Q0f}(hd:Q8i d)(port:Int){v:Int}(hv:U v)(at0:Int):(Qgf d m port v at0).w (λr=>keepD P d r.1/\r.2.length<=1):=by
 have keep:keepD P d d:=⟨hd,λh=>h⟩
 have e1: ∀{k:Int},(v==k)=true->IntKind.i64.wrap v=k:=λhk=>by
   have:=eq_of_beq hk
   obtain⟨a,b⟩:=hv
   rw[IntKind.wrap_i64];omega
 unfold Qgf
 refine w_br (λ_=>⟨⟨⟨hv,hd.frame,hd.opBlock,hd.opFrame⟩,λh=>h⟩,Nat.zero_le _⟩) λ_=>w_br (λ_=>⟨⟨⟨hd.block,hv,hd.opBlock,hd.opFrame⟩,λh=>h⟩,Nat.zero_le _⟩) λ_=>w_br (λ_=>w_br (λhk=>Q0e (zf h hd (.inl (e1 hk)) _) λx hx=>hx) λ_=>w_br (λhk=>Q0e (zf h hd (.inr (e1 hk)) _) λx hx=>hx) λ_=>w_br (λ_=>w_lv λx hx=>w_br (λhb=> ?_) (λ_=>⟨keep,Nat.zero_le _⟩)) (λ_=>⟨keep,Nat.zero_le _⟩)) (λ_=>⟨keep,Nat.zero_le _⟩)
 refine⟨⟨⟨hd.block,hd.frame,hd.opBlock,hd.opFrame⟩,λhm=> ?_⟩,Nat.zero_le _⟩
 rw[hb]at hx
 simp only[Q8v,Qj9,Tree.m]at hx
 cases h2:d.C2==2
 . rw[h2]at hx
   have h3:d.C2=3:=eq_of_beq hx.symm
   simp only[Q1c,Q5v,Tree.m,h3]at hm⊢
   exact hm
 . have h3:d.C2=2:=eq_of_beq h2
   simp only[Q1c,Q5v,Tree.m,h3]at hm⊢
   exact hm
def keepN(P:Nat)(n n':Q0q):Prop:=Qig n'/\(Q5o n P=true->Q5o n' P=true)
theorem qaD{n:Q0q}(hn:Qig n)(at0:Int):(Qgi n m at0).w (λr=>r.length<=1):=by
 have h2:=h.p2
 unfold Qgi
 refine w_br (λ_=>Nat.zero_le _) λl1=>w_br (λ_=>Nat.zero_le _) λl2=>w_lv λx0 hx=>w_br (λ_=>Nat.zero_le _) λhp=>Q0e (Zfc h _) λx1 h1=> ?_
 have l1:=of_decide_eq_false l1
 have l2:=of_decide_eq_false l2
 obtain⟨f0,f1⟩:=npage h hn.frame hx (by simpa using hp)
 have ef:IntKind.i64.wrap n.B4=n.B4:=by rw[IntKind.wrap_i64];omega
 rw[ef]at h1
 have h1:=h1 f0 f1
 exact w_cn (decide_eq_true (by omega)) (Nat.le_refl _)
theorem zaD{n:Q0q}(hn:Qig n)(port:Int){v:Int}(hv:U v)(at0:Int):(Qjn n m port v at0).w (λr=>keepN P n r.1/\r.2.length<=1):=by
 have h2:=h.p2
 have keep:keepN P n n:=⟨hn,λh=>h⟩
 unfold Qjn
 refine w_br (λ_=>⟨⟨⟨hv,hn.len,hn.buffer,hn.got⟩,λh=>h⟩,Nat.zero_le _⟩) λ_=>w_br (λ_=>⟨⟨⟨hn.frame,hv,hn.buffer,hn.got⟩,λh=>h⟩,Nat.zero_le _⟩) λ_=>w_br (λ_=>w_br (λ_=>Q0e (qaD h hn _) λx hx=>⟨keep,hx⟩) λ_=>w_br (λ_=>w_lv λx hx=>w_br (λhb=>w_br (λnp=>w_br (λnr=> ?_) (λ_=>⟨keep,Nat.zero_le _⟩)) (λ_=>⟨keep,Nat.zero_le _⟩)) (λ_=>⟨keep,Nat.zero_le _⟩)) λ_=>w_br (λ_=> ?_) (λ_=>⟨keep,Nat.zero_le _⟩)) (λ_=>⟨keep,Nat.zero_le _⟩)
 . obtain⟨f0,f1⟩:=npage h hn.frame hx hb
   have np:n.C7=false:=by simpa using np
   have nr:n.B8=false:=by simpa using nr
   have e2:decide (IntKind.i64.wrap n.B4>=(P:Int))=false:=decide_eq_false (by rw[IntKind.wrap_i64];omega)
   refine⟨⟨⟨hn.frame,hn.len,hn.frame,hn.got⟩,λhm=> ?_⟩,Nat.zero_le _⟩
   simp only[Q5o,Qkn,Tree.m,np,nr,e2]at hm⊢
   cases hb:(n.C1 !=0)
   . rw[hb]at hm;exact hm
   . rw[hb]at hm;cases hm
 . refine⟨⟨⟨hn.frame,hn.len,hn.buffer,U_0⟩,λhm=> ?_⟩,Nat.zero_le _⟩
   simp only[Q5o,Qkn,Tree.m]at hm⊢
   revert hm
   cases n.C7<;>cases n.B8<;>cases decide (IntKind.i64.wrap n.C1>=(P:Int))<;>cases(n.C1 !=0)<;>simp
end
theorem zae(t:Q0g)(v:Int):Q3y (Qjq t v)=true:=by
 simp only[Qjq,Qld,Q3y,Qll,Tree.m]
 cases h:(v !=0)
 . have:v=0:=by simpa using h
   subst this;rfl
 . rfl
theorem Qpi{a:Int}(k:Nat)(hk:k<=32):ishr .u32 a k=a/2^k:=by
 unfold ishr
 have e:min (k:Int).toNat IntKind.u32.bits=k:=by show min (k:Int).toNat 32=k;omega
 have hp:(0:Int)<2^k:=Int.pow_pos (by decide)
 rw[e,Int.fdiv_eq_ediv_of_nonneg _ (Int.le_of_lt hp)]
def Zk2(x:Int)(n:Nat):Prop:=x<2^n/\(n=0\/(2:Int)^(n-1)<=x)
theorem Z74{x q:Int}{n k:Nat}(hq:q=x/2^k)(h0:0<q)(h:Zk2 q n):Zk2 x (n+k):=by
 have hp:(0:Int)<2^k:=Int.pow_pos (by decide)
 obtain⟨h1,h2⟩:=h
 have hn:n≠0:=λe=>by subst e;simp at h1;omega
 refine⟨?_, .inr ?_⟩
 . rw[Int.pow_add]
   have:x<(x/2^k+1)*2^k:=Int.lt_ediv_add_one_mul_self x hp
   have h3:(x/2^k+1)*2^k<=2^n*2^k:=Int.mul_le_mul_of_nonneg_right (by omega) (Int.le_of_lt hp)
   omega
 . have h2:=h2.resolve_left hn
   have e:n+k-1=(n-1)+k:=by omega
   rw[e,Int.pow_add]
   have h3:(2:Int)^(n-1)*2^k<=q*2^k:=Int.mul_le_mul_of_nonneg_right h2 (Int.le_of_lt hp)
   have h4:q*2^k<=x:=by rw[hq];exact Int.ediv_mul_le x (Int.ne_of_gt hp)
   omega
theorem xH{x:Int}{n p:Nat}(h:Zk2 x n)(hx:x<2^p):n<=p:=by
  obtain⟨h1,h2⟩:=h
  rcases h2 with h2|h2
  . omega
  . rcases Nat.lt_or_ge p n with hlt|hge
    . have:(2:Int)^p<=2^(n-1):=by
        have:=Nat.pow_le_pow_right (show 0<2 by omega) (show p<=n-1 by omega)
        exact_mod_cast this
      omega
    . exact hge
theorem Zen{x:Int}{n p:Nat}(h:Zk2 x n)(hn:n<=p):x<2^p:=by
 have:(2:Int)^n<=2^p:=by
   have:=Nat.pow_le_pow_right (show 0<2 by omega) hn
   exact_mod_cast this
 exact Int.lt_of_lt_of_le h.1 this
def lenChk(i:Nat):Bool:=match(Q1e (i:Int)) with
 | .ofNat n=>decide ((i:Int)<2^n)&&(Nat.beq n 0||decide ((2:Int)^(n-1)<=i))&&decide (n<=8)
 |_=>false
theorem Qrz{q:Int}(h0:0<=q)(h1:q<256): ∃n:Nat,Q1e q=n/\Zk2 q n/\n<=8:=by
 have all:List.all (List.range 256) lenChk=true:=by kernel_rfl
 have:=List.all_eq_true.1 all q.toNat (List.mem_range.2 (by omega))
 have hq:((q.toNat:Nat):Int)=q:=by omega
 unfold lenChk at this
 rw[hq]at this
 split at this
 . rename_i n hn
   simp only[Bool.and_eq_true,Bool.or_eq_true,decide_eq_true_eq]at this
   refine⟨n,hn,⟨this.1.1,?_⟩,this.2⟩
   rcases this.1.2 with h|h
   . exact .inl (Nat.eq_of_beq_eq_true h)
   . exact .inr h
 . cases this
theorem xaD{x:Int}(h:U x)(hx:16777216<=x):Q1e x=24+Q1e (x/16777216):=by
 obtain⟨h0,h1⟩:=h
 have s16:ishr .u32 x 16=x/65536:=Qpi 16 (by omega)
 have s24:ishr .u32 (x/65536) 8=x/16777216:=by rw[show((8:Int))=((8:Nat):Int) from rfl,Qpi 8 (by omega)];omega
 have d1:decide (x>=65536)=true:=decide_eq_true (by omega)
 have d2:decide (x/65536>=256)=true:=decide_eq_true (by omega)
 have d3:decide (x/16777216>=65536)=false:=decide_eq_false (by omega)
 have d4:decide (x/16777216>=256)=false:=decide_eq_false (by omega)
 have u:IntKind.u8.wrap (x/16777216)=x/16777216:=by rw[IntKind.wrap_u8];omega
 simp only[Q1e,Q1n,Tree.m,s16,s24,d1,d2,d3,d4,u,cond_true,cond_false]
 generalize(List.getD _ (Int.toNat (x/16777216)) (0:UInt8))=b
 have hb:=UInt8.toNat_lt b
 rw[IntKind.wrap_i64,IntKind.wrap_i64,IntKind.wrap_i64,IntKind.wrap_i64]
 omega
theorem qaE{x:Int}(h0:65536<=x)(h1:x<16777216):Q1e x=16+Q1e (x/65536):=by
 have s16:ishr .u32 x 16=x/65536:=Qpi 16 (by omega)
 have d1:decide (x>=65536)=true:=decide_eq_true (by omega)
 have d2:decide (x/65536>=256)=false:=decide_eq_false (by omega)
 have d3:decide (x/65536>=65536)=false:=decide_eq_false (by omega)
 have u:IntKind.u8.wrap (x/65536)=x/65536:=by rw[IntKind.wrap_u8];omega
 simp only[Q1e,Q1n,Tree.m,s16,d1,d2,d3,u,cond_true,cond_false]
 generalize(List.getD _ (Int.toNat (x/65536)) (0:UInt8))=b
 have hb:=UInt8.toNat_lt b
 rw[IntKind.wrap_i64,IntKind.wrap_i64,IntKind.wrap_i64]
 omega
theorem len_8{x:Int}(h0:256<=x)(h1:x<65536):Q1e x=8+Q1e (x/256):=by
 have s8:ishr .u32 x 8=x/256:=Qpi 8 (by omega)
 have d1:decide (x>=65536)=false:=decide_eq_false (by omega)
 have d2:decide (x>=256)=true:=decide_eq_true (by omega)
 have d3:decide (x/256>=65536)=false:=decide_eq_false (by omega)
 have d4:decide (x/256>=256)=false:=decide_eq_false (by omega)
 have u:IntKind.u8.wrap (x/256)=x/256:=by rw[IntKind.wrap_u8];omega
 simp only[Q1e,Q1n,Tree.m,s8,d1,d2,d3,d4,u,cond_true,cond_false]
 generalize(List.getD _ (Int.toNat (x/256)) (0:UInt8))=b
 have hb:=UInt8.toNat_lt b
 rw[IntKind.wrap_i64,IntKind.wrap_i64,IntKind.wrap_i64,IntKind.wrap_i64]
 omega
theorem Zjv{x:Int}(h:U x): ∃n:Nat,Q1e x=n/\Zk2 x n:=by
  obtain⟨h0,h1⟩:=h
  rcases Int.lt_or_le x 256 with a|a
  . obtain⟨n,e,l,_⟩:=Qrz h0 a
    exact⟨n,e,l⟩
  . rcases Int.lt_or_le x 65536 with b|b
    . obtain⟨n,e,l,_⟩:=Qrz (q:=x/256) (by omega) (by omega)
      exact⟨n+8,by rw[len_8 a b,e];omega,Z74 (k:=8) rfl (by omega) l⟩
    . rcases Int.lt_or_le x 16777216 with c|c
      . obtain⟨n,e,l,_⟩:=Qrz (q:=x/65536) (by omega) (by omega)
        exact⟨n+16,by rw[qaE b c,e];omega,Z74 (k:=16) rfl (by omega) l⟩
      . obtain⟨n,e,l,_⟩:=Qrz (q:=x/16777216) (by omega) (by omega)
        exact⟨n+24,by rw[xaD ⟨h0,h1⟩ c,e];omega,Z74 (k:=24) rfl (by omega) l⟩
theorem Qze{b:Q07}(h:U b.C3){P:Nat}:Q2f b P=true↔b.C3<2^P:=by
 obtain⟨n,e,l⟩:=Zjv h
 have hp:(if(0:Int)>(P:Int) then(0:Int) else P)=P:=by rw[if_neg (by omega)]
 simp only[Q2f,Q3u,Tree.m,letv,e,hp,decide_eq_true_eq]
 constructor
 . intro h;exact Zen l (by omega)
 . intro h;have:=xH l h;omega
theorem Z6c{a:Int}(h:U a){P:Nat}(h1:a<2^P):(BitVec.ofInt 32 a).toNat<2^P:=by
 obtain⟨a0,a1⟩:=h
 rw[BitVec.toNat_ofInt,Int.emod_eq_of_lt a0 (by omega)]
 have:((2^P:Nat):Int)=(2:Int)^P:=by exact_mod_cast rfl
 omega
theorem or_lt{a b:Int}(ha:U a)(hb:U b){P:Nat}(hP:P<=32)(h1:a<2^P)(h2:b<2^P):ior .u32 a b<2^P:=by
 have e:(BitVec.ofInt 32 a|||BitVec.ofInt 32 b).toNat<2^P:=by
   rw[BitVec.toNat_or]
   exact Nat.or_lt_two_pow (Z6c ha h1) (Z6c hb h2)
 have hc:((2^P:Nat):Int)=(2:Int)^P:=by exact_mod_cast rfl
 have l:=(BitVec.ofInt 32 a|||BitVec.ofInt 32 b).isLt
 show IntKind.wrap .u32 ((BitVec.ofInt 32 a|||BitVec.ofInt 32 b).toNat:Int)<2^P
 rw[IntKind.wrap_u32]
 omega
theorem xae{a b:Int}(ha:U a){P:Nat}(h1:a<2^P):Qft .u32 a b<2^P:=by
 have e:(BitVec.ofInt 32 a&&&~~~BitVec.ofInt 32 b).toNat<2^P:=by
   rw[BitVec.toNat_and]
   exact Nat.lt_of_le_of_lt Nat.and_le_left (Z6c ha h1)
 have hc:((2^P:Nat):Int)=(2:Int)^P:=by exact_mod_cast rfl
 have l:=(BitVec.ofInt 32 a&&&~~~BitVec.ofInt 32 b).isLt
 show IntKind.wrap .u32 ((BitVec.ofInt 32 a&&&~~~BitVec.ofInt 32 b).toNat:Int)<2^P
 rw[IntKind.wrap_u32]
 omega
theorem yf{v:Int}(h0:0<=v)(h1:v<32):ishl .u32 1 v=2^v.toNat:=by
 have e:min v.toNat IntKind.u32.bits=v.toNat:=by show min v.toNat 32=v.toNat;omega
 obtain⟨n,rfl⟩: ∃n:Nat,v=n:=⟨v.toNat,by omega⟩
 have hn:n<32:=by omega
 have hlt:(2:Nat)^n<4294967296:=by
   have:=Nat.pow_lt_pow_right (show 1<2 by omega) hn
   simpa using this
 have hc:((2^n:Nat):Int)=(2:Int)^n:=by exact_mod_cast rfl
 unfold ishl
 rw[e,IntKind.wrap_u32,Int.one_mul,Int.toNat_natCast,<-hc]
 clear hc e
 generalize(2:Nat)^n=z at*
 omega
def keepB(P:Nat)(b b':Q07):Prop:=okB b'/\(Q2f b P=true->Q2f b' P=true)
theorem Zjq{P:Nat}{m:List Int}(h:Q1 P m){b:Q07}(hb:okB b)(port:Int){v:Int}(hv:U v):(Q3q b m port v).w (λr=>keepB P b r.1/\Q1 P r.2):=by
 have hcl:Q03 m=m:=rfl
 have h2:=h.p2
 have hp:=Q3c h
 have keep:(Tree.an (Q06 m) (.lv (Q03 m) λx=> .lf (b,x))).w (λr=>keepB P b r.1/\Q1 P r.2):=w_an (Q8e h) (w_lv λx hx=>by rw[hcl]at hx;subst hx;exact⟨⟨hb,λh=>h⟩,h⟩)
 unfold Q3q
 refine w_br (λ_=>keep) λhlt=>w_cn (decide_eq_true hv.1) (w_br (λ_=>w_lv λx1 hx=>w_br (λhpg=>w_br (λ_=>w_an ⟨by decide,by decide,by decide⟩ (w_lv λx2 _=>Q0e (Z00 h _ _) λx3 ⟨h3,_⟩=> ?_)) (λ_=>keep)) (λ_=>keep)) (λ_=>w_br (λ_=>w_an (Q8e h) (w_lv λx hx=> ?_)) (λ_=>keep)))
 . have hlt:=of_decide_eq_false hlt
   have hpg:=of_decide_eq_true hpg
   rw[hx,hp]at hpg
   obtain⟨v0,v1⟩:=hv
   have ev:IntKind.i64.wrap v=v:=by rw[IntKind.wrap_i64];omega
   rw[ev]at hpg
   refine⟨⟨⟨hb.1,Q0s _⟩,λhm=> ?_⟩,h3⟩
   rw[Qze hb.2]at hm
   rw[Qze (Q0s _)]
   have hs:ishl .u32 1 v<2^P:=by
     rw[yf v0 (by omega)]
     have:=Nat.pow_lt_pow_right (show 1<2 by omega) (show v.toNat<P by omega)
     exact_mod_cast this
   exact or_lt hb.2 (Q0s _) h2 hm hs
 . rw[hcl]at hx;subst hx
   refine⟨⟨⟨hb.1,Q0s _⟩,λhm=> ?_⟩,h⟩
   rw[Qze hb.2]at hm
   rw[Qze (Q0s _)]
   exact xae hb.2 hm
structure kept(P:Nat)(m n:Q00):Prop where
 ok:okS P n
 dev:Q0x m=true->Q0x n=true
 cpu:n.B2=m.B2
 cnt:n.A1=m.A1
 wait:n.A4=m.A4
 halt:n.A7=m.A7
theorem Zc2{P:Nat}{m:Q00}(h:okS P m):kept P m m:=⟨h,λh=>h,rfl,rfl,rfl,rfl⟩
theorem Qo9{P:Nat}{m n:Q00}(hm:Q1 P m.Mem)(hn:Q1 P n.Mem)(hc:Q24 m.A3=true->Q24 n.A3=true)(ht:Q3y m.B0=true->Q3y n.B0=true)
   (hd:Q1c m.B1 P=true->Q1c n.B1 P=true) (hk:Q5o m.C5 P=true->Q5o n.C5 P=true) (hb:Q2f m.A2 P=true->Q2f n.A2 P=true) (h:Q0x m=true):Q0x n=true:=by
 rw[qf]at h⊢
 rw[Q3c hm]at h
 rw[Q3c hn]
 simp only[Bool.and_eq_true]at h⊢
 exact⟨hc h.1,ht h.2.1,hd h.2.2.1,hk h.2.2.2.1,hb h.2.2.2.2⟩
theorem Zgu{P:Nat}{m:Q00}(h:okS P m)(port:Int){v:Int}(hv:U v)(at0:Int):(Q3e m port v at0).w (λr=>kept P m r.1/\r.2.length<=1):=by
 have k:=Zc2 h
 obtain⟨h1,h2,h3,h4,h5,h6⟩:=h
 have id: ∀{p:Prop},p->p:=λh=>h
 have D: ∀(x:Q0f×List Q02),(keepD P m.B1 x.1/\x.2.length<=1)->kept P m {B2:=m.B2,Mem:=m.Mem,A3:=m.A3,B0:=m.B0,B1:=x.1,C5:=m.C5,A2:=m.A2,A1:=m.A1,A4:=m.A4,A7:=m.A7}/\x.2.length<=1:=λx hx=>
   ⟨⟨⟨h1,h2,hx.1.1,h4,h5,h6⟩,Qo9 h2 h2 id id hx.1.2 id id,rfl,rfl,rfl,rfl⟩,hx.2⟩
 have N: ∀(x:Q0q×List Q02),(keepN P m.C5 x.1/\x.2.length<=1)->kept P m {B2:=m.B2,Mem:=m.Mem,A3:=m.A3,B0:=m.B0,B1:=m.B1,C5:=x.1,A2:=m.A2,A1:=m.A1,A4:=m.A4,A7:=m.A7}/\x.2.length<=1:=λx hx=>
   ⟨⟨⟨h1,h2,h3,hx.1.1,h5,h6⟩,Qo9 h2 h2 id id id hx.1.2 id,rfl,rfl,rfl,rfl⟩,hx.2⟩
 have B: ∀(x:Q07×List Int),(keepB P m.A2 x.1/\Q1 P x.2)->kept P m {B2:=m.B2,Mem:=x.2,A3:=m.A3,B0:=m.B0,B1:=m.B1,C5:=m.C5,A2:=x.1,A1:=m.A1,A4:=m.A4,A7:=m.A7}/\([]:List Q02).length<=1:=λx hx=>
   ⟨⟨⟨h1,hx.2,h3,h4,hx.1.1.1,hx.1.1.2⟩,Qo9 h2 hx.2 id id id id hx.1.2,rfl,rfl,rfl,rfl⟩,Nat.zero_le _⟩
 unfold Q3e
 repeat'(first
   |exact⟨k,Nat.le_refl _⟩
   |exact⟨k,Nat.zero_le _⟩
   |exact w_lv λx hx=>⟨⟨⟨h1,h2,h3,h4,h5,h6⟩,Qo9 h2 h2 id (λ_=>by rw[hx];exact zae _ _) id id id,rfl,rfl,rfl,rfl⟩,Nat.zero_le _⟩
   |exact Q0e (qae h2 h3 _ hv _) λx hx=>D x hx
   |exact Q0e (zaD h2 h4 _ hv _) λx hx=>N x hx
   |exact Q0e (Zjq h2 ⟨h5,h6⟩ _ hv) λx hx=>B x hx
   |refine w_br (λ_=> ?_) (λ_=> ?_))
theorem Z53(c:Q0b)(port:Int):(Q95 c port).w (λr=>U r.2/\(Q24 c=true->Q24 r.1=true)):=by
 have u1:U 4294967295:=⟨by omega,by omega⟩
 unfold Q95
 refine w_br (λ_=>w_br (λ_=>⟨u1,λh=>h⟩) (λhb=>w_cn ?_ (w_cn ?_ ⟨Q0s _,λhm=> ?_⟩))) (λ_=>w_br (λ_=>⟨Q0s _,λh=>h⟩) (λ_=>⟨U_0,λh=>h⟩))
 . have hb:=of_decide_eq_false hb
   have:0<c.D3.length:=List.length_pos_iff.2 hb
   simp [Nat.blt];omega
 . have hb:=of_decide_eq_false hb
   have:0<c.D3.length:=List.length_pos_iff.2 hb
   exact decide_eq_true (by omega)
 . have hm:decide ((c.D3.length:Int)<=16)=true:=hm
   have hm:=of_decide_eq_true hm
   show decide (((List.take _ (List.drop _ c.D3)).length:Int)<=16)=true
   refine decide_eq_true ?_
   rw[List.length_take,List.length_drop];omega
theorem Zkw{P:Nat}{m:Q00}(h:okS P m)(port:Int){clock:Int}(hc:U clock):(Q3 m port clock).w (λr=>kept P m r.1/\U r.2):=by
 have k:=Zc2 h
 obtain⟨h1,h2,h3,h4,h5,h6⟩:=h
 have id: ∀{p:Prop},p->p:=λh=>h
 have ti: ∀t,U (Qyk t):=λt=>by
   refine Tree.post (Qo8 t) (W:=U) ?_
   unfold Qo8
   exact w_br (λ_=>⟨by omega,by omega⟩) (λ_=>U_0)
 have di: ∀p,U (Qun m.B1 p):=λp=>by
   refine Tree.post (Qsx m.B1 p) (W:=U) ?_
   unfold Qsx
   exact w_br (λ_=>h3.block) (λ_=>w_br (λ_=>h3.frame) (λ_=>w_br (λ_=>Q0s _) (λ_=>U_0)))
 have ni: ∀p,U (Qzg m.C5 p):=λp=>by
   refine Tree.post (Qr1 m.C5 p) (W:=U) ?_
   unfold Qr1
   exact w_br (λ_=>h4.frame) (λ_=>w_br (λ_=>h4.got) (λ_=>w_br (λ_=>w_br (λ_=>w_br (λ_=>Q0s _) (λ_=>Q0s _)) (λ_=>w_br (λ_=>Q0s _) (λ_=>U_0))) (λ_=>U_0)))
 have bi: ∀p,(Qbh m.A2 p).w U:=λp=>by
   unfold Qbh
   exact w_br (λ_=>h5) (λ_=>w_br (λ_=>Q0e (Zi0 h6) λ_ _=>Q0s _) (λ_=>U_0))
 have C: ∀(x:Q0b×Int),(U x.2/\(Q24 m.A3=true->Q24 x.1=true))->kept P m {B2:=m.B2,Mem:=m.Mem,A3:=x.1,B0:=m.B0,B1:=m.B1,C5:=m.C5,A2:=m.A2,A1:=m.A1,A4:=m.A4,A7:=m.A7}/\U x.2:=λx hx=>
   ⟨⟨⟨h1,h2,h3,h4,h5,h6⟩,Qo9 h2 h2 hx.2 id id id id,rfl,rfl,rfl,rfl⟩,hx.1⟩
 unfold Q3
 repeat'(first
   |exact⟨k,hc⟩
   |exact⟨k,U_0⟩
   |exact Q0e (Z53 _ _) λx hx=>C x hx
   |exact Z9p (Z53 _ _) λx hx=>C x hx
   |exact w_lv λx hx=>⟨k,by rw[hx];exact ti _⟩
   |exact w_lv λx hx=>⟨k,by rw[hx];exact di _⟩
   |exact w_lv λx hx=>⟨k,by rw[hx];exact ni _⟩
   |exact Q0e (bi _) λx hx=>⟨k,hx⟩
   |refine w_br (λ_=> ?_) (λ_=> ?_))
structure Q5n(c:Q04):Prop where
 x0:c.X.a0=0
 st:c.B6.a0<=31
 en:c.B6.a7<=31
 rt:c.B6.a6<=255
 ve:Int.tmod c.B6.a1 4=0
theorem Q5n.pc{c:Q04}(h:Q5n c)(p:Int):Q5n {X:=c.X,Pc:=p,B6:=c.B6}:=⟨h.x0,h.st,h.en,h.rt,h.ve⟩
theorem and31(a:Int):iand .u32 a 31<=31:=by
 have e:(BitVec.ofInt 32 a&&&BitVec.ofInt 32 31).toNat<=31:=by
   rw[BitVec.toNat_and]
   exact Nat.le_trans Nat.and_le_right (by decide)
 show IntKind.wrap .u32 ((BitVec.ofInt 32 a&&&BitVec.ofInt 32 31).toNat:Int)<=31
 rw[IntKind.wrap_u32];omega
theorem and255'(a:Int):iand .u32 a 255<=255:=by have:=and255 a;omega
theorem andn3(a:Int):Int.tmod (Qft .u32 a 3) 4=0:=by
 have e:(BitVec.ofInt 32 a&&&~~~BitVec.ofInt 32 3).toNat%4=0:=by
   rw[BitVec.toNat_and,show(~~~BitVec.ofInt 32 3).toNat=4294967292 by decide]
   have:=Nat.and_mod_two_pow (a:=(BitVec.ofInt 32 a).toNat) (b:=4294967292) (n:=2)
   simpa using this
 have l:=(BitVec.ofInt 32 a&&&~~~BitVec.ofInt 32 3).isLt
 show Int.tmod (IntKind.wrap .u32 ((BitVec.ofInt 32 a&&&~~~BitVec.ofInt 32 3).toNat:Int)) 4=0
 rw[IntKind.wrap_u32,Int.tmod_eq_emod_of_nonneg (by omega)]
 omega
theorem fin32{f:Int->Int}(h:(List.range 32).all (λn=>decide (f n<=31))=true){s:Int}(h0:0<=s)(h1:s<=31):f s<=31:=by
 have:=List.all_eq_true.1 h s.toNat (List.mem_range.2 (by omega))
 have e:((s.toNat:Nat):Int)=s:=by omega
 rw[e]at this
 exact of_decide_eq_true this
theorem Qlb{c:Q04}(h:Q2b c)(m:Q5n c)(k b:Int):Q5n (Q48 c k b):=
 ⟨m.x0,fin32 (f:=λs=>Qft .u32 (ior .u32 (Q8j (Q8j s 1 8) 2 16) 1) 2) (by kernel_rfl) h.a0.1 m.st,m.en,m.rt,m.ve⟩
theorem Zke{c:Q04}(h:Q2b c)(m:Q5n c):Q5n (Qd8 c):=
 ⟨m.x0,fin32 (f:=λs=>Q8j (Q8j s 8 1) 16 2) (by kernel_rfl) h.a0.1 m.st,m.en,m.rt,m.ve⟩
theorem Qtp{c:Q04}(m:Q5n c){r:Int}(hr:0<=r/\r<16)(v:Int):(Qc0 c r v).w Q5n:=by
 unfold Qc0
 refine w_br (λhn=>w_cn (rc hr) ?_) (λ_=>m)
 have hn:r≠0:=by simpa using hn
 obtain⟨n,e⟩: ∃n:Nat,r.toNat=n+1:=⟨r.toNat-1,by omega⟩
 refine⟨?_,m.st,m.en,m.rt,m.ve⟩
 show(A16.of 0 (List.set (A16.l c.X) r.toNat v)).a0=0
 rw[e]
 exact m.x0
theorem vf{c:Q04}(m:Q5n c)(k v:Int):(Qaz c k v).w Q5n:=by
 unfold Qaz
 refine w_br (λhk=>w_cn (by rw[eq_of_beq hk];decide) ?_) λ_=>w_br (λhk=>w_cn (by rw[eq_of_beq hk];decide) ?_) λ_=>w_br (λhk=>w_cn (by rw[eq_of_beq hk];decide) ?_) λ_=>w_br (λhk=>w_cn (by rw[eq_of_beq hk];decide) ?_) λ_=>w_br (λhk=>w_cn (by rw[eq_of_beq hk];decide) ?_) λ_=>w_br (λhk=>w_cn (by rw[eq_of_beq hk];decide) ?_) λ_=>w_br (λhk=>w_cn (by rw[eq_of_beq hk];decide) ?_) λ_=>w_br (λhk=>w_cn (by rw[eq_of_beq hk];decide) ?_) (λ_=>m)
 all_goals(have hk:=eq_of_beq hk;subst hk)
 . exact⟨m.x0,and31 _,m.en,m.rt,m.ve⟩
 . exact⟨m.x0,m.st,and31 _,m.rt,m.ve⟩
 . exact⟨m.x0,m.st,m.en,and255' _,m.ve⟩
 . exact⟨m.x0,m.st,m.en,m.rt,andn3 _⟩
 . exact⟨m.x0,m.st,m.en,m.rt,m.ve⟩
 . exact⟨m.x0,m.st,m.en,m.rt,m.ve⟩
 . exact⟨m.x0,m.st,m.en,m.rt,m.ve⟩
 . exact⟨m.x0,m.st,m.en,m.rt,m.ve⟩
section
variable {c:Q04} (h:Q2b c) (m:Q5n c) {i:Q0i} (hi:Qem i)
include h m hi
theorem Zfw:(Q4v c i).w (λr=>Q5n r.1):=by
 unfold Q4v
 refine w_cn (rc hi.a) (w_cn (rc hi.b) ?_)
 repeat'(first
   |refine w_br (λ_=> ?_) (λ_=> ?_)
   |exact Q0e (Qtp m hi.a _) λx hx=>hx.pc _
   |exact w_lv λx _=>w_br (λ_=>m.pc _) (λ_=>m.pc _)
   |exact w_lv λx hx=>by rw[hx];exact Qlb h m _ _
   |exact w_lv λx hx=>by rw[hx];exact Zke h m
   |exact w_cn (by have:=hi.csr (by simp_all);simp [Nat.blt];omega) (Q0e (Qtp m hi.a _) λx hx=>hx.pc _)
   |exact Q0e (vf m _ _) λx hx=>hx.pc _
   |refine w_cn (rc hi.c) ?_
   |exact Q0e (Z5m _ (h.r _) (Q0s _)) λy hy=>Q0e (Qtp m hi.a _) λx hx=>hx.pc _
   |exact Q0e (Z5m _ (h.r _) (h.r _)) λy hy=>Q0e (Qtp m hi.a _) λx hx=>hx.pc _
   |refine w_lf ?_)
 all_goals exact m.pc _
theorem zH{P:Nat}{mem:List Int}(hm:Q1 P mem):(Qd4 c mem i).w (λr=>Q5n r.1):=by
 have w:=Z8d i.Op
 unfold Qd4
 refine w_cn (rc hi.b) (w_lv λx0 h0=> ?_)
 rw[<-h0]at w
 refine Q0e (Qkg hm (Q0s _) w 2) λx1 h1=>w_br (λ_=>w_lv λy hy=>by rw[hy];exact Qlb h m _ _) (λ_=>w_lv λx3 h3=> ?_)
 rw[h0,<-h3]at w
 exact Q0e (Qqu h1.2 h1.1 w) λx4 h4=>w_br (λ_=>Q0e (Qvb h4.1 8) λy hy=>Q0e (Qtp m hi.a _) λx hx=>hx.pc _) (λ_=>Q0e (Qtp m hi.a _) λx hx=>hx.pc _)
theorem qg{P:Nat}{mem:List Int}(hm:Q1 P mem):(Qat c mem i).w (λr=>Q5n r.1):=by
 have w:=Z8d i.Op
 unfold Qat
 refine w_cn (rc hi.b) (w_lv λx0 h0=> ?_)
 rw[<-h0]at w
 refine Q0e (Qkg hm (Q0s _) w 3) λx1 h1=>w_br (λ_=>w_lv λy hy=>by rw[hy];exact Qlb h m _ _) (λ_=>w_lv λx3 h3=>w_cn (rc hi.a) ?_)
 rw[h0,<-h3]at w
 exact Q0e (Qy7 h1.2 h1.1 w (h.r _)) λx hx=>m.pc _
end
theorem yH{c:Q04}(h:Q2b c)(m:Q5n c){P:Nat}{mem:List Int}(hm:Q1 P mem):(Q6l c mem).w (λr=>Q5n r.1):=by
 unfold Q6l
 refine Q0e (Z6o hm h) λx0 h0=>w_br (λ_=>w_lv λy hy=>by rw[hy];exact Qlb h m _ _) (λ_=>Q0e (Qz0 _) λx2 h2=>w_br (λ_=>w_lv λy hy=>by rw[hy];exact Qlb h m _ _) (λhb=> ?_))
 have hi:=h2 (by simpa using hb)
 refine w_lv λx4 _=> ?_
 repeat'(first
   |refine w_br (λ_=> ?_) (λ_=> ?_)
   |exact Q0e (zH h m hi h0.2) λx hx=>hx
   |exact Q0e (qg h m hi h0.2) λx hx=>hx
   |exact Q0e (Zfw h m hi) λx hx=>hx
   |exact w_lv λy hy=>by rw[hy];exact Qlb h m _ _
   |refine w_lv λ_ _=> ?_)
theorem Zgy{c:Q04}(h:Q2b c){i:Q0i}(hi:Qem i):(Q4v c i).w (λr=>0<=r.2.E0/\r.2.E0<16):=by
 have z:(0:Int)<=0/\(0:Int)<16:=⟨by decide,by decide⟩
 unfold Q4v
 refine w_cn (rc hi.a) (w_cn (rc hi.b) ?_)
 repeat'(first
   |refine w_br (λ_=> ?_) (λ_=> ?_)
   |exact Q0e (Qpc h hi.a (Q0s _)) λx hx=>z
   |exact w_lv λx _=>w_br (λ_=>z) (λ_=>z)
   |exact w_lv λx hx=>z
   |exact w_cn (by have:=hi.csr (by simp_all);simp [Nat.blt];omega) (Q0e (Qpc h hi.a (h.a _)) λx hx=>z)
   |exact Q0e (Zj h _ (h.r _)) λx hx=>z
   |refine w_cn (rc hi.c) ?_
   |exact Q0e (Z5m _ (h.r _) (Q0s _)) λy hy=>Q0e (Qpc h hi.a hy) λx hx=>z
   |exact Q0e (Z5m _ (h.r _) (h.r _)) λy hy=>Q0e (Qpc h hi.a hy) λx hx=>z
   |refine w_lf ?_)
 all_goals first|exact z|exact hi.a
theorem Zj0{c:Q04}(h:Q2b c){P:Nat}{mem:List Int}(hm:Q1 P mem):(Q6l c mem).w (λr=>0<=r.2.2.E0/\r.2.2.E0<16):=by
 have z:(0:Int)<=0/\(0:Int)<16:=⟨by decide,by decide⟩
 unfold Q6l
 refine Q0e (Z6o hm h) λx0 h0=>w_br (λ_=>w_lv λy hy=>z) (λ_=>Q0e (Qz0 _) λx2 h2=>w_br (λ_=>w_lv λy hy=>z) (λhb=> ?_))
 have hi:=h2 (by simpa using hb)
 refine w_lv λx4 _=> ?_
 repeat'(first
   |refine w_br (λ_=> ?_) (λ_=> ?_)
   |exact Q0e (Qzm h hi h0.2) λx hx=>z
   |exact Q0e (Qwq h hi h0.2) λx hx=>z
   |exact Q0e (Zgy h hi) λx hx=>hx
   |exact w_lv λy hy=>z
   |refine w_lv λ_ _=> ?_)
theorem cnd2{a x:Bool}:(bif a then false else x)=true↔a=false/\x=true:=by cases a<;>simp
theorem Qj7(m:Q00):Q1a m=true↔Q0v m.Mem≠0/\Q5n m.B2/\m.A1<=1152921504606846976/\ ¬(m.A4=true/\m.A7=true)/\Q0x m=true:=by
  rw[qW]
  unfold mayC chain
  rw[cnd2,cnd2,cnd2,cnd2,cnd2,cnd2,cnd2]
  simp only[decide_eq_false_iff_not,Int.not_lt,beq_eq_false_iff_ne,bne_eq_false_iff_eq,gt_iff_lt]
  constructor
  . rintro⟨a1,a2,a3,a4,a5,a6,a7,a8⟩
    refine⟨a1,⟨a2,a3,a4,a5,a6⟩,a7,?_,?_⟩
    . rintro⟨w,h⟩;rw[w,h]at a8;cases a8
    . revert a8;cases m.A4
      . exact λh=>h
      . cases m.A7
        . exact λh=>h
        . intro h;cases h
  . rintro⟨a1,⟨a2,a3,a4,a5,a6⟩,a7,a8,a9⟩
    refine⟨a1,a2,a3,a4,a5,a6,a7,?_⟩
    rw[a9]
    cases hw:m.A4
    . rfl
    . cases hh:m.A7
      . rfl
      . exact absurd ⟨hw,hh⟩ a8
theorem Qy4{m:Q00}(h:Q23 m=true):Q1a m=true/\m.A7=false/\m.A1<1152921504606846976:=by
  simp only[Q23,Q3t,Tree.m,letv]at h
  cases h1:Q1a m
  . rw[h1]at h;cases h
  . cases h2:m.A7
    . rw[h1,h2]at h
      cases h3:Q39 m
      . rw[h3]at h
        have h:decide (m.A1<1152921504606846976)=true:=h
        exact⟨rfl,rfl,of_decide_eq_true h⟩
      . rw[h3]at h;cases h
    . rw[h1,h2]at h;cases h
theorem Qrc{P:Nat}{m:Q00}(h:okS P m)(g:Q5n m.B2):(Q2n m).w (λr=>Q5n r.B2/\okS P r/\r.Mem=m.Mem/\r.A4=false/\r.A7=m.A7/\r.A1=m.A1/\r.A3=m.A3/\r.B0=m.B0/\r.B1=m.B1/\r.C5=m.C5/\r.A2=m.A2):=by
 obtain⟨h1,h2,h3,h4,h5,h6⟩:=h
 unfold Q2n
 refine w_br (λ_=>⟨g,⟨h1,h2,h3,h4,h5,h6⟩,rfl,rfl,rfl,rfl,rfl,rfl,rfl,rfl,rfl⟩) (λ_=>Q0e (Qvh (m:=⟨_,_,_,_,_,_,m.A2,_,_,_⟩) h6) λx0 _=>w_lp (inv:=λz=>0<=z/\z<=5) (μ:=Qar m) ⟨by omega,by omega⟩ (Nat.lt_succ_self _) (λz hz=> ?_))
 obtain⟨z1,z2⟩:=hz
 refine w_br (λhb=>w_cn (decide_eq_true z1) (w_br (λ_=>w_lv λx1 hx=>⟨by rw[hx];exact Qlb h1 g _ _,⟨by rw[hx];exact Qm9 h1 _ U_0,h2,h3,h4,h5,h6⟩,rfl,rfl,rfl,rfl,rfl,rfl,rfl,rfl,rfl⟩) (λ_=>w_nx ?_))) (λ_=>⟨g,⟨h1,h2,h3,h4,h5,h6⟩,rfl,rfl,rfl,rfl,rfl,rfl,rfl,rfl,rfl⟩)
 have hb:=of_decide_eq_true hb
 show(0<=IntKind.i64.wrap (z+1)/\IntKind.i64.wrap (z+1)<=5)/\(5-IntKind.i64.wrap (z+1)).toNat<(5-z).toNat
 have ew:IntKind.i64.wrap (z+1)=z+1:=by rw[IntKind.wrap_i64];omega
 rw[ew];omega
structure Good(P:Nat)(m r:Q00):Prop where
 ok:okS P r
 cnt:0<=r.A1
 may:Q1a m=true->Q1a r=true
 or:r=m\/r.A1=m.A1+1
theorem Z23(m:Q00){port:Int}(hp:(port==2)=false)(a b:Int):Q10 m port a=Q10 m port b:=by
 simp only[Q10,Q3,Tree.m,hp,cond_false]
theorem Z64{m:Q00}(h:Q21 m=false)(a b:Int):Q29 m a=Q29 m b:=by
 have hcl:Q03 m.Mem=m.Mem:=rfl
 have e:(⟨m.B2,m.Mem,m.A3,m.B0,m.B1,m.C5,m.A2,m.A1,m.A4,m.A7⟩:Q00)=m:=rfl
 simp only[Q21,Q20,Tree.m,letv]at h
 simp only[Q29,Q2l,Tree.m,letv,hcl,e]
 cases hr:Q23 m
 . rfl
 . rw[hr]at h
   have h:(bif(Q4s (Q0p m).B2 (Q0p m).Mem).2.2.B5==1 then(Q4s (Q0p m).B2 (Q0p m).Mem).2.2.D1==2 else false)=false:=h
   cases hk:(Q4s (Q0p m).B2 (Q0p m).Mem).2.2.B5==1
   . rfl
   . rw[hk]at h
     have hp:((Q4s (Q0p m).B2 (Q0p m).Mem).2.2.D1==2)=false:=h
     rw[Z23 _ hp a b]
theorem xg{P:Nat}{m:Q00}(h:okS P m)(hc0:0<=m.A1){clock:Int}(hk:U clock):(Q2l m clock).w (λr=>r.2.length<=1/\Good P m r.1):=by
 have hcl:Q03 m.Mem=m.Mem:=rfl
 unfold Q2l
 refine w_an (Q8e h.mem) (w_lv λl hl=> ?_)
 rw[hcl]at hl;subst hl
 refine w_an (Tree.pp (Zfd (m:=⟨_,_,_,_,_,_,m.A2,_,_,_⟩) h.given)).1 (w_lv λx1 hx1=>w_br (λ_=>⟨Nat.zero_le _,h,hc0,λh=>h, .inl rfl⟩) (λhb=> ?_))
 have hr:Q23 m=true:=by rw[<-show x1=Q23 m from hx1];simpa using hb
 obtain⟨hm,hh,hct⟩:=Qy4 hr
 obtain⟨g1,g2,g3,g4,g5⟩:=(Qj7 m).1 hm
 have hP:(P:Int)≠0:=by rw[<-Q3c h.mem];exact g1
 have fin: ∀(n:Q00),okS P n->Q5n n.B2->Q0x n=true->n.A1=m.A1-> ¬(n.A4=true/\n.A7=true)->Good P m {B2:=n.B2,Mem:=n.Mem,A3:=n.A3,B0:=n.B0,B1:=n.B1,C5:=n.C5,A2:=n.A2,A1:=IntKind.wrap .u64 (n.A1+1),A4:=n.A4,A7:=n.A7}:=λn a b c d e=>by
   have ec:IntKind.wrap .u64 (n.A1+1)=m.A1+1:=by rw[d,IntKind.wrap_u64];omega
   refine⟨⟨a.cpu,a.mem,a.disk,a.nic,a.target,a.given⟩,?_,λ_=>(Qj7 _).2 ⟨?_,b,?_,e,c⟩, .inr ec⟩
   . show 0<=IntKind.wrap .u64 (n.A1+1);omega
   . show Q0v n.Mem≠0;rw[Q3c a.mem];exact hP
   . show IntKind.wrap .u64 (n.A1+1)<=_;omega
 refine Q0e (Qrc (m:=⟨_,_,m.A3,m.B0,m.B1,m.C5,m.A2,m.A1,m.A4,m.A7⟩) ⟨h.cpu,h.mem,h.disk,h.nic,h.target,h.given⟩ g2) λx2 hx2=> ?_
 obtain⟨b1,b2,b3,b4,b5,b6,b7,b8,b9,b10,b11⟩:=hx2
 have ex:=Tree.pp (yv b2.cpu b2.mem)
 have em:=Tree.pp (yH b2.cpu b1 b2.mem)
 have er:=Tree.pp (Zj0 b2.cpu b2.mem)
 refine w_an ex.1 (w_lv λx3 h3=> ?_)
 obtain⟨e1,e2,e3⟩:Q2b x3.1/\Q1 P x3.2.1/\U x3.2.2.Value:=by rw[h3];exact ex.2
 have f1:Q5n x3.1:=by rw[h3];exact em.2
 have r1:0<=x3.2.2.E0/\x3.2.2.E0<16:=by rw[h3];exact er.2
 have ok3:okS P ⟨x3.1,x3.2.1,x2.A3,x2.B0,x2.B1,x2.C5,x2.A2,x2.A1,x2.A4,x2.A7⟩:=⟨e1,e2,b2.disk,b2.nic,b2.target,b2.given⟩
 have dev: ∀(w h:Bool),Q0x ⟨x3.1,x3.2.1,x2.A3,x2.B0,x2.B1,x2.C5,x2.A2,x2.A1,w,h⟩=true:=λw hh=>by
   have id: ∀{p:Prop},p->p:=λh=>h
   refine Qo9 (m:=m) (P:=P) h.mem e2 ?_ ?_ ?_ ?_ ?_ g5
   . show _->Q24 x2.A3=true;rw[b7];exact id
   . show _->Q3y x2.B0=true;rw[b8];exact id
   . show _->Q1c x2.B1 P=true;rw[b9];exact id
   . show _->Q5o x2.C5 P=true;rw[b10];exact id
   . show _->Q2f x2.A2 P=true;rw[b11];exact id
 have hw:x2.A4=false:=b4
 have hh2:x2.A7=false:=b5.trans hh
 have hct2:x2.A1=m.A1:=b6
 refine w_br (λ_=> ?_) λ_=>w_br (λ_=> ?_) λ_=>w_br (λ_=> ?_) λ_=>w_br (λ_=> ?_) λ_=> ?_
 . refine Q0e (Zkw ok3 _ hk) λx4 h4=> ?_
   obtain⟨k,u⟩:=h4
   have kc:x4.1.B2=x3.1:=k.cpu
   have kt:x4.1.A1=m.A1:=k.cnt.trans hct2
   have kw: ¬(x4.1.A4=true/\x4.1.A7=true):=λe=>by have:x4.1.A4=x2.A4:=k.wait;rw[this,hw]at e;cases e.1
   have km:Q5n x4.1.B2:=by rw[kc];exact f1
   refine w_br (λhn=>w_cn (rc r1) ⟨Nat.zero_le _,?_⟩) (λ_=>⟨Nat.zero_le _,fin x4.1 k.ok km (k.dev (dev _ _)) kt kw⟩)
   have hn:x3.2.2.E0≠0:=by simpa using hn
   obtain⟨q,e⟩: ∃q:Nat,x3.2.2.E0.toNat=q+1:=⟨x3.2.2.E0.toNat-1,by omega⟩
   refine fin ⟨⟨A16.of 0 (List.set (A16.l x4.1.B2.X) x3.2.2.E0.toNat x4.2),x4.1.B2.Pc,x4.1.B2.B6⟩,x4.1.Mem,x4.1.A3,x4.1.B0,x4.1.B1,x4.1.C5,x4.1.A2,x4.1.A1,x4.1.A4,x4.1.A7⟩ ⟨⟨Ze8 k.ok.cpu.x u _,k.ok.cpu.pc,k.ok.cpu.csr⟩,k.ok.mem,k.ok.disk,k.ok.nic,k.ok.target,k.ok.given⟩ ⟨?_,km.st,km.en,km.rt,km.ve⟩ (k.dev (dev _ _)) kt kw
   show(A16.of 0 (List.set (A16.l x4.1.B2.X) x3.2.2.E0.toNat x4.2)).a0=0
   rw[e]
   exact km.x0
 . refine Q0e (Zgu ok3 _ e3 _) λx5 h5=> ?_
   obtain⟨k,u⟩:=h5
   have kc:x5.1.B2=x3.1:=k.cpu
   exact⟨u,fin x5.1 k.ok (by rw[kc];exact f1) (k.dev (dev _ _)) (k.cnt.trans hct2) (λe=>by have:x5.1.A4=x2.A4:=k.wait;rw[this,hw]at e;cases e.1)⟩
 . exact⟨Nat.zero_le _,fin ⟨x3.1,x3.2.1,x2.A3,x2.B0,x2.B1,x2.C5,x2.A2,x2.A1,true,x2.A7⟩ ⟨e1,e2,b2.disk,b2.nic,b2.target,b2.given⟩ f1 (dev _ _) hct2 (λe=>by have e2:x2.A7=true:=e.2;rw[hh2]at e2;cases e2)⟩
 . exact⟨Nat.zero_le _,fin ⟨x3.1,x3.2.1,x2.A3,x2.B0,x2.B1,x2.C5,x2.A2,x2.A1,x2.A4,true⟩ ⟨e1,e2,b2.disk,b2.nic,b2.target,b2.given⟩ f1 (dev _ _) hct2 (λe=>by have e2:x2.A4=true:=e.1;rw[hw]at e2;cases e2)⟩
 . exact⟨Nat.zero_le _,fin ⟨x3.1,x3.2.1,x2.A3,x2.B0,x2.B1,x2.C5,x2.A2,x2.A1,x2.A4,x2.A7⟩ ok3 f1 (dev _ _) hct2 (λe=>by have e2:x2.A4=true:=e.1;rw[hw]at e2;cases e2)⟩
theorem Zim{P:Nat}{m:Q00}(h:okM P m){e:Q0d}(he:U e.N):(Q3w m e).w (λr=>(Q1a m=true->Q1a r.1=true)/\r.1.A1=m.A1/\U r.1.A2.C3):=by
 obtain⟨h1,h2,h3,h4,h5,h7⟩:=h
 have hcl:Q03 m.Mem=m.Mem:=rfl
 have pg: ∀{m':List Int},Q1 P m'->Q0v m'=Q0v m.Mem:=λh=>by rw[Q3c h,Q3c h2]
 have keep:(Q1a m=true->Q1a m=true)/\m.A1=m.A1/\U m.A2.C3:=⟨λh=>h,rfl,h5.2⟩
 unfold Q3w
 refine w_an (Q8e h2) (w_lv λl hl=> ?_)
 rw[hcl]at hl;subst hl
 refine Q0e (Zhg (m:=⟨_,_,_,_,_,_,m.A2,_,_,_⟩) h5.2) λx1 _=>w_br (λ_=>keep) λ_=>w_br (λ_=>keep) λ_=> ?_
 refine w_br (λ_=>w_br (λ_=>w_br (λ_=>w_lv λx hx=> ?_) (λ_=>keep)) (λ_=>keep)) λ_=>w_br (λ_=>w_br (λ_=>w_br (λ_=>Q0e (xad _ _) λx hx=> ?_) (λ_=>keep)) (λ_=>keep)) λ_=>w_br (λhk=>Q0e (Zl4 h2 h3 e) λx hx=> ?_) λ_=>w_br (λhk=>w_br (λ_=>Q0e (ye h2 h4 _) λx hx=> ?_) (λ_=>keep)) λ_=>w_br (λ_=>w_br (λ_=> ?_) (λ_=>keep)) (λ_=>keep)
 . exact⟨Qs1 rfl rfl rfl rfl rfl (λh=>h) (λh=>by rw[hx];exact qH _ h) (λ_ h=>h) (λ_ h=>h) rfl,rfl,h5.2⟩
 . exact⟨Qs1 rfl rfl rfl rfl rfl hx (λh=>h) (λ_ h=>h) (λ_ h=>h) rfl,rfl,h5.2⟩
 . obtain⟨a1,a2,a3,a4,a5⟩:=hx
   exact⟨Qs1 (pg a2) rfl rfl rfl rfl (λh=>h) (λh=>h) a5 (λ_ h=>h) rfl,rfl,h5.2⟩
 . obtain⟨a1,a2,a3,a4,a5⟩:=hx
   exact⟨Qs1 (pg a2) rfl rfl rfl rfl (λh=>h) (λh=>h) (λ_ h=>h) a5 rfl,rfl,h5.2⟩
 . exact⟨Qs1 rfl rfl rfl rfl rfl (λh=>h) (λh=>h) (λ_ h=>h) (λ_ h=>h) rfl,rfl,h5.2⟩
structure okW(m:Q00):Prop where
 cpu:Q2b m.B2
 u: ∀w∈m.Mem,U w
 len:m.Mem.length<=1024
 disk:Q8i m.B1
 nic:Qig m.C5
 bal:okB m.A2
 cnt:0<=m.A1
theorem Qv7{a:Int}(h:U a):(BitVec.ofInt 32 a).toNat=a.toNat:=by
 obtain⟨h1,h2⟩:=h
 rw[BitVec.toNat_ofInt];omega
theorem Zfm{a b:Int}(ha:U a)(hb:U b):iand .u32 a b=((a.toNat&&&b.toNat:Nat):Int):=by
 have l:=(BitVec.ofInt 32 a&&&BitVec.ofInt 32 b).isLt
 have e:(BitVec.ofInt 32 a&&&BitVec.ofInt 32 b).toNat=a.toNat&&&b.toNat:=by rw[BitVec.toNat_and,Qv7 ha,Qv7 hb]
 show IntKind.wrap .u32 ((BitVec.ofInt 32 a&&&BitVec.ofInt 32 b).toNat:Int)=_
 rw[IntKind.wrap_u32,<-e];omega
theorem zaE{a b:Int}(ha:U a)(hb:U b):ior .u32 a b=((a.toNat|||b.toNat:Nat):Int):=by
 have l:=(BitVec.ofInt 32 a|||BitVec.ofInt 32 b).isLt
 have e:(BitVec.ofInt 32 a|||BitVec.ofInt 32 b).toNat=a.toNat|||b.toNat:=by rw[BitVec.toNat_or,Qv7 ha,Qv7 hb]
 show IntKind.wrap .u32 ((BitVec.ofInt 32 a|||BitVec.ofInt 32 b).toNat:Int)=_
 rw[IntKind.wrap_u32,<-e];omega
theorem Z7z{a:Int}(ha:U a)(k:Nat)(hk:k<=32){q:Int}(hq:q=((2^k-1:Nat):Int)):iand .u32 a q=a%2^k:=by
 have hp:2^k<=2^32:=Nat.pow_le_pow_right (by decide) hk
 have h1:(2:Nat)^32=4294967296:=by decide
 have hpos:=Nat.two_pow_pos k
 subst hq
 rw[Zfm ha ⟨by omega,by omega⟩,Int.toNat_natCast,Nat.and_two_pow_sub_one_eq_mod]
 have:=ha.1
 rw[Int.natCast_emod,Int.toNat_of_nonneg this]
 simp
theorem m15{a:Int}(ha:U a):iand .u32 a 15=a%16:=Z7z ha 4 (by decide) rfl
theorem m255{a:Int}(ha:U a):iand .u32 a 255=a%256:=Z7z ha 8 (by decide) rfl
theorem m65535{a:Int}(ha:U a):iand .u32 a 65535=a%65536:=Z7z ha 16 (by decide) rfl
theorem Qsc(p:Int->Bool)(N:Nat)(h:(List.range N).all (λn=>p n)=true){s:Int}(h0:0<=s)(h1:s<N):p s=true:=by
 have:=List.all_eq_true.1 h s.toNat (List.mem_range.2 (by omega))
 rwa [Int.toNat_of_nonneg h0]at this
theorem w64{x:Int}(h0: -9223372036854775808<=x)(h1:x<9223372036854775808):IntKind.wrap .i64 x=x:=by rw[IntKind.wrap_i64];omega
theorem shr0(a:Int):ishr .u32 a 0=a:=by have:=Qpi (a:=a) 0 (by decide);simpa using this
theorem fld(w:Int):Q2p w 24 8=iand .u32 (ishr .u32 w 24) 255/\Q2p w 20 4=iand .u32 (ishr .u32 w 20) 15/\Q2p w 16 4=iand .u32 (ishr .u32 w 16) 15/\Q2p w 0 16=iand .u32 (ishr .u32 w 0) 65535/\Q2p w 8 8=iand .u32 (ishr .u32 w 8) 255:=
 ⟨by kernel_rfl,by kernel_rfl,by kernel_rfl,by kernel_rfl,by kernel_rfl⟩
def useOf(f:Int):Q8h×Bool:=
 bif f==1 then(⟨false,false,false,0,0⟩,true) else bif f==2 then(⟨true,true,true,0,0⟩,true) else bif f==3 then(⟨true,true,false,-32768,32767⟩,true)
 else bif f==4 then(⟨true,true,false,0,65535⟩,true) else bif f==5 then(⟨true,true,false,0,31⟩,true) else bif f==6 then(⟨true,false,false,0,65535⟩,true)
 else bif f==7 then(⟨true,false,false,-32768,32767⟩,true) else bif f==8 then(⟨true,false,false,0,7⟩,true) else bif f==9 then(⟨true,false,false,0,11⟩,true) else(⟨false,false,false,0,0⟩,false)
def sameU(x y:Q8h×Bool):Bool:=x.1.a==y.1.a&&x.1.b==y.1.b&&x.1.c==y.1.c&&x.1.low==y.1.low&&x.1.D6==y.1.D6&&x.2==y.2
theorem vH{x y:Q8h×Bool}(h:sameU x y=true):x=y:=by
 obtain⟨⟨a,b,c,d,e⟩,f⟩:=x
 obtain⟨⟨a',b',c',d',e'⟩,f'⟩:=y
 simp only[sameU,Bool.and_eq_true,beq_iff_eq]at h
 obtain⟨⟨⟨⟨⟨rfl,rfl⟩,rfl⟩,rfl⟩,rfl⟩,rfl⟩:=h
 rfl
theorem xW{op:Int}(h0:0<=op)(h1:op<256):Z0z op=useOf (Q25 op):=by
 exact vH (Qsc (λop=>sameU (Z0z op) (useOf (Q25 op))) 256 (by kernel_rfl) h0 h1)
theorem zg{op:Int}(h0:0<=op)(h1:op<256):Q25 op=0\/Q25 op=1\/Q25 op=2\/Q25 op=3\/Q25 op=4\/Q25 op=5\/Q25 op=6\/Q25 op=7\/Q25 op=8\/Q25 op=9:=by
 have:=of_decide_eq_true (Qsc (λop=>decide (0<=Q25 op/\Q25 op<=9)) 256 (by kernel_rfl) h0 h1)
 omega
theorem qaf{op:Int}(h0:0<=op)(h1:op<256):Q82 op=Q34 op:=by
 exact eq_of_beq (Qsc (λop=>Q82 op==Q34 op) 256 (by kernel_rfl) h0 h1)
theorem qI{a x y:Bool}:(cond a x y=true)↔((a=true/\x=true)\/(a=false/\y=true)):=by cases a<;>simp
theorem Z6d{i:Q0i}(h0:0<=i.Op)(h1:i.Op<256)(hi:IntKind.wrap .i64 i.Imm=i.Imm):Qe4 i=Q6n i:=by
 rw[Bool.eq_iff_iff]
 simp only[Qe4,Qh0,Tree.m,letv,Q6n,Qek,xW h0 h1,hi]
 rcases zg h0 h1 with h|h|h|h|h|h|h|h|h|h<;>rw[h]<;>
 simp [useOf,Q8t,Qdy,Q7c,Qc7,Qky,Ql2,Tree.m,letv,qI]<;>omega
theorem sx16{x:Int}(h0:0<=x)(h1:x<65536):IntKind.wrap .i32 (Q28 x 16)=IntKind.wrap .i32 (IntKind.wrap .i16 x):=by
 have e:Q28 x 16=IntKind.wrap .u32 (ishr .i32 (IntKind.wrap .i32 (ishl .u32 x 16)) 16):=by kernel_rfl
 have e2: ∀y,ishr .i32 y 16=y/65536:=λy=>by
   show Int.fdiv y 65536=_
   rw[Int.fdiv_eq_ediv_of_nonneg _ (by decide)]
 have e3:ishl .u32 x 16=IntKind.wrap .u32 (x*65536):=rfl
 have e4:IntKind.wrap .i16 x=(x+32768)%65536-32768:=by
   simp [IntKind.wrap,IntKind.bits,IntKind.signed]
   split<;>omega
 rw[e,e2,e3,e4]
 simp only[IntKind.wrap_i32,IntKind.wrap_u32]
 omega
theorem sx8{x:Int}(h0:0<=x)(h1:x<256):Q28 x 8=Q2y x 8:=by
 exact eq_of_beq (Qsc (λx=>Q28 x 8==Q2y x 8) 256 (by kernel_rfl) h0 h1)
theorem yg{w:Int}(hw:U w):Qgj w=Q1t w:=by
 obtain⟨f1,f2,f3,f4,_⟩:=fld w
 obtain⟨w0,w1⟩:=hw
 have s24:ishr .u32 w 24=w/16777216:=by have:=Qpi (a:=w) 24 (by decide);simpa using this
 have s20:U (ishr .u32 w 20):=Qup ⟨w0,w1⟩ _
 have s16:U (ishr .u32 w 16):=Qup ⟨w0,w1⟩ _
 rw[m255 (Qup ⟨w0,w1⟩ _),s24]at f1
 rw[m15 s20]at f2
 rw[m15 s16]at f3
 rw[shr0]at f4
 have g1:w/16777216%256=w/16777216:=by omega
 rw[g1]at f1
 have o0:0<=w/16777216:=by omega
 have o1:w/16777216<256:=by omega
 have eo:IntKind.wrap .i64 (w/16777216)=w/16777216:=w64 (by omega) (by omega)
 have i32: ∀x,IntKind.wrap .i64 (IntKind.wrap .i32 x)=IntKind.wrap .i32 x:=λx=>by rw[IntKind.wrap_i64,IntKind.wrap_i32];omega
 have l0:=m65535 ⟨w0,w1⟩
 have lx:=sx16 (x:=iand .u32 w 65535) (by omega) (by omega)
 simp only[Qgj,Q74,Q1t,Q64,Tree.m,letv,f1,f2,f3,f4,s24,eo,xW o0 o1,m15 s20,m15 s16,lx]
 generalize w/16777216=op at*
 generalize IntKind.wrap .i64 (ishr .u32 w 20%16)=a
 generalize IntKind.wrap .i64 (ishr .u32 w 16%16)=b
 generalize iand .u32 w 65535=l
 rw[Z6d (i:=⟨op,a,b,IntKind.wrap .i64 l,0⟩) o0 o1 rfl,Z6d (i:=⟨op,a,b,0,IntKind.wrap .i32 (IntKind.wrap .i16 l)⟩) o0 o1 (i32 _),Z6d (i:=⟨op,a,b,0,IntKind.wrap .i32 l⟩) o0 o1 (i32 _)]
 rcases zg o0 o1 with h|h|h|h|h|h|h|h|h|h<;>rw[h]<;>rfl
theorem zaf(x v:BitVec 32)(s:Nat)(hs:s<=24):((x&&&~~~(255#32<<<s))|||((v&&&255#32)<<<s)).toNat=2^(s+8)*(x.toNat/2^(s+8))+(2^s*(v.toNat%256)+x.toNat%2^s):=by
  have hx:=x.isLt
  have h1:x.toNat%2^s<2^s:=Nat.mod_lt _ (Nat.two_pow_pos s)
  have h2:2^s*(v.toNat%256)+x.toNat%2^s<2^(s+8):=by
    have:v.toNat%256<256:=Nat.mod_lt _ (by decide)
    have h3:2^s*(v.toNat%256)<=2^s*255:=Nat.mul_le_mul_left _ (by omega)
    have:2^(s+8)=2^s*256:=by rw[Nat.pow_add]
    omega
  rw[Nat.two_pow_add_eq_or_of_lt h2,Nat.two_pow_add_eq_or_of_lt h1]
  apply Nat.eq_of_testBit_eq
  intro i
  rw[BitVec.testBit_toNat]
  simp only[BitVec.getLsbD_or,BitVec.getLsbD_and,BitVec.getLsbD_not,BitVec.getLsbD_shiftLeft,Nat.testBit_or,Nat.testBit_two_pow_mul,Nat.testBit_mod_two_pow,Nat.testBit_div_two_pow,BitVec.getLsbD_ofNat]
  have e255: ∀j,Nat.testBit 255 j=decide (j<8):=λj=>by
    rw[show 255=2^8-1 from rfl,Nat.testBit_two_pow_sub_one]
  have e256: ∀n j,Nat.testBit (n%256) j=(decide (j<8)&&Nat.testBit n j):=λn j=>by
    rw[show 256=2^8 from rfl,Nat.testBit_mod_two_pow]
  rw[e255,e256]
  by_cases hi:i<32
  . by_cases a1:i<s
    . have a2: ¬(s<=i):=by omega
      have a3: ¬(s+8<=i):=by omega
      simp [hi,a1,a2,a3,BitVec.getLsbD]
    . by_cases a4:s+8<=i
      . have a2: ¬(i-s<8):=by omega
        have a5:i-(s+8)+(s+8)=i:=by omega
        have a6:s<=i:=by omega
        simp [hi,a1,a2,a4,a5,a6,BitVec.getLsbD]
      . have a2:(i-s<8):=by omega
        have a6:s<=i:=by omega
        have a7:i-s<32:=by omega
        simp [hi,a1,a2,a4,a6,a7,BitVec.getLsbD]
  . have a0:x.toNat.testBit i=false:=Nat.testBit_lt_two_pow (Nat.lt_of_lt_of_le hx (Nat.pow_le_pow_right (by decide) (by omega)))
    have a1: ¬(i<s):=by omega
    have a2: ¬(i-s<8):=by omega
    have a4:s+8<=i:=by omega
    have a5:i-(s+8)+(s+8)=i:=by omega
    simp [hi,a0,a1,a2,a4,a5]
theorem Z56(b:BitVec 32):BitVec.ofInt 32 (IntKind.wrap .u32 (b.toNat:Int))=b:=by
 have:=b.isLt
 rw[IntKind.wrap_u32]
 apply BitVec.eq_of_toNat_eq
 rw[BitVec.toNat_ofInt];omega
theorem Zkd(x:Int):BitVec.ofInt 32 (IntKind.wrap .u32 x)=BitVec.ofInt 32 x:=by
 apply BitVec.eq_of_toNat_eq
 rw[BitVec.toNat_ofInt,BitVec.toNat_ofInt,IntKind.wrap_u32]
 have:((2^32:Nat):Int)=4294967296:=by decide
 rw[this,Int.emod_emod_of_dvd _ (Int.dvd_refl _)]
theorem Z9n{x:Int}(hx:U x)(s:Nat)(hs:s<=32):BitVec.ofInt 32 (ishl .u32 x s)=BitVec.ofInt 32 x<<<s:=by
 obtain⟨n,rfl⟩: ∃n:Nat,x=n:=⟨x.toNat,by have:=hx.1;omega⟩
 have e:min (Int.toNat (s:Int)) IntKind.u32.bits=s:=by show min (Int.toNat (s:Int)) 32=s;omega
 unfold ishl
 rw[e,Zkd]
 have e2:((n:Int)*2^s)=((n*2^s:Nat):Int):=by simp
 have:=hx.2
 rw[e2,BitVec.ofInt_natCast,BitVec.ofInt_natCast]
 apply BitVec.eq_of_toNat_eq
 rw[BitVec.toNat_shiftLeft,BitVec.toNat_ofNat,BitVec.toNat_ofNat,Nat.shiftLeft_eq,Nat.mod_mul_mod]
def putW(W v:Int)(s:Nat):Int:=ior .u32 (Qft .u32 W (ishl .u32 255 s)) (ishl .u32 (iand .u32 v 255) s)
theorem xaf{W v:Int}(hW:U W)(hv:U v)(s:Nat)(hs:s<=24):putW W v s=2^(s+8)*(W/2^(s+8))+(2^s*(v%256)+W%2^s):=by
 have e:=zaf (BitVec.ofInt 32 W) (BitVec.ofInt 32 v) s hs
 have l:=((BitVec.ofInt 32 W&&&~~~(255#32<<<s))|||((BitVec.ofInt 32 v&&&255#32)<<<s)).isLt
 have h1:BitVec.ofInt 32 (Qft .u32 W (ishl .u32 255 s))=BitVec.ofInt 32 W&&&~~~(255#32<<<s):=by
   show BitVec.ofInt 32 (IntKind.wrap .u32 (BitVec.ofInt 32 W&&&~~~BitVec.ofInt 32 (ishl .u32 255 s)).toNat)=_
   rw[Z56,Z9n ⟨by decide,by decide⟩ s (by omega)]
   rfl
 have h2:BitVec.ofInt 32 (ishl .u32 (iand .u32 v 255) s)=(BitVec.ofInt 32 v&&&255#32)<<<s:=by
   rw[Z9n (Zfk _ _) s (by omega)]
   congr 1
   show BitVec.ofInt 32 (IntKind.wrap .u32 (BitVec.ofInt 32 v&&&BitVec.ofInt 32 255).toNat)=_
   rw[Z56];rfl
 show IntKind.wrap .u32 ((BitVec.ofInt 32 (Qft .u32 W (ishl .u32 255 s))|||BitVec.ofInt 32 (ishl .u32 (iand .u32 v 255) s)).toNat:Int)=_
 rw[h1,h2]
 have lw:IntKind.wrap .u32 ((((BitVec.ofInt 32 W&&&~~~(255#32<<<s))|||((BitVec.ofInt 32 v&&&255#32)<<<s)).toNat:Nat):Int)=(((BitVec.ofInt 32 W&&&~~~(255#32<<<s))|||((BitVec.ofInt 32 v&&&255#32)<<<s)).toNat:Nat):=by rw[IntKind.wrap_u32];omega
 rw[lw,e,Qv7 hW,Qv7 hv]
 obtain⟨n,rfl⟩: ∃n:Nat,W=n:=⟨W.toNat,by have:=hW.1;omega⟩
 obtain⟨k,rfl⟩: ∃n:Nat,v=n:=⟨v.toNat,by have:=hv.1;omega⟩
 simp
def dig(w:Int)(k:Nat):Int:=if k=0 then w%256 else if k=1 then w/256%256 else if k=2 then w/65536%256 else w/16777216%256
def byt(m:List Int)(a:Nat):Int:=dig (m.getD (a/4) 0) (a%4)
theorem vg(w:Int)(k:Nat):0<=dig w k/\dig w k<256:=by
 unfold dig
 split
 . omega
 . split
   . omega
   . split<;>omega
theorem qag{w v:Int}(hw:U w)(hv:U v)(h: ∀k,k<4->dig w k=dig v k):w=v:=by
 have h0:=h 0 (by omega)
 have h1:=h 1 (by omega)
 have h2:=h 2 (by omega)
 have h3:=h 3 (by omega)
 simp [dig]at h0 h1 h2 h3
 obtain⟨a,b⟩:=hw
 obtain⟨c,d⟩:=hv
 omega
theorem Zgv{m n:List Int}(hl:m.length=n.length)(hm: ∀w∈m,U w)(hn: ∀w∈n,U w)(h: ∀a,byt m a=byt n a):m=n:=by
 refine List.ext_getElem hl λi h1 h2=> ?_
 have e1:m[i]=m.getD i 0:=by simp [List.getD,h1]
 have e2:n[i]=n.getD i 0:=by simp [List.getD,h2]
 rw[e1,e2]
 refine qag (Qk6 hm i) (Qk6 hn i) λk hk=> ?_
 have:=h (4*i+k)
 simp only[byt]at this
 rwa [show(4*i+k)/4=i by omega,show(4*i+k)%4=k by omega]at this
theorem Qsp{l:List Int}{i:Nat}(h:i<l.length)(v:Int):(l.set i v).getD i 0=v:=by
 simp [List.getD,h]
theorem Zf7{m:List Int}{i:Nat}(hi:i<m.length)(v:Int)(a:Nat):byt (m.set i v) a=if a/4=i then dig v (a%4) else byt m a:=by
 unfold byt
 split
 . rename_i h;rw[h,Qsp hi]
 . rename_i h;rw[getDset _ _ _ _ (λe=>h e.symm)]
theorem zag{W v:Int}(hW:U W)(hv:U v){j:Nat}(hj:j<4){k:Nat}(hk:k<4):dig (putW W v (8*j)) k=if k=j then v%256 else dig W k:=by
 have h:=xaf hW hv (8*j) (by omega)
 rw[h]
 obtain⟨w0,w1⟩:=hW
 have h0:0<=v%256:=by omega
 have h1:v%256<256:=by omega
 generalize v%256=b at*
 clear h
 have hj:j=0\/j=1\/j=2\/j=3:=by omega
 have hk:k=0\/k=1\/k=2\/k=3:=by omega
 rcases hj with rfl|rfl|rfl|rfl<;>rcases hk with rfl|rfl|rfl|rfl<;>simp [dig]<;>omega
theorem xag{m:List Int}{a v:Int}(ha:U a):Q9z m a 1 v=m.set (a/4).toNat (putW (m.getD (a/4).toNat 0) v (8*(a%4).toNat)):=by
 obtain⟨a0,a1⟩:=ha
 have e1:IntKind.wrap .u32 (Int.tdiv a 4)=a/4:=by rw[IntKind.wrap_u32,Int.tdiv_eq_ediv_of_nonneg a0];omega
 have e2:IntKind.wrap .u32 (8*Int.tmod a 4)=((8*(a%4).toNat:Nat):Int):=by rw[IntKind.wrap_u32,Int.tmod_eq_emod_of_nonneg a0];omega
 have e3:((1:Int)==4)=false:=rfl
 simp only[Q9z,Qcx,Tree.m,e1,e2,e3,cond_false]
 rfl
theorem qh{P:Nat}{m:List Int}(h:Q1 P m){a v:Int}(ha:U a)(hl:a<128*P)(hv:U v):Q1 P (Q9z m a 1 v)/\ ∀b:Nat,byt (Q9z m a 1 v) b=if(b:Int)=a then v%256 else byt m b:=by
 have hlen:=h.len
 have a0:=ha.1
 rw[xag ha]
 have hi:(a/4).toNat<m.length:=by omega
 refine⟨⟨by rw[List.length_set];exact hlen,h.p1,h.p2,Z2w h.u (U_or _ _) _⟩,λb=> ?_⟩
 rw[Zf7 hi]
 by_cases hb:b/4=(a/4).toNat
 . rw[if_pos hb,zag (Qk6 h.u _) hv (by omega) (by omega)]
   by_cases hc:b%4=(a%4).toNat
   . rw[if_pos hc,if_pos (by omega)]
   . rw[if_neg hc,if_neg (by omega),byt,hb]
 . rw[if_neg hb,if_neg (by omega)]
theorem zW{P:Nat}{m:List Int}(h:Q1 P m){frame:Int}(f0:0<=frame)(f1:frame<P)(s:List UInt8):(Q8r m frame s).w (λr=>Q1 P r/\ ∀b:Nat,byt r b=if frame*128<=b/\(b:Int)<frame*128+min s.length 128 then((s.getD (b-frame*128).toNat 0).toNat:Int) else byt m b):=by
 unfold Q8r
 have h3:=h.p2
 refine w_lp (inv:=λz=>0<=z.1/\z.1<=min s.length 128/\Q1 P z.2/\ ∀b:Nat,byt z.2 b=if frame*128<=b/\(b:Int)<frame*128+z.1 then((s.getD (b-frame*128).toNat 0).toNat:Int) else byt m b) (μ:=Qic m frame s) ⟨show(0:Int)<=0 by decide,by show(0:Int)<=_;omega,h,λb=>by rw[if_neg];show¬(_/\_<_+(0:Int));omega⟩ (Nat.lt_succ_self _) (λv0 hv0=> ?_)
 obtain⟨i,mm⟩:=v0
 obtain⟨i0,i1,hm,hy⟩:=hv0
 have i0:0<=i:=i0
 have i1:i<=min s.length 128:=i1
 have hm:Q1 P mm:=hm
 have fin: ∀r:List Int,r=mm->i=min s.length 128->Q1 P r/\ ∀b:Nat,byt r b=if frame*128<=b/\(b:Int)<frame*128+min s.length 128 then((s.getD (b-frame*128).toNat 0).toNat:Int) else byt m b:=λr hr hi=>by
   subst hr;refine⟨hm,λb=> ?_⟩
   rw[hy b];simp only[hi]
 refine w_br (λh1=>w_br (λh2=>w_cn ?_ ?_) (λh2=>fin mm rfl ?_)) (λh1=>fin mm rfl ?_)
 . have:=of_decide_eq_true h1
   simp [Nat.blt];omega
 . have h1:i<s.length:=of_decide_eq_true h1
   have h2:i<128:=of_decide_eq_true h2
   have e:IntKind.wrap IntKind.u32 (IntKind.wrap IntKind.i64 (IntKind.wrap IntKind.i64 (frame*128)+i))=frame*128+i:=by
     rw[IntKind.wrap_u32,IntKind.wrap_i64,IntKind.wrap_i64];omega
   show(Tree.an (Qec mm (IntKind.wrap IntKind.u32 (IntKind.wrap IntKind.i64 (IntKind.wrap IntKind.i64 (frame*128)+i))) 1 _) (Tree.lv _ _)).w _
   rw[e]
   have hu:U (frame*128+i):=⟨by omega,by omega⟩
   have hvU: ∀n:Nat,U (IntKind.wrap .u32 (n:Int)):=λn=>Q0s _
   obtain⟨g1,_⟩:=Tree.pp (put_w hm (size:=1) (addr:=frame*128+i) hu (by rw[hm.len];omega) (hvU (UInt8.toNat (s.getD i.toNat 0))))
   obtain⟨g2,g3⟩:=qh hm hu (by omega) (hvU (UInt8.toNat (s.getD i.toNat 0)))
   refine w_an g1 (w_lv λx0 hx0=> ?_)
   rw[hx0]
   have ew:IntKind.i64.wrap (i+1)=i+1:=by rw[IntKind.wrap_i64];omega
   refine w_nx ?_
   show(0<=IntKind.i64.wrap (i+1)/\IntKind.i64.wrap (i+1)<=min s.length 128/\Q1 P _/\ ∀b:Nat,byt _ b=if frame*128<=b/\(b:Int)<frame*128+IntKind.i64.wrap (i+1) then _ else _)/\(128-IntKind.i64.wrap (i+1)).toNat<(128-i).toNat
   rw[ew]
   refine⟨⟨by omega,by omega,g2,λb=> ?_⟩,by omega⟩
   rw[show Q9z mm (frame*128+i) 1 _=_ from rfl,g3 b]
   by_cases hb:(b:Int)=frame*128+i
   . rw[if_pos hb,if_pos (by omega),IntKind.wrap_u32]
     have:=(s.getD i.toNat 0).toNat_lt
     rw[show(b-frame*128).toNat=i.toNat by omega];omega
   . rw[if_neg hb,hy b]
     show(if frame*128<=(b:Int)/\(b:Int)<frame*128+i then _ else _)=_
     by_cases hc:frame*128<=(b:Int)/\(b:Int)<frame*128+i
     . rw[if_pos hc,if_pos (by omega)]
     . rw[if_neg hc,if_neg (by omega)]
 . have h1:i<s.length:=of_decide_eq_true h1
   have h2: ¬i<128:=of_decide_eq_false h2
   omega
 . have h1: ¬i<s.length:=of_decide_eq_false h1
   omega
theorem xh{x y:Int}(hx:U x)(hy:U y)(k:Nat)(hk:x<2^k)(h:x+y*2^k<4294967296):ior .u32 x (y*2^k)=x+y*2^k:=by
 obtain⟨n,rfl⟩: ∃n:Nat,x=n:=⟨x.toNat,by have:=hx.1;omega⟩
 obtain⟨z,rfl⟩: ∃n:Nat,y=n:=⟨y.toNat,by have:=hy.1;omega⟩
 have e:((z:Int)*2^k)=((z*2^k:Nat):Int):=by simp
 rw[e]at h⊢
 have hn:n<2^k:=by exact_mod_cast hk
 rw[zaE hx ⟨by omega,by omega⟩,Int.toNat_natCast,Int.toNat_natCast,Nat.or_comm,Nat.mul_comm,<-Nat.two_pow_add_eq_or_of_lt hn]
 omega
theorem four{a b c d:Int}(ha:0<=a/\a<256)(hb:0<=b/\b<256)(hc:0<=c/\c<256)(hd:0<=d/\d<256):ior .u32 (ior .u32 (ior .u32 (IntKind.wrap .u32 a) (ishl .u32 (IntKind.wrap .u32 b) 8)) (ishl .u32 (IntKind.wrap .u32 c) 16)) (ishl .u32 (IntKind.wrap .u32 d) 24)=a+b*2^8+c*2^16+d*2^24:=by
 have w: ∀{x:Int},0<=x/\x<256->IntKind.wrap .u32 x=x:=λhx=>by rw[IntKind.wrap_u32];omega
 have s8: ∀{x:Int},0<=x/\x<256->ishl .u32 x 8=x*2^8:=fun{x} hx=>by show IntKind.wrap .u32 (x*2^8)=_;rw[IntKind.wrap_u32];omega
 have s16: ∀{x:Int},0<=x/\x<256->ishl .u32 x 16=x*2^16:=fun{x} hx=>by show IntKind.wrap .u32 (x*2^16)=_;rw[IntKind.wrap_u32];omega
 have s24: ∀{x:Int},0<=x/\x<256->ishl .u32 x 24=x*2^24:=fun{x} hx=>by show IntKind.wrap .u32 (x*2^24)=_;rw[IntKind.wrap_u32];omega
 rw[w ha,w hb,w hc,w hd,s8 hb,s16 hc,s24 hd]
 rw[xh ⟨by omega,by omega⟩ ⟨by omega,by omega⟩ 8 (by omega) (by omega),xh ⟨by omega,by omega⟩ ⟨by omega,by omega⟩ 16 (by omega) (by omega),xh ⟨by omega,by omega⟩ ⟨by omega,by omega⟩ 24 (by omega) (by omega)]
theorem xI{a b c d:Int}(ha:0<=a/\a<256)(hb:0<=b/\b<256)(hc:0<=c/\c<256)(hd:0<=d/\d<256)(k:Nat)(hk:k<4):dig (a+b*2^8+c*2^16+d*2^24) k=if k=0 then a else if k=1 then b else if k=2 then c else d:=by
 have hk:k=0\/k=1\/k=2\/k=3:=by omega
 rcases hk with rfl|rfl|rfl|rfl<;>simp [dig]<;>omega
theorem Z9i{P:Nat}{m:List Int}(h:Q1 P m)(f:Int):Q50 m f=decide (0<=f/\f<P):=by
 have hp:=Q3c h
 simp only[Q50,Q7y,Tree.m,letv,hp]
 by_cases h1:0<=f
 . rw[decide_eq_true h1];simp [h1]
 . rw[decide_eq_false h1];simp [h1]
theorem zI(s:List UInt8)(a b k:Nat)(h:k<b):(List.take b (List.drop a s)).getD k 0=s.getD (a+k) 0:=by
 simp [List.getD_eq_getElem?_getD,List.getElem?_take,h]
theorem u8I(x:UInt8):0<=(x.toNat:Int)/\(x.toNat:Int)<256:=by have:=x.toNat_lt;omega
theorem Qzr{P:Nat}{m:List Int}(h:Q1 P m){f:Int}(f0:0<=f)(f1:f<P){s:List UInt8}(hs:s.length=128):(Q37 m f s).w (λr=>r.2=true/\Q1 P r.1/\ ∀b:Nat,byt r.1 b=if f*128<=b/\(b:Int)<f*128+128 then((s.getD (b-f*128).toNat 0).toNat:Int) else byt m b):=by
  have hcl:Q03 m=m:=rfl
  have h2:=h.p2
  unfold Q37
  refine w_an (Q8e h) (w_lv λx0 hx0=>w_lv λx1 hx1=> ?_)
  rw[hcl]at hx0;subst hx0
  rw[Z9i h,decide_eq_true ⟨f0,f1⟩]at hx1
  subst hx1
  refine w_br (λhb=>by cases hb) λ_=>w_br (λhb=>by simp [hs]at hb) λ_=> ?_
  refine w_lp (inv:=λz:Int×List Int=>0<=z.1/\z.1<=32/\Q1 P z.2/\ ∀b:Nat,byt z.2 b=if f*128<=b/\(b:Int)<f*128+4*z.1 then((s.getD (b-f*128).toNat 0).toNat:Int) else byt x0 b) (μ:=Qa8 x0 f s) ⟨show(0:Int)<=0 by decide,show(0:Int)<=32 by decide,h,λb=>by rw[if_neg];show¬(_/\_<_+4*(0:Int));omega⟩ (Nat.lt_succ_self _) λz ⟨z1,z2,z3,z4⟩=> ?_
  refine w_br (λhb=> ?_) (λhb=>⟨rfl,z3,λb=> ?_⟩)
  . have hb:=of_decide_eq_true hb
    have e1:IntKind.i64.wrap (4*z.1)=4*z.1:=by rw[IntKind.wrap_i64];omega
    have e2:IntKind.i64.wrap (IntKind.i64.wrap (4*z.1)+4)=4*z.1+4:=by rw[IntKind.wrap_i64,IntKind.wrap_i64];omega
    have e3:IntKind.i64.wrap (IntKind.i64.wrap (f*32)+z.1)=f*32+z.1:=by rw[IntKind.wrap_i64,IntKind.wrap_i64];omega
    have hl:=z3.len
    have cut:Int.toNat (IntKind.i64.wrap (IntKind.i64.wrap (4*z.1)+4))-Int.toNat (IntKind.i64.wrap (4*z.1))=4:=by rw[e2,e1];omega
    have hlen:(List.take (Int.toNat (IntKind.i64.wrap (IntKind.i64.wrap (4*z.1)+4))-Int.toNat (IntKind.i64.wrap (4*z.1))) (List.drop (Int.toNat (IntKind.i64.wrap (4*z.1))) s)).length=4:=by
      rw[cut,e1,List.length_take,List.length_drop];omega
    refine w_cn (decide_eq_true (by rw[e2,e1];omega)) ?_
    refine w_cn (decide_eq_true (by rw[hlen];decide)) (w_cn (decide_eq_true (by rw[hlen];decide)) (w_cn (decide_eq_true (by rw[hlen];decide)) (w_cn (decide_eq_true (by rw[hlen];decide)) (w_cn (by rw[e3];simp [Nat.blt];omega) (w_nx ?_)))))
    have ew:IntKind.i64.wrap (z.1+1)=z.1+1:=by rw[IntKind.wrap_i64];omega
    rw[cut]
    refine⟨⟨by show 0<=IntKind.i64.wrap (z.1+1);rw[ew];omega,by show IntKind.i64.wrap (z.1+1)<=32;rw[ew];omega,?_,?_⟩,by show(32-IntKind.i64.wrap (z.1+1)).toNat<(32-z.1).toNat;rw[ew];omega⟩
    . show Q1 P (List.set _ _ _)
      exact⟨by rw[List.length_set];exact hl,z3.p1,z3.p2,Z2w z3.u (U_or _ _) _⟩
    . intro b
      show byt (List.set z.2 (Int.toNat (IntKind.i64.wrap (IntKind.i64.wrap (f*32)+z.1))) _) b=if f*128<=(b:Int)/\(b:Int)<f*128+4*IntKind.i64.wrap (z.1+1) then _ else _
      rw[e3,ew,four (u8I _) (u8I _) (u8I _) (u8I _),Zf7 (by omega)]
      have g: ∀k:Nat,k<4->(List.take 4 (List.drop (Int.toNat (IntKind.i64.wrap (4*z.1))) s)).getD k 0=s.getD ((4*z.1).toNat+k) 0:=λk hk=>by rw[e1];exact zI _ _ _ _ hk
      by_cases hc:b/4=(f*32+z.1).toNat
      . have hin:f*128<=(b:Int)/\(b:Int)<f*128+4*(z.1+1):=by omega
        rw[if_pos hc,xI (u8I _) (u8I _) (u8I _) (u8I _) _ (by omega),if_pos hin]
        have hb4:b%4=0\/b%4=1\/b%4=2\/b%4=3:=by omega
        have gi:(b-f*128).toNat=(4*z.1).toNat+b%4:=by omega
        rw[gi]
        rcases hb4 with h4|h4|h4|h4<;>rw[h4]
        . rw[if_pos rfl,<-g 0 (by omega)];rfl
        . rw[if_neg (by decide),if_pos rfl,<-g 1 (by omega)];rfl
        . rw[if_neg (by decide),if_neg (by decide),if_pos rfl,<-g 2 (by omega)];rfl
        . rw[if_neg (by decide),if_neg (by decide),if_neg (by decide),<-g 3 (by omega)];rfl
      . rw[if_neg hc,z4 b]
        by_cases hd:f*128<=(b:Int)/\(b:Int)<f*128+4*z.1
        . rw[if_pos hd,if_pos (by omega)]
        . rw[if_neg hd,if_neg (by omega)]
  . have hb:=of_decide_eq_false hb
    show byt z.2 b=_
    rw[z4 b,show z.1=32 by omega]
    rfl
theorem Z7o{α:Type}(l l2:List α)(k:Nat)(z:α):(l++l2).getD k z=if k<l.length then l.getD k z else l2.getD (k-l.length) z:=by
 simp only[List.getD_eq_getElem?_getD,List.getElem?_append]
 split<;>rfl
theorem u8w{x:Int}:IntKind.wrap .u8 x=x%256:=IntKind.wrap_u8 x
theorem shr_c(W:Int):ishr .u32 W 8=W/256/\ishr .u32 W 16=W/65536/\ishr .u32 W 24=W/16777216:=by
 refine⟨?_,?_,?_⟩
 . show Int.fdiv W 256=_;rw[Int.fdiv_eq_ediv_of_nonneg _ (by decide)]
 . show Int.fdiv W 65536=_;rw[Int.fdiv_eq_ediv_of_nonneg _ (by decide)]
 . show Int.fdiv W 16777216=_;rw[Int.fdiv_eq_ediv_of_nonneg _ (by decide)]
theorem b4d(W:Int){k:Nat}(hk:k<4):[IntKind.wrap .u8 W,IntKind.wrap .u8 (ishr .u32 W 8),IntKind.wrap .u8 (ishr .u32 W 16),IntKind.wrap .u8 (ishr .u32 W 24)].getD k 0=dig W k:=by
 obtain⟨a,b,c⟩:=shr_c W
 have hk:k=0\/k=1\/k=2\/k=3:=by omega
 rcases hk with rfl|rfl|rfl|rfl<;>simp [dig,a,b,c,u8w]
theorem Qnd(l:List Int)(k:Nat)(h:0<=l.getD k 0/\l.getD k 0<256)(hk:k<l.length):(((bytesOf l).getD k 0).toNat:Int)=l.getD k 0:=by
 have e:(bytesOf l).getD k 0=UInt8.ofNat (l.getD k 0).toNat:=by
   simp [bytesOf,List.getD_eq_getElem?_getD,hk]
 rw[e,UInt8.toNat_ofNat']
 omega
theorem Zfj(l:List UInt8)(k:Nat)(hk:k<l.length):(Q91 l).getD k 0=((l.getD k 0).toNat:Int):=by
 simp [Q91,List.getD_eq_getElem?_getD,hk]
theorem xaE(w:List Int)(h:w.length<=32):(Q4u w).w (λr=>r.length=4*w.length/\ ∀k:Nat,k<4*w.length->((r.getD k 0).toNat:Int)=dig (w.getD (k/4) 0) (k%4)):=by
 have e0:IntKind.i64.wrap (4*(w.length:Int))=4*w.length:=by rw[IntKind.wrap_i64];omega
 unfold Q4u
 refine w_cn (by rw[e0];simp [Nat.blt,D.plain];omega) ?_
 refine w_lp (inv:=λz:Int×List Int=>0<=z.1/\z.1<=w.length/\(z.2.length:Int)=4*z.1/\ ∀k:Nat,(k:Int)<4*z.1->z.2.getD k 0=dig (w.getD (k/4) 0) (k%4)) (μ:=Q6t w) ⟨by decide,by show(0:Int)<=w.length;omega,rfl,λk hk=>by have hk:(k:Int)<4*0:=hk;omega⟩ (Nat.lt_succ_self _) λz ⟨z1,z2,z3,z4⟩=> ?_
 refine w_br (λhb=> ?_) (λhb=> ?_)
 . have hb:=of_decide_eq_true hb
   have ew:IntKind.i64.wrap (z.1+1)=z.1+1:=by rw[IntKind.wrap_i64];omega
   refine w_cn (by simp [Nat.blt];omega) (w_cn (decide_eq_true (by omega)) (w_nx ?_))
   show(_/\_/\_/\ ∀k:Nat,(k:Int)<4*IntKind.i64.wrap (z.1+1)->(z.2++_).getD k 0=_)/\(_:Nat)<_
   refine⟨⟨by rw[ew];omega,by rw[ew];omega,by rw[ew,List.length_append];simp only[List.length_cons,List.length_nil];omega,λk hk=> ?_⟩,by show(w.length-IntKind.i64.wrap (z.1+1)).toNat<(w.length-z.1).toNat;rw[ew];omega⟩
   rw[ew]at hk
   rw[Z7o]
   split
   . exact z4 k (by omega)
   . rename_i hn
     rw[b4d _ (by omega),show z.1.toNat=k/4 by omega,show k-z.2.length=k%4 by omega]
 . have hb:=of_decide_eq_false hb
   show(bytesOf z.2).length=_/\ ∀k:Nat,_->(((bytesOf z.2).getD k 0).toNat:Int)=_
   refine⟨by rw[Qhi];omega,λk hk=> ?_⟩
   have e:=z4 k (by omega)
   have:=vg (w.getD (k/4) 0) (k%4)
   rw[Qnd _ _ (by rw[e];exact this) (by omega),e]
def isPg(m:List Int)(f:Int)(r:List UInt8):Prop:=r.length=128/\ ∀k:Nat,k<128->((r.getD k 0).toNat:Int)=byt m ((f*128).toNat+k)
theorem qaF{m:List Int}{f:Int}{r s:List UInt8}(a:isPg m f r)(b:isPg m f s):r=s:=by
 obtain⟨a1,a2⟩:=a
 obtain⟨b1,b2⟩:=b
 refine List.ext_getElem (by omega) λi h1 h2=> ?_
 have e:=(a2 i (by omega)).trans (b2 i (by omega)).symm
 have e1:r[i]=r.getD i 0:=by simp [List.getD,h1]
 have e2:s[i]=s.getD i 0:=by simp [List.getD,h2]
 rw[e1,e2]
 exact UInt8.toNat_inj.1 (by omega)
theorem zh{P:Nat}{m:List Int}(h:Q1 P m){f:Int}(f0:0<=f)(f1:f<P):(Q65 m f).w (λr=>isPg m f r.1/\r.2=true):=by
 have hl:=h.len
 have h2:=h.p2
 unfold Q65
 refine w_lv λx0 hx0=> ?_
 rw[Z9i h,decide_eq_true ⟨f0,f1⟩]at hx0
 subst hx0
 refine w_br (λhb=>by cases hb) (λhb=> ?_)
 have e1:IntKind.i64.wrap (f*32)=f*32:=by rw[IntKind.wrap_i64];omega
 have e2:IntKind.i64.wrap (IntKind.i64.wrap (f*32)+32)=f*32+32:=by rw[IntKind.wrap_i64,IntKind.wrap_i64];omega
 have cut:Int.toNat (IntKind.i64.wrap (IntKind.i64.wrap (f*32)+32))-Int.toNat (IntKind.i64.wrap (f*32))=32:=by rw[e2,e1];omega
 have hlen:(List.take 32 (List.drop (Int.toNat (IntKind.i64.wrap (f*32))) m)).length=32:=by
   rw[e1,List.length_take,List.length_drop];omega
 refine w_cn (by rw[e2,e1];simp [Nat.blt];omega) ?_
 rw[cut]
 refine w_an (by show List.length _<=1000000000000;rw[hlen];decide) (w_lv λx1 h1=> ?_)
 have t:=(Tree.pp (xaE _ (Nat.le_of_eq hlen))).2
 rw[hlen,show(Q4u (List.take 32 (List.drop (Int.toNat (IntKind.i64.wrap (f*32))) m))).m=x1 from h1.symm]at t
 refine⟨⟨t.1,λk hk=> ?_⟩,rfl⟩
 show((x1.getD k 0).toNat:Int)=_
 rw[t.2 k hk,byt,e1]
 have g:(List.take 32 (List.drop (Int.toNat (f*32)) m)).getD (k/4) 0=m.getD ((f*32).toNat+k/4) 0:=by
   simp [List.getD_eq_getElem?_getD,List.getElem?_take,show k/4<32 by omega]
 rw[g,show((f*128).toNat+k)/4=(f*32).toNat+k/4 by omega,show((f*128).toNat+k)%4=k%4 by omega]
theorem zaF(x:Int):Z8n x 4=bytesOf [IntKind.wrap .u8 (ishr .u32 x 0),IntKind.wrap .u8 (ishr .u32 x 8),IntKind.wrap .u8 (ishr .u32 x 16),IntKind.wrap .u8 (ishr .u32 x 24)]:=by kernel_rfl
theorem qah{P:Nat}{m:List Int}(hm:Q1 P m){frame:Int}(f0:0<=frame)(f1:frame<P):(Q8u m frame).w (λr=>isPg m frame r.1/\r.2=true):=by
 have hp:=Qdt hm
 have hl:=hm.len
 have h2:=hm.p2
 unfold Q8u
 refine w_br (λh=>by have:=of_decide_eq_true h;omega) (λh=>w_lv λx0 hx=>w_br (λh1=>by have:=of_decide_eq_true h1;rw[hx,hp]at this;omega) (λh1=> ?_))
 refine w_lp (inv:=λz:Int×List Int=>0<=z.1/\z.1<=32/\(z.2.length:Int)=4*z.1/\ ∀k:Nat,(k:Int)<4*z.1->z.2.getD k 0=byt m ((frame*128).toNat+k)) (μ:=Qhu m frame) ⟨by decide,by decide,rfl,λk hk=>by have hk:(k:Int)<4*0:=hk;omega⟩ (Nat.lt_succ_self _) (λz hz=> ?_)
 obtain⟨z1,z2,z3,z4⟩:=hz
 refine w_br (λhb=> ?_) (λhb=> ?_)
 . have hb:=of_decide_eq_true hb
   have e:IntKind.wrap IntKind.i64 (IntKind.wrap IntKind.i64 (frame*32)+z.1)=frame*32+z.1:=by rw[IntKind.wrap_i64,IntKind.wrap_i64];omega
   refine w_cn (by rw[e];simp [Nat.blt];omega) (w_an (show(4:Int)<=1000000000000 by decide) (w_lv λx1 h4=> ?_))
   rw[zaF,shr0,e]at h4
   have l4:x1.length=4:=by rw[h4];rfl
   refine w_cn (decide_eq_true (by rw[Qo3,l4];omega)) (w_nx ?_)
   show(0<=IntKind.i64.wrap (z.1+1)/\IntKind.i64.wrap (z.1+1)<=32/\((z.2++Q91 x1).length:Int)=4*IntKind.i64.wrap (z.1+1)/\ ∀k:Nat,(k:Int)<4*IntKind.i64.wrap (z.1+1)->(z.2++Q91 x1).getD k 0=_)/\(32-IntKind.i64.wrap (z.1+1)).toNat<(32-z.1).toNat
   have ew:IntKind.i64.wrap (z.1+1)=z.1+1:=by rw[IntKind.wrap_i64];omega
   rw[ew]
   refine⟨⟨by omega,by omega,by rw[List.length_append,Qo3,l4];omega,λk hk=> ?_⟩,by omega⟩
   rw[Z7o]
   split
   . exact z4 k (by omega)
   . rename_i hn
     have hk4:k-z.2.length<4:=by omega
     rw[Zfj _ _ (by omega),h4]
     have d:=b4d (m.getD (frame*32+z.1).toNat 0) hk4
     rw[Qnd _ _ (by rw[d];exact vg _ _) (by simpa using hk4),d,byt]
     rw[show((frame*128).toNat+k)/4=(frame*32+z.1).toNat by omega,show((frame*128).toNat+k)%4=k-z.2.length by omega]
 . have hb:=of_decide_eq_false hb
   refine⟨⟨?_,λk hk=> ?_⟩,rfl⟩
   . show(bytesOf z.2).length=128
     rw[Qhi];omega
   . show(((bytesOf z.2).getD k 0).toNat:Int)=_
     have e:=z4 k (by omega)
     rw[Qnd _ _ (by rw[e];exact vg _ _) (by omega),e]
theorem Zc0{P:Nat}{m:List Int}(h:Q1 P m)(f:Int):Q56 m f=Qhv m f:=by
 by_cases hf:0<=f/\f<P
 . have a:=(Tree.pp (zh h hf.1 hf.2)).2
   have b:=(Tree.pp (qah h hf.1 hf.2)).2
   exact Prod.ext (qaF a.1 b.1) (a.2.trans b.2.symm)
 . have hp:=Qdt h
   have e1:Q56 m f=([],false):=by
     simp only[Q56,Q65,Tree.m,letv,Z9i h,decide_eq_false hf];rfl
   have e2:Qhv m f=([],false):=by
     simp only[Qhv,Q8u,Tree.m,letv,hp]
     by_cases h0:f<0
     . rw[decide_eq_true h0];rfl
     . rw[decide_eq_false h0,decide_eq_true (show f>=P by omega)];rfl
   rw[e1,e2]
section
variable {P:Nat} {m:List Int} (h:Q1 P m)
include h
theorem Ze5{f:Int}(f0:0<=f)(f1:f<P){s:List UInt8}(hs:s.length=128):Q2k m f s=(Qjx m f s,true):=by
 have a:=(Tree.pp (Qzr h f0 f1 hs)).2
 have b:=(Tree.pp (zW h f0 f1 s)).2
 refine Prod.ext (Zgv (a.2.1.len.trans b.1.len.symm) a.2.1.u b.1.u λk=> ?_) a.1
 have e:((min s.length 128:Nat):Int)=128:=by rw[hs];rfl
 have b2:=b.2 k
 have a2:=a.2.2 k
 rw[e]at b2
 exact a2.trans b2.symm
theorem Zc4{f:Int}(f0:0<=f)(f1:f<P){s r:List UInt8}(hs:s.length<=128)(hr:isPg m f r):Q2k m f (s++r.drop s.length)=(Qjx m f s,true):=by
  have hl:(s++r.drop s.length).length=128:=by have:=hr.1;simp;omega
  have a:=(Tree.pp (Qzr h f0 f1 hl)).2
  have b:=(Tree.pp (zW h f0 f1 s)).2
  refine Prod.ext (Zgv (a.2.1.len.trans b.1.len.symm) a.2.1.u b.1.u λk=> ?_) a.1
  have b2:=b.2 k
  have a2:=a.2.2 k
  refine a2.trans (Eq.trans ?_ b2.symm)
  by_cases hc:f*128<=(k:Int)/\(k:Int)<f*128+128
  . rw [if_pos hc,Z7o]
    by_cases hd:(k-f*128).toNat<s.length
    . rw[if_pos hd,if_pos (by omega)]
    . rw[if_neg hd,if_neg (by omega)]
      have e:(r.drop s.length).getD ((k-f*128).toNat-s.length) 0=r.getD (k-f*128).toNat 0:=by
        simp [List.getD_eq_getElem?_getD,show s.length+((k-f*128).toNat-s.length)=(k-f*128).toNat by omega]
      rw[e,hr.2 _ (by omega),show(f*128).toNat+(k-f*128).toNat=k by omega]
  . rw[if_neg hc,if_neg (by omega)]
theorem Qgh{a:Int}(ha:U a){size:Int}(hs:size=1\/size=4):Q1x m a size=decide (a%size=0/\a<128*P):=by
 have hq:=Qdt h
 have h2:=h.p2
 have a0:=ha.1
 have e:IntKind.wrap IntKind.u32 size=size:=by rcases hs with rfl|rfl<;>decide
 have e0:decide (IntKind.wrap IntKind.u32 size≠0)=true:=by rcases hs with rfl|rfl<;>decide
 have t:Int.tmod a (IntKind.wrap IntKind.u32 size)=a%size:=by rw[e,Int.tmod_eq_emod_of_nonneg a0]
 have l: ∀x,x=Q3p m->a%size=0->decide (a<IntKind.wrap IntKind.u32 (IntKind.wrap IntKind.i64 (128*x)))=decide (a%size=0/\a<128*P):=λx hx hz=>by
   rw[hx,hq,IntKind.wrap_u32,IntKind.wrap_i64]
   exact decide_eq_decide.2 ⟨λh=>⟨hz,by omega⟩,λh=>by omega⟩
 refine Tree.post (Q7e m a size) (W:=λb=>b=decide (a%size=0/\a<128*P)) ?_
 unfold Q7e
 refine w_br (λh1=>w_br (λh4=> ?_) (λ_=> ?_)) (λ_=> ?_)
 . have h1: ¬size=1:=by simpa using h1
   have h4: ¬size=4:=by simpa using h4
   omega
 all_goals
   refine w_cn e0 (w_br (λhb=>w_lv λx hx=>l x hx ?_) (λhb=> ?_))
   . rw[t]at hb;exact eq_of_beq hb
   . rw[t]at hb
     exact(decide_eq_false (λh=>by rw[h.1]at hb;cases hb)).symm
theorem Z0l{a:Int}(ha:U a){size:Int}(hs:size=1\/size=4):Qfo m a size=Q1x m a size:=by
 rw[Qgh h ha hs]
 have hq:=Qyn h
 have h2:=h.p2
 have a0:=ha.1
 have a1:=ha.2
 have e:IntKind.wrap IntKind.u32 size=size:=by rcases hs with rfl|rfl<;>decide
 have e0:decide (IntKind.wrap IntKind.u32 size≠0)=true:=by rcases hs with rfl|rfl<;>decide
 have t:Int.tmod a (IntKind.wrap IntKind.u32 size)=a%size:=by rw[e,Int.tmod_eq_emod_of_nonneg a0]
 have l: ∀x,x=Q0v m->a%size=0->decide (IntKind.wrap IntKind.u64 (IntKind.wrap IntKind.u64 a+IntKind.wrap IntKind.u64 size)<=IntKind.wrap IntKind.u64 (IntKind.wrap IntKind.u64 x*128))=decide (a%size=0/\a<128*P):=λx hx hz=>by
   rw[hx,hq]
   simp only[IntKind.wrap_u64]
   refine decide_eq_decide.2 ⟨λh=>⟨hz,?_⟩,λh=> ?_⟩<;>rcases hs with rfl|rfl<;>omega
 refine Tree.post (Q32 m a size) (W:=λb=>b=decide (a%size=0/\a<128*P)) ?_
 unfold Q32
 refine w_br (λh1=>w_br (λh4=> ?_) (λ_=> ?_)) (λ_=> ?_)
 . have h1: ¬size=1:=by simpa using h1
   have h4: ¬size=4:=by simpa using h4
   omega
 all_goals
   refine w_cn e0 (w_br (λhb=> ?_) (λhb=>w_lv λx hx=>l x hx ?_))
   . rw[t]at hb
     exact(decide_eq_false (λh=>by rw[h.1]at hb;cases hb)).symm
   . rw[t]at hb;simpa using hb
end
theorem fldj(w:Int):Q2p w 0 8=iand .u32 (ishr .u32 w 0) 255/\Q2p w 8 8=iand .u32 (ishr .u32 w 8) 255/\Q2p w 16 8=iand .u32 (ishr .u32 w 16) 255/\Q2p w 24 8=iand .u32 (ishr .u32 w 24) 255:=
 ⟨by kernel_rfl,by kernel_rfl,by kernel_rfl,by kernel_rfl⟩
theorem setj(w v:Int):Q7k w 0 8 v=putW w v 0/\Q7k w 8 8 v=putW w v 8/\Q7k w 16 8 v=putW w v 16/\Q7k w 24 8 v=putW w v 24:=
 ⟨by kernel_rfl,by kernel_rfl,by kernel_rfl,by kernel_rfl⟩
theorem yh{a:Int}(ha:U a):IntKind.wrap .i64 (IntKind.wrap .i64 (Int.tmod a 4)*8)=8*(a%4)/\IntKind.wrap .u32 (8*Int.tmod a 4)=8*(a%4):=by
 obtain⟨a0,a1⟩:=ha
 rw[Int.tmod_eq_emod_of_nonneg a0]
 exact⟨by rw[IntKind.wrap_i64,IntKind.wrap_i64];omega,by rw[IntKind.wrap_u32];omega⟩
section
variable {P:Nat} {m:List Int} (h:Q1 P m)
include h
theorem Qnx{a:Int}(ha:U a){size:Int}(hs:size=1\/size=4):Q4i m a size=Q16 m a size:=by
 have e:=Z0l h ha hs
 obtain⟨s1,s2⟩:=yh ha
 have f:Q2p (m.getD (Int.toNat (IntKind.wrap .u32 (Int.tdiv a 4))) 0) (8*(a%4)) 8=iand .u32 (ishr .u32 (m.getD (Int.toNat (IntKind.wrap .u32 (Int.tdiv a 4))) 0) (8*(a%4))) 255:=by
   obtain⟨f0,f1,f2,f3⟩:=fldj (m.getD (Int.toNat (IntKind.wrap .u32 (Int.tdiv a 4))) 0)
   have:a%4=0\/a%4=1\/a%4=2\/a%4=3:=by omega
   rcases this with h|h|h|h<;>rw[h]
   . exact f0
   . exact f1
   . exact f2
   . exact f3
 simp only[Q4i,Q6,Q16,Q3n,Tree.m,letv,e,s1,s2,f]
omit h in
theorem Z81(a:Int)(size:Int):(Q16 m a size).2=Q1x m a size:=by
 simp only[Q16,Q3n,Tree.m,letv]
 cases Q1x m a size
 . rfl
 . cases size==1<;>rfl
theorem Z5e{a:Int}(ha:U a){size:Int}(hs:size=1\/size=4)(v:Int):Q92 m a size v=bif Q1x m a size then(Q9z m a size v,true) else(m,false):=by
 have hcl:Q03 m=m:=rfl
 have e:=Z0l h ha hs
 obtain⟨s1,s2⟩:=yh ha
 have f: ∀w,Q7k w (8*(a%4)) 8 v=ior .u32 (Qft .u32 w (ishl .u32 255 (8*(a%4)))) (ishl .u32 (iand .u32 v 255) (8*(a%4))):=λw=>by
   obtain⟨f0,f1,f2,f3⟩:=setj w v
   have:a%4=0\/a%4=1\/a%4=2\/a%4=3:=by omega
   rcases this with h|h|h|h<;>rw[h]
   . exact f0
   . exact f1
   . exact f2
   . exact f3
 simp only[Q92,Q89,Q9z,Qcx,Tree.m,letv,hcl,e,s1,s2,f]
 rcases hs with rfl|rfl<;>cases Q1x m a _<;>rfl
end
section
variable {P:Nat} {m:List Int} (h:Q1 P m)
include h
theorem vh{root va:Int}(hr:U root)(hv:U va){access:Int}(ha:access=1\/access=2\/access=3):Qi m root va access=Q6b m root va access:=by
 have hp:=Qdt h
 have h2:=h.p2
 have hlen:=h.len
 obtain⟨r1,r2⟩:=hr
 obtain⟨v1,v2⟩:=hv
 have hpg: ∀{f:Int},U f->Q9y m f=decide (f<P):=λhf=>zS h hf
 have eP:IntKind.wrap .u32 (P:Int)=P:=by rw[IntKind.wrap_u32];omega
 have kn:Qd access=true:=by rcases ha with rfl|rfl|rfl<;>rfl
 have ca:Qjb access=(Q1u access,true):=by rcases ha with rfl|rfl|rfl<;>rfl
 simp only[Qi,Q9t,Q6b,Q9a,Tree.m,letv,hp,eP,kn,ca,hpg ⟨r1,r2⟩]
 by_cases c1:va>=4096
 . rw[decide_eq_true c1];rfl
 by_cases c2:root<P
 . have eE:IntKind.wrap IntKind.u32 (IntKind.wrap IntKind.u32 (root*128)+IntKind.wrap IntKind.u32 (4*IntKind.wrap IntKind.u32 (Int.tdiv va 128)))=root*128+4*(va/128):=by
     rw[Int.tdiv_eq_ediv_of_nonneg v1,IntKind.wrap_u32,IntKind.wrap_u32,IntKind.wrap_u32,IntKind.wrap_u32];omega
   have hE:U (root*128+4*(va/128)):=⟨by omega,by omega⟩
   have wi:Q1x m (root*128+4*(va/128)) 4=true:=by
     rw[Qgh h hE (.inr rfl)];exact decide_eq_true ⟨by omega,by omega⟩
   rw[decide_eq_false c1,decide_eq_true c2,decide_eq_false (show¬root>=P by omega),eE,Qnx h hE (.inr rfl),Z81,wi]
   have ld:(Q16 m (root*128+4*(va/128)) 4).1=m.getD (Int.toNat (IntKind.wrap .u32 (Int.tdiv (root*128+4*(va/128)) 4))) 0:=by
     simp only[Q16,Q3n,Tree.m,letv,wi];rfl
   rw[ld]
   generalize m.getD (Int.toNat (IntKind.wrap .u32 (Int.tdiv (root*128+4*(va/128)) 4))) 0=w
   have fo:Qe w=iand .u32 (ishr .u32 w 8) 255:=(fld w).2.2.2.2
   rw[fo,hpg (Zfk _ _)]
   have hge:decide (iand .u32 (ishr .u32 w 8) 255>=(P:Int))=!decide (iand .u32 (ishr .u32 w 8) 255<(P:Int)):=by
     by_cases hq:iand .u32 (ishr .u32 w 8) 255<(P:Int)
     . rw[decide_eq_true hq,decide_eq_false (by omega)];rfl
     . rw[decide_eq_false hq,decide_eq_true (by omega)];rfl
   rw[hge]
   generalize decide (iand .u32 (ishr .u32 w 8) 255<(P:Int))=d
   rcases ha with rfl|rfl|rfl
   . show _=(bif iand .u32 w 1==0 then _ else bif iand .u32 w 4==0 then _ else bif !d then _ else _)
     have:Qad w 1=(bif iand .u32 w 1==0 then false else !(iand .u32 w 4==0)):=rfl
     rw[this]
     cases iand .u32 w 1==0<;>cases iand .u32 w 4==0<;>cases d<;>rfl
   . show _=(bif iand .u32 w 1==0 then _ else bif !d then _ else _)
     have:Qad w 2=(bif iand .u32 w 1==0 then false else true):=rfl
     rw[this]
     cases iand .u32 w 1==0<;>cases d<;>rfl
   . show _=(bif iand .u32 w 1==0 then _ else bif iand .u32 w 2==0 then _ else bif !d then _ else _)
     have:Qad w 3=(bif iand .u32 w 1==0 then false else !(iand .u32 w 2==0)):=rfl
     rw[this]
     cases iand .u32 w 1==0<;>cases iand .u32 w 2==0<;>cases d<;>rfl
 . rw[decide_eq_false c1,decide_eq_false c2,decide_eq_true (show root>=P by omega)];rfl
theorem Zjm{a:Int}(ha:U a)(access:Int):Qbg m a access=Qmn m a access:=by
 have hcl:Q03 m=m:=rfl
 have hl:=h.len
 have a0:=ha.1
 simp only[Qbg,Q81,Qmn,Qdi,Tree.m,letv,Qnx h ha (.inr rfl),Z81,Z5e h ha (.inr rfl),hcl]
 cases hw:Q1x m a 4
 . rfl
 . rw[Qgh h ha (.inr rfl)]at hw
   have hw:=of_decide_eq_true hw
   have wi:Q1x m a 4=true:=by rw[Qgh h ha (.inr rfl)];exact decide_eq_true hw
   have ld:(Q16 m a 4).1=m.getD (Int.toNat (IntKind.wrap .u32 (Int.tdiv a 4))) 0:=by
     simp only[Q16,Q3n,Tree.m,letv,wi];rfl
   have pu: ∀v,Q9z m a 4 v=m.set (Int.toNat (IntKind.wrap .u32 (Int.tdiv a 4))) v:=λv=>rfl
   rw[ld,pu,pu]
   have hi:Int.toNat (IntKind.wrap .u32 (Int.tdiv a 4))<m.length:=by
     rw[Int.tdiv_eq_ediv_of_nonneg a0,IntKind.wrap_u32];omega
   generalize Int.toNat (IntKind.wrap .u32 (Int.tdiv a 4))=i at*
   rw[Qsp hi,List.set_set]
   rfl
end
theorem Qmw{c:Q04}(h0:0<=c.B6.a0)(h:c.B6.a0<=31)(k b:Int):Q48 c k b=Q2m c k b:=by
 have e:=eq_of_beq (Qsc (λs=>Qft .u32 (ior .u32 (Q8j (Q8j s 1 8) 2 16) 1) 2==ior .u32 (Qft .u32 (ior .u32 (ior .u32 (Qft .u32 s 24) (IntKind.wrap .u32 (8*Qan (iand .u32 s 1 !=0)))) (IntKind.wrap .u32 (16*Qan (iand .u32 s 2 !=0)))) 2) 1) 32 (by kernel_rfl) h0 (by omega))
 simp only[Q48,Qk3,Q2m,Qhp,Tree.m,letv,e]
theorem Zf1{c:Q04}(h0:0<=c.B6.a0)(h:c.B6.a0<=31):Qd8 c=Qi3 c:=by
 have e:=eq_of_beq (Qsc (λs=>Q8j (Q8j s 8 1) 16 2==ior .u32 (ior .u32 (Qft .u32 s 3) (IntKind.wrap .u32 (1*Qan (iand .u32 s 8 !=0)))) (IntKind.wrap .u32 (2*Qan (iand .u32 s 16 !=0)))) 32 (by kernel_rfl) h0 (by omega))
 simp only[Qd8,Qe3,Qi3,Qc4,Tree.m,letv,e]
theorem Z5h{c:Q04}(h0:0<=c.B6.a0)(h:c.B6.a0<=31):Qkc c=(!Q9m c&&(iand .u32 c.B6.a0 4 !=0)):=
 eq_of_beq (Qsc (λs=>(iand .u32 s 5==4)==(!(iand .u32 s 1 !=0)&&(iand .u32 s 4 !=0))) 32 (by kernel_rfl) h0 (by omega))
theorem Qya(c:Q04){r:Int}(hr:0<=r/\r<16)(v:Int):Qa7 c r v=Q1p c r v:=by
 simp only[Qa7,Qc0,Q1p,Qcu,Tree.m]
 by_cases h:r=0
 . subst h;rfl
 . rw[decide_eq_true (show r>0 by omega),decide_eq_true hr.2,show(r !=0)=true by simpa using h];rfl
theorem yI{a b:Int}(ha:U a)(hb:U b):Qb2 a b=Qas a b:=by
  obtain⟨a0,a1⟩:=ha
  obtain⟨b0,b1⟩:=hb
  have i: ∀x,IntKind.wrap .i64 (IntKind.wrap .i32 x)=IntKind.wrap .i32 x:=λx=>by rw[IntKind.wrap_i64,IntKind.wrap_i32];omega
  have r32: ∀x,-2147483648<=IntKind.wrap .i32 x/\IntKind.wrap .i32 x<2147483648:=λx=>by rw[IntKind.wrap_i32];omega
  have q32: ∀x y:Int,-2147483648<=x/\x<2147483648-> -2147483648<=Int.tdiv x y/\Int.tdiv x y<=2147483648:=λx y hx=>by
    have h1:(Int.tdiv x y).natAbs<=x.natAbs:=by rw[Int.natAbs_tdiv];exact Nat.div_le_self _ _
    omega
  simp only[Qb2,Q9x,Qas,Q9o,Tree.m,i]
  cases hb:b==0
  . have w: ∀z,IntKind.wrap .u32 (IntKind.wrap .i32 z)=IntKind.wrap .u32 z:=λz=>by rw[IntKind.wrap_i32,IntKind.wrap_u32,IntKind.wrap_u32];omega
    have w2:IntKind.wrap .i64 (Int.tdiv (IntKind.wrap .i32 a) (IntKind.wrap .i32 b))=Int.tdiv (IntKind.wrap .i32 a) (IntKind.wrap .i32 b):=by
      have:=q32 _ (IntKind.wrap .i32 b) (r32 a)
      rw[IntKind.wrap_i64];omega
    rw[w,w2]
    cases h1:a==2147483648
    . rfl
    . cases h2:b==4294967295
      . rfl
      . have h1:=eq_of_beq h1
        have h2:=eq_of_beq h2
        subst h1;subst h2
        rfl
  . rfl
theorem vI{op a b:Int}(h0:1<=op)(h1:op<=23)(ha:U a)(hb:U b):Q42 op a b=Qbz op a b:=by
 have sub:IntKind.wrap .u32 (a+IntKind.wrap .u32 (0-b))=IntKind.wrap .u32 (a-b):=by
   rw[IntKind.wrap_u32,IntKind.wrap_u32,IntKind.wrap_u32];omega
 have hop:op=1\/op=2\/op=3\/op=4\/op=5\/op=6\/op=7\/op=8\/op=9\/op=10\/op=11\/op=12\/op=13\/op=14\/op=15\/op=16\/op=17\/op=18\/op=19\/op=20\/op=21\/op=22\/op=23:=by omega
 have d:=yI ha hb
 rcases hop with rfl|rfl|rfl|rfl|rfl|rfl|rfl|rfl|rfl|rfl|rfl|rfl|rfl|rfl|rfl|rfl|rfl|rfl|rfl|rfl|rfl|rfl|rfl
 . rfl
 . show(IntKind.wrap .u32 (a+IntKind.wrap .u32 (0-b)),true)=(IntKind.wrap .u32 (a-b),true)
   rw[sub]
 . rfl
 . rfl
 . rfl
 . rfl
 . rfl
 . rfl
 . rfl
 . show((Qb2 a b).1,true)=((Qas a b).1,true)
   rw[d]
 . show((Qb2 a b).2,true)=((Qas a b).2,true)
   rw[d]
 all_goals rfl
theorem Qnf{P:Nat}{m:List Int}(h:Q1 P m){c:Q04}(hc:Q2b c)(hst:c.B6.a0<=31){va:Int}(hv:U va){size:Int}(hs:size=1\/size=4){access:Int}(ha:access=1\/access=2\/access=3):Q1w c m va size access=((Q12 c m va size access).1,(Q12 c m va size access).2.2,(Q12 c m va size access).2.1):=by
 have hcl:Q03 m=m:=rfl
 have kn:Qd access=true:=by rcases ha with rfl|rfl|rfl<;>rfl
 have ca:Qq7 access=(Q1u access,true):=by rcases ha with rfl|rfl|rfl<;>rfl
 have pg:=Z5h hc.a0.1 hst
 have wk:=vh h hc.a6 hv ha
 have tc:Qbg m (Q6b m c.B6.a6 va access).F3 access=Qmn m (Q6b m c.B6.a6 va access).F3 access:=Zjm h (Tree.pp (yY h hc.a6 hv access)).2.2.1 access
 have sz:(bif size !=1 then bif size !=4 then false else true else true)=true:=by rcases hs with rfl|rfl<;>rfl
 simp only[Q1w,Q5y,Q12,Q72,Tree.m,letv,hcl,kn,ca,pg,wk,tc,Qnx h hv hs,Z81]
 rcases hs with rfl|rfl<;>
 . show(bif _ then _ else _)=_
   cases Int.tmod va _ !=0<;>cases Q9m c<;>cases iand .u32 c.B6.a0 4 !=0<;>cases(Q6b m c.B6.a6 va access).F1 !=0<;>cases Q1x m va _<;>rfl
theorem Z19{α:Type}{Q:α->Prop}{c:Bool}{x y:α}(hx:Q x)(hy:Q y):Q (cond c x y):=by cases c<;>assumption
theorem zah(m:List Int)(root:Int){va:Int}(hv:U va)(access:Int):(Q6b m root va access).F1=0->(Q6b m root va access).Addr%4=va%4:=by
 have hc:Q1u access≠0:=by
   simp only[Q1u,Q86,Tree.m]
   cases access==1<;>cases access==3<;>simp
 have q :(λt:Q14=>t.F1=0->t.Addr%4=va%4) (Q6b m root va access):=by
   simp only[Q6b,Q9a,Tree.m,letv]
   repeat'(first
     |exact λe=>absurd e hc
     | (intro _
        show IntKind.wrap .u32 (IntKind.wrap .u32 (_*128)+Int.tmod va 128)%4=va%4
        rw[Int.tmod_eq_emod_of_nonneg hv.1,IntKind.wrap_u32,IntKind.wrap_u32];omega)
     |refine Z19 (Q:=λt:Q14=>t.F1=0->t.Addr%4=va%4) ?_ ?_)
 exact q
theorem qJ{c:Q04}{m:List Int}{va:Int}(hv:U va){size:Int}(hs:size=1\/size=4){access:Int}(ha:access=1\/access=2\/access=3):(Q12 c m va size access).2.1=0->(Q12 c m va size access).1%size=0:=by
  have kn:Qd access=true:=by rcases ha with rfl|rfl|rfl<;>rfl
  have hc:Q1u access≠0:=by
    simp only[Q1u,Q86,Tree.m]
    cases access==1<;>cases access==3<;>simp
  rcases hs with rfl|rfl
  . intro _;omega
  simp only[Q12,Q72,Tree.m,letv,kn]
  show(bif Int.tmod va 4 !=0 then((0:Int),(3:Int),m) else _).2.1=0->(bif Int.tmod va 4 !=0 then((0:Int),(3:Int),m) else _).1%4=0
  rw[Int.tmod_eq_emod_of_nonneg hv.1]
  cases hz:va%4 !=0
  . have hz:va%4=0:=by simpa using hz
    have w:=zah m c.B6.a6 hv access
    cases hp:Qkc c
    . cases hw:Q1x m va 4
      . exact λe=>absurd e hc
      . exact λ_=>hz
    . cases hq:(Q6b m c.B6.a6 va access).F1 !=0
      . have hq:(Q6b m c.B6.a6 va access).F1=0:=by simpa using hq
        exact λ_=>(w hq).trans hz
      . have hq: ¬(Q6b m c.B6.a6 va access).F1=0:=by simpa using hq
        exact λe=>absurd e hq
  . intro e;cases e
def eff0:Q11:={B5:=0,D1:=0,E0:=0,Value:=0}
def Q59(c:Q04)(m:List Int)(i:Q0i):Q04×List Int×Q11:=
 bif i.Op==32 then((Q69 c m i).1,(Q69 c m i).2,eff0) else bif i.Op==33 then((Q69 c m i).1,(Q69 c m i).2,eff0) else bif i.Op==34 then((Q69 c m i).1,(Q69 c m i).2,eff0)
 else bif i.Op==35 then((Q7x c m i).1,(Q7x c m i).2,eff0) else bif i.Op==36 then((Q7x c m i).1,(Q7x c m i).2,eff0) else((Ql9 c i).1,m,(Ql9 c i).2)
def regX(c:Q04)(r:Int):Int:=List.getD (A16.l c.X) r.toNat 0
def Qie(c:Q04)(m:List Int)(i:Q0i):Q04×Q11×List Int:=
 bif decide (i.Op>=56) then((Qhz c i).1,(Qhz c i).2,m) else bif decide (i.Op>=40) then(Qyx c i,eff0,m) else bif decide (i.Op>=32) then((Q4w c m i).1,eff0,(Q4w c m i).2)
 else bif i.Op==24 then({X:=(Q1p c i.A (ishl .u32 (IntKind.wrap .u32 i.Imm) 16)).X,Pc:=IntKind.wrap .u32 ((Q1p c i.A (ishl .u32 (IntKind.wrap .u32 i.Imm) 16)).Pc+4),B6:=(Q1p c i.A (ishl .u32 (IntKind.wrap .u32 i.Imm) 16)).B6},eff0,m)
 else bif decide (i.Op<=13) then
   ({X:=(Q1p c i.A (Qbz i.Op (regX c i.B) (regX c i.C)).1).X,Pc:=IntKind.wrap .u32 ((Q1p c i.A (Qbz i.Op (regX c i.B) (regX c i.C)).1).Pc+4),B6:=(Q1p c i.A (Qbz i.Op (regX c i.B) (regX c i.C)).1).B6},eff0,m)
 else({X:=(Q1p c i.A (Qbz i.Op (regX c i.B) (IntKind.wrap .u32 i.Imm)).1).X,Pc:=IntKind.wrap .u32 ((Q1p c i.A (Qbz i.Op (regX c i.B) (IntKind.wrap .u32 i.Imm)).1).Pc+4),B6:=(Q1p c i.A (Qbz i.Op (regX c i.B) (IntKind.wrap .u32 i.Imm)).1).B6},eff0,m)
def isOp(op:Int):Prop:=op=1\/op=2\/op=3\/op=4\/op=5\/op=6\/op=7\/op=8\/op=9\/op=10\/op=11\/op=12\/op=13\/op=16\/op=17\/op=18\/op=19\/op=20\/op=21\/op=22\/op=23\/op=24\/op=32\/op=33\/op=34\/op=35\/op=36\/op=40\/op=41\/op=42\/op=43\/op=44\/op=45\/op=48\/op=49\/op=56\/op=57\/op=58\/op=59\/op=60\/op=61\/op=62\/op=63\/op=64
theorem yW(c:Q04)(r v:Int):(Q1p c r v).Pc=c.Pc/\(Q1p c r v).B6=c.B6:=by
 simp only[Q1p,Qcu,Tree.m]
 cases decide (r>0)
 . exact⟨rfl,rfl⟩
 . cases decide (r<16)<;>exact⟨rfl,rfl⟩
def adv(c:Q04):Q04:={X:=c.X,Pc:=IntKind.wrap .u32 (c.Pc+4),B6:=c.B6}
def va(c:Q04)(B Imm:Int):Int:=IntKind.wrap .u32 (List.getD (A16.l c.X) B.toNat 0+IntKind.wrap .u32 Imm)
def ldP(c:Q04)(A v size:Int)(f:Int->Int)(y:Int×List Int×Int):Q04×List Int:=bif y.2.2 !=0 then(Q48 c y.2.2 v,y.2.1) else(adv (Qa7 c A (f (Q4i y.2.1 y.1 size).1)),y.2.1)
def ldR(c:Q04)(A v size:Int)(f:Int->Int)(x:Int×Int×List Int):Q04×List Int:=bif x.2.1 !=0 then(Q2m c x.2.1 v,x.2.2) else(adv (Q1p c A (f (Q16 x.2.2 x.1 size).1)),x.2.2)
def stP(c:Q04)(A v size:Int)(y:Int×List Int×Int):Q04×List Int:=bif y.2.2 !=0 then(Q48 c y.2.2 v,y.2.1) else(adv c,(Q92 y.2.1 y.1 size (List.getD (A16.l c.X) A.toNat 0)).1)
def stR(c:Q04)(A v size:Int)(x:Int×Int×List Int):Q04×List Int:=bif x.2.1 !=0 then(Q2m c x.2.1 v,x.2.2) else(adv c,Q9z x.2.2 x.1 size (List.getD (A16.l c.X) A.toNat 0))
theorem ld_eq(c:Q04)(m:List Int)(A B C Imm:Int):
   (Q69 c m ⟨32,A,B,C,Imm⟩=ldP c A (va c B Imm) 4 (λv=>v) (Q1w c m (va c B Imm) 4 2)/\Q4w c m ⟨32,A,B,C,Imm⟩=ldR c A (va c B Imm) 4 (λv=>v) (Q12 c m (va c B Imm) 4 2))/\
   (Q69 c m ⟨33,A,B,C,Imm⟩=ldP c A (va c B Imm) 1 (λv=>Q28 v 8) (Q1w c m (va c B Imm) 1 2)/\Q4w c m ⟨33,A,B,C,Imm⟩=ldR c A (va c B Imm) 1 (λv=>Q2y v 8) (Q12 c m (va c B Imm) 1 2))/\
   (Q69 c m ⟨34,A,B,C,Imm⟩=ldP c A (va c B Imm) 1 (λv=>v) (Q1w c m (va c B Imm) 1 2)/\Q4w c m ⟨34,A,B,C,Imm⟩=ldR c A (va c B Imm) 1 (λv=>v) (Q12 c m (va c B Imm) 1 2))/\
   (Q7x c m ⟨35,A,B,C,Imm⟩=stP c A (va c B Imm) 4 (Q1w c m (va c B Imm) 4 3)/\Q4w c m ⟨35,A,B,C,Imm⟩=stR c A (va c B Imm) 4 (Q12 c m (va c B Imm) 4 3))/\
   (Q7x c m ⟨36,A,B,C,Imm⟩=stP c A (va c B Imm) 1 (Q1w c m (va c B Imm) 1 3)/\Q4w c m ⟨36,A,B,C,Imm⟩=stR c A (va c B Imm) 1 (Q12 c m (va c B Imm) 1 3)):=
 ⟨⟨by kernel_rfl,by kernel_rfl⟩,⟨by kernel_rfl,by kernel_rfl⟩,⟨by kernel_rfl,by kernel_rfl⟩,⟨by kernel_rfl,by kernel_rfl⟩,⟨by kernel_rfl,by kernel_rfl⟩⟩
theorem xah{P:Nat}{m:List Int}(h:Q1 P m)(a:Int):Q28 (Q16 m a 1).1 8=Q2y (Q16 m a 1).1 8:=by
 have: ∀x:Int×Bool,(∃w,U w/\x=(iand .u32 w 255,true))\/x=(0,false)->Q28 x.1 8=Q2y x.1 8:=λx hx=>by
   rcases hx with⟨w,hw,rfl⟩|rfl
   . have e:=m255 hw
     exact sx8 (by show 0<=iand .u32 w 255;omega) (by show iand .u32 w 255<256;omega)
   . rfl
 refine this _ ?_
 simp only[Q16,Q3n,Tree.m,letv]
 cases Q1x m a 1
 . exact .inr rfl
 . exact .inl ⟨_,Qup (Qk6 h.u _) _,rfl⟩
section
variable {P:Nat} {m:List Int} (h:Q1 P m) {c:Q04} (hc:Q2b c) (hst:c.B6.a0<=31)
include h hc hst
omit hst in
theorem Zfo{v:Int}(hv:U v){size:Int}(hs:size=1\/size=4)(access:Int):Q1 P (Q12 c m v size access).2.2/\U (Q12 c m v size access).1/\((Q12 c m v size access).2.1=0->(Q12 c m v size access).1<128*P):=(Tree.pp (Z8h h hc hv hs access)).2
theorem Zer{A v:Int}(hA:0<=A/\A<16)(hv:U v){size:Int}(hs:size=1\/size=4){f g:Int->Int}(hf: ∀{m':List Int},Q1 P m'-> ∀a,f (Q16 m' a size).1=g (Q16 m' a size).1):ldP c A v size f (Q1w c m v size 2)=ldR c A v size g (Q12 c m v size 2):=by
 rw[Qnf h hc hst hv hs (.inr (.inl rfl))]
 obtain⟨k,u,_⟩:=Zfo h hc hv hs 2
 generalize Q12 c m v size 2=x at*
 simp only[ldP,ldR,Qnx k u hs,Qmw hc.a0.1 hst,Qya c hA,hf k]
theorem qi{A v:Int}(hv:U v){size:Int}(hs:size=1\/size=4):stP c A v size (Q1w c m v size 3)=stR c A v size (Q12 c m v size 3):=by
 rw[Qnf h hc hst hv hs (.inr (.inr rfl))]
 obtain⟨k,u,b⟩:=Zfo h hc hv hs 3
 have al:=qJ (c:=c) (m:=m) hv hs (access:=3) (.inr (.inr rfl))
 generalize Q12 c m v size 3=x at*
 simp only[stP,stR,Z5e k u hs,Qmw hc.a0.1 hst,Qgh k u hs]
 cases hq:x.2.1 !=0
 . have hq:x.2.1=0:=by simpa using hq
   rw[decide_eq_true ⟨al hq,b hq⟩];rfl
 . rfl
end
theorem xJ(c:Q04)(k v:Int):(Qgd c k v).Pc=c.Pc:=by
 simp only[Qgd,Qbd,Tree.m]
 repeat'(first|rfl|refine Z19 (Q:=λx:Q04=>x.Pc=c.Pc) ?_ ?_)
def setP(c:Q04)(A v p:Int):Q04:={X:=(Qa7 c A v).X,Pc:=p,B6:=(Qa7 c A v).B6}
def setR(c:Q04)(A v p:Int):Q04:={X:=(Q1p c A v).X,Pc:=p,B6:=(Q1p c A v).B6}
def nxt(c:Q04):Int:=IntKind.wrap .u32 (c.Pc+4)
theorem Zbf(c:Q04){A:Int}(hA:0<=A/\A<16)(v p:Int):setP c A v p=setR c A v p:=by
 unfold setP setR;rw[Qya c hA]
theorem Zel(c:Q04)(A v:Int):adv (Q1p c A v)=setR c A v (nxt c):=by
 unfold adv setR nxt;rw[(yW c A v).1]
theorem brc(t:Bool)(x y:Q04)(m:List Int):((bif t then(x,eff0) else(y,eff0)).1,m,(bif t then(x,eff0) else(y,eff0)).2)=((bif t then x else y),m,eff0):=by cases t<;>rfl
def isOpB(op:Int):Bool:=decide (op=1)||decide (op=2)||decide (op=3)||decide (op=4)||decide (op=5)||decide (op=6)||decide (op=7)||decide (op=8)||decide (op=9)||decide (op=10)||decide (op=11)||decide (op=12)||decide (op=13)||decide (op=16)||decide (op=17)||decide (op=18)||decide (op=19)||decide (op=20)||decide (op=21)||decide (op=22)||decide (op=23)||decide (op=24)||decide (op=32)||decide (op=33)||decide (op=34)||decide (op=35)||decide (op=36)||decide (op=40)||decide (op=41)||decide (op=42)||decide (op=43)||decide (op=44)||decide (op=45)||decide (op=48)||decide (op=49)||decide (op=56)||decide (op=57)||decide (op=58)||decide (op=59)||decide (op=60)||decide (op=61)||decide (op=62)||decide (op=63)||decide (op=64)
section
variable {P:Nat} {m:List Int} (h:Q1 P m) {c:Q04} (hc:Q2b c) (hst:c.B6.a0<=31) {A B C Imm:Int} (hA:0<=A/\A<16)
include h hc hst hA
theorem xi{op:Int}(hop:isOp op):Q59 c m ⟨op,A,B,C,Imm⟩=((Qie c m ⟨op,A,B,C,Imm⟩).1,(Qie c m ⟨op,A,B,C,Imm⟩).2.2,(Qie c m ⟨op,A,B,C,Imm⟩).2.1):=by
 have alu: ∀{k y:Int},1<=k->k<=23->U y->((setP c A (Q42 k (regX c B) y).1 (nxt c),m,eff0):Q04×List Int×Q11)=(adv (Q1p c A (Qbz k (regX c B) y).1),m,eff0):=λh1 h2 hy=>by
   rw[vI h1 h2 (show U (regX c B) from hc.r _) hy,Zel,Zbf c hA]
 have uC:U (regX c C):=hc.r _
 have uI:U (IntKind.wrap .u32 Imm):=Q0s _
 obtain⟨⟨l1,l2⟩,⟨l3,l4⟩,⟨l5,l6⟩,⟨l7,l8⟩,⟨l9,l10⟩⟩:=ld_eq c m A B C Imm
 have hva:U (va c B Imm):=Q0s _
 rcases hop with rfl|rfl|rfl|rfl|rfl|rfl|rfl|rfl|rfl|rfl|rfl|rfl|rfl|rfl|rfl|rfl|rfl|rfl|rfl|rfl|rfl|rfl|rfl|rfl|rfl|rfl|rfl|rfl|rfl|rfl|rfl|rfl|rfl|rfl|rfl|rfl|rfl|rfl|rfl|rfl|rfl|rfl|rfl|rfl
 . exact(show Q59 c m ⟨1,A,B,C,Imm⟩=(setP c A (Q42 1 (regX c B) (regX c C)).1 (nxt c),m,eff0) by kernel_rfl).trans ((alu (by decide) (by decide) uC).trans (by kernel_rfl))
 . exact(show Q59 c m ⟨2,A,B,C,Imm⟩=(setP c A (Q42 2 (regX c B) (regX c C)).1 (nxt c),m,eff0) by kernel_rfl).trans ((alu (by decide) (by decide) uC).trans (by kernel_rfl))
 . exact(show Q59 c m ⟨3,A,B,C,Imm⟩=(setP c A (Q42 3 (regX c B) (regX c C)).1 (nxt c),m,eff0) by kernel_rfl).trans ((alu (by decide) (by decide) uC).trans (by kernel_rfl))
 . exact(show Q59 c m ⟨4,A,B,C,Imm⟩=(setP c A (Q42 4 (regX c B) (regX c C)).1 (nxt c),m,eff0) by kernel_rfl).trans ((alu (by decide) (by decide) uC).trans (by kernel_rfl))
 . exact(show Q59 c m ⟨5,A,B,C,Imm⟩=(setP c A (Q42 5 (regX c B) (regX c C)).1 (nxt c),m,eff0) by kernel_rfl).trans ((alu (by decide) (by decide) uC).trans (by kernel_rfl))
 . exact(show Q59 c m ⟨6,A,B,C,Imm⟩=(setP c A (Q42 6 (regX c B) (regX c C)).1 (nxt c),m,eff0) by kernel_rfl).trans ((alu (by decide) (by decide) uC).trans (by kernel_rfl))
 . exact(show Q59 c m ⟨7,A,B,C,Imm⟩=(setP c A (Q42 7 (regX c B) (regX c C)).1 (nxt c),m,eff0) by kernel_rfl).trans ((alu (by decide) (by decide) uC).trans (by kernel_rfl))
 . exact(show Q59 c m ⟨8,A,B,C,Imm⟩=(setP c A (Q42 8 (regX c B) (regX c C)).1 (nxt c),m,eff0) by kernel_rfl).trans ((alu (by decide) (by decide) uC).trans (by kernel_rfl))
 . exact(show Q59 c m ⟨9,A,B,C,Imm⟩=(setP c A (Q42 9 (regX c B) (regX c C)).1 (nxt c),m,eff0) by kernel_rfl).trans ((alu (by decide) (by decide) uC).trans (by kernel_rfl))
 . exact(show Q59 c m ⟨10,A,B,C,Imm⟩=(setP c A (Q42 10 (regX c B) (regX c C)).1 (nxt c),m,eff0) by kernel_rfl).trans ((alu (by decide) (by decide) uC).trans (by kernel_rfl))
 . exact(show Q59 c m ⟨11,A,B,C,Imm⟩=(setP c A (Q42 11 (regX c B) (regX c C)).1 (nxt c),m,eff0) by kernel_rfl).trans ((alu (by decide) (by decide) uC).trans (by kernel_rfl))
 . exact(show Q59 c m ⟨12,A,B,C,Imm⟩=(setP c A (Q42 12 (regX c B) (regX c C)).1 (nxt c),m,eff0) by kernel_rfl).trans ((alu (by decide) (by decide) uC).trans (by kernel_rfl))
 . exact(show Q59 c m ⟨13,A,B,C,Imm⟩=(setP c A (Q42 13 (regX c B) (regX c C)).1 (nxt c),m,eff0) by kernel_rfl).trans ((alu (by decide) (by decide) uC).trans (by kernel_rfl))
 . exact(show Q59 c m ⟨16,A,B,C,Imm⟩=(setP c A (Q42 16 (regX c B) (IntKind.wrap .u32 Imm)).1 (nxt c),m,eff0) by kernel_rfl).trans ((alu (by decide) (by decide) uI).trans (by kernel_rfl))
 . exact(show Q59 c m ⟨17,A,B,C,Imm⟩=(setP c A (Q42 17 (regX c B) (IntKind.wrap .u32 Imm)).1 (nxt c),m,eff0) by kernel_rfl).trans ((alu (by decide) (by decide) uI).trans (by kernel_rfl))
 . exact(show Q59 c m ⟨18,A,B,C,Imm⟩=(setP c A (Q42 18 (regX c B) (IntKind.wrap .u32 Imm)).1 (nxt c),m,eff0) by kernel_rfl).trans ((alu (by decide) (by decide) uI).trans (by kernel_rfl))
 . exact(show Q59 c m ⟨19,A,B,C,Imm⟩=(setP c A (Q42 19 (regX c B) (IntKind.wrap .u32 Imm)).1 (nxt c),m,eff0) by kernel_rfl).trans ((alu (by decide) (by decide) uI).trans (by kernel_rfl))
 . exact(show Q59 c m ⟨20,A,B,C,Imm⟩=(setP c A (Q42 20 (regX c B) (IntKind.wrap .u32 Imm)).1 (nxt c),m,eff0) by kernel_rfl).trans ((alu (by decide) (by decide) uI).trans (by kernel_rfl))
 . exact(show Q59 c m ⟨21,A,B,C,Imm⟩=(setP c A (Q42 21 (regX c B) (IntKind.wrap .u32 Imm)).1 (nxt c),m,eff0) by kernel_rfl).trans ((alu (by decide) (by decide) uI).trans (by kernel_rfl))
 . exact(show Q59 c m ⟨22,A,B,C,Imm⟩=(setP c A (Q42 22 (regX c B) (IntKind.wrap .u32 Imm)).1 (nxt c),m,eff0) by kernel_rfl).trans ((alu (by decide) (by decide) uI).trans (by kernel_rfl))
 . exact(show Q59 c m ⟨23,A,B,C,Imm⟩=(setP c A (Q42 23 (regX c B) (IntKind.wrap .u32 Imm)).1 (nxt c),m,eff0) by kernel_rfl).trans ((alu (by decide) (by decide) uI).trans (by kernel_rfl))
 . refine(show Q59 c m ⟨24,A,B,C,Imm⟩=(setP c A (ishl .u32 (IntKind.wrap .u32 Imm) 16) (nxt c),m,eff0) by kernel_rfl).trans ?_
   rw[Zbf c hA,<-Zel];kernel_rfl
 . have e:=Zer h hc hst hA hva (.inr rfl) (f:=λv=>v) (g:=λv=>v) (λ_ _=>rfl)
   rw[<-l1,<-l2]at e
   refine(show Q59 c m ⟨32,A,B,C,Imm⟩=((Q69 c m ⟨32,A,B,C,Imm⟩).1,(Q69 c m ⟨32,A,B,C,Imm⟩).2,eff0) by kernel_rfl).trans ?_
   rw[e];kernel_rfl
 . have e:=Zer h hc hst hA hva (.inl rfl) (f:=λv=>Q28 v 8) (g:=λv=>Q2y v 8) (λhm a=>xah hm a)
   rw[<-l3,<-l4]at e
   refine(show Q59 c m ⟨33,A,B,C,Imm⟩=((Q69 c m ⟨33,A,B,C,Imm⟩).1,(Q69 c m ⟨33,A,B,C,Imm⟩).2,eff0) by kernel_rfl).trans ?_
   rw[e];kernel_rfl
 . have e:=Zer h hc hst hA hva (.inl rfl) (f:=λv=>v) (g:=λv=>v) (λ_ _=>rfl)
   rw[<-l5,<-l6]at e
   refine(show Q59 c m ⟨34,A,B,C,Imm⟩=((Q69 c m ⟨34,A,B,C,Imm⟩).1,(Q69 c m ⟨34,A,B,C,Imm⟩).2,eff0) by kernel_rfl).trans ?_
   rw[e];kernel_rfl
 . have e:=qi h hc hst (A:=A) hva (.inr rfl)
   rw[<-l7,<-l8]at e
   refine(show Q59 c m ⟨35,A,B,C,Imm⟩=((Q7x c m ⟨35,A,B,C,Imm⟩).1,(Q7x c m ⟨35,A,B,C,Imm⟩).2,eff0) by kernel_rfl).trans ?_
   rw[e];kernel_rfl
 . have e:=qi h hc hst (A:=A) hva (.inl rfl)
   rw[<-l9,<-l10]at e
   refine(show Q59 c m ⟨36,A,B,C,Imm⟩=((Q7x c m ⟨36,A,B,C,Imm⟩).1,(Q7x c m ⟨36,A,B,C,Imm⟩).2,eff0) by kernel_rfl).trans ?_
   rw[e];kernel_rfl
 . exact(show Q59 c m ⟨40,A,B,C,Imm⟩=((bif(Q22 40 (regX c A) (regX c B)) then((⟨c.X,IntKind.wrap .u32 (c.Pc+IntKind.wrap .u32 (4*IntKind.wrap .u32 Imm)),c.B6⟩:Q04),eff0) else(⟨c.X,nxt c,c.B6⟩,eff0)).1,m,(bif(Q22 40 (regX c A) (regX c B)) then((⟨c.X,IntKind.wrap .u32 (c.Pc+IntKind.wrap .u32 (4*IntKind.wrap .u32 Imm)),c.B6⟩:Q04),eff0) else(⟨c.X,nxt c,c.B6⟩,eff0)).2) by kernel_rfl).trans ((brc (Q22 40 (regX c A) (regX c B)) ⟨c.X,IntKind.wrap .u32 (c.Pc+IntKind.wrap .u32 (4*IntKind.wrap .u32 Imm)),c.B6⟩ ⟨c.X,nxt c,c.B6⟩ m).trans (by kernel_rfl))
 . exact(show Q59 c m ⟨41,A,B,C,Imm⟩=((bif(Q22 41 (regX c A) (regX c B)) then((⟨c.X,IntKind.wrap .u32 (c.Pc+IntKind.wrap .u32 (4*IntKind.wrap .u32 Imm)),c.B6⟩:Q04),eff0) else(⟨c.X,nxt c,c.B6⟩,eff0)).1,m,(bif(Q22 41 (regX c A) (regX c B)) then((⟨c.X,IntKind.wrap .u32 (c.Pc+IntKind.wrap .u32 (4*IntKind.wrap .u32 Imm)),c.B6⟩:Q04),eff0) else(⟨c.X,nxt c,c.B6⟩,eff0)).2) by kernel_rfl).trans ((brc (Q22 41 (regX c A) (regX c B)) ⟨c.X,IntKind.wrap .u32 (c.Pc+IntKind.wrap .u32 (4*IntKind.wrap .u32 Imm)),c.B6⟩ ⟨c.X,nxt c,c.B6⟩ m).trans (by kernel_rfl))
 . exact(show Q59 c m ⟨42,A,B,C,Imm⟩=((bif(Q22 42 (regX c A) (regX c B)) then((⟨c.X,IntKind.wrap .u32 (c.Pc+IntKind.wrap .u32 (4*IntKind.wrap .u32 Imm)),c.B6⟩:Q04),eff0) else(⟨c.X,nxt c,c.B6⟩,eff0)).1,m,(bif(Q22 42 (regX c A) (regX c B)) then((⟨c.X,IntKind.wrap .u32 (c.Pc+IntKind.wrap .u32 (4*IntKind.wrap .u32 Imm)),c.B6⟩:Q04),eff0) else(⟨c.X,nxt c,c.B6⟩,eff0)).2) by kernel_rfl).trans ((brc (Q22 42 (regX c A) (regX c B)) ⟨c.X,IntKind.wrap .u32 (c.Pc+IntKind.wrap .u32 (4*IntKind.wrap .u32 Imm)),c.B6⟩ ⟨c.X,nxt c,c.B6⟩ m).trans (by kernel_rfl))
 . exact(show Q59 c m ⟨43,A,B,C,Imm⟩=((bif(Q22 43 (regX c A) (regX c B)) then((⟨c.X,IntKind.wrap .u32 (c.Pc+IntKind.wrap .u32 (4*IntKind.wrap .u32 Imm)),c.B6⟩:Q04),eff0) else(⟨c.X,nxt c,c.B6⟩,eff0)).1,m,(bif(Q22 43 (regX c A) (regX c B)) then((⟨c.X,IntKind.wrap .u32 (c.Pc+IntKind.wrap .u32 (4*IntKind.wrap .u32 Imm)),c.B6⟩:Q04),eff0) else(⟨c.X,nxt c,c.B6⟩,eff0)).2) by kernel_rfl).trans ((brc (Q22 43 (regX c A) (regX c B)) ⟨c.X,IntKind.wrap .u32 (c.Pc+IntKind.wrap .u32 (4*IntKind.wrap .u32 Imm)),c.B6⟩ ⟨c.X,nxt c,c.B6⟩ m).trans (by kernel_rfl))
 . exact(show Q59 c m ⟨44,A,B,C,Imm⟩=((bif(Q22 44 (regX c A) (regX c B)) then((⟨c.X,IntKind.wrap .u32 (c.Pc+IntKind.wrap .u32 (4*IntKind.wrap .u32 Imm)),c.B6⟩:Q04),eff0) else(⟨c.X,nxt c,c.B6⟩,eff0)).1,m,(bif(Q22 44 (regX c A) (regX c B)) then((⟨c.X,IntKind.wrap .u32 (c.Pc+IntKind.wrap .u32 (4*IntKind.wrap .u32 Imm)),c.B6⟩:Q04),eff0) else(⟨c.X,nxt c,c.B6⟩,eff0)).2) by kernel_rfl).trans ((brc (Q22 44 (regX c A) (regX c B)) ⟨c.X,IntKind.wrap .u32 (c.Pc+IntKind.wrap .u32 (4*IntKind.wrap .u32 Imm)),c.B6⟩ ⟨c.X,nxt c,c.B6⟩ m).trans (by kernel_rfl))
 . exact(show Q59 c m ⟨45,A,B,C,Imm⟩=((bif(Q22 45 (regX c A) (regX c B)) then((⟨c.X,IntKind.wrap .u32 (c.Pc+IntKind.wrap .u32 (4*IntKind.wrap .u32 Imm)),c.B6⟩:Q04),eff0) else(⟨c.X,nxt c,c.B6⟩,eff0)).1,m,(bif(Q22 45 (regX c A) (regX c B)) then((⟨c.X,IntKind.wrap .u32 (c.Pc+IntKind.wrap .u32 (4*IntKind.wrap .u32 Imm)),c.B6⟩:Q04),eff0) else(⟨c.X,nxt c,c.B6⟩,eff0)).2) by kernel_rfl).trans ((brc (Q22 45 (regX c A) (regX c B)) ⟨c.X,IntKind.wrap .u32 (c.Pc+IntKind.wrap .u32 (4*IntKind.wrap .u32 Imm)),c.B6⟩ ⟨c.X,nxt c,c.B6⟩ m).trans (by kernel_rfl))
 . refine(show Q59 c m ⟨48,A,B,C,Imm⟩=(setP c A (nxt c) (IntKind.wrap .u32 ((Qa7 c A (nxt c)).Pc+IntKind.wrap .u32 (4*IntKind.wrap .u32 Imm))),m,eff0) by kernel_rfl).trans ?_
   rw[Zbf c hA,Qya c hA,(yW c A (nxt c)).1];kernel_rfl
 . refine(show Q59 c m ⟨49,A,B,C,Imm⟩=(setP c A (nxt c) (va c B Imm),m,eff0) by kernel_rfl).trans ?_
   rw[Zbf c hA];kernel_rfl
 . refine(show Q59 c m ⟨56,A,B,C,Imm⟩=(Q48 c 7 0,m,eff0) by kernel_rfl).trans ?_
   rw[Qmw hc.a0.1 hst];kernel_rfl
 . refine(show Q59 c m ⟨57,A,B,C,Imm⟩=(Qd8 c,m,eff0) by kernel_rfl).trans ?_
   rw[Zf1 hc.a0.1 hst];kernel_rfl
 . refine(show Q59 c m ⟨58,A,B,C,Imm⟩=(setP c A (List.getD (A8.l c.B6) Imm.toNat 0) (nxt c),m,eff0) by kernel_rfl).trans ?_
   rw[Zbf c hA,<-Zel];kernel_rfl
 . have e:=xJ c (IntKind.wrap .i64 Imm) (regX c A)
   refine(show Q59 c m ⟨59,A,B,C,Imm⟩=((⟨(Qgd c (IntKind.wrap .i64 Imm) (regX c A)).X,IntKind.wrap .u32 (c.Pc+4),(Qgd c (IntKind.wrap .i64 Imm) (regX c A)).B6⟩:Q04),m,eff0) by kernel_rfl).trans ?_
   rw[<-e];kernel_rfl
 . exact(show Q59 c m ⟨60,A,B,C,Imm⟩=((Qie c m ⟨60,A,B,C,Imm⟩).1,(Qie c m ⟨60,A,B,C,Imm⟩).2.2,(Qie c m ⟨60,A,B,C,Imm⟩).2.1) by kernel_rfl)
 . exact(show Q59 c m ⟨61,A,B,C,Imm⟩=((Qie c m ⟨61,A,B,C,Imm⟩).1,(Qie c m ⟨61,A,B,C,Imm⟩).2.2,(Qie c m ⟨61,A,B,C,Imm⟩).2.1) by kernel_rfl)
 . exact(show Q59 c m ⟨62,A,B,C,Imm⟩=((Qie c m ⟨62,A,B,C,Imm⟩).1,(Qie c m ⟨62,A,B,C,Imm⟩).2.2,(Qie c m ⟨62,A,B,C,Imm⟩).2.1) by kernel_rfl)
 . exact(show Q59 c m ⟨63,A,B,C,Imm⟩=((Qie c m ⟨63,A,B,C,Imm⟩).1,(Qie c m ⟨63,A,B,C,Imm⟩).2.2,(Qie c m ⟨63,A,B,C,Imm⟩).2.1) by kernel_rfl)
 . exact(show Q59 c m ⟨64,A,B,C,Imm⟩=((Qie c m ⟨64,A,B,C,Imm⟩).1,(Qie c m ⟨64,A,B,C,Imm⟩).2.2,(Qie c m ⟨64,A,B,C,Imm⟩).2.1) by kernel_rfl)
end
theorem qai{op:Int}(h0:0<=op)(h1:op<256)(h:Q25 op≠0):isOp op:=by
 have e:=of_decide_eq_true (Qsc (λop=>decide (Q25 op=0\/isOpB op=true)) 256 (by kernel_rfl) h0 h1)
 rcases e with e|e
 . exact absurd e h
 . simpa only[isOpB,isOp,Bool.or_eq_true,decide_eq_true_eq,or_assoc] using e
theorem vi{op:Int}(o:isOp op):1<=op/\op<=64:=by
 unfold isOp at o
 rcases o with h|h|h|h|h|h|h|h|h|h|h|h|h|h|h|h|h|h|h|h|h|h|h|h|h|h|h|h|h|h|h|h|h|h|h|h|h|h|h|h|h|h|h|h<;>(rw[h];decide)
theorem qj{w:Int}(hw:U w):(Q1t w).2=true->isOp (Q1t w).1.Op:=by
  have s24:ishr .u32 w 24=w/16777216:=by have:=Qpi (a:=w) 24 (by decide);simpa using this
  obtain⟨w0,w1⟩:=hw
  have eo:IntKind.wrap .i64 (w/16777216)=w/16777216:=w64 (by omega) (by omega)
  have q:(λr:Q0i×Bool=>r.2=true->isOp r.1.Op) (Q1t w):=by
    simp only[Q1t,Q64,Tree.m,letv,s24,eo]
    cases hf:Q25 (w/16777216)==0
    . have g:isOp (w/16777216):=qai (by omega) (by omega) (by simpa using hf)
      repeat'(first
        |exact λ_=>g
        |exact λe=>Bool.noConfusion (show false=true from e)
        |refine Z19 (Q:=λr:Q0i×Bool=>r.2=true->isOp r.1.Op) ?_ ?_)
    . exact λe=>Bool.noConfusion (show false=true from e)
  exact q
section
variable (c:Q04) (m:List Int)
def doR(x:Int×Int×List Int)(w:Int)(d:Q0i×Bool):Q04×Q11×List Int:=
 bif x.2.1 !=0 then(Q2m c x.2.1 c.Pc,eff0,x.2.2) else bif !d.2 then(Q2m c 1 w,eff0,x.2.2) else bif Q34 d.1.Op then(bif iand .u32 c.B6.a0 1==0 then(Q2m c 2 w,eff0,x.2.2) else Qie c x.2.2 d.1) else Qie c x.2.2 d.1
def doP(y:Int×List Int×Int)(d:Q0i×Bool):Q04×List Int×Q11:=
 bif y.2.2 !=0 then(Q48 c y.2.2 c.Pc,y.2.1,eff0) else bif !d.2 then(Q48 c 1 y.1,y.2.1,eff0) else bif Q82 d.1.Op then(bif !Q9m c then(Q48 c 2 y.1,y.2.1,eff0) else Q59 c y.2.1 d.1) else Q59 c y.2.1 d.1
theorem do_eq:Q6m c m=doR c (Q12 c m c.Pc 4 1) (Q16 (Q12 c m c.Pc 4 1).2.2 (Q12 c m c.Pc 4 1).1 4).1 (Q1t (Q16 (Q12 c m c.Pc 4 1).2.2 (Q12 c m c.Pc 4 1).1 4).1):=by kernel_rfl
theorem zai:Q4s c m=doP c (Qn8 c m) (Qgj (Qn8 c m).1):=by kernel_rfl
theorem zJ:Qn8 c m=bif(Q1w c m c.Pc 4 1).2.2 !=0 then(0,(Q1w c m c.Pc 4 1).2.1,(Q1w c m c.Pc 4 1).2.2) else((Q4i (Q1w c m c.Pc 4 1).2.1 (Q1w c m c.Pc 4 1).1 4).1,(Q1w c m c.Pc 4 1).2.1,0):=by kernel_rfl
end
theorem Zbv{P:Nat}{m:List Int}(h:Q1 P m){c:Q04}(hc:Q2b c)(hst:c.B6.a0<=31):Q4s c m=((Q6m c m).1,(Q6m c m).2.2,(Q6m c m).2.1):=by
  obtain⟨k,u,b⟩:=Zfo h hc hc.pc (.inr rfl) 1
  have tr: ∀k b,Q48 c k b=Q2m c k b:=Qmw hc.a0.1 hst
  rw[zai,do_eq,zJ,Qnf h hc hst hc.pc (.inr rfl) (.inl rfl)]
  generalize Q12 c m c.Pc 4 1=x at*
  cases hx:x.2.1 !=0
  . rw [Qnx k u (.inr rfl)]
    have hw:U (Q16 x.2.2 x.1 4).1:=(Tree.pp (Zb5 k u (.inr rfl))).2
    generalize(Q16 x.2.2 x.1 4).1=w at*
    show doP c (w,x.2.2,0) (Qgj w)=_
    rw[yg hw]
    have o:=qj hw
    have i:=Tree.post _ (Zhp w)
    change(Q1t w).2=true->Qem (Q1t w).1 at i
    generalize Q1t w=d at*
    obtain⟨⟨op,A,B,C,Imm⟩,ok⟩:=d
    cases ok
    . simp only[doP,doR,hx,tr];rfl
    . have o:isOp op:=o rfl
      have i:=i rfl
      have p:=xi (C:=C) (B:=B) (Imm:=Imm) k hc hst i.a o
      have pv:Q82 op=Q34 op:=qaf (by have:=vi o;omega) (by have:=vi o;omega)
      have kn:(!Q9m c)=(iand .u32 c.B6.a0 1==0):=by
        show(!(!(iand .u32 c.B6.a0 1==0)))=_
        exact Bool.not_not _
      simp only[doP,doR,hx,tr,pv,kn,p]
      cases Q34 op
      . rfl
      . cases iand .u32 c.B6.a0 1==0<;>rfl
  . simp only[doP,doR,hx,cond_true,tr]
theorem xj{a b:Int}:decide (a>=b)=!decide (a<b):=by
 by_cases h:a<b
 . rw[decide_eq_true h,decide_eq_false (by omega)];rfl
 . rw[decide_eq_false h,decide_eq_true (by omega)];rfl
def bits(g:Int)(l:List Nat)(s:Int):Int:=l.foldl (λ(a:Int) (i:Nat)=>IntKind.wrap .i64 (a+IntKind.wrap .i64 (iand .u32 (ishr .u32 g (i:Int)) 1))) s
theorem yJ(b:Q07):Qdk b=bits b.C3 [0,1,2,3,4,5,6,7,8,9,10,11,12,13,14,15,16,17,18,19,20,21,22,23,24,25,26,27,28,29,30,31] 0:=by kernel_rfl
theorem xaF{g:Int}(hg:U g){i:Nat}(hi:i<=32):IntKind.wrap .i64 (iand .u32 (ishr .u32 g (i:Int)) 1)=g/2^i%2:=by
 rw[and1 (Qup hg _),Qpi i hi]
 have:0<=g/2^i%2/\g/2^i%2<2:=by omega
 exact w64 (by omega) (by omega)
theorem vJ{g:Int}(hg:U g)(l:List Nat): ∀s:Int,(∀i∈l,i<=32)->0<=s->s+l.length<=1000->bits g l s=s+(l.map λi=>g/2^i%2).sum:=by
 induction l with
 |nil=>intro s _ _ _;simp [bits]
 | cons i l ih=>
   intro s hl h0 h1
   have h1:s+(l.length+1)<=1000:=by simpa using h1
   have hb:0<=g/2^i%2/\g/2^i%2<2:=by omega
   have e:bits g (i::l) s=bits g l (s+g/2^i%2):=by
     show bits g l (IntKind.wrap .i64 (s+IntKind.wrap .i64 (iand .u32 (ishr .u32 g (i:Int)) 1)))=_
     rw[xaF hg (hl i (by simp)),w64 (by omega) (by omega)]
   rw[e,ih _ (λj hj=>hl j (by simp [hj])) (by omega) (by omega)]
   simp;omega
theorem Zjw(n:Q0q)(port:Int):Qzg n port=Qge n port:=by
 simp only[Qzg,Qr1,Qge,Qey,Tree.m]
 cases n.C7<;>cases n.B8<;>rfl
theorem Z38(t:Q0g):Q3y t=Qch t:=by
 simp only[Q3y,Qll,Qch,Qi6,Tree.m]
 cases t.D2<;>cases t.D5<;>rfl
theorem Zd3(n:Q0q)(p:Int):Q5o n p=Qh8 n p:=by
 simp only[Q5o,Qkn,Qh8,Ql7,Tree.m]
 cases n.C7<;>cases n.B8<;>rfl
theorem Z83(d:Q0f)(p:Int):Q1c d p=Qeo d p:=by
  simp only[Q1c,Q5v,Q8s,Q6q,Qeo,Qj8,Tree.m,letv,xj]
  cases decide (d.Blocks>64)
  . by_cases s:d.C2=0\/d.C2=1\/d.C2=2\/d.C2=3
    . rcases s with s|s|s|s<;>rw[s]
      . rfl
      . by_cases c1:d.D8=1
        . rw[c1];cases decide (d.B7<d.Blocks)<;>cases decide (IntKind.wrap .i64 d.B3<p)<;>cases decide (d.C4=[])<;>rfl
        . by_cases c2:d.D8=2
          . rw[c2];cases decide (d.B7<d.Blocks)<;>cases decide (IntKind.wrap .i64 d.B3<p)<;>cases(d.C4.length:Int)==128<;>rfl
          . rw[show(d.D8==1)=false by simpa using c1,show(d.D8==2)=false by simpa using c2]
            cases decide (d.B7<d.Blocks)<;>cases decide (IntKind.wrap .i64 d.B3<p)<;>rfl
      . rfl
      . rfl
    . rw[show(d.C2==0)=false by simp;omega,show(d.C2==1)=false by simp;omega,show(d.C2==2)=false by simp;omega,show(d.C2==3)=false by simp;omega]
      by_cases n:d.C2<0
      . rw[decide_eq_true n];rfl
      . rw[decide_eq_false n,decide_eq_true (show d.C2>3 by omega)];rfl
  . rfl
theorem qK(c:Q0b):Q8w c=Q5d c:=by
 show(!decide (c.D3=[]))=decide ((c.D3.length:Int)>0)
 cases c.D3 with
 |nil=>rfl
 |cons a l=>rw[decide_eq_false (by simp),decide_eq_true (by simp)];rfl
theorem xai(k:List UInt8):decide (k=[])=((k.length:Int)==0):=by
 cases k with
 |nil=>rfl
 | cons a l=>
   rw[decide_eq_false (by simp)]
   exact(beq_eq_false_iff_ne.2 (by simp;omega)).symm
theorem Zji(c:Q0b)(port:Int):Qo5 c port=Q4y c port:=by
 simp only[Qo5,Q95,Q4y,Q38,Tree.m,xai]
 cases port==0
 . rfl
 . cases(c.D3.length:Int)==0<;>rfl
theorem xK(t:Q0g)(v:Int):Qjq t v=Qsy v:=by
 simp only[Qjq,Qld,Qsy,Qul,Tree.m]
 cases h:v==0
 . rw[show(v !=0)=true by simp only[bne,h];rfl];rfl
 . rw[show(v !=0)=false by simp only[bne,h];rfl,eq_of_beq h];rfl
section
variable {P:Nat} {m:List Int} (h:Q1 P m)
include h
theorem Z5(f:Int):Q9j m f=Q1z m f:=by
 have a:=Q3c h
 have b:=Qdt h
 simp only[Q9j,Qbo,Q1z,Qho,Tree.m,letv,a,b]
theorem Z5a(f:Int):Q9n m f=Q1z m f:=by
 have a:=Q3c h
 have b:=Qdt h
 simp only[Q9n,Qex,Q1z,Qho,Tree.m,letv,a,b]
theorem Z9w(d:Q0f)(port:Int)(v:Int)(at0:Int):Qyg d m port v at0=Qea d m port v at0:=by
  have pg:=Z5 h
  have pa:=Zc0 h
  have rq: ∀d a,Qik d a=Qj0 d a:=λ_ _=>rfl
  simp only[Qyg,Qgf,Quf,Qbb,Qea,Q84,Tree.m,letv,pg,pa,rq]
  cases port==4
  . cases port==5
    . cases h6:port==6
      . rw[show(port !=6)=true by simp only[bne,h6];rfl];rfl
      . rw [show(port !=6)=false by simp only[bne,h6];rfl]
        by_cases v1:v=1
        . subst v1
          cases hs:d.C2==0
          . rw[show(d.C2 !=0)=true by simp only[bne,hs];rfl];rfl
          . rw[show(d.C2 !=0)=false by simp only[bne,hs];rfl];rfl
        . by_cases v2:v=2
          . subst v2
            cases hs:d.C2==0
            . rw[show(d.C2 !=0)=true by simp only[bne,hs];rfl];rfl
            . rw[show(d.C2 !=0)=false by simp only[bne,hs];rfl];rfl
          . rw[show(v==1)=false by simpa using v1,show(v==2)=false by simpa using v2]
            cases v==0
            . rfl
            . have:Q8v d=(bif d.C2==2 then true else d.C2==3):=rfl
              rw[this]
              cases d.C2==2<;>cases d.C2==3<;>rfl
    . rfl
  . rfl
theorem Zgm(n:Q0q)(port:Int)(v:Int)(at0:Int):Z6z n m port v at0=Qgy n m port v at0:=by
  have pg:=Z5a h
  have pa:=Zc0 h
  simp only[Z6z,Qjn,Z6h,Qgi,Qgy,Q9v,Tree.m,letv,pg,pa]
  have g1:decide (n.F0>=1)=!decide (n.F0<1):=xj
  have g2:decide (n.F0<=128)=!decide (n.F0>128):=by
    by_cases h:n.F0>128
    . rw[decide_eq_true h,decide_eq_false (by omega)];rfl
    . rw[decide_eq_false h,decide_eq_true (by omega)];rfl
  rw[g1,g2]
  cases port==7
  . cases port==8
    . cases h9:port==9
      . rw[show(port !=9)=true by simp only[bne,h9];rfl];rfl
      . rw [show(port !=9)=false by simp only[bne,h9];rfl]
        by_cases v1:v=1
        . subst v1
          cases decide (n.F0<1)<;>cases decide (n.F0>128)<;>cases Q1z m n.B4<;>rfl
        . by_cases v2:v=2
          . subst v2;rfl
          . rw[show(v==1)=false by simpa using v1,show(v==2)=false by simpa using v2]
            cases v==0<;>rfl
    . rfl
  . rfl
theorem Z7h{d:Q0f}(hd:Q8i d)(e:Q0d):Qfy d m e=((Q7j d m e).1,(Q7j d m e).2.2,(Q7j d m e).2.1):=by
  have hcl:Q03 m=m:=rfl
  have pg:=Z5 h d.B3
  have lp:decide ((e.C8.length:Int)>0)=!decide (e.C8=[]):=by
    cases e.C8 with
    |nil=>rfl
    |cons a l=>rw[decide_eq_true (by simp),decide_eq_false (by simp)];rfl
  have bad:(e.C8.length:Int)≠128->Q1z m d.B3=true->Q2k m (IntKind.wrap .i64 d.B3) e.C8=(m,false):=λhl hp=>by
    rw[Qlc h hd.opFrame]at hp
    have hp:=of_decide_eq_true hp
    have h1:=hd.opFrame.1
    have h3:=h.p2
    have ew:IntKind.i64.wrap d.B3=d.B3:=w64 (by omega) (by omega)
    simp only[Q2k,Q37,Tree.m,letv,hcl,ew,Z9i h,decide_eq_true (⟨h1,hp⟩:0<=d.B3/\d.B3<P),show((e.C8.length:Int) !=128)=true by simpa using hl]
    rfl
  have good:(e.C8.length:Int)=128->Q1z m d.B3=true->Q2k m (IntKind.wrap .i64 d.B3) e.C8=(Qjx m (IntKind.wrap .i64 d.B3) e.C8,true):=λhl hp=>by
    rw[Qlc h hd.opFrame]at hp
    have hp:=of_decide_eq_true hp
    have h1:=hd.opFrame.1
    have h3:=h.p2
    have ew:IntKind.i64.wrap d.B3=d.B3:=w64 (by omega) (by omega)
    rw[ew];exact Ze5 h h1 hp (by omega)
  simp only[Qfy,Q6u,Q7j,Q6a,Tree.m,letv,hcl,pg,lp]
  cases d.C2 !=1
  . cases e.B5 !=4
    . cases decide (e.N>1)
      . cases e.N==1
        . cases decide (e.C8=[])<;>rfl
        . cases hc:d.D8==1
          . cases decide (e.C8=[])<;>rfl
          . by_cases hl:(e.C8.length:Int)=128
            . rw[show((e.C8.length:Int) !=128)=false by simpa using hl]
              cases hp:Q1z m d.B3
              . rfl
              . rw[good hl hp];rfl
            . rw[show((e.C8.length:Int) !=128)=true by simpa using hl]
              cases hp:Q1z m d.B3
              . rfl
              . rw[bad hl hp];rfl
      . rfl
    . rfl
  . rfl
theorem Zd{n:Q0q}(hn:Qig n)(frame:List UInt8):Qlh n m frame=((Q7q n m frame).1,(Q7q n m frame).2.2,(Q7q n m frame).2.1):=by
  have hcl:Q03 m=m:=rfl
  have pg:=Z5a h n.C1
  simp only[Qlh,Qa2,Q7q,Q68,Tree.m,letv,hcl,pg]
  cases !n.C7
  . cases decide ((frame.length:Int)<1)
    . cases hf:decide ((frame.length:Int)>128)
      . cases hp:Q1z m n.C1
        . rfl
        . rw[Qlc h hn.buffer]at hp
          have hp:=of_decide_eq_true hp
          have h1:=hn.buffer.1
          have h3:=h.p2
          have ew:IntKind.i64.wrap n.C1=n.C1:=w64 (by omega) (by omega)
          have hf:=of_decide_eq_false hf
          obtain⟨b1,b2⟩:=(Tree.pp (zh h h1 hp)).2
          change isPg m n.C1 (Q56 m n.C1).1 at b1
          have tk:List.take (Int.toNat ((Q56 m n.C1).1.length:Int)-Int.toNat (frame.length:Int)) (List.drop (Int.toNat (frame.length:Int)) (Q56 m n.C1).1)=(Q56 m n.C1).1.drop frame.length:=by
            rw[Int.toNat_natCast,Int.toNat_natCast]
            exact List.take_of_length_le (by simp)
          rw[ew,tk,Zc4 h h1 hp (by omega) b1]
          rfl
      . rfl
    . rfl
  . rfl
end
def ptab:List UInt8:=(List.range 256).map λn=>UInt8.ofNat (n%2+n/2%2+n/4%2+n/8%2+n/16%2+n/32%2+n/64%2+n/128%2)
def pt(n:Int):Int:=((UInt8.toNat (ptab.getD n.toNat 0):Nat):Int)
theorem zK(x:Int):Q5z x=IntKind.wrap .i64 (IntKind.wrap .u8 (IntKind.wrap .u8 (IntKind.wrap .u8 (pt (ishr .u32 x 24)+pt (iand .u32 (ishr .u32 x 16) 255))+pt (iand .u32 (ishr .u32 x 8) 255))+pt (iand .u32 x 255))):=by kernel_rfl
theorem pt8{a:Int}(h0:0<=a)(h1:a<256):pt a=a%2+a/2%2+a/4%2+a/8%2+a/16%2+a/32%2+a/64%2+a/128%2:=
 eq_of_beq (Qsc (λa=>pt a==a%2+a/2%2+a/4%2+a/8%2+a/16%2+a/32%2+a/64%2+a/128%2) 256 (by kernel_rfl) h0 h1)
theorem zj{g:Int}(hg:U g):bits g [0,1,2,3,4,5,6,7,8,9,10,11,12,13,14,15,16,17,18,19,20,21,22,23,24,25,26,27,28,29,30,31] 0=pt (g%256)+pt (g/256%256)+pt (g/65536%256)+pt (g/16777216):=by
 rw[vJ hg _ 0 (by decide) (by decide) (by decide),pt8 (by omega) (by omega),pt8 (by omega) (by omega),pt8 (by omega) (by omega),pt8 (by have:=hg.1;omega) (by have:=hg.2;omega)]
 obtain⟨g0,g1⟩:=hg
 simp only[List.map_cons,List.map_nil,List.sum_cons,List.sum_nil]
 have e: ∀i j:Nat,∀k:Int,i<8->k=2^j->g/2^(i+j)%2=(g/k%256)/2^i%2:=λi j k hi hk=>by
   subst hk
   rw[Nat.add_comm,Int.pow_add,<-Int.ediv_ediv_of_nonneg (Int.le_of_lt (Int.pow_pos (by decide)))]
   generalize g/2^j=x
   have:i=0\/i=1\/i=2\/i=3\/i=4\/i=5\/i=6\/i=7:=by omega
   rcases this with rfl|rfl|rfl|rfl|rfl|rfl|rfl|rfl<;>simp<;>omega
 have e0: ∀i:Nat,i<8->g/2^i%2=(g%256)/2^i%2:=λi hi=>by have:=e i 0 1 hi rfl;simpa using this
 have e24:g/16777216%256=g/16777216:=by omega
 rw[e0 0 (by decide),e0 1 (by decide),e0 2 (by decide),e0 3 (by decide),e0 4 (by decide),e0 5 (by decide),e0 6 (by decide),e0 7 (by decide)]
 rw[e 0 8 256 (by decide) (by decide),e 1 8 256 (by decide) (by decide),e 2 8 256 (by decide) (by decide),e 3 8 256 (by decide) (by decide),e 4 8 256 (by decide) (by decide),e 5 8 256 (by decide) (by decide),e 6 8 256 (by decide) (by decide),e 7 8 256 (by decide) (by decide)]
 rw[e 0 16 65536 (by decide) (by decide),e 1 16 65536 (by decide) (by decide),e 2 16 65536 (by decide) (by decide),e 3 16 65536 (by decide) (by decide),e 4 16 65536 (by decide) (by decide),e 5 16 65536 (by decide) (by decide),e 6 16 65536 (by decide) (by decide),e 7 16 65536 (by decide) (by decide)]
 rw[e 0 24 16777216 (by decide) (by decide),e 1 24 16777216 (by decide) (by decide),e 2 24 16777216 (by decide) (by decide),e 3 24 16777216 (by decide) (by decide),e 4 24 16777216 (by decide) (by decide),e 5 24 16777216 (by decide) (by decide),e 6 24 16777216 (by decide) (by decide),e 7 24 16777216 (by decide) (by decide),e24]
 generalize g%256=a
 generalize g/256%256=b
 generalize g/65536%256=c
 generalize g/16777216=d
 simp only[show(2:Int)^0=1 from rfl,show(2:Int)^1=2 from rfl,show(2:Int)^2=4 from rfl,show(2:Int)^3=8 from rfl,show(2:Int)^4=16 from rfl,show(2:Int)^5=32 from rfl,show(2:Int)^6=64 from rfl,show(2:Int)^7=128 from rfl,Int.ediv_one]
 omega
theorem pt_le{a:Int}(h0:0<=a)(h1:a<256):0<=pt a/\pt a<=8:=by rw[pt8 h0 h1];omega
theorem Z63{b:Q07}(hg:U b.C3):Qbu b=Qdk b/\0<=Qdk b/\Qdk b<=32:=by
 obtain⟨s8,s16,s24⟩:=shr_c b.C3
 have u8:U (ishr .u32 b.C3 8):=Qup hg _
 have u16:U (ishr .u32 b.C3 16):=Qup hg _
 have e:Qbu b=Q5z b.C3:=rfl
 rw[e,zK,yJ,zj hg,m255 u8,m255 u16,m255 hg,s8,s16,s24]
 obtain⟨g0,g1⟩:=hg
 have p0:=pt_le (a:=b.C3%256) (by omega) (by omega)
 have p1:=pt_le (a:=b.C3/256%256) (by omega) (by omega)
 have p2:=pt_le (a:=b.C3/65536%256) (by omega) (by omega)
 have p3:=pt_le (a:=b.C3/16777216) (by omega) (by omega)
 have w8: ∀x,IntKind.wrap .u8 x=x%256:=λx=>IntKind.wrap_u8 x
 rw[w8,w8,w8,IntKind.wrap_i64]
 omega
theorem Zdb{b:Q07}(h:okB b):Q6w b=Q3g b:=by
 obtain⟨e,l0,l1⟩:=Z63 h.2
 obtain⟨t0,t1⟩:=h.1
 simp only[Q6w,Q53,Q3g,Q97,Tree.m,letv,e]
 rw[IntKind.wrap_u32,IntKind.wrap_u64,IntKind.wrap_u64,Int.emod_eq_of_lt l0 (by omega),Int.emod_eq_of_lt l0 (by omega),Int.emod_eq_of_lt t0 (by omega)]
theorem Zjr{b:Q07}(h:okB b)(port:Int):Qos b port=Q5 b port:=by
 simp only[Qos,Qbh,Q5,Q5p,Tree.m,letv,(Z63 h.2).1]
theorem qaj(g:Int)(z:Nat):g%2^(z+1)=g%2^z+2^z*(g/2^z%2):=by
 have hp:(0:Int)<2^z:=Int.pow_pos (by decide)
 have h1:=Int.mul_ediv_add_emod g (2^z)
 have h2:=Int.mul_ediv_add_emod (g/2^z) 2
 have h3:(g/2^z)/2=g/2^(z+1):=by rw[Int.pow_succ,Int.ediv_ediv_of_nonneg (Int.le_of_lt hp)]
 have h4:=Int.mul_ediv_add_emod g (2^(z+1))
 rw[h3]at h2
 have h5:(2:Int)^(z+1)*(g/2^(z+1))=2^z*(2*(g/2^(z+1))):=by rw[Int.pow_succ,Int.mul_assoc]
 have h6:(2:Int)^z*(g/2^z)=2^z*(2*(g/2^(z+1)))+2^z*(g/2^z%2):=by rw[<-Int.mul_add,h2]
 omega
theorem qaG{b:Q07}(hg:U b.C3){P:Nat}(hP:P<=32):(Q54 b P).w (λr=>r=decide (b.C3<2^P)):=by
 unfold Q54
 have fin: ∀v:Int,0<=v->v<=32->IntKind.wrap .u64 v=(v.toNat:Int):=λv h0 h1=>by rw[IntKind.wrap_u64];omega
 refine w_lp (inv:=λz:Int=>0<=z/\z<=32/\b.C3%2^z.toNat<2^P) (μ:=Q67 b P) ⟨by decide,by decide,by have:(0:Int)<2^P:=Int.pow_pos (by decide);simpa using this⟩ (Nat.lt_succ_self _) λz ⟨z0,z1,z2⟩=> ?_
 refine w_br (λhb=> ?_) (λhb=> ?_)
 . have hb:=of_decide_eq_true hb
   have ew:IntKind.i64.wrap (z+1)=z+1:=w64 (by omega) (by omega)
   have bt:iand .u32 (ishr .u32 b.C3 (IntKind.wrap .u64 z)) 1=b.C3/2^z.toNat%2:=by
     rw[fin z z0 z1,and1 (Qup hg _),Qpi _ (by omega)]
   have bp:=qaj b.C3 z.toNat
   have zt:(z+1).toNat=z.toNat+1:=by omega
   refine w_cn (decide_eq_true (by rw[IntKind.wrap_u64];omega)) ?_
   rw[bt]
   refine w_br (λe=>w_br (λhp=> ?_) (λhp=>w_nx ?_)) (λe=>w_nx ?_)
   . have e:=eq_of_beq e
     have hp:=of_decide_eq_true hp
     show false=_
     refine(decide_eq_false λhlt=> ?_).symm
     have hle:(2:Int)^P<=2^z.toNat:=by exact_mod_cast Nat.pow_le_pow_right (show 0<2 by decide) (show P<=z.toNat by omega)
     have:b.C3/2^z.toNat=0:=Int.ediv_eq_zero_of_lt hg.1 (by omega)
     rw[this]at e;cases e
   . have e:=eq_of_beq e
     have hp:=of_decide_eq_false hp
     show(0<=IntKind.i64.wrap (z+1)/\IntKind.i64.wrap (z+1)<=32/\b.C3%2^(IntKind.i64.wrap (z+1)).toNat<2^P)/\(32-IntKind.i64.wrap (z+1)).toNat<(32-z).toNat
     rw[ew,zt]
     have hle:(2:Int)^(z.toNat+1)<=2^P:=by exact_mod_cast Nat.pow_le_pow_right (show 0<2 by decide) (show z.toNat+1<=P by omega)
     have:=Int.emod_lt_of_pos b.C3 (show(0:Int)<2^(z.toNat+1) from Int.pow_pos (by decide))
     exact⟨⟨by omega,by omega,by omega⟩,by omega⟩
   . have e: ¬b.C3/2^z.toNat%2=1:=by simpa using e
     have e:b.C3/2^z.toNat%2=0:=by omega
     rw[e]at bp
     show(0<=IntKind.i64.wrap (z+1)/\IntKind.i64.wrap (z+1)<=32/\b.C3%2^(IntKind.i64.wrap (z+1)).toNat<2^P)/\(32-IntKind.i64.wrap (z+1)).toNat<(32-z).toNat
     rw[ew,zt,bp]
     exact⟨⟨by omega,by omega,by omega⟩,by omega⟩
 . have hb:=of_decide_eq_false hb
   have:z=32:=by omega
   subst this
   show true=_
   refine(decide_eq_true ?_).symm
   have h2:b.C3%2^(32:Int).toNat=b.C3:=Int.emod_eq_of_lt hg.1 hg.2
   rwa [h2]at z2
theorem Zeb{b:Q07}(hg:U b.C3){P:Nat}(hP:P<=32):Q2f b P=Q93 b P:=by
 have r:=(Tree.pp (qaG hg hP)).2
 change Q93 b P=_ at r
 rw[r,Bool.eq_iff_iff,Qze hg,decide_eq_true_eq]
theorem zeros:strings_Repeat [(0:UInt8)] 128=List.replicate 128 0:=by kernel_rfl
theorem zaG{P:Nat}{m:List Int}(hm:Q1 P m){b:Q07}{port:Int}{v:Int}(hv:U v)(hp:v<P)(h10:port=10)(hb:(iand .u32 (ishr .u32 b.C3 v) 1==0)=true):(Q4k b m port v).w (λr=>r.1={D0:=b.D0,C3:=ior .u32 b.C3 (ishl .u32 1 v)}/\Q1 P r.2/\ ∀k:Nat,byt r.2 k=if v*128<=k/\(k:Int)<v*128+128 then 0 else byt m k):=by
 have hv0:decide (0<=v)=true:=decide_eq_true hv.1
 have h2:=hm.p2
 have pg:Q1z m v=true:=by rw[Qlc hm hv];exact decide_eq_true hp
 obtain⟨v1,v2⟩:=hv
 subst h10
 unfold Q4k
 refine w_br (λ_=>w_lv λx0 hx=>w_br (λ_=>w_cn hv0 (w_br (λ_=>w_cn hv0 ?_) (λh=>by rw[hb]at h;cases h))) (λh=>by rw[hx,pg]at h;cases h)) (λh=>by cases h)
 refine w_lp (inv:=λz=>0<=z.1/\z.1<=32/\Q1 P z.2/\ ∀k:Nat,byt z.2 k=if v*128<=k/\(k:Int)<v*128+4*z.1 then 0 else byt m k) (μ:=Qhk b m 10 v) ⟨show(0:Int)<=0 by decide,show(0:Int)<=32 by decide,hm,λk=>by rw[if_neg];show¬(_/\_<_+4*(0:Int));omega⟩ (Nat.lt_succ_self _) (λz hz=> ?_)
 obtain⟨z1,z2,z3,z4⟩:=hz
 have hl:=z3.len
 refine w_br (λh=> ?_) (λh=>⟨rfl,z3,λk=> ?_⟩)
 . have h:=of_decide_eq_true h
   have e:IntKind.wrap IntKind.i64 (IntKind.wrap IntKind.i64 (IntKind.wrap IntKind.i64 v*32)+z.1)=v*32+z.1:=by rw[IntKind.wrap_i64,IntKind.wrap_i64,IntKind.wrap_i64];omega
   refine w_cn (by rw[e];simp [Nat.blt];omega) (w_nx ?_)
   have ew:IntKind.i64.wrap (z.1+1)=z.1+1:=by rw[IntKind.wrap_i64];omega
   show(0<=IntKind.i64.wrap (z.1+1)/\IntKind.i64.wrap (z.1+1)<=32/\Q1 P (List.set _ _ _)/\ ∀k:Nat,byt (List.set z.2 (Int.toNat (IntKind.wrap IntKind.i64 (IntKind.wrap IntKind.i64 (IntKind.wrap IntKind.i64 v*32)+z.1))) 0) k=if v*128<=(k:Int)/\(k:Int)<v*128+4*IntKind.i64.wrap (z.1+1) then 0 else _)/\(32-IntKind.i64.wrap (z.1+1)).toNat<(32-z.1).toNat
   rw[ew,e]
   refine⟨⟨by omega,by omega,⟨by simp [hl],z3.p1,z3.p2,Z2w z3.u U_0 _⟩,λk=> ?_⟩,by omega⟩
   rw[Zf7 (by omega)]
   by_cases hc:k/4=(v*32+z.1).toNat
   . rw[if_pos hc,if_pos (by omega)]
     have:k%4=0\/k%4=1\/k%4=2\/k%4=3:=by omega
     rcases this with h|h|h|h<;>rw[h]<;>rfl
   . rw[if_neg hc,z4 k]
     by_cases hd:v*128<=(k:Int)/\(k:Int)<v*128+4*z.1
     . rw[if_pos hd,if_pos (by omega)]
     . rw[if_neg hd,if_neg (by omega)]
 . have h:=of_decide_eq_false h
   show byt z.2 k=_
   rw[z4 k,show z.1=32 by omega];rfl
theorem bitv{g v:Int}(hg:U g)(v0:0<=v)(v1:v<32):(iand .u32 g (ishl .u32 1 v)==0)=(iand .u32 (ishr .u32 g v) 1==0):=by
 obtain⟨z,rfl⟩: ∃z:Nat,v=z:=⟨v.toNat,by omega⟩
 obtain⟨n,rfl⟩: ∃n:Nat,g=n:=⟨g.toNat,by have:=hg.1;omega⟩
 have hz:z<32:=by omega
 have hlt:(2:Nat)^z<4294967296:=by have:=Nat.pow_lt_pow_right (show 1<2 by omega) hz;simpa using this
 rw[and1 (Qup hg _),Qpi z (by omega),yf v0 v1,Int.toNat_natCast]
 have hc:((2:Int)^z)=((2^z:Nat):Int):=by simp
 generalize hq:2^z=q at*
 rw[hc,Zfm hg ⟨by omega,by omega⟩,Int.toNat_natCast,Int.toNat_natCast,<-hq]
 have e1:(n&&&2^z)=0↔n/2^z%2=0:=by
   have t:n.testBit z=decide (n/2^z%2=1):=Nat.testBit_eq_decide_div_mod_eq
   constructor
   . intro h
     have h2:(n&&&2^z).testBit z=false:=by rw[h];exact Nat.zero_testBit z
     rw[Nat.testBit_and,Nat.testBit_two_pow_self,Bool.and_true,t]at h2
     have:=of_decide_eq_false h2
     omega
   . intro h
     have t0:n.testBit z=false:=by rw[t];exact decide_eq_false (by omega)
     apply Nat.eq_of_testBit_eq
     intro i
     rw[Nat.testBit_and,Nat.testBit_two_pow,Nat.zero_testBit]
     by_cases hi:z=i
     . subst hi;rw[t0];rfl
     . rw[decide_eq_false hi,Bool.and_false]
 rw[Bool.eq_iff_iff,beq_iff_eq,beq_iff_eq]
 constructor
 . intro h;have:=e1.1 (by omega);omega
 . intro h;have:=e1.2 (by omega);omega
theorem Zg3{P:Nat}{m:List Int}(h:Q1 P m){b:Q07}(hb:okB b)(port:Int){v:Int}(hv:U v):Q7l b m port v=Q5w b m port v:=by
  have hcl:Q03 m=m:=rfl
  have hp:=Q3c h
  have h2:=h.p2
  have ew:IntKind.i64.wrap v=v:=w64 (by have:=hv.1;omega) (by have:=hv.2;omega)
  have pe:=Qlc h hv
  by_cases h32:v<32
  . have bv :=bitv hb.2 hv.1 h32
    by_cases h10:port=10
    . by_cases hP:v<P
      . cases hz:iand .u32 (ishr .u32 b.C3 v) 1==0
        . simp only[Q7l,Q3q,Q5w,Q4k,Tree.m,letv,hcl,hp,ew,pe,bv,hz,h10,decide_eq_true hP,decide_eq_false (show¬v>=32 by omega)]
          rfl
        . obtain⟨g1,g2,g3⟩:=(Tree.pp (zaG h hv hP h10 hz)).2
          change(Q5w b m port v).1=_ at g1
          change Q1 P (Q5w b m port v).2 at g2
          change∀k:Nat,byt (Q5w b m port v).2 k=_ at g3
          obtain⟨s1,s2,s3⟩:=(Tree.pp (Qzr h hv.1 hP (s:=List.replicate 128 0) (by simp))).2
          have em:(Q2k m v (List.replicate 128 0)).1=(Q5w b m port v).2:=by
            refine Zgv (s2.len.trans g2.len.symm) s2.u g2.u λk=> ?_
            rw[g3 k]
            refine(s3 k).trans ?_
            by_cases hk:v*128<=(k:Int)/\(k:Int)<v*128+128
            . rw[if_pos hk,if_pos hk]
              have:(List.replicate 128 (0:UInt8)).getD ((k:Int)-v*128).toNat 0=0:=by
                rw[List.getD_eq_getElem?_getD,List.getElem?_replicate]
                split<;>rfl
              rw[this];rfl
            . rw[if_neg hk,if_neg hk]
          have el:Q7l b m port v=({D0:=b.D0,C3:=ior .u32 b.C3 (ishl .u32 1 v)},(Q2k m v (List.replicate 128 0)).1):=by
            simp only[Q7l,Q3q,Tree.m,letv,hcl,hp,ew,bv,hz,h10,decide_eq_true hP,decide_eq_false (show¬v>=32 by omega),zeros]
            rfl
          rw[el,em,<-g1]
      . simp only[Q7l,Q3q,Q5w,Q4k,Tree.m,letv,hcl,hp,ew,pe,h10,decide_eq_false hP,decide_eq_false (show¬v>=32 by omega)]
        rfl
    . simp only[Q7l,Q3q,Q5w,Q4k,Tree.m,letv,hcl,decide_eq_true h32,decide_eq_false (show¬v>=32 by omega),show(port==10)=false by simpa using h10]
      cases port==11<;>rfl
  . simp only[Q7l,Q3q,Q5w,Q4k,Tree.m,letv,hcl,pe,decide_eq_false h32,decide_eq_true (show v>=32 by omega),decide_eq_false (show¬v<P by omega)]
    cases port==10<;>cases port==11<;>rfl
structure okV(m:Q00):Prop where
 cpu:Q2b m.B2
 mem: ∀w∈m.Mem,U w
 disk:Q8i m.B1
 nic:Qig m.C5
 bal:okB m.A2
 cnt:0<=m.A1
theorem Qms(m:List Int)(hm: ∀w∈m,U w):Q0v m=Q3p m/\(Q0v m=0\/ ∃P:Nat,1<=P/\Q1 P m):=by
 refine⟨rfl,?_⟩
 simp only[Q0v,Q85,Tree.m]
 cases h1:Int.tmod (m.length:Int) 32 !=0
 . cases h2:decide ((m.length:Int)>1024)
   . have h1:Int.tmod (m.length:Int) 32=0:=by simpa using h1
     have h2:=of_decide_eq_false h2
     rw[Int.tmod_eq_emod_of_nonneg (by omega)]at h1
     by_cases h0:m.length=0
     . left;rw[h0];rfl
     . right;exact⟨m.length/32,by omega,⟨by omega,by omega,by omega,hm⟩⟩
   . left;rfl
 . left;rfl
theorem rcnd{a x:Bool}:(bif !a then false else x)=true↔a=true/\x=true:=by cases a<;>simp
theorem yK(m:Q00):Q7f m=true↔ ¬(Q3p m.Mem<1)/\Q5n m.B2/\Qi0 m.A3=true/\Qch m.B0=true/\Qeo m.B1 (Q3p m.Mem)=true/\Qh8 m.C5 (Q3p m.Mem)=true/\Q93 m.A2 (Q3p m.Mem)=true/\m.A1<=1152921504606846976/\ ¬(m.A4=true/\m.A7=true):=by
 simp only[Q7f,Qti,Tree.m,letv]
 rw[cnd2,cnd2,cnd2,cnd2,cnd2,cnd2,rcnd,rcnd,rcnd,rcnd,rcnd]
 simp only[decide_eq_false_iff_not,Int.not_lt,bne_eq_false_iff_eq,gt_iff_lt]
 have l:((bif decide (m.A1<=1152921504606846976) then(bif m.A4 then !m.A7 else true) else false)=true)↔m.A1<=1152921504606846976/\ ¬(m.A4=true/\m.A7=true):=by
   by_cases hc:m.A1<=1152921504606846976
   . rw[decide_eq_true hc]
     cases m.A4<;>cases m.A7<;>simp [hc]
   . rw[decide_eq_false hc];simp [hc]
 rw[l]
 constructor
 . rintro⟨a1,a2,a3,a4,a5,a6,a7⟩
   exact⟨by omega,⟨a2,a3,a4,a5,a6⟩,a7⟩
 . rintro⟨a1,⟨a2,a3,a4,a5,a6⟩,a7⟩
   exact⟨by omega,a2,a3,a4,a5,a6,a7⟩
theorem Z7n{m:Q00}(h:okV m):Q1a m=Q7f m:=by
 rw[Bool.eq_iff_iff,Qj7,yK,qf]
 obtain⟨e,c⟩:=Qms m.Mem h.mem
 simp only[Bool.and_eq_true,<-e]
 rcases c with c|⟨P,hP,hm⟩
 . constructor
   . rintro⟨a,_⟩;exact absurd c a
   . rintro⟨a,_⟩;omega
 . rw[Q3c hm,Z38,Z83,Zd3,Zeb h.bal.2 hm.p2]
   constructor
   . rintro⟨a1,a2,a3,a4,a5,a6,a7,a8,a9⟩;exact⟨by omega,a2,a5,a6,a7,a8,a9,a3,a4⟩
   . rintro⟨a1,a2,a5,a6,a7,a8,a9,a3,a4⟩;exact⟨by omega,a2,a3,a4,a5,a6,a7,a8,a9⟩
def Z9l(a b c d e:Bool):Int:=ior .u32 (ior .u32 (ior .u32 (ior .u32 (Q8n a 0) (Q8n b 1)) (Q8n c 2)) (Q8n d 3)) (Q8n e 4)
theorem mlines(m:Q00):Qc8 m=Z9l (Qg5 m.B0) (Q8w m.A3) (Q8v m.B1) (Qle m.C5) (Q6w m.A2):=by
 unfold Qc8 Q6o
 simp only[Tree.m,letv]
 generalize Qg5 m.B0=a
 generalize Q8w m.A3=b
 generalize Q8v m.B1=c
 generalize Qle m.C5=d
 generalize Q6w m.A2=e
 cases a<;>cases b<;>cases c<;>cases d<;>cases e<;>kernel_rfl
theorem Zka(a b c d e:Bool):0<=Z9l a b c d e/\Z9l a b c d e<32:=by
 cases a<;>cases b<;>cases c<;>cases d<;>cases e<;>decide
theorem rlines(m:Q00):Qgg m=Z9l (Q9u m.B0) (Q5d m.A3) (Qap m.B1) (Qce m.C5) (Q3g m.A2):=rfl
section
variable {m:Q00} (h:okV m)
include h
theorem Zk:Qc8 m=Qgg m:=by
 rw[mlines,rlines,qK,Zdb h.bal];rfl
theorem Qvj:Q57 m=Q2s m:=by
 have e:=Zk h
 simp only[Q57,Q2r,Q2s,Q87,Tree.m,letv,e]
theorem Zdj:Q39 m=Qbt m:=by
 have e:=Qvj h
 simp only[Q39,Q2v,Qbt,Qd7,Tree.m,letv,e]
theorem Qr2:Q23 m=!Q0y m:=by
 have e1:=Z7n h
 have e2:=Zdj h
 have e3:decide (m.A1>=1152921504606846976)=!decide (m.A1<1152921504606846976):=xj
 simp only[Q23,Q3t,Q0y,Q73,Tree.m,letv,e1,e2,e3]
 cases Q7f m<;>cases m.A7<;>cases Qbt m<;>cases decide (m.A1<1152921504606846976)<;>rfl
theorem Z4u:0<=Q2s m/\Q2s m<32:=by
 have e:Q2s m=iand .u32 (Qgg m) m.B2.B6.a7:=rfl
 have l:=Zka (Q9u m.B0) (Q5d m.A3) (Qap m.B1) (Qce m.C5) (Q3g m.A2)
 rw[<-rlines]at l
 rw[e,Zfm ⟨l.1,by omega⟩ h.cpu.a7]
 have:=Nat.and_le_left (n:=(Qgg m).toNat) (m:=m.B2.B6.a7.toNat)
 omega
def low(l:Int):Int:=if l%2=1 then 0 else if l/2%2=1 then 1 else if l/4%2=1 then 2 else if l/8%2=1 then 3 else 4
end
theorem cases32{l:Int}(h0:0<=l)(h1:l<32):l=0\/l=1\/l=2\/l=3\/l=4\/l=5\/l=6\/l=7\/l=8\/l=9\/l=10\/l=11\/l=12\/l=13\/l=14\/l=15\/l=16\/l=17\/l=18\/l=19\/l=20\/l=21\/l=22\/l=23\/l=24\/l=25\/l=26\/l=27\/l=28\/l=29\/l=30\/l=31:=by omega
def intr(m:Q00)(l:Int):Q04:=bif iand .u32 m.B2.B6.a0 2==0 then m.B2 else bif l==0 then m.B2 else Q2m m.B2 (IntKind.wrap .i64 (16+low l)) 0
theorem rintr{m:Q00}(h:okV m):Q0m m=intr m (Q2s m):=by
 obtain⟨l0,l1⟩:=Z4u h
 unfold Q0m Q4c
 simp only[Tree.m,letv]
 revert l0 l1
 generalize Q2s m=l
 intro l0 l1
 unfold intr
 cases iand .u32 m.B2.B6.a0 2==0
 . rcases cases32 l0 l1 with rfl|rfl|rfl|rfl|rfl|rfl|rfl|rfl|rfl|rfl|rfl|rfl|rfl|rfl|rfl|rfl|rfl|rfl|rfl|rfl|rfl|rfl|rfl|rfl|rfl|rfl|rfl|rfl|rfl|rfl|rfl|rfl<;>kernel_rfl
 . rfl
def beg(m:Q00)(c:Q04):Q00:={B2:=c,Mem:=m.Mem,A3:=m.A3,B0:=m.B0,B1:=m.B1,C5:=m.C5,A2:=m.A2,A1:=m.A1,A4:=false,A7:=m.A7}
theorem Quu{m:Q00}(h:okV m)(hst:m.B2.B6.a0<=31):Q0p m=beg m (Q0m m):=by
 obtain⟨l0,l1⟩:=Z4u h
 have tr: ∀k b,Q48 m.B2 k b=Q2m m.B2 k b:=Qmw h.cpu.a0.1 hst
 have e:Q57 (beg m m.B2)=Q2s m:=Qvj (m:=beg m m.B2) ⟨h.cpu,h.mem,h.disk,h.nic,h.bal,h.cnt⟩
 rw[rintr h]
 unfold Q0p Q2n
 simp only[Tree.m,letv]
 rw[show Q57 {B2:=m.B2,Mem:=m.Mem,A3:=m.A3,B0:=m.B0,B1:=m.B1,C5:=m.C5,A2:=m.A2,A1:=m.A1,A4:=false,A7:=m.A7}=Q2s m from e]
 revert l0 l1
 generalize Q2s m=l
 intro l0 l1
 unfold intr
 simp only[<-tr]
 cases iand .u32 m.B2.B6.a0 2==0
 . rcases cases32 l0 l1 with rfl|rfl|rfl|rfl|rfl|rfl|rfl|rfl|rfl|rfl|rfl|rfl|rfl|rfl|rfl|rfl|rfl|rfl|rfl|rfl|rfl|rfl|rfl|rfl|rfl|rfl|rfl|rfl|rfl|rfl|rfl|rfl<;>(show _=_;kernel_rfl)
 . rfl
theorem ports{p:Int}:p=0\/p=1\/p=2\/p=3\/p=4\/p=5\/p=6\/p=7\/p=8\/p=9\/p=10\/p=11\/p<0\/12<=p:=by omega
theorem zaj{m:Q00}(hb:okB m.A2)(port clock:Int):Q10 m port clock=((Qc1 m port clock).2,(Qc1 m port clock).1):=by
 have e1:=Zji m.A3
 have e2: ∀p,Qun m.B1 p=Qgm m.B1 p:=λ_=>rfl
 have e3:=Zjw m.C5
 have e4:=Zjr hb
 have e5:Qyk m.B0=Qe5 m.B0:=rfl
 simp only[Q10,Q3,Qc1,Qjo,Tree.m,letv,e1,e2,e3,e4,e5]
 rcases ports (p:=port) with rfl|rfl|rfl|rfl|rfl|rfl|rfl|rfl|rfl|rfl|rfl|rfl|h|h
 all_goals first|rfl|skip
 . have n: ∀k:Int,0<=k->(port==k)=false:=λk hk=>beq_eq_false_iff_ne.2 (by omega)
   have c:Q4y m.A3 port=(m.A3,0):=by
     simp only[Q4y,Q38,Tree.m,n 0 (by decide),n 1 (by decide),cond_false]
   simp only[n 0 (by decide),n 1 (by decide),n 2 (by decide),n 3 (by decide),n 4 (by decide),n 5 (by decide),n 6 (by decide),n 7 (by decide),n 8 (by decide),n 9 (by decide),n 10 (by decide),n 11 (by decide),cond_false,decide_eq_true (show port<=1 by omega),cond_true,c]
 . have n: ∀k:Int,k<12->(port==k)=false:=λk hk=>beq_eq_false_iff_ne.2 (by omega)
   have c:Q5 m.A2 port=0:=by
     simp only[Q5,Q5p,Tree.m,n 10 (by decide),n 11 (by decide),cond_false]
   simp only[n 0 (by decide),n 1 (by decide),n 2 (by decide),n 3 (by decide),n 4 (by decide),n 5 (by decide),n 6 (by decide),n 7 (by decide),n 8 (by decide),n 9 (by decide),n 10 (by decide),n 11 (by decide),cond_false,decide_eq_false (show¬port<=1 by omega),decide_eq_false (show¬port<=6 by omega),decide_eq_false (show¬port<=9 by omega),c]
theorem vK{P:Nat}{m:Q00}(hm:Q1 P m.Mem)(hb:okB m.A2)(port:Int){v:Int}(hv:U v):Q2e m port v m.A1=((Qa3 m port v).2,(Qa3 m port v).1):=by
 have e1:=Z9w hm m.B1
 have e2:=Zgm hm m.C5
 have e3:=Zg3 hm hb port hv
 have e4:=xK m.B0 v
 simp only[Q2e,Q3e,Qa3,Qct,Tree.m,letv,e1,e2,e3,e4]
 rcases ports (p:=port) with rfl|rfl|rfl|rfl|rfl|rfl|rfl|rfl|rfl|rfl|rfl|rfl|h|h
 all_goals first|rfl|skip
 . have n: ∀k:Int,0<=k->(port==k)=false:=λk hk=>beq_eq_false_iff_ne.2 (by omega)
   simp only[n 0 (by decide),n 1 (by decide),n 2 (by decide),n 3 (by decide),n 4 (by decide),n 5 (by decide),n 6 (by decide),n 7 (by decide),n 8 (by decide),n 9 (by decide),n 10 (by decide),n 11 (by decide),cond_false,decide_eq_true (show port<=2 by omega),cond_true]
 . have n: ∀k:Int,k<12->(port==k)=false:=λk hk=>beq_eq_false_iff_ne.2 (by omega)
   have c:Q5w m.A2 m.Mem port v=(m.A2,m.Mem):=by
     simp only[Q5w,Q4k,Tree.m,n 10 (by decide),n 11 (by decide),cond_false]
   simp only[n 0 (by decide),n 1 (by decide),n 2 (by decide),n 3 (by decide),n 4 (by decide),n 5 (by decide),n 6 (by decide),n 7 (by decide),n 8 (by decide),n 9 (by decide),n 10 (by decide),n 11 (by decide),cond_false,decide_eq_false (show¬port<=2 by omega),decide_eq_false (show¬port<=6 by omega),decide_eq_false (show¬port<=9 by omega),c]
def tick(n:Q00)(c:Q04)(w h:Bool):Q00:={B2:=c,Mem:=n.Mem,A3:=n.A3,B0:=n.B0,B1:=n.B1,C5:=n.C5,A2:=n.A2,A1:=IntKind.wrap .u64 (n.A1+1),A4:=w,A7:=h}
def withX(m:Q00)(c:Q04)(mem:List Int):Q00:={B2:=c,Mem:=mem,A3:=m.A3,B0:=m.B0,B1:=m.B1,C5:=m.C5,A2:=m.A2,A1:=m.A1,A4:=false,A7:=m.A7}
def finP(n:Q00)(e:Q11)(clock at0:Int):Q00×List Q02:=
 bif e.B5==1 then
   (bif e.E0 !=0 then(tick (Q10 n e.D1 clock).1 {X:=A16.of 0 (List.set (A16.l (Q10 n e.D1 clock).1.B2.X) e.E0.toNat (Q10 n e.D1 clock).2),Pc:=(Q10 n e.D1 clock).1.B2.Pc,B6:=(Q10 n e.D1 clock).1.B2.B6} (Q10 n e.D1 clock).1.A4 (Q10 n e.D1 clock).1.A7,[])
   else(tick (Q10 n e.D1 clock).1 (Q10 n e.D1 clock).1.B2 (Q10 n e.D1 clock).1.A4 (Q10 n e.D1 clock).1.A7,[]))
 else bif e.B5==2 then(tick (Q2e n e.D1 e.Value at0).1 (Q2e n e.D1 e.Value at0).1.B2 (Q2e n e.D1 e.Value at0).1.A4 (Q2e n e.D1 e.Value at0).1.A7,(Q2e n e.D1 e.Value at0).2)
 else bif e.B5==3 then(tick n n.B2 true n.A7,[]) else bif e.B5==4 then(tick n n.B2 n.A4 true,[]) else(tick n n.B2 n.A4 n.A7,[])
def finR(n:Q00)(e:Q11)(clock:Int):List Q02×Q00:=
 bif e.B5==1 then([],tick (Qc1 n e.D1 clock).2 (Q1p (Qc1 n e.D1 clock).2.B2 e.E0 (Qc1 n e.D1 clock).1) (Qc1 n e.D1 clock).2.A4 (Qc1 n e.D1 clock).2.A7)
 else bif e.B5==2 then((Qa3 n e.D1 e.Value).1,tick (Qa3 n e.D1 e.Value).2 (Qa3 n e.D1 e.Value).2.B2 (Qa3 n e.D1 e.Value).2.A4 (Qa3 n e.D1 e.Value).2.A7)
 else bif e.B5==3 then([],tick n n.B2 true n.A7) else bif e.B5==4 then([],tick n n.B2 n.A4 true) else([],tick n n.B2 n.A4 n.A7)
theorem vW(m:Q00)(clock:Int):Q0a m clock=finR (withX m (Q6m (Q0m m) m.Mem).1 (Q6m (Q0m m) m.Mem).2.2) (Q6m (Q0m m) m.Mem).2.1 clock:=by kernel_rfl
theorem Zib(m:Q00)(clock:Int):Q29 m clock=bif !Q23 m then(m,[]) else finP {B2:=(Q4s (Q0p m).B2 (Q0p m).Mem).1,Mem:=(Q4s (Q0p m).B2 (Q0p m).Mem).2.1,A3:=(Q0p m).A3,B0:=(Q0p m).B0,B1:=(Q0p m).B1,C5:=(Q0p m).C5,A2:=(Q0p m).A2,A1:=(Q0p m).A1,A4:=(Q0p m).A4,A7:=(Q0p m).A7} (Q4s (Q0p m).B2 (Q0p m).Mem).2.2 clock m.A1:=by kernel_rfl
theorem xaj(m:List Int):Qr3 m=m:=by
 simp [Qr3,Qdg,Tree.m]
theorem Z5x(m:Q00):Qkr m=m:=by
 simp only[Qkr,Qbe,Tree.m,letv,xaj]
def Zct(m:Q00)(clock:Int):Q00×List Q02:=bif Q0y m then(m,[]) else((Q0a m clock).2,(Q0a m clock).1)
def Qiv(m:Q00)(e:Q0d):Tree (Q00×Bool):=
 .an (Qes m) (.lv (Qkr m) λ(x0:Q00)=> .lv (Q7f x0) λ(x1:Bool)=> .br (!x1) (.lf (x0,false)) (.an (Qpt x0 e) (.lv (Q0o x0 e) λ(x2:Bool×Q00)=> .lf (x2.2,x2.1))))
def Qk4(m:Q00)(e:Q0d):Q00×Bool:=(Qiv m e).m
theorem Z8e(m:Q00)(clock:Int):Zct m clock=bif Q0y m then(m,[]) else((Q0a m clock).2,(Q0a m clock).1):=rfl
theorem qL{P:Nat}{n:Q00}(hm:Q1 P n.Mem)(hb:okB n.A2){e:Q11}(hr:0<=e.E0/\e.E0<16)(hv:U e.Value)(clock:Int):finP n e clock n.A1=((finR n e clock).2,(finR n e clock).1):=by
 unfold finP finR
 rw[zaj hb e.D1 clock,vK hm hb e.D1 hv]
 cases e.B5==1
 . cases e.B5==2
   . cases e.B5==3
     . cases e.B5==4<;>rfl
     . rfl
   . rfl
 . generalize Qc1 n e.D1 clock=r
   have s:=Qya r.2.B2 hr r.1
   show(bif e.E0 !=0 then _ else _)=(tick r.2 (Q1p r.2.B2 e.E0 r.1) r.2.A4 r.2.A7,[])
   rw[<-s]
   simp only[Qa7,Qc0,Tree.m]
   cases e.E0 !=0<;>rfl
theorem Z9z{m:Q00}(h:okV m)(clock:Int):Q29 m clock=Zct m clock:=by
 rw[Zib,Z8e,Qr2 h]
 cases hs:Q0y m
 . have hr:Q23 m=true:=by rw[Qr2 h,hs];rfl
   obtain⟨hm,hh,hct⟩:=Qy4 hr
   obtain⟨g1,g2,g3,g4,g5⟩:=(Qj7 m).1 hm
   rcases(Qms m.Mem h.mem).2 with c|⟨P,hP,hmem⟩
   . exact absurd c g1
   have okm:okS P m:=⟨h.cpu,hmem,h.disk,h.nic,h.bal.1,h.bal.2⟩
   obtain⟨b1,b2,b3,_⟩:=(Tree.pp (Qrc okm g2)).2
   change Q5n (Q0p m).B2 at b1
   change okS P (Q0p m) at b2
   change(Q0p m).Mem=m.Mem at b3
   have be:=Quu h g2.st
   have b1':Q5n (Q0m m):=by have:=b1;rw[be]at this;exact this
   have b2':Q2b (Q0m m):=by have:=b2.cpu;rw[be]at this;exact this
   have ex:=Zbv hmem b2' b1'.st
   have er:=(Tree.pp (Zj0 b2' hmem)).2
   change 0<=(Q4s (Q0m m) m.Mem).2.2.E0/\(Q4s (Q0m m) m.Mem).2.2.E0<16 at er
   obtain⟨d1,d2,d3⟩:=(Tree.pp (do_w b2' hmem)).2
   change U (Q6m (Q0m m) m.Mem).2.1.Value at d2
   change Q1 P (Q6m (Q0m m) m.Mem).2.2 at d3
   rw[ex]at er
   rw[vW,be]
   show finP {B2:=(Q4s (Q0m m) m.Mem).1,Mem:=(Q4s (Q0m m) m.Mem).2.1,A3:=m.A3,B0:=m.B0,B1:=m.B1,C5:=m.C5,A2:=m.A2,A1:=m.A1,A4:=false,A7:=m.A7} (Q4s (Q0m m) m.Mem).2.2 clock m.A1=_
   rw[ex]
   exact qL (n:=withX m (Q6m (Q0m m) m.Mem).1 (Q6m (Q0m m) m.Mem).2.2) d3 h.bal er d2 clock
 . rfl
theorem Z59{m:Q00}(h:okV m)(e:Q0d):Q7n m e=Qk4 m e:=by
 have hcl:Q03 m.Mem=m.Mem:=rfl
 have mm:=Z7n h
 have t1:Qjv m.B0=Q5x m.B0:=rfl
 have t2: ∀b,Qmf m.A3 b=Qk1 m.A3 b:=λ_=>rfl
 simp only[Q7n,Q3w,Qk4,Qiv,Q0o,Q43,Tree.m,letv,Z5x,hcl,t1,t2]
 rw[show Q1a {B2:=m.B2,Mem:=m.Mem,A3:=m.A3,B0:=m.B0,B1:=m.B1,C5:=m.C5,A2:=m.A2,A1:=m.A1,A4:=m.A4,A7:=m.A7}=Q7f m from mm]
 cases hM:Q7f m
 . rfl
 have hM':Q1a m=true:=mm.trans hM
 rcases(Qms m.Mem h.mem).2 with c|⟨P,hP,hmem⟩
 . exact absurd c ((Qj7 m).1 hM').1
 have cs:=Z7h hmem h.disk e
 have rs:=Zd hmem h.nic e.C8
 clear mm hM hM' hcl h
 obtain⟨c,mem,con,ti,d,n,b,ct,w,hl⟩:=m
 cases hl
 . by_cases k2:e.B5=2
   . rw[k2];cases e.N==0<;>cases decide (e.C8=[])<;>rfl
   by_cases k3:e.B5=3
   . rw[k3];cases decide (e.N<=255)<;>cases decide (e.C8=[])<;>rfl
   by_cases k4:e.B5=4
   . rw[k4,cs];rfl
   by_cases k5:e.B5=5
   . rw[k5,rs];cases e.N==0<;>rfl
   by_cases k6:e.B5=6
   . rw[k6];cases decide (e.C8=[])<;>rfl
   . rw[show(e.B5==2)=false by simpa using k2,show(e.B5==3)=false by simpa using k3,show(e.B5==4)=false by simpa using k4,show(e.B5==5)=false by simpa using k5,show(e.B5==6)=false by simpa using k6]
     rfl
 . rfl
theorem qak{l acts:List Int}{x0:Bool}(hx0:x0=Qsd l acts)(hb:(!x0)=false):l.length<=40/\acts.length<=30:=by
 have hb:x0=true:=by simpa using hb
 rw[hb]at hx0
 simp only[Qsd,Qv3,Tree.m]at hx0
 cases h1:decide ((l.length:Int)<=40)<;>rw[h1]at hx0
 . cases hx0
 . have:=of_decide_eq_true hx0.symm
   have:=of_decide_eq_true h1
   omega
section
variable {m:Q00} (h:okV m) (hl:m.Mem.length<=1024)
include h
theorem may_P(hm:Q1a m=true): ∃P,okS P m/\okM P m:=by
 rcases(Qms m.Mem h.mem).2 with c|⟨P,hP,hmem⟩
 . exact absurd c ((Qj7 m).1 hm).1
 . exact⟨P,⟨h.cpu,hmem,h.disk,h.nic,h.bal.1,h.bal.2⟩,⟨h.cpu,hmem,h.disk,h.nic,h.bal,h.cnt⟩⟩
include hl
theorem yj{clock:Int}(hk:U clock):Q7r m clock/\(Q29 m clock).2.length<=1/\(Q29 m clock).1.Mem.length<=1024:=by
 cases hr:Q23 m
 . have e:Q29 m clock=(m,[]):=by rw[Zib,hr];rfl
   rw[e]
   refine⟨?_,Nat.zero_le _,hl⟩
   have hcl:Q03 m.Mem=m.Mem:=rfl
   show(Q2l m clock).p
   unfold Tree.p Q2l
   refine w_an (by show m.Mem.length<=35184372088832;omega) (w_lv λl hl=> ?_)
   rw[hcl]at hl;subst hl
   refine w_an (Tree.pp (Zfd (m:=⟨_,_,_,_,_,_,m.A2,_,_,_⟩) h.bal.2)).1 (w_lv λx1 hx1=>w_br (λ_=>trivial) (λhb=> ?_))
   have:x1=false:=hx1.trans hr
   rw[this]at hb;cases hb
 . obtain⟨P,s,_⟩:=may_P h (Qy4 hr).1
   have g:=Tree.pp (xg s h.cnt hk)
   have ml:=g.2.2.ok.mem.len
   have mp:=g.2.2.ok.mem.p2
   exact⟨g.1,g.2.1,by show(Q2l m clock).m.1.Mem.length<=1024;omega⟩
omit h hl in
theorem xL{P:Nat}(h:okM P m){e:Q0d}(he:U e.N):(Q43 m e).w (λx=>okM P x.2):=by
 have k:=h
 obtain⟨h1,h2,h3,h4,h5,h7⟩:=h
 unfold Q43
 repeat'(first
   |exact k
   |exact⟨h1,h2,h3,h4,⟨he,h5.2⟩,h7⟩
   |exact w_lv λ_ _=>⟨h1,h2,h3,h4,h5,h7⟩
   |exact Q0e (zZ _ _) λ_ _=>⟨h1,h2,h3,h4,h5,h7⟩
   |exact Q0e (Zhh h2 h3 _) λx hx=>⟨h1,hx.2,hx.1,h4,h5,h7⟩
   |exact Q0e (Zil h2 h4 _) λx hx=>⟨h1,hx.2,h3,hx.1,h5,h7⟩
   |refine w_br (λ_=> ?_) (λ_=> ?_))
theorem Zll{e:Q0d}(he:U e.N):Qde m e:=by
 cases hm:Q1a m
 . have hcl:Q03 m.Mem=m.Mem:=rfl
   show(Q3w m e).p
   unfold Tree.p Q3w
   refine w_an (by show m.Mem.length<=35184372088832;omega) (w_lv λl hl=> ?_)
   rw[hcl]at hl;subst hl
   refine w_an (Tree.pp (Zhg (m:=⟨_,_,_,_,_,_,m.A2,_,_,_⟩) h.bal.2)).1 (w_lv λx1 hx1=>w_br (λ_=>trivial) (λhb=> ?_))
   have:x1=false:=hx1.trans hm
   rw[this]at hb;cases hb
 . obtain⟨P,s,o⟩:=may_P h hm
   exact(Tree.pp (Zim o he)).1
end
theorem zak(a:Q00)(ha:a.Mem.length<=1000000000000):(Qht a a).w (λb=>b=true):=by
 unfold Qht
 repeat'(first
   |refine w_br (λ_=> ?_) (λh=>absurd h (by simp [eqs,eq1];done))
   |exact w_an ha (w_lv λx hx=>by rw[hx];exact Z5g _ ha)
   |refine w_an ha (w_lv λx hx=>w_br (λ_=> ?_) (λh=>by rw[hx,Z5g _ ha]at h;cases h))
   |exact rfl)
 all_goals(show(_==_)=true;simp)
theorem vj(a:List Q02)(ha:a.length<=1000000000000):(Q4d a a).w (λb=>b=true):=by
 unfold Q4d
 refine w_br (λh=>by simp at h) (λ_=> ?_)
 refine w_lp (inv:=λv:Int=>0<=v/\v<=a.length) (μ:=Q5j a a) ⟨by omega,by omega⟩ (Nat.lt_succ_self _) λv ⟨h1,h2⟩=> ?_
 refine w_br (λhb=> ?_) (λ_=>rfl)
 have hb:=of_decide_eq_true hb
 have e:IntKind.i64.wrap (v+1)=v+1:=by rw[IntKind.wrap_i64];omega
 refine w_cn (by simp [Nat.blt];omega) (w_cn (by simp [Nat.blt];omega) (w_br (λh=>by simp [eqs,eq1]at h) (λ_=>w_nx ?_)))
 show(_/\_)/\(_:Nat)<_
 exact⟨⟨by rw[e];omega,by rw[e];omega⟩,by show(a.length-IntKind.i64.wrap (v+1)).toNat<(a.length-v).toNat;rw[e];omega⟩
def Tree.V{β:Type}(t:Tree β)(W:β->Prop):Prop:=W t.m
section
variable {α β:Type} {W:β->Prop} {c:Bool} {t e:Tree β}
theorem v_lf{x:β}(h:W x):Tree.V (.lf x) W:=h
theorem v_nx{f:Prop}{x:β}{hf:f}(h:W x):Tree.V (.nx f x hf) W:=h
theorem v_br(h:c=true->Tree.V t W)(g:c=false->Tree.V e W):Tree.V (.br c t e) W:=by
 cases c
 . exact g rfl
 . exact h rfl
theorem v_cn(g:Tree.V t W):Tree.V (.cn c t) W:=g
theorem v_an{p:Prop}(g:Tree.V t W):Tree.V (.an p t) W:=g
theorem v_lv{x:α}{k:α->Tree β}(h: ∀y,y=x->Tree.V (k y) W):Tree.V (.lv x k) W:=h x rfl
theorem v_lp{d:Inhabited β}{n:Nat}{f:Prop}{x:α}{k:α->Tree (α⊕β)}{hf:f}{inv:α->Prop}{μ:α->Nat}(h:inv x)(hn:μ x<n)(g: ∀y,inv y->Tree.V (k y) (Sum.elim (λz=>inv z/\μ z<μ y) W)):Tree.V (.lp d n f x k hf) W:=by
 refine yy (P:=inv) (R:=W) (μ:=μ) (λa ha=> ?_) n x h hn
 have:=g a ha
 unfold Tree.V at this
 revert this
 cases(k a).m with
 |inl z=>exact λh=>h
 |inr b=>exact λh=>h
end
def Z32(r:Q01)(m:Q00):Q01:={A0:=m,A9:=r.A9,C0:=r.C0,A6:=r.A6}
theorem xaG(r:Q01)(port clock:Int):Qs2 r port clock=((Qc1 r.A0 port clock).1,Z32 r (Qc1 r.A0 port clock).2):=by
 simp only[Qs2,Qhm,Qc1,Qjo,Tree.m,letv]
 cases decide (port<=1)<;>cases port==2<;>cases port==3<;>cases decide (port<=6)<;>cases decide (port<=9)<;>rfl
theorem xak(r:Q01)(port v:Int):Qor r port v=((Qa3 r.A0 port v).1,Z32 r (Qa3 r.A0 port v).2):=by
 simp only[Qor,Qba,Qa3,Qct,Tree.m,letv]
 cases port==0<;>cases decide (port<=2)<;>cases port==3<;>cases decide (port<=6)<;>cases decide (port<=9)<;>rfl
theorem qaH{r:Q01}{c:Bool}{x y:Bool×Q01}{x' y':Bool×Q00}(hx:x=(x'.1,Z32 r x'.2))(hy:y=(y'.1,Z32 r y'.2)):cond c x y=((cond c x' y').1,Z32 r (cond c x' y').2):=by cases c<;>assumption
theorem xk(r:Q01)(e:Q0d):Qir r e=((Q0o r.A0 e).1,Z32 r (Q0o r.A0 e).2):=by
 simp only[Qir,Q8b,Q0o,Q43,Tree.m,letv]
 repeat'(first|rfl|refine qaH ?_ ?_)
theorem Z7b(r:Q01)(clock:Int):Q6e r clock=((Q0a r.A0 clock).1,Z32 r (Q0a r.A0 clock).2):=by
 simp only[Q6e,Q5q,Q0a,Q83,Tree.m,letv,xaG,xak,Z32]
 cases(Q6m (Q0m r.A0) r.A0.Mem).2.1.B5==1<;>cases(Q6m (Q0m r.A0) r.A0.Mem).2.1.B5==2<;>cases(Q6m (Q0m r.A0) r.A0.Mem).2.1.B5==3<;>cases(Q6m (Q0m r.A0) r.A0.Mem).2.1.B5==4<;>rfl
def Q1s(r:Q01)(e:Q0d):Q01:=
 bif(Q0o r.A0 e).1 then{A0:=(Q0o r.A0 e).2,A9:=r.A9,C0:=r.C0++[{At:=(Q0o r.A0 e).2.A1,C6:=e}],A6:=r.A6} else Z32 r (Q0o r.A0 e).2
theorem Zig(r:Q01)(e:Q0d):Qia r e=Q1s r e:=by
 have a:Qg9 r e=((Q0o r.A0 e).1,Z32 r (Q0o r.A0 e).2):=by
   simp only[Qg9,Q6p,Tree.m,letv,xk]
 simp only[Qia,Qa1,Tree.m,letv,a,Q1s]
 cases(Q0o r.A0 e).1<;>rfl
def Q3z(r:Q01):Q01:=bif Q7g r.A0.B0 r.A9 then Q1s r {B5:=2,N:=0,C8:=[]} else r
def Z6q(r:Q01):Q01:=bif Q0t r.A0 then{A0:=r.A0,A9:=r.A9,C0:=r.C0++[{At:=r.A0.A1,C6:={B5:=1,N:=r.A9,C8:=[]}}],A6:=r.A6} else r
def Qif(r:Q01):Q01:={A0:=(Q0a r.A0 r.A9).2,A9:=IntKind.wrap .u32 (r.A9+1),C0:=(Z6q r).C0,A6:=r.A6}
def recF:Nat->Q01->List Q02->Q01×List Q02
 |0,r,o=>(r,o)
 |n+1,r,o=>bif Q0y (Q3z r).A0 then(Q3z r,o) else recF n (Qif (Q3z r)) (o++(Q0a (Q3z r).A0 (Q3z r).A9).1)
def noQ(r:Q01):Q01:={A0:=r.A0,A9:=r.A9,C0:=r.C0,A6:=[]}
def advF(r:Q01)(steps clock:Int):Q01×List Q02:=
 bif !Q7f r.A0 then(r,[]) else recF (Q13 steps).toNat (noQ (r.A6.foldl Q1s {A0:=r.A0,A9:=if clock>r.A9 then clock else r.A9,C0:=r.C0,A6:=r.A6})) []
theorem Qma(r:Q01)(e:Q0d):(Q1s r e).A6=r.A6:=by
 unfold Q1s;cases(Q0o r.A0 e).1<;>rfl
theorem Zhj(r:Q01):Qmp r=r:=by
 simp only[Qmp,Qd9,Tree.m,letv,Z5x]
theorem Qr(r:Q01)(steps clock:Int)(hq:r.A6.length<=1000000):Qc6 r steps clock=advF r steps clock:=by
  show Tree.V (Q58 r steps clock) (λx=>x=advF r steps clock)
  obtain⟨lim0,lim⟩:=Qsz steps
  unfold Q58
  refine v_an (v_lv λx0 e0=>v_lv λx1 e1=> ?_)
  rw[Zhj]at e0
  subst e0
  refine v_br (λhb=>v_lf ?_) λhb=> ?_
  . unfold advF;rw[<-e1,hb];rfl
  generalize hr0:({A0:=x0.A0,A9:=if clock>x0.A9 then clock else x0.A9,C0:=x0.C0,A6:=x0.A6}:Q01)=r0
  have hA:advF x0 steps clock=recF (Q13 steps).toNat (noQ (x0.A6.foldl Q1s r0)) []:=by
    unfold advF;rw[<-e1,hb,hr0];rfl
  have hQ:r0.A6=x0.A6:=by rw[<-hr0]
  refine v_lp (inv:=λz:Int×Q01=>0<=z.1/\z.1<=x0.A6.length/\z.2.A6=x0.A6/\(x0.A6.drop z.1.toNat).foldl Q1s z.2=x0.A6.foldl Q1s r0) (μ:=Qb3 x0 steps clock) ⟨Int.le_refl 0,by show(0:Int)<=_;omega,hQ,rfl⟩ (Nat.lt_succ_self _) λz ⟨z0,z1,z2,z3⟩=> ?_
  refine v_br (λhb=> ?_) (λhb=> ?_)
  . have hb:=of_decide_eq_true hb
    rw[z2]at hb
    refine v_cn (v_an (v_lv λx2 e2=>v_nx ?_))
    have ew:IntKind.i64.wrap (z.1+1)=z.1+1:=by rw[IntKind.wrap_i64];omega
    rw[Zig]at e2
    have q2:x2.A6=x0.A6:=by rw[e2,Qma,z2]
    have hlt:z.1.toNat<x0.A6.length:=by omega
    have ed:z.2.A6.getD z.1.toNat (RK.dflt RK.apiEvent)=x0.A6[z.1.toNat]:=by rw[z2,List.getD_eq_getElem?_getD,List.getElem?_eq_getElem hlt];rfl
    show(0<=IntKind.i64.wrap (z.1+1)/\IntKind.i64.wrap (z.1+1)<=x0.A6.length/\x2.A6=x0.A6/\(x0.A6.drop (IntKind.i64.wrap (z.1+1)).toNat).foldl Q1s x2=_)/\(x2.A6.length-IntKind.i64.wrap (z.1+1)).toNat<(z.2.A6.length-z.1).toNat
    rw[ew,q2,z2]
    refine⟨⟨by omega,by omega,rfl,?_⟩,by omega⟩
    rw[<-z3,List.drop_eq_getElem_cons hlt,List.foldl_cons,show(z.1+1).toNat=z.1.toNat+1 by omega,e2,ed]
  . have hb:=of_decide_eq_false hb
    rw[z2]at hb
    obtain⟨zi,zr⟩:=z
    have hb: ¬zi<x0.A6.length:=hb
    have ze:zr=x0.A6.foldl Q1s r0:=by
      rw[<-z3,List.drop_eq_nil_of_le (by show x0.A6.length<=zi.toNat;omega)];rfl
    rw[<-ze]at hA
    refine v_lp (inv:=λy:Int×Q01×List Q02=>0<=y.1/\y.1<=Q13 steps/\recF (Q13 steps-y.1).toNat y.2.1 y.2.2=advF x0 steps clock) (μ:=Q5c x0 steps clock (zi,zr)) ⟨Int.le_refl 0,by show(0:Int)<=_;omega,by rw[hA];show recF (Q13 steps-0).toNat _ _=_;rw[Int.sub_zero];rfl⟩ (Nat.lt_succ_self _) λy ⟨y0,y1,y2⟩=> ?_
    obtain⟨yi,yr,yo⟩:=y
    have mu: ∀q,yi<4000->Q5c x0 steps clock (zi,zr) (IntKind.wrap .i64 (yi+1),q)<Q5c x0 steps clock (zi,zr) (yi,yr,yo):=λq h=>by
      show(4000-IntKind.wrap .i64 (yi+1)).toNat<(4000-yi).toNat
      have y0:0<=yi:=y0
      rw[IntKind.wrap_i64];omega
    have y0:0<=yi:=y0
    refine v_lv λx3 e3=>v_br (λhb=> ?_) (λhb=> ?_)
    . have hb:yi<x3:=of_decide_eq_true hb
      rw[e3]at hb
      have mu:=λq=>mu q (by omega)
      have ew:IntKind.i64.wrap (yi+1)=yi+1:=by rw[IntKind.wrap_i64];omega
      have en:(Q13 steps-yi).toNat=(Q13 steps-(yi+1)).toNat+1:=by omega
      change recF (Q13 steps-yi).toNat yr yo=_ at y2
      rw[en]at y2
      refine v_lv λx4 e4=>v_br (λhd=>v_an (v_lv λx5 e5=> ?_)) (λhd=> ?_)
      . have e5:x5=Q3z yr:=by rw[e5,Zig];unfold Q3z;rw[<-e4,hd];rfl
        refine v_an (v_lv λx6 e6=>v_br (λhs=>v_lf ?_) λhs=>v_an (v_lv λx7 e7=>v_br (λhr=>v_cn (v_an (v_lv λx8 e8=>v_cn (v_nx ?_)))) λhr=>v_an (v_lv λx9 e9=>v_cn (v_nx ?_))))
        . show(_,yo)=_
          rw[<-y2];unfold recF
          rw[<-e5,<-e6,hs];rfl
        . rw[Z7b]at e8
          refine⟨⟨by show 0<=IntKind.wrap .i64 (yi+1);rw[ew];omega,by show IntKind.wrap .i64 (yi+1)<=_;rw[ew];omega,?_⟩,mu _⟩
          show recF (Q13 steps-IntKind.wrap .i64 (yi+1)).toNat _ _=_
          rw[ew,<-y2,e8]
          conv=>rhs;unfold recF
          rw[<-e5,<-e6,hs]
          unfold Qif Z6q
          rw[<-e7,hr];rfl
        . rw[Z7b]at e9
          refine⟨⟨by show 0<=IntKind.wrap .i64 (yi+1);rw[ew];omega,by show IntKind.wrap .i64 (yi+1)<=_;rw[ew];omega,?_⟩,mu _⟩
          show recF (Q13 steps-IntKind.wrap .i64 (yi+1)).toNat _ _=_
          rw[ew,<-y2,e9]
          conv=>rhs;unfold recF
          rw[<-e5,<-e6,hs]
          unfold Qif Z6q
          rw[<-e7,hr];rfl
      . have e5:yr=Q3z yr:=by
          have e4:x4=Q7g yr.A0.B0 yr.A9:=e4
          unfold Q3z;rw[<-e4,hd];rfl
        refine v_an (v_lv λx6 e6=>v_br (λhs=>v_lf ?_) λhs=>v_an (v_lv λx7 e7=>v_br (λhr=>v_cn (v_an (v_lv λx8 e8=>v_cn (v_nx ?_)))) λhr=>v_an (v_lv λx9 e9=>v_cn (v_nx ?_))))
        . show(_,yo)=_
          rw[<-y2];unfold recF
          rw[<-e5,<-e6,hs];rfl
        . rw[Z7b]at e8
          refine⟨⟨by show 0<=IntKind.wrap .i64 (yi+1);rw[ew];omega,by show IntKind.wrap .i64 (yi+1)<=_;rw[ew];omega,?_⟩,mu _⟩
          show recF (Q13 steps-IntKind.wrap .i64 (yi+1)).toNat _ _=_
          rw[ew,<-y2,e8]
          conv=>rhs;unfold recF
          rw[<-e5,<-e6,hs]
          unfold Qif Z6q
          rw[<-e7,hr];rfl
        . rw[Z7b]at e9
          refine⟨⟨by show 0<=IntKind.wrap .i64 (yi+1);rw[ew];omega,by show IntKind.wrap .i64 (yi+1)<=_;rw[ew];omega,?_⟩,mu _⟩
          show recF (Q13 steps-IntKind.wrap .i64 (yi+1)).toNat _ _=_
          rw[ew,<-y2,e9]
          conv=>rhs;unfold recF
          rw[<-e5,<-e6,hs]
          unfold Qif Z6q
          rw[<-e7,hr];rfl
    . have hb: ¬yi<x3:=of_decide_eq_false hb
      rw[e3]at hb
      refine v_lf ?_
      show(yr,yo)=_
      change recF (Q13 steps-yi).toNat yr yo=_ at y2
      rw[<-y2,show(Q13 steps-yi).toNat=0 by omega];rfl
structure good(P:Nat)(m:Q00):Prop where
 ok:okM P m
 may:Q1a m=true
section
variable {P:Nat} {m:Q00} (h:good P m)
include h
theorem good.v:okV m:=⟨h.ok.cpu,h.ok.mem.u,h.ok.disk,h.ok.nic,h.ok.target,h.ok.cnt⟩
theorem good.s:okS P m:=⟨h.ok.cpu,h.ok.mem,h.ok.disk,h.ok.nic,h.ok.target.1,h.ok.target.2⟩
theorem good.rmay:Q7f m=true:=(Z7n h.v).symm.trans h.may
theorem Qin{e:Q0d}(he:U e.N):good P (Q0o m e).2/\(Q0o m e).2.A1=m.A1:=by
 have o:okM P (Q0o m e).2:=Tree.post _ (xL h.ok he)
 have a:=(Tree.pp (Zim h.ok he)).2
 change(Q1a m=true->Q1a (Q7n m e).1=true)/\(Q7n m e).1.A1=m.A1/\_ at a
 have e1:Qk4 m e=((Q0o m e).2,(Q0o m e).1):=by
   simp only[Qk4,Qiv,Tree.m,letv,Z5x,h.rmay];rfl
 rw[Z59 h.v e,e1]at a
 exact⟨⟨o,a.1 h.may⟩,a.2.1⟩
theorem Zbg:Q0y m=false↔m.A7=false/\Qbt m=false/\m.A1<1152921504606846976:=by
 simp only[Q0y,Q73,Tree.m,letv,h.rmay]
 cases m.A7<;>cases Qbt m<;>simp
theorem Q8f(hs:Q0y m=false){clock:Int}(hc:U clock):good P (Q0a m clock).2/\(Q0a m clock).2.A1=m.A1+1/\(Q0a m clock).1.length<=1:=by
 have o:=Tree.post _ (Z50 h.ok hc)
 change(Q0a m clock).1.length<=1/\okM P (Q0a m clock).2/\(Q0a m clock).2.A1=IntKind.wrap .u64 (m.A1+1) at o
 have s:=(Tree.pp (xg h.s h.ok.cnt hc)).2
 change _/\Good P m (Q29 m clock).1 at s
 have e:Q29 m clock=((Q0a m clock).2,(Q0a m clock).1):=by rw[Z9z h.v,Z8e,hs];rfl
 rw[e]at s
 have hct:=((Zbg h).1 hs).2.2
 have h0:=h.ok.cnt
 refine⟨⟨o.2.1,s.2.may h.may⟩,?_,o.1⟩
 rw[o.2.2,IntKind.wrap_u64];omega
end
structure Q8l(P:Nat)(k:Int)(r:Q01):Prop where
 m:good P r.A0
 clock:U r.A9
 cnt:r.A0.A1<=k
theorem Qla{P:Nat}{k:Int}{r:Q01}(h:Q8l P k r){e:Q0d}(he:U e.N):Q8l P k (Q1s r e)/\(Q1s r e).A0.A1=r.A0.A1:=by
 obtain⟨a,b⟩:=Qin h.m he
 have hc:=h.cnt
 unfold Q1s
 cases(Q0o r.A0 e).1
 . exact⟨⟨a,h.clock,by show(Q0o r.A0 e).2.A1<=k;omega⟩,b⟩
 . exact⟨⟨a,h.clock,by show(Q0o r.A0 e).2.A1<=k;omega⟩,b⟩
theorem Qoo{P:Nat}{k:Int}{r:Q01}(h:Q8l P k r):Q8l P k (Q3z r)/\(Q3z r).A0.A1=r.A0.A1:=by
 unfold Q3z
 cases Q7g r.A0.B0 r.A9
 . exact⟨h,rfl⟩
 . exact Qla h U_0
theorem Qo2{P:Nat}{k:Int}{r:Q01}(h:Q8l P k r)(hs:Q0y r.A0=false):Q8l P (k+1) (Qif r):=by
 obtain⟨a,b,_⟩:=Q8f h.m hs h.clock
 have hc:=h.cnt
 exact⟨a,Q0s _,by show(Q0a r.A0 r.A9).2.A1<=k+1;omega⟩
theorem Zbr{P:Nat}(n:Nat): ∀{k:Int} {r:Q01} {o:List Q02},Q8l P k r->Q8l P (k+n) (recF n r o).1:=by
 induction n with
 |zero=>intro k r o h;exact⟨h.m,h.clock,by have:=h.cnt;show r.A0.A1<=k+(0:Nat);omega⟩
 | succ n ih=>
   intro k r o h
   obtain⟨f,fc⟩:=Qoo h
   unfold recF
   cases hs:Q0y (Q3z r).A0
   . have t:=ih (o:=o++(Q0a (Q3z r).A0 (Q3z r).A9).1) (Qo2 f hs)
     exact⟨t.m,t.clock,by have:=t.cnt;show(recF n _ _).1.A0.A1<=_;omega⟩
   . exact⟨f.m,f.clock,by have:=f.cnt;show(Q3z r).A0.A1<=_;omega⟩
theorem Z55{P:Nat}{k:Int}(l:List Q0d): ∀{r:Q01},Q8l P k r->(∀q∈l,U q.N)->Q8l P k (l.foldl Q1s r)/\(l.foldl Q1s r).A6=r.A6:=by
 induction l with
 |nil=>intro r h _;exact⟨h,rfl⟩
 | cons e l ih=>
   intro r h hu
   obtain⟨a,b⟩:=ih (Qla h (hu e (by simp))).1 (λq hq=>hu q (by simp [hq]))
   exact⟨a,b.trans (Qma r e)⟩
theorem Z4g(n:Nat): ∀(r:Q01) (o:List Q02),(recF n r o).1.A6=r.A6:=by
 induction n with
 |zero=>intro r o;rfl
 | succ n ih=>
   intro r o
   have f:(Q3z r).A6=r.A6:=by
     unfold Q3z;cases Q7g r.A0.B0 r.A9
     . rfl
     . exact Qma _ _
   unfold recF
   cases Q0y (Q3z r).A0
   . exact(ih _ _).trans f
   . exact f
def okQ(l:List Q0d):Prop:=l.length<=16/\ ∀q∈l,U q.N
theorem zk{P:Nat}{k:Int}{r:Q01}(h:Q8l P k r)(hq:okQ r.A6)(steps:Int){clock:Int}(hc:U clock):Q8l P (k+4000) (advF r steps clock).1/\okQ (advF r steps clock).1.A6:=by
 obtain⟨l0,l1⟩:=Qsz steps
 unfold advF
 rw[h.m.rmay]
 have hcl:U (if clock>r.A9 then clock else r.A9):=by split<;>first|exact hc|exact h.clock
 obtain⟨a,b⟩:=Z55 r.A6 (r:={A0:=r.A0,A9:=if clock>r.A9 then clock else r.A9,C0:=r.C0,A6:=r.A6}) ⟨h.m,hcl,h.cnt⟩ hq.2
 have c:=Zbr (Q13 steps).toNat (o:=[]) (r:=noQ (r.A6.foldl Q1s {A0:=r.A0,A9:=if clock>r.A9 then clock else r.A9,C0:=r.C0,A6:=r.A6})) ⟨a.m,a.clock,a.cnt⟩
 refine⟨⟨c.m,c.clock,?_⟩,?_⟩
 . have:=c.cnt
   show(recF _ _ _).1.A0.A1<=_
   omega
 . show okQ (recF _ _ _).1.A6
   rw[Z4g];exact⟨Nat.zero_le _,λq hq=>by cases hq⟩
theorem yk(n:Int):U (Q47 n).N:=Tree.post _ (vw n)
theorem Qkh(r:Q01)(e:Q0d):Q2h r e=bif !Q2o e then(r,false) else bif e.B5==1 then(r,false) else bif decide ((r.A6.length:Int)>=16) then(r,false) else({A0:=r.A0,A9:=r.A9,C0:=r.C0,A6:=r.A6++[e]},true):=by
 simp only[Q2h,Q8c,Tree.m,letv,Zhj]
theorem Zh3{P:Nat}{k:Int}{r:Q01}(h:Q8l P k r)(hq:okQ r.A6){e:Q0d}(he:U e.N):Q8l P k (Q2h r e).1/\okQ (Q2h r e).1.A6:=by
  rw[Qkh]
  cases Q2o e
  . exact⟨h,hq⟩
  . cases e.B5==1
    . cases hl:decide ((r.A6.length:Int)>=16)
      . have hl:=of_decide_eq_false hl
        refine⟨⟨h.m,h.clock,h.cnt⟩,?_,λq hm=> ?_⟩
        . show(r.A6++[e]).length<=16
          rw[List.length_append,List.length_singleton];omega
        . have hm:q∈r.A6++[e]:=hm
          rcases List.mem_append.1 hm with hm|hm
          . exact hq.2 q hm
          . rw[List.mem_singleton.1 hm];exact he
      . exact⟨h,hq⟩
    . exact⟨h,hq⟩
theorem Qst{r:Q01}{n:Int}(h:(Int.tmod (Q2x n 3) 3==0)=true):Q3b r n=((Q2h r (Q47 n)).1,[]):=by
 show Tree.V (Q7b r n) (λx=>x=((Q2h r (Q47 n)).1,[]))
 unfold Q7b
 refine v_lv λx0 e0=>v_br (λ_=>v_an (v_lv λx1 e1=>v_an (v_lv λx2 e2=>v_lf ?_))) (λhb=> ?_)
 . rw[e2,e1]
 . rw[e0,h]at hb;cases hb
theorem Qsj{r:Q01}{n:Int}(h:(Int.tmod (Q2x n 3) 3==0)=false):Q3b r n=Qc6 r (Q3m (ishr .i64 (Q2x n 3) 4) 12) (IntKind.wrap .u32 (iand .i64 (ishr .i64 (Q2x n 3) 12) 255)):=by
 show Tree.V (Q7b r n) (λx=>x=Qc6 r (Q3m (ishr .i64 (Q2x n 3) 4) 12) (IntKind.wrap .u32 (iand .i64 (ishr .i64 (Q2x n 3) 12) 255)))
 unfold Q7b
 refine v_lv λx0 e0=>v_br (λhb=> ?_) (λ_=>v_an (v_lv λx1 e1=>v_an (v_lv λx2 e2=>v_lf ?_)))
 . rw[e0,h]at hb;cases hb
 . rw[e2,e1,e0]
def Qjf(s:Q01×List Q02)(n:Int):Q01×List Q02:=((Q3b s.1 n).1,s.2++(Q3b s.1 n).2)
theorem qal(m:Q00)(l:List Int)(hl:l.length<=1000000):Qrt m l=l.foldl Qjf (Q3j m,[]):=by
 show Tree.V (Qb7 m l) (λx=>x=l.foldl Qjf (Q3j m,[]))
 unfold Qb7
 refine v_an (v_lv λx0 e0=> ?_)
 subst e0
 refine v_lp (inv:=λz:Int×Q01×List Q02=>0<=z.1/\z.1<=l.length/\(l.drop z.1.toNat).foldl Qjf z.2=l.foldl Qjf (Q3j m,[])) (μ:=Qgx m l) ⟨Int.le_refl 0,by show(0:Int)<=_;omega,rfl⟩ (Nat.lt_succ_self _) λz ⟨z0,z1,z2⟩=> ?_
 obtain⟨i,r,o⟩:=z
 have z0:0<=i:=z0
 have z1:i<=l.length:=z1
 refine v_br (λhb=>v_cn (v_an (v_lv λx1 e1=>v_cn (v_nx ?_)))) (λhb=>v_lf ?_)
 . have hb:i<l.length:=of_decide_eq_true hb
   have ew:IntKind.i64.wrap (i+1)=i+1:=by rw[IntKind.wrap_i64];omega
   have hlt:i.toNat<l.length:=by omega
   show(0<=IntKind.i64.wrap (i+1)/\IntKind.i64.wrap (i+1)<=l.length/\(l.drop (IntKind.i64.wrap (i+1)).toNat).foldl Qjf (x1.1,o++x1.2)=_)/\(l.length-IntKind.i64.wrap (i+1)).toNat<(l.length-i).toNat
   rw[ew]
   refine⟨⟨by omega,by omega,?_⟩,by omega⟩
   rw[<-z2]
   show _=(l.drop i.toNat).foldl Qjf (r,o)
   rw[List.drop_eq_getElem_cons hlt,List.foldl_cons,show(i+1).toNat=i.toNat+1 by omega,e1]
   have ed:l.getD i.toNat 0=l[i.toNat]:=by rw[List.getD_eq_getElem?_getD,List.getElem?_eq_getElem hlt];rfl
   rw[show Qjf (r,o) l[i.toNat]=((Q3b r l[i.toNat]).1,o++(Q3b r l[i.toNat]).2) from by unfold Qjf;rfl,<-ed]
 . have hb: ¬i<l.length:=of_decide_eq_false hb
   show(r,o)=_
   rw[<-z2]
   show _=(l.drop i.toNat).foldl Qjf (r,o)
   rw[List.drop_eq_nil_of_le (by omega)];rfl
theorem Zac(s:Q01×List Q02)(n:Int):Qjf s n=((Q3b s.1 n).1,s.2++(Q3b s.1 n).2):=by unfold Qjf;rfl
theorem vk{σ:Type}{f:σ->Int->σ}{I:Int->σ->Prop}(hf: ∀k s n,I k s->I (k+4000) (f s n))(l:List Int): ∀k s,I k s->I (k+4000*l.length) (l.foldl f s):=by
 induction l with
 |nil=>intro k s h;simpa using h
 | cons n l ih=>
   intro k s h
   have:=ih _ _ (hf k s n h)
   rw[List.foldl_cons,List.length_cons]
   rwa [show k+4000*((l.length+1:Nat):Int)=k+4000+4000*l.length by omega]
theorem ql(m:Q00):Q3j m={A0:=m,A9:=0,C0:=[],A6:=[]}:=by
 simp only[Q3j,Q3f,Tree.m,letv,Z5x]
theorem Ziy{i:List Int}(hu: ∀w∈i,U w)(hl:i.length<=256):good 8 (Q1q 8 4 i).1/\(Q1q 8 4 i).1.A1=0:=by
 obtain⟨a,b⟩:=(Tree.pp (new_w i hu hl)).2
 change okM 8 (Q1q 8 4 i).1 at a
 refine⟨⟨a,?_⟩,b⟩
 have e:(Q1q 8 4 i).2=true:=by
   have w:IntKind.i64.wrap (8*32)=256:=by decide
   simp only[Q1q,Q80,Tree.m,w,letv,decide_eq_false (show¬((i.length:Int)>256) by omega)]
   rfl
 obtain⟨a1,a2,a3,a4,a5,a6⟩:=zaO 8 4 i e
 exact(xaO _ 8 4 a1 a2 a3 a4 a5 _ a6).1
theorem xl{m:Q00}(h:good 8 m)(hc:m.A1<=87):Tree.V (Q8p m [] 87) (λx=>x.2.2.2=0->good 8 x.1/\x.1.A1<=87):=by
 have z: ∀{k:Int} {p:Prop},k≠0->k=0->p:=λa b=>absurd b a
 unfold Q8p
 refine v_lv λx0 _=>v_br (λ_=>v_lf (z (by decide))) λ_=>v_br (λ_=>v_lf (z (by decide))) λ_=>v_br (λ_=>v_lf (z (by decide))) λ_=>v_an (v_lv λx1 _=>v_br (λ_=>v_lf (z (by decide))) λ_=>v_an (v_lv λx2 hx=> ?_))
 rw[Z5x]at hx
 refine v_lp (inv:=λv:Q00×List Q02=>good 8 v.1/\v.1.A1<=87) (μ:=Qfg m [] 87) ⟨by rw[hx];exact h,by rw[hx];exact hc⟩ (Nat.lt_succ_self _) λv0 ⟨a1,a3⟩=> ?_
 have a2:=a1.ok.cnt
 refine v_br (λhb=>v_br (λhm=> ?_) (λ_=>v_lf λ_=>⟨a1,a3⟩)) (λ_=>v_lf λ_=>⟨a1,a3⟩)
 have hb:=of_decide_eq_true hb
 have hm:=of_decide_eq_true hm
 refine v_lp (inv:=λ_=>True) (μ:=Qfa m [] 87 v0) trivial (Nat.lt_succ_self _) λv1 _=> ?_
 refine v_br (λ_=>v_lf λ_=>⟨a1,a3⟩) λhh=>v_an (v_lv λx3 h3=>v_br (λ_=>v_lf λ_=>⟨a1,a3⟩) λhi=>v_an (v_lv λx4 _=>v_br (λ_=>v_lf (z (by decide))) λ_=>v_an (v_lv λx5 h5=>v_cn (v_nx ?_))))
 obtain⟨b1,b2,_⟩:=Q8f a1 ((Zbg a1).2 ⟨hh,h3.symm.trans hi,hm⟩) (clock:=0) U_0
 rw[<-h5]at b1 b2
 show(good 8 x5.2/\x5.2.A1<=87)/\(87-x5.2.A1).toNat<(87-v0.1.A1).toNat
 exact⟨⟨b1,by omega⟩,by omega⟩
theorem Zaz(kind:Int)(l:List Int)(hl:l.length*8<=reachBytes)(h40:l.length<=40):good 8 (Qbc kind l)/\(Qbc kind l).A1<=87:=by
  show Tree.V (Q6d kind l) (λm=>good 8 m/\m.A1<=87)
  have code:=(Tree.pp (qd l hl)).2
  change((Qnp l).length:Int)=l.length/\ ∀w∈Qnp l,U w at code
  obtain⟨b1,b2⟩:=code
  unfold Q6d
  refine v_an (v_lv λx0 hx0=>v_br (λ_=>v_an (v_lv λx1 e1=> ?_)) (λhk=> ?_))
  . have eb:x1.1=boot:=by rw[e1];rfl
    obtain⟨q1,q2⟩:boot.length<=160/\ ∀w∈boot,U w:=qe
    refine v_lp (inv:=λv:List Int=>v.length<=160/\v=boot++List.replicate (v.length-boot.length) 0) (μ:=Qcd kind l) ⟨by rw[eb];exact q1,by rw[eb];simp⟩ (Nat.lt_succ_self _) λv0 ⟨a1,a2⟩=> ?_
    have a3:boot.length<=v0.length:=by rw[a2,List.length_append];omega
    refine v_br (λhb=> ?_) (λhb=> ?_)
    . have hb:=of_decide_eq_true hb
      refine v_cn (v_nx ?_)
      show(_/\_)/\(_:Nat)<_
      refine⟨⟨by rw[List.length_append,List.length_singleton];omega,?_⟩,by show 160-(v0++[0]).length<160-v0.length;rw[List.length_append,List.length_singleton];omega⟩
      show v0++[0]=boot++List.replicate ((v0++[0]).length-boot.length) 0
      rw[List.length_append,List.length_singleton,show v0.length+1-boot.length=(v0.length-boot.length)+1 by omega,List.replicate_succ',<-List.append_assoc,<-a2]
    . have hb:=of_decide_eq_false hb
      have hv:v0=Qje:=by
        unfold Qje
        rw[show(160:Nat)=v0.length by omega]
        exact a2
      subst hv
      have hp:=zad
      have hu0: ∀w∈Qje,U w:=λw hw=>(List.mem_append.1 hw).elim (q2 w) (U_all _ w)
      refine v_an (v_lv λx2 e2=>v_cn ?_)
      rw[<-e2]at b1 b2
      have hu: ∀w∈Qje++x2,U w:=λw hw=>(List.mem_append.1 hw).elim (hu0 w) (b2 w)
      have hlen:(Qje++x2).length<=256:=by rw[List.length_append];omega
      refine v_br (λhb=> ?_) (λhb=> ?_)
      . have hb:=of_decide_eq_true hb;omega
      . obtain⟨c1,c2⟩:=Ziy hu hlen
        refine v_an (v_lv λx3 h3=> ?_)
        rw[<-h3]at c1 c2
        have rn:=xl c1 (by omega)
        refine v_br (λ_=>v_an (v_lv λx4 hx=>v_lf ?_)) (λ_=>v_lf ⟨c1,by omega⟩)
        have e:x3=Q1q 8 4 (Qje++(x2++List.replicate (96-x2.length) 0)):=by
          rw[h3]
          have hl2:(x2++List.replicate (96-x2.length) (0:Int)).length=96:=by rw[List.length_append,List.length_replicate];omega
          refine qad _ _ hlen (by rw[List.length_append,hl2];omega) ?_
          rw[List.length_append,List.length_append,hl2,hp,List.append_assoc,List.append_assoc,List.append_assoc,show 256-(160+96)=0 by omega,show 256-(160+x2.length)=96-x2.length by omega]
          simp
        have h0:x4.2.2.2=0:=by
          rw[hx,e]
          exact qaC _ (by rw[List.length_append,List.length_replicate];omega)
        exact(by rw[hx];exact rn:x4.2.2.2=0->good 8 x4.1/\x4.1.A1<=87) h0
  . have hk:=of_decide_eq_false hk
    refine v_an (v_lv λx2 e2=>v_cn ?_)
    rw[<-e2]at b1 b2
    refine v_br (λhb=> ?_) (λhb=> ?_)
    . have hb:=of_decide_eq_true hb;omega
    . obtain⟨c1,c2⟩:=Ziy b2 (by omega)
      refine v_an (v_lv λx3 h3=> ?_)
      rw[<-h3]at c1 c2
      exact v_br (λh=>absurd (eq_of_beq h) (by omega)) (λ_=>v_lf ⟨c1,by omega⟩)
theorem Zky(w:Int):IntKind.wrap .i64 (Q1t w).1.Imm=(Q1t w).1.Imm:=by
 show Tree.V (Q64 w) (λr=>IntKind.wrap .i64 r.1.Imm=r.1.Imm)
 have e: ∀x,IntKind.wrap .i64 (IntKind.wrap .i32 x)=IntKind.wrap .i32 x:=λx=>by rw[IntKind.wrap_i64,IntKind.wrap_i32];omega
 unfold Q64
 refine v_lv λx0 _=> ?_
 have l: ∀i:Q0i,IntKind.wrap .i64 i.Imm=i.Imm->Tree.V (Tree.lv (Q6n i) λx=> .br (!x) (.lf ((⟨0,0,0,0,0⟩:Q0i),false)) (.lf (i,true))) (λr=>IntKind.wrap .i64 r.1.Imm=r.1.Imm):=λi hi=>v_lv λx hx=>v_br (λ_=>v_lf rfl) (λhb=>v_lf hi)
 exact v_br (λ_=>v_lf rfl) (λ_=>v_br (λ_=>l _ rfl) (λ_=>v_br (λ_=>l _ (e _)) (λ_=>v_br (λ_=>l _ (e _)) (λ_=>l _ (e _)))))
def ioP(e:Q11):Bool:=bif e.B5==1 then e.D1==2 else false
def readsC(c:Q04)(m:List Int):Bool:=
 bif iand .u32 c.B6.a0 1==0 then false else bif(Q16 m c.Pc 4).2 then bif(Q1t (Q16 m c.Pc 4).1).2 then bif(Q1t (Q16 m c.Pc 4).1).1.Op==60 then(Q1t (Q16 m c.Pc 4).1).1.Imm==2 else false else false else false
theorem Zco(m:Q00):Qd1 m=readsC (Q0m m) m.Mem:=rfl
theorem zaH(c:Q04)(i:Q0i):ioP (Qhz c i).2=(bif i.Op==60 then IntKind.wrap .i64 i.Imm==2 else false):=by
 show Tree.V (Q7h c i) (λr=>ioP r.2=_)
 have no: ∀{k:Int},i.Op=k->k≠60-> ∀e:Q11,e.B5≠1->ioP e=(bif i.Op==60 then IntKind.wrap .i64 i.Imm==2 else false):=λh g e he=>by
   unfold ioP
   rw[h,show(_==(60:Int))=false from beq_false_of_ne g,show(e.B5==1)=false from beq_false_of_ne he];rfl
 have eq: ∀{k:Int},(i.Op==k)=true->i.Op=k:=λh=>eq_of_beq h
 unfold Q7h
 refine v_br (λh=>v_lv λ_ _=>v_lf (no (eq h) (by decide) _ (show(0:Int)≠1 by decide))) λ_=>v_br (λh=>v_lv λ_ _=>v_lf (no (eq h) (by decide) _ (show(0:Int)≠1 by decide))) λ_=>v_br (λh=>v_cn (v_an (v_lv λ_ _=>v_lf (no (eq h) (by decide) _ (show(0:Int)≠1 by decide))))) λ_=>v_br (λh=>v_cn (v_an (v_lv λ_ _=>v_lf (no (eq h) (by decide) _ (show(0:Int)≠1 by decide))))) λ_=>v_br (λh=>v_lf ?_) λh60=> ?_
 . show(bif(1:Int)==1 then IntKind.wrap .i64 i.Imm==2 else false)=_
   rw[h];rfl
 . have n60:i.Op≠60:=λe=>by rw[e]at h60;cases h60
   refine v_br (λh=>v_cn (v_lf (no (eq h) (by decide) _ (by show(2:Int)≠1;decide)))) λ_=>v_br (λh=>v_lf (no (eq h) (by decide) _ (show(3:Int)≠1 by decide))) λ_=>v_br (λh=>v_lf (no (eq h) (by decide) _ (show(5:Int)≠1 by decide))) λ_=>v_br (λh=>v_lf (no (eq h) (by decide) _ (show(4:Int)≠1 by decide))) λ_=>v_lf (no rfl n60 _ (show(0:Int)≠1 by decide))
theorem zl(c:Q04)(m:List Int)(i:Q0i):ioP (Qie c m i).2.1=(bif i.Op==60 then IntKind.wrap .i64 i.Imm==2 else false):=by
 unfold Qie
 cases h:decide (i.Op>=56)
 . have h:=of_decide_eq_false h
   rw[show(i.Op==60)=false from beq_false_of_ne (by omega)]
   cases decide (i.Op>=40)<;>cases decide (i.Op>=32)<;>cases i.Op==24<;>cases decide (i.Op<=13)<;>rfl
 . exact zaH c i
theorem Zhv{P:Nat}{m:List Int}(h:Q1 P m){c:Q04}(hc:Q2b c)(hst:c.B6.a0<=31):ioP (Q6m c m).2.1=readsC c m:=by
  rw[do_eq]
  unfold readsC
  cases hk:iand .u32 c.B6.a0 1==0
  . have hp:Qkc c=false:=by
      rw[Z5h hc.a0.1 hst,show Q9m c=true from by show(iand .u32 c.B6.a0 1 !=0)=true;rw[bne,hk];rfl]
      rfl
    have wi:=Qgh h hc.pc (size:=4) (.inr rfl)
    have kn:Qd 1=true:=rfl
    have p0:=hc.pc.1
    have tm:Int.tmod c.Pc (IntKind.wrap .u32 4)=c.Pc%4:=by
      rw[show IntKind.wrap .u32 4=4 from rfl,Int.tmod_eq_emod_of_nonneg p0]
    have rc:Q12 c m c.Pc 4 1=bif c.Pc%4 !=0 then(0,3,m) else bif !Q1x m c.Pc 4 then(0,Q1u 1,m) else(c.Pc,0,m):=by
      simp only[Q12,Q72,Tree.m,letv,kn,hp,tm]
      rfl
    rw[rc]
    cases h4:(c.Pc%4 !=0)
    . cases hw:Q1x m c.Pc 4
      . have l2:(Q16 m c.Pc 4).2=false:=by
          simp only[Q16,Q3n,Tree.m,letv,hw];rfl
        rw[l2]
        show ioP (doR c (0,Q1u 1,m) _ _).2.1=false
        unfold doR
        rw[show((0,Q1u 1,m):Int×Int×List Int).2.1=Q1u 1 from rfl,show(Q1u 1 !=0)=true by decide]
        rfl
      . have l2:(Q16 m c.Pc 4).2=true:=by
          simp only[Q16,Q3n,Tree.m,letv,hw];rfl
        rw[l2]
        show ioP (doR c (c.Pc,0,m) (Q16 m c.Pc 4).1 (Q1t (Q16 m c.Pc 4).1)).2.1=_
        have im:=Zky (Q16 m c.Pc 4).1
        generalize Q16 m c.Pc 4=x at*
        generalize Q1t x.1=d at*
        unfold doR
        cases d.2
        . rfl
        . rw[hk]
          have:=zl c m d.1
          rw[im]at this
          cases Q34 d.1.Op<;>exact this
    . have hw:Q1x m c.Pc 4=false:=by
        rw[wi]
        refine decide_eq_false λe=> ?_
        rw[e.1]at h4;cases h4
      have l2:(Q16 m c.Pc 4).2=false:=by
        simp only[Q16,Q3n,Tree.m,letv,hw];rfl
      rw[l2];rfl
  . have us : ∀x w d,ioP (doR c x w d).2.1=false:=λx w d=>by
      unfold doR
      cases x.2.1 !=0
      . cases d.2
        . rfl
        . cases hp:Q34 d.1.Op
          . have:=zl c x.2.2 d.1
            rw[show(d.1.Op==60)=false from beq_false_of_ne λe=>by rw[e]at hp;cases hp]at this
            exact this
          . rw[hk];rfl
      . rfl
    exact us _ _ _
theorem Qu3{m:Q00}(h:okV m):Q21 m=Q0t m:=by
 have rd:Q0t m=bif Q0y m then false else Qd1 m:=rfl
 have pd:Q21 m=bif !Q23 m then false else ioP (Q4s (Q0p m).B2 (Q0p m).Mem).2.2:=rfl
 rw[rd,pd,Qr2 h]
 cases hs:Q0y m
 . have hr:Q23 m=true:=by rw[Qr2 h,hs];rfl
   obtain⟨hm,hh,hct⟩:=Qy4 hr
   obtain⟨g1,g2,g3,g4,g5⟩:=(Qj7 m).1 hm
   rcases(Qms m.Mem h.mem).2 with c|⟨P,hP,hmem⟩
   . exact absurd c g1
   have okm:okS P m:=⟨h.cpu,hmem,h.disk,h.nic,h.bal.1,h.bal.2⟩
   obtain⟨b1,b2,b3,_⟩:=(Tree.pp (Qrc okm g2)).2
   change Q5n (Q0p m).B2 at b1
   change okS P (Q0p m) at b2
   have be:=Quu h g2.st
   have b1':Q5n (Q0m m):=by have:=b1;rw[be]at this;exact this
   have b2':Q2b (Q0m m):=by have:=b2.cpu;rw[be]at this;exact this
   have ex:=Zbv hmem b2' b1'.st
   rw[be,Zco,<-Zhv hmem b2' b1'.st]
   show ioP (Q4s (Q0m m) m.Mem).2.2=_
   rw[ex];rfl
 . rfl
theorem xaH(d:Q0f)(m:List Int)(e:Q0d):(Q7j d m e).2.1=false->Q7j d m e=(d,false,m):=by
 show Tree.V (Q6a d m e) (λr=>r.2.1=false->r=(d,false,m))
 have no: ∀{p:Prop},true=false->p:=λh=>by cases h
 unfold Q6a
 repeat'(first
   |exact v_lf λ_=>rfl
   |exact v_lf no
   |exact v_an (v_lv λ_ _=>v_lf no)
   |refine v_lv λ_ _=> ?_
   |refine v_an ?_
   |refine v_br (λ_=> ?_) (λ_=> ?_))
theorem qaI(n:Q0q)(m:List Int)(s:List UInt8):(Q7q n m s).2.1=false->Q7q n m s=(n,false,m):=by
 show Tree.V (Q68 n m s) (λr=>r.2.1=false->r=(n,false,m))
 have no: ∀{p:Prop},true=false->p:=λh=>by cases h
 unfold Q68
 repeat'(first
   |exact v_lf λ_=>rfl
   |exact v_an (v_lv λ_ _=>v_lf no)
   |refine v_lv λ_ _=> ?_
   |refine v_br (λ_=> ?_) (λ_=> ?_))
theorem zal(t:Q0g):(Q5x t).2=false->(Q5x t).1=t:=by
 show Tree.V (Q8y t) (λr=>r.2=false->r.1=t)
 have no: ∀{p:Prop},true=false->p:=λh=>by cases h
 unfold Q8y
 repeat'(first
   |exact v_lf λ_=>rfl
   |exact v_lf no
   |refine v_br (λ_=> ?_) (λ_=> ?_))
theorem xal(c:Q0b)(b:Int):(Qk1 c b).2=false->(Qk1 c b).1=c:=by
 show Tree.V (Qax c b) (λr=>r.2=false->r.1=c)
 have no: ∀{p:Prop},true=false->p:=λh=>by cases h
 unfold Qax
 exact v_br (λ_=>v_lf λ_=>rfl) (λ_=>v_cn (v_lf no))
theorem zaI(m:Q00)(e:Q0d):(Q0o m e).1=false->(Q0o m e).2=m:=by
 show Tree.V (Q43 m e) (λr=>r.1=false->r.2=m)
 have no: ∀{p:Prop},true=false->p:=λh=>by cases h
 unfold Q43
 repeat'(first
   |exact v_lf λ_=>rfl
   |exact v_lf no
   |exact v_lv λx hx=>v_lf λh=>by rw[hx]at h⊢;rw[zal _ h]
   |exact v_an (v_lv λx hx=>v_lf λh=>by rw[hx]at h⊢;rw[xaH _ _ _ h])
   |exact v_an (v_lv λx hx=>v_lf λh=>by rw[hx]at h⊢;rw[qaI _ _ _ h])
   |exact v_an (v_lv λx hx=>v_lf λh=>by rw[hx]at h⊢;rw[xal _ _ h])
   |refine v_br (λ_=> ?_) (λ_=> ?_))
theorem qam{m:Q00}(h:U m.A2.C3):Q5t m:=by
 show(Q2v m).p
 unfold Tree.p Q2v
 refine w_br (λ_=>w_an ?_ (w_lv λ_ _=>trivial)) (λ_=>trivial)
 show(Q2r m).p
 unfold Tree.p Q2r
 exact Q0e (Zhy h) λ_ _=>trivial
theorem zL{P:Nat}{m:Q00}(h:okS P m):(Q20 m).w (λ_=>True):=by
 unfold Q20
 exact Q0e (Zfd h.given) λ_ _=>w_br (λ_=>trivial) (λ_=>Q0e (vS h) λx1 h1=>Q0e (yv h1.cpu h1.mem) λx2 _=>w_br (λ_=>trivial) (λ_=>trivial))
section
variable {P:Nat} {m:Q00} (h:good P m)
include h
theorem good.len:m.Mem.length<=1024:=by have:=h.ok.mem.len;have:=h.ok.mem.p2;omega
theorem good.app(e:Q0d):Q7n m e=((Q0o m e).2,(Q0o m e).1):=by
 rw[Z59 h.v]
 simp only[Qk4,Qiv,Tree.m,letv,Z5x,h.rmay];rfl
theorem good.step(hs:Q0y m=false)(clock:Int):Q29 m clock=((Q0a m clock).2,(Q0a m clock).1):=by
 rw[Z9z h.v,Z8e,hs];rfl
theorem good.idle:Q39 m=Qbt m:=Zdj h.v
end
theorem Qop(r:Q01)(e:Q0d):(Q1s r e).C0.length<=r.C0.length+1:=by
 unfold Q1s
 cases(Q0o r.A0 e).1
 . exact Nat.le_succ _
 . show(r.C0++[_]).length<=_
   rw[List.length_append,List.length_singleton];omega
theorem yl(r:Q01):(Q3z r).C0.length<=r.C0.length+1:=by
 unfold Q3z
 cases Q7g r.A0.B0 r.A9
 . exact Nat.le_succ _
 . exact Qop _ _
theorem vl(r:Q01):(Z6q r).C0.length<=r.C0.length+1:=by
 unfold Z6q
 cases Q0t r.A0
 . exact Nat.le_succ _
 . show(r.C0++[_]).length<=_
   rw[List.length_append,List.length_singleton];omega
theorem Zk6{P:Nat}{m:Q00}(h:good P m):Q0y m=bif m.A7 then true else bif Q39 m then true else m.A1==1152921504606846976:=by
 have hc:=((Qj7 m).1 h.may).2.2.1
 have e:decide (m.A1>=1152921504606846976)=(m.A1==1152921504606846976):=by
   by_cases g:m.A1=1152921504606846976
   . rw[g];rfl
   . rw[show(m.A1==1152921504606846976)=false from beq_false_of_ne g,decide_eq_false (by omega)]
 rw[h.idle,<-e]
 simp only[Q0y,Q73,Tree.m,letv,h.rmay];rfl
theorem Z20{r:Q01}(hr:Q0t r.A0=true):Qif r={A0:=(Q0a r.A0 r.A9).2,A9:=IntKind.wrap .u32 (r.A9+1),C0:=r.C0++[{At:=r.A0.A1,C6:={B5:=1,N:=r.A9,C8:=[]}}],A6:=r.A6}:=by
 unfold Qif Z6q;rw[hr];rfl
theorem Zgz{r:Q01}(hr:Q0t r.A0=false):Qif r={A0:=(Q0a r.A0 r.A9).2,A9:=IntKind.wrap .u32 (r.A9+1),C0:=r.C0,A6:=r.A6}:=by
 unfold Qif Z6q;rw[hr];rfl
theorem Zcp(r:Q01):(Qif r).C0.length<=r.C0.length+1:=vl r
def Qpo:Q0d:={B5:=2,N:=0,C8:=[]}
theorem Zfy(m:Q00):Q0o m Qpo=bif m.A7 then(false,m) else((Q5x m.B0).2,{B2:=m.B2,Mem:=m.Mem,A3:=m.A3,B0:=(Q5x m.B0).1,B1:=m.B1,C5:=m.C5,A2:=m.A2,A1:=m.A1,A4:=m.A4,A7:=m.A7}):=rfl
theorem qm(t:Q0g):(Q5x t).2=true->(Q5x t).1.D2=false:=by
 show Tree.V (Q8y t) (λr=>r.2=true->r.1.D2=false)
 unfold Q8y
 exact v_br (λ_=>v_lf λh=>by cases h) (λ_=>v_lf λ_=>rfl)
theorem xm{t:Q0g}{c:Int}(h:t.D2=false):Q7g t c=false:=by
 simp only[Q7g,Qv9,Tree.m,h];rfl
theorem Qz{r:Q01}{e:Q0d}(h:(Q0o r.A0 e).1=false):Q1s r e=r:=by
 unfold Q1s;rw[h,zaI _ _ h];rfl
theorem Qnk(r:Q01):Q3z r=bif Q7g r.A0.B0 r.A9 then Q1s r Qpo else r:=rfl
theorem zm{r:Q01}(h:Q7g r.A0.B0 r.A9=false):Q3z r=r:=by rw[Qnk,h];rfl
theorem Za9(r:Q01)(o:List Q02):recF 0 r o=(r,o):=rfl
theorem Quq{n:Nat}{r:Q01}{o:List Q02}(hs:Q0y (Q3z r).A0=true):recF (n+1) r o=(Q3z r,o):=by
 conv=>lhs;unfold recF
 rw[hs];rfl
theorem Qu8{n:Nat}{r:Q01}{o:List Q02}(hs:Q0y (Q3z r).A0=false):recF (n+1) r o=recF n (Qif (Q3z r)) (o++(Q0a (Q3z r).A0 (Q3z r).A9).1):=by
 conv=>lhs;unfold recF
 rw[hs];rfl
theorem yL(n:Nat): ∀(r:Q01) (o:List Q02),recF n r o=((recF n r []).1,o++(recF n r []).2):=by
 induction n with
 |zero=>intro r o;rw[Za9,Za9,List.append_nil]
 | succ n ih=>
   intro r o
   cases hs:Q0y (Q3z r).A0
   . rw[Qu8 hs,Qu8 hs,ih,ih (Qif (Q3z r)) ([]++_),List.nil_append,List.append_assoc]
   . rw[Quq hs,Quq hs,List.append_nil]
theorem Z0{r:Q01}(h:Q7f r.A0=true)(steps clock:Int):advF r steps clock=recF (Q13 steps).toNat (noQ (r.A6.foldl Q1s {A0:=r.A0,A9:=if clock>r.A9 then clock else r.A9,C0:=r.C0,A6:=r.A6})) []:=by
 unfold advF;rw[h];rfl
theorem Qua{s:Int}(h0:0<=s)(h1:s<=4000):Q13 s=s:=by
 have:Q13 s=(if 4000<(if 0>s then 0 else s) then 4000 else(if 0>s then 0 else s)):=rfl
 rw[this,if_neg (show¬0>s by omega),if_neg (show¬4000<s by omega)]
set_option synthInstance.maxHeartbeats 2000000
set_option synthInstance.maxSize 100000
noncomputable section
instance Qww (s:(List Int)):Ck (Q06 s):=let d:Decidable (Q06 s):=(by delta Q06;infer_instance);⟨@decide _ d,@of_decide_eq_true _ d⟩
instance Zln (m:(List Int)) (addr:Int) (size:Int):Ck (Q9l m addr size):=ckT (t:=Q32 m addr size) (by delta Q32;infer_instance)
instance qX (n:Int):Ck (Qg0 n):=ckT (t:=Qb0 n) (by delta Qb0;infer_instance)
instance vL (w:Int) (low:Int) (n:Int):Ck (Q4z w low n):=ckT (t:=Q8o w low n) (by delta Q8o;infer_instance)
instance qM (w:Int):Ck (Qj4 w):=ckT (t:=Q74 w) (by delta Q74;infer_instance)
instance qD (m:(List Int)) (addr:Int) (size:Int):Ck (Q30 m addr size):=ckT (t:=Q6 m addr size) (by delta Q6;infer_instance)
instance xD (c:Q04) (m:(List Int)) (va:Int) (size:Int) (access:Int):Ck (Q8x c m va size access):=ckT (t:=Q5y c m va size access) (by delta Q5y;infer_instance)
instance xX (c:Q04) (m:(List Int)):Ck (Qkp c m):=ckT (t:=Qb5 c m) (by delta Qb5;infer_instance)
instance zam (c:Q04) (m:(List Int)):Ck (Qiz c m):=ckT (t:=Q6l c m) (by delta Q6l;infer_instance)
instance Zhq (x:Int):Ck (Qaw x):=ckT (t:=Q1n x) (by delta Q1n;infer_instance)
instance zD (b:Q07) (pages:Int):Ck (Qcf b pages):=ckT (t:=Q3u b pages) (by delta Q3u;infer_instance)
instance Zb0 (m:Q00):Ck (Q2i m):=ckT (t:=Q1k m) (by delta Q1k;infer_instance)
instance yD (m:Q00):Ck (Q5a m):=ckT (t:=Q4x m) (by delta Q4x;infer_instance)
instance ym (m:Q00):Ck (Q5t m):=ckT (t:=Q2v m) (by delta Q2v;infer_instance)
instance vm (m:Q00):Ck (Qaq m):=ckT (t:=Q3t m) (by delta Q3t;infer_instance)
instance Zlo (m:Q00):Ck (Q9r m):=ckT (t:=Q2n m) (by delta Q2n;infer_instance)
instance qn (m:Q00) (clock:Int):Ck (Q7r m clock):=ckT (t:=Q2l m clock) (by delta Q2l;infer_instance)
instance xam (pages:Int):Ck (Qej pages):=ckT (t:=Qdq pages) (by delta Qdq;infer_instance)
instance qan (pages:Int) (blocks:Int) (image:(List Int)):Ck (Q9g pages blocks image):=ckT (t:=Q80 pages blocks image) (by delta Q80;infer_instance)
instance Z9t (m:Q00):Ck (Q3d m):=ckT (t:=Q20 m) (by delta Q20;infer_instance)
instance xn (script:(List Q0l)):Ck (Q35 script):=let d:Decidable (Q35 script):=(by delta Q35;infer_instance);⟨@decide _ d,@of_decide_eq_true _ d⟩
instance xM (m:Q00) (script:(List Q0l)) (until0:Int):Ck (Qjd m script until0):=ckT (t:=Q8m m script until0) (by delta Q8m;infer_instance)
instance zan (m:Q00) (script:(List Q0l)) (until0:Int):Ck (Q96 m script until0):=ckT (t:=Qbj m script until0) (by delta Qbj;infer_instance)
instance Qwk (b:(List Int)) (s:(List UInt8)):Ck (Q3o b s):=ckT (t:=Q1y b s) (by delta Q1y;infer_instance)
instance Qy0 (s:(List (List UInt8))):Ck (Q19 s):=let d:Decidable (Q19 s):=(by delta Q19;infer_instance);⟨@decide _ d,@of_decide_eq_true _ d⟩
instance xan (disk:(List (List UInt8))) (l:(List Q02)):Ck (Qnt disk l):=ckT (t:=Qke disk l) (by delta Qke;infer_instance)
theorem zn:Q27:=ck (ckT (t:=Qcb) (by delta Qcb;infer_instance)) (by kernel_rfl)
theorem Zld:Q5e=true:=by kernel_rfl
theorem aw13{W:Bool->Prop}(h:W true):(Tree.an Q27 (.lv Q5e λx=> .lf x)).w W:=w_an zn (w_lv λx e=>by show W x;rw[e,Zld];exact h)
end
structure Qm6(P:Nat)(k:Int)(r:Q01):Prop where
 g:Q8l P k r
 q:okQ r.A6
 l:(r.C0.length:Int)<=3*k
theorem yM(n:Nat): ∀(r:Q01) (o:List Q02),(recF n r o).1.C0.length<=r.C0.length+2*n:=by
 induction n with
 |zero=>intro r o;exact Nat.le_refl _
 | succ n ih=>
   intro r o
   have f:=yl r
   cases hs:Q0y (Q3z r).A0
   . rw[Qu8 hs]
     have:=ih (Qif (Q3z r)) (o++(Q0a (Q3z r).A0 (Q3z r).A9).1)
     have:=Zcp (Q3z r)
     omega
   . rw[Quq hs]
     show(Q3z r).C0.length<=_
     omega
theorem yn(l:List Q0d): ∀r:Q01,(l.foldl Q1s r).C0.length<=r.C0.length+l.length:=by
 induction l with
 |nil=>intro r;exact Nat.le_refl _
 | cons e l ih=>
   intro r
   have:=ih (Q1s r e)
   have:=Qop r e
   rw[List.foldl_cons,List.length_cons];omega
theorem vM(r:Q01)(steps clock:Int):(advF r steps clock).1.C0.length<=r.C0.length+r.A6.length+8000:=by
 obtain⟨l0,l1⟩:=Qsz steps
 cases hm:Q7f r.A0
 . unfold advF;rw[hm]
   show r.C0.length<=_
   omega
 . rw[Z0 hm]
   have a:=yM (Q13 steps).toNat (noQ (r.A6.foldl Q1s {A0:=r.A0,A9:=if clock>r.A9 then clock else r.A9,C0:=r.C0,A6:=r.A6})) []
   have b:=yn r.A6 {A0:=r.A0,A9:=if clock>r.A9 then clock else r.A9,C0:=r.C0,A6:=r.A6}
   have b:(noQ (r.A6.foldl Q1s {A0:=r.A0,A9:=if clock>r.A9 then clock else r.A9,C0:=r.C0,A6:=r.A6})).C0.length<=r.C0.length+r.A6.length:=b
   omega
theorem Zeq{P:Nat}{k:Int}{r:Q01}(h:Q8l P k r)(hu: ∀q∈r.A6,U q.N){clock:Int}(hc:U clock):Q8l P k (noQ (r.A6.foldl Q1s {A0:=r.A0,A9:=if clock>r.A9 then clock else r.A9,C0:=r.C0,A6:=r.A6})):=by
 have hcl:U (if clock>r.A9 then clock else r.A9):=by split<;>first|exact hc|exact h.clock
 obtain⟨a,b⟩:=Z55 r.A6 (r:={A0:=r.A0,A9:=if clock>r.A9 then clock else r.A9,C0:=r.C0,A6:=r.A6}) ⟨h.m,hcl,h.cnt⟩ hu
 exact⟨a.m,a.clock,a.cnt⟩
theorem Qux{P:Nat}{k:Int}{r:Q01}(h:Q8l P k r)(hq:okQ r.A6){clock:Int}(hc:U clock):Q8l P k (noQ (r.A6.foldl Q1s {A0:=r.A0,A9:=if clock>r.A9 then clock else r.A9,C0:=r.C0,A6:=r.A6})):=Zeq h hq.2 hc
theorem advP{P:Nat}{k:Int}{r:Q01}(h:Qm6 P k r)(steps:Int){clock:Int}(hc:U clock):Qm6 P (k+4000) (advF r steps clock).1:=by
 obtain⟨a,b⟩:=zk h.g h.q steps hc
 have c:=vM r steps clock
 have d:=h.q.1
 have e:=h.l
 exact⟨a,b,by omega⟩
theorem arriveP{P:Nat}{k:Int}{r:Q01}(h:Qm6 P k r){e:Q0d}(he:U e.N):Qm6 P k (Q2h r e).1:=by
 obtain⟨a,b⟩:=Zh3 h.g h.q he
 refine⟨a,b,?_⟩
 have:=h.l
 rw[Qkh]
 cases Q2o e<;>cases e.B5==1<;>cases decide ((r.A6.length:Int)>=16)<;>exact this
theorem Qm6.more{P:Nat}{k j:Int}{r:Q01}(h:Qm6 P k r)(hj:k<=j):Qm6 P j r:=
 ⟨⟨h.g.m,h.g.clock,by have:=h.g.cnt;omega⟩,h.q,by have:=h.l;omega⟩
theorem xaI{P:Nat}{k:Int}{A:Q01×Bool}(h:Qm6 P k A.1):Qm6 P (k+4000) (A.1,([]:List Q02)).1:=h.more (by omega)
theorem mstepP{P:Nat}{k:Int}{r:Q01}(h:Qm6 P k r)(n:Int):Qm6 P (k+4000) (Q3b r n).1:=by
 cases hm:Int.tmod (Q2x n 3) 3==0
 . rw[Qsj hm,Qr _ _ _ (by have:=h.q.1;omega)]
   exact advP h _ (Q0s _)
 . rw[Qst hm]
   exact xaI (arriveP h (yk n))
theorem qaJ{α β:Type}(a:α)(b:β):(a,b).1=a:=rfl
theorem Qmv(s:Q01×List Q02)(n:Int):(Qjf s n).1=(Q3b s.1 n).1:=(congrArg Prod.fst (Zac s n)).trans (qaJ _ _)
theorem playP{P:Nat}(l:List Int){k:Int}{s:Q01×List Q02}(h:Qm6 P k s.1):Qm6 P (k+4000*l.length) (l.foldl Qjf s).1:=
 vk (f:=Qjf) (I:=λk s=>Qm6 P k s.1) (λk s n h=>by rw[Qmv];exact mstepP h n) l k s h
theorem newP{P:Nat}{m:Q00}(h:good P m)(hc:m.A1<=87):Qm6 P 87 {A0:=m,A9:=0,C0:=[],A6:=[]}:=
 ⟨⟨h,U_0,hc⟩,⟨Nat.zero_le _,λq hq=>by cases hq⟩,by show((0:Nat):Int)<=_;omega⟩
theorem qN{l acts:List Int}{x0:Bool}(hx0:x0=Qsd l acts)(hb:(!x0)=false):l.length<=40/\acts.length<=30:=qak hx0 hb
theorem qao{kind:Int}{l acts:List Int}(hl:l.length*8<=reachBytes)(h40:l.length<=40)(h30:acts.length<=30){β:Type}{W:β->Prop}{k:Q00->Q01×List Q02->Tree β}
   (g: ∀m x,m=Qbc kind l->good 8 m->m.A1<=87->x=acts.foldl Qjf ({A0:=m,A9:=0,C0:=[],A6:=[]},[])->Qm6 8 121000 x.1->(k m x).w W):
   (Tree.an (Qf4 kind l) (.lv (Qbc kind l) λm=> .an (Ql m acts) (.lv (Qrt m acts) λx=>k m x))).w W:=by
 obtain⟨a,b⟩:=Zaz kind l hl h40
 refine w_an (Tree.pp (xe kind l hl)).1 (w_lv λm hm=> ?_)
 rw[<-hm]at a b
 refine w_an (Tree.pp (xaB a.ok acts h30)).1 (w_lv λx hx=> ?_)
 rw[qal _ _ (by omega),ql]at hx
 refine g m x hm a b hx ?_
 have:=playP acts (s:=({A0:=m,A9:=0,C0:=[],A6:=[]},[])) (newP a b)
 rw[hx]
 exact this.more (by omega)
theorem and255i(a:Int):0<=iand .i64 a 255/\iand .i64 a 255<=255:=by
 unfold iand
 rw[IntKind.wrap_i64]
 have:(BitVec.ofInt IntKind.i64.bits a&&&BitVec.ofInt IntKind.i64.bits 255).toNat<=255:=by
   show(BitVec.ofInt 64 a&&&BitVec.ofInt 64 255).toNat<=255
   rw[BitVec.toNat_and]
   exact Nat.le_trans Nat.and_le_right (by decide)
 omega
theorem Zf5(a:Int):0<=IntKind.wrap .u32 (iand .i64 a 255)/\IntKind.wrap .u32 (iand .i64 a 255)<=255:=by
 have:=and255i a
 rw[IntKind.wrap_u32];omega
theorem Zi1(n k:Int)(h0:0<=k)(h1:k<=1000):(Qt9 n k).length=k.toNat:=by
 show Tree.V (Qdp n k) (λs=>s.length=k.toNat)
 unfold Qdp
 refine v_lp (inv:=λv:Int×List Int=>0<=v.1/\v.1<=k/\v.2.length=v.1.toNat) (μ:=Qbs n k) ⟨Int.le_refl 0,h0,rfl⟩ (Nat.lt_succ_self _) λv ⟨a,b,c⟩=> ?_
 refine v_br (λhb=> ?_) (λhb=> ?_)
 . have hb:=of_decide_eq_true hb
   have e:IntKind.i64.wrap (v.1+1)=v.1+1:=by rw[IntKind.wrap_i64];omega
   refine v_lv λx _=>v_cn (v_nx ?_)
   show(0<=IntKind.i64.wrap (v.1+1)/\IntKind.i64.wrap (v.1+1)<=k/\(v.2++[_]).length=(IntKind.i64.wrap (v.1+1)).toNat)/\(k-IntKind.i64.wrap (v.1+1)).toNat<(k-v.1).toNat
   rw[e,List.length_append,List.length_singleton]
   exact⟨⟨by omega,by omega,by omega⟩,by omega⟩
 . have hb:=of_decide_eq_false hb
   refine v_lf ?_
   show(bytesOf v.2).length=_
   unfold bytesOf
   rw[List.length_map,c];omega
theorem zao(n k:Int):0<=Q2x n k:=by
 show Tree.V (Qoc n k) (λx=>0<=x)
 unfold Qoc
 refine v_lv λx hx=>v_lf ?_
 have r:0<=x.1/\x.1<18446744073709551616:=by
   rw[hx]
   show 0<=IntKind.wrap .u64 _/\IntKind.wrap .u64 _<_
   rw[IntKind.wrap_u64];omega
 show 0<=IntKind.wrap .i64 (x.1.fdiv 2)
 rw[Int.fdiv_eq_ediv_of_nonneg _ (by decide),IntKind.wrap_i64];omega
def evOK(e:Q0d):Prop:=Q2o e=true/\e.B5≠1
theorem Z4o:evOK Qpo:=⟨rfl,by decide⟩
theorem Zau{n:Int}(h:n<=255):Q2o {B5:=3,N:=n,C8:=[]}=true:=by
 show(bif decide (n<=255) then decide (([]:List UInt8)=[]) else false)=true
 rw[decide_eq_true h];rfl
theorem Zkn{s:List UInt8}(h:s.length=128):Q2o {B5:=4,N:=1,C8:=s}=true:=by
 show(bif decide (s=[]) then true else(s.length:Int)==128)=true
 rw[h];cases decide (s=[])<;>rfl
theorem vn{s:List UInt8}(h1:1<=s.length)(h2:s.length<=128):Q2o {B5:=5,N:=0,C8:=s}=true:=by
 show(bif decide ((s.length:Int)>=1) then decide ((s.length:Int)<=128) else false)=true
 rw[decide_eq_true (show(s.length:Int)>=1 by omega),decide_eq_true (show(s.length:Int)<=128 by omega)];rfl
theorem xN(n:Int):evOK (Q47 n):=by
 show Tree.V (Q9d n) evOK
 unfold Q9d
 refine v_lv λx hx=> ?_
 have x0:0<=x:=by rw[hx];exact zao n 2
 have i2: ∀k:Int,k≠1-> ¬k=1:=λ_ h=>h
 refine v_br (λ_=>v_lf ⟨rfl,by decide⟩) λ_=>v_br (λ_=>v_lf ⟨Zau (Zf5 _).2,by show(3:Int)≠1;decide⟩) λ_=>v_br (λ_=>v_lf ⟨Zau (Zf5 _).2,by show(3:Int)≠1;decide⟩) λ_=>v_br (λ_=>v_lf ⟨rfl,by decide⟩) λ_=>v_br (λ_=>v_an (v_lv λy hy=>v_lf ⟨Zkn ?_,by show(4:Int)≠1;decide⟩)) λ_=>v_br (λ_=>v_an (v_lv λy hy=>v_lf ⟨?_,by show(5:Int)≠1;decide⟩)) λ_=>v_br (λ_=>v_lf ⟨rfl,by decide⟩) λ_=>v_lf ⟨rfl,by show(6:Int)≠1;decide⟩
 . rw[hy,Zi1 _ _ (by decide) (by decide)];rfl
 . have s0:0<=ishr .i64 x 8:=by
     unfold ishr
     exact Int.fdiv_nonneg x0 (Int.le_of_lt (Int.pow_pos (by decide)))
   have t1:=Int.tmod_lt_of_pos (ishr .i64 x 8) (b:=40) (by decide)
   have t0:=Int.tmod_nonneg 40 s0
   have e:IntKind.i64.wrap (1+Int.tmod (ishr .i64 x 8) 40)=1+Int.tmod (ishr .i64 x 8) 40:=by rw[IntKind.wrap_i64];omega
   rw[e]at hy
   have:=Zi1 x (1+Int.tmod (ishr .i64 x 8) 40) (by omega) (by omega)
   rw[<-hy]at this
   exact vn (by omega) (by omega)
structure Qjm(c0:Int)(r:Q01):Prop where
 pw:r.C0.Pairwise λa b=>a.At<=b.At/\(a.C6.B5=1->a.At<b.At/\(b.C6.B5=1->a.C6.N<=b.C6.N))
 all: ∀e∈r.C0,c0<=e.At/\e.At<=r.A0.A1/\Q2o e.C6=true/\(e.C6.B5=1->e.At<r.A0.A1/\e.C6.N<r.A9/\0<=e.C6.N)
 q: ∀e∈r.A6,evOK e
 c:c0<=r.A0.A1
theorem Qjm.with{c0:Int}{r x:Q01}(h:Qjm c0 r)(hl:x.C0=r.C0)(hm:x.A0.A1=r.A0.A1)(hc:r.A9<=x.A9)(hq: ∀e∈x.A6,evOK e):Qjm c0 x:=
 ⟨by rw[hl];exact h.pw,by
   rw[hl,hm]
   exact λe he=>⟨(h.all e he).1,(h.all e he).2.1,(h.all e he).2.2.1,λk=>⟨((h.all e he).2.2.2 k).1,by have:=((h.all e he).2.2.2 k).2.1;omega,((h.all e he).2.2.2 k).2.2⟩⟩,hq,by rw[hm];exact h.c⟩
theorem Ze4{P:Nat}{k c0:Int}{r:Q01}(h:Qjm c0 r)(g:Q8l P k r){e:Q0d}(he:evOK e)(hu:U e.N):Qjm c0 (Q1s r e):=by
  obtain⟨a,b⟩:=Qin g.m hu
  unfold Q1s
  cases(Q0o r.A0 e).1
  . exact h.with rfl b (Int.le_refl _) h.q
  . show Qjm c0 {A0:=(Q0o r.A0 e).2,A9:=r.A9,C0:=r.C0++[{At:=(Q0o r.A0 e).2.A1,C6:=e}],A6:=r.A6}
    rw[b]
    refine⟨List.pairwise_append.2 ⟨h.pw,List.pairwise_singleton _ _,λx hx y hy=> ?_⟩,λx hx=> ?_,h.q,by show c0<=(Q0o r.A0 e).2.A1;rw[b];exact h.c⟩
    . rw[List.mem_singleton.1 hy]
      obtain⟨p1,p2,p3,p4⟩:=h.all x hx
      exact⟨p2,λkx=>⟨(p4 kx).1,λke=>absurd ke he.2⟩⟩
    . show c0<=x.At/\x.At<=(Q0o r.A0 e).2.A1/\_/\(_->x.At<(Q0o r.A0 e).2.A1/\_)
      rw[b]
      rcases List.mem_append.1 hx with hx|hx
      . exact h.all x hx
      . rw[List.mem_singleton.1 hx]
        exact⟨h.c,Int.le_refl _,he.1,λke=>absurd ke he.2⟩
theorem zN{P:Nat}{k c0:Int}{r:Q01}(h:Qjm c0 r)(g:Q8l P k r):Qjm c0 (Q3z r):=by
 rw[Qnk]
 cases Q7g r.A0.B0 r.A9
 . exact h
 . exact Ze4 h g Z4o U_0
theorem yN{P:Nat}{k c0:Int}{r:Q01}(h:Qjm c0 r)(g:Q8l P k r)(hs:Q0y r.A0=false)(hc:r.A9<4294967295):Qjm c0 (Qif r)/\(Qif r).A9=r.A9+1:=by
  obtain⟨_,b,_⟩:=Q8f g.m hs g.clock
  have c0':=g.clock.1
  have ec:IntKind.wrap .u32 (r.A9+1)=r.A9+1:=by rw[IntKind.wrap_u32];omega
  have old: ∀x∈r.C0,c0<=x.At/\x.At<=r.A0.A1+1/\Q2o x.C6=true/\(x.C6.B5=1->x.At<r.A0.A1+1/\x.C6.N<r.A9+1/\0<=x.C6.N):=λx hx=>by
    obtain⟨p1,p2,p3,p4⟩:=h.all x hx
    exact⟨p1,by omega,p3,λkx=>⟨by have:=(p4 kx).1;omega,by have:=(p4 kx).2.1;omega,(p4 kx).2.2⟩⟩
  have hcc:=h.c
  cases hr:Q0t r.A0
  . rw[Zgz hr,ec]
    refine⟨⟨h.pw,?_,h.q,by show c0<=(Q0a r.A0 r.A9).2.A1;omega⟩,rfl⟩
    show∀x∈r.C0,c0<=x.At/\x.At<=(Q0a r.A0 r.A9).2.A1/\_/\(_->x.At<(Q0a r.A0 r.A9).2.A1/\_)
    rw[b];exact old
  . rw [Z20 hr,ec]
    refine⟨⟨List.pairwise_append.2 ⟨h.pw,List.pairwise_singleton _ _,λx hx y hy=> ?_⟩,?_,h.q,by show c0<=(Q0a r.A0 r.A9).2.A1;omega⟩,rfl⟩
    . rw[List.mem_singleton.1 hy]
      obtain⟨p1,p2,p3,p4⟩:=h.all x hx
      exact⟨p2,λkx=>⟨(p4 kx).1,λ_=>Int.le_of_lt (p4 kx).2.1⟩⟩
    . show∀x∈r.C0++[_],c0<=x.At/\x.At<=(Q0a r.A0 r.A9).2.A1/\_/\(_->x.At<(Q0a r.A0 r.A9).2.A1/\_)
      rw[b]
      intro x hx
      rcases List.mem_append.1 hx with hx|hx
      . exact old x hx
      . rw[List.mem_singleton.1 hx]
        exact⟨h.c,by show r.A0.A1<=_;omega,rfl,λ_=>⟨by show r.A0.A1<_;omega,by show r.A9<r.A9+1;omega,c0'⟩⟩
theorem Zey(r:Q01):(Q3z r).A9=r.A9:=by
 rw[Qnk]
 cases Q7g r.A0.B0 r.A9
 . rfl
 . show(Q1s r Qpo).A9=r.A9
   unfold Q1s;cases(Q0o r.A0 Qpo).1<;>rfl
theorem Zbz(r:Q01)(e:Q0d):(Q1s r e).A9=r.A9:=by
 unfold Q1s;cases(Q0o r.A0 e).1<;>rfl
theorem xao{P:Nat}{c0:Int}(n:Nat): ∀{k B:Int} {r:Q01} {o:List Q02},Qjm c0 r->Q8l P k r->r.A9<=B->B+n<4294967295->Qjm c0 (recF n r o).1/\(recF n r o).1.A9<=B+n:=by
 induction n with
 |zero=>intro k B r o h g hb _;exact⟨h,by show r.A9<=B+(0:Nat);omega⟩
 | succ n ih=>
   intro k B r o h g hb hn
   have f:=zN h g
   obtain⟨gf,_⟩:=Qoo g
   have fc:=Zey r
   cases hs:Q0y (Q3z r).A0
   . rw[Qu8 hs]
     obtain⟨t1,t2⟩:=yN f gf hs (by omega)
     have:=ih (o:=o++(Q0a (Q3z r).A0 (Q3z r).A9).1) t1 (Qo2 gf hs) (B:=B+1) (by omega) (by omega)
     exact⟨this.1,by have:=this.2;omega⟩
   . rw[Quq hs]
     exact⟨f,by show(Q3z r).A9<=_;omega⟩
theorem vN{P:Nat}{k c0:Int}(l:List Q0d): ∀{r:Q01},Qjm c0 r->Q8l P k r->(∀e∈l,evOK e/\U e.N)->Qjm c0 (l.foldl Q1s r)/\(l.foldl Q1s r).A9=r.A9/\Q8l P k (l.foldl Q1s r):=by
 induction l with
 |nil=>intro r h g _;exact⟨h,rfl,g⟩
 | cons e l ih=>
   intro r h g hu
   obtain⟨a,b⟩:=hu e (by simp)
   obtain⟨p,q,s⟩:=ih (Ze4 h g a b) (Qla g b).1 (λq hq=>hu q (by simp [hq]))
   exact⟨p,q.trans (Zbz r e),s⟩
theorem qap{P:Nat}{k c0 B:Int}{r:Q01}(h:Qjm c0 r)(g:Q8l P k r)(hq:okQ r.A6){steps clock:Int}(hb:r.A9<=B)(hc0:0<=clock)(hc:clock<=B)(hs:0<=steps/\steps<12)(hB:B<1000000000):Qjm c0 (advF r steps clock).1/\(advF r steps clock).1.A9<=B+12:=by
 rw[Z0 g.m.rmay,Qua hs.1 (by omega)]
 have m0:r.A9<=(if clock>r.A9 then clock else r.A9)/\(if clock>r.A9 then clock else r.A9)<=B:=by split<;>omega
 generalize(if clock>r.A9 then clock else r.A9)=cl at*
 have u:U cl:=by have:=g.clock;unfold U at*;omega
 obtain⟨a,b,c⟩:=vN r.A6 (r:={A0:=r.A0,A9:=cl,C0:=r.C0,A6:=r.A6}) (h.with rfl rfl m0.1 h.q) ⟨g.m,u,g.cnt⟩ (λe he=>⟨h.q e he,hq.2 e he⟩)
 have b:(r.A6.foldl Q1s {A0:=r.A0,A9:=cl,C0:=r.C0,A6:=r.A6}).A9=cl:=b
 generalize r.A6.foldl Q1s {A0:=r.A0,A9:=cl,C0:=r.C0,A6:=r.A6}=y at*
 have:=xao steps.toNat (o:=[]) (r:=noQ y) (B:=B) (a.with rfl rfl (Int.le_refl _) (λe he=>by cases he)) (k:=k) ⟨c.m,c.clock,c.cnt⟩ (by show y.A9<=B;omega) (by omega)
 exact⟨this.1,by have:=this.2;omega⟩
theorem zap{c0:Int}{r:Q01}(h:Qjm c0 r){e:Q0d}(he:evOK e):Qjm c0 (Q2h r e).1/\(Q2h r e).1.A9=r.A9:=by
  rw[Qkh]
  cases Q2o e
  . exact⟨h,rfl⟩
  . cases e.B5==1
    . cases decide ((r.A6.length:Int)>=16)
      . refine⟨h.with rfl rfl (Int.le_refl _) λq hq=> ?_,rfl⟩
        have hq:q∈r.A6++[e]:=hq
        rcases List.mem_append.1 hq with hq|hq
        . exact h.q q hq
        . rw[List.mem_singleton.1 hq];exact he
      . exact⟨h,rfl⟩
    . exact⟨h,rfl⟩
structure logP(c0 k B:Int)(r:Q01):Prop where
 p:Qm6 8 k r
 l:Qjm c0 r
 b:r.A9<=B
theorem qO{c0 k B:Int}{A:Q01×Bool}(p:Qm6 8 k A.1)(a:Qjm c0 A.1)(b:A.1.A9<=B):logP c0 k B (A.1,([]:List Q02)).1:=⟨p,a,b⟩
theorem Qo{c0 k B:Int}{r:Q01}(h:logP c0 k B r)(h255:255<=B)(hB:B<1000000000)(n:Int):logP c0 (k+4000) (B+12) (Q3b r n).1:=by
 have p:=mstepP h.p n
 have hb:=h.b
 cases hm:Int.tmod (Q2x n 3) 3==0
 . have rr:=Qhs (n:=ishr .i64 (Q2x n 3) 4) (k:=12) (by decide) (by decide)
   have w:=Zf5 (ishr .i64 (Q2x n 3) 12)
   rw[Qsj hm,Qr _ _ _ (by have:=h.p.q.1;omega)]at p⊢
   obtain⟨a,b⟩:=qap h.l h.p.g h.p.q (steps:=Q3m (ishr .i64 (Q2x n 3) 4) 12) (clock:=IntKind.wrap .u32 (iand .i64 (ishr .i64 (Q2x n 3) 12) 255)) hb w.1 (by omega) rr hB
   exact⟨p,a,b⟩
 . have hb':r.A9<=B+12:=by omega
   obtain⟨a,b⟩:=zap h.l (xN n)
   rw[Qst hm]
   exact qO (A:=Q2h r (Q47 n)) ((arriveP h.p (yk n)).more (Int.le_add_of_nonneg_right (by decide))) a (Int.le_trans (Int.le_of_eq b) hb')
theorem qo{c0:Int}(l:List Int): ∀{k B:Int} {s:Q01×List Q02},logP c0 k B s.1->255<=B->B+12*l.length<1000000000->logP c0 (k+4000*l.length) (B+12*l.length) (l.foldl Qjf s).1:=by
 induction l with
 |nil=>intro k B s h _ _;simpa using h
 | cons n l ih=>
   intro k B s h h1 h2
   have e:((n::l).length:Int)=l.length+1:=by rw[List.length_cons];omega
   rw[e]at h2⊢
   have a:=Qo h h1 (by omega) n
   rw[<-Qmv]at a
   have:=ih a (by omega) (by omega)
   rw[List.foldl_cons,show k+4000*((l.length:Int)+1)=k+4000+4000*l.length by omega,show B+12*((l.length:Int)+1)=B+12+12*l.length by omega]
   exact this
theorem xO{m:Q00}(h:good 8 m)(hc:m.A1<=87):logP m.A1 87 255 {A0:=m,A9:=0,C0:=[],A6:=[]}:=
 ⟨newP h hc,⟨List.Pairwise.nil,(λe he=>by cases he),(λe he=>by cases he),Int.le_refl _⟩,by show(0:Int)<=255;decide⟩
inductive Q6y:Q00->List Q0l->List Q02->Q00->Prop
 |nil {m:Q00}:Q6y m [] [] m
 |ev {m n:Q00} {e:Q0d} {L:List Q0l} {o:List Q02}:True->e.B5≠1->U e.N->Q6y (Q0o m e).2 L o n->Q6y m ({At:=m.A1,C6:=e}::L) o n
 |rd {m n:Q00} {c:Int} {L:List Q0l} {o:List Q02}:Q0y m=false->Q0t m=true->U c->Q6y (Q0a m c).2 L o n->Q6y m ({At:=m.A1,C6:={B5:=1,N:=c,C8:=[]}}::L) ((Q0a m c).1++o) n
 |st {m n:Q00} {c:Int} {L:List Q0l} {o:List Q02}:Q0y m=false->Q0t m=false->U c->Q6y (Q0a m c).2 L o n->Q6y m L ((Q0a m c).1++o) n
theorem Q6y.trans{a b c:Q00}{L M:List Q0l}{o p:List Q02}(h:Q6y a L o b)(g:Q6y b M p c):Q6y a (L++M) (o++p) c:=by
 induction h with
 |nil=>exact g
 |ev h1 h2 h3 _ ih=>exact .ev h1 h2 h3 (ih g)
 |rd h1 h2 h3 _ ih=>rw[List.append_assoc];exact .rd h1 h2 h3 (ih g)
 |st h1 h2 h3 _ ih=>rw[List.append_assoc];exact .st h1 h2 h3 (ih g)
theorem Q6y.good{P:Nat}{a b:Q00}{L:List Q0l}{o:List Q02}(h:Q6y a L o b):good P a->good P b/\a.A1<=b.A1/\ ∀e∈L,a.A1<=e.At:=by
 induction h with
 |nil=>exact λg=>⟨g,Int.le_refl _,λe he=>by cases he⟩
 | ev h1 h2 h3 _ ih=>
   intro g
   obtain⟨g1,c1⟩:=Qin g h3
   obtain⟨p,q,r⟩:=ih g1
   rw[c1]at q r
   exact⟨p,q,λe he=>(List.mem_cons.1 he).elim (λh=>by rw[h];exact Int.le_refl _) (λh=>r e h)⟩
 | rd h1 h2 h3 _ ih=>
   intro g
   obtain⟨g1,c1,_⟩:=Q8f g h1 h3
   obtain⟨p,q,r⟩:=ih g1
   rw[c1]at q r
   exact⟨p,by omega,λe he=>(List.mem_cons.1 he).elim (λh=>by rw[h];exact Int.le_refl _) (λh=>by have:=r e h;omega)⟩
 | st h1 h2 h3 _ ih=>
   intro g
   obtain⟨g1,c1,_⟩:=Q8f g h1 h3
   obtain⟨p,q,r⟩:=ih g1
   rw[c1]at q r
   exact⟨p,by omega,λe he=>by have:=r e he;omega⟩
def Q6f(r x:Q01)(o:List Q02):Prop:= ∃L,x.C0=r.C0++L/\Q6y r.A0 L o x.A0
theorem Q6f.rfl{r:Q01}:Q6f r r []:=⟨[],(List.append_nil _).symm, .nil⟩
theorem Q6f.trans{a b c:Q01}{o p:List Q02}(h:Q6f a b o)(g:Q6f b c p):Q6f a c (o++p):=by
 obtain⟨L,l1,l2⟩:=h
 obtain⟨M,m1,m2⟩:=g
 exact⟨L++M,by rw[m1,l1,List.append_assoc],l2.trans m2⟩
theorem Q6f.trans0{a b c:Q01}{p:List Q02}(h:Q6f a b [])(g:Q6f b c p):Q6f a c p:=h.trans g
theorem Zi8{P:Nat}{k:Int}{r:Q01}(g:Q8l P k r){e:Q0d}(he:evOK e)(hu:U e.N):Q6f r (Q1s r e) []:=by
 obtain⟨_,b⟩:=Qin g.m hu
 cases ha:(Q0o r.A0 e).1
 . rw[Qz ha];exact Q6f.rfl
 . unfold Q1s
   rw[ha]
   refine⟨[{At:=r.A0.A1,C6:=e}],?_, .ev trivial he.2 hu .nil⟩
   show r.C0++[{At:=(Q0o r.A0 e).2.A1,C6:=e}]=_
   rw[b]
theorem xap{P:Nat}{k:Int}{r:Q01}(g:Q8l P k r):Q6f r (Q3z r) []:=by
 rw[Qnk]
 cases Q7g r.A0.B0 r.A9
 . exact Q6f.rfl
 . exact Zi8 g Z4o U_0
theorem qaq{P:Nat}{k:Int}{r:Q01}(g:Q8l P k r)(hs:Q0y r.A0=false):Q6f r (Qif r) (Q0a r.A0 r.A9).1:=by
 cases hr:Q0t r.A0
 . rw[Zgz hr]
   refine⟨[],(List.append_nil _).symm,?_⟩
   have:=Q6y.st (L:=[]) (o:=[]) hs hr g.clock .nil
   rw[List.append_nil]at this;exact this
 . rw[Z20 hr]
   refine⟨[{At:=r.A0.A1,C6:={B5:=1,N:=r.A9,C8:=[]}}],_root_.rfl,?_⟩
   have:=Q6y.rd (L:=[]) (o:=[]) hs hr g.clock .nil
   rw[List.append_nil]at this;exact this
theorem zaJ{P:Nat}(n:Nat): ∀{k:Int} {r:Q01},Q8l P k r->Q6f r (recF n r []).1 (recF n r []).2:=by
 induction n with
 |zero=>intro k r _;exact Q6f.rfl
 | succ n ih=>
   intro k r g
   obtain⟨gf,_⟩:=Qoo g
   have f:=xap g
   cases hs:Q0y (Q3z r).A0
   . rw[Qu8 hs,yL,List.nil_append]
     exact f.trans0 ((qaq gf hs).trans (ih (Qo2 gf hs)))
   . rw[Quq hs];exact f
theorem zaq{P:Nat}{k:Int}(l:List Q0d): ∀{r:Q01},Q8l P k r->(∀e∈l,evOK e/\U e.N)->Q6f r (l.foldl Q1s r) []:=by
 induction l with
 |nil=>intro r _ _;exact Q6f.rfl
 | cons e l ih=>
   intro r g hu
   obtain⟨a,b⟩:=hu e (by simp)
   exact(Zi8 g a b).trans0 (ih (Qla g b).1 (λq hq=>hu q (by simp [hq])))
theorem xaJ{P:Nat}{k:Int}{r:Q01}(g:Q8l P k r)(hq:okQ r.A6)(he: ∀e∈r.A6,evOK e)(steps:Int){clock:Int}(hc:U clock):Q6f r (advF r steps clock).1 (advF r steps clock).2:=by
 rw[Z0 g.m.rmay]
 have s:=Qux g hq hc
 have u:U (if clock>r.A9 then clock else r.A9):=by split<;>first|exact hc|exact g.clock
 have f:=zaq r.A6 (r:={A0:=r.A0,A9:=if clock>r.A9 then clock else r.A9,C0:=r.C0,A6:=r.A6}) (k:=k) ⟨g.m,u,g.cnt⟩ (λe h=>⟨he e h,hq.2 e h⟩)
 generalize r.A6.foldl Q1s {A0:=r.A0,A9:=if clock>r.A9 then clock else r.A9,C0:=r.C0,A6:=r.A6}=y at*
 have f:Q6f r (noQ y) []:=f
 exact f.trans0 (zaJ _ s)
theorem qaK(r:Q01)(e:Q0d):Q6f r (Q2h r e).1 []:=by
 rw[Qkh]
 cases Q2o e<;>cases e.B5==1<;>cases decide ((r.A6.length:Int)>=16)<;>exact Q6f.rfl
theorem ev_on{r:Q01}{A:Q01×Bool}(h:Q6f r A.1 []):Q6f r (A.1,([]:List Q02)).1 (A.1,([]:List Q02)).2:=h
theorem zO{c0 k B:Int}{r:Q01}(h:logP c0 k B r)(n:Int):Q6f r (Q3b r n).1 (Q3b r n).2:=by
 cases hm:Int.tmod (Q2x n 3) 3==0
 . rw[Qsj hm,Qr _ _ _ (by have:=h.p.q.1;omega)]
   exact xaJ h.p.g h.p.q h.l.q _ (Q0s _)
 . rw[Qst hm]
   exact ev_on (A:=Q2h r (Q47 n)) (qaK _ _)
theorem xaq{c0:Int}(l:List Int): ∀{k B:Int} {s:Q01×List Q02},logP c0 k B s.1->255<=B->B+12*l.length<1000000000-> ∃o,(l.foldl Qjf s).2=s.2++o/\Q6f s.1 (l.foldl Qjf s).1 o:=by
 induction l with
 |nil=>intro k B s _ _ _;exact⟨[],(List.append_nil _).symm,Q6f.rfl⟩
 | cons n l ih=>
   intro k B s h h1 h2
   rw[List.length_cons]at h2
   have a:=Qo h h1 (by omega) n
   have b:=zO h n
   rw[<-Qmv]at a b
   obtain⟨o,o1,o2⟩:=ih a (by omega) (by omega)
   refine⟨(Q3b s.1 n).2++o,?_,b.trans o2⟩
   rw[List.foldl_cons,o1,Zac,List.append_assoc]
def arm(r:Q01):Nat:=if r.A0.B0.D2 then 1 else 0
theorem zX(r:Q01):arm r<=1:=by unfold arm;split<;>omega
theorem Zft(m:Q00)(e:Q0d):(Q0o m e).2.B0=m.B0\/(Q0o m e).2.B0=(Q5x m.B0).1:=by
 show Tree.V (Q43 m e) (λx=>x.2.B0=m.B0\/x.2.B0=(Q5x m.B0).1)
 unfold Q43
 repeat'(first
   |exact v_lf (.inl rfl)
   |exact v_lv λx hx=>v_lf (.inr (by rw[hx]))
   |exact v_lv λx hx=>v_lf (.inl rfl)
   |exact v_an (v_lv λx hx=>v_lf (.inl rfl))
   |refine v_br (λ_=> ?_) (λ_=> ?_))
theorem yO(t:Q0g):(Q5x t).1.D2=true->t.D2=true:=by
 show Tree.V (Q8y t) (λr=>r.1.D2=true->t.D2=true)
 unfold Q8y
 exact v_br (λ_=>v_lf λh=>h) (λ_=>v_lf λh=>by cases h)
theorem xo(r:Q01)(e:Q0d):(Q1s r e).C0.length+arm (Q1s r e)<=r.C0.length+arm r+1:=by
  have l:=Qop r e
  cases ha:(Q0o r.A0 e).1
  . rw[Qz ha];omega
  . have h:arm (Q1s r e)<=arm r:=by
      unfold arm Q1s
      rw[ha]
      show(if(Q0o r.A0 e).2.B0.D2=true then 1 else 0)<=_
      rcases Zft r.A0 e with t|t
      . rw[t];exact Nat.le_refl _
      . rw[t]
        split
        . rename_i q;rw[if_pos (yO _ q)];exact Nat.le_refl _
        . exact Nat.zero_le _
    omega
theorem vO(r:Q01):(Q3z r).C0.length+arm (Q3z r)<=r.C0.length+arm r:=by
  cases hd:Q7g r.A0.B0 r.A9
  . rw[zm hd];exact Nat.le_refl _
  . have e:Q3z r=Q1s r Qpo:=by rw[Qnk,hd];rfl
    rw[e]
    cases ha:(Q0o r.A0 Qpo).1
    . rw[Qz ha];exact Nat.le_refl _
    . have a1:arm r=1:=by
        unfold arm
        refine if_pos ?_
        cases h:r.A0.B0.D2
        . rw[xm h]at hd;cases hd
        . rfl
      have l:=Qop r Qpo
      have a0:arm (Q1s r Qpo)=0:=by
        unfold arm Q1s
        rw[ha]
        refine if_neg ?_
        show¬(Q0o r.A0 Qpo).2.B0.D2=true
        rw[Zfy]at ha⊢
        cases hh:r.A0.A7
        . rw[hh]at ha
          have:=qm _ ha
          show¬(Q5x r.A0.B0).1.D2=true
          rw[this];decide
        . rw[hh]at ha;cases ha
      omega
theorem Zek{P:Nat}{m:Q00}(g:good P m)(hr:Q0t m=true)(clock:Int):(Q0a m clock).2.B0=m.B0:=by
 have rd:Q0t m=bif Q0y m then false else Qd1 m:=rfl
 rw[rd]at hr
 cases hs:Q0y m
 . rw[hs]at hr
   have hr:Qd1 m=true:=hr
   obtain⟨g1,g2,g3,g4,g5⟩:=(Qj7 m).1 g.may
   obtain⟨b1,b2,b3,_⟩:=(Tree.pp (Qrc g.s g2)).2
   change Q5n (Q0p m).B2 at b1
   change okS P (Q0p m) at b2
   have be:=Quu g.v g2.st
   have b1':Q5n (Q0m m):=by have:=b1;rw[be]at this;exact this
   have b2':Q2b (Q0m m):=by have:=b2.cpu;rw[be]at this;exact this
   rw[Zco,<-Zhv g.ok.mem b2' b1'.st]at hr
   rw[vW]
   generalize Q6m (Q0m m) m.Mem=D at*
   unfold ioP at hr
   unfold finR
   cases hk:D.2.1.B5==1
   . rw[hk]at hr;cases hr
   . rw[hk]at hr
     have hp:D.2.1.D1=2:=eq_of_beq hr
     rw[hp];rfl
 . rw[hs]at hr;cases hr
theorem qP{P:Nat}{k:Int}{r:Q01}(g:Q8l P k r):(Qif r).C0.length+arm (Qif r)<=r.C0.length+arm r+1:=by
 cases hr:Q0t r.A0
 . have:=zX (Qif r)
   have e:(Qif r).C0=r.C0:=by rw[Zgz hr]
   rw[e];omega
 . have l:=Zcp r
   have e:arm (Qif r)=arm r:=by
     unfold arm
     rw[Z20 hr]
     show(if(Q0a r.A0 r.A9).2.B0.D2=true then 1 else 0)=_
     rw[Zek g.m hr]
   omega
theorem qar{P:Nat}(n:Nat): ∀{k:Int} {r:Q01} {o:List Q02},Q8l P k r->(recF n r o).1.C0.length+arm (recF n r o).1<=r.C0.length+arm r+n:=by
 induction n with
 |zero=>intro k r o _;exact Nat.le_refl _
 | succ n ih=>
   intro k r o g
   obtain⟨gf,_⟩:=Qoo g
   have f:=vO r
   cases hs:Q0y (Q3z r).A0
   . rw[Qu8 hs]
     have a:=ih (o:=o++(Q0a (Q3z r).A0 (Q3z r).A9).1) (Qo2 gf hs)
     have b:=qP gf
     omega
   . rw[Quq hs]
     show(Q3z r).C0.length+arm (Q3z r)<=_
     omega
theorem xP(l:List Q0d): ∀r:Q01,(l.foldl Q1s r).C0.length+arm (l.foldl Q1s r)<=r.C0.length+arm r+l.length:=by
 induction l with
 |nil=>intro r;exact Nat.le_refl _
 | cons e l ih=>
   intro r
   have a:=ih (Q1s r e)
   have b:=xo r e
   rw[List.foldl_cons,List.length_cons];omega
def cntR(r:Q01):Nat:=r.C0.length+arm r+r.A6.length
theorem zar{P:Nat}{k:Int}{r:Q01}(g:Q8l P k r)(hq:okQ r.A6){steps clock:Int}(hc:U clock)(hs:0<=steps/\steps<12):cntR (advF r steps clock).1<=cntR r+11:=by
 have s:=Qux g hq hc
 have f:=xP r.A6 {A0:=r.A0,A9:=if clock>r.A9 then clock else r.A9,C0:=r.C0,A6:=r.A6}
 rw[Z0 g.m.rmay,Qua hs.1 (by omega)]
 generalize r.A6.foldl Q1s {A0:=r.A0,A9:=if clock>r.A9 then clock else r.A9,C0:=r.C0,A6:=r.A6}=y at*
 have q:(recF steps.toNat (noQ y) []).1.A6=[]:=Z4g _ _ _
 have c:=qar steps.toNat (o:=[]) s
 have e:arm (noQ y)=arm y:=rfl
 have e1:(noQ y).C0=y.C0:=rfl
 have e2:arm {A0:=r.A0,A9:=if clock>r.A9 then clock else r.A9,C0:=r.C0,A6:=r.A6}=arm r:=rfl
 rw[e,e1]at c
 rw[e2]at f
 have f:y.C0.length+arm y<=r.C0.length+arm r+r.A6.length:=f
 unfold cntR
 rw[q]
 show _+_+0<=_
 omega
theorem zo{P:Nat}{k:Int}{r:Q01}(g:Q8l P k r)(hq:okQ r.A6){steps clock:Int}(hc:U clock)(hs:0<=steps/\steps<12):(advF r steps clock).1.A0.A1<=r.A0.A1+11:=by
 have s:=Qux (k:=r.A0.A1) ⟨g.m,g.clock,Int.le_refl _⟩ hq hc
 rw[Z0 g.m.rmay,Qua hs.1 (by omega)]
 have:=(Zbr steps.toNat (o:=[]) s).cnt
 omega
theorem Zfg{c0 k B:Int}{r:Q01}(h:logP c0 k B r)(n:Int):(Q3b r n).1.A0.A1<=r.A0.A1+11:=by
 cases hm:Int.tmod (Q2x n 3) 3==0
 . rw[Qsj hm,Qr _ _ _ (by have:=h.p.q.1;omega)]
   exact zo h.p.g h.p.q (Q0s _) (Qhs (n:=ishr .i64 (Q2x n 3) 4) (k:=12) (by decide) (by decide))
 . rw[Qst hm,Qkh]
   have z:r.A0.A1<=r.A0.A1+11:=by omega
   cases Q2o (Q47 n)<;>cases(Q47 n).B5==1<;>cases decide ((r.A6.length:Int)>=16)<;>exact z
theorem Zjh{c0:Int}(l:List Int): ∀{k B:Int} {s:Q01×List Q02},logP c0 k B s.1->255<=B->B+12*l.length<1000000000->(l.foldl Qjf s).1.A0.A1<=s.1.A0.A1+11*l.length:=by
 induction l with
 |nil=>intro k B s _ _ _;show s.1.A0.A1<=s.1.A0.A1+11*((0:Nat):Int);omega
 | cons n l ih=>
   intro k B s h h1 h2
   rw[List.length_cons]at h2
   have a:=Qo h h1 (by omega) n
   have b:=Zfg h n
   rw[<-Qmv]at a b
   have:=ih a (by omega) (by omega)
   rw[List.foldl_cons,List.length_cons];omega
theorem vo{c0 k B:Int}{r:Q01}(h:logP c0 k B r)(n:Int):cntR (Q3b r n).1<=cntR r+11:=by
 cases hm:Int.tmod (Q2x n 3) 3==0
 . rw[Qsj hm,Qr _ _ _ (by have:=h.p.q.1;omega)]
   exact zar h.p.g h.p.q (Q0s _) (Qhs (n:=ishr .i64 (Q2x n 3) 4) (k:=12) (by decide) (by decide))
 . rw[Qst hm,Qkh]
   have:cntR {A0:=r.A0,A9:=r.A9,C0:=r.C0,A6:=r.A6++[Q47 n]}=cntR r+1:=by
     show r.C0.length+arm r+(r.A6++[_]).length=r.C0.length+arm r+r.A6.length+1
     rw[List.length_append,List.length_singleton];omega
   cases Q2o (Q47 n)<;>cases(Q47 n).B5==1<;>cases decide ((r.A6.length:Int)>=16)<;>first|exact Nat.le_add_right _ _|(show cntR {A0:=r.A0,A9:=r.A9,C0:=r.C0,A6:=r.A6++[Q47 n]}<=_;omega)
theorem zP{c0:Int}(l:List Int): ∀{k B:Int} {s:Q01×List Q02},logP c0 k B s.1->255<=B->B+12*l.length<1000000000->cntR (l.foldl Qjf s).1<=cntR s.1+11*l.length:=by
 induction l with
 |nil=>intro k B s _ _ _;exact Nat.le_refl _
 | cons n l ih=>
   intro k B s h h1 h2
   rw[List.length_cons]at h2
   have a:=Qo h h1 (by omega) n
   have b:=vo h n
   rw[<-Qmv]at a b
   have:=ih a (by omega) (by omega)
   rw[List.foldl_cons,List.length_cons];omega
theorem Qio{l:List Q0l}{i:Nat}(h:i<l.length):l.getD i (RK.dflt RK.apiEntry)=l[i]:=by
 rw[List.getD_eq_getElem?_getD,List.getElem?_eq_getElem h];rfl
theorem qp{s:List Q0l}(hl:s.length<=1000000)(hp:s.Pairwise λa b=>a.At<=b.At/\(a.C6.B5=1->a.At<b.At/\(b.C6.B5=1->a.C6.N<=b.C6.N))):(Q88 s).w (λb=>b=true):=by
 unfold Q88
 refine w_lp (inv:=λz:Int=>1<=z/\(z<=s.length\/z=1)) (μ:=Q4a s) ⟨Int.le_refl 1, .inr rfl⟩ (Nat.lt_succ_self _) λi ⟨a,b⟩=> ?_
 refine w_br (λhb=> ?_) (λ_=>rfl)
 have hb:=of_decide_eq_true hb
 have ew:IntKind.i64.wrap (i+1)=i+1:=by rw[IntKind.wrap_i64];omega
 have em:IntKind.i64.wrap (i-1)=i-1:=by rw[IntKind.wrap_i64];omega
 have hlt:i.toNat<s.length:=by omega
 have hlt':(i-1).toNat<s.length:=by omega
 have q:=List.pairwise_iff_getElem.1 hp (i-1).toNat i.toNat hlt' hlt (by omega)
 rw[<-Qio hlt,<-Qio hlt']at q
 have nx:(1<=IntKind.i64.wrap (i+1)/\(IntKind.i64.wrap (i+1)<=s.length\/IntKind.i64.wrap (i+1)=1))/\Q4a s (IntKind.i64.wrap (i+1))<Q4a s i:=by
   show _/\(s.length-IntKind.i64.wrap (i+1)).toNat<(s.length-i).toNat
   rw[ew];omega
 refine w_cn (by rw[em];simp [Nat.blt];omega) (w_cn (by simp [Nat.blt];omega) (w_br (λh=> ?_) λ_=>w_br (λh1=>w_br (λh2=> ?_) λ_=>w_nx nx) λ_=>w_nx nx))
 . have h:=of_decide_eq_true h
   rw[em]at h
   have:=q.1;omega
 . rw[em]at h1 h2
   have h1:=eq_of_beq h1
   have:=(q.2 (eq_of_beq h2)).1;omega
theorem xp{l:List Q0l}{i:Nat}{e:Q0l}{L:List Q0l}(h:l.drop i=e::L):i<l.length/\l.getD i (RK.dflt RK.apiEntry)=e/\l.drop (i+1)=L:=by
 have hlt:i<l.length:=by
   by_cases g:i<l.length
   . exact g
   . rw[List.drop_eq_nil_of_le (by omega)]at h;cases h
 rw[List.drop_eq_getElem_cons hlt]at h
 injection h with h1 h2
 exact⟨hlt,by rw[Qio hlt,h1],h2⟩
theorem Zk4{P:Nat}{a b:Q00}{L:List Q0l}{o:List Q02}(h:Q6y a L o b)(g:good P a)(hc:a.A1<b.A1):
   (∃e M,L={At:=a.A1,C6:=e}::M/\e.B5≠1/\U e.N/\True/\Q6y (Q0o a e).2 M o b)\/
   (∃c M p,L={At:=a.A1,C6:={B5:=1,N:=c,C8:=[]}}::M/\Q0y a=false/\Q0t a=true/\U c/\o=(Q0a a c).1++p/\Q6y (Q0a a c).2 M p b)\/
   (∃p,Q0y a=false/\Q0t a=false/\(∀e∈L,a.A1<e.At)/\o=(Q0a a 0).1++p/\Q6y (Q0a a 0).2 L p b):=by
 cases h with
 |nil=>omega
 |ev h1 h2 h3 h4=>exact .inl ⟨_,_,rfl,h2,h3,h1,h4⟩
 |rd h1 h2 h3 h4=>exact .inr (.inl ⟨_,_,_,rfl,h1,h2,h3,rfl,h4⟩)
 | @st _ _ c _ _ h1 h2 h3 h4=>
   refine .inr (.inr ?_)
   have e:Q0a a c=Q0a a 0:=by
     have s1:=g.step h1 c
     have s0:=g.step h1 0
     have:=Z64 (m:=a) (by rw[Qu3 g.v];exact h2) c 0
     rw[s1,s0]at this
     injection this with p q
     exact Prod.ext q p
   obtain⟨g1,c1,_⟩:=Q8f g h1 h3
   have r:=(h4.good g1).2.2
   rw[c1]at r
   rw[e]at h4
   exact⟨_,h1,h2,λe he=>by have:=r e he;omega,by rw[e],h4⟩
theorem xar{P:Nat}{m:Q00}(g:good P m){s:List Q0l}(hs:s.length<=400){until0:Int}(h1:m.A1<=until0)(h2:until0<=m.A1+4000)
   (hp:s.Pairwise λa b=>a.At<=b.At/\(a.C6.B5=1->a.At<b.At/\(b.C6.B5=1->a.C6.N<=b.C6.N))) (ha: ∀e∈s,m.A1<=e.At):(Q8m m s until0).w (λx=>x=0):=by
 have c0:=g.ok.cnt
 have ord:Qii s=true:=Tree.post _ (qp (by omega) hp)
 unfold Q8m
 refine w_an (Tree.pp (Zhg g.ok.target.2)).1 (w_lv λx0 e0=>w_br (λh=>by rw[e0,g.may]at h;cases h) λ_=>w_br (λh=>absurd (of_decide_eq_true h) (by omega)) λ_=>w_br (λh=> ?_) λ_=>w_br (λh=>absurd (of_decide_eq_true h) (by omega)) λ_=>w_an (show s.length<=1000000000000 by omega) (w_lv λx1 e1=>w_br (λh=>by rw[e1,ord]at h;cases h) λ_=> ?_))
 . have h:=of_decide_eq_true h
   rw[IntKind.wrap_u64]at h;omega
 . refine w_lp (inv:=λi:Int=>0<=i/\i<=s.length) (μ:=Qm3 m s until0) ⟨Int.le_refl 0,by omega⟩ (Nat.lt_succ_self _) λi ⟨v1,v2⟩=> ?_
   refine w_br (λhb=> ?_) (λhb=>rfl)
   have hb:=of_decide_eq_true hb
   have hlt:i.toNat<s.length:=by omega
   have ew:IntKind.i64.wrap (i+1)=i+1:=by rw[IntKind.wrap_i64];omega
   have hin:=ha (s.getD i.toNat (RK.dflt RK.apiEntry)) (by rw[Qio hlt];exact List.getElem_mem hlt)
   refine w_cn (by simp [Nat.blt];omega) (w_br (λh=>absurd (of_decide_eq_true h) (by omega)) λ_=>w_nx ?_)
   show(0<=IntKind.i64.wrap (i+1)/\IntKind.i64.wrap (i+1)<=s.length)/\(s.length-IntKind.i64.wrap (i+1)).toNat<(s.length-i).toNat
   rw[ew];omega
def evF:Q00->List Q0l->Q00×List Q0l
 |m,[]=>(m,[])
 |m,e::L=>bif e.At==m.A1 then(bif e.C6.B5 !=1 then evF (Q0o m e.C6).2 L else(m,e::L)) else(m,e::L)
def stepF(p:Q00×List Q0l)(out:List Q02):Q00×List Q0l×List Q02:=
 bif Q0t p.1 then((Q0a p.1 (p.2.headD (RK.dflt RK.apiEntry)).C6.N).2,p.2.tail,out++(Q0a p.1 (p.2.headD (RK.dflt RK.apiEntry)).C6.N).1) else((Q0a p.1 0).2,p.2,out++(Q0a p.1 0).1)
def Qis(s:Q00×List Q0l×List Q02):Q00×List Q0l×List Q02:=stepF (evF s.1 s.2.1) s.2.2
theorem Qo6(m:Q00)(L:List Q0l)(out:List Q02):Qis (m,L,out)=stepF (evF m L) out:=rfl
def Q7o:Nat->Q00×List Q0l×List Q02->Q00×List Q0l×List Q02
 |0,s=>s
 |n+1,s=>Q7o n (Qis s)
theorem Zh0(a b:Nat): ∀s,Q7o (a+b) s=Q7o b (Q7o a s):=by
 induction a with
 |zero=>intro s;rw[Nat.zero_add];rfl
 |succ a ih=>intro s;rw[show a+1+b=(a+b)+1 by omega];exact ih _
theorem zaK{m:Q00}{e:Q0d}{L:List Q0l}(hk:e.B5≠1):evF m ({At:=m.A1,C6:=e}::L)=evF (Q0o m e).2 L:=by
 conv=>lhs;unfold evF
 rw[show(m.A1==m.A1)=true from beq_self_eq_true _,show(e.B5 !=1)=true by simpa using hk];rfl
theorem xaK{m:Q00}{c:Int}{L:List Q0l}:evF m ({At:=m.A1,C6:={B5:=1,N:=c,C8:=[]}}::L)=(m,{At:=m.A1,C6:={B5:=1,N:=c,C8:=[]}}::L):=by
 conv=>lhs;unfold evF
 rw[show(m.A1==m.A1)=true from beq_self_eq_true _];rfl
theorem qaL{m:Q00}{L:List Q0l}(h: ∀e∈L,m.A1<e.At):evF m L=(m,L):=by
 cases L with
 |nil=>rfl
 | cons e L=>
   unfold evF
   rw[show(e.At==m.A1)=false from beq_false_of_ne (by have:=h e (by simp);omega)];rfl
theorem Zi7{m:Q00}{c:Int}{L:List Q0l}{out:List Q02}(h:Q0t m=true):Qis (m,{At:=m.A1,C6:={B5:=1,N:=c,C8:=[]}}::L,out)=((Q0a m c).2,L,out++(Q0a m c).1):=by
 rw[Qo6,xaK]
 unfold stepF
 rw[show Q0t (m,({At:=m.A1,C6:={B5:=1,N:=c,C8:=[]}}::L:List Q0l)).1=true from h];rfl
theorem Zj2{m:Q00}{L:List Q0l}{out:List Q02}(h:Q0t m=false)(hl: ∀e∈L,m.A1<e.At):Qis (m,L,out)=((Q0a m 0).2,L,out++(Q0a m 0).1):=by
 rw[Qo6,qaL hl]
 unfold stepF
 rw[show Q0t (m,L).1=false from h];rfl
theorem Zij{m:Q00}{e:Q0d}{L:List Q0l}{out:List Q02}(hk:e.B5≠1):Qis (m,{At:=m.A1,C6:=e}::L,out)=Qis ((Q0o m e).2,L,out):=by
 rw[Qo6,zaK hk,Qo6]
theorem Zcn(n:Nat)(s:Q00×List Q0l×List Q02):Q7o (n+1) s=Qis (Q7o n s):=by
 rw[Zh0];rfl
theorem zaL{P:Nat}{m n:Q00}(g:good P m){s:List Q0l}(hs:s.length<=400){O:List Q02}(tr:Q6y m s O n)(hO:O.length<=1000000)(k:Nat)(hk:k<=4000){until0:Int}(hu:until0=m.A1+k)(hn:until0<=n.A1)
    (hp:s.Pairwise λa b=>a.At<=b.At/\(a.C6.B5=1->a.At<b.At/\(b.C6.B5=1->a.C6.N<=b.C6.N))):
    (Qbj m s until0).w (λx=>x.2.2.2=0/\(x.1,s.drop x.2.2.1.toNat,x.2.1)=Q7o k (m,s,[])/\0<=x.2.2.1/\x.2.2.1<=s.length):=by
  obtain⟨gn,cn0,ha⟩:=tr.good g
  have n60:n.A1<=1152921504606846976:=((Qj7 n).1 gn.may).2.2.1
  unfold Qbj
  refine Q0e (xar g hs (by omega) (by omega) hp ha) λx0 e0=>w_br (λh=>by rw[e0]at h;cases h) λ_=>w_an (Q8e g.ok.mem) (w_lv λx1 e1=> ?_)
  have hcl:Q03 m.Mem=m.Mem:=rfl
  rw[hcl]at e1
  subst e1
  refine w_lp (inv:=λv:Int×Q00×List Q02=>0<=v.1/\v.1<=s.length/\good P v.2.1/\(∃o,O=v.2.2++o/\Q6y v.2.1 (s.drop v.1.toNat) o n)/\ ∃q:Nat,q<=k/\v.2.1.A1=m.A1+q/\(v.2.1,s.drop v.1.toNat,v.2.2)=Q7o q (m,s,[])) (μ:=Qpb m s until0) ⟨Int.le_refl 0,by show(0:Int)<=_;omega,g,⟨O,rfl,tr⟩,0,Nat.zero_le _,by show m.A1=m.A1+((0:Nat):Int);omega,rfl⟩ (Nat.lt_succ_self _) λv ⟨a1,a2,a3,⟨o,a4,a5⟩,q,b0,bc,bq⟩=> ?_
  obtain⟨u,x,out⟩:=v
  have a1:0<=u:=a1
  have a2:u<=s.length:=a2
  have a3:good P x:=a3
  have a4:O=out++o:=a4
  have a5:Q6y x (s.drop u.toNat) o n:=a5
  have bc:x.A1=m.A1+q:=bc
  have bq:(x,s.drop u.toNat,out)=Q7o q (m,s,[]):=bq
  have lO:O.length=out.length+o.length:=by rw[a4,List.length_append]
  refine w_br (λhb=>w_br (λ_=> ?_) (λh=>absurd (of_decide_eq_false h) (by have hb:x.A1<until0:=of_decide_eq_true hb;show¬ ¬x.A1<_;omega))) (λhb=> ?_)
  . have hb:x.A1<until0:=of_decide_eq_true hb
    refine w_lp (inv:=λw:Int×Q00=>0<=w.1/\w.1<=s.length/\good P w.2/\w.2.A1=x.A1/\Q6y w.2 (s.drop w.1.toNat) o n/\Qis (w.2,s.drop w.1.toNat,out)=Q7o (q+1) (m,s,[])) (μ:=Qpg m s until0 (u,x,out)) ⟨a1,a2,a3,rfl,a5,by rw[Zcn,<-bq]⟩ (Nat.lt_succ_self _) λw ⟨b1,b2,b3,b4,b5,b6⟩=> ?_
    obtain⟨i,y⟩:=w
    have b1:0<=i:=b1
    have b2:i<=s.length:=b2
    have b3:good P y:=b3
    have b4:y.A1=x.A1:=b4
    have b5:Q6y y (s.drop i.toNat) o n:=b5
    have b6:Qis (y,s.drop i.toNat,out)=Q7o (q+1) (m,s,[]):=b6
    have y0:=b3.ok.cnt
    have cq:y.A1+1=m.A1+((q+1:Nat):Int):=by omega
    have ip:Q5t y:=qam b3.ok.target.2
    have rp:Q3d y:=(Tree.pp (zL b3.s)).1
    have sp:=λ(c:Int) (hc:U c)=>(yj b3.v b3.len (clock:=c) hc).1
    have sg:=Zk6 b3
    have rs:=Qu3 b3.v
    have ew:IntKind.i64.wrap (i+1)=i+1:=by rw[IntKind.wrap_i64];omega
    have cc:i<s.length-> ∀k:Nat,(Nat.beq 4 4&&Nat.blt 0 4&&decide (0<=i/\i<((s.length:Nat):Int)))=true:=λh k=>by simp [Nat.blt];omega
    rcases Zk4 b5 b3 (by omega) with⟨e,M,l1,l2,l3,l4,l5⟩|⟨c,M,p,l1,l2,l3,l4,l5,l6⟩|⟨p,l1,l2,l3,l4,l5⟩
    . obtain⟨d1,d2,d3⟩:=xp l1
      have hi:i<s.length:=by omega
      obtain⟨g1,c1⟩:=Qin b3 l3
      refine w_br (λ_=>w_cn (cc hi 0) (w_br (λ_=>w_cn (cc hi 0) (w_br (λ_=>w_cn (cc hi 0) (w_an ?_ (w_lv λx2 e2=>w_nx ?_))) (λh=> ?_))) (λh=> ?_))) (λh=>absurd (of_decide_eq_false h) (λz=>z hi))
      . rw[d2];exact Zll b3.v b3.len l3
      . rw[d2,b3.app]at e2
        show(0<=IntKind.i64.wrap (i+1)/\IntKind.i64.wrap (i+1)<=s.length/\good P x2.1/\x2.1.A1=x.A1/\Q6y x2.1 (s.drop (IntKind.i64.wrap (i+1)).toNat) o n/\Qis (x2.1,s.drop (IntKind.i64.wrap (i+1)).toNat,out)=Q7o (q+1) (m,s,[]))/\(s.length-IntKind.i64.wrap (i+1)).toNat<(s.length-i).toNat
        rw[ew,show(i+1).toNat=i.toNat+1 by omega,d3,e2]
        rw[l1,Zij l2]at b6
        exact⟨⟨by omega,by omega,g1,by show(Q0o y e).2.A1=_;omega,l5,b6⟩,by omega⟩
      . rw[d2]at h
        have h:e.B5=1:=by simpa using h
        exact absurd h l2
      . rw[d2]at h;simp at h
    . obtain⟨d1,d2,d3⟩:=xp l1
      have hi:i<s.length:=by omega
      obtain⟨g1,c1,o1⟩:=Q8f b3 l2 l4
      have ms:=b3.step l2 c
      rw[l2]at sg
      have hh:y.A7=false:=by
        cases hh:y.A7
        . rfl
        . rw[hh]at sg;cases sg
      have hid:Q39 y=false:=by
        cases hid:Q39 y
        . rfl
        . rw[hh,hid]at sg;cases sg
      have hr:Q21 y=true:=rs.trans l3
      have lo:o.length=(Q0a y c).1.length+p.length:=by rw[l5,List.length_append]
      refine w_br (λ_=>w_cn (cc hi 0) (w_br (λ_=>w_cn (cc hi 0) (w_br (λh=> ?_) (λ_=> ?_))) (λh=> ?_))) (λh=>absurd (of_decide_eq_false h) (λz=>z hi))
      . rw[d2]at h;cases h
      . refine w_br (λh=>by rw[hh]at h;cases h) λ_=>w_an ip (w_lv λx3 e3=>w_br (λh=>by rw[e3,hid]at h;cases h) λ_=>w_br (λ_=>w_cn (cc hi 0) (w_an rp (w_lv λx4 e4=>w_br (λh=> ?_) λ_=>w_br (λ_=>w_cn (cc hi 0) (w_an ?_ (w_lv λx5 e5=> ?_))) λh=> ?_))) λh=>absurd (of_decide_eq_false h) (λz=>z hi))
        . rw[e4,hr,d2]at h;simp at h
        . rw[d2];exact sp c l4
        . rw[d2]at e5
          have e5:x5=((Q0a y c).2,(Q0a y c).1):=e5.trans ms
          refine w_cn (decide_eq_true (by rw[e5];show 40*(out.length+(Q0a y c).1.length)<=_;omega)) (w_nx ?_)
          show(0<=IntKind.i64.wrap (i+1)/\IntKind.i64.wrap (i+1)<=s.length/\good P x5.1/\(∃o',O=(out++x5.2)++o'/\Q6y x5.1 (s.drop (IntKind.i64.wrap (i+1)).toNat) o' n)/\ ∃q:Nat,q<=k/\x5.1.A1=m.A1+q/\(x5.1,s.drop (IntKind.i64.wrap (i+1)).toNat,out++x5.2)=Q7o q (m,s,[]))/\(until0-x5.1.A1).toNat<(until0-x.A1).toNat
          rw[ew,show(i+1).toNat=i.toNat+1 by omega,d3,e5]
          rw[l1,Zi7 l3]at b6
          exact⟨⟨by omega,by omega,g1,⟨p,by rw[a4,l5,List.append_assoc],l6⟩,q+1,by omega,by show(Q0a y c).2.A1=_;omega,b6⟩,by show(until0-(Q0a y c).2.A1).toNat<_;omega⟩
        . rw[d2]at h;simp at h
      . rw[d2]at h;simp at h
    . obtain⟨g1,c1,o1⟩:=Q8f b3 l1 U_0
      have ms:=b3.step l1 0
      rw[l1]at sg
      have hh:y.A7=false:=by
        cases hh:y.A7
        . rfl
        . rw[hh]at sg;cases sg
      have hid:Q39 y=false:=by
        cases hid:Q39 y
        . rfl
        . rw[hh,hid]at sg;cases sg
      have hr:Q21 y=false:=rs.trans l2
      have lo:o.length=(Q0a y 0).1.length+p.length:=by rw[l4,List.length_append]
      have ne:i<s.length->((s.getD i.toNat (RK.dflt RK.apiEntry)).At==y.A1)=false:=λhi=>by
        have hlt:i.toNat<s.length:=by omega
        refine beq_false_of_ne λq=> ?_
        have:=l3 (s.getD i.toNat (RK.dflt RK.apiEntry)) (by rw[Qio hlt,List.drop_eq_getElem_cons hlt];exact List.mem_cons_self)
        omega
      have fin: ∀x5:Q00×List Q02,x5=Q29 y 0->decide (40*(out.length+x5.2.length)<=140737488355328)=true/\((0<=i/\i<=s.length/\good P x5.1/\(∃o',O=(out++x5.2)++o'/\Q6y x5.1 (s.drop i.toNat) o' n)/\ ∃q:Nat,q<=k/\x5.1.A1=m.A1+q/\(x5.1,s.drop i.toNat,out++x5.2)=Q7o q (m,s,[]))/\(until0-x5.1.A1).toNat<(until0-x.A1).toNat):=λx5 e5=>by
        have e5:x5=((Q0a y 0).2,(Q0a y 0).1):=e5.trans ms
        rw[e5]
        exact⟨decide_eq_true (by show 40*(out.length+(Q0a y 0).1.length)<=_;omega),⟨b1,b2,g1,⟨p,by rw[a4,l4,List.append_assoc],l5⟩,q+1,by omega,by show(Q0a y 0).2.A1=_;omega,by rw[Zj2 l2 l3]at b6;exact b6⟩,by show(until0-(Q0a y 0).2.A1).toNat<_;omega⟩
      refine w_br (λhi=>w_cn (cc (of_decide_eq_true hi) 0) (w_br (λh=>by rw[ne (of_decide_eq_true hi)]at h;cases h) λ_=> ?_)) (λhi=> ?_)
      . have hi:i<s.length:=of_decide_eq_true hi
        refine w_br (λh=>by rw[hh]at h;cases h) λ_=>w_an ip (w_lv λx3 e3=>w_br (λh=>by rw[e3,hid]at h;cases h) λ_=>w_br (λ_=>w_cn (cc hi 0) (w_an rp (w_lv λx4 e4=>w_br (λh=>by rw[e4,hr,ne hi]at h;cases h) λ_=>w_br (λh=>by rw[ne hi]at h;cases h) λ_=>w_an (sp 0 U_0) (w_lv λx6 e6=>w_cn (fin x6 e6).1 (w_nx (fin x6 e6).2))))) λh=>absurd (of_decide_eq_false h) (λz=>z hi))
      . have hi: ¬i<s.length:=of_decide_eq_false hi
        refine w_br (λh=>by rw[hh]at h;cases h) λ_=>w_an ip (w_lv λx3 e3=>w_br (λh=>by rw[e3,hid]at h;cases h) λ_=>w_br (λh=>absurd (of_decide_eq_true h) hi) λ_=>w_an rp (w_lv λx4 e4=>w_br (λh=>by rw[e4,hr]at h;cases h) λ_=>w_an (sp 0 U_0) (w_lv λx6 e6=>w_cn (fin x6 e6).1 (w_nx (fin x6 e6).2))))
  . have hb: ¬x.A1<until0:=of_decide_eq_false hb
    have qk:q=k:=by omega
    rw[qk]at bq
    exact⟨rfl,bq,a1,a2⟩
theorem xaL{P:Nat}{m:Q00}(g:good P m)(h1:Q0y m=false)(h2:Q0t m=false)(c:Int):Q0a m c=Q0a m 0:=by
 have s1:=g.step h1 c
 have s0:=g.step h1 0
 have:=Z64 (m:=m) (by rw[Qu3 g.v];exact h2) c 0
 rw[s1,s0]at this
 injection this with p q
 exact Prod.ext q p
theorem zp{P:Nat}{a b:Q00}{L:List Q0l}{o:List Q02}(h:Q6y a L o b):good P a-> ∀c:Int,a.A1<=c->c<=b.A1->
   ∃L1 L2 o1 o2 x,L=L1++L2/\o=o1++o2/\Q6y a L1 o1 x/\Q6y x L2 o2 b/\x.A1=c/\ ∀e∈L1,e.At<c:=by
 induction h with
 | @nil m=>exact λ_ c h1 h2=>⟨[],[],[],[],m,rfl,rfl, .nil, .nil,Int.le_antisymm h1 h2,λe he=>by cases he⟩
 | @ev m n e L o h1 h2 h3 h4 ih=>
   intro g c k1 k2
   by_cases hc:m.A1=c
   . exact⟨[],_,[],_,m,rfl,rfl, .nil, .ev h1 h2 h3 h4,hc,λe he=>by cases he⟩
   . obtain⟨g1,c1⟩:=Qin g h3
     obtain⟨L1,L2,o1,o2,x,q1,q2,q3,q4,q5,q6⟩:=ih g1 c (by omega) k2
     refine⟨{At:=m.A1,C6:=e}::L1,L2,o1,o2,x,by rw[q1];rfl,q2, .ev h1 h2 h3 q3,q4,q5,λe' he=> ?_⟩
     rcases List.mem_cons.1 he with rfl|he
     . show m.A1<c;omega
     . exact q6 e' he
 | @rd m n c0 L o h1 h2 h3 h4 ih=>
   intro g c k1 k2
   by_cases hc:m.A1=c
   . exact⟨[],_,[],_,m,rfl,rfl, .nil, .rd h1 h2 h3 h4,hc,λe he=>by cases he⟩
   . obtain⟨g1,c1,_⟩:=Q8f g h1 h3
     obtain⟨L1,L2,o1,o2,x,q1,q2,q3,q4,q5,q6⟩:=ih g1 c (by omega) k2
     refine⟨{At:=m.A1,C6:={B5:=1,N:=c0,C8:=[]}}::L1,L2,(Q0a m c0).1++o1,o2,x,by rw[q1];rfl,by rw[q2,List.append_assoc], .rd h1 h2 h3 q3,q4,q5,λe' he=> ?_⟩
     rcases List.mem_cons.1 he with rfl|he
     . show m.A1<c;omega
     . exact q6 e' he
 | @st m n c0 L o h1 h2 h3 h4 ih=>
   intro g c k1 k2
   by_cases hc:m.A1=c
   . exact⟨[],_,[],_,m,rfl,rfl, .nil, .st h1 h2 h3 h4,hc,λe he=>by cases he⟩
   . obtain⟨g1,c1,_⟩:=Q8f g h1 h3
     obtain⟨L1,L2,o1,o2,x,q1,q2,q3,q4,q5,q6⟩:=ih g1 c (by omega) k2
     exact⟨L1,L2,(Q0a m c0).1++o1,o2,x,q1,by rw[q2,List.append_assoc], .st h1 h2 h3 q3,q4,q5,q6⟩
theorem Zl1{P:Nat}{a b:Q00}{L:List Q0l}{o:List Q02}(h:Q6y a L o b):good P a-> ∀{M:List Q0l} (out:List Q02),(∀e∈L,e.At<b.A1)->(∀e∈M,b.A1<=e.At)->
   Q7o (b.A1-a.A1).toNat (a,L++M,out)=(b,M,out++o):=by
 induction h with
 | nil=>
   intro g M out _ _
   rw[show∀x:Int,(x-x).toNat=0 from λx=>by omega]
   show(_,[]++M,out)=(_,M,out++[]);rw[List.append_nil];rfl
 | @ev m n e L o h1 h2 h3 h4 ih=>
   intro g M out k1 k2
   obtain⟨g1,c1⟩:=Qin g h3
   have hc:m.A1<n.A1:=k1 {At:=m.A1,C6:=e} (by simp)
   have:=ih g1 (M:=M) out (λe' he=>k1 e' (by simp [he])) k2
   rw[c1]at this
   rw[<-this]
   obtain⟨k,hk⟩: ∃k,(n.A1-m.A1).toNat=k+1:=⟨(n.A1-m.A1).toNat-1,by omega⟩
   rw[hk]
   show Q7o k (Qis (m,{At:=m.A1,C6:=e}::(L++M),out))=Q7o k (Qis ((Q0o m e).2,L++M,out))
   rw[Zij h2]
 | @rd m n c L o h1 h2 h3 h4 ih=>
   intro g M out k1 k2
   obtain⟨g1,c1,_⟩:=Q8f g h1 h3
   obtain⟨_,cc,_⟩:=h4.good g1
   have:=ih g1 (M:=M) (out++(Q0a m c).1) (λe' he=>k1 e' (by simp [he])) k2
   rw[c1,List.append_assoc]at this
   rw[<-this]
   rw[c1]at cc
   have hk:(n.A1-m.A1).toNat=(n.A1-(m.A1+1)).toNat+1:=by omega
   rw[hk]
   show Q7o _ (Qis (m,{At:=m.A1,C6:={B5:=1,N:=c,C8:=[]}}::(L++M),out))=_
   rw[Zi7 h2]
 | @st m n c L o h1 h2 h3 h4 ih=>
   intro g M out k1 k2
   obtain⟨g1,c1,_⟩:=Q8f g h1 h3
   obtain⟨_,cc,ca⟩:=h4.good g1
   have:=ih g1 (M:=M) (out++(Q0a m c).1) (λe' he=>k1 e' he) k2
   rw[c1,List.append_assoc]at this
   rw[<-this]
   rw[c1]at cc ca
   have hk:(n.A1-m.A1).toNat=(n.A1-(m.A1+1)).toNat+1:=by omega
   rw[hk]
   show Q7o _ (Qis (m,L++M,out))=_
   rw[Zj2 h2 (λe he=> ?_),xaL g h1 h2 c]
   rcases List.mem_append.1 he with he|he
   . have:=ca e he;omega
   . have:=k2 e he;omega
def noop(e:Q0d):Prop:=e.B5≠1/\U e.N/\ ∀m,(Q0o m e).2=m
def insE(L:List Q0l)(k:Nat)(e:Q0d):List Q0l:=L.take k++{At:=(L.getD k (RK.dflt RK.apiEntry)).At,C6:=e}::L.drop k
theorem yp{a b:Q00}{L:List Q0l}{o:List Q02}{e:Q0d}(hn:noop e)(h:Q6y a L o b): ∀k,k<L.length->Q6y a (insE L k e) o b:=by
 obtain⟨n1,n2,n3⟩:=hn
 induction h with
 |nil=>exact λk hk=>by simp at hk
 | @ev m n f L o h1 h2 h3 h4 ih=>
   intro k hk
   cases k with
   |zero=>exact .ev trivial n1 n2 (by rw[n3];exact .ev h1 h2 h3 h4)
   |succ k=>exact .ev h1 h2 h3 (ih k (by simpa using hk))
 | @rd m n c L o h1 h2 h3 h4 ih=>
   intro k hk
   cases k with
   |zero=>exact .ev trivial n1 n2 (by rw[n3];exact .rd h1 h2 h3 h4)
   |succ k=>exact .rd h1 h2 h3 (ih k (by simpa using hk))
 |st h1 h2 h3 h4 ih=>exact λk hk=> .st h1 h2 h3 (ih k hk)
theorem cut_w{P:Nat}{a n x:Q00}{s L1 L2:List Q0l}{O o1 o2:List Q02}(g:good P a)(hs:s.length<=400)(tr:Q6y a s O n)(hO:O.length<=1000000)(e:s=L1++L2)(t1:Q6y a L1 o1 x)(t2:Q6y x L2 o2 n){until0:Int}(hx:x.A1=until0)(hL: ∀e∈L1,e.At<until0)(hk:until0<=a.A1+4000)
   (hp:s.Pairwise λa b=>a.At<=b.At/\(a.C6.B5=1->a.At<b.At/\(b.C6.B5=1->a.C6.N<=b.C6.N))):
   (Qbj a s until0).w (λr=>r=(x,o1,(L1.length:Int),0)):=by
 obtain⟨gx,c1,_⟩:=t1.good g
 obtain⟨gn,c2,a2⟩:=t2.good gx
 have w:=zaL g hs tr hO (until0-a.A1).toNat (by omega) (until0:=until0) (by omega) (by omega) hp
 refine Tree.mono _ (λr hr=> ?_) w
 obtain⟨q1,q2,q3,q4⟩:=hr
 have rc:=Zl1 t1 g (M:=L2) [] (λe he=>by rw[hx];exact hL e he) a2
 rw[hx]at rc
 rw[e,rc,<-e]at q2
 obtain⟨m,o,i,f⟩:=r
 simp only[Prod.mk.injEq,List.nil_append]at q1 q2 q3 q4
 obtain⟨r1,r2,r3⟩:=q2
 have hl:(s.drop i.toNat).length=L2.length:=by rw[r2]
 rw[List.length_drop,e,List.length_append]at hl
 rw[e,List.length_append]at q4
 have hi:i=L1.length:=by omega
 rw[r1,r3,hi,q1]
theorem vp{P:Nat}{a b:Q00}{L:List Q0l}{o:List Q02}(h:Q6y a L o b):good P a->(o.length:Int)<=b.A1-a.A1:=by
 induction h with
 |nil=>intro _;show((0:Nat):Int)<=_;omega
 | ev h1 h2 h3 h4 ih=>
   intro g
   obtain⟨g1,c1⟩:=Qin g h3
   have:=ih g1
   omega
 | rd h1 h2 h3 h4 ih=>
   intro g
   obtain⟨g1,c1,o1⟩:=Q8f g h1 h3
   have:=ih g1
   rw[List.length_append];omega
 | st h1 h2 h3 h4 ih=>
   intro g
   obtain⟨g1,c1,o1⟩:=Q8f g h1 h3
   have:=ih g1
   rw[List.length_append];omega
structure recOf(m:Q00)(x:Q01×List Q02):Prop where
 len:x.1.C0.length<=400
 tr:Q6y m x.1.C0 x.2 x.1.A0
 outs:x.2.length<=330
 lo:m.A1<=x.1.A0.A1
 hi:x.1.A0.A1<=m.A1+330
 pw:x.1.C0.Pairwise λa b=>a.At<=b.At/\(a.C6.B5=1->a.At<b.At/\(b.C6.B5=1->a.C6.N<=b.C6.N))
 good:good 8 x.1.A0
theorem recorded{m:Q00}{acts:List Int}{x:Q01×List Q02}(a:good 8 m)(b:m.A1<=87)(f2:acts.length<=30)(hx:x=acts.foldl Qjf ({A0:=m,A9:=0,C0:=[],A6:=[]},[])):recOf m x:=by
 have s0:=xO a b
 have lp:=qo acts (s:=({A0:=m,A9:=0,C0:=[],A6:=[]},[])) s0 (Int.le_refl _) (by omega)
 have ct:=zP acts (s:=({A0:=m,A9:=0,C0:=[],A6:=[]},[])) s0 (Int.le_refl _) (by omega)
 obtain⟨o,on1,L,on2,on3⟩:=xaq acts (s:=({A0:=m,A9:=0,C0:=[],A6:=[]},[])) s0 (Int.le_refl _) (by omega)
 have sp:=Zjh acts (s:=({A0:=m,A9:=0,C0:=[],A6:=[]},[])) s0 (Int.le_refl _) (by omega)
 rw[<-hx]at lp ct on1 on2 on3 sp
 have on1:x.2=o:=on1
 have on2:x.1.C0=L:=on2
 have on3:Q6y m L o x.1.A0:=on3
 rw[<-on1,<-on2]at on3
 have sp:x.1.A0.A1<=m.A1+11*acts.length:=sp
 have hlen:x.1.C0.length<=400:=by
   have c0:cntR ({A0:=m,A9:=0,C0:=[],A6:=[]}:Q01)<=1:=by
     have:=zX {A0:=m,A9:=0,C0:=[],A6:=[]}
     show 0+arm {A0:=m,A9:=0,C0:=[],A6:=[]}+0<=1
     omega
   have ct:cntR x.1<=cntR ({A0:=m,A9:=0,C0:=[],A6:=[]}:Q01)+11*acts.length:=ct
   unfold cntR at ct c0
   omega
 have ol:=vp on3 a
 obtain⟨gb,cb,_⟩:=on3.good a
 exact⟨hlen,on3,by omega,cb,by omega,lp.l.pw,gb⟩
def k256:Q0d:={B5:=3,N:=256,C8:=[]}
theorem yP:noop k256:=by
 refine⟨by decide,⟨by decide,by decide⟩,λm=> ?_⟩
 obtain⟨c,mem,con,ti,d,n,b,ct,w,hl⟩:=m
 cases hl<;>rfl
theorem qaM{s:List Q0l}{e:Q0d}(he:e.B5≠1)(hp:s.Pairwise λa b=>a.At<=b.At/\(a.C6.B5=1->a.At<b.At/\(b.C6.B5=1->a.C6.N<=b.C6.N))){k:Nat}(hk:k<s.length):
   (insE s k e).Pairwise λa b=>a.At<=b.At/\(a.C6.B5=1->a.At<b.At/\(b.C6.B5=1->a.C6.N<=b.C6.N)):=by
 have hd:s.drop k=s[k]::s.drop (k+1):=List.drop_eq_getElem_cons hk
 have ek:s.getD k (RK.dflt RK.apiEntry)=s[k]:=Qio hk
 have hs:s=s.take k++s.drop k:=(List.take_append_drop k s).symm
 have hp0:=hp
 rw[hs]at hp0
 obtain⟨h1,h2,h3⟩:=List.pairwise_append.1 hp0
 unfold insE
 rw[ek]
 refine List.pairwise_append.2 ⟨h1,List.pairwise_cons.2 ⟨λb hb=> ?_,h2⟩,λa ha b hb=> ?_⟩
 . rw[hd]at hb h2
   have h2:=(List.pairwise_cons.1 h2).1
   refine⟨?_,λh=>absurd h he⟩
   rcases List.mem_cons.1 hb with rfl|hb
   . exact Int.le_refl _
   . exact(h2 b hb).1
 . rcases List.mem_cons.1 hb with rfl|hb
   . have hm:s[k]∈s.drop k:=by rw[hd];exact List.mem_cons_self
     have:=h3 a ha _ hm
     exact⟨this.1,λh=>⟨(this.2 h).1,λh'=>absurd h' he⟩⟩
   . exact h3 a ha b hb
theorem ignores(kind:Int)(l acts:List Int)(at0:Int)(hl:l.length*8<=reachBytes):Qer kind l acts at0/\Qdo kind l acts at0=true:=by
  have aw:(Tree.an Q27 (.lv Q5e λx=> .lf x)).w (λr=>r=true):=aw13 rfl
  refine Tree.pp (W:=λr=>r=true) ?_
  unfold Q7a
  refine w_lv λx0 h0=>w_br (λ_=>aw) λhb=> ?_
  obtain⟨f1,f2⟩:=qN h0 hb
  refine qao hl f1 f2 λm x hm g gc hx _=> ?_
  have R:=recorded g gc f2 hx
  have c0:=g.ok.cnt
  have ll:=R.len
  have ew:IntKind.i64.wrap ((x.1.C0.length:Int)+1)=x.1.C0.length+1:=by rw[IntKind.wrap_i64];omega
  rw[ew]
  have rr:=Qhs (n:=at0) (k:=(x.1.C0.length:Int)+1) (by omega) (by omega)
  refine w_an (Qe9 (by omega)) (w_lv λk hk=> ?_)
  rw[<-hk]at rr
  have cc:0<=k->k<x.1.C0.length->(Nat.beq 4 4&&Nat.blt 0 4&&decide (0<=k/\k<((x.1.C0.length:Nat):Int)))=true:=λh1 h2=>by simp [Nat.blt];omega
  refine w_br (λhb=> ?_) λhb=>w_br (λ_=>aw) λh=>absurd (of_decide_eq_false h) (λz=>z (Int.le_refl _))
  have hk1:k<x.1.C0.length:=of_decide_eq_true hb
  have hk0:0<=k:=rr.1
  have hlt:k.toNat<x.1.C0.length:=by omega
  refine w_cn (cc hk0 hk1) (w_br (λ_=>aw) λhat=>w_br (λ_=>aw) λh400=> ?_)
  have hat:=of_decide_eq_false hat
  have h400:=of_decide_eq_false h400
  have tk:List.take (k.toNat-(0:Int).toNat) (List.drop (0:Int).toNat x.1.C0)=x.1.C0.take k.toNat:=by simp
  have dk:List.take (((x.1.C0.length:Nat):Int).toNat-k.toNat) (List.drop k.toNat x.1.C0)=x.1.C0.drop k.toNat:=by
    rw[List.take_of_length_le];rw[List.length_drop];omega
  have lt:(x.1.C0.take k.toNat).length<=400:=by rw[List.length_take];omega
  have ld:(x.1.C0.drop k.toNat).length<=400:=by rw[List.length_drop];omega
  rw[tk,dk]
  obtain⟨L1,L2,o1,o2,y,q1,q2,q3,q4,q5,q6⟩:=zp R.tr g x.1.A0.A1 R.lo (Int.le_refl _)
  have kl:k.toNat<L1.length:=by
    refine Decidable.byContradiction λhn=>hat ?_
    have ha:=(q4.good (q3.good g).1).2.2
    have e1:x.1.C0.getD k.toNat (RK.dflt RK.apiEntry)∈L2:=by
      rw[Qio hlt]
      have e2:x.1.C0[k.toNat]=(L1++L2)[k.toNat]'(by rw[<-q1];exact hlt):=by simp only[q1]
      rw[e2,List.getElem_append_right (by omega)]
      exact List.getElem_mem _
    have:=ha _ e1
    rw[q5]at this
    exact this
  have e0:x.1.C0.getD k.toNat (RK.dflt RK.apiEntry)=L1.getD k.toNat (RK.dflt RK.apiEntry):=by
    rw[q1,List.getD_eq_getElem?_getD,List.getD_eq_getElem?_getD,List.getElem?_append_left kl]
  have ti:=yp yP q3 k.toNat kl
  have si:insE x.1.C0 k.toNat k256=insE L1 k.toNat k256++L2:=by
    unfold insE
    rw[e0,q1,List.take_append_of_le_length (by omega),List.drop_append_of_le_length (by omega)]
    simp
  have sx:x.1.C0.take k.toNat++[({At:=(x.1.C0.getD k.toNat (RK.dflt RK.apiEntry)).At,C6:={B5:=3,N:=256,C8:=[]}}:Q0l)]++x.1.C0.drop k.toNat=insE x.1.C0 k.toNat k256:=by
    unfold insE k256;simp
  have li:(insE x.1.C0 k.toNat k256).length=x.1.C0.length+1:=by
    rw[<-sx,List.length_append,List.length_append,List.length_take,List.length_drop,List.length_singleton];omega
  have li1:(insE L1 k.toNat k256).length=L1.length+1:=by
    unfold insE
    rw[List.length_append,List.length_cons,List.length_take,List.length_drop];omega
  have hq6: ∀e∈insE L1 k.toNat k256,e.At<x.1.A0.A1:=by
    intro e he
    unfold insE at he
    rcases List.mem_append.1 he with he|he
    . exact q6 e (List.mem_of_mem_take he)
    . rcases List.mem_cons.1 he with rfl|he
      . show(L1.getD k.toNat (RK.dflt RK.apiEntry)).At<_
        rw[Qio kl];exact q6 _ (List.getElem_mem kl)
      . exact q6 e (List.mem_of_mem_drop he)
  have tt:=ti.trans q4
  rw[<-si]at tt
  refine w_cn (by simp [Nat.blt];omega) (w_cn (decide_eq_true (by omega)) (w_cn (decide_eq_true (by omega)) (w_cn (by simp [Nat.blt];omega) (w_cn (decide_eq_true ?_) ?_))))
  . rw[List.length_append,List.length_singleton];omega
  rw[sx]
  refine Q0e (cut_w g R.len R.tr (by have:=R.outs;omega) q1 q3 q4 q5 q6 (by have:=R.hi;omega) R.pw) λx7 e7=> ?_
  refine Q0e (cut_w g (s:=insE x.1.C0 k.toNat k256) (by omega) tt (by rw[<-q2];have:=R.outs;omega) si ti q4 q5 hq6 (by have:=R.hi;omega) (qaM (by decide) R.pw hlt)) λx8 e8=> ?_
  rw[e7,e8]
  have gy:=(q3.good g).1
  have ol:o1.length<=330:=by have:=R.outs;rw[q2,List.length_append]at this;omega
  have so:Qao o1 o1=true:=Tree.post _ (vj o1 (by omega))
  refine w_br (λ_=>w_br (λ_=>Q0e (zak y (by have:=gy.len;omega)) λx9 e9=>w_br (λ_=>w_an (show o1.length<=1000000000000 by omega) (w_lv λx10 e10=>w_br (λ_=>w_br (λ_=>aw) λh=> ?_) λh=>by rw[e10]at h;exact absurd (so.symm.trans h) (by decide))) λh=>by rw[e9]at h;cases h) λh=>by simp at h) λh=>by simp at h
  have ll1:L1.length<=x.1.C0.length:=by rw[q1,List.length_append];omega
  have h: ¬(((insE L1 k.toNat k256).length:Nat):Int)=IntKind.i64.wrap (((L1.length:Nat):Int)+1):=by simpa using h
  rw[li1,IntKind.wrap_i64]at h
  omega
end Go.Proofs.YtjaifpiopmhmlaaGreat

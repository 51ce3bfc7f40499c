import Derived.Test.YtjaifpiopmhmlaaGreatBareRunsLaws2
import Derived.Test.YtjaifpiopmhmlaaGreatBareRunsNewsB
import Derived.Test.YtjaifpiopmhmlaaGreatBareRunsZg
import Derived.Test.YtjaifpiopmhmlaaGreatBareRunsZt
import Derived.Test.YtjaifpiopmhmlaaGreatBareRunsCk
import Derived.Test.YtjaifpiopmhmlaaGreatBareRunsLaw
set_option maxRecDepth 100000
set_option linter.all false
namespace Go.Proofs.YtjaifpiopmhmlaaGreat
open Go Go.GD
theorem Zip(i:Q0k):U (Q1h i).1:=by
 refine Tree.post (Qgj i) (W:=λr=>U r.1) ?_
 unfold Qgj
 exact w_lv λ_ _=>w_br (λ_=>U_0) (λ_=>U_or _ _)
theorem qd(l:List Int)(hl:l.length*8<=reachBytes):(Qif l).w (λr=>(r.length:Int)=l.length/\ ∀w∈r,U w):=by
 have hl':l.length*8<=140737488351232:=hl
 have app: ∀{r:List Int} {x:Int},(∀w∈r,U w)->U x-> ∀w∈r++[x],U w:=λhr hx w hw=>by
   rw[List.mem_append]at hw
   rcases hw with hw|hw
   . exact hr w hw
   . rw[List.mem_singleton.1 hw];exact hx
 unfold Qif
 refine w_lp (inv:=λz=>Qq3 l z/\ ∀w∈z.2,U w) (μ:=Qcl l) ⟨⟨by omega,by simp,by simp⟩,by simp⟩ (Nat.lt_succ_self _) (λv0 hv=> ?_)
 obtain⟨⟨h1,h2,h3⟩,h4⟩:=hv
 refine w_br (λh=> ?_) (λh=> ?_)
 . have h:=of_decide_eq_true h
   have next: ∀x:Int,U x->(Qq3 l (IntKind.wrap IntKind.i64 (v0.1+1),v0.2++[x])/\ ∀w∈v0.2++[x],U w)/\Qcl l (IntKind.wrap IntKind.i64 (v0.1+1),v0.2++[x])<Qcl l v0:=λx hx=>by
     have hw:IntKind.i64.wrap (v0.1+1)=v0.1+1:=by rw[IntKind.wrap_i64];omega
     rw[hw]
     refine⟨⟨⟨?_,?_,?_⟩,app h4 hx⟩,?_⟩
     . show 0<=v0.1+1;omega
     . show v0.1+1<=l.length;omega
     . show((v0.2++[x]).length:Int)=v0.1+1;simp;omega
     . show(l.length-(v0.1+1)).toNat<(l.length-v0.1).toNat;omega
   have hb:(Nat.beq 1 1&&Nat.blt 0 1&&decide (0<=v0.1/\v0.1<(l.length:Int)))=true:=by simp [Nat.blt];omega
   have hc:decide (4*(v0.2.length+1)<=140737488355328)=true:=decide_eq_true (by omega)
   exact w_cn hb (w_br (λ_=>w_cn hb (w_cn hc (next _ (Q0r _)))) (λ_=>w_cn hb (w_an (Zj0 _) (w_lv λx0 _=>w_lv λx1 hx=>w_cn hc (next _ (by rw[hx];exact Zip _))))))
 . have h:=of_decide_eq_false h
   exact⟨by show(v0.2.length:Int)=l.length;omega,h4⟩
theorem Qs9(steps:Int):0<=Q12 steps/\Q12 steps<=4000:=by
 refine Tree.post (Qc6 steps) (W:=λr=>0<=r/\r<=4000) ?_
 unfold Qc6
 refine w_lf ?_
 constructor<;>(repeat' split)<;>omega
theorem Zer{P:Nat}{r:Q01}(h:okR P r)(steps:Int){clock:Int}(hc:U clock)(hl:r.C6.length<=900000)(hq:r.A9.length<=1000)(hu: ∀q∈r.A9,U q.N):
    (Q5i r steps clock).w (λx=>okR P x.1/\x.1.C6.length<=r.C6.length+r.A9.length+8000/\(x.1.A9=r.A9\/x.1.A9=[])/\x.2.length<=4000):=by
  unfold Q5i
  refine Q0d (own_w h (by omega) (by omega)) λx0 hx=> ?_
  obtain⟨k1,k2,k3⟩:=hx
  refine w_lv λx1 _=>w_br (λ_=>⟨k1,by rw[k2];omega, .inl k3,Nat.zero_le _⟩) (λ_=> ?_)
  have hcl:U (if clock>x0.B1 then clock else x0.B1):=by split<;>first|exact hc|exact k1.clock
  refine w_lp (inv:=λz=>0<=z.1/\z.1<=r.A9.length/\okR P z.2/\(z.2.C6.length:Int)<=r.C6.length+z.1/\z.2.A9=r.A9) (μ:=Qb5 r steps clock) ⟨by omega,by omega,⟨k1.m,hcl⟩,by rw[k2];omega,k3⟩ (Nat.lt_succ_self _) (λz hz=> ?_)
  obtain⟨z1,z2,z3,z4,z5⟩:=hz
  refine w_br (λhb=> ?_) (λhb=> ?_)
  . have hb:=of_decide_eq_true hb
    rw[z5]at hb
    have hm:(z.2.A9.getD z.1.toNat (RK.dflt RK.apiEvent))∈r.A9:=by
      rw[z5]
      have hlt:z.1.toNat<r.A9.length:=by omega
      rw[List.getD_eq_getElem?_getD,List.getElem?_eq_getElem hlt]
      exact List.getElem_mem hlt
    refine w_cn (by rw[z5];simp [Nat.blt];omega) (Q0d (vv z3 (hu _ hm) (by omega)) λx hx=>w_nx ?_)
    obtain⟨a1,a2,a3⟩:=hx
    show(0<=IntKind.i64.wrap (z.1+1)/\IntKind.i64.wrap (z.1+1)<=r.A9.length/\okR P x/\(x.C6.length:Int)<=r.C6.length+IntKind.i64.wrap (z.1+1)/\x.A9=r.A9)/\(x.A9.length-IntKind.i64.wrap (z.1+1)).toNat<(z.2.A9.length-z.1).toNat
    have ew:IntKind.i64.wrap (z.1+1)=z.1+1:=by rw[IntKind.wrap_i64];omega
    rw[ew,a3,z5]
    exact⟨⟨by omega,by omega,a1,by omega,rfl⟩,by omega⟩
  . refine w_lp (inv:=λy=>0<=y.1/\y.1<=4000/\okR P y.2.1/\(y.2.1.C6.length:Int)<=r.C6.length+r.A9.length+2*y.1/\y.2.1.A9=[]/\(y.2.2.length:Int)<=y.1) (μ:=Q5j r steps clock z) ⟨by omega,by omega,⟨z3.m,z3.clock⟩,by simp;omega,rfl,by simp⟩ (Nat.lt_succ_self _) (λy hy=> ?_)
    obtain⟨y1,y2,y3,y4,y5,y6⟩:=hy
    have ew:IntKind.i64.wrap (y.1+1)=y.1+1:=by rw[IntKind.wrap_i64];omega
    refine w_lv λx3 hx3=>w_br (λhb=> ?_) (λ_=>⟨y3,by show y.2.1.C6.length<=_;omega, .inr y5,by show y.2.2.length<=_;omega⟩)
    have hb:=of_decide_eq_true hb
    have lim:=(Qs9 steps).2
    rw[<-hx3]at lim
    refine w_lv λx4 _=>w_br (λ_=>Q0d (vv (e:=⟨_,_,_⟩) y3 U_0 (by omega)) λx5 h5=> ?_) (λ_=> ?_)
    . obtain⟨q1,q2,q3⟩:=h5
      have q3:=q3.trans y5
      refine Q0d (Zg8 _) λs1 _=>w_br (λ_=>⟨q1,by show x5.C6.length<=_;omega, .inr q3,by show y.2.2.length<=_;omega⟩) (λ_=>Q0d (Qxb q1.m.cpu q1.m.mem) λs2 _=>w_br (λ_=>w_cn (decide_eq_true (by omega)) (Q0d (Qrm (r:=⟨x5.A0,x5.B1,x5.C6++[_],x5.A9⟩) ⟨q1.m,q1.clock⟩ q1.clock) λo ho=> ?_)) (λ_=>Q0d (Qrm q1 q1.clock) λo ho=> ?_))
      . obtain⟨a1,⟨⟨a2,a3⟩,a4,a5⟩⟩:=ho
        have e4:o.2.C6.length=x5.C6.length+1:=by rw[a4];simp
        have a5:o.2.A9=[]:=a5.trans q3
        refine w_cn (decide_eq_true (by omega)) (w_nx ?_)
        show(0<=IntKind.i64.wrap (y.1+1)/\IntKind.i64.wrap (y.1+1)<=4000/\okR P _/\(o.2.C6.length:Int)<=r.C6.length+r.A9.length+2*IntKind.i64.wrap (y.1+1)/\o.2.A9=[]/\((y.2.2++o.1).length:Int)<=IntKind.i64.wrap (y.1+1))/\(4000-IntKind.i64.wrap (y.1+1)).toNat<(4000-y.1).toNat
        rw[ew,a5,List.length_append]
        exact⟨⟨by omega,by omega,⟨a2,Q0r _⟩,by omega,rfl,by omega⟩,by omega⟩
      . obtain⟨a1,⟨⟨a2,a3⟩,a4,a5⟩⟩:=ho
        have e4:o.2.C6.length=x5.C6.length:=by rw[a4]
        have a5:o.2.A9=[]:=a5.trans q3
        refine w_cn (decide_eq_true (by omega)) (w_nx ?_)
        show(0<=IntKind.i64.wrap (y.1+1)/\IntKind.i64.wrap (y.1+1)<=4000/\okR P _/\(o.2.C6.length:Int)<=r.C6.length+r.A9.length+2*IntKind.i64.wrap (y.1+1)/\o.2.A9=[]/\((y.2.2++o.1).length:Int)<=IntKind.i64.wrap (y.1+1))/\(4000-IntKind.i64.wrap (y.1+1)).toNat<(4000-y.1).toNat
        rw[ew,a5,List.length_append]
        exact⟨⟨by omega,by omega,⟨a2,Q0r _⟩,by omega,rfl,by omega⟩,by omega⟩
    . refine Q0d (Zg8 _) λs1 _=>w_br (λ_=>⟨y3,by show y.2.1.C6.length<=_;omega, .inr y5,by show y.2.2.length<=_;omega⟩) (λ_=>Q0d (Qxb y3.m.cpu y3.m.mem) λs2 _=>w_br (λ_=>w_cn (decide_eq_true (by omega)) (Q0d (Qrm (r:=⟨y.2.1.A0,y.2.1.B1,y.2.1.C6++[_],y.2.1.A9⟩) ⟨y3.m,y3.clock⟩ y3.clock) λo ho=> ?_)) (λ_=>Q0d (Qrm y3 y3.clock) λo ho=> ?_))
      . obtain⟨a1,⟨⟨a2,a3⟩,a4,a5⟩⟩:=ho
        have e4:o.2.C6.length=y.2.1.C6.length+1:=by rw[a4];simp
        have a5:o.2.A9=[]:=a5.trans y5
        refine w_cn (decide_eq_true (by omega)) (w_nx ?_)
        show(0<=IntKind.i64.wrap (y.1+1)/\IntKind.i64.wrap (y.1+1)<=4000/\okR P _/\(o.2.C6.length:Int)<=r.C6.length+r.A9.length+2*IntKind.i64.wrap (y.1+1)/\o.2.A9=[]/\((y.2.2++o.1).length:Int)<=IntKind.i64.wrap (y.1+1))/\(4000-IntKind.i64.wrap (y.1+1)).toNat<(4000-y.1).toNat
        rw[ew,a5,List.length_append]
        exact⟨⟨by omega,by omega,⟨a2,Q0r _⟩,by omega,rfl,by omega⟩,by omega⟩
      . obtain⟨a1,⟨⟨a2,a3⟩,a4,a5⟩⟩:=ho
        have e4:o.2.C6.length=y.2.1.C6.length:=by rw[a4]
        have a5:o.2.A9=[]:=a5.trans y5
        refine w_cn (decide_eq_true (by omega)) (w_nx ?_)
        show(0<=IntKind.i64.wrap (y.1+1)/\IntKind.i64.wrap (y.1+1)<=4000/\okR P _/\(o.2.C6.length:Int)<=r.C6.length+r.A9.length+2*IntKind.i64.wrap (y.1+1)/\o.2.A9=[]/\((y.2.2++o.1).length:Int)<=IntKind.i64.wrap (y.1+1))/\(4000-IntKind.i64.wrap (y.1+1)).toNat<(4000-y.1).toNat
        rw[ew,a5,List.length_append]
        exact⟨⟨by omega,by omega,⟨a2,Q0r _⟩,by omega,rfl,by omega⟩,by omega⟩
section
variable {P:Nat} {m:Q00} (h:okM P m)
include h
theorem min_w(port:Int){clock:Int}(hc:U clock):(Qjx m port clock).w (λx=>U x.1/\okM P x.2/\x.2.A1=m.A1):=by
 have k:=(⟨h,rfl⟩:okM P m/\m.A1=m.A1)
 obtain⟨h1,h2,h3,h4,h5,h7⟩:=h
 unfold Qjx
 exact w_br (λ_=>w_lv λx hx=>⟨hx▸Z26 _ _,⟨⟨h1,h2,h3,h4,h5,h7⟩,rfl⟩⟩) (λ_=>w_br (λ_=>⟨hc,k⟩) (λ_=>w_br (λ_=>w_lv λx hx=>⟨hx▸Ze3 _,k⟩) (λ_=>w_br (λ_=>w_lv λx hx=>⟨hx▸Zia h3 _,k⟩) (λ_=>w_br (λ_=>w_lv λx hx=>⟨hx▸yv h4 _,k⟩) (λ_=>w_lv λx hx=>⟨hx▸Z0y h5.1 _,k⟩)))))
theorem qay(port:Int){v:Int}(hv:U v):(Qdp m port v).w (λx=>x.1.length<=1/\okM P x.2/\x.2.A1=m.A1):=by
 have k:=(⟨h,rfl⟩:okM P m/\m.A1=m.A1)
 obtain⟨h1,h2,h3,h4,h5,h7⟩:=h
 unfold Qdp
 exact w_br (λ_=>⟨Nat.le_refl _,k⟩) (λ_=>w_br (λ_=>⟨Nat.zero_le _,k⟩) (λ_=>w_br (λ_=>w_lv λ_ _=>⟨Nat.zero_le _,⟨⟨h1,h2,h3,h4,h5,h7⟩,rfl⟩⟩) (λ_=>w_br (λ_=>Q0d (Zcp h2 h3 _ hv _) λx hx=>⟨hx.2,⟨⟨h1,h2,hx.1,h4,h5,h7⟩,rfl⟩⟩) (λ_=>w_br (λ_=>Q0d (Zj4 h2 h4 _ hv _) λx hx=>⟨hx.2,⟨⟨h1,h2,h3,hx.1,h5,h7⟩,rfl⟩⟩) (λ_=>Q0d (xX h2 h5 _ hv) λx hx=>⟨Nat.zero_le _,⟨⟨h1,hx.2,h3,h4,hx.1,h7⟩,rfl⟩⟩)))))
theorem Qvn{clock:Int}(hc:U clock):(Q8d m clock).w (λx=>x.1.length<=1/\okM P x.2/\x.2.A1=IntKind.wrap .u64 (m.A1+1)):=by
 obtain⟨h1,h2,h3,h4,h5,h7⟩:=h
 unfold Q8d
 refine Q0d (Qm0 h1) λx0 c0=>Q0d (do_w c0 h2) λx1 hx=> ?_
 obtain⟨c1,v1,m1⟩:=hx
 refine w_br (λ_=>Zct (min_w (m:=⟨_,_,_,_,_,_,_,_,_,_⟩) ⟨c1,m1,h3,h4,h5,h7⟩ _ hc) λx2 hx=> ?_) (λ_=>w_br (λ_=>Q0d (qay (m:=⟨_,_,_,_,_,_,_,_,_,_⟩) ⟨c1,m1,h3,h4,h5,h7⟩ _ v1) λx4 hx=> ?_) (λ_=> ?_))
 . obtain⟨u,⟨k1,k2,k3,k4,k5,k7⟩,k6⟩:=hx
   exact Q0d (Z4x k1 _ u) λx3 h3=>⟨Nat.zero_le _,⟨h3,k2,k3,k4,k5,w0 _⟩,congrArg (λn=>IntKind.wrap .u64 (n+1)) k6⟩
 . obtain⟨u,⟨k1,k2,k3,k4,k5,k7⟩,k6⟩:=hx
   exact⟨u,⟨k1,k2,k3,k4,k5,w0 _⟩,congrArg (λn=>IntKind.wrap .u64 (n+1)) k6⟩
 . repeat'(first
     |exact⟨Nat.zero_le _,⟨c1,m1,h3,h4,h5,w0 _⟩,rfl⟩
     |refine w_br (λ_=> ?_) (λ_=> ?_))
theorem Zit:(Qbn m).w (λx=>okM P x/\x.A1=m.A1):=by
 obtain⟨h1,h2,h3,h4,h5,h7⟩:=h
 unfold Qbn
 exact Q0d (zW h2) λx hx=>⟨⟨h1,by rw[hx];exact h2,h3,h4,h5,h7⟩,rfl⟩
end
theorem U_all(n:Nat): ∀w∈List.replicate n (0:Int),U w:=λw hw=>by rw[(List.mem_replicate.1 hw).2];exact U_0
theorem v7:okM 0 ⟨⟨⟨0,0,0,0,0,0,0,0,0,0,0,0,0,0,0,0⟩,0,⟨0,0,0,0,0,0,0,0⟩⟩,[],⟨[]⟩,⟨false,0,false⟩,⟨0,0,0,0,0,0,0,[]⟩,⟨0,0,false,0,false,0⟩,⟨0,0⟩,0,false,false⟩:=
 ⟨⟨U_all 16,U_0,U_all 8⟩,⟨rfl,by omega,by omega,λw hw=>by cases hw⟩,⟨U_0,U_0,U_0,U_0⟩,⟨U_0,U_0,U_0,U_0⟩,⟨U_0,U_0⟩,by decide⟩
theorem Ziy{P:Nat}{m:Q00}(h:okM P m)(hc:0<=m.A1):(Q8u m [] 87).w (λx=> ∃Q,okM Q x.1):=by
 have z: ∃Q,okM Q _:=⟨0,v7⟩
 unfold Q8u
 refine w_lv λx0 _=>w_br (λ_=>z) λ_=>w_br (λ_=>z) λ_=>w_br (λ_=>z) λ_=>w_an (show Q27 [] by show([]:List Q0h).length<=1000000000000;decide) (w_lv λx1 _=>w_br (λ_=>z) λ_=>Q0d (Zit h) λx2 hx=> ?_)
 refine w_lp (inv:=λv:Q00×List Q02=>okM P v.1/\0<=v.1.A1/\v.2.length+(87-v.1.A1).toNat<=87) (μ:=Qfg m [] 87) ⟨hx.1,by rw[hx.2];exact hc,by rw[hx.2];show 0+_<=87;omega⟩ (Nat.lt_succ_self _) λv0 ⟨a1,a2,a3⟩=> ?_
 refine w_br (λhb=>w_br (λ_=> ?_) (λ_=>⟨P,a1⟩)) (λ_=>⟨P,a1⟩)
 have hb:=of_decide_eq_true hb
 refine w_lp (inv:=λ_=>True) (μ:=Qfx m [] 87 v0) trivial (Nat.lt_succ_self _) λv1 _=> ?_
 refine w_br (λ_=>⟨P,a1⟩) λ_=>Q0d (zv _) λx3 _=>w_br (λ_=>⟨P,a1⟩) λ_=>Q0d (Z85 a1.cpu a1.mem) λx4 _=>w_br (λ_=>z) λ_=>Q0d (Qvn a1 U_0) λx5 h5=> ?_
 obtain⟨b1,b2,b3⟩:=h5
 refine w_cn (decide_eq_true (by omega)) (w_nx ?_)
 have e:x5.2.A1=v0.1.A1+1:=by rw[b3,IntKind.wrap_u64];omega
 show(_/\_/\_)/\(_:Nat)<_
 refine⟨⟨b2,by show 0<=x5.2.A1;omega,by show(v0.2++x5.1).length+(87-x5.2.A1).toNat<=87;rw[List.length_append];omega⟩,by show(87-x5.2.A1).toNat<(87-v0.1.A1).toNat;omega⟩
set_option synthInstance.maxHeartbeats 2000000
set_option synthInstance.maxSize 100000
noncomputable section
instance yF (src:(List UInt8)):Ck (Qjr src):=ckT (t:=Qfd src) (by delta Qfd;infer_instance)
instance xB (s:(List UInt8)):Ck (Qi5 s):=ckT (t:=Qcv s) (by delta Qcv;infer_instance)
instance zB (n:Int):Ck (Q3c n):=let d:Decidable (Q3c n):=(by delta Q3c;infer_instance);⟨@decide _ d,@of_decide_eq_true _ d⟩
instance xd (n:Int):Ck (Qfy n):=ckT (t:=Q6k n) (by delta Q6k;infer_instance)
instance z8 (r:Int):Ck (Qoo r):=ckT (t:=Qdw r) (by delta Qdw;infer_instance)
instance zT (s:(List UInt8)):Ck (Qgi s):=ckT (t:=Qhn s) (by delta Qhn;infer_instance)
instance Zmy (op:Int):Ck (Qdd op):=ckT (t:=Q9m op) (by delta Q9m;infer_instance)
instance Zky (s:(List UInt8)):Ck (Q3b s):=ckT (t:=Q8 s) (by delta Q8;infer_instance)
instance zd (what:(List UInt8)):Ck (Q5z what):=ckT (t:=Qax what) (by delta Qax;infer_instance)
instance yB (s:(List UInt8)):Ck (Qht s):=ckT (t:=Qby s) (by delta Qby;infer_instance)
instance yd (l:(List Q0i)) (p:(List UInt8)):Ck (Q5y l p):=ckT (t:=Qar l p) (by delta Qar;infer_instance)
instance vB (s:(List UInt8)):Ck (Qhf s):=ckT (t:=Qcu s) (by delta Qcu;infer_instance)
instance vd (l:(List Q25)) (label:(List UInt8)):Ck (Q3d l label):=let d:Decidable (Q3d l label):=(by delta Q3d;infer_instance);⟨@decide _ d,@of_decide_eq_true _ d⟩
instance yT (src:(List UInt8)):Ck (Qlz src):=ckT (t:=Qih src) (by delta Qih;infer_instance)
instance vT (st:Q0a) (v:Int):Ck (Q9y st v):=ckT (t:=Qh4 st v) (by delta Qh4;infer_instance)
instance Zmw (src:(List UInt8)):Ck (Qa8 src):=ckT (t:=Q8v src) (by delta Q8v;infer_instance)
theorem y8:Qa8 ((108:UInt8)::(tblZe0++Z70++(Z6q++Z59)++(Z6t++Z5g++(Z5i++Z5o))++(Z7++Z6++(Qvt++Qw3)++(Qu9++Qun++(Qv++Qvm))))):=ck inferInstance (by kernel_rfl)
def inU(x:Int):Bool:=decide (0<=x)&&decide (x<4294967296)
theorem v8(l:List Int)(h:(Nat.ble l.length 160&&List.all l inU)=true):l.length<=160/\ ∀w∈l,U w:=by
 rw[Bool.and_eq_true]at h
 refine⟨Nat.le_of_ble_eq_true h.1,λw hw=> ?_⟩
 have:=List.all_eq_true.1 h.2 w hw
 simp only[inU,Bool.and_eq_true,decide_eq_true_eq]at this
 exact this
theorem qe:(Q13 (List.append (List.append (List.append (List.append Za8 Z70) (List.append Z6q Z59)) (List.append (List.append Z6t Z5g) (List.append Z5i Z5o))) (List.append (List.append (List.append Z7 Z6) (List.append Qvt Qw3)) (List.append (List.append Qu9 Qun) (List.append Qv Qvm))))).1.length<=160/\ ∀w∈(Q13 (List.append (List.append (List.append (List.append Za8 Z70) (List.append Z6q Z59)) (List.append (List.append Z6t Z5g) (List.append Z5i Z5o))) (List.append (List.append (List.append Z7 Z6) (List.append Qvt Qw3)) (List.append (List.append Qu9 Qun) (List.append Qv Qvm))))).1,U w:=v8 _ (by kernel_rfl)
end
theorem new_w(i:List Int)(hu: ∀w∈i,U w)(hl:i.length<=256):(Q8k 8 4 i).w (λx=>okM 8 x.1/\x.1.A1=0):=by
 unfold Q8k
 refine w_br (λh=>absurd h (by decide)) λ_=>w_br (λh=>absurd h (by decide)) λ_=>w_br (λh=>absurd h (by decide)) λ_=>w_br (λh=>absurd h (by decide)) λ_=>w_br (λh=> ?_) λ_=>w_lv λx0 e0=>w_an (Zdb _) (w_lv λx1 e1=> ?_)
 . have h:=of_decide_eq_true h
   rw[show IntKind.i64.wrap (8*32)=256 by decide]at h
   omega
 have hx:x1=List.replicate 256 0:=by rw[e1];kernel_rfl
 have c0:Q2b x0:=by rw[e0];exact⟨by
   intro w hw
   simp only[Qpe,Qjc,Tree.m,A16.l,List.mem_cons,List.not_mem_nil,or_false,or_self]at hw
   rw[hw];exact U_0,U_0,by
   intro w hw
   simp only[Qpe,Qjc,Tree.m,A8.l,List.mem_cons,List.not_mem_nil,or_false,or_self]at hw
   rcases hw with rfl|rfl
   . exact⟨by omega,by omega⟩
   . exact U_0⟩
 have hz: ∀w∈x1,U w:=by rw[hx];exact U_all 256
 have hn:x1.length=256:=by rw[hx,List.length_replicate]
 refine⟨⟨c0,⟨?_,by omega,by omega,λw hw=> ?_⟩,⟨U_0,U_0,U_0,U_0⟩,⟨U_0,U_0,U_0,U_0⟩,⟨U_0,U_0⟩,Int.le_refl _⟩,rfl⟩
 . simp only[List.length_append,List.length_take,List.length_drop,hn];omega
 . rcases List.mem_append.1 hw with h1|h1
   . exact hu w (List.mem_of_mem_take h1)
   . exact hz w (List.mem_of_mem_drop h1)
theorem xe(kind:Int)(l:List Int)(hl:l.length*8<=reachBytes):(Q6m kind l).w (λx=> ∃Q,okM Q x):=by
  have hl':l.length*8<=140737488351232:=hl
  unfold Q6m
  refine w_an (Q4y (by decide)) (w_lv λx0 _=>w_br (λ_=>w_an y8 (w_lv λx1 e1=> ?_)) (λ_=> ?_))
  . obtain⟨q1,q2⟩:x1.1.length<=160/\ ∀w∈x1.1,U w:=by rw[e1];exact qe
    refine w_lp (inv:=λv:List Int=>v.length<=160/\ ∀w∈v,U w) (μ:=Qce kind l) ⟨q1,q2⟩ (Nat.lt_succ_self _) λv0 ⟨a1,a2⟩=> ?_
    refine w_br (λhb=> ?_) (λ_=> ?_)
    . have hb:=of_decide_eq_true hb
      refine w_cn (decide_eq_true (by omega)) (w_nx ?_)
      show(_/\_)/\(_:Nat)<_
      refine⟨⟨by rw[List.length_append,List.length_singleton];omega,λw hw=> ?_⟩,by show 160-(v0++[0]).length<160-v0.length;rw[List.length_append,List.length_singleton];omega⟩
      rcases List.mem_append.1 hw with h1|h1
      . exact a2 w h1
      . rw[List.mem_singleton.1 h1];exact U_0
    . refine Q0d (qd l hl) λx2 ⟨b1,b2⟩=>w_cn (decide_eq_true (by omega)) ?_
      have hu: ∀w∈v0++x2,U w:=λw hw=>(List.mem_append.1 hw).elim (a2 w) (b2 w)
      refine w_br (λhb=> ?_) (λhb=> ?_)
      . have hb:=of_decide_eq_true hb
        refine w_cn (by simp [Nat.blt];rw[List.length_append]at hb;omega) (Q0d (new_w _ (λw hw=>hu w (List.mem_of_mem_drop (List.mem_of_mem_take hw))) (by rw[List.length_take];exact Nat.le_trans (Nat.min_le_left _ _) (by decide))) λx3 ⟨c1,c2⟩=>w_br (λ_=>Q0d (Ziy c1 (by omega)) λx4 hx=>hx) (λ_=>⟨8,c1⟩))
      . have hb:=of_decide_eq_false hb
        exact Q0d (new_w _ hu (by omega)) λx3 ⟨c1,c2⟩=>w_br (λ_=>Q0d (Ziy c1 (by omega)) λx4 hx=>hx) (λ_=>⟨8,c1⟩)
  . refine Q0d (qd l hl) λx2 ⟨b1,b2⟩=>w_cn (decide_eq_true (by omega)) ?_
    refine w_br (λhb=> ?_) (λhb=> ?_)
    . have hb:=of_decide_eq_true hb
      refine w_cn (by simp [Nat.blt];omega) (Q0d (new_w _ (λw hw=>b2 w (List.mem_of_mem_drop (List.mem_of_mem_take hw))) (by rw[List.length_take];exact Nat.le_trans (Nat.min_le_left _ _) (by decide))) λx3 ⟨c1,c2⟩=>w_br (λ_=>Q0d (Ziy c1 (by omega)) λx4 hx=>hx) (λ_=>⟨8,c1⟩))
    . have hb:=of_decide_eq_false hb
      exact Q0d (new_w _ b2 (by omega)) λx3 ⟨c1,c2⟩=>w_br (λ_=>Q0d (Ziy c1 (by omega)) λx4 hx=>hx) (λ_=>⟨8,c1⟩)
theorem zay{P:Nat}{r:Q01}(h:okR P r)(n:Int)(hl:r.C6.length<=900000)(hq:r.A9.length<=16)(hu: ∀q∈r.A9,U q.N):
   (Q7x r n).w (λx=>okR P x.1/\x.1.C6.length<=r.C6.length+8016/\(x.1.A9.length<=16/\ ∀q∈x.1.A9,U q.N)/\x.2.length<=4000):=by
 unfold Q7x
 refine w_lv λx0 _=>w_br (λ_=>Q0d (Zgk n) λe he=>Q0d (xS h e (by omega) hq hu he) λx hx=> ?_) (λ_=>w_an (Q4y (by decide)) (w_lv λx3 _=>Q0d (Zer h _ (Q0r _) hl (by omega) hu) λx hx=> ?_))
 . obtain⟨a1,a2,a3,a4⟩:=hx
   exact⟨a1,by rw[a2];omega,⟨a3,a4⟩,Nat.zero_le _⟩
 . obtain⟨a1,a2,a3,a4⟩:=hx
   refine⟨a1,by show x.1.C6.length<=_;omega,?_,a4⟩
   rcases a3 with a3|a3
   . rw[a3];exact⟨hq,hu⟩
   . rw[a3];exact⟨Nat.zero_le _,λq hq=>by cases hq⟩
theorem xay{P:Nat}{m:Q00}(h:okM P m)(l:List Int)(hl:l.length<=30):(Qbk m l).w (λx=>okR P x.1):=by
 unfold Qbk
 have nr:(Q3n m).w (λx=>okR P x/\x.C6=[]/\x.A9=[]):=by
   unfold Q3n
   exact Q0d (Zit h) λx hx=>⟨⟨hx.1,U_0⟩,rfl,rfl⟩
 refine Q0d nr λx0 ⟨n1,n2,n3⟩=> ?_
 refine w_lp (inv:=λv:Int×Q01×List Q02=>0<=v.1/\v.1<=l.length/\okR P v.2.1/\(v.2.1.C6.length:Int)<=8016*v.1/\(v.2.1.A9.length<=16/\ ∀q∈v.2.1.A9,U q.N)/\(v.2.2.length:Int)<=4000*v.1) (μ:=Qid m l) ⟨Int.le_refl _,by show(0:Int)<=l.length;omega,n1,by rw[n2];exact Int.le_refl _,by rw[n3];exact⟨Nat.zero_le _,λq hq=>by cases hq⟩,Int.le_refl _⟩ (Nat.lt_succ_self _) λv0 ⟨a1,a2,a3,a4,⟨a5,a6⟩,a7⟩=> ?_
 refine w_br (λhb=> ?_) (λ_=>a3)
 have hb:=of_decide_eq_true hb
 refine w_cn (by simp [Nat.blt];omega) (Q0d (zay a3 _ (by omega) a5 a6) λx1 ⟨b1,b2,b3,b4⟩=>w_cn (decide_eq_true (by omega)) (w_nx ?_))
 have e:IntKind.i64.wrap (v0.1+1)=v0.1+1:=by rw[IntKind.wrap_i64];omega
 show(_/\_/\_/\_/\_/\_)/\(_:Nat)<_
 refine⟨⟨by rw[e];omega,by rw[e];omega,b1,by rw[e];show(x1.1.C6.length:Int)<=_;omega,b3,by rw[e,List.length_append];omega⟩,by show(l.length-IntKind.i64.wrap (v0.1+1)).toNat<(l.length-v0.1).toNat;rw[e];omega⟩
noncomputable section
def boot:List Int:=(Q13 (List.append (List.append (List.append (List.append Za8 Z70) (List.append Z6q Z59)) (List.append (List.append Z6t Z5g) (List.append Z5i Z5o))) (List.append (List.append (List.append Z7 Z6) (List.append Qvt Qw3)) (List.append (List.append Qu9 Qun) (List.append Qv Qvm))))).1
def Qjn:List Int:=boot++List.replicate (160-boot.length) 0
theorem run87(t0 t1 t2 t3 t4 t5 t6 t7 t8 t9 t10 t11 t12 t13 t14 t15 t16 t17 t18 t19 t20 t21 t22 t23 t24 t25 t26 t27 t28 t29 t30 t31 t32 t33 t34 t35 t36 t37 t38 t39 t40 t41 t42 t43 t44 t45 t46 t47 t48 t49 t50 t51 t52 t53 t54 t55 t56 t57 t58 t59 t60 t61 t62 t63 t64 t65 t66 t67 t68 t69 t70 t71 t72 t73 t74 t75 t76 t77 t78 t79 t80 t81 t82 t83 t84 t85 t86 t87 t88 t89 t90 t91 t92 t93 t94 t95:Int):(Qd7 (Q1x 8 4 (Qjn++[t0,t1,t2,t3,t4,t5,t6,t7,t8,t9,t10,t11,t12,t13,t14,t15,t16,t17,t18,t19,t20,t21,t22,t23,t24,t25,t26,t27,t28,t29,t30,t31,t32,t33,t34,t35,t36,t37,t38,t39,t40,t41,t42,t43,t44,t45,t46,t47,t48,t49,t50,t51,t52,t53,t54,t55,t56,t57,t58,t59,t60,t61,t62,t63,t64,t65,t66,t67,t68,t69,t70,t71,t72,t73,t74,t75,t76,t77,t78,t79,t80,t81,t82,t83,t84,t85,t86,t87,t88,t89,t90,t91,t92,t93,t94,t95])).1 [] 87).2.2.2=0:=by kernel_rfl
end
attribute [local irreducible] Q13
theorem y9(i j:List Int)(hi:i.length<=256)(hj:j.length<=256)(e:i++List.replicate (256-i.length) 0=j++List.replicate (256-j.length) 0):Q1x 8 4 i=Q1x 8 4 j:=by
 have w:IntKind.i64.wrap (8*32)=256:=by decide
 have m:Qt4 8=List.replicate 256 0:=by kernel_rfl
 have d: ∀k:List Int,k.length<=256->decide ((k.length:Int)>256)=false:=λk h=>decide_eq_false (by omega)
 have mem: ∀k:List Int,k.length<=256->List.take (min k.length (List.replicate 256 (0:Int)).length) k++List.drop (min k.length (List.replicate 256 (0:Int)).length) (List.replicate 256 0)=k++List.replicate (256-k.length) 0:=λk h=>by
   rw[List.length_replicate,Nat.min_eq_left h,List.take_length,List.drop_replicate]
 have r:Qt4 8=List.replicate 256 0:=by kernel_rfl
 simp only[Q1x,Q8k,Tree.m,w,letv,r,d i hi,d j hj]
 simp only[mem i hi,mem j hj,e]
theorem list96(t:List Int)(ht:t.length=96):t=[t.getD 0 0,t.getD 1 0,t.getD 2 0,t.getD 3 0,t.getD 4 0,t.getD 5 0,t.getD 6 0,t.getD 7 0,t.getD 8 0,t.getD 9 0,t.getD 10 0,t.getD 11 0,t.getD 12 0,t.getD 13 0,t.getD 14 0,t.getD 15 0,t.getD 16 0,t.getD 17 0,t.getD 18 0,t.getD 19 0,t.getD 20 0,t.getD 21 0,t.getD 22 0,t.getD 23 0,t.getD 24 0,t.getD 25 0,t.getD 26 0,t.getD 27 0,t.getD 28 0,t.getD 29 0,t.getD 30 0,t.getD 31 0,t.getD 32 0,t.getD 33 0,t.getD 34 0,t.getD 35 0,t.getD 36 0,t.getD 37 0,t.getD 38 0,t.getD 39 0,t.getD 40 0,t.getD 41 0,t.getD 42 0,t.getD 43 0,t.getD 44 0,t.getD 45 0,t.getD 46 0,t.getD 47 0,t.getD 48 0,t.getD 49 0,t.getD 50 0,t.getD 51 0,t.getD 52 0,t.getD 53 0,t.getD 54 0,t.getD 55 0,t.getD 56 0,t.getD 57 0,t.getD 58 0,t.getD 59 0,t.getD 60 0,t.getD 61 0,t.getD 62 0,t.getD 63 0,t.getD 64 0,t.getD 65 0,t.getD 66 0,t.getD 67 0,t.getD 68 0,t.getD 69 0,t.getD 70 0,t.getD 71 0,t.getD 72 0,t.getD 73 0,t.getD 74 0,t.getD 75 0,t.getD 76 0,t.getD 77 0,t.getD 78 0,t.getD 79 0,t.getD 80 0,t.getD 81 0,t.getD 82 0,t.getD 83 0,t.getD 84 0,t.getD 85 0,t.getD 86 0,t.getD 87 0,t.getD 88 0,t.getD 89 0,t.getD 90 0,t.getD 91 0,t.getD 92 0,t.getD 93 0,t.getD 94 0,t.getD 95 0]:=by
 apply List.ext_getElem
 . rw[ht];rfl
 . intro i h1 h2
   have e: ∀j (hj:j<96),[t.getD 0 0,t.getD 1 0,t.getD 2 0,t.getD 3 0,t.getD 4 0,t.getD 5 0,t.getD 6 0,t.getD 7 0,t.getD 8 0,t.getD 9 0,t.getD 10 0,t.getD 11 0,t.getD 12 0,t.getD 13 0,t.getD 14 0,t.getD 15 0,t.getD 16 0,t.getD 17 0,t.getD 18 0,t.getD 19 0,t.getD 20 0,t.getD 21 0,t.getD 22 0,t.getD 23 0,t.getD 24 0,t.getD 25 0,t.getD 26 0,t.getD 27 0,t.getD 28 0,t.getD 29 0,t.getD 30 0,t.getD 31 0,t.getD 32 0,t.getD 33 0,t.getD 34 0,t.getD 35 0,t.getD 36 0,t.getD 37 0,t.getD 38 0,t.getD 39 0,t.getD 40 0,t.getD 41 0,t.getD 42 0,t.getD 43 0,t.getD 44 0,t.getD 45 0,t.getD 46 0,t.getD 47 0,t.getD 48 0,t.getD 49 0,t.getD 50 0,t.getD 51 0,t.getD 52 0,t.getD 53 0,t.getD 54 0,t.getD 55 0,t.getD 56 0,t.getD 57 0,t.getD 58 0,t.getD 59 0,t.getD 60 0,t.getD 61 0,t.getD 62 0,t.getD 63 0,t.getD 64 0,t.getD 65 0,t.getD 66 0,t.getD 67 0,t.getD 68 0,t.getD 69 0,t.getD 70 0,t.getD 71 0,t.getD 72 0,t.getD 73 0,t.getD 74 0,t.getD 75 0,t.getD 76 0,t.getD 77 0,t.getD 78 0,t.getD 79 0,t.getD 80 0,t.getD 81 0,t.getD 82 0,t.getD 83 0,t.getD 84 0,t.getD 85 0,t.getD 86 0,t.getD 87 0,t.getD 88 0,t.getD 89 0,t.getD 90 0,t.getD 91 0,t.getD 92 0,t.getD 93 0,t.getD 94 0,t.getD 95 0][j]'hj=t.getD j 0:=by
     intro j hj
     have:[t.getD 0 0,t.getD 1 0,t.getD 2 0,t.getD 3 0,t.getD 4 0,t.getD 5 0,t.getD 6 0,t.getD 7 0,t.getD 8 0,t.getD 9 0,t.getD 10 0,t.getD 11 0,t.getD 12 0,t.getD 13 0,t.getD 14 0,t.getD 15 0,t.getD 16 0,t.getD 17 0,t.getD 18 0,t.getD 19 0,t.getD 20 0,t.getD 21 0,t.getD 22 0,t.getD 23 0,t.getD 24 0,t.getD 25 0,t.getD 26 0,t.getD 27 0,t.getD 28 0,t.getD 29 0,t.getD 30 0,t.getD 31 0,t.getD 32 0,t.getD 33 0,t.getD 34 0,t.getD 35 0,t.getD 36 0,t.getD 37 0,t.getD 38 0,t.getD 39 0,t.getD 40 0,t.getD 41 0,t.getD 42 0,t.getD 43 0,t.getD 44 0,t.getD 45 0,t.getD 46 0,t.getD 47 0,t.getD 48 0,t.getD 49 0,t.getD 50 0,t.getD 51 0,t.getD 52 0,t.getD 53 0,t.getD 54 0,t.getD 55 0,t.getD 56 0,t.getD 57 0,t.getD 58 0,t.getD 59 0,t.getD 60 0,t.getD 61 0,t.getD 62 0,t.getD 63 0,t.getD 64 0,t.getD 65 0,t.getD 66 0,t.getD 67 0,t.getD 68 0,t.getD 69 0,t.getD 70 0,t.getD 71 0,t.getD 72 0,t.getD 73 0,t.getD 74 0,t.getD 75 0,t.getD 76 0,t.getD 77 0,t.getD 78 0,t.getD 79 0,t.getD 80 0,t.getD 81 0,t.getD 82 0,t.getD 83 0,t.getD 84 0,t.getD 85 0,t.getD 86 0,t.getD 87 0,t.getD 88 0,t.getD 89 0,t.getD 90 0,t.getD 91 0,t.getD 92 0,t.getD 93 0,t.getD 94 0,t.getD 95 0]=(List.range 96).map (λk=>t.getD k 0):=rfl
     simp only[this,List.getElem_map,List.getElem_range]
   rw[e i (by omega),List.getD_eq_getElem?_getD,List.getElem?_eq_getElem h1]
   rfl
theorem qaz(t:List Int)(ht:t.length=96):(Qd7 (Q1x 8 4 (Qjn++t)).1 [] 87).2.2.2=0:=by
 rw[list96 t ht]
 exact run87 _ _ _ _ _ _ _ _ _ _ _ _ _ _ _ _ _ _ _ _ _ _ _ _ _ _ _ _ _ _ _ _ _ _ _ _ _ _ _ _ _ _ _ _ _ _ _ _ _ _ _ _ _ _ _ _ _ _ _ _ _ _ _ _ _ _ _ _ _ _ _ _ _ _ _ _ _ _ _ _ _ _ _ _ _ _ _ _ _ _ _ _ _ _ _ _
theorem qaa:Qjn.length=160:=by
 have h:boot.length<=160:=qe.1
 unfold Qjn
 rw[List.length_append,List.length_replicate];omega
def out(f:Int)(m m':List Int):Prop:= ∀j:Nat,¬(f*32<=j/\(j:Int)<f*32+32)->m'.getD j 0=m.getD j 0
theorem Qpb(f:Int)(m:List Int):out f m m:=λ_ _=>rfl
theorem getDset(l:List Int)(i j:Nat)(v:Int)(h:i≠j):(l.set i v).getD j 0=l.getD j 0:=by
 simp only[List.getD_eq_getElem?_getD,List.getElem?_set_ne h]
theorem Q3i{P:Nat}{m:List Int}(h:Q1 P m):Q0u m=P:=by
 obtain⟨h1,h2,h3,_⟩:=h
 simp only[Q0u,Q8b,Tree.m]
 have e:(m.length:Int)=32*P:=by omega
 rw[e]
 have e1:(Int.tmod (32*(P:Int)) 32 !=0)=false:=by simp [Int.mul_tmod_right]
 have e2:decide ((32*(P:Int))>1024)=false:=decide_eq_false (by omega)
 rw[e1,e2]
 simp only[cond_false]
 rw[Int.mul_tdiv_cancel_left _ (by decide),IntKind.wrap_i64];omega
theorem qU{P:Nat}{m:List Int}(h:Q1 P m)(f:Int):Q59 m f=true->0<=f/\f<P:=by
 have hp:=Q3i h
 simp only[Q59,Q80,Tree.m,letv,hp]
 cases h1:decide (f>=0)
 . intro h;cases h
 . intro h;exact⟨of_decide_eq_true h1,of_decide_eq_true h⟩
theorem Z0t{P:Nat}{m:List Int}(h:Q1 P m)(f:Int)(s:List UInt8):(Q3g m f s).w (λr=>Q1 P r.1/\out f m r.1/\(r.2=false->r.1=m)):=by
 have hcl:Q03 m=m:=rfl
 have h2:=h.p2
 unfold Q3g
 refine w_an (Q8n h) (w_lv λx0 hx0=>w_lv λx1 hx1=> ?_)
 rw[hcl]at hx0;subst hx0
 refine w_br (λ_=>⟨h,Qpb _ _,λ_=>rfl⟩) λhb=>w_br (λ_=>⟨h,Qpb _ _,λ_=>rfl⟩) λhs=> ?_
 have hb:x1=true:=by simpa using hb
 obtain⟨f0,f1⟩:=qU h f (hx1.symm.trans hb)
 have hs:(s.length:Int)=128:=by simpa using hs
 refine w_lp (inv:=λz:Int×List Int=>0<=z.1/\z.1<=32/\Q1 P z.2/\out f x0 z.2) (μ:=Qah x0 f s) ⟨show(0:Int)<=0 by decide,show(0:Int)<=32 by decide,h,Qpb _ _⟩ (Nat.lt_succ_self _) λz ⟨z1,z2,z3,z4⟩=> ?_
 refine w_br (λhb=> ?_) (λ_=>⟨z3,z4,λh=>by cases h⟩)
 have hb:=of_decide_eq_true hb
 have e1:IntKind.i64.wrap (4*z.1)=4*z.1:=by rw[IntKind.wrap_i64];omega
 have e2:IntKind.i64.wrap (IntKind.i64.wrap (4*z.1)+4)=4*z.1+4:=by rw[IntKind.wrap_i64,IntKind.wrap_i64];omega
 have e3:IntKind.i64.wrap (IntKind.i64.wrap (f*32)+z.1)=f*32+z.1:=by rw[IntKind.wrap_i64,IntKind.wrap_i64];omega
 have hl:=z3.len
 have hlen:(List.take (Int.toNat (IntKind.i64.wrap (IntKind.i64.wrap (4*z.1)+4))-Int.toNat (IntKind.i64.wrap (4*z.1))) (List.drop (Int.toNat (IntKind.i64.wrap (4*z.1))) s)).length=4:=by
   rw[e2,e1,List.length_take,List.length_drop];omega
 refine w_cn (decide_eq_true (by rw[e2,e1];omega)) ?_
 refine w_cn (decide_eq_true (by rw[hlen];decide)) (w_cn (decide_eq_true (by rw[hlen];decide)) (w_cn (decide_eq_true (by rw[hlen];decide)) (w_cn (decide_eq_true (by rw[hlen];decide)) (w_cn (by rw[e3];simp [Nat.blt];omega) (w_nx ?_)))))
 show(_/\_/\Q1 P (List.set _ _ _)/\out f x0 (List.set _ _ _))/\(_:Nat)<_
 have ew:IntKind.i64.wrap (z.1+1)=z.1+1:=by rw[IntKind.wrap_i64];omega
 rw[e3]
 refine⟨⟨by rw[ew];omega,by rw[ew];omega,⟨by rw[List.length_set];exact hl,z3.p1,z3.p2,Qyv z3.u (U_or _ _) _⟩,λj hj=> ?_⟩,by show(32-IntKind.i64.wrap (z.1+1)).toNat<(32-z.1).toNat;rw[ew];omega⟩
 rw[getDset _ _ _ _ (by omega)]
 exact z4 j hj
theorem zaz(w:List Int)(h:w.length<=32):(Q50 w).w (λr=>r.length=4*w.length):=by
 have e0:IntKind.i64.wrap (4*(w.length:Int))=4*w.length:=by rw[IntKind.wrap_i64];omega
 unfold Q50
 refine w_cn (by rw[e0];simp [Nat.blt,D.plain];omega) ?_
 refine w_lp (inv:=λz:Int×List Int=>0<=z.1/\z.1<=w.length/\(z.2.length:Int)=4*z.1) (μ:=Q74 w) ⟨by decide,by show(0:Int)<=w.length;omega,rfl⟩ (Nat.lt_succ_self _) λz ⟨z1,z2,z3⟩=> ?_
 refine w_br (λhb=> ?_) (λhb=> ?_)
 . have hb:=of_decide_eq_true hb
   have ew:IntKind.i64.wrap (z.1+1)=z.1+1:=by rw[IntKind.wrap_i64];omega
   refine w_cn (by simp [Nat.blt];omega) (w_cn (decide_eq_true (by omega)) (w_nx ?_))
   show(_/\_/\_)/\(_:Nat)<_
   refine⟨⟨by rw[ew];omega,by rw[ew];omega,by rw[ew,List.length_append];simp only[List.length_cons,List.length_nil];omega⟩,by show(w.length-IntKind.i64.wrap (z.1+1)).toNat<(w.length-z.1).toNat;rw[ew];omega⟩
 . have hb:=of_decide_eq_false hb
   show(bytesOf z.2).length=_
   rw[Qhg];omega
theorem Zhc{P:Nat}{m:List Int}(h:Q1 P m)(f:Int):(Q63 m f).w (λr=>0<=f->f<P->r.1.length=128):=by
 have hl:=h.len
 have h2:=h.p2
 unfold Q63
 refine w_lv λx0 hx0=>w_br (λhb=>λf0 f1=> ?_) (λhb=> ?_)
 . have hp:=Q3i h
   have hb:x0=false:=by simpa using hb
   rw[hb]at hx0
   simp only[Q59,Q80,Tree.m,letv,hp]at hx0
   rw[decide_eq_true f0]at hx0
   exact absurd f1 (of_decide_eq_false hx0.symm)
 . have hb:x0=true:=by simpa using hb
   obtain⟨f0,f1⟩:=qU h f (hx0.symm.trans hb)
   have e1:IntKind.i64.wrap (f*32)=f*32:=by rw[IntKind.wrap_i64];omega
   have e2:IntKind.i64.wrap (IntKind.i64.wrap (f*32)+32)=f*32+32:=by rw[IntKind.wrap_i64,IntKind.wrap_i64];omega
   have hlen:(List.take (Int.toNat (IntKind.i64.wrap (IntKind.i64.wrap (f*32)+32))-Int.toNat (IntKind.i64.wrap (f*32))) (List.drop (Int.toNat (IntKind.i64.wrap (f*32))) m)).length=32:=by
     rw[e2,e1,List.length_take,List.length_drop];omega
   refine w_cn (by rw[e2,e1];simp [Nat.blt];omega) ?_
   refine w_an (by show List.length _<=1000000000000;rw[hlen];decide) (w_lv λx1 h1=> ?_)
   have h1:x1.length=4*(List.take (Int.toNat (IntKind.i64.wrap (IntKind.i64.wrap (f*32)+32))-Int.toNat (IntKind.i64.wrap (f*32))) (List.drop (Int.toNat (IntKind.i64.wrap (f*32))) m)).length:=by rw[h1];exact(Tree.pp (zaz _ (Nat.le_of_eq hlen))).2
   intro _ _
   show x1.length=128
   rw[h1,hlen]
theorem Zic{f:Int}(hf:U f){P:Nat}(hP:P<=32)(h:decide (IntKind.u64.wrap f<IntKind.u64.wrap (P:Int))=true):0<=f/\f<P:=by
 have h:=of_decide_eq_true h
 obtain⟨h1,h2⟩:=hf
 rw[IntKind.wrap_u64,IntKind.wrap_u64,Int.emod_eq_of_lt h1 (by omega),Int.emod_eq_of_lt (by omega) (by omega)]at h
 exact⟨h1,h⟩
theorem Zm4{P:Nat}{m:List Int}(h:Q1 P m){d:Q0e}(hd:Q83 d)(e:Q0f):(Q70 d m e).w (λr=>Q83 r.1/\Q1 P r.2.1/\out d.B3 m r.2.1/\(r.2.2=false->r.2.1=m)/\(∀p,Q1i d p=true->Q1i r.1 p=true)):=by
 have hcl:Q03 m=m:=rfl
 have keep: ∀b:Bool,Q83 d/\Q1 P m/\out d.B3 m m/\(b=false->m=m)/\(∀p,Q1i d p=true->Q1i d p=true):=λb=>⟨hd,h,Qpb _ _,λ_=>rfl,λ_ h=>h⟩
 have blk: ∀{p:Int},Q1i d p=true->decide (d.Blocks>64)=false:=fun{p} hm=>by
   cases hb:decide (d.Blocks>64)
   . rfl
   . have:Q1i d p=false:=by simp only[Q1i,Q61,Tree.m];rw[hb];rfl
     rw[this]at hm;cases hm
 have m2: ∀p,Q1i d p=true->Q1i {Blocks:=d.Blocks,B9:=d.B9,B4:=d.B4,C1:=2,D8:=0,B6:=0,B3:=0,C3:=[]} p=true:=λp hm=>by
   simp only[Q1i,Q61,Tree.m];rw[blk hm];rfl
 have m3: ∀p,Q1i d p=true->Q1i {Blocks:=d.Blocks,B9:=d.B9,B4:=d.B4,C1:=3,D8:=0,B6:=0,B3:=0,C3:=[]} p=true:=λp hm=>by
   simp only[Q1i,Q61,Tree.m];rw[blk hm];rfl
 unfold Q70
 refine w_br (λ_=>w_an (Q8n h) (w_lv λx hx=>by rw[hcl]at hx;subst hx;exact keep _)) λ_=>w_br (λ_=>w_an (Q8n h) (w_lv λx hx=>by rw[hcl]at hx;subst hx;exact keep _)) λ_=>w_br (λ_=>w_an (Q8n h) (w_lv λx hx=>by rw[hcl]at hx;subst hx;exact keep _)) λ_=>w_an (Q8n h) (w_lv λx3 hx3=> ?_)
 rw[hcl]at hx3;subst hx3
 have fin: ∀{m':List Int},Q1 P m'->out d.B3 x3 m'->(Tree.br (e.N==1) (.lf (({Blocks:=d.Blocks,B9:=d.B9,B4:=d.B4,C1:=2,D8:=0,B6:=0,B3:=0,C3:=[]}:Q0e),m',true)) (.lf (({Blocks:=d.Blocks,B9:=d.B9,B4:=d.B4,C1:=3,D8:=0,B6:=0,B3:=0,C3:=[]}:Q0e),m',true))).w (λr=>Q83 r.1/\Q1 P r.2.1/\out d.B3 x3 r.2.1/\(r.2.2=false->r.2.1=x3)/\(∀p,Q1i d p=true->Q1i r.1 p=true)):=λhm ho=>
   w_br (λ_=>⟨⟨hd.block,hd.frame,U_0,U_0⟩,hm,ho,(λh=>by cases h),m2⟩) (λ_=>⟨⟨hd.block,hd.frame,U_0,U_0⟩,hm,ho,(λh=>by cases h),m3⟩)
 have nod:(Tree.br (!decide (e.D0=[])) (.lf (d,x3,false)) (Tree.br (e.N==1) (.lf (({Blocks:=d.Blocks,B9:=d.B9,B4:=d.B4,C1:=2,D8:=0,B6:=0,B3:=0,C3:=[]}:Q0e),x3,true)) (.lf (({Blocks:=d.Blocks,B9:=d.B9,B4:=d.B4,C1:=3,D8:=0,B6:=0,B3:=0,C3:=[]}:Q0e),x3,true)))).w (λr=>Q83 r.1/\Q1 P r.2.1/\out d.B3 x3 r.2.1/\(r.2.2=false->r.2.1=x3)/\(∀p,Q1i d p=true->Q1i r.1 p=true)):=
   w_br (λ_=>keep _) (λ_=>fin h (Qpb _ _))
 refine w_br (λ_=>w_br (λ_=>w_lv λx4 hx4=>w_br (λ_=>keep _) λhb=> ?_) (λ_=>nod)) (λ_=>nod)
 have hp:=Q3i h
 have hb:x4=true:=by simpa using hb
 rw[hb]at hx4
 simp only[Q9g,Qcx,Tree.m,letv,hp]at hx4
 obtain⟨f0,f1⟩:=Zic hd.opFrame h.p2 hx4.symm
 have ef:IntKind.i64.wrap d.B3=d.B3:=by have:=h.p2;rw[IntKind.wrap_i64];omega
 refine Q0d (Z0t h _ _) λx5 ⟨h5,o5,k5⟩=> ?_
 rw[ef]at o5
 exact w_br (λhf=>⟨hd,h5,o5,λ_=>k5 (by simpa using hf),λ_ h=>h⟩) (λ_=>fin h5 o5)
theorem ye{P:Nat}{m:List Int}(h:Q1 P m){n:Q0q}(hn:Qii n)(frame:List UInt8):(Qa1 n m frame).w (λr=>Qii r.1/\Q1 P r.2.1/\out n.C2 m r.2.1/\(r.2.2=false->r.2.1=m)/\(∀p,Q5w n p=true->Q5w r.1 p=true)):=by
 have hcl:Q03 m=m:=rfl
 have keep:Qii n/\Q1 P m/\out n.C2 m m/\(false=false->m=m)/\(∀p,Q5w n p=true->Q5w n p=true):=⟨hn,h,Qpb _ _,λ_=>rfl,λ_ h=>h⟩
 unfold Qa1
 refine w_br (λ_=>w_an (Q8n h) (w_lv λx hx=>by rw[hcl]at hx;subst hx;exact keep)) λhpo=>w_br (λ_=>w_an (Q8n h) (w_lv λx hx=>by rw[hcl]at hx;subst hx;exact keep)) λl1=>w_br (λ_=>w_an (Q8n h) (w_lv λx hx=>by rw[hcl]at hx;subst hx;exact keep)) λl2=>w_lv λx3 hx3=>w_br (λ_=>w_an (Q8n h) (w_lv λx hx=>by rw[hcl]at hx;subst hx;exact keep)) λhb=> ?_
 have l1:=of_decide_eq_false l1
 have l2:=of_decide_eq_false l2
 have hp:=Q3i h
 have hb:x3=true:=by simpa using hb
 rw[hb]at hx3
 simp only[Q9z,Qer,Tree.m,letv,hp]at hx3
 obtain⟨f0,f1⟩:=Zic hn.buffer h.p2 hx3.symm
 have ef:IntKind.i64.wrap n.C2=n.C2:=by have:=h.p2;rw[IntKind.wrap_i64];omega
 refine Q0d (Zhc h _) λx5 h5=> ?_
 rw[ef]at h5
 have h5:=h5 f0 f1
 have hmax:(maxLen:Nat)=9223372036854775807:=rfl
 refine w_cn (decide_eq_true (by omega)) (w_cn (decide_eq_true (by simp only[List.length_take,List.length_drop,hmax];omega)) (Q0d (Z0t h _ _) λx6 ⟨h6,o6,_⟩=> ?_))
 rw[ef]at o6
 have hg:IntKind.u32.wrap (frame.length:Int)=frame.length:=by rw[IntKind.wrap_u32];omega
 refine⟨⟨hn.frame,hn.len,U_0,Q0r _⟩,h6,o6,(λh=>by cases h),λp _=> ?_⟩
 simp only[Q5w,Ql5,Tree.m]
 rw[hg,decide_eq_true (show(frame.length:Int)>=1 by omega),decide_eq_true (show(frame.length:Int)<=128 by omega)]
 rfl
theorem zaa(c:Q0b)(b:Int):(Qao c b).w (λr=>Q2c c=true->Q2c r.1=true):=by
 have hmax:(maxLen:Nat)=9223372036854775807:=rfl
 unfold Qao
 refine w_br (λ_=>λh=>h) (λhb=> ?_)
 have hb:=of_decide_eq_false hb
 refine w_cn (decide_eq_true (by rw[hmax];omega)) ?_
 intro _
 show decide (((c.D3++[_]).length:Int)<=16)=true
 rw[List.length_append,List.length_singleton]
 exact decide_eq_true (by omega)
theorem vF(t:Q0g)(h:Q4d t=true):Q4d (Qk8 t).1=true:=by
 simp only[Qk8,Qnh,Tree.m]
 cases ha:t.D2
 . exact h
 . rfl
theorem qf(m:Q00):Q0x m=(Q2c m.A3&&(Q4d m.A7&&(Q1i m.B0 (Q0u m.Mem)&&(Q5w m.C0 (Q0u m.Mem)&&Q2m m.A2 (Q0u m.Mem))))):=by
 simp only[Q0x,Q1q,Tree.m,letv]
 cases Q2c m.A3<;>cases Q4d m.A7<;>cases Q1i m.B0 (Q0u m.Mem)<;>cases Q5w m.C0 (Q0u m.Mem)<;>rfl
theorem xaz{b c:Q07}(h:c.C5=b.C5)(p:Int):Q2m c p=Q2m b p:=by
 simp only[Q2m,Q3z,Tree.m,h]
theorem cnd{a x y:Bool}(h:x=true->y=true):(bif a then false else x)=true->(bif a then false else y)=true:=by cases a<;>simp_all
def chain(b1 b2 b3 b4 b5 b6 b7 w h dev:Bool):Bool:=bif b1 then false else bif b2 then false else bif b3 then false else bif b4 then false else bif b5 then false else bif b6 then false else bif b7 then false else bif w then(bif h then false else dev) else dev
theorem Zlr{b1 b2 b3 b4 b5 b6 b7 w h d d':Bool}(hd:d=true->d'=true):chain b1 b2 b3 b4 b5 b6 b7 w h d=true->chain b1 b2 b3 b4 b5 b6 b7 w h d'=true:=by
 refine cnd (cnd (cnd (cnd (cnd (cnd (cnd ?_))))))
 cases w
 . exact hd
 . cases h
   . exact hd
   . exact λh=>h
def mayC(p:Int)(c:Q04)(ct:Int)(w h dev:Bool):Bool:=chain (p==0) (c.X.a0 !=0) (decide (c.B5.a0>31)) (decide (c.B5.a7>31)) (decide (c.B5.a6>255)) (Int.tmod c.B5.a1 4 !=0) (decide (ct>1152921504606846976)) w h dev
theorem xf{p:Int}{c:Q04}{ct:Int}{w h d d':Bool}(hd:d=true->d'=true)(g:mayC p c ct w h d=true):mayC p c ct w h d'=true:=Zlr hd g
theorem xU(m:Q00):Q14 m=mayC (Q0u m.Mem) m.B2 m.A1 m.A4 m.A6 (Q0x m):=rfl
theorem Qtg{m n:Q00}(hp:Q0u n.Mem=Q0u m.Mem)(hcpu:n.B2=m.B2)(hct:n.A1=m.A1)(hw:n.A4=m.A4)(hh:n.A6=m.A6)
   (hc:Q2c m.A3=true->Q2c n.A3=true) (ht:Q4d m.A7=true->Q4d n.A7=true) (hd: ∀p,Q1i m.B0 p=true->Q1i n.B0 p=true) (hn: ∀p,Q5w m.C0 p=true->Q5w n.C0 p=true) (hb:n.A2.C5=m.A2.C5) (h:Q14 m=true):Q14 n=true:=by
 have dev:Q0x m=true->Q0x n=true:=λh=>by
   rw[qf]at h⊢
   simp only[Bool.and_eq_true]at h⊢
   rw[hp,xaz hb]
   exact⟨hc h.1,ht h.2.1,hd _ h.2.2.1,hn _ h.2.2.2.1,h.2.2.2.2⟩
 rw[xU]at h⊢
 rw[hp,hcpu,hct,hw,hh]
 exact xf dev h
section
variable {P:Nat} {m:List Int} (h:Q1 P m)
include h
theorem dpage{f:Int}(hf:U f){b:Bool}(hx:b=Q9g m f)(hb:b=true):0<=f/\f<P:=by
 have hp:=Q3i h
 rw[hb]at hx
 simp only[Q9g,Qcx,Tree.m,letv,hp]at hx
 exact Zic hf h.p2 hx.symm
theorem npage{f:Int}(hf:U f){b:Bool}(hx:b=Q9z m f)(hb:b=true):0<=f/\f<P:=by
 have hp:=Q3i h
 rw[hb]at hx
 simp only[Q9z,Qer,Tree.m,letv,hp]at hx
 exact Zic hf h.p2 hx.symm
def keepD(P:Nat)(d d':Q0e):Prop:=Q83 d'/\(Q1i d P=true->Q1i d' P=true)
theorem zf{d:Q0e}(hd:Q83 d){cmd:Int}(hc:cmd=1\/cmd=2)(at0:Int):(Qbl d m cmd at0).w (λr=>keepD P d r.1/\r.2.length<=1):=by
 have h2:=h.p2
 have st3:(d.C1 !=0)=false->keepD P d {Blocks:=d.Blocks,B9:=d.B9,B4:=d.B4,C1:=3,D8:=d.D8,B6:=d.B6,B3:=d.B3,C3:=d.C3}:=λhs=>by
   have hs:d.C1=0:=by simpa using hs
   refine⟨⟨hd.block,hd.frame,hd.opBlock,hd.opFrame⟩,λhm=> ?_⟩
   simp only[Q1i,Q61,Tree.m,hs]at hm⊢
   exact hm
 have blk:Q1i d P=true->decide (d.Blocks>64)=false:=λhm=>by
   cases hb:decide (d.Blocks>64)
   . rfl
   . have:Q1i d P=false:=by simp only[Q1i,Q61,Tree.m];rw[hb];rfl
     rw[this]at hm;cases hm
 unfold Qbl
 refine w_br (λ_=>⟨⟨hd,λh=>h⟩,Nat.zero_le _⟩) λhs=>w_br (λ_=>⟨st3 hs,Nat.zero_le _⟩) λhb=>w_lv λx0 hx=>w_br (λ_=>⟨st3 hs,Nat.zero_le _⟩) λhp=> ?_
 have hb:=of_decide_eq_false hb
 obtain⟨f0,f1⟩:=dpage h hd.frame hx (by simpa using hp)
 have ef:IntKind.i64.wrap d.B4=d.B4:=by rw[IntKind.wrap_i64];omega
 have e1:decide (d.B9<d.Blocks)=true:=decide_eq_true (by omega)
 have e2:decide (IntKind.i64.wrap d.B4<(P:Int))=true:=by rw[ef];exact decide_eq_true f1
 refine w_br (λhcm=>Q0d (Zhc h _) λx1 h1=> ?_) (λhcm=> ?_)
 . rw[ef]at h1
   have h1:=h1 f0 f1
   have hcm:=eq_of_beq hcm
   subst hcm
   refine w_lv λx2 _=>⟨⟨⟨hd.block,hd.frame,hd.block,hd.frame⟩,λhm=> ?_⟩,Nat.le_refl _⟩
   simp only[Q1i,Q61,Q9l,Q6z,Tree.m,letv,blk hm,e1,e2,h1]
   rfl
 . have hc:cmd=1:=by
     rcases hc with h|h
     . exact h
     . rw[h]at hcm;exact absurd hcm (by decide)
   subst hc
   refine w_lv λx2 _=>⟨⟨⟨hd.block,hd.frame,hd.block,hd.frame⟩,λhm=> ?_⟩,Nat.le_refl _⟩
   simp only[Q1i,Q61,Q9l,Q6z,Tree.m,letv,blk hm,e1,e2]
   rfl
theorem xaa{d:Q0e}(hd:Q83 d)(port:Int){v:Int}(hv:U v)(at0:Int):(Qgt d m port v at0).w (λr=>keepD P d r.1/\r.2.length<=1):=by
 have keep:keepD P d d:=⟨hd,λh=>h⟩
 have e1: ∀{k:Int},(v==k)=true->IntKind.i64.wrap v=k:=λhk=>by
   have:=eq_of_beq hk
   obtain⟨a,b⟩:=hv
   rw[IntKind.wrap_i64];omega
 unfold Qgt
 refine w_br (λ_=>⟨⟨⟨hv,hd.frame,hd.opBlock,hd.opFrame⟩,λh=>h⟩,Nat.zero_le _⟩) λ_=>w_br (λ_=>⟨⟨⟨hd.block,hv,hd.opBlock,hd.opFrame⟩,λh=>h⟩,Nat.zero_le _⟩) λ_=>w_br (λ_=>w_br (λhk=>Q0d (zf h hd (.inl (e1 hk)) _) λx hx=>hx) λ_=>w_br (λhk=>Q0d (zf h hd (.inr (e1 hk)) _) λx hx=>hx) λ_=>w_br (λ_=>w_lv λx hx=>w_br (λhb=> ?_) (λ_=>⟨keep,Nat.zero_le _⟩)) (λ_=>⟨keep,Nat.zero_le _⟩)) (λ_=>⟨keep,Nat.zero_le _⟩)
 refine⟨⟨⟨hd.block,hd.frame,hd.opBlock,hd.opFrame⟩,λhm=> ?_⟩,Nat.zero_le _⟩
 rw[hb]at hx
 simp only[Q9o,Qjs,Tree.m]at hx
 cases h2:d.C1==2
 . rw[h2]at hx
   have h3:d.C1=3:=eq_of_beq hx.symm
   simp only[Q1i,Q61,Tree.m,h3]at hm⊢
   exact hm
 . have h3:d.C1=2:=eq_of_beq h2
   simp only[Q1i,Q61,Tree.m,h3]at hm⊢
   exact hm
def keepN(P:Nat)(n n':Q0q):Prop:=Qii n'/\(Q5w n P=true->Q5w n' P=true)
theorem qaA{n:Q0q}(hn:Qii n)(at0:Int):(Qgs n m at0).w (λr=>r.length<=1):=by
 have h2:=h.p2
 unfold Qgs
 refine w_br (λ_=>Nat.zero_le _) λl1=>w_br (λ_=>Nat.zero_le _) λl2=>w_lv λx0 hx=>w_br (λ_=>Nat.zero_le _) λhp=>Q0d (Zhc h _) λx1 h1=> ?_
 have l1:=of_decide_eq_false l1
 have l2:=of_decide_eq_false l2
 obtain⟨f0,f1⟩:=npage h hn.frame hx (by simpa using hp)
 have ef:IntKind.i64.wrap n.B4=n.B4:=by rw[IntKind.wrap_i64];omega
 rw[ef]at h1
 have h1:=h1 f0 f1
 exact w_cn (decide_eq_true (by omega)) (Nat.le_refl _)
theorem zaA{n:Q0q}(hn:Qii n)(port:Int){v:Int}(hv:U v)(at0:Int):(Ql0 n m port v at0).w (λr=>keepN P n r.1/\r.2.length<=1):=by
 have h2:=h.p2
 have keep:keepN P n n:=⟨hn,λh=>h⟩
 unfold Ql0
 refine w_br (λ_=>⟨⟨⟨hv,hn.len,hn.buffer,hn.got⟩,λh=>h⟩,Nat.zero_le _⟩) λ_=>w_br (λ_=>⟨⟨⟨hn.frame,hv,hn.buffer,hn.got⟩,λh=>h⟩,Nat.zero_le _⟩) λ_=>w_br (λ_=>w_br (λ_=>Q0d (qaA h hn _) λx hx=>⟨keep,hx⟩) λ_=>w_br (λ_=>w_lv λx hx=>w_br (λhb=>w_br (λnp=>w_br (λnr=> ?_) (λ_=>⟨keep,Nat.zero_le _⟩)) (λ_=>⟨keep,Nat.zero_le _⟩)) (λ_=>⟨keep,Nat.zero_le _⟩)) λ_=>w_br (λ_=> ?_) (λ_=>⟨keep,Nat.zero_le _⟩)) (λ_=>⟨keep,Nat.zero_le _⟩)
 . obtain⟨f0,f1⟩:=npage h hn.frame hx hb
   have np:n.C7=false:=by simpa using np
   have nr:n.B8=false:=by simpa using nr
   have e2:decide (IntKind.i64.wrap n.B4>=(P:Int))=false:=decide_eq_false (by rw[IntKind.wrap_i64];omega)
   refine⟨⟨⟨hn.frame,hn.len,hn.frame,hn.got⟩,λhm=> ?_⟩,Nat.zero_le _⟩
   simp only[Q5w,Ql5,Tree.m,np,nr,e2]at hm⊢
   cases hb:(n.C2 !=0)
   . rw[hb]at hm;exact hm
   . rw[hb]at hm;cases hm
 . refine⟨⟨⟨hn.frame,hn.len,hn.buffer,U_0⟩,λhm=> ?_⟩,Nat.zero_le _⟩
   simp only[Q5w,Ql5,Tree.m]at hm⊢
   revert hm
   cases n.C7<;>cases n.B8<;>cases decide (IntKind.i64.wrap n.C2>=(P:Int))<;>cases(n.C2 !=0)<;>simp
end
theorem qab(t:Q0g)(v:Int):Q4d (Qkg t v)=true:=by
 simp only[Qkg,Qm7,Q4d,Qls,Tree.m]
 cases h:(v !=0)
 . have:v=0:=by simpa using h
   subst this;rfl
 . rfl
theorem Qqm{a:Int}(k:Nat)(hk:k<=32):ishr .u32 a k=a/2^k:=by
 unfold ishr
 have e:min (k:Int).toNat IntKind.u32.bits=k:=by show min (k:Int).toNat 32=k;omega
 have hp:(0:Int)<2^k:=Int.pow_pos (by decide)
 rw[e,Int.fdiv_eq_ediv_of_nonneg _ (Int.le_of_lt hp)]
def Zmg(x:Int)(n:Nat):Prop:=x<2^n/\(n=0\/(2:Int)^(n-1)<=x)
theorem Zae{x q:Int}{n k:Nat}(hq:q=x/2^k)(h0:0<q)(h:Zmg q n):Zmg x (n+k):=by
 have hp:(0:Int)<2^k:=Int.pow_pos (by decide)
 obtain⟨h1,h2⟩:=h
 have hn:n≠0:=λe=>by subst e;simp at h1;omega
 refine⟨?_, .inr ?_⟩
 . rw[Int.pow_add]
   have:x<(x/2^k+1)*2^k:=Int.lt_ediv_add_one_mul_self x hp
   have h3:(x/2^k+1)*2^k<=2^n*2^k:=Int.mul_le_mul_of_nonneg_right (by omega) (Int.le_of_lt hp)
   omega
 . have h2:=h2.resolve_left hn
   have e:n+k-1=(n-1)+k:=by omega
   rw[e,Int.pow_add]
   have h3:(2:Int)^(n-1)*2^k<=q*2^k:=Int.mul_le_mul_of_nonneg_right h2 (Int.le_of_lt hp)
   have h4:q*2^k<=x:=by rw[hq];exact Int.ediv_mul_le x (Int.ne_of_gt hp)
   omega
theorem qG{x:Int}{n p:Nat}(h:Zmg x n)(hx:x<2^p):n<=p:=by
  obtain⟨h1,h2⟩:=h
  rcases h2 with h2|h2
  . omega
  . rcases Nat.lt_or_ge p n with hlt|hge
    . have:(2:Int)^p<=2^(n-1):=by
        have:=Nat.pow_le_pow_right (show 0<2 by omega) (show p<=n-1 by omega)
        exact_mod_cast this
      omega
    . exact hge
theorem Zh7{x:Int}{n p:Nat}(h:Zmg x n)(hn:n<=p):x<2^p:=by
 have:(2:Int)^n<=2^p:=by
   have:=Nat.pow_le_pow_right (show 0<2 by omega) hn
   exact_mod_cast this
 exact Int.lt_of_lt_of_le h.1 this
def lenChk(i:Nat):Bool:=match(Q1l (i:Int)) with
 | .ofNat n=>decide ((i:Int)<2^n)&&(Nat.beq n 0||decide ((2:Int)^(n-1)<=i))&&decide (n<=8)
 |_=>false
theorem Qs0{q:Int}(h0:0<=q)(h1:q<256): ∃n:Nat,Q1l q=n/\Zmg q n/\n<=8:=by
 have all:List.all (List.range 256) lenChk=true:=by kernel_rfl
 have:=List.all_eq_true.1 all q.toNat (List.mem_range.2 (by omega))
 have hq:((q.toNat:Nat):Int)=q:=by omega
 unfold lenChk at this
 rw[hq]at this
 split at this
 . rename_i n hn
   simp only[Bool.and_eq_true,Bool.or_eq_true,decide_eq_true_eq]at this
   refine⟨n,hn,⟨this.1.1,?_⟩,this.2⟩
   rcases this.1.2 with h|h
   . exact .inl (Nat.eq_of_beq_eq_true h)
   . exact .inr h
 . cases this
theorem xaA{x:Int}(h:U x)(hx:16777216<=x):Q1l x=24+Q1l (x/16777216):=by
 obtain⟨h0,h1⟩:=h
 have s16:ishr .u32 x 16=x/65536:=Qqm 16 (by omega)
 have s24:ishr .u32 (x/65536) 8=x/16777216:=by rw[show((8:Int))=((8:Nat):Int) from rfl,Qqm 8 (by omega)];omega
 have d1:decide (x>=65536)=true:=decide_eq_true (by omega)
 have d2:decide (x/65536>=256)=true:=decide_eq_true (by omega)
 have d3:decide (x/16777216>=65536)=false:=decide_eq_false (by omega)
 have d4:decide (x/16777216>=256)=false:=decide_eq_false (by omega)
 have u:IntKind.u8.wrap (x/16777216)=x/16777216:=by rw[IntKind.wrap_u8];omega
 simp only[Q1l,Q1u,Tree.m,s16,s24,d1,d2,d3,d4,u,cond_true,cond_false]
 generalize(List.getD _ (Int.toNat (x/16777216)) (0:UInt8))=b
 have hb:=UInt8.toNat_lt b
 rw[IntKind.wrap_i64,IntKind.wrap_i64,IntKind.wrap_i64,IntKind.wrap_i64]
 omega
theorem qaB{x:Int}(h0:65536<=x)(h1:x<16777216):Q1l x=16+Q1l (x/65536):=by
 have s16:ishr .u32 x 16=x/65536:=Qqm 16 (by omega)
 have d1:decide (x>=65536)=true:=decide_eq_true (by omega)
 have d2:decide (x/65536>=256)=false:=decide_eq_false (by omega)
 have d3:decide (x/65536>=65536)=false:=decide_eq_false (by omega)
 have u:IntKind.u8.wrap (x/65536)=x/65536:=by rw[IntKind.wrap_u8];omega
 simp only[Q1l,Q1u,Tree.m,s16,d1,d2,d3,u,cond_true,cond_false]
 generalize(List.getD _ (Int.toNat (x/65536)) (0:UInt8))=b
 have hb:=UInt8.toNat_lt b
 rw[IntKind.wrap_i64,IntKind.wrap_i64,IntKind.wrap_i64]
 omega
theorem len_8{x:Int}(h0:256<=x)(h1:x<65536):Q1l x=8+Q1l (x/256):=by
 have s8:ishr .u32 x 8=x/256:=Qqm 8 (by omega)
 have d1:decide (x>=65536)=false:=decide_eq_false (by omega)
 have d2:decide (x>=256)=true:=decide_eq_true (by omega)
 have d3:decide (x/256>=65536)=false:=decide_eq_false (by omega)
 have d4:decide (x/256>=256)=false:=decide_eq_false (by omega)
 have u:IntKind.u8.wrap (x/256)=x/256:=by rw[IntKind.wrap_u8];omega
 simp only[Q1l,Q1u,Tree.m,s8,d1,d2,d3,d4,u,cond_true,cond_false]
 generalize(List.getD _ (Int.toNat (x/256)) (0:UInt8))=b
 have hb:=UInt8.toNat_lt b
 rw[IntKind.wrap_i64,IntKind.wrap_i64,IntKind.wrap_i64,IntKind.wrap_i64]
 omega
theorem Zl3{x:Int}(h:U x): ∃n:Nat,Q1l x=n/\Zmg x n:=by
  obtain⟨h0,h1⟩:=h
  rcases Int.lt_or_le x 256 with a|a
  . obtain⟨n,e,l,_⟩:=Qs0 h0 a
    exact⟨n,e,l⟩
  . rcases Int.lt_or_le x 65536 with b|b
    . obtain⟨n,e,l,_⟩:=Qs0 (q:=x/256) (by omega) (by omega)
      exact⟨n+8,by rw[len_8 a b,e];omega,Zae (k:=8) rfl (by omega) l⟩
    . rcases Int.lt_or_le x 16777216 with c|c
      . obtain⟨n,e,l,_⟩:=Qs0 (q:=x/65536) (by omega) (by omega)
        exact⟨n+16,by rw[qaB b c,e];omega,Zae (k:=16) rfl (by omega) l⟩
      . obtain⟨n,e,l,_⟩:=Qs0 (q:=x/16777216) (by omega) (by omega)
        exact⟨n+24,by rw[xaA ⟨h0,h1⟩ c,e];omega,Zae (k:=24) rfl (by omega) l⟩
theorem Z18{b:Q07}(h:U b.C5){P:Nat}:Q2m b P=true↔b.C5<2^P:=by
 obtain⟨n,e,l⟩:=Zl3 h
 have hp:(if(0:Int)>(P:Int) then(0:Int) else P)=P:=by rw[if_neg (by omega)]
 simp only[Q2m,Q3z,Tree.m,letv,e,hp,decide_eq_true_eq]
 constructor
 . intro h;exact Zh7 l (by omega)
 . intro h;have:=qG l h;omega
theorem Z7j{a:Int}(h:U a){P:Nat}(h1:a<2^P):(BitVec.ofInt 32 a).toNat<2^P:=by
 obtain⟨a0,a1⟩:=h
 rw[BitVec.toNat_ofInt,Int.emod_eq_of_lt a0 (by omega)]
 have:((2^P:Nat):Int)=(2:Int)^P:=by exact_mod_cast rfl
 omega
theorem or_lt{a b:Int}(ha:U a)(hb:U b){P:Nat}(hP:P<=32)(h1:a<2^P)(h2:b<2^P):ior .u32 a b<2^P:=by
 have e:(BitVec.ofInt 32 a|||BitVec.ofInt 32 b).toNat<2^P:=by
   rw[BitVec.toNat_or]
   exact Nat.or_lt_two_pow (Z7j ha h1) (Z7j hb h2)
 have hc:((2^P:Nat):Int)=(2:Int)^P:=by exact_mod_cast rfl
 have l:=(BitVec.ofInt 32 a|||BitVec.ofInt 32 b).isLt
 show IntKind.wrap .u32 ((BitVec.ofInt 32 a|||BitVec.ofInt 32 b).toNat:Int)<2^P
 rw[IntKind.wrap_u32]
 omega
theorem zab{a b:Int}(ha:U a){P:Nat}(h1:a<2^P):Qg7 .u32 a b<2^P:=by
 have e:(BitVec.ofInt 32 a&&&~~~BitVec.ofInt 32 b).toNat<2^P:=by
   rw[BitVec.toNat_and]
   exact Nat.lt_of_le_of_lt Nat.and_le_left (Z7j ha h1)
 have hc:((2^P:Nat):Int)=(2:Int)^P:=by exact_mod_cast rfl
 have l:=(BitVec.ofInt 32 a&&&~~~BitVec.ofInt 32 b).isLt
 show IntKind.wrap .u32 ((BitVec.ofInt 32 a&&&~~~BitVec.ofInt 32 b).toNat:Int)<2^P
 rw[IntKind.wrap_u32]
 omega
theorem yf{v:Int}(h0:0<=v)(h1:v<32):ishl .u32 1 v=2^v.toNat:=by
 have e:min v.toNat IntKind.u32.bits=v.toNat:=by show min v.toNat 32=v.toNat;omega
 obtain⟨n,rfl⟩: ∃n:Nat,v=n:=⟨v.toNat,by omega⟩
 have hn:n<32:=by omega
 have hlt:(2:Nat)^n<4294967296:=by
   have:=Nat.pow_lt_pow_right (show 1<2 by omega) hn
   simpa using this
 have hc:((2^n:Nat):Int)=(2:Int)^n:=by exact_mod_cast rfl
 unfold ishl
 rw[e,IntKind.wrap_u32,Int.one_mul,Int.toNat_natCast,<-hc]
 clear hc e
 generalize(2:Nat)^n=z at*
 omega
def keepB(P:Nat)(b b':Q07):Prop:=okB b'/\(Q2m b P=true->Q2m b' P=true)
theorem Zle{P:Nat}{m:List Int}(h:Q1 P m){b:Q07}(hb:okB b)(port:Int){v:Int}(hv:U v):(Q4 b m port v).w (λr=>keepB P b r.1/\Q1 P r.2):=by
 have hcl:Q03 m=m:=rfl
 have h2:=h.p2
 have hp:=Q3i h
 have keep:(Tree.an (Q08 m) (.lv (Q03 m) λx=> .lf (b,x))).w (λr=>keepB P b r.1/\Q1 P r.2):=w_an (Q8n h) (w_lv λx hx=>by rw[hcl]at hx;subst hx;exact⟨⟨hb,λh=>h⟩,h⟩)
 unfold Q4
 refine w_br (λ_=>keep) λhlt=>w_cn (decide_eq_true hv.1) (w_br (λ_=>w_lv λx1 hx=>w_br (λhpg=>w_br (λ_=>w_an ⟨by decide,by decide,by decide⟩ (w_lv λx2 _=>Q0d (Z0t h _ _) λx3 ⟨h3,_⟩=> ?_)) (λ_=>keep)) (λ_=>keep)) (λ_=>w_br (λ_=>w_an (Q8n h) (w_lv λx hx=> ?_)) (λ_=>keep)))
 . have hlt:=of_decide_eq_false hlt
   have hpg:=of_decide_eq_true hpg
   rw[hx,hp]at hpg
   obtain⟨v0,v1⟩:=hv
   have ev:IntKind.i64.wrap v=v:=by rw[IntKind.wrap_i64];omega
   rw[ev]at hpg
   refine⟨⟨⟨hb.1,Q0r _⟩,λhm=> ?_⟩,h3⟩
   rw[Z18 hb.2]at hm
   rw[Z18 (Q0r _)]
   have hs:ishl .u32 1 v<2^P:=by
     rw[yf v0 (by omega)]
     have:=Nat.pow_lt_pow_right (show 1<2 by omega) (show v.toNat<P by omega)
     exact_mod_cast this
   exact or_lt hb.2 (Q0r _) h2 hm hs
 . rw[hcl]at hx;subst hx
   refine⟨⟨⟨hb.1,Q0r _⟩,λhm=> ?_⟩,h⟩
   rw[Z18 hb.2]at hm
   rw[Z18 (Q0r _)]
   exact zab hb.2 hm
structure kept(P:Nat)(m n:Q00):Prop where
 ok:okS P n
 dev:Q0x m=true->Q0x n=true
 cpu:n.B2=m.B2
 cnt:n.A1=m.A1
 wait:n.A4=m.A4
 halt:n.A6=m.A6
theorem Zcb{P:Nat}{m:Q00}(h:okS P m):kept P m m:=⟨h,λh=>h,rfl,rfl,rfl,rfl⟩
theorem Qp9{P:Nat}{m n:Q00}(hm:Q1 P m.Mem)(hn:Q1 P n.Mem)(hc:Q2c m.A3=true->Q2c n.A3=true)(ht:Q4d m.A7=true->Q4d n.A7=true)
   (hd:Q1i m.B0 P=true->Q1i n.B0 P=true) (hk:Q5w m.C0 P=true->Q5w n.C0 P=true) (hb:Q2m m.A2 P=true->Q2m n.A2 P=true) (h:Q0x m=true):Q0x n=true:=by
 rw[qf]at h⊢
 rw[Q3i hm]at h
 rw[Q3i hn]
 simp only[Bool.and_eq_true]at h⊢
 exact⟨hc h.1,ht h.2.1,hd h.2.2.1,hk h.2.2.2.1,hb h.2.2.2.2⟩
theorem Zf5{P:Nat}{m:Q00}(h:okS P m)(port:Int){v:Int}(hv:U v)(at0:Int):(Q3q m port v at0).w (λr=>kept P m r.1/\r.2.length<=1):=by
 have k:=Zcb h
 obtain⟨h1,h2,h3,h4,h5,h6⟩:=h
 have id: ∀{p:Prop},p->p:=λh=>h
 have D: ∀(x:Q0e×List Q02),(keepD P m.B0 x.1/\x.2.length<=1)->kept P m {B2:=m.B2,Mem:=m.Mem,A3:=m.A3,A7:=m.A7,B0:=x.1,C0:=m.C0,A2:=m.A2,A1:=m.A1,A4:=m.A4,A6:=m.A6}/\x.2.length<=1:=λx hx=>
   ⟨⟨⟨h1,h2,hx.1.1,h4,h5,h6⟩,Qp9 h2 h2 id id hx.1.2 id id,rfl,rfl,rfl,rfl⟩,hx.2⟩
 have N: ∀(x:Q0q×List Q02),(keepN P m.C0 x.1/\x.2.length<=1)->kept P m {B2:=m.B2,Mem:=m.Mem,A3:=m.A3,A7:=m.A7,B0:=m.B0,C0:=x.1,A2:=m.A2,A1:=m.A1,A4:=m.A4,A6:=m.A6}/\x.2.length<=1:=λx hx=>
   ⟨⟨⟨h1,h2,h3,hx.1.1,h5,h6⟩,Qp9 h2 h2 id id id hx.1.2 id,rfl,rfl,rfl,rfl⟩,hx.2⟩
 have B: ∀(x:Q07×List Int),(keepB P m.A2 x.1/\Q1 P x.2)->kept P m {B2:=m.B2,Mem:=x.2,A3:=m.A3,A7:=m.A7,B0:=m.B0,C0:=m.C0,A2:=x.1,A1:=m.A1,A4:=m.A4,A6:=m.A6}/\([]:List Q02).length<=1:=λx hx=>
   ⟨⟨⟨h1,hx.2,h3,h4,hx.1.1.1,hx.1.1.2⟩,Qp9 h2 hx.2 id id id id hx.1.2,rfl,rfl,rfl,rfl⟩,Nat.zero_le _⟩
 unfold Q3q
 repeat'(first
   |exact⟨k,Nat.le_refl _⟩
   |exact⟨k,Nat.zero_le _⟩
   |exact w_lv λx hx=>⟨⟨⟨h1,h2,h3,h4,h5,h6⟩,Qp9 h2 h2 id (λ_=>by rw[hx];exact qab _ _) id id id,rfl,rfl,rfl,rfl⟩,Nat.zero_le _⟩
   |exact Q0d (xaa h2 h3 _ hv _) λx hx=>D x hx
   |exact Q0d (zaA h2 h4 _ hv _) λx hx=>N x hx
   |exact Q0d (Zle h2 ⟨h5,h6⟩ _ hv) λx hx=>B x hx
   |refine w_br (λ_=> ?_) (λ_=> ?_))
theorem Z5z(c:Q0b)(port:Int):(Q9q c port).w (λr=>U r.2/\(Q2c c=true->Q2c r.1=true)):=by
 have u1:U 4294967295:=⟨by omega,by omega⟩
 unfold Q9q
 refine w_br (λ_=>w_br (λ_=>⟨u1,λh=>h⟩) (λhb=>w_cn ?_ (w_cn ?_ ⟨Q0r _,λhm=> ?_⟩))) (λ_=>w_br (λ_=>⟨Q0r _,λh=>h⟩) (λ_=>⟨U_0,λh=>h⟩))
 . have hb:=of_decide_eq_false hb
   have:0<c.D3.length:=List.length_pos_iff.2 hb
   simp [Nat.blt];omega
 . have hb:=of_decide_eq_false hb
   have:0<c.D3.length:=List.length_pos_iff.2 hb
   exact decide_eq_true (by omega)
 . have hm:decide ((c.D3.length:Int)<=16)=true:=hm
   have hm:=of_decide_eq_true hm
   show decide (((List.take _ (List.drop _ c.D3)).length:Int)<=16)=true
   refine decide_eq_true ?_
   rw[List.length_take,List.length_drop];omega
theorem Zlh{P:Nat}{m:Q00}(h:okS P m)(port:Int){clock:Int}(hc:U clock):(Q4k m port clock).w (λr=>kept P m r.1/\U r.2):=by
 have k:=Zcb h
 obtain⟨h1,h2,h3,h4,h5,h6⟩:=h
 have id: ∀{p:Prop},p->p:=λh=>h
 have ti: ∀t,U (Qz9 t):=λt=>by
   refine Tree.post (Qoy t) (W:=U) ?_
   unfold Qoy
   exact w_br (λ_=>⟨by omega,by omega⟩) (λ_=>U_0)
 have di: ∀p,U (Qv1 m.B0 p):=λp=>by
   refine Tree.post (Qsu m.B0 p) (W:=U) ?_
   unfold Qsu
   exact w_br (λ_=>h3.block) (λ_=>w_br (λ_=>h3.frame) (λ_=>w_br (λ_=>Q0r _) (λ_=>U_0)))
 have ni: ∀p,U (Z1j m.C0 p):=λp=>by
   refine Tree.post (Qt8 m.C0 p) (W:=U) ?_
   unfold Qt8
   exact w_br (λ_=>h4.frame) (λ_=>w_br (λ_=>h4.got) (λ_=>w_br (λ_=>w_br (λ_=>w_br (λ_=>Q0r _) (λ_=>Q0r _)) (λ_=>w_br (λ_=>Q0r _) (λ_=>U_0))) (λ_=>U_0)))
 have bi: ∀p,(Qbs m.A2 p).w U:=λp=>by
   unfold Qbs
   exact w_br (λ_=>h5) (λ_=>w_br (λ_=>Q0d (Ziq h6) λ_ _=>Q0r _) (λ_=>U_0))
 have C: ∀(x:Q0b×Int),(U x.2/\(Q2c m.A3=true->Q2c x.1=true))->kept P m {B2:=m.B2,Mem:=m.Mem,A3:=x.1,A7:=m.A7,B0:=m.B0,C0:=m.C0,A2:=m.A2,A1:=m.A1,A4:=m.A4,A6:=m.A6}/\U x.2:=λx hx=>
   ⟨⟨⟨h1,h2,h3,h4,h5,h6⟩,Qp9 h2 h2 hx.2 id id id id,rfl,rfl,rfl,rfl⟩,hx.1⟩
 unfold Q4k
 repeat'(first
   |exact⟨k,hc⟩
   |exact⟨k,U_0⟩
   |exact Q0d (Z5z _ _) λx hx=>C x hx
   |exact Zct (Z5z _ _) λx hx=>C x hx
   |exact w_lv λx hx=>⟨k,by rw[hx];exact ti _⟩
   |exact w_lv λx hx=>⟨k,by rw[hx];exact di _⟩
   |exact w_lv λx hx=>⟨k,by rw[hx];exact ni _⟩
   |exact Q0d (bi _) λx hx=>⟨k,hx⟩
   |refine w_br (λ_=> ?_) (λ_=> ?_))
structure Q5u(c:Q04):Prop where
 x0:c.X.a0=0
 st:c.B5.a0<=31
 en:c.B5.a7<=31
 rt:c.B5.a6<=255
 ve:Int.tmod c.B5.a1 4=0
theorem Q5u.pc{c:Q04}(h:Q5u c)(p:Int):Q5u {X:=c.X,Pc:=p,B5:=c.B5}:=⟨h.x0,h.st,h.en,h.rt,h.ve⟩
theorem and31(a:Int):iand .u32 a 31<=31:=by
 have e:(BitVec.ofInt 32 a&&&BitVec.ofInt 32 31).toNat<=31:=by
   rw[BitVec.toNat_and]
   exact Nat.le_trans Nat.and_le_right (by decide)
 show IntKind.wrap .u32 ((BitVec.ofInt 32 a&&&BitVec.ofInt 32 31).toNat:Int)<=31
 rw[IntKind.wrap_u32];omega
theorem and255'(a:Int):iand .u32 a 255<=255:=by have:=and255 a;omega
theorem andn3(a:Int):Int.tmod (Qg7 .u32 a 3) 4=0:=by
 have e:(BitVec.ofInt 32 a&&&~~~BitVec.ofInt 32 3).toNat%4=0:=by
   rw[BitVec.toNat_and,show(~~~BitVec.ofInt 32 3).toNat=4294967292 by decide]
   have:=Nat.and_mod_two_pow (a:=(BitVec.ofInt 32 a).toNat) (b:=4294967292) (n:=2)
   simpa using this
 have l:=(BitVec.ofInt 32 a&&&~~~BitVec.ofInt 32 3).isLt
 show Int.tmod (IntKind.wrap .u32 ((BitVec.ofInt 32 a&&&~~~BitVec.ofInt 32 3).toNat:Int)) 4=0
 rw[IntKind.wrap_u32,Int.tmod_eq_emod_of_nonneg (by omega)]
 omega
theorem fin32{f:Int->Int}(h:(List.range 32).all (λn=>decide (f n<=31))=true){s:Int}(h0:0<=s)(h1:s<=31):f s<=31:=by
 have:=List.all_eq_true.1 h s.toNat (List.mem_range.2 (by omega))
 have e:((s.toNat:Nat):Int)=s:=by omega
 rw[e]at this
 exact of_decide_eq_true this
theorem Qlw{c:Q04}(h:Q2b c)(m:Q5u c)(k b:Int):Q5u (Q4f c k b):=
 ⟨m.x0,fin32 (f:=λs=>Qg7 .u32 (ior .u32 (Q8q (Q8q s 1 8) 2 16) 1) 2) (by kernel_rfl) h.a0.1 m.st,m.en,m.rt,m.ve⟩
theorem Zm{c:Q04}(h:Q2b c)(m:Q5u c):Q5u (Qe7 c):=
 ⟨m.x0,fin32 (f:=λs=>Q8q (Q8q s 8 1) 16 2) (by kernel_rfl) h.a0.1 m.st,m.en,m.rt,m.ve⟩
theorem Qvv{c:Q04}(m:Q5u c){r:Int}(hr:0<=r/\r<16)(v:Int):(Qch c r v).w Q5u:=by
 unfold Qch
 refine w_br (λhn=>w_cn (rc hr) ?_) (λ_=>m)
 have hn:r≠0:=by simpa using hn
 obtain⟨n,e⟩: ∃n:Nat,r.toNat=n+1:=⟨r.toNat-1,by omega⟩
 refine⟨?_,m.st,m.en,m.rt,m.ve⟩
 show(A16.of 0 (List.set (A16.l c.X) r.toNat v)).a0=0
 rw[e]
 exact m.x0
theorem vf{c:Q04}(m:Q5u c)(k v:Int):(Qbj c k v).w Q5u:=by
 unfold Qbj
 refine w_br (λhk=>w_cn (by rw[eq_of_beq hk];decide) ?_) λ_=>w_br (λhk=>w_cn (by rw[eq_of_beq hk];decide) ?_) λ_=>w_br (λhk=>w_cn (by rw[eq_of_beq hk];decide) ?_) λ_=>w_br (λhk=>w_cn (by rw[eq_of_beq hk];decide) ?_) λ_=>w_br (λhk=>w_cn (by rw[eq_of_beq hk];decide) ?_) λ_=>w_br (λhk=>w_cn (by rw[eq_of_beq hk];decide) ?_) λ_=>w_br (λhk=>w_cn (by rw[eq_of_beq hk];decide) ?_) λ_=>w_br (λhk=>w_cn (by rw[eq_of_beq hk];decide) ?_) (λ_=>m)
 all_goals(have hk:=eq_of_beq hk;subst hk)
 . exact⟨m.x0,and31 _,m.en,m.rt,m.ve⟩
 . exact⟨m.x0,m.st,and31 _,m.rt,m.ve⟩
 . exact⟨m.x0,m.st,m.en,and255' _,m.ve⟩
 . exact⟨m.x0,m.st,m.en,m.rt,andn3 _⟩
 . exact⟨m.x0,m.st,m.en,m.rt,m.ve⟩
 . exact⟨m.x0,m.st,m.en,m.rt,m.ve⟩
 . exact⟨m.x0,m.st,m.en,m.rt,m.ve⟩
 . exact⟨m.x0,m.st,m.en,m.rt,m.ve⟩
section
variable {c:Q04} (h:Q2b c) (m:Q5u c) {i:Q0k} (hi:Qf6 i)
include h m hi
theorem Zfs:(Q51 c i).w (λr=>Q5u r.1):=by
 unfold Q51
 refine w_cn (rc hi.a) (w_cn (rc hi.b) ?_)
 repeat'(first
   |refine w_br (λ_=> ?_) (λ_=> ?_)
   |exact Q0d (Qvv m hi.a _) λx hx=>hx.pc _
   |exact w_lv λx _=>w_br (λ_=>m.pc _) (λ_=>m.pc _)
   |exact w_lv λx hx=>by rw[hx];exact Qlw h m _ _
   |exact w_lv λx hx=>by rw[hx];exact Zm h m
   |exact w_cn (by have:=hi.csr (by simp_all);simp [Nat.blt];omega) (Q0d (Qvv m hi.a _) λx hx=>hx.pc _)
   |exact Q0d (vf m _ _) λx hx=>hx.pc _
   |refine w_cn (rc hi.c) ?_
   |exact Q0d (Z6s _ (h.r _) (Q0r _)) λy hy=>Q0d (Qvv m hi.a _) λx hx=>hx.pc _
   |exact Q0d (Z6s _ (h.r _) (h.r _)) λy hy=>Q0d (Qvv m hi.a _) λx hx=>hx.pc _
   |refine w_lf ?_)
 all_goals exact m.pc _
theorem xG{P:Nat}{mem:List Int}(hm:Q1 P mem):(Qdb c mem i).w (λr=>Q5u r.1):=by
 have w:=Z7s i.Op
 unfold Qdb
 refine w_cn (rc hi.b) (w_lv λx0 h0=> ?_)
 rw[<-h0]at w
 refine Q0d (Qky hm (Q0r _) w 2) λx1 h1=>w_br (λ_=>w_lv λy hy=>by rw[hy];exact Qlw h m _ _) (λ_=>w_lv λx3 h3=> ?_)
 rw[h0,<-h3]at w
 exact Q0d (Qqw h1.2 h1.1 w) λx4 h4=>w_br (λ_=>Q0d (Qvs h4.1 8) λy hy=>Q0d (Qvv m hi.a _) λx hx=>hx.pc _) (λ_=>Q0d (Qvv m hi.a _) λx hx=>hx.pc _)
theorem qg{P:Nat}{mem:List Int}(hm:Q1 P mem):(Qbf c mem i).w (λr=>Q5u r.1):=by
 have w:=Z7s i.Op
 unfold Qbf
 refine w_cn (rc hi.b) (w_lv λx0 h0=> ?_)
 rw[<-h0]at w
 refine Q0d (Qky hm (Q0r _) w 3) λx1 h1=>w_br (λ_=>w_lv λy hy=>by rw[hy];exact Qlw h m _ _) (λ_=>w_lv λx3 h3=>w_cn (rc hi.a) ?_)
 rw[h0,<-h3]at w
 exact Q0d (Qyz h1.2 h1.1 w (h.r _)) λx hx=>m.pc _
end
theorem zG{c:Q04}(h:Q2b c)(m:Q5u c){P:Nat}{mem:List Int}(hm:Q1 P mem):(Q71 c mem).w (λr=>Q5u r.1):=by
 unfold Q71
 refine Q0d (Z9e hm h) λx0 h0=>w_br (λ_=>w_lv λy hy=>by rw[hy];exact Qlw h m _ _) (λ_=>Q0d (Z1c _) λx2 h2=>w_br (λ_=>w_lv λy hy=>by rw[hy];exact Qlw h m _ _) (λhb=> ?_))
 have hi:=h2 (by simpa using hb)
 refine w_lv λx4 _=> ?_
 repeat'(first
   |refine w_br (λ_=> ?_) (λ_=> ?_)
   |exact Q0d (xG h m hi h0.2) λx hx=>hx
   |exact Q0d (qg h m hi h0.2) λx hx=>hx
   |exact Q0d (Zfs h m hi) λx hx=>hx
   |exact w_lv λy hy=>by rw[hy];exact Qlw h m _ _
   |refine w_lv λ_ _=> ?_)
theorem Zg7{c:Q04}(h:Q2b c){i:Q0k}(hi:Qf6 i):(Q51 c i).w (λr=>0<=r.2.E0/\r.2.E0<16):=by
 have z:(0:Int)<=0/\(0:Int)<16:=⟨by decide,by decide⟩
 unfold Q51
 refine w_cn (rc hi.a) (w_cn (rc hi.b) ?_)
 repeat'(first
   |refine w_br (λ_=> ?_) (λ_=> ?_)
   |exact Q0d (Qq1 h hi.a (Q0r _)) λx hx=>z
   |exact w_lv λx _=>w_br (λ_=>z) (λ_=>z)
   |exact w_lv λx hx=>z
   |exact w_cn (by have:=hi.csr (by simp_all);simp [Nat.blt];omega) (Q0d (Qq1 h hi.a (h.a _)) λx hx=>z)
   |exact Q0d (Zjh h _ (h.r _)) λx hx=>z
   |refine w_cn (rc hi.c) ?_
   |exact Q0d (Z6s _ (h.r _) (Q0r _)) λy hy=>Q0d (Qq1 h hi.a hy) λx hx=>z
   |exact Q0d (Z6s _ (h.r _) (h.r _)) λy hy=>Q0d (Qq1 h hi.a hy) λx hx=>z
   |refine w_lf ?_)
 all_goals first|exact z|exact hi.a
theorem Zk6{c:Q04}(h:Q2b c){P:Nat}{mem:List Int}(hm:Q1 P mem):(Q71 c mem).w (λr=>0<=r.2.2.E0/\r.2.2.E0<16):=by
 have z:(0:Int)<=0/\(0:Int)<16:=⟨by decide,by decide⟩
 unfold Q71
 refine Q0d (Z9e hm h) λx0 h0=>w_br (λ_=>w_lv λy hy=>z) (λ_=>Q0d (Z1c _) λx2 h2=>w_br (λ_=>w_lv λy hy=>z) (λhb=> ?_))
 have hi:=h2 (by simpa using hb)
 refine w_lv λx4 _=> ?_
 repeat'(first
   |refine w_br (λ_=> ?_) (λ_=> ?_)
   |exact Q0d (Qzt h hi h0.2) λx hx=>z
   |exact Q0d (Qwu h hi h0.2) λx hx=>z
   |exact Q0d (Zg7 h hi) λx hx=>hx
   |exact w_lv λy hy=>z
   |refine w_lv λ_ _=> ?_)
theorem cnd2{a x:Bool}:(bif a then false else x)=true↔a=false/\x=true:=by cases a<;>simp
theorem Qn6(m:Q00):Q14 m=true↔Q0u m.Mem≠0/\Q5u m.B2/\m.A1<=1152921504606846976/\ ¬(m.A4=true/\m.A6=true)/\Q0x m=true:=by
  rw[xU]
  unfold mayC chain
  rw[cnd2,cnd2,cnd2,cnd2,cnd2,cnd2,cnd2]
  simp only[decide_eq_false_iff_not,Int.not_lt,beq_eq_false_iff_ne,bne_eq_false_iff_eq,gt_iff_lt]
  constructor
  . rintro⟨a1,a2,a3,a4,a5,a6,a7,a8⟩
    refine⟨a1,⟨a2,a3,a4,a5,a6⟩,a7,?_,?_⟩
    . rintro⟨w,h⟩;rw[w,h]at a8;cases a8
    . revert a8;cases m.A4
      . exact λh=>h
      . cases m.A6
        . exact λh=>h
        . intro h;cases h
  . rintro⟨a1,⟨a2,a3,a4,a5,a6⟩,a7,a8,a9⟩
    refine⟨a1,a2,a3,a4,a5,a6,a7,?_⟩
    rw[a9]
    cases hw:m.A4
    . rfl
    . cases hh:m.A6
      . rfl
      . exact absurd ⟨hw,hh⟩ a8
theorem Qz4{m:Q00}(h:Q2o m=true):Q14 m=true/\m.A6=false/\m.A1<1152921504606846976:=by
  simp only[Q2o,Q40,Tree.m,letv]at h
  cases h1:Q14 m
  . rw[h1]at h;cases h
  . cases h2:m.A6
    . rw[h1,h2]at h
      cases h3:Q94 m
      . rw[h3]at h
        have h:decide (m.A1<1152921504606846976)=true:=h
        exact⟨rfl,rfl,of_decide_eq_true h⟩
      . rw[h3]at h;cases h
    . rw[h1,h2]at h;cases h
theorem Qrt{P:Nat}{m:Q00}(h:okS P m)(g:Q5u m.B2):(Q2t m).w (λr=>Q5u r.B2/\okS P r/\r.Mem=m.Mem/\r.A4=false/\r.A6=m.A6/\r.A1=m.A1/\r.A3=m.A3/\r.A7=m.A7/\r.B0=m.B0/\r.C0=m.C0/\r.A2=m.A2):=by
 obtain⟨h1,h2,h3,h4,h5,h6⟩:=h
 unfold Q2t
 refine w_br (λ_=>⟨g,⟨h1,h2,h3,h4,h5,h6⟩,rfl,rfl,rfl,rfl,rfl,rfl,rfl,rfl,rfl⟩) (λ_=>Q0d (Qv6 (m:=⟨_,_,_,_,_,_,m.A2,_,_,_⟩) h6) λx0 _=>w_lp (inv:=λz=>0<=z/\z<=5) (μ:=Qb3 m) ⟨by omega,by omega⟩ (Nat.lt_succ_self _) (λz hz=> ?_))
 obtain⟨z1,z2⟩:=hz
 refine w_br (λhb=>w_cn (decide_eq_true z1) (w_br (λ_=>w_lv λx1 hx=>⟨by rw[hx];exact Qlw h1 g _ _,⟨by rw[hx];exact Qoj h1 _ U_0,h2,h3,h4,h5,h6⟩,rfl,rfl,rfl,rfl,rfl,rfl,rfl,rfl,rfl⟩) (λ_=>w_nx ?_))) (λ_=>⟨g,⟨h1,h2,h3,h4,h5,h6⟩,rfl,rfl,rfl,rfl,rfl,rfl,rfl,rfl,rfl⟩)
 have hb:=of_decide_eq_true hb
 show(0<=IntKind.i64.wrap (z+1)/\IntKind.i64.wrap (z+1)<=5)/\(5-IntKind.i64.wrap (z+1)).toNat<(5-z).toNat
 have ew:IntKind.i64.wrap (z+1)=z+1:=by rw[IntKind.wrap_i64];omega
 rw[ew];omega
structure Good(P:Nat)(m r:Q00):Prop where
 ok:okS P r
 cnt:0<=r.A1
 may:Q14 m=true->Q14 r=true
 or:r=m\/r.A1=m.A1+1
theorem xg{P:Nat}{m:Q00}(h:okS P m)(hc0:0<=m.A1){clock:Int}(hk:U clock):(Q32 m clock).w (λr=>r.2.length<=1/\Good P m r.1):=by
 have hcl:Q03 m.Mem=m.Mem:=rfl
 unfold Q32
 refine w_an (Q8n h.mem) (w_lv λl hl=> ?_)
 rw[hcl]at hl;subst hl
 refine w_an (Tree.pp (Zfb (m:=⟨_,_,_,_,_,_,m.A2,_,_,_⟩) h.given)).1 (w_lv λx1 hx1=>w_br (λ_=>⟨Nat.zero_le _,h,hc0,λh=>h, .inl rfl⟩) (λhb=> ?_))
 have hr:Q2o m=true:=by rw[<-show x1=Q2o m from hx1];simpa using hb
 obtain⟨hm,hh,hct⟩:=Qz4 hr
 obtain⟨g1,g2,g3,g4,g5⟩:=(Qn6 m).1 hm
 have hP:(P:Int)≠0:=by rw[<-Q3i h.mem];exact g1
 have fin: ∀(n:Q00),okS P n->Q5u n.B2->Q0x n=true->n.A1=m.A1-> ¬(n.A4=true/\n.A6=true)->Good P m {B2:=n.B2,Mem:=n.Mem,A3:=n.A3,A7:=n.A7,B0:=n.B0,C0:=n.C0,A2:=n.A2,A1:=IntKind.wrap .u64 (n.A1+1),A4:=n.A4,A6:=n.A6}:=λn a b c d e=>by
   have ec:IntKind.wrap .u64 (n.A1+1)=m.A1+1:=by rw[d,IntKind.wrap_u64];omega
   refine⟨⟨a.cpu,a.mem,a.disk,a.nic,a.target,a.given⟩,?_,λ_=>(Qn6 _).2 ⟨?_,b,?_,e,c⟩, .inr ec⟩
   . show 0<=IntKind.wrap .u64 (n.A1+1);omega
   . show Q0u n.Mem≠0;rw[Q3i a.mem];exact hP
   . show IntKind.wrap .u64 (n.A1+1)<=_;omega
 refine Q0d (Qrt (m:=⟨_,_,m.A3,m.A7,m.B0,m.C0,m.A2,m.A1,m.A4,m.A6⟩) ⟨h.cpu,h.mem,h.disk,h.nic,h.target,h.given⟩ g2) λx2 hx2=> ?_
 obtain⟨b1,b2,b3,b4,b5,b6,b7,b8,b9,b10,b11⟩:=hx2
 have ex:=Tree.pp (vu b2.cpu b2.mem)
 have em:=Tree.pp (zG b2.cpu b1 b2.mem)
 have er:=Tree.pp (Zk6 b2.cpu b2.mem)
 refine w_an ex.1 (w_lv λx3 h3=> ?_)
 obtain⟨e1,e2,e3⟩:Q2b x3.1/\Q1 P x3.2.1/\U x3.2.2.Value:=by rw[h3];exact ex.2
 have f1:Q5u x3.1:=by rw[h3];exact em.2
 have r1:0<=x3.2.2.E0/\x3.2.2.E0<16:=by rw[h3];exact er.2
 have ok3:okS P ⟨x3.1,x3.2.1,x2.A3,x2.A7,x2.B0,x2.C0,x2.A2,x2.A1,x2.A4,x2.A6⟩:=⟨e1,e2,b2.disk,b2.nic,b2.target,b2.given⟩
 have dev: ∀(w h:Bool),Q0x ⟨x3.1,x3.2.1,x2.A3,x2.A7,x2.B0,x2.C0,x2.A2,x2.A1,w,h⟩=true:=λw hh=>by
   have id: ∀{p:Prop},p->p:=λh=>h
   refine Qp9 (m:=m) (P:=P) h.mem e2 ?_ ?_ ?_ ?_ ?_ g5
   . show _->Q2c x2.A3=true;rw[b7];exact id
   . show _->Q4d x2.A7=true;rw[b8];exact id
   . show _->Q1i x2.B0 P=true;rw[b9];exact id
   . show _->Q5w x2.C0 P=true;rw[b10];exact id
   . show _->Q2m x2.A2 P=true;rw[b11];exact id
 have hw:x2.A4=false:=b4
 have hh2:x2.A6=false:=b5.trans hh
 have hct2:x2.A1=m.A1:=b6
 refine w_br (λ_=> ?_) λ_=>w_br (λ_=> ?_) λ_=>w_br (λ_=> ?_) λ_=>w_br (λ_=> ?_) λ_=> ?_
 . refine Q0d (Zlh ok3 _ hk) λx4 h4=> ?_
   obtain⟨k,u⟩:=h4
   have kc:x4.1.B2=x3.1:=k.cpu
   have kt:x4.1.A1=m.A1:=k.cnt.trans hct2
   have kw: ¬(x4.1.A4=true/\x4.1.A6=true):=λe=>by have:x4.1.A4=x2.A4:=k.wait;rw[this,hw]at e;cases e.1
   have km:Q5u x4.1.B2:=by rw[kc];exact f1
   refine w_br (λhn=>w_cn (rc r1) ⟨Nat.zero_le _,?_⟩) (λ_=>⟨Nat.zero_le _,fin x4.1 k.ok km (k.dev (dev _ _)) kt kw⟩)
   have hn:x3.2.2.E0≠0:=by simpa using hn
   obtain⟨q,e⟩: ∃q:Nat,x3.2.2.E0.toNat=q+1:=⟨x3.2.2.E0.toNat-1,by omega⟩
   refine fin ⟨⟨A16.of 0 (List.set (A16.l x4.1.B2.X) x3.2.2.E0.toNat x4.2),x4.1.B2.Pc,x4.1.B2.B5⟩,x4.1.Mem,x4.1.A3,x4.1.A7,x4.1.B0,x4.1.C0,x4.1.A2,x4.1.A1,x4.1.A4,x4.1.A6⟩ ⟨⟨Z7r k.ok.cpu.x u _,k.ok.cpu.pc,k.ok.cpu.csr⟩,k.ok.mem,k.ok.disk,k.ok.nic,k.ok.target,k.ok.given⟩ ⟨?_,km.st,km.en,km.rt,km.ve⟩ (k.dev (dev _ _)) kt kw
   show(A16.of 0 (List.set (A16.l x4.1.B2.X) x3.2.2.E0.toNat x4.2)).a0=0
   rw[e]
   exact km.x0
 . refine Q0d (Zf5 ok3 _ e3 _) λx5 h5=> ?_
   obtain⟨k,u⟩:=h5
   have kc:x5.1.B2=x3.1:=k.cpu
   exact⟨u,fin x5.1 k.ok (by rw[kc];exact f1) (k.dev (dev _ _)) (k.cnt.trans hct2) (λe=>by have:x5.1.A4=x2.A4:=k.wait;rw[this,hw]at e;cases e.1)⟩
 . exact⟨Nat.zero_le _,fin ⟨x3.1,x3.2.1,x2.A3,x2.A7,x2.B0,x2.C0,x2.A2,x2.A1,true,x2.A6⟩ ⟨e1,e2,b2.disk,b2.nic,b2.target,b2.given⟩ f1 (dev _ _) hct2 (λe=>by have e2:x2.A6=true:=e.2;rw[hh2]at e2;cases e2)⟩
 . exact⟨Nat.zero_le _,fin ⟨x3.1,x3.2.1,x2.A3,x2.A7,x2.B0,x2.C0,x2.A2,x2.A1,x2.A4,true⟩ ⟨e1,e2,b2.disk,b2.nic,b2.target,b2.given⟩ f1 (dev _ _) hct2 (λe=>by have e2:x2.A4=true:=e.1;rw[hw]at e2;cases e2)⟩
 . exact⟨Nat.zero_le _,fin ⟨x3.1,x3.2.1,x2.A3,x2.A7,x2.B0,x2.C0,x2.A2,x2.A1,x2.A4,x2.A6⟩ ok3 f1 (dev _ _) hct2 (λe=>by have e2:x2.A4=true:=e.1;rw[hw]at e2;cases e2)⟩
theorem Zji{P:Nat}{m:Q00}(h:okM P m){e:Q0f}(he:U e.N):(Q43 m e).w (λr=>(Q14 m=true->Q14 r.1=true)/\r.1.A1=m.A1/\U r.1.A2.C5):=by
 obtain⟨h1,h2,h3,h4,h5,h7⟩:=h
 have hcl:Q03 m.Mem=m.Mem:=rfl
 have pg: ∀{m':List Int},Q1 P m'->Q0u m'=Q0u m.Mem:=λh=>by rw[Q3i h,Q3i h2]
 have keep:(Q14 m=true->Q14 m=true)/\m.A1=m.A1/\U m.A2.C5:=⟨λh=>h,rfl,h5.2⟩
 unfold Q43
 refine w_an (Q8n h2) (w_lv λl hl=> ?_)
 rw[hcl]at hl;subst hl
 refine Q0d (Zk0 (m:=⟨_,_,_,_,_,_,m.A2,_,_,_⟩) h5.2) λx1 _=>w_br (λ_=>keep) λ_=>w_br (λ_=>keep) λ_=> ?_
 refine w_br (λ_=>w_br (λ_=>w_br (λ_=>w_lv λx hx=> ?_) (λ_=>keep)) (λ_=>keep)) λ_=>w_br (λ_=>w_br (λ_=>w_br (λ_=>Q0d (zaa _ _) λx hx=> ?_) (λ_=>keep)) (λ_=>keep)) λ_=>w_br (λhk=>Q0d (Zm4 h2 h3 e) λx hx=> ?_) λ_=>w_br (λhk=>w_br (λ_=>Q0d (ye h2 h4 _) λx hx=> ?_) (λ_=>keep)) λ_=>w_br (λ_=>w_br (λ_=> ?_) (λ_=>keep)) (λ_=>keep)
 . exact⟨Qtg rfl rfl rfl rfl rfl (λh=>h) (λh=>by rw[hx];exact vF _ h) (λ_ h=>h) (λ_ h=>h) rfl,rfl,h5.2⟩
 . exact⟨Qtg rfl rfl rfl rfl rfl hx (λh=>h) (λ_ h=>h) (λ_ h=>h) rfl,rfl,h5.2⟩
 . obtain⟨a1,a2,a3,a4,a5⟩:=hx
   exact⟨Qtg (pg a2) rfl rfl rfl rfl (λh=>h) (λh=>h) a5 (λ_ h=>h) rfl,rfl,h5.2⟩
 . obtain⟨a1,a2,a3,a4,a5⟩:=hx
   exact⟨Qtg (pg a2) rfl rfl rfl rfl (λh=>h) (λh=>h) (λ_ h=>h) a5 rfl,rfl,h5.2⟩
 . exact⟨Qtg rfl rfl rfl rfl rfl (λh=>h) (λh=>h) (λ_ h=>h) (λ_ h=>h) rfl,rfl,h5.2⟩
structure okW(m:Q00):Prop where
 cpu:Q2b m.B2
 u: ∀w∈m.Mem,U w
 len:m.Mem.length<=1024
 disk:Q83 m.B0
 nic:Qii m.C0
 bal:okB m.A2
 cnt:0<=m.A1
theorem Zhh{c:Q04}(h:Q2b c){i:Nat}{v:Int}(hv:U v){x:A8 Int}(hx:x=A8.of 0 (List.set (A8.l c.B5) i v))(p:Int)(hp:U p):Q2b {X:=c.X,Pc:=p,B5:=x}:=⟨h.x,hp,by rw[hx];exact Qte h.csr hv i⟩
theorem zaB{P:Nat}{m:Q00}(h:okM P m)(hP:1<=P)(hc:0<=m.A1)(where0 what:Int)(hd: ∀k:Int,0<=k->k<=128->Q4z what k):(Qhm m where0 what).w okW:=by
 unfold Qhm
 refine Q0d (Zit h) λx0 ⟨g,hct⟩=>w_an (Q4y (by decide)) (w_lv λx1 _=> ?_)
 have hc:0<=x0.A1:=by rw[hct];exact hc
 obtain⟨h1,h2,h3,h4,h5,_⟩:=g
 have hl:=h2.len
 have hp2:=h2.p2
 have hlen:x0.Mem.length<=1024:=by omega
 have hne:(x0.Mem.length:Int)≠0:=by omega
 have rr: ∀k:Int,0<k->k<=1000000->0<=Q1s what k/\Q1s what k<k:=λk a b=>Qe a (by omega)
 have rl:=rr x0.Mem.length (by omega) (by omega)
 have C: ∀c,Q2b c->okW {B2:=c,Mem:=x0.Mem,A3:=x0.A3,A7:=x0.A7,B0:=x0.B0,C0:=x0.C0,A2:=x0.A2,A1:=x0.A1,A4:=x0.A4,A6:=x0.A6}:=λc a=>⟨a,h2.u,hlen,h3,h4,h5,hc⟩
 have M: ∀l:List Int,(∀w∈l,U w)->l.length<=1024->okW {B2:=x0.B2,Mem:=l,A3:=x0.A3,A7:=x0.A7,B0:=x0.B0,C0:=x0.C0,A2:=x0.A2,A1:=x0.A1,A4:=x0.A4,A6:=x0.A6}:=λl a b=>⟨h1,a,b,h3,h4,h5,hc⟩
 have D: ∀d,Q83 d->okW {B2:=x0.B2,Mem:=x0.Mem,A3:=x0.A3,A7:=x0.A7,B0:=d,C0:=x0.C0,A2:=x0.A2,A1:=x0.A1,A4:=x0.A4,A6:=x0.A6}:=λd a=>⟨h1,h2.u,hlen,a,h4,h5,hc⟩
 have N: ∀n,Qii n->okW {B2:=x0.B2,Mem:=x0.Mem,A3:=x0.A3,A7:=x0.A7,B0:=x0.B0,C0:=n,A2:=x0.A2,A1:=x0.A1,A4:=x0.A4,A6:=x0.A6}:=λn a=>⟨h1,h2.u,hlen,h3,a,h5,hc⟩
 refine w_br (λ_=>C _ (h1.pcs (Q0r _))) λ_=> ?_
 refine w_br (λ_=>w_an (Q4y (by decide)) (w_lv λx2 e2=>w_cn (by rw[e2];exact rc (rr 16 (by decide) (by decide))) (C _ ⟨Z7r h1.x (Q0r _) _,h1.pc,h1.csr⟩))) λ_=> ?_
 refine w_br (λ_=>w_an (Q4y (by decide)) (w_lv λx3 e3=>w_cn (by rw[e3];have:=rr 8 (by decide) (by decide);simp [Nat.blt];omega) (C _ ⟨h1.x,h1.pc,Qte h1.csr (Qsf (Q0r _) _) _⟩))) λ_=> ?_
 refine w_br (λ_=>C _ (Zhh h1 (i:=0) (Qit _ _) rfl _ h1.pc)) λ_=> ?_
 refine w_br (λ_=>C _ (Zhh h1 (i:=7) (Qit _ _) rfl _ h1.pc)) λ_=> ?_
 refine w_br (λ_=>w_an (Q4y hne) (w_lv λx4 e4=>w_cn (by rw[e4];simp [Nat.blt];omega) (M _ (Qyv h2.u (Q0r _) _) (by rw[List.length_set];exact hlen)))) λ_=> ?_
 refine w_br (λ_=>w_an (Q4y hne) (w_lv λx5 e5=>w_an (Zj0 _) (w_lv λx6 _=>w_lv λx7 e7=>w_cn (by rw[e5];simp [Nat.blt];omega) (M _ (Qyv h2.u (by rw[e7];exact Zip _) _) (by rw[List.length_set];exact hlen))))) λ_=> ?_
 refine w_br (λ_=>w_an (Q4y (by decide)) (w_lv λx8 e8=>w_an (hd _ (by rw[e8];exact(rr 18 (by decide) (by decide)).1) (by rw[e8];have:=(rr 18 (by decide) (by decide)).2;omega)) (w_lv λx9 _=>⟨h1,h2.u,hlen,h3,h4,h5,hc⟩))) λ_=> ?_
 refine w_br (λ_=>⟨h1,h2.u,hlen,h3,h4,h5,hc⟩) λ_=> ?_
 refine w_br (λ_=>D _ ⟨h3.block,h3.frame,h3.opBlock,h3.opFrame⟩) λ_=> ?_
 refine w_br (λ_=>w_br (λ_=>w_an (hd _ (by decide) (by decide)) (w_lv λx10 _=>D _ ⟨U_0,U_0,Qit _ _,Qit _ _⟩)) (λ_=>D _ ⟨U_0,U_0,Qit _ _,Qit _ _⟩)) λ_=> ?_
 refine w_br (λ_=>D _ ⟨Qit _ _,Qit _ _,h3.opBlock,h3.opFrame⟩) λ_=> ?_
 refine w_br (λ_=>N _ ⟨Qit _ _,Qit _ _,Qit _ _,U_0⟩) λ_=> ?_
 refine w_br (λ_=>N _ ⟨U_0,U_0,U_0,Qit _ _⟩) λ_=> ?_
 refine w_br (λ_=>⟨h1,h2.u,hlen,h3,h4,⟨Qit _ _,Qit _ _⟩,hc⟩) λ_=> ?_
 refine w_br (λ_=>⟨h1,h2.u,hlen,h3,h4,h5,hc⟩) λ_=> ?_
 refine w_br (λ_=>⟨h1,h2.u,hlen,h3,h4,h5,hc⟩) λ_=> ?_
 refine w_br (λ_=>⟨h1,h2.u,hlen,h3,h4,h5,by show 0<=IntKind.u64.wrap what;rw[IntKind.wrap_u64];omega⟩) λ_=> ?_
 refine w_br (λ_=>w_an (Q4y hne) (w_lv λx11 e11=>w_cn (by rw[e11];simp [Nat.blt];omega) (M _ (λw hw=>h2.u w (List.mem_of_mem_drop (List.mem_of_mem_take hw))) (by rw[List.length_take,List.length_drop];omega)))) λ_=> ?_
 refine w_br (λ_=>⟨h1,h2.u,hlen,h3,h4,h5,by show 0<=IntKind.u64.wrap _;rw[IntKind.wrap_u64];omega⟩) λ_=> ?_
 refine w_br (λ_=>C _ (Zhh h1 (i:=6) (Qit _ _) rfl _ h1.pc)) λ_=> ?_
 exact w_br (λ_=>C _ (h1.pcs (Q0r _))) (λ_=>⟨h1,h2.u,hlen,h3,h4,h5,hc⟩)
theorem Qva{a:Int}(h:U a):(BitVec.ofInt 32 a).toNat=a.toNat:=by
 obtain⟨h1,h2⟩:=h
 rw[BitVec.toNat_ofInt];omega
theorem Zf7{a b:Int}(ha:U a)(hb:U b):iand .u32 a b=((a.toNat&&&b.toNat:Nat):Int):=by
 have l:=(BitVec.ofInt 32 a&&&BitVec.ofInt 32 b).isLt
 have e:(BitVec.ofInt 32 a&&&BitVec.ofInt 32 b).toNat=a.toNat&&&b.toNat:=by rw[BitVec.toNat_and,Qva ha,Qva hb]
 show IntKind.wrap .u32 ((BitVec.ofInt 32 a&&&BitVec.ofInt 32 b).toNat:Int)=_
 rw[IntKind.wrap_u32,<-e];omega
theorem xaB{a b:Int}(ha:U a)(hb:U b):ior .u32 a b=((a.toNat|||b.toNat:Nat):Int):=by
 have l:=(BitVec.ofInt 32 a|||BitVec.ofInt 32 b).isLt
 have e:(BitVec.ofInt 32 a|||BitVec.ofInt 32 b).toNat=a.toNat|||b.toNat:=by rw[BitVec.toNat_or,Qva ha,Qva hb]
 show IntKind.wrap .u32 ((BitVec.ofInt 32 a|||BitVec.ofInt 32 b).toNat:Int)=_
 rw[IntKind.wrap_u32,<-e];omega
theorem Z9a{a:Int}(ha:U a)(k:Nat)(hk:k<=32){q:Int}(hq:q=((2^k-1:Nat):Int)):iand .u32 a q=a%2^k:=by
 have hp:2^k<=2^32:=Nat.pow_le_pow_right (by decide) hk
 have h1:(2:Nat)^32=4294967296:=by decide
 have hpos:=Nat.two_pow_pos k
 subst hq
 rw[Zf7 ha ⟨by omega,by omega⟩,Int.toNat_natCast,Nat.and_two_pow_sub_one_eq_mod]
 have:=ha.1
 rw[Int.natCast_emod,Int.toNat_of_nonneg this]
 simp
theorem m15{a:Int}(ha:U a):iand .u32 a 15=a%16:=Z9a ha 4 (by decide) rfl
theorem m255{a:Int}(ha:U a):iand .u32 a 255=a%256:=Z9a ha 8 (by decide) rfl
theorem m65535{a:Int}(ha:U a):iand .u32 a 65535=a%65536:=Z9a ha 16 (by decide) rfl
theorem Qtl(p:Int->Bool)(N:Nat)(h:(List.range N).all (λn=>p n)=true){s:Int}(h0:0<=s)(h1:s<N):p s=true:=by
 have:=List.all_eq_true.1 h s.toNat (List.mem_range.2 (by omega))
 rwa [Int.toNat_of_nonneg h0]at this
theorem w64{x:Int}(h0: -9223372036854775808<=x)(h1:x<9223372036854775808):IntKind.wrap .i64 x=x:=by rw[IntKind.wrap_i64];omega
theorem shr0(a:Int):ishr .u32 a 0=a:=by have:=Qqm (a:=a) 0 (by decide);simpa using this
theorem fld(w:Int):Q2z w 24 8=iand .u32 (ishr .u32 w 24) 255/\Q2z w 20 4=iand .u32 (ishr .u32 w 20) 15/\Q2z w 16 4=iand .u32 (ishr .u32 w 16) 15/\Q2z w 0 16=iand .u32 (ishr .u32 w 0) 65535/\Q2z w 8 8=iand .u32 (ishr .u32 w 8) 255:=
 ⟨by kernel_rfl,by kernel_rfl,by kernel_rfl,by kernel_rfl,by kernel_rfl⟩
def useOf(f:Int):Q8p×Bool:=
 bif f==1 then(⟨false,false,false,0,0⟩,true) else bif f==2 then(⟨true,true,true,0,0⟩,true) else bif f==3 then(⟨true,true,false,-32768,32767⟩,true)
 else bif f==4 then(⟨true,true,false,0,65535⟩,true) else bif f==5 then(⟨true,true,false,0,31⟩,true) else bif f==6 then(⟨true,false,false,0,65535⟩,true)
 else bif f==7 then(⟨true,false,false,-32768,32767⟩,true) else bif f==8 then(⟨true,false,false,0,7⟩,true) else bif f==9 then(⟨true,false,false,0,11⟩,true) else(⟨false,false,false,0,0⟩,false)
def sameU(x y:Q8p×Bool):Bool:=x.1.a==y.1.a&&x.1.b==y.1.b&&x.1.c==y.1.c&&x.1.low==y.1.low&&x.1.D6==y.1.D6&&x.2==y.2
theorem yG{x y:Q8p×Bool}(h:sameU x y=true):x=y:=by
 obtain⟨⟨a,b,c,d,e⟩,f⟩:=x
 obtain⟨⟨a',b',c',d',e'⟩,f'⟩:=y
 simp only[sameU,Bool.and_eq_true,beq_iff_eq]at h
 obtain⟨⟨⟨⟨⟨rfl,rfl⟩,rfl⟩,rfl⟩,rfl⟩,rfl⟩:=h
 rfl
theorem zU{op:Int}(h0:0<=op)(h1:op<256):Z28 op=useOf (Q2d op):=by
 exact yG (Qtl (λop=>sameU (Z28 op) (useOf (Q2d op))) 256 (by kernel_rfl) h0 h1)
theorem zg{op:Int}(h0:0<=op)(h1:op<256):Q2d op=0\/Q2d op=1\/Q2d op=2\/Q2d op=3\/Q2d op=4\/Q2d op=5\/Q2d op=6\/Q2d op=7\/Q2d op=8\/Q2d op=9:=by
 have:=of_decide_eq_true (Qtl (λop=>decide (0<=Q2d op/\Q2d op<=9)) 256 (by kernel_rfl) h0 h1)
 omega
theorem xab{op:Int}(h0:0<=op)(h1:op<256):Q8j op=Q34 op:=by
 exact eq_of_beq (Qtl (λop=>Q8j op==Q34 op) 256 (by kernel_rfl) h0 h1)
theorem vG{a x y:Bool}:(cond a x y=true)↔((a=true/\x=true)\/(a=false/\y=true)):=by cases a<;>simp
theorem Z84{i:Q0k}(h0:0<=i.Op)(h1:i.Op<256)(hi:IntKind.wrap .i64 i.Imm=i.Imm):Qf3 i=Q6x i:=by
 rw[Bool.eq_iff_iff]
 simp only[Qf3,Qin,Tree.m,letv,Q6x,Qeq,zU h0 h1,hi]
 rcases zg h0 h1 with h|h|h|h|h|h|h|h|h|h<;>rw[h]<;>
 simp [useOf,Q92,Qe8,Q7q,Qcz,Qlh,Qlf,Tree.m,letv,vG]<;>omega
theorem sx16{x:Int}(h0:0<=x)(h1:x<65536):IntKind.wrap .i32 (Q2f x 16)=IntKind.wrap .i32 (IntKind.wrap .i16 x):=by
 have e:Q2f x 16=IntKind.wrap .u32 (ishr .i32 (IntKind.wrap .i32 (ishl .u32 x 16)) 16):=by kernel_rfl
 have e2: ∀y,ishr .i32 y 16=y/65536:=λy=>by
   show Int.fdiv y 65536=_
   rw[Int.fdiv_eq_ediv_of_nonneg _ (by decide)]
 have e3:ishl .u32 x 16=IntKind.wrap .u32 (x*65536):=rfl
 have e4:IntKind.wrap .i16 x=(x+32768)%65536-32768:=by
   simp [IntKind.wrap,IntKind.bits,IntKind.signed]
   split<;>omega
 rw[e,e2,e3,e4]
 simp only[IntKind.wrap_i32,IntKind.wrap_u32]
 omega
theorem sx8{x:Int}(h0:0<=x)(h1:x<256):Q2f x 8=Q3a x 8:=by
 exact eq_of_beq (Qtl (λx=>Q2f x 8==Q3a x 8) 256 (by kernel_rfl) h0 h1)
theorem yg{w:Int}(hw:U w):Qgx w=Q2 w:=by
 obtain⟨f1,f2,f3,f4,_⟩:=fld w
 obtain⟨w0,w1⟩:=hw
 have s24:ishr .u32 w 24=w/16777216:=by have:=Qqm (a:=w) 24 (by decide);simpa using this
 have s20:U (ishr .u32 w 20):=Qsf ⟨w0,w1⟩ _
 have s16:U (ishr .u32 w 16):=Qsf ⟨w0,w1⟩ _
 rw[m255 (Qsf ⟨w0,w1⟩ _),s24]at f1
 rw[m15 s20]at f2
 rw[m15 s16]at f3
 rw[shr0]at f4
 have g1:w/16777216%256=w/16777216:=by omega
 rw[g1]at f1
 have o0:0<=w/16777216:=by omega
 have o1:w/16777216<256:=by omega
 have eo:IntKind.wrap .i64 (w/16777216)=w/16777216:=w64 (by omega) (by omega)
 have i32: ∀x,IntKind.wrap .i64 (IntKind.wrap .i32 x)=IntKind.wrap .i32 x:=λx=>by rw[IntKind.wrap_i64,IntKind.wrap_i32];omega
 have l0:=m65535 ⟨w0,w1⟩
 have lx:=sx16 (x:=iand .u32 w 65535) (by omega) (by omega)
 simp only[Qgx,Q7a,Q2,Q65,Tree.m,letv,f1,f2,f3,f4,s24,eo,zU o0 o1,m15 s20,m15 s16,lx]
 generalize w/16777216=op at*
 generalize IntKind.wrap .i64 (ishr .u32 w 20%16)=a
 generalize IntKind.wrap .i64 (ishr .u32 w 16%16)=b
 generalize iand .u32 w 65535=l
 rw[Z84 (i:=⟨op,a,b,IntKind.wrap .i64 l,0⟩) o0 o1 rfl,Z84 (i:=⟨op,a,b,0,IntKind.wrap .i32 (IntKind.wrap .i16 l)⟩) o0 o1 (i32 _),Z84 (i:=⟨op,a,b,0,IntKind.wrap .i32 l⟩) o0 o1 (i32 _)]
 rcases zg o0 o1 with h|h|h|h|h|h|h|h|h|h<;>rw[h]<;>rfl
theorem qac(x v:BitVec 32)(s:Nat)(hs:s<=24):((x&&&~~~(255#32<<<s))|||((v&&&255#32)<<<s)).toNat=2^(s+8)*(x.toNat/2^(s+8))+(2^s*(v.toNat%256)+x.toNat%2^s):=by
  have hx:=x.isLt
  have h1:x.toNat%2^s<2^s:=Nat.mod_lt _ (Nat.two_pow_pos s)
  have h2:2^s*(v.toNat%256)+x.toNat%2^s<2^(s+8):=by
    have:v.toNat%256<256:=Nat.mod_lt _ (by decide)
    have h3:2^s*(v.toNat%256)<=2^s*255:=Nat.mul_le_mul_left _ (by omega)
    have:2^(s+8)=2^s*256:=by rw[Nat.pow_add]
    omega
  rw[Nat.two_pow_add_eq_or_of_lt h2,Nat.two_pow_add_eq_or_of_lt h1]
  apply Nat.eq_of_testBit_eq
  intro i
  rw[BitVec.testBit_toNat]
  simp only[BitVec.getLsbD_or,BitVec.getLsbD_and,BitVec.getLsbD_not,BitVec.getLsbD_shiftLeft,Nat.testBit_or,Nat.testBit_two_pow_mul,Nat.testBit_mod_two_pow,Nat.testBit_div_two_pow,BitVec.getLsbD_ofNat]
  have e255: ∀j,Nat.testBit 255 j=decide (j<8):=λj=>by
    rw[show 255=2^8-1 from rfl,Nat.testBit_two_pow_sub_one]
  have e256: ∀n j,Nat.testBit (n%256) j=(decide (j<8)&&Nat.testBit n j):=λn j=>by
    rw[show 256=2^8 from rfl,Nat.testBit_mod_two_pow]
  rw[e255,e256]
  by_cases hi:i<32
  . by_cases a1:i<s
    . have a2: ¬(s<=i):=by omega
      have a3: ¬(s+8<=i):=by omega
      simp [hi,a1,a2,a3,BitVec.getLsbD]
    . by_cases a4:s+8<=i
      . have a2: ¬(i-s<8):=by omega
        have a5:i-(s+8)+(s+8)=i:=by omega
        have a6:s<=i:=by omega
        simp [hi,a1,a2,a4,a5,a6,BitVec.getLsbD]
      . have a2:(i-s<8):=by omega
        have a6:s<=i:=by omega
        have a7:i-s<32:=by omega
        simp [hi,a1,a2,a4,a6,a7,BitVec.getLsbD]
  . have a0:x.toNat.testBit i=false:=Nat.testBit_lt_two_pow (Nat.lt_of_lt_of_le hx (Nat.pow_le_pow_right (by decide) (by omega)))
    have a1: ¬(i<s):=by omega
    have a2: ¬(i-s<8):=by omega
    have a4:s+8<=i:=by omega
    have a5:i-(s+8)+(s+8)=i:=by omega
    simp [hi,a0,a1,a2,a4,a5]
theorem Z6g(b:BitVec 32):BitVec.ofInt 32 (IntKind.wrap .u32 (b.toNat:Int))=b:=by
 have:=b.isLt
 rw[IntKind.wrap_u32]
 apply BitVec.eq_of_toNat_eq
 rw[BitVec.toNat_ofInt];omega
theorem Zkp(x:Int):BitVec.ofInt 32 (IntKind.wrap .u32 x)=BitVec.ofInt 32 x:=by
 apply BitVec.eq_of_toNat_eq
 rw[BitVec.toNat_ofInt,BitVec.toNat_ofInt,IntKind.wrap_u32]
 have:((2^32:Nat):Int)=4294967296:=by decide
 rw[this,Int.emod_emod_of_dvd _ (Int.dvd_refl _)]
theorem Zc7{x:Int}(hx:U x)(s:Nat)(hs:s<=32):BitVec.ofInt 32 (ishl .u32 x s)=BitVec.ofInt 32 x<<<s:=by
 obtain⟨n,rfl⟩: ∃n:Nat,x=n:=⟨x.toNat,by have:=hx.1;omega⟩
 have e:min (Int.toNat (s:Int)) IntKind.u32.bits=s:=by show min (Int.toNat (s:Int)) 32=s;omega
 unfold ishl
 rw[e,Zkp]
 have e2:((n:Int)*2^s)=((n*2^s:Nat):Int):=by simp
 have:=hx.2
 rw[e2,BitVec.ofInt_natCast,BitVec.ofInt_natCast]
 apply BitVec.eq_of_toNat_eq
 rw[BitVec.toNat_shiftLeft,BitVec.toNat_ofNat,BitVec.toNat_ofNat,Nat.shiftLeft_eq,Nat.mod_mul_mod]
def putW(W v:Int)(s:Nat):Int:=ior .u32 (Qg7 .u32 W (ishl .u32 255 s)) (ishl .u32 (iand .u32 v 255) s)
theorem zac{W v:Int}(hW:U W)(hv:U v)(s:Nat)(hs:s<=24):putW W v s=2^(s+8)*(W/2^(s+8))+(2^s*(v%256)+W%2^s):=by
 have e:=qac (BitVec.ofInt 32 W) (BitVec.ofInt 32 v) s hs
 have l:=((BitVec.ofInt 32 W&&&~~~(255#32<<<s))|||((BitVec.ofInt 32 v&&&255#32)<<<s)).isLt
 have h1:BitVec.ofInt 32 (Qg7 .u32 W (ishl .u32 255 s))=BitVec.ofInt 32 W&&&~~~(255#32<<<s):=by
   show BitVec.ofInt 32 (IntKind.wrap .u32 (BitVec.ofInt 32 W&&&~~~BitVec.ofInt 32 (ishl .u32 255 s)).toNat)=_
   rw[Z6g,Zc7 ⟨by decide,by decide⟩ s (by omega)]
   rfl
 have h2:BitVec.ofInt 32 (ishl .u32 (iand .u32 v 255) s)=(BitVec.ofInt 32 v&&&255#32)<<<s:=by
   rw[Zc7 (Qit _ _) s (by omega)]
   congr 1
   show BitVec.ofInt 32 (IntKind.wrap .u32 (BitVec.ofInt 32 v&&&BitVec.ofInt 32 255).toNat)=_
   rw[Z6g];rfl
 show IntKind.wrap .u32 ((BitVec.ofInt 32 (Qg7 .u32 W (ishl .u32 255 s))|||BitVec.ofInt 32 (ishl .u32 (iand .u32 v 255) s)).toNat:Int)=_
 rw[h1,h2]
 have lw:IntKind.wrap .u32 ((((BitVec.ofInt 32 W&&&~~~(255#32<<<s))|||((BitVec.ofInt 32 v&&&255#32)<<<s)).toNat:Nat):Int)=(((BitVec.ofInt 32 W&&&~~~(255#32<<<s))|||((BitVec.ofInt 32 v&&&255#32)<<<s)).toNat:Nat):=by rw[IntKind.wrap_u32];omega
 rw[lw,e,Qva hW,Qva hv]
 obtain⟨n,rfl⟩: ∃n:Nat,W=n:=⟨W.toNat,by have:=hW.1;omega⟩
 obtain⟨k,rfl⟩: ∃n:Nat,v=n:=⟨v.toNat,by have:=hv.1;omega⟩
 simp
def dig(w:Int)(k:Nat):Int:=if k=0 then w%256 else if k=1 then w/256%256 else if k=2 then w/65536%256 else w/16777216%256
def byt(m:List Int)(a:Nat):Int:=dig (m.getD (a/4) 0) (a%4)
theorem vg(w:Int)(k:Nat):0<=dig w k/\dig w k<256:=by
 unfold dig
 split
 . omega
 . split
   . omega
   . split<;>omega
theorem xac{w v:Int}(hw:U w)(hv:U v)(h: ∀k,k<4->dig w k=dig v k):w=v:=by
 have h0:=h 0 (by omega)
 have h1:=h 1 (by omega)
 have h2:=h 2 (by omega)
 have h3:=h 3 (by omega)
 simp [dig]at h0 h1 h2 h3
 obtain⟨a,b⟩:=hw
 obtain⟨c,d⟩:=hv
 omega
theorem Zg4{m n:List Int}(hl:m.length=n.length)(hm: ∀w∈m,U w)(hn: ∀w∈n,U w)(h: ∀a,byt m a=byt n a):m=n:=by
 refine List.ext_getElem hl λi h1 h2=> ?_
 have e1:m[i]=m.getD i 0:=by simp [List.getD,h1]
 have e2:n[i]=n.getD i 0:=by simp [List.getD,h2]
 rw[e1,e2]
 refine xac (Ql4 hm i) (Ql4 hn i) λk hk=> ?_
 have:=h (4*i+k)
 simp only[byt]at this
 rwa [show(4*i+k)/4=i by omega,show(4*i+k)%4=k by omega]at this
theorem Qtu{l:List Int}{i:Nat}(h:i<l.length)(v:Int):(l.set i v).getD i 0=v:=by
 simp [List.getD,h]
theorem Zi3{m:List Int}{i:Nat}(hi:i<m.length)(v:Int)(a:Nat):byt (m.set i v) a=if a/4=i then dig v (a%4) else byt m a:=by
 unfold byt
 split
 . rename_i h;rw[h,Qtu hi]
 . rename_i h;rw[getDset _ _ _ _ (λe=>h e.symm)]
theorem qad{W v:Int}(hW:U W)(hv:U v){j:Nat}(hj:j<4){k:Nat}(hk:k<4):dig (putW W v (8*j)) k=if k=j then v%256 else dig W k:=by
 have h:=zac hW hv (8*j) (by omega)
 rw[h]
 obtain⟨w0,w1⟩:=hW
 have h0:0<=v%256:=by omega
 have h1:v%256<256:=by omega
 generalize v%256=b at*
 clear h
 have hj:j=0\/j=1\/j=2\/j=3:=by omega
 have hk:k=0\/k=1\/k=2\/k=3:=by omega
 rcases hj with rfl|rfl|rfl|rfl<;>rcases hk with rfl|rfl|rfl|rfl<;>simp [dig]<;>omega
theorem zad{m:List Int}{a v:Int}(ha:U a):Qac m a 1 v=m.set (a/4).toNat (putW (m.getD (a/4).toNat 0) v (8*(a%4).toNat)):=by
 obtain⟨a0,a1⟩:=ha
 have e1:IntKind.wrap .u32 (Int.tdiv a 4)=a/4:=by rw[IntKind.wrap_u32,Int.tdiv_eq_ediv_of_nonneg a0];omega
 have e2:IntKind.wrap .u32 (8*Int.tmod a 4)=((8*(a%4).toNat:Nat):Int):=by rw[IntKind.wrap_u32,Int.tmod_eq_emod_of_nonneg a0];omega
 have e3:((1:Int)==4)=false:=rfl
 simp only[Qac,Qe3,Tree.m,e1,e2,e3,cond_false]
 rfl
theorem qh{P:Nat}{m:List Int}(h:Q1 P m){a v:Int}(ha:U a)(hl:a<128*P)(hv:U v):Q1 P (Qac m a 1 v)/\ ∀b:Nat,byt (Qac m a 1 v) b=if(b:Int)=a then v%256 else byt m b:=by
 have hlen:=h.len
 have a0:=ha.1
 rw[zad ha]
 have hi:(a/4).toNat<m.length:=by omega
 refine⟨⟨by rw[List.length_set];exact hlen,h.p1,h.p2,Qyv h.u (U_or _ _) _⟩,λb=> ?_⟩
 rw[Zi3 hi]
 by_cases hb:b/4=(a/4).toNat
 . rw[if_pos hb,qad (Ql4 h.u _) hv (by omega) (by omega)]
   by_cases hc:b%4=(a%4).toNat
   . rw[if_pos hc,if_pos (by omega)]
   . rw[if_neg hc,if_neg (by omega),byt,hb]
 . rw[if_neg hb,if_neg (by omega)]
theorem yU{P:Nat}{m:List Int}(h:Q1 P m){frame:Int}(f0:0<=frame)(f1:frame<P)(s:List UInt8):(Q9d m frame s).w (λr=>Q1 P r/\ ∀b:Nat,byt r b=if frame*128<=b/\(b:Int)<frame*128+min s.length 128 then((s.getD (b-frame*128).toNat 0).toNat:Int) else byt m b):=by
 unfold Q9d
 have h3:=h.p2
 refine w_lp (inv:=λz=>0<=z.1/\z.1<=min s.length 128/\Q1 P z.2/\ ∀b:Nat,byt z.2 b=if frame*128<=b/\(b:Int)<frame*128+z.1 then((s.getD (b-frame*128).toNat 0).toNat:Int) else byt m b) (μ:=Qhc m frame s) ⟨show(0:Int)<=0 by decide,by show(0:Int)<=_;omega,h,λb=>by rw[if_neg];show¬(_/\_<_+(0:Int));omega⟩ (Nat.lt_succ_self _) (λv0 hv0=> ?_)
 obtain⟨i,mm⟩:=v0
 obtain⟨i0,i1,hm,hy⟩:=hv0
 have i0:0<=i:=i0
 have i1:i<=min s.length 128:=i1
 have hm:Q1 P mm:=hm
 have fin: ∀r:List Int,r=mm->i=min s.length 128->Q1 P r/\ ∀b:Nat,byt r b=if frame*128<=b/\(b:Int)<frame*128+min s.length 128 then((s.getD (b-frame*128).toNat 0).toNat:Int) else byt m b:=λr hr hi=>by
   subst hr;refine⟨hm,λb=> ?_⟩
   rw[hy b];simp only[hi]
 refine w_br (λh1=>w_br (λh2=>w_cn ?_ ?_) (λh2=>fin mm rfl ?_)) (λh1=>fin mm rfl ?_)
 . have:=of_decide_eq_true h1
   simp [Nat.blt];omega
 . have h1:i<s.length:=of_decide_eq_true h1
   have h2:i<128:=of_decide_eq_true h2
   have e:IntKind.wrap IntKind.u32 (IntKind.wrap IntKind.i64 (IntKind.wrap IntKind.i64 (frame*128)+i))=frame*128+i:=by
     rw[IntKind.wrap_u32,IntKind.wrap_i64,IntKind.wrap_i64];omega
   show(Tree.an (Qem mm (IntKind.wrap IntKind.u32 (IntKind.wrap IntKind.i64 (IntKind.wrap IntKind.i64 (frame*128)+i))) 1 _) (Tree.lv _ _)).w _
   rw[e]
   have hu:U (frame*128+i):=⟨by omega,by omega⟩
   have hvU: ∀n:Nat,U (IntKind.wrap .u32 (n:Int)):=λn=>Q0r _
   obtain⟨g1,_⟩:=Tree.pp (put_w hm (size:=1) (addr:=frame*128+i) hu (by rw[hm.len];omega) (hvU (UInt8.toNat (s.getD i.toNat 0))))
   obtain⟨g2,g3⟩:=qh hm hu (by omega) (hvU (UInt8.toNat (s.getD i.toNat 0)))
   refine w_an g1 (w_lv λx0 hx0=> ?_)
   rw[hx0]
   have ew:IntKind.i64.wrap (i+1)=i+1:=by rw[IntKind.wrap_i64];omega
   refine w_nx ?_
   show(0<=IntKind.i64.wrap (i+1)/\IntKind.i64.wrap (i+1)<=min s.length 128/\Q1 P _/\ ∀b:Nat,byt _ b=if frame*128<=b/\(b:Int)<frame*128+IntKind.i64.wrap (i+1) then _ else _)/\(128-IntKind.i64.wrap (i+1)).toNat<(128-i).toNat
   rw[ew]
   refine⟨⟨by omega,by omega,g2,λb=> ?_⟩,by omega⟩
   rw[show Qac mm (frame*128+i) 1 _=_ from rfl,g3 b]
   by_cases hb:(b:Int)=frame*128+i
   . rw[if_pos hb,if_pos (by omega),IntKind.wrap_u32]
     have:=(s.getD i.toNat 0).toNat_lt
     rw[show(b-frame*128).toNat=i.toNat by omega];omega
   . rw[if_neg hb,hy b]
     show(if frame*128<=(b:Int)/\(b:Int)<frame*128+i then _ else _)=_
     by_cases hc:frame*128<=(b:Int)/\(b:Int)<frame*128+i
     . rw[if_pos hc,if_pos (by omega)]
     . rw[if_neg hc,if_neg (by omega)]
 . have h1:i<s.length:=of_decide_eq_true h1
   have h2: ¬i<128:=of_decide_eq_false h2
   omega
 . have h1: ¬i<s.length:=of_decide_eq_false h1
   omega
theorem xh{x y:Int}(hx:U x)(hy:U y)(k:Nat)(hk:x<2^k)(h:x+y*2^k<4294967296):ior .u32 x (y*2^k)=x+y*2^k:=by
 obtain⟨n,rfl⟩: ∃n:Nat,x=n:=⟨x.toNat,by have:=hx.1;omega⟩
 obtain⟨z,rfl⟩: ∃n:Nat,y=n:=⟨y.toNat,by have:=hy.1;omega⟩
 have e:((z:Int)*2^k)=((z*2^k:Nat):Int):=by simp
 rw[e]at h⊢
 have hn:n<2^k:=by exact_mod_cast hk
 rw[xaB hx ⟨by omega,by omega⟩,Int.toNat_natCast,Int.toNat_natCast,Nat.or_comm,Nat.mul_comm,<-Nat.two_pow_add_eq_or_of_lt hn]
 omega
theorem four{a b c d:Int}(ha:0<=a/\a<256)(hb:0<=b/\b<256)(hc:0<=c/\c<256)(hd:0<=d/\d<256):ior .u32 (ior .u32 (ior .u32 (IntKind.wrap .u32 a) (ishl .u32 (IntKind.wrap .u32 b) 8)) (ishl .u32 (IntKind.wrap .u32 c) 16)) (ishl .u32 (IntKind.wrap .u32 d) 24)=a+b*2^8+c*2^16+d*2^24:=by
 have w: ∀{x:Int},0<=x/\x<256->IntKind.wrap .u32 x=x:=λhx=>by rw[IntKind.wrap_u32];omega
 have s8: ∀{x:Int},0<=x/\x<256->ishl .u32 x 8=x*2^8:=fun{x} hx=>by show IntKind.wrap .u32 (x*2^8)=_;rw[IntKind.wrap_u32];omega
 have s16: ∀{x:Int},0<=x/\x<256->ishl .u32 x 16=x*2^16:=fun{x} hx=>by show IntKind.wrap .u32 (x*2^16)=_;rw[IntKind.wrap_u32];omega
 have s24: ∀{x:Int},0<=x/\x<256->ishl .u32 x 24=x*2^24:=fun{x} hx=>by show IntKind.wrap .u32 (x*2^24)=_;rw[IntKind.wrap_u32];omega
 rw[w ha,w hb,w hc,w hd,s8 hb,s16 hc,s24 hd]
 rw[xh ⟨by omega,by omega⟩ ⟨by omega,by omega⟩ 8 (by omega) (by omega),xh ⟨by omega,by omega⟩ ⟨by omega,by omega⟩ 16 (by omega) (by omega),xh ⟨by omega,by omega⟩ ⟨by omega,by omega⟩ 24 (by omega) (by omega)]
theorem qH{a b c d:Int}(ha:0<=a/\a<256)(hb:0<=b/\b<256)(hc:0<=c/\c<256)(hd:0<=d/\d<256)(k:Nat)(hk:k<4):dig (a+b*2^8+c*2^16+d*2^24) k=if k=0 then a else if k=1 then b else if k=2 then c else d:=by
 have hk:k=0\/k=1\/k=2\/k=3:=by omega
 rcases hk with rfl|rfl|rfl|rfl<;>simp [dig]<;>omega
theorem Z7l{P:Nat}{m:List Int}(h:Q1 P m)(f:Int):Q59 m f=decide (0<=f/\f<P):=by
 have hp:=Q3i h
 simp only[Q59,Q80,Tree.m,letv,hp]
 by_cases h1:0<=f
 . rw[decide_eq_true h1];simp [h1]
 . rw[decide_eq_false h1];simp [h1]
theorem xH(s:List UInt8)(a b k:Nat)(h:k<b):(List.take b (List.drop a s)).getD k 0=s.getD (a+k) 0:=by
 simp [List.getD_eq_getElem?_getD,List.getElem?_take,h]
theorem u8I(x:UInt8):0<=(x.toNat:Int)/\(x.toNat:Int)<256:=by have:=x.toNat_lt;omega
theorem Qzv{P:Nat}{m:List Int}(h:Q1 P m){f:Int}(f0:0<=f)(f1:f<P){s:List UInt8}(hs:s.length=128):(Q3g m f s).w (λr=>r.2=true/\Q1 P r.1/\ ∀b:Nat,byt r.1 b=if f*128<=b/\(b:Int)<f*128+128 then((s.getD (b-f*128).toNat 0).toNat:Int) else byt m b):=by
  have hcl:Q03 m=m:=rfl
  have h2:=h.p2
  unfold Q3g
  refine w_an (Q8n h) (w_lv λx0 hx0=>w_lv λx1 hx1=> ?_)
  rw[hcl]at hx0;subst hx0
  rw[Z7l h,decide_eq_true ⟨f0,f1⟩]at hx1
  subst hx1
  refine w_br (λhb=>by cases hb) λ_=>w_br (λhb=>by simp [hs]at hb) λ_=> ?_
  refine w_lp (inv:=λz:Int×List Int=>0<=z.1/\z.1<=32/\Q1 P z.2/\ ∀b:Nat,byt z.2 b=if f*128<=b/\(b:Int)<f*128+4*z.1 then((s.getD (b-f*128).toNat 0).toNat:Int) else byt x0 b) (μ:=Qah x0 f s) ⟨show(0:Int)<=0 by decide,show(0:Int)<=32 by decide,h,λb=>by rw[if_neg];show¬(_/\_<_+4*(0:Int));omega⟩ (Nat.lt_succ_self _) λz ⟨z1,z2,z3,z4⟩=> ?_
  refine w_br (λhb=> ?_) (λhb=>⟨rfl,z3,λb=> ?_⟩)
  . have hb:=of_decide_eq_true hb
    have e1:IntKind.i64.wrap (4*z.1)=4*z.1:=by rw[IntKind.wrap_i64];omega
    have e2:IntKind.i64.wrap (IntKind.i64.wrap (4*z.1)+4)=4*z.1+4:=by rw[IntKind.wrap_i64,IntKind.wrap_i64];omega
    have e3:IntKind.i64.wrap (IntKind.i64.wrap (f*32)+z.1)=f*32+z.1:=by rw[IntKind.wrap_i64,IntKind.wrap_i64];omega
    have hl:=z3.len
    have cut:Int.toNat (IntKind.i64.wrap (IntKind.i64.wrap (4*z.1)+4))-Int.toNat (IntKind.i64.wrap (4*z.1))=4:=by rw[e2,e1];omega
    have hlen:(List.take (Int.toNat (IntKind.i64.wrap (IntKind.i64.wrap (4*z.1)+4))-Int.toNat (IntKind.i64.wrap (4*z.1))) (List.drop (Int.toNat (IntKind.i64.wrap (4*z.1))) s)).length=4:=by
      rw[cut,e1,List.length_take,List.length_drop];omega
    refine w_cn (decide_eq_true (by rw[e2,e1];omega)) ?_
    refine w_cn (decide_eq_true (by rw[hlen];decide)) (w_cn (decide_eq_true (by rw[hlen];decide)) (w_cn (decide_eq_true (by rw[hlen];decide)) (w_cn (decide_eq_true (by rw[hlen];decide)) (w_cn (by rw[e3];simp [Nat.blt];omega) (w_nx ?_)))))
    have ew:IntKind.i64.wrap (z.1+1)=z.1+1:=by rw[IntKind.wrap_i64];omega
    rw[cut]
    refine⟨⟨by show 0<=IntKind.i64.wrap (z.1+1);rw[ew];omega,by show IntKind.i64.wrap (z.1+1)<=32;rw[ew];omega,?_,?_⟩,by show(32-IntKind.i64.wrap (z.1+1)).toNat<(32-z.1).toNat;rw[ew];omega⟩
    . show Q1 P (List.set _ _ _)
      exact⟨by rw[List.length_set];exact hl,z3.p1,z3.p2,Qyv z3.u (U_or _ _) _⟩
    . intro b
      show byt (List.set z.2 (Int.toNat (IntKind.i64.wrap (IntKind.i64.wrap (f*32)+z.1))) _) b=if f*128<=(b:Int)/\(b:Int)<f*128+4*IntKind.i64.wrap (z.1+1) then _ else _
      rw[e3,ew,four (u8I _) (u8I _) (u8I _) (u8I _),Zi3 (by omega)]
      have g: ∀k:Nat,k<4->(List.take 4 (List.drop (Int.toNat (IntKind.i64.wrap (4*z.1))) s)).getD k 0=s.getD ((4*z.1).toNat+k) 0:=λk hk=>by rw[e1];exact xH _ _ _ _ hk
      by_cases hc:b/4=(f*32+z.1).toNat
      . have hin:f*128<=(b:Int)/\(b:Int)<f*128+4*(z.1+1):=by omega
        rw[if_pos hc,qH (u8I _) (u8I _) (u8I _) (u8I _) _ (by omega),if_pos hin]
        have hb4:b%4=0\/b%4=1\/b%4=2\/b%4=3:=by omega
        have gi:(b-f*128).toNat=(4*z.1).toNat+b%4:=by omega
        rw[gi]
        rcases hb4 with h4|h4|h4|h4<;>rw[h4]
        . rw[if_pos rfl,<-g 0 (by omega)];rfl
        . rw[if_neg (by decide),if_pos rfl,<-g 1 (by omega)];rfl
        . rw[if_neg (by decide),if_neg (by decide),if_pos rfl,<-g 2 (by omega)];rfl
        . rw[if_neg (by decide),if_neg (by decide),if_neg (by decide),<-g 3 (by omega)];rfl
      . rw[if_neg hc,z4 b]
        by_cases hd:f*128<=(b:Int)/\(b:Int)<f*128+4*z.1
        . rw[if_pos hd,if_pos (by omega)]
        . rw[if_neg hd,if_neg (by omega)]
  . have hb:=of_decide_eq_false hb
    show byt z.2 b=_
    rw[z4 b,show z.1=32 by omega]
    rfl
theorem Za6{α:Type}(l l2:List α)(k:Nat)(z:α):(l++l2).getD k z=if k<l.length then l.getD k z else l2.getD (k-l.length) z:=by
 simp only[List.getD_eq_getElem?_getD,List.getElem?_append]
 split<;>rfl
theorem u8w{x:Int}:IntKind.wrap .u8 x=x%256:=IntKind.wrap_u8 x
theorem shr_c(W:Int):ishr .u32 W 8=W/256/\ishr .u32 W 16=W/65536/\ishr .u32 W 24=W/16777216:=by
 refine⟨?_,?_,?_⟩
 . show Int.fdiv W 256=_;rw[Int.fdiv_eq_ediv_of_nonneg _ (by decide)]
 . show Int.fdiv W 65536=_;rw[Int.fdiv_eq_ediv_of_nonneg _ (by decide)]
 . show Int.fdiv W 16777216=_;rw[Int.fdiv_eq_ediv_of_nonneg _ (by decide)]
theorem b4d(W:Int){k:Nat}(hk:k<4):[IntKind.wrap .u8 W,IntKind.wrap .u8 (ishr .u32 W 8),IntKind.wrap .u8 (ishr .u32 W 16),IntKind.wrap .u8 (ishr .u32 W 24)].getD k 0=dig W k:=by
 obtain⟨a,b,c⟩:=shr_c W
 have hk:k=0\/k=1\/k=2\/k=3:=by omega
 rcases hk with rfl|rfl|rfl|rfl<;>simp [dig,a,b,c,u8w]
theorem Qnv(l:List Int)(k:Nat)(h:0<=l.getD k 0/\l.getD k 0<256)(hk:k<l.length):(((bytesOf l).getD k 0).toNat:Int)=l.getD k 0:=by
 have e:(bytesOf l).getD k 0=UInt8.ofNat (l.getD k 0).toNat:=by
   simp [bytesOf,List.getD_eq_getElem?_getD,hk]
 rw[e,UInt8.toNat_ofNat']
 omega
theorem Zfu(l:List UInt8)(k:Nat)(hk:k<l.length):(Q9j l).getD k 0=((l.getD k 0).toNat:Int):=by
 simp [Q9j,List.getD_eq_getElem?_getD,hk]
theorem qaC(w:List Int)(h:w.length<=32):(Q50 w).w (λr=>r.length=4*w.length/\ ∀k:Nat,k<4*w.length->((r.getD k 0).toNat:Int)=dig (w.getD (k/4) 0) (k%4)):=by
 have e0:IntKind.i64.wrap (4*(w.length:Int))=4*w.length:=by rw[IntKind.wrap_i64];omega
 unfold Q50
 refine w_cn (by rw[e0];simp [Nat.blt,D.plain];omega) ?_
 refine w_lp (inv:=λz:Int×List Int=>0<=z.1/\z.1<=w.length/\(z.2.length:Int)=4*z.1/\ ∀k:Nat,(k:Int)<4*z.1->z.2.getD k 0=dig (w.getD (k/4) 0) (k%4)) (μ:=Q74 w) ⟨by decide,by show(0:Int)<=w.length;omega,rfl,λk hk=>by have hk:(k:Int)<4*0:=hk;omega⟩ (Nat.lt_succ_self _) λz ⟨z1,z2,z3,z4⟩=> ?_
 refine w_br (λhb=> ?_) (λhb=> ?_)
 . have hb:=of_decide_eq_true hb
   have ew:IntKind.i64.wrap (z.1+1)=z.1+1:=by rw[IntKind.wrap_i64];omega
   refine w_cn (by simp [Nat.blt];omega) (w_cn (decide_eq_true (by omega)) (w_nx ?_))
   show(_/\_/\_/\ ∀k:Nat,(k:Int)<4*IntKind.i64.wrap (z.1+1)->(z.2++_).getD k 0=_)/\(_:Nat)<_
   refine⟨⟨by rw[ew];omega,by rw[ew];omega,by rw[ew,List.length_append];simp only[List.length_cons,List.length_nil];omega,λk hk=> ?_⟩,by show(w.length-IntKind.i64.wrap (z.1+1)).toNat<(w.length-z.1).toNat;rw[ew];omega⟩
   rw[ew]at hk
   rw[Za6]
   split
   . exact z4 k (by omega)
   . rename_i hn
     rw[b4d _ (by omega),show z.1.toNat=k/4 by omega,show k-z.2.length=k%4 by omega]
 . have hb:=of_decide_eq_false hb
   show(bytesOf z.2).length=_/\ ∀k:Nat,_->(((bytesOf z.2).getD k 0).toNat:Int)=_
   refine⟨by rw[Qhg];omega,λk hk=> ?_⟩
   have e:=z4 k (by omega)
   have:=vg (w.getD (k/4) 0) (k%4)
   rw[Qnv _ _ (by rw[e];exact this) (by omega),e]
def isPg(m:List Int)(f:Int)(r:List UInt8):Prop:=r.length=128/\ ∀k:Nat,k<128->((r.getD k 0).toNat:Int)=byt m ((f*128).toNat+k)
theorem zaC{m:List Int}{f:Int}{r s:List UInt8}(a:isPg m f r)(b:isPg m f s):r=s:=by
 obtain⟨a1,a2⟩:=a
 obtain⟨b1,b2⟩:=b
 refine List.ext_getElem (by omega) λi h1 h2=> ?_
 have e:=(a2 i (by omega)).trans (b2 i (by omega)).symm
 have e1:r[i]=r.getD i 0:=by simp [List.getD,h1]
 have e2:s[i]=s.getD i 0:=by simp [List.getD,h2]
 rw[e1,e2]
 exact UInt8.toNat_inj.1 (by omega)
theorem zh{P:Nat}{m:List Int}(h:Q1 P m){f:Int}(f0:0<=f)(f1:f<P):(Q63 m f).w (λr=>isPg m f r.1/\r.2=true):=by
 have hl:=h.len
 have h2:=h.p2
 unfold Q63
 refine w_lv λx0 hx0=> ?_
 rw[Z7l h,decide_eq_true ⟨f0,f1⟩]at hx0
 subst hx0
 refine w_br (λhb=>by cases hb) (λhb=> ?_)
 have e1:IntKind.i64.wrap (f*32)=f*32:=by rw[IntKind.wrap_i64];omega
 have e2:IntKind.i64.wrap (IntKind.i64.wrap (f*32)+32)=f*32+32:=by rw[IntKind.wrap_i64,IntKind.wrap_i64];omega
 have cut:Int.toNat (IntKind.i64.wrap (IntKind.i64.wrap (f*32)+32))-Int.toNat (IntKind.i64.wrap (f*32))=32:=by rw[e2,e1];omega
 have hlen:(List.take 32 (List.drop (Int.toNat (IntKind.i64.wrap (f*32))) m)).length=32:=by
   rw[e1,List.length_take,List.length_drop];omega
 refine w_cn (by rw[e2,e1];simp [Nat.blt];omega) ?_
 rw[cut]
 refine w_an (by show List.length _<=1000000000000;rw[hlen];decide) (w_lv λx1 h1=> ?_)
 have t:=(Tree.pp (qaC _ (Nat.le_of_eq hlen))).2
 rw[hlen,show(Q50 (List.take 32 (List.drop (Int.toNat (IntKind.i64.wrap (f*32))) m))).m=x1 from h1.symm]at t
 refine⟨⟨t.1,λk hk=> ?_⟩,rfl⟩
 show((x1.getD k 0).toNat:Int)=_
 rw[t.2 k hk,byt,e1]
 have g:(List.take 32 (List.drop (Int.toNat (f*32)) m)).getD (k/4) 0=m.getD ((f*32).toNat+k/4) 0:=by
   simp [List.getD_eq_getElem?_getD,List.getElem?_take,show k/4<32 by omega]
 rw[g,show((f*128).toNat+k)/4=(f*32).toNat+k/4 by omega,show((f*128).toNat+k)%4=k%4 by omega]
theorem xaC(x:Int):Z8u x 4=bytesOf [IntKind.wrap .u8 (ishr .u32 x 0),IntKind.wrap .u8 (ishr .u32 x 8),IntKind.wrap .u8 (ishr .u32 x 16),IntKind.wrap .u8 (ishr .u32 x 24)]:=by kernel_rfl
theorem xad{P:Nat}{m:List Int}(hm:Q1 P m){frame:Int}(f0:0<=frame)(f1:frame<P):(Q99 m frame).w (λr=>isPg m frame r.1/\r.2=true):=by
 have hp:=Qee hm
 have hl:=hm.len
 have h2:=hm.p2
 unfold Q99
 refine w_br (λh=>by have:=of_decide_eq_true h;omega) (λh=>w_lv λx0 hx=>w_br (λh1=>by have:=of_decide_eq_true h1;rw[hx,hp]at this;omega) (λh1=> ?_))
 refine w_lp (inv:=λz:Int×List Int=>0<=z.1/\z.1<=32/\(z.2.length:Int)=4*z.1/\ ∀k:Nat,(k:Int)<4*z.1->z.2.getD k 0=byt m ((frame*128).toNat+k)) (μ:=Qi1 m frame) ⟨by decide,by decide,rfl,λk hk=>by have hk:(k:Int)<4*0:=hk;omega⟩ (Nat.lt_succ_self _) (λz hz=> ?_)
 obtain⟨z1,z2,z3,z4⟩:=hz
 refine w_br (λhb=> ?_) (λhb=> ?_)
 . have hb:=of_decide_eq_true hb
   have e:IntKind.wrap IntKind.i64 (IntKind.wrap IntKind.i64 (frame*32)+z.1)=frame*32+z.1:=by rw[IntKind.wrap_i64,IntKind.wrap_i64];omega
   refine w_cn (by rw[e];simp [Nat.blt];omega) (w_an (show(4:Int)<=1000000000000 by decide) (w_lv λx1 h4=> ?_))
   rw[xaC,shr0,e]at h4
   have l4:x1.length=4:=by rw[h4];rfl
   refine w_cn (decide_eq_true (by rw[Qoz,l4];omega)) (w_nx ?_)
   show(0<=IntKind.i64.wrap (z.1+1)/\IntKind.i64.wrap (z.1+1)<=32/\((z.2++Q9j x1).length:Int)=4*IntKind.i64.wrap (z.1+1)/\ ∀k:Nat,(k:Int)<4*IntKind.i64.wrap (z.1+1)->(z.2++Q9j x1).getD k 0=_)/\(32-IntKind.i64.wrap (z.1+1)).toNat<(32-z.1).toNat
   have ew:IntKind.i64.wrap (z.1+1)=z.1+1:=by rw[IntKind.wrap_i64];omega
   rw[ew]
   refine⟨⟨by omega,by omega,by rw[List.length_append,Qoz,l4];omega,λk hk=> ?_⟩,by omega⟩
   rw[Za6]
   split
   . exact z4 k (by omega)
   . rename_i hn
     have hk4:k-z.2.length<4:=by omega
     rw[Zfu _ _ (by omega),h4]
     have d:=b4d (m.getD (frame*32+z.1).toNat 0) hk4
     rw[Qnv _ _ (by rw[d];exact vg _ _) (by simpa using hk4),d,byt]
     rw[show((frame*128).toNat+k)/4=(frame*32+z.1).toNat by omega,show((frame*128).toNat+k)%4=k-z.2.length by omega]
 . have hb:=of_decide_eq_false hb
   refine⟨⟨?_,λk hk=> ?_⟩,rfl⟩
   . show(bytesOf z.2).length=128
     rw[Qhg];omega
   . show(((bytesOf z.2).getD k 0).toNat:Int)=_
     have e:=z4 k (by omega)
     rw[Qnv _ _ (by rw[e];exact vg _ _) (by omega),e]
theorem Zau{P:Nat}{m:List Int}(h:Q1 P m)(f:Int):Q5o m f=Qi0 m f:=by
 by_cases hf:0<=f/\f<P
 . have a:=(Tree.pp (zh h hf.1 hf.2)).2
   have b:=(Tree.pp (xad h hf.1 hf.2)).2
   exact Prod.ext (zaC a.1 b.1) (a.2.trans b.2.symm)
 . have hp:=Qee h
   have e1:Q5o m f=([],false):=by
     simp only[Q5o,Q63,Tree.m,letv,Z7l h,decide_eq_false hf];rfl
   have e2:Qi0 m f=([],false):=by
     simp only[Qi0,Q99,Tree.m,letv,hp]
     by_cases h0:f<0
     . rw[decide_eq_true h0];rfl
     . rw[decide_eq_false h0,decide_eq_true (show f>=P by omega)];rfl
   rw[e1,e2]
section
variable {P:Nat} {m:List Int} (h:Q1 P m)
include h
theorem Zc{f:Int}(f0:0<=f)(f1:f<P){s:List UInt8}(hs:s.length=128):Q2r m f s=(Qkt m f s,true):=by
 have a:=(Tree.pp (Qzv h f0 f1 hs)).2
 have b:=(Tree.pp (yU h f0 f1 s)).2
 refine Prod.ext (Zg4 (a.2.1.len.trans b.1.len.symm) a.2.1.u b.1.u λk=> ?_) a.1
 have e:((min s.length 128:Nat):Int)=128:=by rw[hs];rfl
 have b2:=b.2 k
 have a2:=a.2.2 k
 rw[e]at b2
 exact a2.trans b2.symm
theorem Zcy{f:Int}(f0:0<=f)(f1:f<P){s r:List UInt8}(hs:s.length<=128)(hr:isPg m f r):Q2r m f (s++r.drop s.length)=(Qkt m f s,true):=by
  have hl:(s++r.drop s.length).length=128:=by have:=hr.1;simp;omega
  have a:=(Tree.pp (Qzv h f0 f1 hl)).2
  have b:=(Tree.pp (yU h f0 f1 s)).2
  refine Prod.ext (Zg4 (a.2.1.len.trans b.1.len.symm) a.2.1.u b.1.u λk=> ?_) a.1
  have b2:=b.2 k
  have a2:=a.2.2 k
  refine a2.trans (Eq.trans ?_ b2.symm)
  by_cases hc:f*128<=(k:Int)/\(k:Int)<f*128+128
  . rw [if_pos hc,Za6]
    by_cases hd:(k-f*128).toNat<s.length
    . rw[if_pos hd,if_pos (by omega)]
    . rw[if_neg hd,if_neg (by omega)]
      have e:(r.drop s.length).getD ((k-f*128).toNat-s.length) 0=r.getD (k-f*128).toNat 0:=by
        simp [List.getD_eq_getElem?_getD,show s.length+((k-f*128).toNat-s.length)=(k-f*128).toNat by omega]
      rw[e,hr.2 _ (by omega),show(f*128).toNat+(k-f*128).toNat=k by omega]
  . rw[if_neg hc,if_neg (by omega)]
theorem Qgp{a:Int}(ha:U a){size:Int}(hs:size=1\/size=4):Q22 m a size=decide (a%size=0/\a<128*P):=by
 have hq:=Qee h
 have h2:=h.p2
 have a0:=ha.1
 have e:IntKind.wrap IntKind.u32 size=size:=by rcases hs with rfl|rfl<;>decide
 have e0:decide (IntKind.wrap IntKind.u32 size≠0)=true:=by rcases hs with rfl|rfl<;>decide
 have t:Int.tmod a (IntKind.wrap IntKind.u32 size)=a%size:=by rw[e,Int.tmod_eq_emod_of_nonneg a0]
 have l: ∀x,x=Q3k m->a%size=0->decide (a<IntKind.wrap IntKind.u32 (IntKind.wrap IntKind.i64 (128*x)))=decide (a%size=0/\a<128*P):=λx hx hz=>by
   rw[hx,hq,IntKind.wrap_u32,IntKind.wrap_i64]
   exact decide_eq_decide.2 ⟨λh=>⟨hz,by omega⟩,λh=>by omega⟩
 refine Tree.post (Q7m m a size) (W:=λb=>b=decide (a%size=0/\a<128*P)) ?_
 unfold Q7m
 refine w_br (λh1=>w_br (λh4=> ?_) (λ_=> ?_)) (λ_=> ?_)
 . have h1: ¬size=1:=by simpa using h1
   have h4: ¬size=4:=by simpa using h4
   omega
 all_goals
   refine w_cn e0 (w_br (λhb=>w_lv λx hx=>l x hx ?_) (λhb=> ?_))
   . rw[t]at hb;exact eq_of_beq hb
   . rw[t]at hb
     exact(decide_eq_false (λh=>by rw[h.1]at hb;cases hb)).symm
theorem Z0u{a:Int}(ha:U a){size:Int}(hs:size=1\/size=4):Qg1 m a size=Q22 m a size:=by
 rw[Qgp h ha hs]
 have hq:=Z2n h
 have h2:=h.p2
 have a0:=ha.1
 have a1:=ha.2
 have e:IntKind.wrap IntKind.u32 size=size:=by rcases hs with rfl|rfl<;>decide
 have e0:decide (IntKind.wrap IntKind.u32 size≠0)=true:=by rcases hs with rfl|rfl<;>decide
 have t:Int.tmod a (IntKind.wrap IntKind.u32 size)=a%size:=by rw[e,Int.tmod_eq_emod_of_nonneg a0]
 have l: ∀x,x=Q0u m->a%size=0->decide (IntKind.wrap IntKind.u64 (IntKind.wrap IntKind.u64 a+IntKind.wrap IntKind.u64 size)<=IntKind.wrap IntKind.u64 (IntKind.wrap IntKind.u64 x*128))=decide (a%size=0/\a<128*P):=λx hx hz=>by
   rw[hx,hq]
   simp only[IntKind.wrap_u64]
   refine decide_eq_decide.2 ⟨λh=>⟨hz,?_⟩,λh=> ?_⟩<;>rcases hs with rfl|rfl<;>omega
 refine Tree.post (Q37 m a size) (W:=λb=>b=decide (a%size=0/\a<128*P)) ?_
 unfold Q37
 refine w_br (λh1=>w_br (λh4=> ?_) (λ_=> ?_)) (λ_=> ?_)
 . have h1: ¬size=1:=by simpa using h1
   have h4: ¬size=4:=by simpa using h4
   omega
 all_goals
   refine w_cn e0 (w_br (λhb=> ?_) (λhb=>w_lv λx hx=>l x hx ?_))
   . rw[t]at hb
     exact(decide_eq_false (λh=>by rw[h.1]at hb;cases hb)).symm
   . rw[t]at hb;simpa using hb
end
theorem fldj(w:Int):Q2z w 0 8=iand .u32 (ishr .u32 w 0) 255/\Q2z w 8 8=iand .u32 (ishr .u32 w 8) 255/\Q2z w 16 8=iand .u32 (ishr .u32 w 16) 255/\Q2z w 24 8=iand .u32 (ishr .u32 w 24) 255:=
 ⟨by kernel_rfl,by kernel_rfl,by kernel_rfl,by kernel_rfl⟩
theorem setj(w v:Int):Q7r w 0 8 v=putW w v 0/\Q7r w 8 8 v=putW w v 8/\Q7r w 16 8 v=putW w v 16/\Q7r w 24 8 v=putW w v 24:=
 ⟨by kernel_rfl,by kernel_rfl,by kernel_rfl,by kernel_rfl⟩
theorem yh{a:Int}(ha:U a):IntKind.wrap .i64 (IntKind.wrap .i64 (Int.tmod a 4)*8)=8*(a%4)/\IntKind.wrap .u32 (8*Int.tmod a 4)=8*(a%4):=by
 obtain⟨a0,a1⟩:=ha
 rw[Int.tmod_eq_emod_of_nonneg a0]
 exact⟨by rw[IntKind.wrap_i64,IntKind.wrap_i64];omega,by rw[IntKind.wrap_u32];omega⟩
section
variable {P:Nat} {m:List Int} (h:Q1 P m)
include h
theorem Qom{a:Int}(ha:U a){size:Int}(hs:size=1\/size=4):Q4s m a size=Q17 m a size:=by
 have e:=Z0u h ha hs
 obtain⟨s1,s2⟩:=yh ha
 have f:Q2z (m.getD (Int.toNat (IntKind.wrap .u32 (Int.tdiv a 4))) 0) (8*(a%4)) 8=iand .u32 (ishr .u32 (m.getD (Int.toNat (IntKind.wrap .u32 (Int.tdiv a 4))) 0) (8*(a%4))) 255:=by
   obtain⟨f0,f1,f2,f3⟩:=fldj (m.getD (Int.toNat (IntKind.wrap .u32 (Int.tdiv a 4))) 0)
   have:a%4=0\/a%4=1\/a%4=2\/a%4=3:=by omega
   rcases this with h|h|h|h<;>rw[h]
   . exact f0
   . exact f1
   . exact f2
   . exact f3
 simp only[Q4s,Q6b,Q17,Q3t,Tree.m,letv,e,s1,s2,f]
omit h in
theorem Z9z(a:Int)(size:Int):(Q17 m a size).2=Q22 m a size:=by
 simp only[Q17,Q3t,Tree.m,letv]
 cases Q22 m a size
 . rfl
 . cases size==1<;>rfl
theorem Z5e{a:Int}(ha:U a){size:Int}(hs:size=1\/size=4)(v:Int):Q9r m a size v=bif Q22 m a size then(Qac m a size v,true) else(m,false):=by
 have hcl:Q03 m=m:=rfl
 have e:=Z0u h ha hs
 obtain⟨s1,s2⟩:=yh ha
 have f: ∀w,Q7r w (8*(a%4)) 8 v=ior .u32 (Qg7 .u32 w (ishl .u32 255 (8*(a%4)))) (ishl .u32 (iand .u32 v 255) (8*(a%4))):=λw=>by
   obtain⟨f0,f1,f2,f3⟩:=setj w v
   have:a%4=0\/a%4=1\/a%4=2\/a%4=3:=by omega
   rcases this with h|h|h|h<;>rw[h]
   . exact f0
   . exact f1
   . exact f2
   . exact f3
 simp only[Q9r,Q8f,Qac,Qe3,Tree.m,letv,hcl,e,s1,s2,f]
 rcases hs with rfl|rfl<;>cases Q22 m a _<;>rfl
end
section
variable {P:Nat} {m:List Int} (h:Q1 P m)
include h
theorem vh{root va:Int}(hr:U root)(hv:U va){access:Int}(ha:access=1\/access=2\/access=3):Qhh m root va access=Q64 m root va access:=by
 have hp:=Qee h
 have h2:=h.p2
 have hlen:=h.len
 obtain⟨r1,r2⟩:=hr
 obtain⟨v1,v2⟩:=hv
 have hpg: ∀{f:Int},U f->Qa9 m f=decide (f<P):=λhf=>qR h hf
 have eP:IntKind.wrap .u32 (P:Int)=P:=by rw[IntKind.wrap_u32];omega
 have kn:Qdv access=true:=by rcases ha with rfl|rfl|rfl<;>rfl
 have ca:Qju access=(Q20 access,true):=by rcases ha with rfl|rfl|rfl<;>rfl
 simp only[Qhh,Qa7,Q64,Q95,Tree.m,letv,hp,eP,kn,ca,hpg ⟨r1,r2⟩]
 by_cases c1:va>=4096
 . rw[decide_eq_true c1];rfl
 by_cases c2:root<P
 . have eE:IntKind.wrap IntKind.u32 (IntKind.wrap IntKind.u32 (root*128)+IntKind.wrap IntKind.u32 (4*IntKind.wrap IntKind.u32 (Int.tdiv va 128)))=root*128+4*(va/128):=by
     rw[Int.tdiv_eq_ediv_of_nonneg v1,IntKind.wrap_u32,IntKind.wrap_u32,IntKind.wrap_u32,IntKind.wrap_u32];omega
   have hE:U (root*128+4*(va/128)):=⟨by omega,by omega⟩
   have wi:Q22 m (root*128+4*(va/128)) 4=true:=by
     rw[Qgp h hE (.inr rfl)];exact decide_eq_true ⟨by omega,by omega⟩
   rw[decide_eq_false c1,decide_eq_true c2,decide_eq_false (show¬root>=P by omega),eE,Qom h hE (.inr rfl),Z9z,wi]
   have ld:(Q17 m (root*128+4*(va/128)) 4).1=m.getD (Int.toNat (IntKind.wrap .u32 (Int.tdiv (root*128+4*(va/128)) 4))) 0:=by
     simp only[Q17,Q3t,Tree.m,letv,wi];rfl
   rw[ld]
   generalize m.getD (Int.toNat (IntKind.wrap .u32 (Int.tdiv (root*128+4*(va/128)) 4))) 0=w
   have fo:Qeg w=iand .u32 (ishr .u32 w 8) 255:=(fld w).2.2.2.2
   rw[fo,hpg (Qit _ _)]
   have hge:decide (iand .u32 (ishr .u32 w 8) 255>=(P:Int))=!decide (iand .u32 (ishr .u32 w 8) 255<(P:Int)):=by
     by_cases hq:iand .u32 (ishr .u32 w 8) 255<(P:Int)
     . rw[decide_eq_true hq,decide_eq_false (by omega)];rfl
     . rw[decide_eq_false hq,decide_eq_true (by omega)];rfl
   rw[hge]
   generalize decide (iand .u32 (ishr .u32 w 8) 255<(P:Int))=d
   rcases ha with rfl|rfl|rfl
   . show _=(bif iand .u32 w 1==0 then _ else bif iand .u32 w 4==0 then _ else bif !d then _ else _)
     have:Qav w 1=(bif iand .u32 w 1==0 then false else !(iand .u32 w 4==0)):=rfl
     rw[this]
     cases iand .u32 w 1==0<;>cases iand .u32 w 4==0<;>cases d<;>rfl
   . show _=(bif iand .u32 w 1==0 then _ else bif !d then _ else _)
     have:Qav w 2=(bif iand .u32 w 1==0 then false else true):=rfl
     rw[this]
     cases iand .u32 w 1==0<;>cases d<;>rfl
   . show _=(bif iand .u32 w 1==0 then _ else bif iand .u32 w 2==0 then _ else bif !d then _ else _)
     have:Qav w 3=(bif iand .u32 w 1==0 then false else !(iand .u32 w 2==0)):=rfl
     rw[this]
     cases iand .u32 w 1==0<;>cases iand .u32 w 2==0<;>cases d<;>rfl
 . rw[decide_eq_false c1,decide_eq_false c2,decide_eq_true (show root>=P by omega)];rfl
theorem Zmd{a:Int}(ha:U a)(access:Int):Qbr m a access=Qoq m a access:=by
 have hcl:Q03 m=m:=rfl
 have hl:=h.len
 have a0:=ha.1
 simp only[Qbr,Q8i,Qoq,Qdr,Tree.m,letv,Qom h ha (.inr rfl),Z9z,Z5e h ha (.inr rfl),hcl]
 cases hw:Q22 m a 4
 . rfl
 . rw[Qgp h ha (.inr rfl)]at hw
   have hw:=of_decide_eq_true hw
   have wi:Q22 m a 4=true:=by rw[Qgp h ha (.inr rfl)];exact decide_eq_true hw
   have ld:(Q17 m a 4).1=m.getD (Int.toNat (IntKind.wrap .u32 (Int.tdiv a 4))) 0:=by
     simp only[Q17,Q3t,Tree.m,letv,wi];rfl
   have pu: ∀v,Qac m a 4 v=m.set (Int.toNat (IntKind.wrap .u32 (Int.tdiv a 4))) v:=λv=>rfl
   rw[ld,pu,pu]
   have hi:Int.toNat (IntKind.wrap .u32 (Int.tdiv a 4))<m.length:=by
     rw[Int.tdiv_eq_ediv_of_nonneg a0,IntKind.wrap_u32];omega
   generalize Int.toNat (IntKind.wrap .u32 (Int.tdiv a 4))=i at*
   rw[Qtu hi,List.set_set]
   rfl
end
theorem Qoc{c:Q04}(h0:0<=c.B5.a0)(h:c.B5.a0<=31)(k b:Int):Q4f c k b=Q2s c k b:=by
 have e:=eq_of_beq (Qtl (λs=>Qg7 .u32 (ior .u32 (Q8q (Q8q s 1 8) 2 16) 1) 2==ior .u32 (Qg7 .u32 (ior .u32 (ior .u32 (Qg7 .u32 s 24) (IntKind.wrap .u32 (8*Qb1 (iand .u32 s 1 !=0)))) (IntKind.wrap .u32 (16*Qb1 (iand .u32 s 2 !=0)))) 2) 1) 32 (by kernel_rfl) h0 (by omega))
 simp only[Q4f,Qkz,Q2s,Qim,Tree.m,letv,e]
theorem Zi9{c:Q04}(h0:0<=c.B5.a0)(h:c.B5.a0<=31):Qe7 c=Qh6 c:=by
 have e:=eq_of_beq (Qtl (λs=>Q8q (Q8q s 8 1) 16 2==ior .u32 (ior .u32 (Qg7 .u32 s 3) (IntKind.wrap .u32 (1*Qb1 (iand .u32 s 8 !=0)))) (IntKind.wrap .u32 (2*Qb1 (iand .u32 s 16 !=0)))) 32 (by kernel_rfl) h0 (by omega))
 simp only[Qe7,Qew,Qh6,Qc1,Tree.m,letv,e]
theorem Z6w{c:Q04}(h0:0<=c.B5.a0)(h:c.B5.a0<=31):Qkp c=(!Qa0 c&&(iand .u32 c.B5.a0 4 !=0)):=
 eq_of_beq (Qtl (λs=>(iand .u32 s 5==4)==(!(iand .u32 s 1 !=0)&&(iand .u32 s 4 !=0))) 32 (by kernel_rfl) h0 (by omega))
theorem Qz8(c:Q04){r:Int}(hr:0<=r/\r<16)(v:Int):Qai c r v=Q1y c r v:=by
 simp only[Qai,Qch,Q1y,Qdu,Tree.m]
 by_cases h:r=0
 . subst h;rfl
 . rw[decide_eq_true (show r>0 by omega),decide_eq_true hr.2,show(r !=0)=true by simpa using h];rfl
theorem zH{a b:Int}(ha:U a)(hb:U b):Qb8 a b=Qbc a b:=by
  obtain⟨a0,a1⟩:=ha
  obtain⟨b0,b1⟩:=hb
  have i: ∀x,IntKind.wrap .i64 (IntKind.wrap .i32 x)=IntKind.wrap .i32 x:=λx=>by rw[IntKind.wrap_i64,IntKind.wrap_i32];omega
  have r32: ∀x,-2147483648<=IntKind.wrap .i32 x/\IntKind.wrap .i32 x<2147483648:=λx=>by rw[IntKind.wrap_i32];omega
  have q32: ∀x y:Int,-2147483648<=x/\x<2147483648-> -2147483648<=Int.tdiv x y/\Int.tdiv x y<=2147483648:=λx y hx=>by
    have h1:(Int.tdiv x y).natAbs<=x.natAbs:=by rw[Int.natAbs_tdiv];exact Nat.div_le_self _ _
    omega
  simp only[Qb8,Qad,Qbc,Q9v,Tree.m,i]
  cases hb:b==0
  . have w: ∀z,IntKind.wrap .u32 (IntKind.wrap .i32 z)=IntKind.wrap .u32 z:=λz=>by rw[IntKind.wrap_i32,IntKind.wrap_u32,IntKind.wrap_u32];omega
    have w2:IntKind.wrap .i64 (Int.tdiv (IntKind.wrap .i32 a) (IntKind.wrap .i32 b))=Int.tdiv (IntKind.wrap .i32 a) (IntKind.wrap .i32 b):=by
      have:=q32 _ (IntKind.wrap .i32 b) (r32 a)
      rw[IntKind.wrap_i64];omega
    rw[w,w2]
    cases h1:a==2147483648
    . rfl
    . cases h2:b==4294967295
      . rfl
      . have h1:=eq_of_beq h1
        have h2:=eq_of_beq h2
        subst h1;subst h2
        rfl
  . rfl
theorem yH{op a b:Int}(h0:1<=op)(h1:op<=23)(ha:U a)(hb:U b):Q4c op a b=Qcd op a b:=by
 have sub:IntKind.wrap .u32 (a+IntKind.wrap .u32 (0-b))=IntKind.wrap .u32 (a-b):=by
   rw[IntKind.wrap_u32,IntKind.wrap_u32,IntKind.wrap_u32];omega
 have hop:op=1\/op=2\/op=3\/op=4\/op=5\/op=6\/op=7\/op=8\/op=9\/op=10\/op=11\/op=12\/op=13\/op=14\/op=15\/op=16\/op=17\/op=18\/op=19\/op=20\/op=21\/op=22\/op=23:=by omega
 have d:=zH ha hb
 rcases hop with rfl|rfl|rfl|rfl|rfl|rfl|rfl|rfl|rfl|rfl|rfl|rfl|rfl|rfl|rfl|rfl|rfl|rfl|rfl|rfl|rfl|rfl|rfl
 . rfl
 . show(IntKind.wrap .u32 (a+IntKind.wrap .u32 (0-b)),true)=(IntKind.wrap .u32 (a-b),true)
   rw[sub]
 . rfl
 . rfl
 . rfl
 . rfl
 . rfl
 . rfl
 . rfl
 . show((Qb8 a b).1,true)=((Qbc a b).1,true)
   rw[d]
 . show((Qb8 a b).2,true)=((Qbc a b).2,true)
   rw[d]
 all_goals rfl
theorem Qne{P:Nat}{m:List Int}(h:Q1 P m){c:Q04}(hc:Q2b c)(hst:c.B5.a0<=31){va:Int}(hv:U va){size:Int}(hs:size=1\/size=4){access:Int}(ha:access=1\/access=2\/access=3):Q23 c m va size access=((Q11 c m va size access).1,(Q11 c m va size access).2.2,(Q11 c m va size access).2.1):=by
 have hcl:Q03 m=m:=rfl
 have kn:Qdv access=true:=by rcases ha with rfl|rfl|rfl<;>rfl
 have ca:Qr0 access=(Q20 access,true):=by rcases ha with rfl|rfl|rfl<;>rfl
 have pg:=Z6w hc.a0.1 hst
 have wk:=vh h hc.a6 hv ha
 have tc:Qbr m (Q64 m c.B5.a6 va access).F4 access=Qoq m (Q64 m c.B5.a6 va access).F4 access:=Zmd h (Tree.pp (vW h hc.a6 hv access)).2.2.1 access
 have sz:(bif size !=1 then bif size !=4 then false else true else true)=true:=by rcases hs with rfl|rfl<;>rfl
 simp only[Q23,Q6f,Q11,Q75,Tree.m,letv,hcl,kn,ca,pg,wk,tc,Qom h hv hs,Z9z]
 rcases hs with rfl|rfl<;>
 . show(bif _ then _ else _)=_
   cases Int.tmod va _ !=0<;>cases Qa0 c<;>cases iand .u32 c.B5.a0 4 !=0<;>cases(Q64 m c.B5.a6 va access).F1 !=0<;>cases Q22 m va _<;>rfl
theorem Z17{α:Type}{Q:α->Prop}{c:Bool}{x y:α}(hx:Q x)(hy:Q y):Q (cond c x y):=by cases c<;>assumption
theorem qae(m:List Int)(root:Int){va:Int}(hv:U va)(access:Int):(Q64 m root va access).F1=0->(Q64 m root va access).Addr%4=va%4:=by
 have hc:Q20 access≠0:=by
   simp only[Q20,Q8l,Tree.m]
   cases access==1<;>cases access==3<;>simp
 have q :(λt:Q15=>t.F1=0->t.Addr%4=va%4) (Q64 m root va access):=by
   simp only[Q64,Q95,Tree.m,letv]
   repeat'(first
     |exact λe=>absurd e hc
     | (intro _
        show IntKind.wrap .u32 (IntKind.wrap .u32 (_*128)+Int.tmod va 128)%4=va%4
        rw[Int.tmod_eq_emod_of_nonneg hv.1,IntKind.wrap_u32,IntKind.wrap_u32];omega)
     |refine Z17 (Q:=λt:Q15=>t.F1=0->t.Addr%4=va%4) ?_ ?_)
 exact q
theorem vH{c:Q04}{m:List Int}{va:Int}(hv:U va){size:Int}(hs:size=1\/size=4){access:Int}(ha:access=1\/access=2\/access=3):(Q11 c m va size access).2.1=0->(Q11 c m va size access).1%size=0:=by
  have kn:Qdv access=true:=by rcases ha with rfl|rfl|rfl<;>rfl
  have hc:Q20 access≠0:=by
    simp only[Q20,Q8l,Tree.m]
    cases access==1<;>cases access==3<;>simp
  rcases hs with rfl|rfl
  . intro _;omega
  simp only[Q11,Q75,Tree.m,letv,kn]
  show(bif Int.tmod va 4 !=0 then((0:Int),(3:Int),m) else _).2.1=0->(bif Int.tmod va 4 !=0 then((0:Int),(3:Int),m) else _).1%4=0
  rw[Int.tmod_eq_emod_of_nonneg hv.1]
  cases hz:va%4 !=0
  . have hz:va%4=0:=by simpa using hz
    have w:=qae m c.B5.a6 hv access
    cases hp:Qkp c
    . cases hw:Q22 m va 4
      . exact λe=>absurd e hc
      . exact λ_=>hz
    . cases hq:(Q64 m c.B5.a6 va access).F1 !=0
      . have hq:(Q64 m c.B5.a6 va access).F1=0:=by simpa using hq
        exact λ_=>(w hq).trans hz
      . have hq: ¬(Q64 m c.B5.a6 va access).F1=0:=by simpa using hq
        exact λe=>absurd e hq
  . intro e;cases e
def eff0:Q10:={B7:=0,D1:=0,E0:=0,Value:=0}
def Q5e(c:Q04)(m:List Int)(i:Q0k):Q04×List Int×Q10:=
 bif i.Op==32 then((Q6g c m i).1,(Q6g c m i).2,eff0) else bif i.Op==33 then((Q6g c m i).1,(Q6g c m i).2,eff0) else bif i.Op==34 then((Q6g c m i).1,(Q6g c m i).2,eff0)
 else bif i.Op==35 then((Q82 c m i).1,(Q82 c m i).2,eff0) else bif i.Op==36 then((Q82 c m i).1,(Q82 c m i).2,eff0) else((Qle c i).1,m,(Qle c i).2)
def regX(c:Q04)(r:Int):Int:=List.getD (A16.l c.X) r.toNat 0
def Qiv(c:Q04)(m:List Int)(i:Q0k):Q04×Q10×List Int:=
 bif decide (i.Op>=56) then((Qhu c i).1,(Qhu c i).2,m) else bif decide (i.Op>=40) then(Z1l c i,eff0,m) else bif decide (i.Op>=32) then((Q5 c m i).1,eff0,(Q5 c m i).2)
 else bif i.Op==24 then({X:=(Q1y c i.A (ishl .u32 (IntKind.wrap .u32 i.Imm) 16)).X,Pc:=IntKind.wrap .u32 ((Q1y c i.A (ishl .u32 (IntKind.wrap .u32 i.Imm) 16)).Pc+4),B5:=(Q1y c i.A (ishl .u32 (IntKind.wrap .u32 i.Imm) 16)).B5},eff0,m)
 else bif decide (i.Op<=13) then
   ({X:=(Q1y c i.A (Qcd i.Op (regX c i.B) (regX c i.C)).1).X,Pc:=IntKind.wrap .u32 ((Q1y c i.A (Qcd i.Op (regX c i.B) (regX c i.C)).1).Pc+4),B5:=(Q1y c i.A (Qcd i.Op (regX c i.B) (regX c i.C)).1).B5},eff0,m)
 else({X:=(Q1y c i.A (Qcd i.Op (regX c i.B) (IntKind.wrap .u32 i.Imm)).1).X,Pc:=IntKind.wrap .u32 ((Q1y c i.A (Qcd i.Op (regX c i.B) (IntKind.wrap .u32 i.Imm)).1).Pc+4),B5:=(Q1y c i.A (Qcd i.Op (regX c i.B) (IntKind.wrap .u32 i.Imm)).1).B5},eff0,m)
def isOp(op:Int):Prop:=op=1\/op=2\/op=3\/op=4\/op=5\/op=6\/op=7\/op=8\/op=9\/op=10\/op=11\/op=12\/op=13\/op=16\/op=17\/op=18\/op=19\/op=20\/op=21\/op=22\/op=23\/op=24\/op=32\/op=33\/op=34\/op=35\/op=36\/op=40\/op=41\/op=42\/op=43\/op=44\/op=45\/op=48\/op=49\/op=56\/op=57\/op=58\/op=59\/op=60\/op=61\/op=62\/op=63\/op=64
theorem vU(c:Q04)(r v:Int):(Q1y c r v).Pc=c.Pc/\(Q1y c r v).B5=c.B5:=by
 simp only[Q1y,Qdu,Tree.m]
 cases decide (r>0)
 . exact⟨rfl,rfl⟩
 . cases decide (r<16)<;>exact⟨rfl,rfl⟩
def adv(c:Q04):Q04:={X:=c.X,Pc:=IntKind.wrap .u32 (c.Pc+4),B5:=c.B5}
def va(c:Q04)(B Imm:Int):Int:=IntKind.wrap .u32 (List.getD (A16.l c.X) B.toNat 0+IntKind.wrap .u32 Imm)
def ldP(c:Q04)(A v size:Int)(f:Int->Int)(y:Int×List Int×Int):Q04×List Int:=bif y.2.2 !=0 then(Q4f c y.2.2 v,y.2.1) else(adv (Qai c A (f (Q4s y.2.1 y.1 size).1)),y.2.1)
def ldR(c:Q04)(A v size:Int)(f:Int->Int)(x:Int×Int×List Int):Q04×List Int:=bif x.2.1 !=0 then(Q2s c x.2.1 v,x.2.2) else(adv (Q1y c A (f (Q17 x.2.2 x.1 size).1)),x.2.2)
def stP(c:Q04)(A v size:Int)(y:Int×List Int×Int):Q04×List Int:=bif y.2.2 !=0 then(Q4f c y.2.2 v,y.2.1) else(adv c,(Q9r y.2.1 y.1 size (List.getD (A16.l c.X) A.toNat 0)).1)
def stR(c:Q04)(A v size:Int)(x:Int×Int×List Int):Q04×List Int:=bif x.2.1 !=0 then(Q2s c x.2.1 v,x.2.2) else(adv c,Qac x.2.2 x.1 size (List.getD (A16.l c.X) A.toNat 0))
theorem ld_eq(c:Q04)(m:List Int)(A B C Imm:Int):
   (Q6g c m ⟨32,A,B,C,Imm⟩=ldP c A (va c B Imm) 4 (λv=>v) (Q23 c m (va c B Imm) 4 2)/\Q5 c m ⟨32,A,B,C,Imm⟩=ldR c A (va c B Imm) 4 (λv=>v) (Q11 c m (va c B Imm) 4 2))/\
   (Q6g c m ⟨33,A,B,C,Imm⟩=ldP c A (va c B Imm) 1 (λv=>Q2f v 8) (Q23 c m (va c B Imm) 1 2)/\Q5 c m ⟨33,A,B,C,Imm⟩=ldR c A (va c B Imm) 1 (λv=>Q3a v 8) (Q11 c m (va c B Imm) 1 2))/\
   (Q6g c m ⟨34,A,B,C,Imm⟩=ldP c A (va c B Imm) 1 (λv=>v) (Q23 c m (va c B Imm) 1 2)/\Q5 c m ⟨34,A,B,C,Imm⟩=ldR c A (va c B Imm) 1 (λv=>v) (Q11 c m (va c B Imm) 1 2))/\
   (Q82 c m ⟨35,A,B,C,Imm⟩=stP c A (va c B Imm) 4 (Q23 c m (va c B Imm) 4 3)/\Q5 c m ⟨35,A,B,C,Imm⟩=stR c A (va c B Imm) 4 (Q11 c m (va c B Imm) 4 3))/\
   (Q82 c m ⟨36,A,B,C,Imm⟩=stP c A (va c B Imm) 1 (Q23 c m (va c B Imm) 1 3)/\Q5 c m ⟨36,A,B,C,Imm⟩=stR c A (va c B Imm) 1 (Q11 c m (va c B Imm) 1 3)):=
 ⟨⟨by kernel_rfl,by kernel_rfl⟩,⟨by kernel_rfl,by kernel_rfl⟩,⟨by kernel_rfl,by kernel_rfl⟩,⟨by kernel_rfl,by kernel_rfl⟩,⟨by kernel_rfl,by kernel_rfl⟩⟩
theorem zae{P:Nat}{m:List Int}(h:Q1 P m)(a:Int):Q2f (Q17 m a 1).1 8=Q3a (Q17 m a 1).1 8:=by
 have: ∀x:Int×Bool,(∃w,U w/\x=(iand .u32 w 255,true))\/x=(0,false)->Q2f x.1 8=Q3a x.1 8:=λx hx=>by
   rcases hx with⟨w,hw,rfl⟩|rfl
   . have e:=m255 hw
     exact sx8 (by show 0<=iand .u32 w 255;omega) (by show iand .u32 w 255<256;omega)
   . rfl
 refine this _ ?_
 simp only[Q17,Q3t,Tree.m,letv]
 cases Q22 m a 1
 . exact .inr rfl
 . exact .inl ⟨_,Qsf (Ql4 h.u _) _,rfl⟩
section
variable {P:Nat} {m:List Int} (h:Q1 P m) {c:Q04} (hc:Q2b c) (hst:c.B5.a0<=31)
include h hc hst
omit hst in
theorem Zgn{v:Int}(hv:U v){size:Int}(hs:size=1\/size=4)(access:Int):Q1 P (Q11 c m v size access).2.2/\U (Q11 c m v size access).1/\((Q11 c m v size access).2.1=0->(Q11 c m v size access).1<128*P):=(Tree.pp (Z8z h hc hv hs access)).2
theorem Zh1{A v:Int}(hA:0<=A/\A<16)(hv:U v){size:Int}(hs:size=1\/size=4){f g:Int->Int}(hf: ∀{m':List Int},Q1 P m'-> ∀a,f (Q17 m' a size).1=g (Q17 m' a size).1):ldP c A v size f (Q23 c m v size 2)=ldR c A v size g (Q11 c m v size 2):=by
 rw[Qne h hc hst hv hs (.inr (.inl rfl))]
 obtain⟨k,u,_⟩:=Zgn h hc hv hs 2
 generalize Q11 c m v size 2=x at*
 simp only[ldP,ldR,Qom k u hs,Qoc hc.a0.1 hst,Qz8 c hA,hf k]
theorem qi{A v:Int}(hv:U v){size:Int}(hs:size=1\/size=4):stP c A v size (Q23 c m v size 3)=stR c A v size (Q11 c m v size 3):=by
 rw[Qne h hc hst hv hs (.inr (.inr rfl))]
 obtain⟨k,u,b⟩:=Zgn h hc hv hs 3
 have al:=vH (c:=c) (m:=m) hv hs (access:=3) (.inr (.inr rfl))
 generalize Q11 c m v size 3=x at*
 simp only[stP,stR,Z5e k u hs,Qoc hc.a0.1 hst,Qgp k u hs]
 cases hq:x.2.1 !=0
 . have hq:x.2.1=0:=by simpa using hq
   rw[decide_eq_true ⟨al hq,b hq⟩];rfl
 . rfl
end
theorem qI(c:Q04)(k v:Int):(Qgv c k v).Pc=c.Pc:=by
 simp only[Qgv,Qbt,Tree.m]
 repeat'(first|rfl|refine Z17 (Q:=λx:Q04=>x.Pc=c.Pc) ?_ ?_)
def setP(c:Q04)(A v p:Int):Q04:={X:=(Qai c A v).X,Pc:=p,B5:=(Qai c A v).B5}
def setR(c:Q04)(A v p:Int):Q04:={X:=(Q1y c A v).X,Pc:=p,B5:=(Q1y c A v).B5}
def nxt(c:Q04):Int:=IntKind.wrap .u32 (c.Pc+4)
theorem Zbo(c:Q04){A:Int}(hA:0<=A/\A<16)(v p:Int):setP c A v p=setR c A v p:=by
 unfold setP setR;rw[Qz8 c hA]
theorem Zhz(c:Q04)(A v:Int):adv (Q1y c A v)=setR c A v (nxt c):=by
 unfold adv setR nxt;rw[(vU c A v).1]
theorem brc(t:Bool)(x y:Q04)(m:List Int):((bif t then(x,eff0) else(y,eff0)).1,m,(bif t then(x,eff0) else(y,eff0)).2)=((bif t then x else y),m,eff0):=by cases t<;>rfl
def isOpB(op:Int):Bool:=decide (op=1)||decide (op=2)||decide (op=3)||decide (op=4)||decide (op=5)||decide (op=6)||decide (op=7)||decide (op=8)||decide (op=9)||decide (op=10)||decide (op=11)||decide (op=12)||decide (op=13)||decide (op=16)||decide (op=17)||decide (op=18)||decide (op=19)||decide (op=20)||decide (op=21)||decide (op=22)||decide (op=23)||decide (op=24)||decide (op=32)||decide (op=33)||decide (op=34)||decide (op=35)||decide (op=36)||decide (op=40)||decide (op=41)||decide (op=42)||decide (op=43)||decide (op=44)||decide (op=45)||decide (op=48)||decide (op=49)||decide (op=56)||decide (op=57)||decide (op=58)||decide (op=59)||decide (op=60)||decide (op=61)||decide (op=62)||decide (op=63)||decide (op=64)
section
variable {P:Nat} {m:List Int} (h:Q1 P m) {c:Q04} (hc:Q2b c) (hst:c.B5.a0<=31) {A B C Imm:Int} (hA:0<=A/\A<16)
include h hc hst hA
theorem xi{op:Int}(hop:isOp op):Q5e c m ⟨op,A,B,C,Imm⟩=((Qiv c m ⟨op,A,B,C,Imm⟩).1,(Qiv c m ⟨op,A,B,C,Imm⟩).2.2,(Qiv c m ⟨op,A,B,C,Imm⟩).2.1):=by
 have alu: ∀{k y:Int},1<=k->k<=23->U y->((setP c A (Q4c k (regX c B) y).1 (nxt c),m,eff0):Q04×List Int×Q10)=(adv (Q1y c A (Qcd k (regX c B) y).1),m,eff0):=λh1 h2 hy=>by
   rw[yH h1 h2 (show U (regX c B) from hc.r _) hy,Zhz,Zbo c hA]
 have uC:U (regX c C):=hc.r _
 have uI:U (IntKind.wrap .u32 Imm):=Q0r _
 obtain⟨⟨l1,l2⟩,⟨l3,l4⟩,⟨l5,l6⟩,⟨l7,l8⟩,⟨l9,l10⟩⟩:=ld_eq c m A B C Imm
 have hva:U (va c B Imm):=Q0r _
 rcases hop with rfl|rfl|rfl|rfl|rfl|rfl|rfl|rfl|rfl|rfl|rfl|rfl|rfl|rfl|rfl|rfl|rfl|rfl|rfl|rfl|rfl|rfl|rfl|rfl|rfl|rfl|rfl|rfl|rfl|rfl|rfl|rfl|rfl|rfl|rfl|rfl|rfl|rfl|rfl|rfl|rfl|rfl|rfl|rfl
 . exact(show Q5e c m ⟨1,A,B,C,Imm⟩=(setP c A (Q4c 1 (regX c B) (regX c C)).1 (nxt c),m,eff0) by kernel_rfl).trans ((alu (by decide) (by decide) uC).trans (by kernel_rfl))
 . exact(show Q5e c m ⟨2,A,B,C,Imm⟩=(setP c A (Q4c 2 (regX c B) (regX c C)).1 (nxt c),m,eff0) by kernel_rfl).trans ((alu (by decide) (by decide) uC).trans (by kernel_rfl))
 . exact(show Q5e c m ⟨3,A,B,C,Imm⟩=(setP c A (Q4c 3 (regX c B) (regX c C)).1 (nxt c),m,eff0) by kernel_rfl).trans ((alu (by decide) (by decide) uC).trans (by kernel_rfl))
 . exact(show Q5e c m ⟨4,A,B,C,Imm⟩=(setP c A (Q4c 4 (regX c B) (regX c C)).1 (nxt c),m,eff0) by kernel_rfl).trans ((alu (by decide) (by decide) uC).trans (by kernel_rfl))
 . exact(show Q5e c m ⟨5,A,B,C,Imm⟩=(setP c A (Q4c 5 (regX c B) (regX c C)).1 (nxt c),m,eff0) by kernel_rfl).trans ((alu (by decide) (by decide) uC).trans (by kernel_rfl))
 . exact(show Q5e c m ⟨6,A,B,C,Imm⟩=(setP c A (Q4c 6 (regX c B) (regX c C)).1 (nxt c),m,eff0) by kernel_rfl).trans ((alu (by decide) (by decide) uC).trans (by kernel_rfl))
 . exact(show Q5e c m ⟨7,A,B,C,Imm⟩=(setP c A (Q4c 7 (regX c B) (regX c C)).1 (nxt c),m,eff0) by kernel_rfl).trans ((alu (by decide) (by decide) uC).trans (by kernel_rfl))
 . exact(show Q5e c m ⟨8,A,B,C,Imm⟩=(setP c A (Q4c 8 (regX c B) (regX c C)).1 (nxt c),m,eff0) by kernel_rfl).trans ((alu (by decide) (by decide) uC).trans (by kernel_rfl))
 . exact(show Q5e c m ⟨9,A,B,C,Imm⟩=(setP c A (Q4c 9 (regX c B) (regX c C)).1 (nxt c),m,eff0) by kernel_rfl).trans ((alu (by decide) (by decide) uC).trans (by kernel_rfl))
 . exact(show Q5e c m ⟨10,A,B,C,Imm⟩=(setP c A (Q4c 10 (regX c B) (regX c C)).1 (nxt c),m,eff0) by kernel_rfl).trans ((alu (by decide) (by decide) uC).trans (by kernel_rfl))
 . exact(show Q5e c m ⟨11,A,B,C,Imm⟩=(setP c A (Q4c 11 (regX c B) (regX c C)).1 (nxt c),m,eff0) by kernel_rfl).trans ((alu (by decide) (by decide) uC).trans (by kernel_rfl))
 . exact(show Q5e c m ⟨12,A,B,C,Imm⟩=(setP c A (Q4c 12 (regX c B) (regX c C)).1 (nxt c),m,eff0) by kernel_rfl).trans ((alu (by decide) (by decide) uC).trans (by kernel_rfl))
 . exact(show Q5e c m ⟨13,A,B,C,Imm⟩=(setP c A (Q4c 13 (regX c B) (regX c C)).1 (nxt c),m,eff0) by kernel_rfl).trans ((alu (by decide) (by decide) uC).trans (by kernel_rfl))
 . exact(show Q5e c m ⟨16,A,B,C,Imm⟩=(setP c A (Q4c 16 (regX c B) (IntKind.wrap .u32 Imm)).1 (nxt c),m,eff0) by kernel_rfl).trans ((alu (by decide) (by decide) uI).trans (by kernel_rfl))
 . exact(show Q5e c m ⟨17,A,B,C,Imm⟩=(setP c A (Q4c 17 (regX c B) (IntKind.wrap .u32 Imm)).1 (nxt c),m,eff0) by kernel_rfl).trans ((alu (by decide) (by decide) uI).trans (by kernel_rfl))
 . exact(show Q5e c m ⟨18,A,B,C,Imm⟩=(setP c A (Q4c 18 (regX c B) (IntKind.wrap .u32 Imm)).1 (nxt c),m,eff0) by kernel_rfl).trans ((alu (by decide) (by decide) uI).trans (by kernel_rfl))
 . exact(show Q5e c m ⟨19,A,B,C,Imm⟩=(setP c A (Q4c 19 (regX c B) (IntKind.wrap .u32 Imm)).1 (nxt c),m,eff0) by kernel_rfl).trans ((alu (by decide) (by decide) uI).trans (by kernel_rfl))
 . exact(show Q5e c m ⟨20,A,B,C,Imm⟩=(setP c A (Q4c 20 (regX c B) (IntKind.wrap .u32 Imm)).1 (nxt c),m,eff0) by kernel_rfl).trans ((alu (by decide) (by decide) uI).trans (by kernel_rfl))
 . exact(show Q5e c m ⟨21,A,B,C,Imm⟩=(setP c A (Q4c 21 (regX c B) (IntKind.wrap .u32 Imm)).1 (nxt c),m,eff0) by kernel_rfl).trans ((alu (by decide) (by decide) uI).trans (by kernel_rfl))
 . exact(show Q5e c m ⟨22,A,B,C,Imm⟩=(setP c A (Q4c 22 (regX c B) (IntKind.wrap .u32 Imm)).1 (nxt c),m,eff0) by kernel_rfl).trans ((alu (by decide) (by decide) uI).trans (by kernel_rfl))
 . exact(show Q5e c m ⟨23,A,B,C,Imm⟩=(setP c A (Q4c 23 (regX c B) (IntKind.wrap .u32 Imm)).1 (nxt c),m,eff0) by kernel_rfl).trans ((alu (by decide) (by decide) uI).trans (by kernel_rfl))
 . refine(show Q5e c m ⟨24,A,B,C,Imm⟩=(setP c A (ishl .u32 (IntKind.wrap .u32 Imm) 16) (nxt c),m,eff0) by kernel_rfl).trans ?_
   rw[Zbo c hA,<-Zhz];kernel_rfl
 . have e:=Zh1 h hc hst hA hva (.inr rfl) (f:=λv=>v) (g:=λv=>v) (λ_ _=>rfl)
   rw[<-l1,<-l2]at e
   refine(show Q5e c m ⟨32,A,B,C,Imm⟩=((Q6g c m ⟨32,A,B,C,Imm⟩).1,(Q6g c m ⟨32,A,B,C,Imm⟩).2,eff0) by kernel_rfl).trans ?_
   rw[e];kernel_rfl
 . have e:=Zh1 h hc hst hA hva (.inl rfl) (f:=λv=>Q2f v 8) (g:=λv=>Q3a v 8) (λhm a=>zae hm a)
   rw[<-l3,<-l4]at e
   refine(show Q5e c m ⟨33,A,B,C,Imm⟩=((Q6g c m ⟨33,A,B,C,Imm⟩).1,(Q6g c m ⟨33,A,B,C,Imm⟩).2,eff0) by kernel_rfl).trans ?_
   rw[e];kernel_rfl
 . have e:=Zh1 h hc hst hA hva (.inl rfl) (f:=λv=>v) (g:=λv=>v) (λ_ _=>rfl)
   rw[<-l5,<-l6]at e
   refine(show Q5e c m ⟨34,A,B,C,Imm⟩=((Q6g c m ⟨34,A,B,C,Imm⟩).1,(Q6g c m ⟨34,A,B,C,Imm⟩).2,eff0) by kernel_rfl).trans ?_
   rw[e];kernel_rfl
 . have e:=qi h hc hst (A:=A) hva (.inr rfl)
   rw[<-l7,<-l8]at e
   refine(show Q5e c m ⟨35,A,B,C,Imm⟩=((Q82 c m ⟨35,A,B,C,Imm⟩).1,(Q82 c m ⟨35,A,B,C,Imm⟩).2,eff0) by kernel_rfl).trans ?_
   rw[e];kernel_rfl
 . have e:=qi h hc hst (A:=A) hva (.inl rfl)
   rw[<-l9,<-l10]at e
   refine(show Q5e c m ⟨36,A,B,C,Imm⟩=((Q82 c m ⟨36,A,B,C,Imm⟩).1,(Q82 c m ⟨36,A,B,C,Imm⟩).2,eff0) by kernel_rfl).trans ?_
   rw[e];kernel_rfl
 . exact(show Q5e c m ⟨40,A,B,C,Imm⟩=((bif(Q2a 40 (regX c A) (regX c B)) then((⟨c.X,IntKind.wrap .u32 (c.Pc+IntKind.wrap .u32 (4*IntKind.wrap .u32 Imm)),c.B5⟩:Q04),eff0) else(⟨c.X,nxt c,c.B5⟩,eff0)).1,m,(bif(Q2a 40 (regX c A) (regX c B)) then((⟨c.X,IntKind.wrap .u32 (c.Pc+IntKind.wrap .u32 (4*IntKind.wrap .u32 Imm)),c.B5⟩:Q04),eff0) else(⟨c.X,nxt c,c.B5⟩,eff0)).2) by kernel_rfl).trans ((brc (Q2a 40 (regX c A) (regX c B)) ⟨c.X,IntKind.wrap .u32 (c.Pc+IntKind.wrap .u32 (4*IntKind.wrap .u32 Imm)),c.B5⟩ ⟨c.X,nxt c,c.B5⟩ m).trans (by kernel_rfl))
 . exact(show Q5e c m ⟨41,A,B,C,Imm⟩=((bif(Q2a 41 (regX c A) (regX c B)) then((⟨c.X,IntKind.wrap .u32 (c.Pc+IntKind.wrap .u32 (4*IntKind.wrap .u32 Imm)),c.B5⟩:Q04),eff0) else(⟨c.X,nxt c,c.B5⟩,eff0)).1,m,(bif(Q2a 41 (regX c A) (regX c B)) then((⟨c.X,IntKind.wrap .u32 (c.Pc+IntKind.wrap .u32 (4*IntKind.wrap .u32 Imm)),c.B5⟩:Q04),eff0) else(⟨c.X,nxt c,c.B5⟩,eff0)).2) by kernel_rfl).trans ((brc (Q2a 41 (regX c A) (regX c B)) ⟨c.X,IntKind.wrap .u32 (c.Pc+IntKind.wrap .u32 (4*IntKind.wrap .u32 Imm)),c.B5⟩ ⟨c.X,nxt c,c.B5⟩ m).trans (by kernel_rfl))
 . exact(show Q5e c m ⟨42,A,B,C,Imm⟩=((bif(Q2a 42 (regX c A) (regX c B)) then((⟨c.X,IntKind.wrap .u32 (c.Pc+IntKind.wrap .u32 (4*IntKind.wrap .u32 Imm)),c.B5⟩:Q04),eff0) else(⟨c.X,nxt c,c.B5⟩,eff0)).1,m,(bif(Q2a 42 (regX c A) (regX c B)) then((⟨c.X,IntKind.wrap .u32 (c.Pc+IntKind.wrap .u32 (4*IntKind.wrap .u32 Imm)),c.B5⟩:Q04),eff0) else(⟨c.X,nxt c,c.B5⟩,eff0)).2) by kernel_rfl).trans ((brc (Q2a 42 (regX c A) (regX c B)) ⟨c.X,IntKind.wrap .u32 (c.Pc+IntKind.wrap .u32 (4*IntKind.wrap .u32 Imm)),c.B5⟩ ⟨c.X,nxt c,c.B5⟩ m).trans (by kernel_rfl))
 . exact(show Q5e c m ⟨43,A,B,C,Imm⟩=((bif(Q2a 43 (regX c A) (regX c B)) then((⟨c.X,IntKind.wrap .u32 (c.Pc+IntKind.wrap .u32 (4*IntKind.wrap .u32 Imm)),c.B5⟩:Q04),eff0) else(⟨c.X,nxt c,c.B5⟩,eff0)).1,m,(bif(Q2a 43 (regX c A) (regX c B)) then((⟨c.X,IntKind.wrap .u32 (c.Pc+IntKind.wrap .u32 (4*IntKind.wrap .u32 Imm)),c.B5⟩:Q04),eff0) else(⟨c.X,nxt c,c.B5⟩,eff0)).2) by kernel_rfl).trans ((brc (Q2a 43 (regX c A) (regX c B)) ⟨c.X,IntKind.wrap .u32 (c.Pc+IntKind.wrap .u32 (4*IntKind.wrap .u32 Imm)),c.B5⟩ ⟨c.X,nxt c,c.B5⟩ m).trans (by kernel_rfl))
 . exact(show Q5e c m ⟨44,A,B,C,Imm⟩=((bif(Q2a 44 (regX c A) (regX c B)) then((⟨c.X,IntKind.wrap .u32 (c.Pc+IntKind.wrap .u32 (4*IntKind.wrap .u32 Imm)),c.B5⟩:Q04),eff0) else(⟨c.X,nxt c,c.B5⟩,eff0)).1,m,(bif(Q2a 44 (regX c A) (regX c B)) then((⟨c.X,IntKind.wrap .u32 (c.Pc+IntKind.wrap .u32 (4*IntKind.wrap .u32 Imm)),c.B5⟩:Q04),eff0) else(⟨c.X,nxt c,c.B5⟩,eff0)).2) by kernel_rfl).trans ((brc (Q2a 44 (regX c A) (regX c B)) ⟨c.X,IntKind.wrap .u32 (c.Pc+IntKind.wrap .u32 (4*IntKind.wrap .u32 Imm)),c.B5⟩ ⟨c.X,nxt c,c.B5⟩ m).trans (by kernel_rfl))
 . exact(show Q5e c m ⟨45,A,B,C,Imm⟩=((bif(Q2a 45 (regX c A) (regX c B)) then((⟨c.X,IntKind.wrap .u32 (c.Pc+IntKind.wrap .u32 (4*IntKind.wrap .u32 Imm)),c.B5⟩:Q04),eff0) else(⟨c.X,nxt c,c.B5⟩,eff0)).1,m,(bif(Q2a 45 (regX c A) (regX c B)) then((⟨c.X,IntKind.wrap .u32 (c.Pc+IntKind.wrap .u32 (4*IntKind.wrap .u32 Imm)),c.B5⟩:Q04),eff0) else(⟨c.X,nxt c,c.B5⟩,eff0)).2) by kernel_rfl).trans ((brc (Q2a 45 (regX c A) (regX c B)) ⟨c.X,IntKind.wrap .u32 (c.Pc+IntKind.wrap .u32 (4*IntKind.wrap .u32 Imm)),c.B5⟩ ⟨c.X,nxt c,c.B5⟩ m).trans (by kernel_rfl))
 . refine(show Q5e c m ⟨48,A,B,C,Imm⟩=(setP c A (nxt c) (IntKind.wrap .u32 ((Qai c A (nxt c)).Pc+IntKind.wrap .u32 (4*IntKind.wrap .u32 Imm))),m,eff0) by kernel_rfl).trans ?_
   rw[Zbo c hA,Qz8 c hA,(vU c A (nxt c)).1];kernel_rfl
 . refine(show Q5e c m ⟨49,A,B,C,Imm⟩=(setP c A (nxt c) (va c B Imm),m,eff0) by kernel_rfl).trans ?_
   rw[Zbo c hA];kernel_rfl
 . refine(show Q5e c m ⟨56,A,B,C,Imm⟩=(Q4f c 7 0,m,eff0) by kernel_rfl).trans ?_
   rw[Qoc hc.a0.1 hst];kernel_rfl
 . refine(show Q5e c m ⟨57,A,B,C,Imm⟩=(Qe7 c,m,eff0) by kernel_rfl).trans ?_
   rw[Zi9 hc.a0.1 hst];kernel_rfl
 . refine(show Q5e c m ⟨58,A,B,C,Imm⟩=(setP c A (List.getD (A8.l c.B5) Imm.toNat 0) (nxt c),m,eff0) by kernel_rfl).trans ?_
   rw[Zbo c hA,<-Zhz];kernel_rfl
 . have e:=qI c (IntKind.wrap .i64 Imm) (regX c A)
   refine(show Q5e c m ⟨59,A,B,C,Imm⟩=((⟨(Qgv c (IntKind.wrap .i64 Imm) (regX c A)).X,IntKind.wrap .u32 (c.Pc+4),(Qgv c (IntKind.wrap .i64 Imm) (regX c A)).B5⟩:Q04),m,eff0) by kernel_rfl).trans ?_
   rw[<-e];kernel_rfl
 . exact(show Q5e c m ⟨60,A,B,C,Imm⟩=((Qiv c m ⟨60,A,B,C,Imm⟩).1,(Qiv c m ⟨60,A,B,C,Imm⟩).2.2,(Qiv c m ⟨60,A,B,C,Imm⟩).2.1) by kernel_rfl)
 . exact(show Q5e c m ⟨61,A,B,C,Imm⟩=((Qiv c m ⟨61,A,B,C,Imm⟩).1,(Qiv c m ⟨61,A,B,C,Imm⟩).2.2,(Qiv c m ⟨61,A,B,C,Imm⟩).2.1) by kernel_rfl)
 . exact(show Q5e c m ⟨62,A,B,C,Imm⟩=((Qiv c m ⟨62,A,B,C,Imm⟩).1,(Qiv c m ⟨62,A,B,C,Imm⟩).2.2,(Qiv c m ⟨62,A,B,C,Imm⟩).2.1) by kernel_rfl)
 . exact(show Q5e c m ⟨63,A,B,C,Imm⟩=((Qiv c m ⟨63,A,B,C,Imm⟩).1,(Qiv c m ⟨63,A,B,C,Imm⟩).2.2,(Qiv c m ⟨63,A,B,C,Imm⟩).2.1) by kernel_rfl)
 . exact(show Q5e c m ⟨64,A,B,C,Imm⟩=((Qiv c m ⟨64,A,B,C,Imm⟩).1,(Qiv c m ⟨64,A,B,C,Imm⟩).2.2,(Qiv c m ⟨64,A,B,C,Imm⟩).2.1) by kernel_rfl)
end
theorem xae{op:Int}(h0:0<=op)(h1:op<256)(h:Q2d op≠0):isOp op:=by
 have e:=of_decide_eq_true (Qtl (λop=>decide (Q2d op=0\/isOpB op=true)) 256 (by kernel_rfl) h0 h1)
 rcases e with e|e
 . exact absurd e h
 . simpa only[isOpB,isOp,Bool.or_eq_true,decide_eq_true_eq,or_assoc] using e
theorem vi{op:Int}(o:isOp op):1<=op/\op<=64:=by
 unfold isOp at o
 rcases o with h|h|h|h|h|h|h|h|h|h|h|h|h|h|h|h|h|h|h|h|h|h|h|h|h|h|h|h|h|h|h|h|h|h|h|h|h|h|h|h|h|h|h|h<;>(rw[h];decide)
theorem qj{w:Int}(hw:U w):(Q2 w).2=true->isOp (Q2 w).1.Op:=by
  have s24:ishr .u32 w 24=w/16777216:=by have:=Qqm (a:=w) 24 (by decide);simpa using this
  obtain⟨w0,w1⟩:=hw
  have eo:IntKind.wrap .i64 (w/16777216)=w/16777216:=w64 (by omega) (by omega)
  have q:(λr:Q0k×Bool=>r.2=true->isOp r.1.Op) (Q2 w):=by
    simp only[Q2,Q65,Tree.m,letv,s24,eo]
    cases hf:Q2d (w/16777216)==0
    . have g:isOp (w/16777216):=xae (by omega) (by omega) (by simpa using hf)
      repeat'(first
        |exact λ_=>g
        |exact λe=>Bool.noConfusion (show false=true from e)
        |refine Z17 (Q:=λr:Q0k×Bool=>r.2=true->isOp r.1.Op) ?_ ?_)
    . exact λe=>Bool.noConfusion (show false=true from e)
  exact q
section
variable (c:Q04) (m:List Int)
def doR(x:Int×Int×List Int)(w:Int)(d:Q0k×Bool):Q04×Q10×List Int:=
 bif x.2.1 !=0 then(Q2s c x.2.1 c.Pc,eff0,x.2.2) else bif !d.2 then(Q2s c 1 w,eff0,x.2.2) else bif Q34 d.1.Op then(bif iand .u32 c.B5.a0 1==0 then(Q2s c 2 w,eff0,x.2.2) else Qiv c x.2.2 d.1) else Qiv c x.2.2 d.1
def doP(y:Int×List Int×Int)(d:Q0k×Bool):Q04×List Int×Q10:=
 bif y.2.2 !=0 then(Q4f c y.2.2 c.Pc,y.2.1,eff0) else bif !d.2 then(Q4f c 1 y.1,y.2.1,eff0) else bif Q8j d.1.Op then(bif !Qa0 c then(Q4f c 2 y.1,y.2.1,eff0) else Q5e c y.2.1 d.1) else Q5e c y.2.1 d.1
theorem do_eq:Q73 c m=doR c (Q11 c m c.Pc 4 1) (Q17 (Q11 c m c.Pc 4 1).2.2 (Q11 c m c.Pc 4 1).1 4).1 (Q2 (Q17 (Q11 c m c.Pc 4 1).2.2 (Q11 c m c.Pc 4 1).1 4).1):=by kernel_rfl
theorem qaf:Q7j c m=doP c (Qo3 c m) (Qgx (Qo3 c m).1):=by kernel_rfl
theorem xI:Qo3 c m=bif(Q23 c m c.Pc 4 1).2.2 !=0 then(0,(Q23 c m c.Pc 4 1).2.1,(Q23 c m c.Pc 4 1).2.2) else((Q4s (Q23 c m c.Pc 4 1).2.1 (Q23 c m c.Pc 4 1).1 4).1,(Q23 c m c.Pc 4 1).2.1,0):=by kernel_rfl
end
theorem Zc8{P:Nat}{m:List Int}(h:Q1 P m){c:Q04}(hc:Q2b c)(hst:c.B5.a0<=31):Q7j c m=((Q73 c m).1,(Q73 c m).2.2,(Q73 c m).2.1):=by
  obtain⟨k,u,b⟩:=Zgn h hc hc.pc (.inr rfl) 1
  have tr: ∀k b,Q4f c k b=Q2s c k b:=Qoc hc.a0.1 hst
  rw[qaf,do_eq,xI,Qne h hc hst hc.pc (.inr rfl) (.inl rfl)]
  generalize Q11 c m c.Pc 4 1=x at*
  cases hx:x.2.1 !=0
  . rw [Qom k u (.inr rfl)]
    have hw:U (Q17 x.2.2 x.1 4).1:=(Tree.pp (Zdp k u (.inr rfl))).2
    generalize(Q17 x.2.2 x.1 4).1=w at*
    show doP c (w,x.2.2,0) (Qgx w)=_
    rw[yg hw]
    have o:=qj hw
    have i:=Tree.post _ (Zim w)
    change(Q2 w).2=true->Qf6 (Q2 w).1 at i
    generalize Q2 w=d at*
    obtain⟨⟨op,A,B,C,Imm⟩,ok⟩:=d
    cases ok
    . simp only[doP,doR,hx,tr];rfl
    . have o:isOp op:=o rfl
      have i:=i rfl
      have p:=xi (C:=C) (B:=B) (Imm:=Imm) k hc hst i.a o
      have pv:Q8j op=Q34 op:=xab (by have:=vi o;omega) (by have:=vi o;omega)
      have kn:(!Qa0 c)=(iand .u32 c.B5.a0 1==0):=by
        show(!(!(iand .u32 c.B5.a0 1==0)))=_
        exact Bool.not_not _
      simp only[doP,doR,hx,tr,pv,kn,p]
      cases Q34 op
      . rfl
      . cases iand .u32 c.B5.a0 1==0<;>rfl
  . simp only[doP,doR,hx,cond_true,tr]
theorem xj{a b:Int}:decide (a>=b)=!decide (a<b):=by
 by_cases h:a<b
 . rw[decide_eq_true h,decide_eq_false (by omega)];rfl
 . rw[decide_eq_false h,decide_eq_true (by omega)];rfl
def bits(g:Int)(l:List Nat)(s:Int):Int:=l.foldl (λ(a:Int) (i:Nat)=>IntKind.wrap .i64 (a+IntKind.wrap .i64 (iand .u32 (ishr .u32 g (i:Int)) 1))) s
theorem zI(b:Q07):Qe0 b=bits b.C5 [0,1,2,3,4,5,6,7,8,9,10,11,12,13,14,15,16,17,18,19,20,21,22,23,24,25,26,27,28,29,30,31] 0:=by kernel_rfl
theorem qaD{g:Int}(hg:U g){i:Nat}(hi:i<=32):IntKind.wrap .i64 (iand .u32 (ishr .u32 g (i:Int)) 1)=g/2^i%2:=by
 rw[and1 (Qsf hg _),Qqm i hi]
 have:0<=g/2^i%2/\g/2^i%2<2:=by omega
 exact w64 (by omega) (by omega)
theorem yI{g:Int}(hg:U g)(l:List Nat): ∀s:Int,(∀i∈l,i<=32)->0<=s->s+l.length<=1000->bits g l s=s+(l.map λi=>g/2^i%2).sum:=by
 induction l with
 |nil=>intro s _ _ _;simp [bits]
 | cons i l ih=>
   intro s hl h0 h1
   have h1:s+(l.length+1)<=1000:=by simpa using h1
   have hb:0<=g/2^i%2/\g/2^i%2<2:=by omega
   have e:bits g (i::l) s=bits g l (s+g/2^i%2):=by
     show bits g l (IntKind.wrap .i64 (s+IntKind.wrap .i64 (iand .u32 (ishr .u32 g (i:Int)) 1)))=_
     rw[qaD hg (hl i (by simp)),w64 (by omega) (by omega)]
   rw[e,ih _ (λj hj=>hl j (by simp [hj])) (by omega) (by omega)]
   simp;omega
theorem Zlb(n:Q0q)(port:Int):Z1j n port=Qgr n port:=by
 simp only[Z1j,Qt8,Qgr,Qf9,Tree.m]
 cases n.C7<;>cases n.B8<;>rfl
theorem Z4k(t:Q0g):Q4d t=Qcc t:=by
 simp only[Q4d,Qls,Qcc,Qi7,Tree.m]
 cases t.D2<;>cases t.D5<;>rfl
theorem Zax(n:Q0q)(p:Int):Q5w n p=Qhi n p:=by
 simp only[Q5w,Ql5,Qhi,Qlt,Tree.m]
 cases n.C7<;>cases n.B8<;>rfl
theorem Z7w(d:Q0e)(p:Int):Q1i d p=Qev d p:=by
  simp only[Q1i,Q61,Q9l,Q6z,Qev,Qjm,Tree.m,letv,xj]
  cases decide (d.Blocks>64)
  . by_cases s:d.C1=0\/d.C1=1\/d.C1=2\/d.C1=3
    . rcases s with s|s|s|s<;>rw[s]
      . rfl
      . by_cases c1:d.D8=1
        . rw[c1];cases decide (d.B6<d.Blocks)<;>cases decide (IntKind.wrap .i64 d.B3<p)<;>cases decide (d.C3=[])<;>rfl
        . by_cases c2:d.D8=2
          . rw[c2];cases decide (d.B6<d.Blocks)<;>cases decide (IntKind.wrap .i64 d.B3<p)<;>cases(d.C3.length:Int)==128<;>rfl
          . rw[show(d.D8==1)=false by simpa using c1,show(d.D8==2)=false by simpa using c2]
            cases decide (d.B6<d.Blocks)<;>cases decide (IntKind.wrap .i64 d.B3<p)<;>rfl
      . rfl
      . rfl
    . rw[show(d.C1==0)=false by simp;omega,show(d.C1==1)=false by simp;omega,show(d.C1==2)=false by simp;omega,show(d.C1==3)=false by simp;omega]
      by_cases n:d.C1<0
      . rw[decide_eq_true n];rfl
      . rw[decide_eq_false n,decide_eq_true (show d.C1>3 by omega)];rfl
  . rfl
theorem vI(c:Q0b):Q93 c=Q5n c:=by
 show(!decide (c.D3=[]))=decide ((c.D3.length:Int)>0)
 cases c.D3 with
 |nil=>rfl
 |cons a l=>rw[decide_eq_false (by simp),decide_eq_true (by simp)];rfl
theorem zaf(k:List UInt8):decide (k=[])=((k.length:Int)==0):=by
 cases k with
 |nil=>rfl
 | cons a l=>
   rw[decide_eq_false (by simp)]
   exact(beq_eq_false_iff_ne.2 (by simp;omega)).symm
theorem Zkf(c:Q0b)(port:Int):Qos c port=Q56 c port:=by
 simp only[Qos,Q9q,Q56,Q3f,Tree.m,zaf]
 cases port==0
 . rfl
 . cases(c.D3.length:Int)==0<;>rfl
theorem qJ(t:Q0g)(v:Int):Qkg t v=Qsc v:=by
 simp only[Qkg,Qm7,Qsc,Qv5,Tree.m]
 cases h:v==0
 . rw[show(v !=0)=true by simp only[bne,h];rfl];rfl
 . rw[show(v !=0)=false by simp only[bne,h];rfl,eq_of_beq h];rfl
section
variable {P:Nat} {m:List Int} (h:Q1 P m)
include h
theorem Z55(f:Int):Q9g m f=Q26 m f:=by
 have a:=Q3i h
 have b:=Qee h
 simp only[Q9g,Qcx,Q26,Qgz,Tree.m,letv,a,b]
theorem Z6a(f:Int):Q9z m f=Q26 m f:=by
 have a:=Q3i h
 have b:=Qee h
 simp only[Q9z,Qer,Q26,Qgz,Tree.m,letv,a,b]
theorem Zes(d:Q0e)(port:Int)(v:Int)(at0:Int):Qz d m port v at0=Qeu d m port v at0:=by
  have pg:=Z55 h
  have pa:=Zau h
  have rq: ∀d a,Qja d a=Qjd d a:=λ_ _=>rfl
  simp only[Qz,Qgt,Qul,Qbl,Qeu,Q8c,Tree.m,letv,pg,pa,rq]
  cases port==4
  . cases port==5
    . cases h6:port==6
      . rw[show(port !=6)=true by simp only[bne,h6];rfl];rfl
      . rw [show(port !=6)=false by simp only[bne,h6];rfl]
        by_cases v1:v=1
        . subst v1
          cases hs:d.C1==0
          . rw[show(d.C1 !=0)=true by simp only[bne,hs];rfl];rfl
          . rw[show(d.C1 !=0)=false by simp only[bne,hs];rfl];rfl
        . by_cases v2:v=2
          . subst v2
            cases hs:d.C1==0
            . rw[show(d.C1 !=0)=true by simp only[bne,hs];rfl];rfl
            . rw[show(d.C1 !=0)=false by simp only[bne,hs];rfl];rfl
          . rw[show(v==1)=false by simpa using v1,show(v==2)=false by simpa using v2]
            cases v==0
            . rfl
            . have:Q9o d=(bif d.C1==2 then true else d.C1==3):=rfl
              rw[this]
              cases d.C1==2<;>cases d.C1==3<;>rfl
    . rfl
  . rfl
theorem Zi4(n:Q0q)(port:Int)(v:Int)(at0:Int):Z7i n m port v at0=Qhq n m port v at0:=by
  have pg:=Z6a h
  have pa:=Zau h
  simp only[Z7i,Ql0,Z94,Qgs,Qhq,Q9w,Tree.m,letv,pg,pa]
  have g1:decide (n.F0>=1)=!decide (n.F0<1):=xj
  have g2:decide (n.F0<=128)=!decide (n.F0>128):=by
    by_cases h:n.F0>128
    . rw[decide_eq_true h,decide_eq_false (by omega)];rfl
    . rw[decide_eq_false h,decide_eq_true (by omega)];rfl
  rw[g1,g2]
  cases port==7
  . cases port==8
    . cases h9:port==9
      . rw[show(port !=9)=true by simp only[bne,h9];rfl];rfl
      . rw [show(port !=9)=false by simp only[bne,h9];rfl]
        by_cases v1:v=1
        . subst v1
          cases decide (n.F0<1)<;>cases decide (n.F0>128)<;>cases Q26 m n.B4<;>rfl
        . by_cases v2:v=2
          . subst v2;rfl
          . rw[show(v==1)=false by simpa using v1,show(v==2)=false by simpa using v2]
            cases v==0<;>rfl
    . rfl
  . rfl
theorem Z8p{d:Q0e}(hd:Q83 d)(e:Q0f):Qga d m e=((Q7l d m e).1,(Q7l d m e).2.2,(Q7l d m e).2.1):=by
  have hcl:Q03 m=m:=rfl
  have pg:=Z55 h d.B3
  have lp:decide ((e.D0.length:Int)>0)=!decide (e.D0=[]):=by
    cases e.D0 with
    |nil=>rfl
    |cons a l=>rw[decide_eq_true (by simp),decide_eq_false (by simp)];rfl
  have bad:(e.D0.length:Int)≠128->Q26 m d.B3=true->Q2r m (IntKind.wrap .i64 d.B3) e.D0=(m,false):=λhl hp=>by
    rw[Qld h hd.opFrame]at hp
    have hp:=of_decide_eq_true hp
    have h1:=hd.opFrame.1
    have h3:=h.p2
    have ew:IntKind.i64.wrap d.B3=d.B3:=w64 (by omega) (by omega)
    simp only[Q2r,Q3g,Tree.m,letv,hcl,ew,Z7l h,decide_eq_true (⟨h1,hp⟩:0<=d.B3/\d.B3<P),show((e.D0.length:Int) !=128)=true by simpa using hl]
    rfl
  have good:(e.D0.length:Int)=128->Q26 m d.B3=true->Q2r m (IntKind.wrap .i64 d.B3) e.D0=(Qkt m (IntKind.wrap .i64 d.B3) e.D0,true):=λhl hp=>by
    rw[Qld h hd.opFrame]at hp
    have hp:=of_decide_eq_true hp
    have h1:=hd.opFrame.1
    have h3:=h.p2
    have ew:IntKind.i64.wrap d.B3=d.B3:=w64 (by omega) (by omega)
    rw[ew];exact Zc h h1 hp (by omega)
  simp only[Qga,Q70,Q7l,Q6a,Tree.m,letv,hcl,pg,lp]
  cases d.C1 !=1
  . cases e.B7 !=4
    . cases decide (e.N>1)
      . cases e.N==1
        . cases decide (e.D0=[])<;>rfl
        . cases hc:d.D8==1
          . cases decide (e.D0=[])<;>rfl
          . by_cases hl:(e.D0.length:Int)=128
            . rw[show((e.D0.length:Int) !=128)=false by simpa using hl]
              cases hp:Q26 m d.B3
              . rfl
              . rw[good hl hp];rfl
            . rw[show((e.D0.length:Int) !=128)=true by simpa using hl]
              cases hp:Q26 m d.B3
              . rfl
              . rw[bad hl hp];rfl
      . rfl
    . rfl
  . rfl
theorem Zdn{n:Q0q}(hn:Qii n)(frame:List UInt8):Qm3 n m frame=((Q7s n m frame).1,(Q7s n m frame).2.2,(Q7s n m frame).2.1):=by
  have hcl:Q03 m=m:=rfl
  have pg:=Z6a h n.C2
  simp only[Qm3,Qa1,Q7s,Q69,Tree.m,letv,hcl,pg]
  cases !n.C7
  . cases decide ((frame.length:Int)<1)
    . cases hf:decide ((frame.length:Int)>128)
      . cases hp:Q26 m n.C2
        . rfl
        . rw[Qld h hn.buffer]at hp
          have hp:=of_decide_eq_true hp
          have h1:=hn.buffer.1
          have h3:=h.p2
          have ew:IntKind.i64.wrap n.C2=n.C2:=w64 (by omega) (by omega)
          have hf:=of_decide_eq_false hf
          obtain⟨b1,b2⟩:=(Tree.pp (zh h h1 hp)).2
          change isPg m n.C2 (Q5o m n.C2).1 at b1
          have tk:List.take (Int.toNat ((Q5o m n.C2).1.length:Int)-Int.toNat (frame.length:Int)) (List.drop (Int.toNat (frame.length:Int)) (Q5o m n.C2).1)=(Q5o m n.C2).1.drop frame.length:=by
            rw[Int.toNat_natCast,Int.toNat_natCast]
            exact List.take_of_length_le (by simp)
          rw[ew,tk,Zcy h h1 hp (by omega) b1]
          rfl
      . rfl
    . rfl
  . rfl
end
def ptab:List UInt8:=(List.range 256).map λn=>UInt8.ofNat (n%2+n/2%2+n/4%2+n/8%2+n/16%2+n/32%2+n/64%2+n/128%2)
def pt(n:Int):Int:=((UInt8.toNat (ptab.getD n.toNat 0):Nat):Int)
theorem xJ(x:Int):Q66 x=IntKind.wrap .i64 (IntKind.wrap .u8 (IntKind.wrap .u8 (IntKind.wrap .u8 (pt (ishr .u32 x 24)+pt (iand .u32 (ishr .u32 x 16) 255))+pt (iand .u32 (ishr .u32 x 8) 255))+pt (iand .u32 x 255))):=by kernel_rfl
theorem pt8{a:Int}(h0:0<=a)(h1:a<256):pt a=a%2+a/2%2+a/4%2+a/8%2+a/16%2+a/32%2+a/64%2+a/128%2:=
 eq_of_beq (Qtl (λa=>pt a==a%2+a/2%2+a/4%2+a/8%2+a/16%2+a/32%2+a/64%2+a/128%2) 256 (by kernel_rfl) h0 h1)
theorem zj{g:Int}(hg:U g):bits g [0,1,2,3,4,5,6,7,8,9,10,11,12,13,14,15,16,17,18,19,20,21,22,23,24,25,26,27,28,29,30,31] 0=pt (g%256)+pt (g/256%256)+pt (g/65536%256)+pt (g/16777216):=by
 rw[yI hg _ 0 (by decide) (by decide) (by decide),pt8 (by omega) (by omega),pt8 (by omega) (by omega),pt8 (by omega) (by omega),pt8 (by have:=hg.1;omega) (by have:=hg.2;omega)]
 obtain⟨g0,g1⟩:=hg
 simp only[List.map_cons,List.map_nil,List.sum_cons,List.sum_nil]
 have e: ∀i j:Nat,∀k:Int,i<8->k=2^j->g/2^(i+j)%2=(g/k%256)/2^i%2:=λi j k hi hk=>by
   subst hk
   rw[Nat.add_comm,Int.pow_add,<-Int.ediv_ediv_of_nonneg (Int.le_of_lt (Int.pow_pos (by decide)))]
   generalize g/2^j=x
   have:i=0\/i=1\/i=2\/i=3\/i=4\/i=5\/i=6\/i=7:=by omega
   rcases this with rfl|rfl|rfl|rfl|rfl|rfl|rfl|rfl<;>simp<;>omega
 have e0: ∀i:Nat,i<8->g/2^i%2=(g%256)/2^i%2:=λi hi=>by have:=e i 0 1 hi rfl;simpa using this
 have e24:g/16777216%256=g/16777216:=by omega
 rw[e0 0 (by decide),e0 1 (by decide),e0 2 (by decide),e0 3 (by decide),e0 4 (by decide),e0 5 (by decide),e0 6 (by decide),e0 7 (by decide)]
 rw[e 0 8 256 (by decide) (by decide),e 1 8 256 (by decide) (by decide),e 2 8 256 (by decide) (by decide),e 3 8 256 (by decide) (by decide),e 4 8 256 (by decide) (by decide),e 5 8 256 (by decide) (by decide),e 6 8 256 (by decide) (by decide),e 7 8 256 (by decide) (by decide)]
 rw[e 0 16 65536 (by decide) (by decide),e 1 16 65536 (by decide) (by decide),e 2 16 65536 (by decide) (by decide),e 3 16 65536 (by decide) (by decide),e 4 16 65536 (by decide) (by decide),e 5 16 65536 (by decide) (by decide),e 6 16 65536 (by decide) (by decide),e 7 16 65536 (by decide) (by decide)]
 rw[e 0 24 16777216 (by decide) (by decide),e 1 24 16777216 (by decide) (by decide),e 2 24 16777216 (by decide) (by decide),e 3 24 16777216 (by decide) (by decide),e 4 24 16777216 (by decide) (by decide),e 5 24 16777216 (by decide) (by decide),e 6 24 16777216 (by decide) (by decide),e 7 24 16777216 (by decide) (by decide),e24]
 generalize g%256=a
 generalize g/256%256=b
 generalize g/65536%256=c
 generalize g/16777216=d
 simp only[show(2:Int)^0=1 from rfl,show(2:Int)^1=2 from rfl,show(2:Int)^2=4 from rfl,show(2:Int)^3=8 from rfl,show(2:Int)^4=16 from rfl,show(2:Int)^5=32 from rfl,show(2:Int)^6=64 from rfl,show(2:Int)^7=128 from rfl,Int.ediv_one]
 omega
theorem pt_le{a:Int}(h0:0<=a)(h1:a<256):0<=pt a/\pt a<=8:=by rw[pt8 h0 h1];omega
theorem Z5v{b:Q07}(hg:U b.C5):Qc b=Qe0 b/\0<=Qe0 b/\Qe0 b<=32:=by
 obtain⟨s8,s16,s24⟩:=shr_c b.C5
 have u8:U (ishr .u32 b.C5 8):=Qsf hg _
 have u16:U (ishr .u32 b.C5 16):=Qsf hg _
 have e:Qc b=Q66 b.C5:=rfl
 rw[e,xJ,zI,zj hg,m255 u8,m255 u16,m255 hg,s8,s16,s24]
 obtain⟨g0,g1⟩:=hg
 have p0:=pt_le (a:=b.C5%256) (by omega) (by omega)
 have p1:=pt_le (a:=b.C5/256%256) (by omega) (by omega)
 have p2:=pt_le (a:=b.C5/65536%256) (by omega) (by omega)
 have p3:=pt_le (a:=b.C5/16777216) (by omega) (by omega)
 have w8: ∀x,IntKind.wrap .u8 x=x%256:=λx=>IntKind.wrap_u8 x
 rw[w8,w8,w8,IntKind.wrap_i64]
 omega
theorem Zek{b:Q07}(h:okB b):Q6s b=Q3r b:=by
 obtain⟨e,l0,l1⟩:=Z5v h.2
 obtain⟨t0,t1⟩:=h.1
 simp only[Q6s,Q5b,Q3r,Q9k,Tree.m,letv,e]
 rw[IntKind.wrap_u32,IntKind.wrap_u64,IntKind.wrap_u64,Int.emod_eq_of_lt l0 (by omega),Int.emod_eq_of_lt l0 (by omega),Int.emod_eq_of_lt t0 (by omega)]
theorem Zku{b:Q07}(h:okB b)(port:Int):Qp8 b port=Q55 b port:=by
 simp only[Qp8,Qbs,Q55,Q5x,Tree.m,letv,(Z5v h.2).1]
theorem xaf(g:Int)(z:Nat):g%2^(z+1)=g%2^z+2^z*(g/2^z%2):=by
 have hp:(0:Int)<2^z:=Int.pow_pos (by decide)
 have h1:=Int.mul_ediv_add_emod g (2^z)
 have h2:=Int.mul_ediv_add_emod (g/2^z) 2
 have h3:(g/2^z)/2=g/2^(z+1):=by rw[Int.pow_succ,Int.ediv_ediv_of_nonneg (Int.le_of_lt hp)]
 have h4:=Int.mul_ediv_add_emod g (2^(z+1))
 rw[h3]at h2
 have h5:(2:Int)^(z+1)*(g/2^(z+1))=2^z*(2*(g/2^(z+1))):=by rw[Int.pow_succ,Int.mul_assoc]
 have h6:(2:Int)^z*(g/2^z)=2^z*(2*(g/2^(z+1)))+2^z*(g/2^z%2):=by rw[<-Int.mul_add,h2]
 omega
theorem zaD{b:Q07}(hg:U b.C5){P:Nat}(hP:P<=32):(Q5a b P).w (λr=>r=decide (b.C5<2^P)):=by
 unfold Q5a
 have fin: ∀v:Int,0<=v->v<=32->IntKind.wrap .u64 v=(v.toNat:Int):=λv h0 h1=>by rw[IntKind.wrap_u64];omega
 refine w_lp (inv:=λz:Int=>0<=z/\z<=32/\b.C5%2^z.toNat<2^P) (μ:=Q6e b P) ⟨by decide,by decide,by have:(0:Int)<2^P:=Int.pow_pos (by decide);simpa using this⟩ (Nat.lt_succ_self _) λz ⟨z0,z1,z2⟩=> ?_
 refine w_br (λhb=> ?_) (λhb=> ?_)
 . have hb:=of_decide_eq_true hb
   have ew:IntKind.i64.wrap (z+1)=z+1:=w64 (by omega) (by omega)
   have bt:iand .u32 (ishr .u32 b.C5 (IntKind.wrap .u64 z)) 1=b.C5/2^z.toNat%2:=by
     rw[fin z z0 z1,and1 (Qsf hg _),Qqm _ (by omega)]
   have bp:=xaf b.C5 z.toNat
   have zt:(z+1).toNat=z.toNat+1:=by omega
   refine w_cn (decide_eq_true (by rw[IntKind.wrap_u64];omega)) ?_
   rw[bt]
   refine w_br (λe=>w_br (λhp=> ?_) (λhp=>w_nx ?_)) (λe=>w_nx ?_)
   . have e:=eq_of_beq e
     have hp:=of_decide_eq_true hp
     show false=_
     refine(decide_eq_false λhlt=> ?_).symm
     have hle:(2:Int)^P<=2^z.toNat:=by exact_mod_cast Nat.pow_le_pow_right (show 0<2 by decide) (show P<=z.toNat by omega)
     have:b.C5/2^z.toNat=0:=Int.ediv_eq_zero_of_lt hg.1 (by omega)
     rw[this]at e;cases e
   . have e:=eq_of_beq e
     have hp:=of_decide_eq_false hp
     show(0<=IntKind.i64.wrap (z+1)/\IntKind.i64.wrap (z+1)<=32/\b.C5%2^(IntKind.i64.wrap (z+1)).toNat<2^P)/\(32-IntKind.i64.wrap (z+1)).toNat<(32-z).toNat
     rw[ew,zt]
     have hle:(2:Int)^(z.toNat+1)<=2^P:=by exact_mod_cast Nat.pow_le_pow_right (show 0<2 by decide) (show z.toNat+1<=P by omega)
     have:=Int.emod_lt_of_pos b.C5 (show(0:Int)<2^(z.toNat+1) from Int.pow_pos (by decide))
     exact⟨⟨by omega,by omega,by omega⟩,by omega⟩
   . have e: ¬b.C5/2^z.toNat%2=1:=by simpa using e
     have e:b.C5/2^z.toNat%2=0:=by omega
     rw[e]at bp
     show(0<=IntKind.i64.wrap (z+1)/\IntKind.i64.wrap (z+1)<=32/\b.C5%2^(IntKind.i64.wrap (z+1)).toNat<2^P)/\(32-IntKind.i64.wrap (z+1)).toNat<(32-z).toNat
     rw[ew,zt,bp]
     exact⟨⟨by omega,by omega,by omega⟩,by omega⟩
 . have hb:=of_decide_eq_false hb
   have:z=32:=by omega
   subst this
   show true=_
   refine(decide_eq_true ?_).symm
   have h2:b.C5%2^(32:Int).toNat=b.C5:=Int.emod_eq_of_lt hg.1 hg.2
   rwa [h2]at z2
theorem Zgf{b:Q07}(hg:U b.C5){P:Nat}(hP:P<=32):Q2m b P=Q97 b P:=by
 have r:=(Tree.pp (zaD hg hP)).2
 change Q97 b P=_ at r
 rw[r,Bool.eq_iff_iff,Z18 hg,decide_eq_true_eq]
theorem zeros:strings_Repeat [(0:UInt8)] 128=List.replicate 128 0:=by kernel_rfl
theorem xaD{P:Nat}{m:List Int}(hm:Q1 P m){b:Q07}{port:Int}{v:Int}(hv:U v)(hp:v<P)(h10:port=10)(hb:(iand .u32 (ishr .u32 b.C5 v) 1==0)=true):(Q4u b m port v).w (λr=>r.1={C9:=b.C9,C5:=ior .u32 b.C5 (ishl .u32 1 v)}/\Q1 P r.2/\ ∀k:Nat,byt r.2 k=if v*128<=k/\(k:Int)<v*128+128 then 0 else byt m k):=by
 have hv0:decide (0<=v)=true:=decide_eq_true hv.1
 have h2:=hm.p2
 have pg:Q26 m v=true:=by rw[Qld hm hv];exact decide_eq_true hp
 obtain⟨v1,v2⟩:=hv
 subst h10
 unfold Q4u
 refine w_br (λ_=>w_lv λx0 hx=>w_br (λ_=>w_cn hv0 (w_br (λ_=>w_cn hv0 ?_) (λh=>by rw[hb]at h;cases h))) (λh=>by rw[hx,pg]at h;cases h)) (λh=>by cases h)
 refine w_lp (inv:=λz=>0<=z.1/\z.1<=32/\Q1 P z.2/\ ∀k:Nat,byt z.2 k=if v*128<=k/\(k:Int)<v*128+4*z.1 then 0 else byt m k) (μ:=Qhx b m 10 v) ⟨show(0:Int)<=0 by decide,show(0:Int)<=32 by decide,hm,λk=>by rw[if_neg];show¬(_/\_<_+4*(0:Int));omega⟩ (Nat.lt_succ_self _) (λz hz=> ?_)
 obtain⟨z1,z2,z3,z4⟩:=hz
 have hl:=z3.len
 refine w_br (λh=> ?_) (λh=>⟨rfl,z3,λk=> ?_⟩)
 . have h:=of_decide_eq_true h
   have e:IntKind.wrap IntKind.i64 (IntKind.wrap IntKind.i64 (IntKind.wrap IntKind.i64 v*32)+z.1)=v*32+z.1:=by rw[IntKind.wrap_i64,IntKind.wrap_i64,IntKind.wrap_i64];omega
   refine w_cn (by rw[e];simp [Nat.blt];omega) (w_nx ?_)
   have ew:IntKind.i64.wrap (z.1+1)=z.1+1:=by rw[IntKind.wrap_i64];omega
   show(0<=IntKind.i64.wrap (z.1+1)/\IntKind.i64.wrap (z.1+1)<=32/\Q1 P (List.set _ _ _)/\ ∀k:Nat,byt (List.set z.2 (Int.toNat (IntKind.wrap IntKind.i64 (IntKind.wrap IntKind.i64 (IntKind.wrap IntKind.i64 v*32)+z.1))) 0) k=if v*128<=(k:Int)/\(k:Int)<v*128+4*IntKind.i64.wrap (z.1+1) then 0 else _)/\(32-IntKind.i64.wrap (z.1+1)).toNat<(32-z.1).toNat
   rw[ew,e]
   refine⟨⟨by omega,by omega,⟨by simp [hl],z3.p1,z3.p2,Qyv z3.u U_0 _⟩,λk=> ?_⟩,by omega⟩
   rw[Zi3 (by omega)]
   by_cases hc:k/4=(v*32+z.1).toNat
   . rw[if_pos hc,if_pos (by omega)]
     have:k%4=0\/k%4=1\/k%4=2\/k%4=3:=by omega
     rcases this with h|h|h|h<;>rw[h]<;>rfl
   . rw[if_neg hc,z4 k]
     by_cases hd:v*128<=(k:Int)/\(k:Int)<v*128+4*z.1
     . rw[if_pos hd,if_pos (by omega)]
     . rw[if_neg hd,if_neg (by omega)]
 . have h:=of_decide_eq_false h
   show byt z.2 k=_
   rw[z4 k,show z.1=32 by omega];rfl
theorem bitv{g v:Int}(hg:U g)(v0:0<=v)(v1:v<32):(iand .u32 g (ishl .u32 1 v)==0)=(iand .u32 (ishr .u32 g v) 1==0):=by
 obtain⟨z,rfl⟩: ∃z:Nat,v=z:=⟨v.toNat,by omega⟩
 obtain⟨n,rfl⟩: ∃n:Nat,g=n:=⟨g.toNat,by have:=hg.1;omega⟩
 have hz:z<32:=by omega
 have hlt:(2:Nat)^z<4294967296:=by have:=Nat.pow_lt_pow_right (show 1<2 by omega) hz;simpa using this
 rw[and1 (Qsf hg _),Qqm z (by omega),yf v0 v1,Int.toNat_natCast]
 have hc:((2:Int)^z)=((2^z:Nat):Int):=by simp
 generalize hq:2^z=q at*
 rw[hc,Zf7 hg ⟨by omega,by omega⟩,Int.toNat_natCast,Int.toNat_natCast,<-hq]
 have e1:(n&&&2^z)=0↔n/2^z%2=0:=by
   have t:n.testBit z=decide (n/2^z%2=1):=Nat.testBit_eq_decide_div_mod_eq
   constructor
   . intro h
     have h2:(n&&&2^z).testBit z=false:=by rw[h];exact Nat.zero_testBit z
     rw[Nat.testBit_and,Nat.testBit_two_pow_self,Bool.and_true,t]at h2
     have:=of_decide_eq_false h2
     omega
   . intro h
     have t0:n.testBit z=false:=by rw[t];exact decide_eq_false (by omega)
     apply Nat.eq_of_testBit_eq
     intro i
     rw[Nat.testBit_and,Nat.testBit_two_pow,Nat.zero_testBit]
     by_cases hi:z=i
     . subst hi;rw[t0];rfl
     . rw[decide_eq_false hi,Bool.and_false]
 rw[Bool.eq_iff_iff,beq_iff_eq,beq_iff_eq]
 constructor
 . intro h;have:=e1.1 (by omega);omega
 . intro h;have:=e1.2 (by omega);omega
theorem Zhf{P:Nat}{m:List Int}(h:Q1 P m){b:Q07}(hb:okB b)(port:Int){v:Int}(hv:U v):Q7p b m port v=Q68 b m port v:=by
  have hcl:Q03 m=m:=rfl
  have hp:=Q3i h
  have h2:=h.p2
  have ew:IntKind.i64.wrap v=v:=w64 (by have:=hv.1;omega) (by have:=hv.2;omega)
  have pe:=Qld h hv
  by_cases h32:v<32
  . have bv :=bitv hb.2 hv.1 h32
    by_cases h10:port=10
    . by_cases hP:v<P
      . cases hz:iand .u32 (ishr .u32 b.C5 v) 1==0
        . simp only[Q7p,Q4,Q68,Q4u,Tree.m,letv,hcl,hp,ew,pe,bv,hz,h10,decide_eq_true hP,decide_eq_false (show¬v>=32 by omega)]
          rfl
        . obtain⟨g1,g2,g3⟩:=(Tree.pp (xaD h hv hP h10 hz)).2
          change(Q68 b m port v).1=_ at g1
          change Q1 P (Q68 b m port v).2 at g2
          change∀k:Nat,byt (Q68 b m port v).2 k=_ at g3
          obtain⟨s1,s2,s3⟩:=(Tree.pp (Qzv h hv.1 hP (s:=List.replicate 128 0) (by simp))).2
          have em:(Q2r m v (List.replicate 128 0)).1=(Q68 b m port v).2:=by
            refine Zg4 (s2.len.trans g2.len.symm) s2.u g2.u λk=> ?_
            rw[g3 k]
            refine(s3 k).trans ?_
            by_cases hk:v*128<=(k:Int)/\(k:Int)<v*128+128
            . rw[if_pos hk,if_pos hk]
              have:(List.replicate 128 (0:UInt8)).getD ((k:Int)-v*128).toNat 0=0:=by
                rw[List.getD_eq_getElem?_getD,List.getElem?_replicate]
                split<;>rfl
              rw[this];rfl
            . rw[if_neg hk,if_neg hk]
          have el:Q7p b m port v=({C9:=b.C9,C5:=ior .u32 b.C5 (ishl .u32 1 v)},(Q2r m v (List.replicate 128 0)).1):=by
            simp only[Q7p,Q4,Tree.m,letv,hcl,hp,ew,bv,hz,h10,decide_eq_true hP,decide_eq_false (show¬v>=32 by omega),zeros]
            rfl
          rw[el,em,<-g1]
      . simp only[Q7p,Q4,Q68,Q4u,Tree.m,letv,hcl,hp,ew,pe,h10,decide_eq_false hP,decide_eq_false (show¬v>=32 by omega)]
        rfl
    . simp only[Q7p,Q4,Q68,Q4u,Tree.m,letv,hcl,decide_eq_true h32,decide_eq_false (show¬v>=32 by omega),show(port==10)=false by simpa using h10]
      cases port==11<;>rfl
  . simp only[Q7p,Q4,Q68,Q4u,Tree.m,letv,hcl,pe,decide_eq_false h32,decide_eq_true (show v>=32 by omega),decide_eq_false (show¬v<P by omega)]
    cases port==10<;>cases port==11<;>rfl
structure okV(m:Q00):Prop where
 cpu:Q2b m.B2
 mem: ∀w∈m.Mem,U w
 disk:Q83 m.B0
 nic:Qii m.C0
 bal:okB m.A2
 cnt:0<=m.A1
theorem Qon(m:List Int)(hm: ∀w∈m,U w):Q0u m=Q3k m/\(Q0u m=0\/ ∃P:Nat,1<=P/\Q1 P m):=by
 refine⟨rfl,?_⟩
 simp only[Q0u,Q8b,Tree.m]
 cases h1:Int.tmod (m.length:Int) 32 !=0
 . cases h2:decide ((m.length:Int)>1024)
   . have h1:Int.tmod (m.length:Int) 32=0:=by simpa using h1
     have h2:=of_decide_eq_false h2
     rw[Int.tmod_eq_emod_of_nonneg (by omega)]at h1
     by_cases h0:m.length=0
     . left;rw[h0];rfl
     . right;exact⟨m.length/32,by omega,⟨by omega,by omega,by omega,hm⟩⟩
   . left;rfl
 . left;rfl
theorem rcnd{a x:Bool}:(bif !a then false else x)=true↔a=true/\x=true:=by cases a<;>simp
theorem zJ(m:Q00):Q41 m=true↔ ¬(Q3k m.Mem<1)/\Q5u m.B2/\Qij m.A3=true/\Qcc m.A7=true/\Qev m.B0 (Q3k m.Mem)=true/\Qhi m.C0 (Q3k m.Mem)=true/\Q97 m.A2 (Q3k m.Mem)=true/\m.A1<=1152921504606846976/\ ¬(m.A4=true/\m.A6=true):=by
 simp only[Q41,Qvi,Tree.m,letv]
 rw[cnd2,cnd2,cnd2,cnd2,cnd2,cnd2,rcnd,rcnd,rcnd,rcnd,rcnd]
 simp only[decide_eq_false_iff_not,Int.not_lt,bne_eq_false_iff_eq,gt_iff_lt]
 have l:((bif decide (m.A1<=1152921504606846976) then(bif m.A4 then !m.A6 else true) else false)=true)↔m.A1<=1152921504606846976/\ ¬(m.A4=true/\m.A6=true):=by
   by_cases hc:m.A1<=1152921504606846976
   . rw[decide_eq_true hc]
     cases m.A4<;>cases m.A6<;>simp [hc]
   . rw[decide_eq_false hc];simp [hc]
 rw[l]
 constructor
 . rintro⟨a1,a2,a3,a4,a5,a6,a7⟩
   exact⟨by omega,⟨a2,a3,a4,a5,a6⟩,a7⟩
 . rintro⟨a1,⟨a2,a3,a4,a5,a6⟩,a7⟩
   exact⟨by omega,a2,a3,a4,a5,a6,a7⟩
theorem Qpj{m:Q00}(h:okV m):Q14 m=Q41 m:=by
 rw[Bool.eq_iff_iff,Qn6,zJ,qf]
 obtain⟨e,c⟩:=Qon m.Mem h.mem
 simp only[Bool.and_eq_true,<-e]
 rcases c with c|⟨P,hP,hm⟩
 . constructor
   . rintro⟨a,_⟩;exact absurd c a
   . rintro⟨a,_⟩;omega
 . rw[Q3i hm,Z4k,Z7w,Zax,Zgf h.bal.2 hm.p2]
   constructor
   . rintro⟨a1,a2,a3,a4,a5,a6,a7,a8,a9⟩;exact⟨by omega,a2,a5,a6,a7,a8,a9,a3,a4⟩
   . rintro⟨a1,a2,a5,a6,a7,a8,a9,a3,a4⟩;exact⟨by omega,a2,a3,a4,a5,a6,a7,a8,a9⟩
def Z7y(a b c d e:Bool):Int:=ior .u32 (ior .u32 (ior .u32 (ior .u32 (Q98 a 0) (Q98 b 1)) (Q98 c 2)) (Q98 d 3)) (Q98 e 4)
theorem mlines(m:Q00):Qcy m=Z7y (Qgd m.A7) (Q93 m.A3) (Q9o m.B0) (Qm m.C0) (Q6s m.A2):=by
 unfold Qcy Q6w
 simp only[Tree.m,letv]
 generalize Qgd m.A7=a
 generalize Q93 m.A3=b
 generalize Q9o m.B0=c
 generalize Qm m.C0=d
 generalize Q6s m.A2=e
 cases a<;>cases b<;>cases c<;>cases d<;>cases e<;>kernel_rfl
theorem Zkz(a b c d e:Bool):0<=Z7y a b c d e/\Z7y a b c d e<32:=by
 cases a<;>cases b<;>cases c<;>cases d<;>cases e<;>decide
theorem rlines(m:Q00):Qgw m=Z7y (Qa5 m.A7) (Q5n m.A3) (Qay m.B0) (Qcf m.C0) (Q3r m.A2):=rfl
section
variable {m:Q00} (h:okV m)
include h
theorem Zks:Qcy m=Qgw m:=by
 rw[mlines,rlines,vI,Zek h.bal];rfl
theorem Qwh:Q5f m=Q2y m:=by
 have e:=Zks h
 simp only[Q5f,Q2x,Q2y,Q8h,Tree.m,letv,e]
theorem Zce:Q94 m=Q36 m:=by
 have e:=Qwh h
 simp only[Q94,Q31,Q36,Qdj,Tree.m,letv,e]
theorem Qtp:Q2o m=!Q0y m:=by
 have e1:=Qpj h
 have e2:=Zce h
 have e3:decide (m.A1>=1152921504606846976)=!decide (m.A1<1152921504606846976):=xj
 simp only[Q2o,Q40,Q0y,Q9b,Tree.m,letv,e1,e2,e3]
 cases Q41 m<;>cases m.A6<;>cases Q36 m<;>cases decide (m.A1<1152921504606846976)<;>rfl
theorem Z6p:0<=Q2y m/\Q2y m<32:=by
 have e:Q2y m=iand .u32 (Qgw m) m.B2.B5.a7:=rfl
 have l:=Zkz (Qa5 m.A7) (Q5n m.A3) (Qay m.B0) (Qcf m.C0) (Q3r m.A2)
 rw[<-rlines]at l
 rw[e,Zf7 ⟨l.1,by omega⟩ h.cpu.a7]
 have:=Nat.and_le_left (n:=(Qgw m).toNat) (m:=m.B2.B5.a7.toNat)
 omega
def low(l:Int):Int:=if l%2=1 then 0 else if l/2%2=1 then 1 else if l/4%2=1 then 2 else if l/8%2=1 then 3 else 4
end
theorem cases32{l:Int}(h0:0<=l)(h1:l<32):l=0\/l=1\/l=2\/l=3\/l=4\/l=5\/l=6\/l=7\/l=8\/l=9\/l=10\/l=11\/l=12\/l=13\/l=14\/l=15\/l=16\/l=17\/l=18\/l=19\/l=20\/l=21\/l=22\/l=23\/l=24\/l=25\/l=26\/l=27\/l=28\/l=29\/l=30\/l=31:=by omega
def intr(m:Q00)(l:Int):Q04:=bif iand .u32 m.B2.B5.a0 2==0 then m.B2 else bif l==0 then m.B2 else Q2s m.B2 (IntKind.wrap .i64 (16+low l)) 0
theorem rintr{m:Q00}(h:okV m):Q0m m=intr m (Q2y m):=by
 obtain⟨l0,l1⟩:=Z6p h
 unfold Q0m Q4h
 simp only[Tree.m,letv]
 revert l0 l1
 generalize Q2y m=l
 intro l0 l1
 unfold intr
 cases iand .u32 m.B2.B5.a0 2==0
 . rcases cases32 l0 l1 with rfl|rfl|rfl|rfl|rfl|rfl|rfl|rfl|rfl|rfl|rfl|rfl|rfl|rfl|rfl|rfl|rfl|rfl|rfl|rfl|rfl|rfl|rfl|rfl|rfl|rfl|rfl|rfl|rfl|rfl|rfl|rfl<;>kernel_rfl
 . rfl
def beg(m:Q00)(c:Q04):Q00:={B2:=c,Mem:=m.Mem,A3:=m.A3,A7:=m.A7,B0:=m.B0,C0:=m.C0,A2:=m.A2,A1:=m.A1,A4:=false,A6:=m.A6}
theorem Qu2{m:Q00}(h:okV m)(hst:m.B2.B5.a0<=31):Q0v m=beg m (Q0m m):=by
 obtain⟨l0,l1⟩:=Z6p h
 have tr: ∀k b,Q4f m.B2 k b=Q2s m.B2 k b:=Qoc h.cpu.a0.1 hst
 have e:Q5f (beg m m.B2)=Q2y m:=Qwh (m:=beg m m.B2) ⟨h.cpu,h.mem,h.disk,h.nic,h.bal,h.cnt⟩
 rw[rintr h]
 unfold Q0v Q2t
 simp only[Tree.m,letv]
 rw[show Q5f {B2:=m.B2,Mem:=m.Mem,A3:=m.A3,A7:=m.A7,B0:=m.B0,C0:=m.C0,A2:=m.A2,A1:=m.A1,A4:=false,A6:=m.A6}=Q2y m from e]
 revert l0 l1
 generalize Q2y m=l
 intro l0 l1
 unfold intr
 simp only[<-tr]
 cases iand .u32 m.B2.B5.a0 2==0
 . rcases cases32 l0 l1 with rfl|rfl|rfl|rfl|rfl|rfl|rfl|rfl|rfl|rfl|rfl|rfl|rfl|rfl|rfl|rfl|rfl|rfl|rfl|rfl|rfl|rfl|rfl|rfl|rfl|rfl|rfl|rfl|rfl|rfl|rfl|rfl<;>(show _=_;kernel_rfl)
 . rfl
theorem ports{p:Int}:p=0\/p=1\/p=2\/p=3\/p=4\/p=5\/p=6\/p=7\/p=8\/p=9\/p=10\/p=11\/p<0\/12<=p:=by omega
theorem qag{m:Q00}(hb:okB m.A2)(port clock:Int):Q1f m port clock=((Qc9 m port clock).2,(Qc9 m port clock).1):=by
 have e1:=Zkf m.A3
 have e2: ∀p,Qv1 m.B0 p=Qic m.B0 p:=λ_=>rfl
 have e3:=Zlb m.C0
 have e4:=Zku hb
 have e5:Qz9 m.A7=Qei m.A7:=rfl
 simp only[Q1f,Q4k,Qc9,Qjx,Tree.m,letv,e1,e2,e3,e4,e5]
 rcases ports (p:=port) with rfl|rfl|rfl|rfl|rfl|rfl|rfl|rfl|rfl|rfl|rfl|rfl|h|h
 all_goals first|rfl|skip
 . have n: ∀k:Int,0<=k->(port==k)=false:=λk hk=>beq_eq_false_iff_ne.2 (by omega)
   have c:Q56 m.A3 port=(m.A3,0):=by
     simp only[Q56,Q3f,Tree.m,n 0 (by decide),n 1 (by decide),cond_false]
   simp only[n 0 (by decide),n 1 (by decide),n 2 (by decide),n 3 (by decide),n 4 (by decide),n 5 (by decide),n 6 (by decide),n 7 (by decide),n 8 (by decide),n 9 (by decide),n 10 (by decide),n 11 (by decide),cond_false,decide_eq_true (show port<=1 by omega),cond_true,c]
 . have n: ∀k:Int,k<12->(port==k)=false:=λk hk=>beq_eq_false_iff_ne.2 (by omega)
   have c:Q55 m.A2 port=0:=by
     simp only[Q55,Q5x,Tree.m,n 10 (by decide),n 11 (by decide),cond_false]
   simp only[n 0 (by decide),n 1 (by decide),n 2 (by decide),n 3 (by decide),n 4 (by decide),n 5 (by decide),n 6 (by decide),n 7 (by decide),n 8 (by decide),n 9 (by decide),n 10 (by decide),n 11 (by decide),cond_false,decide_eq_false (show¬port<=1 by omega),decide_eq_false (show¬port<=6 by omega),decide_eq_false (show¬port<=9 by omega),c]
theorem yJ{P:Nat}{m:Q00}(hm:Q1 P m.Mem)(hb:okB m.A2)(port:Int){v:Int}(hv:U v):Q2h m port v m.A1=((Qab m port v).2,(Qab m port v).1):=by
 have e1:=Zes hm m.B0
 have e2:=Zi4 hm m.C0
 have e3:=Zhf hm hb port hv
 have e4:=qJ m.A7 v
 simp only[Q2h,Q3q,Qab,Qdp,Tree.m,letv,e1,e2,e3,e4]
 rcases ports (p:=port) with rfl|rfl|rfl|rfl|rfl|rfl|rfl|rfl|rfl|rfl|rfl|rfl|h|h
 all_goals first|rfl|skip
 . have n: ∀k:Int,0<=k->(port==k)=false:=λk hk=>beq_eq_false_iff_ne.2 (by omega)
   simp only[n 0 (by decide),n 1 (by decide),n 2 (by decide),n 3 (by decide),n 4 (by decide),n 5 (by decide),n 6 (by decide),n 7 (by decide),n 8 (by decide),n 9 (by decide),n 10 (by decide),n 11 (by decide),cond_false,decide_eq_true (show port<=2 by omega),cond_true]
 . have n: ∀k:Int,k<12->(port==k)=false:=λk hk=>beq_eq_false_iff_ne.2 (by omega)
   have c:Q68 m.A2 m.Mem port v=(m.A2,m.Mem):=by
     simp only[Q68,Q4u,Tree.m,n 10 (by decide),n 11 (by decide),cond_false]
   simp only[n 0 (by decide),n 1 (by decide),n 2 (by decide),n 3 (by decide),n 4 (by decide),n 5 (by decide),n 6 (by decide),n 7 (by decide),n 8 (by decide),n 9 (by decide),n 10 (by decide),n 11 (by decide),cond_false,decide_eq_false (show¬port<=2 by omega),decide_eq_false (show¬port<=6 by omega),decide_eq_false (show¬port<=9 by omega),c]
def tick(n:Q00)(c:Q04)(w h:Bool):Q00:={B2:=c,Mem:=n.Mem,A3:=n.A3,A7:=n.A7,B0:=n.B0,C0:=n.C0,A2:=n.A2,A1:=IntKind.wrap .u64 (n.A1+1),A4:=w,A6:=h}
def withX(m:Q00)(c:Q04)(mem:List Int):Q00:={B2:=c,Mem:=mem,A3:=m.A3,A7:=m.A7,B0:=m.B0,C0:=m.C0,A2:=m.A2,A1:=m.A1,A4:=false,A6:=m.A6}
def finP(n:Q00)(e:Q10)(clock at0:Int):Q00×List Q02:=
 bif e.B7==1 then
   (bif e.E0 !=0 then(tick (Q1f n e.D1 clock).1 {X:=A16.of 0 (List.set (A16.l (Q1f n e.D1 clock).1.B2.X) e.E0.toNat (Q1f n e.D1 clock).2),Pc:=(Q1f n e.D1 clock).1.B2.Pc,B5:=(Q1f n e.D1 clock).1.B2.B5} (Q1f n e.D1 clock).1.A4 (Q1f n e.D1 clock).1.A6,[])
   else(tick (Q1f n e.D1 clock).1 (Q1f n e.D1 clock).1.B2 (Q1f n e.D1 clock).1.A4 (Q1f n e.D1 clock).1.A6,[]))
 else bif e.B7==2 then(tick (Q2h n e.D1 e.Value at0).1 (Q2h n e.D1 e.Value at0).1.B2 (Q2h n e.D1 e.Value at0).1.A4 (Q2h n e.D1 e.Value at0).1.A6,(Q2h n e.D1 e.Value at0).2)
 else bif e.B7==3 then(tick n n.B2 true n.A6,[]) else bif e.B7==4 then(tick n n.B2 n.A4 true,[]) else(tick n n.B2 n.A4 n.A6,[])
def finR(n:Q00)(e:Q10)(clock:Int):List Q02×Q00:=
 bif e.B7==1 then([],tick (Qc9 n e.D1 clock).2 (Q1y (Qc9 n e.D1 clock).2.B2 e.E0 (Qc9 n e.D1 clock).1) (Qc9 n e.D1 clock).2.A4 (Qc9 n e.D1 clock).2.A6)
 else bif e.B7==2 then((Qab n e.D1 e.Value).1,tick (Qab n e.D1 e.Value).2 (Qab n e.D1 e.Value).2.B2 (Qab n e.D1 e.Value).2.A4 (Qab n e.D1 e.Value).2.A6)
 else bif e.B7==3 then([],tick n n.B2 true n.A6) else bif e.B7==4 then([],tick n n.B2 n.A4 true) else([],tick n n.B2 n.A4 n.A6)
theorem qV(m:Q00)(clock:Int):Q05 m clock=finR (withX m (Q73 (Q0m m) m.Mem).1 (Q73 (Q0m m) m.Mem).2.2) (Q73 (Q0m m) m.Mem).2.1 clock:=by kernel_rfl
theorem Zjf(m:Q00)(clock:Int):Q2v m clock=bif !Q2o m then(m,[]) else finP {B2:=(Q7j (Q0v m).B2 (Q0v m).Mem).1,Mem:=(Q7j (Q0v m).B2 (Q0v m).Mem).2.1,A3:=(Q0v m).A3,A7:=(Q0v m).A7,B0:=(Q0v m).B0,C0:=(Q0v m).C0,A2:=(Q0v m).A2,A1:=(Q0v m).A1,A4:=(Q0v m).A4,A6:=(Q0v m).A6} (Q7j (Q0v m).B2 (Q0v m).Mem).2.2 clock m.A1:=by kernel_rfl
theorem zag(m:List Int):Qta m=m:=by
 simp [Qta,Qda,Tree.m]
theorem Z2k(m:Q00):Qgb m=m:=by
 simp only[Qgb,Qbn,Tree.m,letv,zag]
def Zel(m:Q00)(clock:Int):Q00×List Q02:=bif Q0y m then(m,[]) else((Q05 m clock).2,(Q05 m clock).1)
def Qj2(m:Q00)(e:Q0f):Tree (Q00×Bool):=
 .an (Q91 m) (.lv (Qgb m) λ(x0:Q00)=> .lv (Q41 x0) λ(x1:Bool)=> .br (!x1) (.lf (x0,false)) (.an (Qjv x0 e) (.lv (Q0p x0 e) λ(x2:Bool×Q00)=> .lf (x2.2,x2.1))))
def Qkm(m:Q00)(e:Q0f):Q00×Bool:=(Qj2 m e).m
theorem Z89(m:Q00)(clock:Int):Zel m clock=bif Q0y m then(m,[]) else((Q05 m clock).2,(Q05 m clock).1):=rfl
theorem vJ{P:Nat}{n:Q00}(hm:Q1 P n.Mem)(hb:okB n.A2){e:Q10}(hr:0<=e.E0/\e.E0<16)(hv:U e.Value)(clock:Int):finP n e clock n.A1=((finR n e clock).2,(finR n e clock).1):=by
 unfold finP finR
 rw[qag hb e.D1 clock,yJ hm hb e.D1 hv]
 cases e.B7==1
 . cases e.B7==2
   . cases e.B7==3
     . cases e.B7==4<;>rfl
     . rfl
   . rfl
 . generalize Qc9 n e.D1 clock=r
   have s:=Qz8 r.2.B2 hr r.1
   show(bif e.E0 !=0 then _ else _)=(tick r.2 (Q1y r.2.B2 e.E0 r.1) r.2.A4 r.2.A6,[])
   rw[<-s]
   simp only[Qai,Qch,Tree.m]
   cases e.E0 !=0<;>rfl
theorem Zbg{m:Q00}(h:okV m)(clock:Int):Q2v m clock=Zel m clock:=by
 rw[Zjf,Z89,Qtp h]
 cases hs:Q0y m
 . have hr:Q2o m=true:=by rw[Qtp h,hs];rfl
   obtain⟨hm,hh,hct⟩:=Qz4 hr
   obtain⟨g1,g2,g3,g4,g5⟩:=(Qn6 m).1 hm
   rcases(Qon m.Mem h.mem).2 with c|⟨P,hP,hmem⟩
   . exact absurd c g1
   have okm:okS P m:=⟨h.cpu,hmem,h.disk,h.nic,h.bal.1,h.bal.2⟩
   obtain⟨b1,b2,b3,_⟩:=(Tree.pp (Qrt okm g2)).2
   change Q5u (Q0v m).B2 at b1
   change okS P (Q0v m) at b2
   change(Q0v m).Mem=m.Mem at b3
   have be:=Qu2 h g2.st
   have b1':Q5u (Q0m m):=by have:=b1;rw[be]at this;exact this
   have b2':Q2b (Q0m m):=by have:=b2.cpu;rw[be]at this;exact this
   have ex:=Zc8 hmem b2' b1'.st
   have er:=(Tree.pp (Zk6 b2' hmem)).2
   change 0<=(Q7j (Q0m m) m.Mem).2.2.E0/\(Q7j (Q0m m) m.Mem).2.2.E0<16 at er
   obtain⟨d1,d2,d3⟩:=(Tree.pp (do_w b2' hmem)).2
   change U (Q73 (Q0m m) m.Mem).2.1.Value at d2
   change Q1 P (Q73 (Q0m m) m.Mem).2.2 at d3
   rw[ex]at er
   rw[qV,be]
   show finP {B2:=(Q7j (Q0m m) m.Mem).1,Mem:=(Q7j (Q0m m) m.Mem).2.1,A3:=m.A3,A7:=m.A7,B0:=m.B0,C0:=m.C0,A2:=m.A2,A1:=m.A1,A4:=false,A6:=m.A6} (Q7j (Q0m m) m.Mem).2.2 clock m.A1=_
   rw[ex]
   exact vJ (n:=withX m (Q73 (Q0m m) m.Mem).1 (Q73 (Q0m m) m.Mem).2.2) d3 h.bal er d2 clock
 . rfl
theorem Z6v{m:Q00}(h:okV m)(e:Q0f):Q7v m e=Qkm m e:=by
 have hcl:Q03 m.Mem=m.Mem:=rfl
 have mm:=Qpj h
 have t1:Qk8 m.A7=Q6d m.A7:=rfl
 have t2: ∀b,Qnr m.A3 b=Ql2 m.A3 b:=λ_=>rfl
 simp only[Q7v,Q43,Qkm,Qj2,Q0p,Q45,Tree.m,letv,Z2k,hcl,t1,t2]
 rw[show Q14 {B2:=m.B2,Mem:=m.Mem,A3:=m.A3,A7:=m.A7,B0:=m.B0,C0:=m.C0,A2:=m.A2,A1:=m.A1,A4:=m.A4,A6:=m.A6}=Q41 m from mm]
 cases hM:Q41 m
 . rfl
 have hM':Q14 m=true:=mm.trans hM
 rcases(Qon m.Mem h.mem).2 with c|⟨P,hP,hmem⟩
 . exact absurd c ((Qn6 m).1 hM').1
 have cs:=Z8p hmem h.disk e
 have rs:=Zdn hmem h.nic e.D0
 clear mm hM hM' hcl h
 obtain⟨c,mem,con,ti,d,n,b,ct,w,hl⟩:=m
 cases hl
 . by_cases k2:e.B7=2
   . rw[k2];cases e.N==0<;>cases decide (e.D0=[])<;>rfl
   by_cases k3:e.B7=3
   . rw[k3];cases decide (e.N<=255)<;>cases decide (e.D0=[])<;>rfl
   by_cases k4:e.B7=4
   . rw[k4,cs];rfl
   by_cases k5:e.B7=5
   . rw[k5,rs];cases e.N==0<;>rfl
   by_cases k6:e.B7=6
   . rw[k6];cases decide (e.D0=[])<;>rfl
   . rw[show(e.B7==2)=false by simpa using k2,show(e.B7==3)=false by simpa using k3,show(e.B7==4)=false by simpa using k4,show(e.B7==5)=false by simpa using k5,show(e.B7==6)=false by simpa using k6]
     rfl
 . rfl
theorem xag{l acts:List Int}{x0:Bool}(hx0:x0=Qsb l acts)(hb:(!x0)=false):l.length<=40/\acts.length<=30:=by
 have hb:x0=true:=by simpa using hb
 rw[hb]at hx0
 simp only[Qsb,Quf,Tree.m]at hx0
 cases h1:decide ((l.length:Int)<=40)<;>rw[h1]at hx0
 . cases hx0
 . have:=of_decide_eq_true hx0.symm
   have:=of_decide_eq_true h1
   omega
section
variable {m:Q00} (h:okV m) (hl:m.Mem.length<=1024)
include h
theorem may_P(hm:Q14 m=true): ∃P,okS P m/\okM P m:=by
 rcases(Qon m.Mem h.mem).2 with c|⟨P,hP,hmem⟩
 . exact absurd c ((Qn6 m).1 hm).1
 . exact⟨P,⟨h.cpu,hmem,h.disk,h.nic,h.bal.1,h.bal.2⟩,⟨h.cpu,hmem,h.disk,h.nic,h.bal,h.cnt⟩⟩
include hl
theorem yj{clock:Int}(hk:U clock):Q62 m clock/\(Q2v m clock).2.length<=1/\(Q2v m clock).1.Mem.length<=1024:=by
 cases hr:Q2o m
 . have e:Q2v m clock=(m,[]):=by rw[Zjf,hr];rfl
   rw[e]
   refine⟨?_,Nat.zero_le _,hl⟩
   have hcl:Q03 m.Mem=m.Mem:=rfl
   show(Q32 m clock).p
   unfold Tree.p Q32
   refine w_an (by show m.Mem.length<=35184372088832;omega) (w_lv λl hl=> ?_)
   rw[hcl]at hl;subst hl
   refine w_an (Tree.pp (Zfb (m:=⟨_,_,_,_,_,_,m.A2,_,_,_⟩) h.bal.2)).1 (w_lv λx1 hx1=>w_br (λ_=>trivial) (λhb=> ?_))
   have:x1=false:=hx1.trans hr
   rw[this]at hb;cases hb
 . obtain⟨P,s,_⟩:=may_P h (Qz4 hr).1
   have g:=Tree.pp (xg s h.cnt hk)
   have ml:=g.2.2.ok.mem.len
   have mp:=g.2.2.ok.mem.p2
   exact⟨g.1,g.2.1,by show(Q32 m clock).m.1.Mem.length<=1024;omega⟩
omit h hl in
theorem Zjv{P:Nat}(h:okM P m){e:Q0f}(he:U e.N):(Q45 m e).w (λx=>okM P x.2):=by
 have k:=h
 obtain⟨h1,h2,h3,h4,h5,h7⟩:=h
 unfold Q45
 repeat'(first
   |exact k
   |exact⟨h1,h2,h3,h4,⟨he,h5.2⟩,h7⟩
   |exact w_lv λ_ _=>⟨h1,h2,h3,h4,h5,h7⟩
   |exact Q0d (zX _ _) λ_ _=>⟨h1,h2,h3,h4,h5,h7⟩
   |exact Q0d (Zij h2 h3 _) λx hx=>⟨h1,hx.2,hx.1,h4,h5,h7⟩
   |exact Q0d (Zj7 h2 h4 _) λx hx=>⟨h1,hx.2,h3,hx.1,h5,h7⟩
   |refine w_br (λ_=> ?_) (λ_=> ?_))
theorem Zkg{e:Q0f}(he:U e.N):Qe4 m e:=by
 cases hm:Q14 m
 . have hcl:Q03 m.Mem=m.Mem:=rfl
   show(Q43 m e).p
   unfold Tree.p Q43
   refine w_an (by show m.Mem.length<=35184372088832;omega) (w_lv λl hl=> ?_)
   rw[hcl]at hl;subst hl
   refine w_an (Tree.pp (Zk0 (m:=⟨_,_,_,_,_,_,m.A2,_,_,_⟩) h.bal.2)).1 (w_lv λx1 hx1=>w_br (λ_=>trivial) (λhb=> ?_))
   have:x1=false:=hx1.trans hm
   rw[this]at hb;cases hb
 . obtain⟨P,s,o⟩:=may_P h hm
   exact(Tree.pp (Zji o he)).1
end
theorem qah(a:Q00)(ha:a.Mem.length<=1000000000000):(Qig a a).w (λb=>b=true):=by
 unfold Qig
 repeat'(first
   |refine w_br (λ_=> ?_) (λh=>absurd h (by simp [eqs,eq1];done))
   |exact w_an ha (w_lv λx hx=>by rw[hx];exact Z58 _ ha)
   |refine w_an ha (w_lv λx hx=>w_br (λ_=> ?_) (λh=>by rw[hx,Z58 _ ha]at h;cases h))
   |exact rfl)
 all_goals(show(_==_)=true;simp)
theorem vj(a:List Q02)(ha:a.length<=1000000000000):(Q4n a a).w (λb=>b=true):=by
 unfold Q4n
 refine w_br (λh=>by simp at h) (λ_=> ?_)
 refine w_lp (inv:=λv:Int=>0<=v/\v<=a.length) (μ:=Q5s a a) ⟨by omega,by omega⟩ (Nat.lt_succ_self _) λv ⟨h1,h2⟩=> ?_
 refine w_br (λhb=> ?_) (λ_=>rfl)
 have hb:=of_decide_eq_true hb
 have e:IntKind.i64.wrap (v+1)=v+1:=by rw[IntKind.wrap_i64];omega
 refine w_cn (by simp [Nat.blt];omega) (w_cn (by simp [Nat.blt];omega) (w_br (λh=>by simp [eqs,eq1]at h) (λ_=>w_nx ?_)))
 show(_/\_)/\(_:Nat)<_
 exact⟨⟨by rw[e];omega,by rw[e];omega⟩,by show(a.length-IntKind.i64.wrap (v+1)).toNat<(a.length-v).toNat;rw[e];omega⟩
def Tree.V{β:Type}(t:Tree β)(W:β->Prop):Prop:=W t.m
section
variable {α β:Type} {W:β->Prop} {c:Bool} {t e:Tree β}
theorem v_lf{x:β}(h:W x):Tree.V (.lf x) W:=h
theorem v_nx{f:Prop}{x:β}{hf:f}(h:W x):Tree.V (.nx f x hf) W:=h
theorem v_br(h:c=true->Tree.V t W)(g:c=false->Tree.V e W):Tree.V (.br c t e) W:=by
 cases c
 . exact g rfl
 . exact h rfl
theorem v_cn(g:Tree.V t W):Tree.V (.cn c t) W:=g
theorem v_an{p:Prop}(g:Tree.V t W):Tree.V (.an p t) W:=g
theorem v_lv{x:α}{k:α->Tree β}(h: ∀y,y=x->Tree.V (k y) W):Tree.V (.lv x k) W:=h x rfl
theorem v_lp{d:Inhabited β}{n:Nat}{f:Prop}{x:α}{k:α->Tree (α⊕β)}{hf:f}{inv:α->Prop}{μ:α->Nat}(h:inv x)(hn:μ x<n)(g: ∀y,inv y->Tree.V (k y) (Sum.elim (λz=>inv z/\μ z<μ y) W)):Tree.V (.lp d n f x k hf) W:=by
 refine zx (P:=inv) (R:=W) (μ:=μ) (λa ha=> ?_) n x h hn
 have:=g a ha
 unfold Tree.V at this
 revert this
 cases(k a).m with
 |inl z=>exact λh=>h
 |inr b=>exact λh=>h
end
def Z4t(r:Q01)(m:Q00):Q01:={A0:=m,B1:=r.B1,C6:=r.C6,A9:=r.A9}
theorem qaE(r:Q01)(port clock:Int):Qtn r port clock=((Qc9 r.A0 port clock).1,Z4t r (Qc9 r.A0 port clock).2):=by
 simp only[Qtn,Qie,Qc9,Qjx,Tree.m,letv]
 cases decide (port<=1)<;>cases port==2<;>cases port==3<;>cases decide (port<=6)<;>cases decide (port<=9)<;>rfl
theorem zah(r:Q01)(port v:Int):Qor r port v=((Qab r.A0 port v).1,Z4t r (Qab r.A0 port v).2):=by
 simp only[Qor,Qbq,Qab,Qdp,Tree.m,letv]
 cases port==0<;>cases decide (port<=2)<;>cases port==3<;>cases decide (port<=6)<;>cases decide (port<=9)<;>rfl
theorem zaE{r:Q01}{c:Bool}{x y:Bool×Q01}{x' y':Bool×Q00}(hx:x=(x'.1,Z4t r x'.2))(hy:y=(y'.1,Z4t r y'.2)):cond c x y=((cond c x' y').1,Z4t r (cond c x' y').2):=by cases c<;>assumption
theorem qk(r:Q01)(e:Q0f):Qjb r e=((Q0p r.A0 e).1,Z4t r (Q0p r.A0 e).2):=by
 simp only[Qjb,Q8g,Q0p,Q45,Tree.m,letv]
 repeat'(first|rfl|refine zaE ?_ ?_)
theorem Z9t(r:Q01)(clock:Int):Q6l r clock=((Q05 r.A0 clock).1,Z4t r (Q05 r.A0 clock).2):=by
 simp only[Q6l,Q60,Q05,Q8d,Tree.m,letv,qaE,zah,Z4t]
 cases(Q73 (Q0m r.A0) r.A0.Mem).2.1.B7==1<;>cases(Q73 (Q0m r.A0) r.A0.Mem).2.1.B7==2<;>cases(Q73 (Q0m r.A0) r.A0.Mem).2.1.B7==3<;>cases(Q73 (Q0m r.A0) r.A0.Mem).2.1.B7==4<;>rfl
def Q1z(r:Q01)(e:Q0f):Q01:=
 bif(Q0p r.A0 e).1 then{A0:=(Q0p r.A0 e).2,B1:=r.B1,C6:=r.C6++[{At:=(Q0p r.A0 e).2.A1,C4:=e}],A9:=r.A9} else Z4t r (Q0p r.A0 e).2
theorem Zj8(r:Q01)(e:Q0f):Qha r e=Q1z r e:=by
 have a:Qg8 r e=((Q0p r.A0 e).1,Z4t r (Q0p r.A0 e).2):=by
   simp only[Qg8,Q6y,Tree.m,letv,qk]
 simp only[Qha,Qa,Tree.m,letv,a,Q1z]
 cases(Q0p r.A0 e).1<;>rfl
def Q47(r:Q01):Q01:=bif Q7k r.A0.A7 r.B1 then Q1z r {B7:=2,N:=0,D0:=[]} else r
def Zac(r:Q01):Q01:=bif Q1b r.A0 then{A0:=r.A0,B1:=r.B1,C6:=r.C6++[{At:=r.A0.A1,C4:={B7:=1,N:=r.B1,D0:=[]}}],A9:=r.A9} else r
def Qiw(r:Q01):Q01:={A0:=(Q05 r.A0 r.B1).2,B1:=IntKind.wrap .u32 (r.B1+1),C6:=(Zac r).C6,A9:=r.A9}
def recF:Nat->Q01->List Q02->Q01×List Q02
 |0,r,o=>(r,o)
 |n+1,r,o=>bif Q0y (Q47 r).A0 then(Q47 r,o) else recF n (Qiw (Q47 r)) (o++(Q05 (Q47 r).A0 (Q47 r).B1).1)
def noQ(r:Q01):Q01:={A0:=r.A0,B1:=r.B1,C6:=r.C6,A9:=[]}
def advF(r:Q01)(steps clock:Int):Q01×List Q02:=
 bif !Q41 r.A0 then(r,[]) else recF (Q12 steps).toNat (noQ (r.A9.foldl Q1z {A0:=r.A0,B1:=if clock>r.B1 then clock else r.B1,C6:=r.C6,A9:=r.A9})) []
theorem Qnb(r:Q01)(e:Q0f):(Q1z r e).A9=r.A9:=by
 unfold Q1z;cases(Q0p r.A0 e).1<;>rfl
theorem Zkc(r:Q01):Qnu r=r:=by
 simp only[Qnu,Qdk,Tree.m,letv,Z2k]
theorem Qst(r:Q01)(steps clock:Int)(hq:r.A9.length<=1000000):Qco r steps clock=advF r steps clock:=by
  show Tree.V (Q5i r steps clock) (λx=>x=advF r steps clock)
  obtain⟨lim0,lim⟩:=Qs9 steps
  unfold Q5i
  refine v_an (v_lv λx0 e0=>v_lv λx1 e1=> ?_)
  rw[Zkc]at e0
  subst e0
  refine v_br (λhb=>v_lf ?_) λhb=> ?_
  . unfold advF;rw[<-e1,hb];rfl
  generalize hr0:({A0:=x0.A0,B1:=if clock>x0.B1 then clock else x0.B1,C6:=x0.C6,A9:=x0.A9}:Q01)=r0
  have hA:advF x0 steps clock=recF (Q12 steps).toNat (noQ (x0.A9.foldl Q1z r0)) []:=by
    unfold advF;rw[<-e1,hb,hr0];rfl
  have hQ:r0.A9=x0.A9:=by rw[<-hr0]
  refine v_lp (inv:=λz:Int×Q01=>0<=z.1/\z.1<=x0.A9.length/\z.2.A9=x0.A9/\(x0.A9.drop z.1.toNat).foldl Q1z z.2=x0.A9.foldl Q1z r0) (μ:=Qb5 x0 steps clock) ⟨Int.le_refl 0,by show(0:Int)<=_;omega,hQ,rfl⟩ (Nat.lt_succ_self _) λz ⟨z0,z1,z2,z3⟩=> ?_
  refine v_br (λhb=> ?_) (λhb=> ?_)
  . have hb:=of_decide_eq_true hb
    rw[z2]at hb
    refine v_cn (v_an (v_lv λx2 e2=>v_nx ?_))
    have ew:IntKind.i64.wrap (z.1+1)=z.1+1:=by rw[IntKind.wrap_i64];omega
    rw[Zj8]at e2
    have q2:x2.A9=x0.A9:=by rw[e2,Qnb,z2]
    have hlt:z.1.toNat<x0.A9.length:=by omega
    have ed:z.2.A9.getD z.1.toNat (RK.dflt RK.apiEvent)=x0.A9[z.1.toNat]:=by rw[z2,List.getD_eq_getElem?_getD,List.getElem?_eq_getElem hlt];rfl
    show(0<=IntKind.i64.wrap (z.1+1)/\IntKind.i64.wrap (z.1+1)<=x0.A9.length/\x2.A9=x0.A9/\(x0.A9.drop (IntKind.i64.wrap (z.1+1)).toNat).foldl Q1z x2=_)/\(x2.A9.length-IntKind.i64.wrap (z.1+1)).toNat<(z.2.A9.length-z.1).toNat
    rw[ew,q2,z2]
    refine⟨⟨by omega,by omega,rfl,?_⟩,by omega⟩
    rw[<-z3,List.drop_eq_getElem_cons hlt,List.foldl_cons,show(z.1+1).toNat=z.1.toNat+1 by omega,e2,ed]
  . have hb:=of_decide_eq_false hb
    rw[z2]at hb
    obtain⟨zi,zr⟩:=z
    have hb: ¬zi<x0.A9.length:=hb
    have ze:zr=x0.A9.foldl Q1z r0:=by
      rw[<-z3,List.drop_eq_nil_of_le (by show x0.A9.length<=zi.toNat;omega)];rfl
    rw[<-ze]at hA
    refine v_lp (inv:=λy:Int×Q01×List Q02=>0<=y.1/\y.1<=Q12 steps/\recF (Q12 steps-y.1).toNat y.2.1 y.2.2=advF x0 steps clock) (μ:=Q5j x0 steps clock (zi,zr)) ⟨Int.le_refl 0,by show(0:Int)<=_;omega,by rw[hA];show recF (Q12 steps-0).toNat _ _=_;rw[Int.sub_zero];rfl⟩ (Nat.lt_succ_self _) λy ⟨y0,y1,y2⟩=> ?_
    obtain⟨yi,yr,yo⟩:=y
    have mu: ∀q,yi<4000->Q5j x0 steps clock (zi,zr) (IntKind.wrap .i64 (yi+1),q)<Q5j x0 steps clock (zi,zr) (yi,yr,yo):=λq h=>by
      show(4000-IntKind.wrap .i64 (yi+1)).toNat<(4000-yi).toNat
      have y0:0<=yi:=y0
      rw[IntKind.wrap_i64];omega
    have y0:0<=yi:=y0
    refine v_lv λx3 e3=>v_br (λhb=> ?_) (λhb=> ?_)
    . have hb:yi<x3:=of_decide_eq_true hb
      rw[e3]at hb
      have mu:=λq=>mu q (by omega)
      have ew:IntKind.i64.wrap (yi+1)=yi+1:=by rw[IntKind.wrap_i64];omega
      have en:(Q12 steps-yi).toNat=(Q12 steps-(yi+1)).toNat+1:=by omega
      change recF (Q12 steps-yi).toNat yr yo=_ at y2
      rw[en]at y2
      refine v_lv λx4 e4=>v_br (λhd=>v_an (v_lv λx5 e5=> ?_)) (λhd=> ?_)
      . have e5:x5=Q47 yr:=by rw[e5,Zj8];unfold Q47;rw[<-e4,hd];rfl
        refine v_an (v_lv λx6 e6=>v_br (λhs=>v_lf ?_) λhs=>v_an (v_lv λx7 e7=>v_br (λhr=>v_cn (v_an (v_lv λx8 e8=>v_cn (v_nx ?_)))) λhr=>v_an (v_lv λx9 e9=>v_cn (v_nx ?_))))
        . show(_,yo)=_
          rw[<-y2];unfold recF
          rw[<-e5,<-e6,hs];rfl
        . rw[Z9t]at e8
          refine⟨⟨by show 0<=IntKind.wrap .i64 (yi+1);rw[ew];omega,by show IntKind.wrap .i64 (yi+1)<=_;rw[ew];omega,?_⟩,mu _⟩
          show recF (Q12 steps-IntKind.wrap .i64 (yi+1)).toNat _ _=_
          rw[ew,<-y2,e8]
          conv=>rhs;unfold recF
          rw[<-e5,<-e6,hs]
          unfold Qiw Zac
          rw[<-e7,hr];rfl
        . rw[Z9t]at e9
          refine⟨⟨by show 0<=IntKind.wrap .i64 (yi+1);rw[ew];omega,by show IntKind.wrap .i64 (yi+1)<=_;rw[ew];omega,?_⟩,mu _⟩
          show recF (Q12 steps-IntKind.wrap .i64 (yi+1)).toNat _ _=_
          rw[ew,<-y2,e9]
          conv=>rhs;unfold recF
          rw[<-e5,<-e6,hs]
          unfold Qiw Zac
          rw[<-e7,hr];rfl
      . have e5:yr=Q47 yr:=by
          have e4:x4=Q7k yr.A0.A7 yr.B1:=e4
          unfold Q47;rw[<-e4,hd];rfl
        refine v_an (v_lv λx6 e6=>v_br (λhs=>v_lf ?_) λhs=>v_an (v_lv λx7 e7=>v_br (λhr=>v_cn (v_an (v_lv λx8 e8=>v_cn (v_nx ?_)))) λhr=>v_an (v_lv λx9 e9=>v_cn (v_nx ?_))))
        . show(_,yo)=_
          rw[<-y2];unfold recF
          rw[<-e5,<-e6,hs];rfl
        . rw[Z9t]at e8
          refine⟨⟨by show 0<=IntKind.wrap .i64 (yi+1);rw[ew];omega,by show IntKind.wrap .i64 (yi+1)<=_;rw[ew];omega,?_⟩,mu _⟩
          show recF (Q12 steps-IntKind.wrap .i64 (yi+1)).toNat _ _=_
          rw[ew,<-y2,e8]
          conv=>rhs;unfold recF
          rw[<-e5,<-e6,hs]
          unfold Qiw Zac
          rw[<-e7,hr];rfl
        . rw[Z9t]at e9
          refine⟨⟨by show 0<=IntKind.wrap .i64 (yi+1);rw[ew];omega,by show IntKind.wrap .i64 (yi+1)<=_;rw[ew];omega,?_⟩,mu _⟩
          show recF (Q12 steps-IntKind.wrap .i64 (yi+1)).toNat _ _=_
          rw[ew,<-y2,e9]
          conv=>rhs;unfold recF
          rw[<-e5,<-e6,hs]
          unfold Qiw Zac
          rw[<-e7,hr];rfl
    . have hb: ¬yi<x3:=of_decide_eq_false hb
      rw[e3]at hb
      refine v_lf ?_
      show(yr,yo)=_
      change recF (Q12 steps-yi).toNat yr yo=_ at y2
      rw[<-y2,show(Q12 steps-yi).toNat=0 by omega];rfl
structure good(P:Nat)(m:Q00):Prop where
 ok:okM P m
 may:Q14 m=true
section
variable {P:Nat} {m:Q00} (h:good P m)
include h
theorem good.v:okV m:=⟨h.ok.cpu,h.ok.mem.u,h.ok.disk,h.ok.nic,h.ok.target,h.ok.cnt⟩
theorem good.s:okS P m:=⟨h.ok.cpu,h.ok.mem,h.ok.disk,h.ok.nic,h.ok.target.1,h.ok.target.2⟩
theorem good.rmay:Q41 m=true:=(Qpj h.v).symm.trans h.may
theorem Qlo{e:Q0f}(he:U e.N):good P (Q0p m e).2/\(Q0p m e).2.A1=m.A1:=by
 have o:okM P (Q0p m e).2:=Tree.post _ (Zjv h.ok he)
 have a:=(Tree.pp (Zji h.ok he)).2
 change(Q14 m=true->Q14 (Q7v m e).1=true)/\(Q7v m e).1.A1=m.A1/\_ at a
 have e1:Qkm m e=((Q0p m e).2,(Q0p m e).1):=by
   simp only[Qkm,Qj2,Tree.m,letv,Z2k,h.rmay];rfl
 rw[Z6v h.v e,e1]at a
 exact⟨⟨o,a.1 h.may⟩,a.2.1⟩
theorem Qrv:Q0y m=false↔m.A6=false/\Q36 m=false/\m.A1<1152921504606846976:=by
 simp only[Q0y,Q9b,Tree.m,letv,h.rmay]
 cases m.A6<;>cases Q36 m<;>simp
theorem Qg9(hs:Q0y m=false){clock:Int}(hc:U clock):good P (Q05 m clock).2/\(Q05 m clock).2.A1=m.A1+1/\(Q05 m clock).1.length<=1:=by
 have o:=Tree.post _ (Qvn h.ok hc)
 change(Q05 m clock).1.length<=1/\okM P (Q05 m clock).2/\(Q05 m clock).2.A1=IntKind.wrap .u64 (m.A1+1) at o
 have s:=(Tree.pp (xg h.s h.ok.cnt hc)).2
 change _/\Good P m (Q2v m clock).1 at s
 have e:Q2v m clock=((Q05 m clock).2,(Q05 m clock).1):=by rw[Zbg h.v,Z89,hs];rfl
 rw[e]at s
 have hct:=((Qrv h).1 hs).2.2
 have h0:=h.ok.cnt
 refine⟨⟨o.2.1,s.2.may h.may⟩,?_,o.1⟩
 rw[o.2.2,IntKind.wrap_u64];omega
end
structure Q8t(P:Nat)(k:Int)(r:Q01):Prop where
 m:good P r.A0
 clock:U r.B1
 cnt:r.A0.A1<=k
theorem Qlx{P:Nat}{k:Int}{r:Q01}(h:Q8t P k r){e:Q0f}(he:U e.N):Q8t P k (Q1z r e)/\(Q1z r e).A0.A1=r.A0.A1:=by
 obtain⟨a,b⟩:=Qlo h.m he
 have hc:=h.cnt
 unfold Q1z
 cases(Q0p r.A0 e).1
 . exact⟨⟨a,h.clock,by show(Q0p r.A0 e).2.A1<=k;omega⟩,b⟩
 . exact⟨⟨a,h.clock,by show(Q0p r.A0 e).2.A1<=k;omega⟩,b⟩
theorem Qp0{P:Nat}{k:Int}{r:Q01}(h:Q8t P k r):Q8t P k (Q47 r)/\(Q47 r).A0.A1=r.A0.A1:=by
 unfold Q47
 cases Q7k r.A0.A7 r.B1
 . exact⟨h,rfl⟩
 . exact Qlx h U_0
theorem Qou{P:Nat}{k:Int}{r:Q01}(h:Q8t P k r)(hs:Q0y r.A0=false):Q8t P (k+1) (Qiw r):=by
 obtain⟨a,b,_⟩:=Qg9 h.m hs h.clock
 have hc:=h.cnt
 exact⟨a,Q0r _,by show(Q05 r.A0 r.B1).2.A1<=k+1;omega⟩
theorem Zbw{P:Nat}(n:Nat): ∀{k:Int} {r:Q01} {o:List Q02},Q8t P k r->Q8t P (k+n) (recF n r o).1:=by
 induction n with
 |zero=>intro k r o h;exact⟨h.m,h.clock,by have:=h.cnt;show r.A0.A1<=k+(0:Nat);omega⟩
 | succ n ih=>
   intro k r o h
   obtain⟨f,fc⟩:=Qp0 h
   unfold recF
   cases hs:Q0y (Q47 r).A0
   . have t:=ih (o:=o++(Q05 (Q47 r).A0 (Q47 r).B1).1) (Qou f hs)
     exact⟨t.m,t.clock,by have:=t.cnt;show(recF n _ _).1.A0.A1<=_;omega⟩
   . exact⟨f.m,f.clock,by have:=f.cnt;show(Q47 r).A0.A1<=_;omega⟩
theorem Z63{P:Nat}{k:Int}(l:List Q0f): ∀{r:Q01},Q8t P k r->(∀q∈l,U q.N)->Q8t P k (l.foldl Q1z r)/\(l.foldl Q1z r).A9=r.A9:=by
 induction l with
 |nil=>intro r h _;exact⟨h,rfl⟩
 | cons e l ih=>
   intro r h hu
   obtain⟨a,b⟩:=ih (Qlx h (hu e (by simp))).1 (λq hq=>hu q (by simp [hq]))
   exact⟨a,b.trans (Qnb r e)⟩
theorem Z71(n:Nat): ∀(r:Q01) (o:List Q02),(recF n r o).1.A9=r.A9:=by
 induction n with
 |zero=>intro r o;rfl
 | succ n ih=>
   intro r o
   have f:(Q47 r).A9=r.A9:=by
     unfold Q47;cases Q7k r.A0.A7 r.B1
     . rfl
     . exact Qnb _ _
   unfold recF
   cases Q0y (Q47 r).A0
   . exact(ih _ _).trans f
   . exact f
def okQ(l:List Q0f):Prop:=l.length<=16/\ ∀q∈l,U q.N
theorem xk{P:Nat}{k:Int}{r:Q01}(h:Q8t P k r)(hq:okQ r.A9)(steps:Int){clock:Int}(hc:U clock):Q8t P (k+4000) (advF r steps clock).1/\okQ (advF r steps clock).1.A9:=by
 obtain⟨l0,l1⟩:=Qs9 steps
 unfold advF
 rw[h.m.rmay]
 have hcl:U (if clock>r.B1 then clock else r.B1):=by split<;>first|exact hc|exact h.clock
 obtain⟨a,b⟩:=Z63 r.A9 (r:={A0:=r.A0,B1:=if clock>r.B1 then clock else r.B1,C6:=r.C6,A9:=r.A9}) ⟨h.m,hcl,h.cnt⟩ hq.2
 have c:=Zbw (Q12 steps).toNat (o:=[]) (r:=noQ (r.A9.foldl Q1z {A0:=r.A0,B1:=if clock>r.B1 then clock else r.B1,C6:=r.C6,A9:=r.A9})) ⟨a.m,a.clock,a.cnt⟩
 refine⟨⟨c.m,c.clock,?_⟩,?_⟩
 . have:=c.cnt
   show(recF _ _ _).1.A0.A1<=_
   omega
 . show okQ (recF _ _ _).1.A9
   rw[Z71];exact⟨Nat.zero_le _,λq hq=>by cases hq⟩
theorem zk(n:Int):U (Q3o n).N:=Tree.post _ (Zgk n)
theorem Qk2(r:Q01)(e:Q0f):Q2n r e=bif !Q2u e then(r,false) else bif e.B7==1 then(r,false) else bif decide ((r.A9.length:Int)>=16) then(r,false) else({A0:=r.A0,B1:=r.B1,C6:=r.C6,A9:=r.A9++[e]},true):=by
 simp only[Q2n,Q8a,Tree.m,letv,Zkc]
theorem Zgs{P:Nat}{k:Int}{r:Q01}(h:Q8t P k r)(hq:okQ r.A9){e:Q0f}(he:U e.N):Q8t P k (Q2n r e).1/\okQ (Q2n r e).1.A9:=by
  rw[Qk2]
  cases Q2u e
  . exact⟨h,hq⟩
  . cases e.B7==1
    . cases hl:decide ((r.A9.length:Int)>=16)
      . have hl:=of_decide_eq_false hl
        refine⟨⟨h.m,h.clock,h.cnt⟩,?_,λq hm=> ?_⟩
        . show(r.A9++[e]).length<=16
          rw[List.length_append,List.length_singleton];omega
        . have hm:q∈r.A9++[e]:=hm
          rcases List.mem_append.1 hm with hm|hm
          . exact hq.2 q hm
          . rw[List.mem_singleton.1 hm];exact he
      . exact⟨h,hq⟩
    . exact⟨h,hq⟩
theorem Qts{r:Q01}{n:Int}(h:(Int.tmod (Q35 n 3) 3==0)=true):Q3h r n=((Q2n r (Q3o n)).1,[]):=by
 show Tree.V (Q7x r n) (λx=>x=((Q2n r (Q3o n)).1,[]))
 unfold Q7x
 refine v_lv λx0 e0=>v_br (λ_=>v_an (v_lv λx1 e1=>v_an (v_lv λx2 e2=>v_lf ?_))) (λhb=> ?_)
 . rw[e2,e1]
 . rw[e0,h]at hb;cases hb
theorem Qtq{r:Q01}{n:Int}(h:(Int.tmod (Q35 n 3) 3==0)=false):Q3h r n=Qco r (Q1s (ishr .i64 (Q35 n 3) 4) 12) (IntKind.wrap .u32 (iand .i64 (ishr .i64 (Q35 n 3) 12) 255)):=by
 show Tree.V (Q7x r n) (λx=>x=Qco r (Q1s (ishr .i64 (Q35 n 3) 4) 12) (IntKind.wrap .u32 (iand .i64 (ishr .i64 (Q35 n 3) 12) 255)))
 unfold Q7x
 refine v_lv λx0 e0=>v_br (λhb=> ?_) (λ_=>v_an (v_lv λx1 e1=>v_an (v_lv λx2 e2=>v_lf ?_)))
 . rw[e0,h]at hb;cases hb
 . rw[e2,e1,e0]
def Qji(s:Q01×List Q02)(n:Int):Q01×List Q02:=((Q3h s.1 n).1,s.2++(Q3h s.1 n).2)
theorem xah(m:Q00)(l:List Int)(hl:l.length<=1000000):Qs1 m l=l.foldl Qji (Q3s m,[]):=by
 show Tree.V (Qbk m l) (λx=>x=l.foldl Qji (Q3s m,[]))
 unfold Qbk
 refine v_an (v_lv λx0 e0=> ?_)
 subst e0
 refine v_lp (inv:=λz:Int×Q01×List Q02=>0<=z.1/\z.1<=l.length/\(l.drop z.1.toNat).foldl Qji z.2=l.foldl Qji (Q3s m,[])) (μ:=Qid m l) ⟨Int.le_refl 0,by show(0:Int)<=_;omega,rfl⟩ (Nat.lt_succ_self _) λz ⟨z0,z1,z2⟩=> ?_
 obtain⟨i,r,o⟩:=z
 have z0:0<=i:=z0
 have z1:i<=l.length:=z1
 refine v_br (λhb=>v_cn (v_an (v_lv λx1 e1=>v_cn (v_nx ?_)))) (λhb=>v_lf ?_)
 . have hb:i<l.length:=of_decide_eq_true hb
   have ew:IntKind.i64.wrap (i+1)=i+1:=by rw[IntKind.wrap_i64];omega
   have hlt:i.toNat<l.length:=by omega
   show(0<=IntKind.i64.wrap (i+1)/\IntKind.i64.wrap (i+1)<=l.length/\(l.drop (IntKind.i64.wrap (i+1)).toNat).foldl Qji (x1.1,o++x1.2)=_)/\(l.length-IntKind.i64.wrap (i+1)).toNat<(l.length-i).toNat
   rw[ew]
   refine⟨⟨by omega,by omega,?_⟩,by omega⟩
   rw[<-z2]
   show _=(l.drop i.toNat).foldl Qji (r,o)
   rw[List.drop_eq_getElem_cons hlt,List.foldl_cons,show(i+1).toNat=i.toNat+1 by omega,e1]
   have ed:l.getD i.toNat 0=l[i.toNat]:=by rw[List.getD_eq_getElem?_getD,List.getElem?_eq_getElem hlt];rfl
   rw[show Qji (r,o) l[i.toNat]=((Q3h r l[i.toNat]).1,o++(Q3h r l[i.toNat]).2) from by unfold Qji;rfl,<-ed]
 . have hb: ¬i<l.length:=of_decide_eq_false hb
   show(r,o)=_
   rw[<-z2]
   show _=(l.drop i.toNat).foldl Qji (r,o)
   rw[List.drop_eq_nil_of_le (by omega)];rfl
theorem Zbc(s:Q01×List Q02)(n:Int):Qji s n=((Q3h s.1 n).1,s.2++(Q3h s.1 n).2):=by unfold Qji;rfl
theorem yk{σ:Type}{f:σ->Int->σ}{I:Int->σ->Prop}(hf: ∀k s n,I k s->I (k+4000) (f s n))(l:List Int): ∀k s,I k s->I (k+4000*l.length) (l.foldl f s):=by
 induction l with
 |nil=>intro k s h;simpa using h
 | cons n l ih=>
   intro k s h
   have:=ih _ _ (hf k s n h)
   rw[List.foldl_cons,List.length_cons]
   rwa [show k+4000*((l.length+1:Nat):Int)=k+4000+4000*l.length by omega]
theorem vk(m:Q00):Q3s m={A0:=m,B1:=0,C6:=[],A9:=[]}:=by
 simp only[Q3s,Q3n,Tree.m,letv,Z2k]
theorem Zin{i:List Int}(hu: ∀w∈i,U w)(hl:i.length<=256):good 8 (Q1x 8 4 i).1/\(Q1x 8 4 i).1.A1=0:=by
 obtain⟨a,b⟩:=(Tree.pp (new_w i hu hl)).2
 change okM 8 (Q1x 8 4 i).1 at a
 refine⟨⟨a,?_⟩,b⟩
 have e:(Q1x 8 4 i).2=true:=by
   have w:IntKind.i64.wrap (8*32)=256:=by decide
   simp only[Q1x,Q8k,Tree.m,w,letv,decide_eq_false (show¬((i.length:Int)>256) by omega)]
   rfl
 obtain⟨a1,a2,a3,a4,a5,a6⟩:=xaK 8 4 i e
 exact(qaL _ 8 4 a1 a2 a3 a4 a5 _ a6).1
theorem ql{m:Q00}(h:good 8 m)(hc:m.A1<=87):Tree.V (Q8u m [] 87) (λx=>x.2.2.2=0->good 8 x.1/\x.1.A1<=87):=by
 have z: ∀{k:Int} {p:Prop},k≠0->k=0->p:=λa b=>absurd b a
 unfold Q8u
 refine v_lv λx0 _=>v_br (λ_=>v_lf (z (by decide))) λ_=>v_br (λ_=>v_lf (z (by decide))) λ_=>v_br (λ_=>v_lf (z (by decide))) λ_=>v_an (v_lv λx1 _=>v_br (λ_=>v_lf (z (by decide))) λ_=>v_an (v_lv λx2 hx=> ?_))
 rw[Z2k]at hx
 refine v_lp (inv:=λv:Q00×List Q02=>good 8 v.1/\v.1.A1<=87) (μ:=Qfg m [] 87) ⟨by rw[hx];exact h,by rw[hx];exact hc⟩ (Nat.lt_succ_self _) λv0 ⟨a1,a3⟩=> ?_
 have a2:=a1.ok.cnt
 refine v_br (λhb=>v_br (λhm=> ?_) (λ_=>v_lf λ_=>⟨a1,a3⟩)) (λ_=>v_lf λ_=>⟨a1,a3⟩)
 have hb:=of_decide_eq_true hb
 have hm:=of_decide_eq_true hm
 refine v_lp (inv:=λ_=>True) (μ:=Qfx m [] 87 v0) trivial (Nat.lt_succ_self _) λv1 _=> ?_
 refine v_br (λ_=>v_lf λ_=>⟨a1,a3⟩) λhh=>v_an (v_lv λx3 h3=>v_br (λ_=>v_lf λ_=>⟨a1,a3⟩) λhi=>v_an (v_lv λx4 _=>v_br (λ_=>v_lf (z (by decide))) λ_=>v_an (v_lv λx5 h5=>v_cn (v_nx ?_))))
 obtain⟨b1,b2,_⟩:=Qg9 a1 ((Qrv a1).2 ⟨hh,h3.symm.trans hi,hm⟩) (clock:=0) U_0
 rw[<-h5]at b1 b2
 show(good 8 x5.2/\x5.2.A1<=87)/\(87-x5.2.A1).toNat<(87-v0.1.A1).toNat
 exact⟨⟨b1,by omega⟩,by omega⟩
theorem Zaq(kind:Int)(l:List Int)(hl:l.length*8<=reachBytes)(h40:l.length<=40):good 8 (Qbp kind l)/\(Qbp kind l).A1<=87:=by
  show Tree.V (Q6m kind l) (λm=>good 8 m/\m.A1<=87)
  have code:=(Tree.pp (qd l hl)).2
  change((Qo2 l).length:Int)=l.length/\ ∀w∈Qo2 l,U w at code
  obtain⟨b1,b2⟩:=code
  unfold Q6m
  refine v_an (v_lv λx0 hx0=>v_br (λ_=>v_an (v_lv λx1 e1=> ?_)) (λhk=> ?_))
  . have eb:x1.1=boot:=by rw[e1];rfl
    obtain⟨q1,q2⟩:boot.length<=160/\ ∀w∈boot,U w:=qe
    refine v_lp (inv:=λv:List Int=>v.length<=160/\v=boot++List.replicate (v.length-boot.length) 0) (μ:=Qce kind l) ⟨by rw[eb];exact q1,by rw[eb];simp⟩ (Nat.lt_succ_self _) λv0 ⟨a1,a2⟩=> ?_
    have a3:boot.length<=v0.length:=by rw[a2,List.length_append];omega
    refine v_br (λhb=> ?_) (λhb=> ?_)
    . have hb:=of_decide_eq_true hb
      refine v_cn (v_nx ?_)
      show(_/\_)/\(_:Nat)<_
      refine⟨⟨by rw[List.length_append,List.length_singleton];omega,?_⟩,by show 160-(v0++[0]).length<160-v0.length;rw[List.length_append,List.length_singleton];omega⟩
      show v0++[0]=boot++List.replicate ((v0++[0]).length-boot.length) 0
      rw[List.length_append,List.length_singleton,show v0.length+1-boot.length=(v0.length-boot.length)+1 by omega,List.replicate_succ',<-List.append_assoc,<-a2]
    . have hb:=of_decide_eq_false hb
      have hv:v0=Qjn:=by
        unfold Qjn
        rw[show(160:Nat)=v0.length by omega]
        exact a2
      subst hv
      have hp:=qaa
      have hu0: ∀w∈Qjn,U w:=λw hw=>(List.mem_append.1 hw).elim (q2 w) (U_all _ w)
      refine v_an (v_lv λx2 e2=>v_cn ?_)
      rw[<-e2]at b1 b2
      have hu: ∀w∈Qjn++x2,U w:=λw hw=>(List.mem_append.1 hw).elim (hu0 w) (b2 w)
      have hlen:(Qjn++x2).length<=256:=by rw[List.length_append];omega
      refine v_br (λhb=> ?_) (λhb=> ?_)
      . have hb:=of_decide_eq_true hb;omega
      . obtain⟨c1,c2⟩:=Zin hu hlen
        refine v_an (v_lv λx3 h3=> ?_)
        rw[<-h3]at c1 c2
        have rn:=ql c1 (by omega)
        refine v_br (λ_=>v_an (v_lv λx4 hx=>v_lf ?_)) (λ_=>v_lf ⟨c1,by omega⟩)
        have e:x3=Q1x 8 4 (Qjn++(x2++List.replicate (96-x2.length) 0)):=by
          rw[h3]
          have hl2:(x2++List.replicate (96-x2.length) (0:Int)).length=96:=by rw[List.length_append,List.length_replicate];omega
          refine y9 _ _ hlen (by rw[List.length_append,hl2];omega) ?_
          rw[List.length_append,List.length_append,hl2,hp,List.append_assoc,List.append_assoc,List.append_assoc,show 256-(160+96)=0 by omega,show 256-(160+x2.length)=96-x2.length by omega]
          simp
        have h0:x4.2.2.2=0:=by
          rw[hx,e]
          exact qaz _ (by rw[List.length_append,List.length_replicate];omega)
        exact(by rw[hx];exact rn:x4.2.2.2=0->good 8 x4.1/\x4.1.A1<=87) h0
  . have hk:=of_decide_eq_false hk
    refine v_an (v_lv λx2 e2=>v_cn ?_)
    rw[<-e2]at b1 b2
    refine v_br (λhb=> ?_) (λhb=> ?_)
    . have hb:=of_decide_eq_true hb;omega
    . obtain⟨c1,c2⟩:=Zin b2 (by omega)
      refine v_an (v_lv λx3 h3=> ?_)
      rw[<-h3]at c1 c2
      exact v_br (λh=>absurd (eq_of_beq h) (by omega)) (λ_=>v_lf ⟨c1,by omega⟩)
theorem Zkm(w:Int):IntKind.wrap .i64 (Q2 w).1.Imm=(Q2 w).1.Imm:=by
 show Tree.V (Q65 w) (λr=>IntKind.wrap .i64 r.1.Imm=r.1.Imm)
 have e: ∀x,IntKind.wrap .i64 (IntKind.wrap .i32 x)=IntKind.wrap .i32 x:=λx=>by rw[IntKind.wrap_i64,IntKind.wrap_i32];omega
 unfold Q65
 refine v_lv λx0 _=> ?_
 have l: ∀i:Q0k,IntKind.wrap .i64 i.Imm=i.Imm->Tree.V (Tree.lv (Q6x i) λx=> .br (!x) (.lf ((⟨0,0,0,0,0⟩:Q0k),false)) (.lf (i,true))) (λr=>IntKind.wrap .i64 r.1.Imm=r.1.Imm):=λi hi=>v_lv λx hx=>v_br (λ_=>v_lf rfl) (λhb=>v_lf hi)
 exact v_br (λ_=>v_lf rfl) (λ_=>v_br (λ_=>l _ rfl) (λ_=>v_br (λ_=>l _ (e _)) (λ_=>v_br (λ_=>l _ (e _)) (λ_=>l _ (e _)))))
def ioP(e:Q10):Bool:=bif e.B7==1 then e.D1==2 else false
def readsC(c:Q04)(m:List Int):Bool:=
 bif iand .u32 c.B5.a0 1==0 then false else bif(Q17 m c.Pc 4).2 then bif(Q2 (Q17 m c.Pc 4).1).2 then bif(Q2 (Q17 m c.Pc 4).1).1.Op==60 then(Q2 (Q17 m c.Pc 4).1).1.Imm==2 else false else false else false
theorem Zcg(m:Q00):Q18 m=readsC (Q0m m) m.Mem:=rfl
theorem xaE(c:Q04)(i:Q0k):ioP (Qhu c i).2=(bif i.Op==60 then IntKind.wrap .i64 i.Imm==2 else false):=by
 show Tree.V (Q7n c i) (λr=>ioP r.2=_)
 have no: ∀{k:Int},i.Op=k->k≠60-> ∀e:Q10,e.B7≠1->ioP e=(bif i.Op==60 then IntKind.wrap .i64 i.Imm==2 else false):=λh g e he=>by
   unfold ioP
   rw[h,show(_==(60:Int))=false from beq_false_of_ne g,show(e.B7==1)=false from beq_false_of_ne he];rfl
 have eq: ∀{k:Int},(i.Op==k)=true->i.Op=k:=λh=>eq_of_beq h
 unfold Q7n
 refine v_br (λh=>v_lv λ_ _=>v_lf (no (eq h) (by decide) _ (show(0:Int)≠1 by decide))) λ_=>v_br (λh=>v_lv λ_ _=>v_lf (no (eq h) (by decide) _ (show(0:Int)≠1 by decide))) λ_=>v_br (λh=>v_cn (v_an (v_lv λ_ _=>v_lf (no (eq h) (by decide) _ (show(0:Int)≠1 by decide))))) λ_=>v_br (λh=>v_cn (v_an (v_lv λ_ _=>v_lf (no (eq h) (by decide) _ (show(0:Int)≠1 by decide))))) λ_=>v_br (λh=>v_lf ?_) λh60=> ?_
 . show(bif(1:Int)==1 then IntKind.wrap .i64 i.Imm==2 else false)=_
   rw[h];rfl
 . have n60:i.Op≠60:=λe=>by rw[e]at h60;cases h60
   refine v_br (λh=>v_cn (v_lf (no (eq h) (by decide) _ (by show(2:Int)≠1;decide)))) λ_=>v_br (λh=>v_lf (no (eq h) (by decide) _ (show(3:Int)≠1 by decide))) λ_=>v_br (λh=>v_lf (no (eq h) (by decide) _ (show(5:Int)≠1 by decide))) λ_=>v_br (λh=>v_lf (no (eq h) (by decide) _ (show(4:Int)≠1 by decide))) λ_=>v_lf (no rfl n60 _ (show(0:Int)≠1 by decide))
theorem xl(c:Q04)(m:List Int)(i:Q0k):ioP (Qiv c m i).2.1=(bif i.Op==60 then IntKind.wrap .i64 i.Imm==2 else false):=by
 unfold Qiv
 cases h:decide (i.Op>=56)
 . have h:=of_decide_eq_false h
   rw[show(i.Op==60)=false from beq_false_of_ne (by omega)]
   cases decide (i.Op>=40)<;>cases decide (i.Op>=32)<;>cases i.Op==24<;>cases decide (i.Op<=13)<;>rfl
 . exact xaE c i
theorem Zjg{P:Nat}{m:List Int}(h:Q1 P m){c:Q04}(hc:Q2b c)(hst:c.B5.a0<=31):ioP (Q73 c m).2.1=readsC c m:=by
  rw[do_eq]
  unfold readsC
  cases hk:iand .u32 c.B5.a0 1==0
  . have hp:Qkp c=false:=by
      rw[Z6w hc.a0.1 hst,show Qa0 c=true from by show(iand .u32 c.B5.a0 1 !=0)=true;rw[bne,hk];rfl]
      rfl
    have wi:=Qgp h hc.pc (size:=4) (.inr rfl)
    have kn:Qdv 1=true:=rfl
    have p0:=hc.pc.1
    have tm:Int.tmod c.Pc (IntKind.wrap .u32 4)=c.Pc%4:=by
      rw[show IntKind.wrap .u32 4=4 from rfl,Int.tmod_eq_emod_of_nonneg p0]
    have rc:Q11 c m c.Pc 4 1=bif c.Pc%4 !=0 then(0,3,m) else bif !Q22 m c.Pc 4 then(0,Q20 1,m) else(c.Pc,0,m):=by
      simp only[Q11,Q75,Tree.m,letv,kn,hp,tm]
      rfl
    rw[rc]
    cases h4:(c.Pc%4 !=0)
    . cases hw:Q22 m c.Pc 4
      . have l2:(Q17 m c.Pc 4).2=false:=by
          simp only[Q17,Q3t,Tree.m,letv,hw];rfl
        rw[l2]
        show ioP (doR c (0,Q20 1,m) _ _).2.1=false
        unfold doR
        rw[show((0,Q20 1,m):Int×Int×List Int).2.1=Q20 1 from rfl,show(Q20 1 !=0)=true by decide]
        rfl
      . have l2:(Q17 m c.Pc 4).2=true:=by
          simp only[Q17,Q3t,Tree.m,letv,hw];rfl
        rw[l2]
        show ioP (doR c (c.Pc,0,m) (Q17 m c.Pc 4).1 (Q2 (Q17 m c.Pc 4).1)).2.1=_
        have im:=Zkm (Q17 m c.Pc 4).1
        generalize Q17 m c.Pc 4=x at*
        generalize Q2 x.1=d at*
        unfold doR
        cases d.2
        . rfl
        . rw[hk]
          have:=xl c m d.1
          rw[im]at this
          cases Q34 d.1.Op<;>exact this
    . have hw:Q22 m c.Pc 4=false:=by
        rw[wi]
        refine decide_eq_false λe=> ?_
        rw[e.1]at h4;cases h4
      have l2:(Q17 m c.Pc 4).2=false:=by
        simp only[Q17,Q3t,Tree.m,letv,hw];rfl
      rw[l2];rfl
  . have us : ∀x w d,ioP (doR c x w d).2.1=false:=λx w d=>by
      unfold doR
      cases x.2.1 !=0
      . cases d.2
        . rfl
        . cases hp:Q34 d.1.Op
          . have:=xl c x.2.2 d.1
            rw[show(d.1.Op==60)=false from beq_false_of_ne λe=>by rw[e]at hp;cases hp]at this
            exact this
          . rw[hk];rfl
      . rfl
    exact us _ _ _
theorem Zkw{m:Q00}(h:okV m):Q4l m=Q1b m:=by
 have rd:Q1b m=bif Q0y m then false else Q18 m:=rfl
 have pd:Q4l m=bif !Q2o m then false else ioP (Q7j (Q0v m).B2 (Q0v m).Mem).2.2:=rfl
 rw[rd,pd,Qtp h]
 cases hs:Q0y m
 . have hr:Q2o m=true:=by rw[Qtp h,hs];rfl
   obtain⟨hm,hh,hct⟩:=Qz4 hr
   obtain⟨g1,g2,g3,g4,g5⟩:=(Qn6 m).1 hm
   rcases(Qon m.Mem h.mem).2 with c|⟨P,hP,hmem⟩
   . exact absurd c g1
   have okm:okS P m:=⟨h.cpu,hmem,h.disk,h.nic,h.bal.1,h.bal.2⟩
   obtain⟨b1,b2,b3,_⟩:=(Tree.pp (Qrt okm g2)).2
   change Q5u (Q0v m).B2 at b1
   change okS P (Q0v m) at b2
   have be:=Qu2 h g2.st
   have b1':Q5u (Q0m m):=by have:=b1;rw[be]at this;exact this
   have b2':Q2b (Q0m m):=by have:=b2.cpu;rw[be]at this;exact this
   have ex:=Zc8 hmem b2' b1'.st
   rw[be,Zcg,<-Zjg hmem b2' b1'.st]
   show ioP (Q7j (Q0m m) m.Mem).2.2=_
   rw[ex];rfl
 . rfl
theorem qaF(d:Q0e)(m:List Int)(e:Q0f):(Q7l d m e).2.1=false->Q7l d m e=(d,false,m):=by
 show Tree.V (Q6a d m e) (λr=>r.2.1=false->r=(d,false,m))
 have no: ∀{p:Prop},true=false->p:=λh=>by cases h
 unfold Q6a
 repeat'(first
   |exact v_lf λ_=>rfl
   |exact v_lf no
   |exact v_an (v_lv λ_ _=>v_lf no)
   |refine v_lv λ_ _=> ?_
   |refine v_an ?_
   |refine v_br (λ_=> ?_) (λ_=> ?_))
theorem zaF(n:Q0q)(m:List Int)(s:List UInt8):(Q7s n m s).2.1=false->Q7s n m s=(n,false,m):=by
 show Tree.V (Q69 n m s) (λr=>r.2.1=false->r=(n,false,m))
 have no: ∀{p:Prop},true=false->p:=λh=>by cases h
 unfold Q69
 repeat'(first
   |exact v_lf λ_=>rfl
   |exact v_an (v_lv λ_ _=>v_lf no)
   |refine v_lv λ_ _=> ?_
   |refine v_br (λ_=> ?_) (λ_=> ?_))
theorem qai(t:Q0g):(Q6d t).2=false->(Q6d t).1=t:=by
 show Tree.V (Q96 t) (λr=>r.2=false->r.1=t)
 have no: ∀{p:Prop},true=false->p:=λh=>by cases h
 unfold Q96
 repeat'(first
   |exact v_lf λ_=>rfl
   |exact v_lf no
   |refine v_br (λ_=> ?_) (λ_=> ?_))
theorem zai(c:Q0b)(b:Int):(Ql2 c b).2=false->(Ql2 c b).1=c:=by
 show Tree.V (Qb6 c b) (λr=>r.2=false->r.1=c)
 have no: ∀{p:Prop},true=false->p:=λh=>by cases h
 unfold Qb6
 exact v_br (λ_=>v_lf λ_=>rfl) (λ_=>v_cn (v_lf no))
theorem xaF(m:Q00)(e:Q0f):(Q0p m e).1=false->(Q0p m e).2=m:=by
 show Tree.V (Q45 m e) (λr=>r.1=false->r.2=m)
 have no: ∀{p:Prop},true=false->p:=λh=>by cases h
 unfold Q45
 repeat'(first
   |exact v_lf λ_=>rfl
   |exact v_lf no
   |exact v_lv λx hx=>v_lf λh=>by rw[hx]at h⊢;rw[qai _ h]
   |exact v_an (v_lv λx hx=>v_lf λh=>by rw[hx]at h⊢;rw[qaF _ _ _ h])
   |exact v_an (v_lv λx hx=>v_lf λh=>by rw[hx]at h⊢;rw[zaF _ _ _ h])
   |exact v_an (v_lv λx hx=>v_lf λh=>by rw[hx]at h⊢;rw[zai _ _ h])
   |refine v_br (λ_=> ?_) (λ_=> ?_))
theorem xai{m:Q00}(h:U m.A2.C5):Q85 m:=by
 show(Q31 m).p
 unfold Tree.p Q31
 refine w_br (λ_=>w_an ?_ (w_lv λ_ _=>trivial)) (λ_=>trivial)
 show(Q2x m).p
 unfold Tree.p Q2x
 exact Q0d (Zjt h) λ_ _=>trivial
theorem Zk5{P:Nat}{m:Q00}(h:okS P m):(Q2k m).w (λ_=>True):=by
 unfold Q2k
 exact Q0d (Zfb h.given) λ_ _=>w_br (λ_=>trivial) (λ_=>Q0d (zR h) λx1 h1=>Q0d (vu h1.cpu h1.mem) λx2 _=>w_br (λ_=>trivial) (λ_=>trivial))
section
variable {P:Nat} {m:Q00} (h:good P m)
include h
theorem good.len:m.Mem.length<=1024:=by have:=h.ok.mem.len;have:=h.ok.mem.p2;omega
theorem good.app(e:Q0f):Q7v m e=((Q0p m e).2,(Q0p m e).1):=by
 rw[Z6v h.v]
 simp only[Qkm,Qj2,Tree.m,letv,Z2k,h.rmay];rfl
theorem good.step(hs:Q0y m=false)(clock:Int):Q2v m clock=((Q05 m clock).2,(Q05 m clock).1):=by
 rw[Zbg h.v,Z89,hs];rfl
theorem good.idle:Q94 m=Q36 m:=Zce h.v
end
theorem Qp2(r:Q01)(e:Q0f):(Q1z r e).C6.length<=r.C6.length+1:=by
 unfold Q1z
 cases(Q0p r.A0 e).1
 . exact Nat.le_succ _
 . show(r.C6++[_]).length<=_
   rw[List.length_append,List.length_singleton];omega
theorem zl(r:Q01):(Q47 r).C6.length<=r.C6.length+1:=by
 unfold Q47
 cases Q7k r.A0.A7 r.B1
 . exact Nat.le_succ _
 . exact Qp2 _ _
theorem yl(r:Q01):(Zac r).C6.length<=r.C6.length+1:=by
 unfold Zac
 cases Q1b r.A0
 . exact Nat.le_succ _
 . show(r.C6++[_]).length<=_
   rw[List.length_append,List.length_singleton];omega
theorem Z1i{r:Q01}(hr:Q1b r.A0=true):Qiw r={A0:=(Q05 r.A0 r.B1).2,B1:=IntKind.wrap .u32 (r.B1+1),C6:=r.C6++[{At:=r.A0.A1,C4:={B7:=1,N:=r.B1,D0:=[]}}],A9:=r.A9}:=by
 unfold Qiw Zac;rw[hr];rfl
theorem Zgl{r:Q01}(hr:Q1b r.A0=false):Qiw r={A0:=(Q05 r.A0 r.B1).2,B1:=IntKind.wrap .u32 (r.B1+1),C6:=r.C6,A9:=r.A9}:=by
 unfold Qiw Zac;rw[hr];rfl
theorem Zba(r:Q01):(Qiw r).C6.length<=r.C6.length+1:=yl r
def Qq5:Q0f:={B7:=2,N:=0,D0:=[]}
theorem Zh3(m:Q00):Q0p m Qq5=bif m.A6 then(false,m) else((Q6d m.A7).2,{B2:=m.B2,Mem:=m.Mem,A3:=m.A3,A7:=(Q6d m.A7).1,B0:=m.B0,C0:=m.C0,A2:=m.A2,A1:=m.A1,A4:=m.A4,A6:=m.A6}):=rfl
theorem vl(t:Q0g):(Q6d t).2=true->(Q6d t).1.D2=false:=by
 show Tree.V (Q96 t) (λr=>r.2=true->r.1.D2=false)
 unfold Q96
 exact v_br (λ_=>v_lf λh=>by cases h) (λ_=>v_lf λ_=>rfl)
theorem qm{t:Q0g}{c:Int}(h:t.D2=false):Q7k t c=false:=by
 simp only[Q7k,Qu1,Tree.m,h];rfl
theorem Z2v{r:Q01}{e:Q0f}(h:(Q0p r.A0 e).1=false):Q1z r e=r:=by
 unfold Q1z;rw[h,xaF _ _ h];rfl
theorem Qn5(r:Q01):Q47 r=bif Q7k r.A0.A7 r.B1 then Q1z r Qq5 else r:=rfl
theorem xm{r:Q01}(h:Q7k r.A0.A7 r.B1=false):Q47 r=r:=by rw[Qn5,h];rfl
theorem Zbl(r:Q01)(o:List Q02):recF 0 r o=(r,o):=rfl
theorem Qup{n:Nat}{r:Q01}{o:List Q02}(hs:Q0y (Q47 r).A0=true):recF (n+1) r o=(Q47 r,o):=by
 conv=>lhs;unfold recF
 rw[hs];rfl
theorem Qua{n:Nat}{r:Q01}{o:List Q02}(hs:Q0y (Q47 r).A0=false):recF (n+1) r o=recF n (Qiw (Q47 r)) (o++(Q05 (Q47 r).A0 (Q47 r).B1).1):=by
 conv=>lhs;unfold recF
 rw[hs];rfl
theorem qK(n:Nat): ∀(r:Q01) (o:List Q02),recF n r o=((recF n r []).1,o++(recF n r []).2):=by
 induction n with
 |zero=>intro r o;rw[Zbl,Zbl,List.append_nil]
 | succ n ih=>
   intro r o
   cases hs:Q0y (Q47 r).A0
   . rw[Qua hs,Qua hs,ih,ih (Qiw (Q47 r)) ([]++_),List.nil_append,List.append_assoc]
   . rw[Qup hs,Qup hs,List.append_nil]
theorem Z1g{r:Q01}(h:Q41 r.A0=true)(steps clock:Int):advF r steps clock=recF (Q12 steps).toNat (noQ (r.A9.foldl Q1z {A0:=r.A0,B1:=if clock>r.B1 then clock else r.B1,C6:=r.C6,A9:=r.A9})) []:=by
 unfold advF;rw[h];rfl
theorem Qvu{s:Int}(h0:0<=s)(h1:s<=4000):Q12 s=s:=by
 have:Q12 s=(if 4000<(if 0>s then 0 else s) then 4000 else(if 0>s then 0 else s)):=rfl
 rw[this,if_neg (show¬0>s by omega),if_neg (show¬4000<s by omega)]
set_option synthInstance.maxHeartbeats 2000000
set_option synthInstance.maxSize 100000
noncomputable section
instance Qyj (s:(List Int)):Ck (Q08 s):=let d:Decidable (Q08 s):=(by delta Q08;infer_instance);⟨@decide _ d,@of_decide_eq_true _ d⟩
instance Zmx (m:(List Int)) (addr:Int) (size:Int):Ck (Qa2 m addr size):=ckT (t:=Q37 m addr size) (by delta Q37;infer_instance)
instance xV (n:Int):Ck (Qgc n):=ckT (t:=Qba n) (by delta Qba;infer_instance)
instance xK (w:Int) (low:Int) (n:Int):Ck (Q58 w low n):=ckT (t:=Q9s w low n) (by delta Q9s;infer_instance)
instance zK (w:Int):Ck (Qjq w):=ckT (t:=Q7a w) (by delta Q7a;infer_instance)
instance qC (m:(List Int)) (addr:Int) (size:Int):Ck (Q33 m addr size):=ckT (t:=Q6b m addr size) (by delta Q6b;infer_instance)
instance xC (c:Q04) (m:(List Int)) (va:Int) (size:Int) (access:Int):Ck (Q9n c m va size access):=ckT (t:=Q6f c m va size access) (by delta Q6f;infer_instance)
instance zV (c:Q04) (m:(List Int)):Ck (Ql9 c m):=ckT (t:=Qb9 c m) (by delta Qb9;infer_instance)
instance qaj (c:Q04) (m:(List Int)):Ck (Qiz c m):=ckT (t:=Q71 c m) (by delta Q71;infer_instance)
instance Zj2 (x:Int):Ck (Qb7 x):=ckT (t:=Q1u x) (by delta Q1u;infer_instance)
instance zC (b:Q07) (pages:Int):Ck (Qbz b pages):=ckT (t:=Q3z b pages) (by delta Q3z;infer_instance)
instance Zci (m:Q00):Ck (Q2q m):=ckT (t:=Q1q m) (by delta Q1q;infer_instance)
instance yC (m:Q00):Ck (Q5m m):=ckT (t:=Q52 m) (by delta Q52;infer_instance)
instance zm (m:Q00):Ck (Q85 m):=ckT (t:=Q31 m) (by delta Q31;infer_instance)
instance ym (m:Q00):Ck (Qb0 m):=ckT (t:=Q40 m) (by delta Q40;infer_instance)
instance Zmv (m:Q00):Ck (Qaa m):=ckT (t:=Q2t m) (by delta Q2t;infer_instance)
instance vm (m:Q00) (clock:Int):Ck (Q62 m clock):=ckT (t:=Q32 m clock) (by delta Q32;infer_instance)
instance zaj (pages:Int):Ck (Qfc pages):=ckT (t:=Qd9 pages) (by delta Qd9;infer_instance)
instance xaj (pages:Int) (blocks:Int) (image:(List Int)):Ck (Q9e pages blocks image):=ckT (t:=Q8k pages blocks image) (by delta Q8k;infer_instance)
instance Zdc (m:Q00):Ck (Q5p m):=ckT (t:=Q2k m) (by delta Q2k;infer_instance)
instance qn (script:(List Q0h)):Ck (Q1t script):=let d:Decidable (Q1t script):=(by delta Q1t;infer_instance);⟨@decide _ d,@of_decide_eq_true _ d⟩
instance yK (m:Q00) (script:(List Q0h)) (until0:Int):Ck (Qjg m script until0):=ckT (t:=Q8z m script until0) (by delta Q8z;infer_instance)
instance qak (m:Q00) (script:(List Q0h)) (until0:Int):Ck (Q7e m script until0):=ckT (t:=Qdg m script until0) (by delta Qdg;infer_instance)
instance Qx7 (b:(List Int)) (s:(List UInt8)):Ck (Q3u b s):=ckT (t:=Q24 b s) (by delta Q24;infer_instance)
instance Qy2 (s:(List (List UInt8))):Ck (Q1c s):=let d:Decidable (Q1c s):=(by delta Q1c;infer_instance);⟨@decide _ d,@of_decide_eq_true _ d⟩
instance zak (disk:(List (List UInt8))) (l:(List Q02)):Ck (Qmz disk l):=ckT (t:=Qkw disk l) (by delta Qkw;infer_instance)
theorem xn:Q16:=ck (ckT (t:=Qc8) (by delta Qc8;infer_instance)) (by kernel_rfl)
theorem Zkj:Q29=true:=by kernel_rfl
theorem aw13{W:Bool->Prop}(h:W true):(Tree.an Q16 (.lv Q29 λx=> .lf x)).w W:=w_an xn (w_lv λx e=>by show W x;rw[e,Zkj];exact h)
end
structure Qmx(P:Nat)(k:Int)(r:Q01):Prop where
 g:Q8t P k r
 q:okQ r.A9
 l:(r.C6.length:Int)<=3*k
theorem vK(n:Nat): ∀(r:Q01) (o:List Q02),(recF n r o).1.C6.length<=r.C6.length+2*n:=by
 induction n with
 |zero=>intro r o;exact Nat.le_refl _
 | succ n ih=>
   intro r o
   have f:=zl r
   cases hs:Q0y (Q47 r).A0
   . rw[Qua hs]
     have:=ih (Qiw (Q47 r)) (o++(Q05 (Q47 r).A0 (Q47 r).B1).1)
     have:=Zba (Q47 r)
     omega
   . rw[Qup hs]
     show(Q47 r).C6.length<=_
     omega
theorem zn(l:List Q0f): ∀r:Q01,(l.foldl Q1z r).C6.length<=r.C6.length+l.length:=by
 induction l with
 |nil=>intro r;exact Nat.le_refl _
 | cons e l ih=>
   intro r
   have:=ih (Q1z r e)
   have:=Qp2 r e
   rw[List.foldl_cons,List.length_cons];omega
theorem qL(r:Q01)(steps clock:Int):(advF r steps clock).1.C6.length<=r.C6.length+r.A9.length+8000:=by
 obtain⟨l0,l1⟩:=Qs9 steps
 cases hm:Q41 r.A0
 . unfold advF;rw[hm]
   show r.C6.length<=_
   omega
 . rw[Z1g hm]
   have a:=vK (Q12 steps).toNat (noQ (r.A9.foldl Q1z {A0:=r.A0,B1:=if clock>r.B1 then clock else r.B1,C6:=r.C6,A9:=r.A9})) []
   have b:=zn r.A9 {A0:=r.A0,B1:=if clock>r.B1 then clock else r.B1,C6:=r.C6,A9:=r.A9}
   have b:(noQ (r.A9.foldl Q1z {A0:=r.A0,B1:=if clock>r.B1 then clock else r.B1,C6:=r.C6,A9:=r.A9})).C6.length<=r.C6.length+r.A9.length:=b
   omega
theorem Zfe{P:Nat}{k:Int}{r:Q01}(h:Q8t P k r)(hu: ∀q∈r.A9,U q.N){clock:Int}(hc:U clock):Q8t P k (noQ (r.A9.foldl Q1z {A0:=r.A0,B1:=if clock>r.B1 then clock else r.B1,C6:=r.C6,A9:=r.A9})):=by
 have hcl:U (if clock>r.B1 then clock else r.B1):=by split<;>first|exact hc|exact h.clock
 obtain⟨a,b⟩:=Z63 r.A9 (r:={A0:=r.A0,B1:=if clock>r.B1 then clock else r.B1,C6:=r.C6,A9:=r.A9}) ⟨h.m,hcl,h.cnt⟩ hu
 exact⟨a.m,a.clock,a.cnt⟩
theorem Quq{P:Nat}{k:Int}{r:Q01}(h:Q8t P k r)(hq:okQ r.A9){clock:Int}(hc:U clock):Q8t P k (noQ (r.A9.foldl Q1z {A0:=r.A0,B1:=if clock>r.B1 then clock else r.B1,C6:=r.C6,A9:=r.A9})):=Zfe h hq.2 hc
theorem advP{P:Nat}{k:Int}{r:Q01}(h:Qmx P k r)(steps:Int){clock:Int}(hc:U clock):Qmx P (k+4000) (advF r steps clock).1:=by
 obtain⟨a,b⟩:=xk h.g h.q steps hc
 have c:=qL r steps clock
 have d:=h.q.1
 have e:=h.l
 exact⟨a,b,by omega⟩
theorem arriveP{P:Nat}{k:Int}{r:Q01}(h:Qmx P k r){e:Q0f}(he:U e.N):Qmx P k (Q2n r e).1:=by
 obtain⟨a,b⟩:=Zgs h.g h.q he
 refine⟨a,b,?_⟩
 have:=h.l
 rw[Qk2]
 cases Q2u e<;>cases e.B7==1<;>cases decide ((r.A9.length:Int)>=16)<;>exact this
theorem Qmx.more{P:Nat}{k j:Int}{r:Q01}(h:Qmx P k r)(hj:k<=j):Qmx P j r:=
 ⟨⟨h.g.m,h.g.clock,by have:=h.g.cnt;omega⟩,h.q,by have:=h.l;omega⟩
theorem qaG{P:Nat}{k:Int}{A:Q01×Bool}(h:Qmx P k A.1):Qmx P (k+4000) (A.1,([]:List Q02)).1:=h.more (by omega)
theorem mstepP{P:Nat}{k:Int}{r:Q01}(h:Qmx P k r)(n:Int):Qmx P (k+4000) (Q3h r n).1:=by
 cases hm:Int.tmod (Q35 n 3) 3==0
 . rw[Qtq hm,Qst _ _ _ (by have:=h.q.1;omega)]
   exact advP h _ (Q0r _)
 . rw[Qts hm]
   exact qaG (arriveP h (zk n))
theorem zaG{α β:Type}(a:α)(b:β):(a,b).1=a:=rfl
theorem Qo1(s:Q01×List Q02)(n:Int):(Qji s n).1=(Q3h s.1 n).1:=(congrArg Prod.fst (Zbc s n)).trans (zaG _ _)
theorem playP{P:Nat}(l:List Int){k:Int}{s:Q01×List Q02}(h:Qmx P k s.1):Qmx P (k+4000*l.length) (l.foldl Qji s).1:=
 yk (f:=Qji) (I:=λk s=>Qmx P k s.1) (λk s n h=>by rw[Qo1];exact mstepP h n) l k s h
theorem newP{P:Nat}{m:Q00}(h:good P m)(hc:m.A1<=87):Qmx P 87 {A0:=m,B1:=0,C6:=[],A9:=[]}:=
 ⟨⟨h,U_0,hc⟩,⟨Nat.zero_le _,λq hq=>by cases hq⟩,by show((0:Nat):Int)<=_;omega⟩
theorem xL{l acts:List Int}{x0:Bool}(hx0:x0=Qsb l acts)(hb:(!x0)=false):l.length<=40/\acts.length<=30:=xag hx0 hb
theorem xak{kind:Int}{l acts:List Int}(hl:l.length*8<=reachBytes)(h40:l.length<=40)(h30:acts.length<=30){β:Type}{W:β->Prop}{k:Q00->Q01×List Q02->Tree β}
   (g: ∀m x,m=Qbp kind l->good 8 m->m.A1<=87->x=acts.foldl Qji ({A0:=m,B1:=0,C6:=[],A9:=[]},[])->Qmx 8 121000 x.1->(k m x).w W):
   (Tree.an (Qfr kind l) (.lv (Qbp kind l) λm=> .an (Qm9 m acts) (.lv (Qs1 m acts) λx=>k m x))).w W:=by
 obtain⟨a,b⟩:=Zaq kind l hl h40
 refine w_an (Tree.pp (xe kind l hl)).1 (w_lv λm hm=> ?_)
 rw[<-hm]at a b
 refine w_an (Tree.pp (xay a.ok acts h30)).1 (w_lv λx hx=> ?_)
 rw[xah _ _ (by omega),vk]at hx
 refine g m x hm a b hx ?_
 have:=playP acts (s:=({A0:=m,B1:=0,C6:=[],A9:=[]},[])) (newP a b)
 rw[hx]
 exact this.more (by omega)
theorem and255i(a:Int):0<=iand .i64 a 255/\iand .i64 a 255<=255:=by
 unfold iand
 rw[IntKind.wrap_i64]
 have:(BitVec.ofInt IntKind.i64.bits a&&&BitVec.ofInt IntKind.i64.bits 255).toNat<=255:=by
   show(BitVec.ofInt 64 a&&&BitVec.ofInt 64 255).toNat<=255
   rw[BitVec.toNat_and]
   exact Nat.le_trans Nat.and_le_right (by decide)
 omega
theorem Zhr(a:Int):0<=IntKind.wrap .u32 (iand .i64 a 255)/\IntKind.wrap .u32 (iand .i64 a 255)<=255:=by
 have:=and255i a
 rw[IntKind.wrap_u32];omega
theorem Zj6(n k:Int)(h0:0<=k)(h1:k<=1000):(Qkv n k).length=k.toNat:=by
 show Tree.V (Qdx n k) (λs=>s.length=k.toNat)
 unfold Qdx
 refine v_lp (inv:=λv:Int×List Int=>0<=v.1/\v.1<=k/\v.2.length=v.1.toNat) (μ:=Qd n k) ⟨Int.le_refl 0,h0,rfl⟩ (Nat.lt_succ_self _) λv ⟨a,b,c⟩=> ?_
 refine v_br (λhb=> ?_) (λhb=> ?_)
 . have hb:=of_decide_eq_true hb
   have e:IntKind.i64.wrap (v.1+1)=v.1+1:=by rw[IntKind.wrap_i64];omega
   refine v_lv λx _=>v_cn (v_nx ?_)
   show(0<=IntKind.i64.wrap (v.1+1)/\IntKind.i64.wrap (v.1+1)<=k/\(v.2++[_]).length=(IntKind.i64.wrap (v.1+1)).toNat)/\(k-IntKind.i64.wrap (v.1+1)).toNat<(k-v.1).toNat
   rw[e,List.length_append,List.length_singleton]
   exact⟨⟨by omega,by omega,by omega⟩,by omega⟩
 . have hb:=of_decide_eq_false hb
   refine v_lf ?_
   show(bytesOf v.2).length=_
   unfold bytesOf
   rw[List.length_map,c];omega
theorem qal(n k:Int):0<=Q35 n k:=by
 show Tree.V (Qp5 n k) (λx=>0<=x)
 unfold Qp5
 refine v_lv λx hx=>v_lf ?_
 have r:0<=x.1/\x.1<18446744073709551616:=by
   rw[hx]
   show 0<=IntKind.wrap .u64 _/\IntKind.wrap .u64 _<_
   rw[IntKind.wrap_u64];omega
 show 0<=IntKind.wrap .i64 (x.1.fdiv 2)
 rw[Int.fdiv_eq_ediv_of_nonneg _ (by decide),IntKind.wrap_i64];omega
def evOK(e:Q0f):Prop:=Q2u e=true/\e.B7≠1
theorem Z77:evOK Qq5:=⟨rfl,by decide⟩
theorem Zec{n:Int}(h:n<=255):Q2u {B7:=3,N:=n,D0:=[]}=true:=by
 show(bif decide (n<=255) then decide (([]:List UInt8)=[]) else false)=true
 rw[decide_eq_true h];rfl
theorem Zmc{s:List UInt8}(h:s.length=128):Q2u {B7:=4,N:=1,D0:=s}=true:=by
 show(bif decide (s=[]) then true else(s.length:Int)==128)=true
 rw[h];cases decide (s=[])<;>rfl
theorem yn{s:List UInt8}(h1:1<=s.length)(h2:s.length<=128):Q2u {B7:=5,N:=0,D0:=s}=true:=by
 show(bif decide ((s.length:Int)>=1) then decide ((s.length:Int)<=128) else false)=true
 rw[decide_eq_true (show(s.length:Int)>=1 by omega),decide_eq_true (show(s.length:Int)<=128 by omega)];rfl
theorem zL(n:Int):evOK (Q3o n):=by
 show Tree.V (Q9t n) evOK
 unfold Q9t
 refine v_lv λx hx=> ?_
 have x0:0<=x:=by rw[hx];exact qal n 2
 have i2: ∀k:Int,k≠1-> ¬k=1:=λ_ h=>h
 refine v_br (λ_=>v_lf ⟨rfl,by decide⟩) λ_=>v_br (λ_=>v_lf ⟨Zec (Zhr _).2,by show(3:Int)≠1;decide⟩) λ_=>v_br (λ_=>v_lf ⟨Zec (Zhr _).2,by show(3:Int)≠1;decide⟩) λ_=>v_br (λ_=>v_lf ⟨rfl,by decide⟩) λ_=>v_br (λ_=>v_an (v_lv λy hy=>v_lf ⟨Zmc ?_,by show(4:Int)≠1;decide⟩)) λ_=>v_br (λ_=>v_an (v_lv λy hy=>v_lf ⟨?_,by show(5:Int)≠1;decide⟩)) λ_=>v_br (λ_=>v_lf ⟨rfl,by decide⟩) λ_=>v_lf ⟨rfl,by show(6:Int)≠1;decide⟩
 . rw[hy,Zj6 _ _ (by decide) (by decide)];rfl
 . have s0:0<=ishr .i64 x 8:=by
     unfold ishr
     exact Int.fdiv_nonneg x0 (Int.le_of_lt (Int.pow_pos (by decide)))
   have t1:=Int.tmod_lt_of_pos (ishr .i64 x 8) (b:=40) (by decide)
   have t0:=Int.tmod_nonneg 40 s0
   have e:IntKind.i64.wrap (1+Int.tmod (ishr .i64 x 8) 40)=1+Int.tmod (ishr .i64 x 8) 40:=by rw[IntKind.wrap_i64];omega
   rw[e]at hy
   have:=Zj6 x (1+Int.tmod (ishr .i64 x 8) 40) (by omega) (by omega)
   rw[<-hy]at this
   exact yn (by omega) (by omega)
structure Ql(c0:Int)(r:Q01):Prop where
 pw:r.C6.Pairwise λa b=>a.At<=b.At/\(a.C4.B7=1->a.At<b.At/\(b.C4.B7=1->a.C4.N<=b.C4.N))
 all: ∀e∈r.C6,c0<=e.At/\e.At<=r.A0.A1/\Q2u e.C4=true/\(e.C4.B7=1->e.At<r.A0.A1/\e.C4.N<r.B1/\0<=e.C4.N)
 q: ∀e∈r.A9,evOK e
 c:c0<=r.A0.A1
theorem Ql.with{c0:Int}{r x:Q01}(h:Ql c0 r)(hl:x.C6=r.C6)(hm:x.A0.A1=r.A0.A1)(hc:r.B1<=x.B1)(hq: ∀e∈x.A9,evOK e):Ql c0 x:=
 ⟨by rw[hl];exact h.pw,by
   rw[hl,hm]
   exact λe he=>⟨(h.all e he).1,(h.all e he).2.1,(h.all e he).2.2.1,λk=>⟨((h.all e he).2.2.2 k).1,by have:=((h.all e he).2.2.2 k).2.1;omega,((h.all e he).2.2.2 k).2.2⟩⟩,hq,by rw[hm];exact h.c⟩
theorem Zb4{P:Nat}{k c0:Int}{r:Q01}(h:Ql c0 r)(g:Q8t P k r){e:Q0f}(he:evOK e)(hu:U e.N):Ql c0 (Q1z r e):=by
  obtain⟨a,b⟩:=Qlo g.m hu
  unfold Q1z
  cases(Q0p r.A0 e).1
  . exact h.with rfl b (Int.le_refl _) h.q
  . show Ql c0 {A0:=(Q0p r.A0 e).2,B1:=r.B1,C6:=r.C6++[{At:=(Q0p r.A0 e).2.A1,C4:=e}],A9:=r.A9}
    rw[b]
    refine⟨List.pairwise_append.2 ⟨h.pw,List.pairwise_singleton _ _,λx hx y hy=> ?_⟩,λx hx=> ?_,h.q,by show c0<=(Q0p r.A0 e).2.A1;rw[b];exact h.c⟩
    . rw[List.mem_singleton.1 hy]
      obtain⟨p1,p2,p3,p4⟩:=h.all x hx
      exact⟨p2,λkx=>⟨(p4 kx).1,λke=>absurd ke he.2⟩⟩
    . show c0<=x.At/\x.At<=(Q0p r.A0 e).2.A1/\_/\(_->x.At<(Q0p r.A0 e).2.A1/\_)
      rw[b]
      rcases List.mem_append.1 hx with hx|hx
      . exact h.all x hx
      . rw[List.mem_singleton.1 hx]
        exact⟨h.c,Int.le_refl _,he.1,λke=>absurd ke he.2⟩
theorem yL{P:Nat}{k c0:Int}{r:Q01}(h:Ql c0 r)(g:Q8t P k r):Ql c0 (Q47 r):=by
 rw[Qn5]
 cases Q7k r.A0.A7 r.B1
 . exact h
 . exact Zb4 h g Z77 U_0
theorem vL{P:Nat}{k c0:Int}{r:Q01}(h:Ql c0 r)(g:Q8t P k r)(hs:Q0y r.A0=false)(hc:r.B1<4294967295):Ql c0 (Qiw r)/\(Qiw r).B1=r.B1+1:=by
  obtain⟨_,b,_⟩:=Qg9 g.m hs g.clock
  have c0':=g.clock.1
  have ec:IntKind.wrap .u32 (r.B1+1)=r.B1+1:=by rw[IntKind.wrap_u32];omega
  have old: ∀x∈r.C6,c0<=x.At/\x.At<=r.A0.A1+1/\Q2u x.C4=true/\(x.C4.B7=1->x.At<r.A0.A1+1/\x.C4.N<r.B1+1/\0<=x.C4.N):=λx hx=>by
    obtain⟨p1,p2,p3,p4⟩:=h.all x hx
    exact⟨p1,by omega,p3,λkx=>⟨by have:=(p4 kx).1;omega,by have:=(p4 kx).2.1;omega,(p4 kx).2.2⟩⟩
  have hcc:=h.c
  cases hr:Q1b r.A0
  . rw[Zgl hr,ec]
    refine⟨⟨h.pw,?_,h.q,by show c0<=(Q05 r.A0 r.B1).2.A1;omega⟩,rfl⟩
    show∀x∈r.C6,c0<=x.At/\x.At<=(Q05 r.A0 r.B1).2.A1/\_/\(_->x.At<(Q05 r.A0 r.B1).2.A1/\_)
    rw[b];exact old
  . rw [Z1i hr,ec]
    refine⟨⟨List.pairwise_append.2 ⟨h.pw,List.pairwise_singleton _ _,λx hx y hy=> ?_⟩,?_,h.q,by show c0<=(Q05 r.A0 r.B1).2.A1;omega⟩,rfl⟩
    . rw[List.mem_singleton.1 hy]
      obtain⟨p1,p2,p3,p4⟩:=h.all x hx
      exact⟨p2,λkx=>⟨(p4 kx).1,λ_=>Int.le_of_lt (p4 kx).2.1⟩⟩
    . show∀x∈r.C6++[_],c0<=x.At/\x.At<=(Q05 r.A0 r.B1).2.A1/\_/\(_->x.At<(Q05 r.A0 r.B1).2.A1/\_)
      rw[b]
      intro x hx
      rcases List.mem_append.1 hx with hx|hx
      . exact old x hx
      . rw[List.mem_singleton.1 hx]
        exact⟨h.c,by show r.A0.A1<=_;omega,rfl,λ_=>⟨by show r.A0.A1<_;omega,by show r.B1<r.B1+1;omega,c0'⟩⟩
theorem Zg(r:Q01):(Q47 r).B1=r.B1:=by
 rw[Qn5]
 cases Q7k r.A0.A7 r.B1
 . rfl
 . show(Q1z r Qq5).B1=r.B1
   unfold Q1z;cases(Q0p r.A0 Qq5).1<;>rfl
theorem Zd6(r:Q01)(e:Q0f):(Q1z r e).B1=r.B1:=by
 unfold Q1z;cases(Q0p r.A0 e).1<;>rfl
theorem zal{P:Nat}{c0:Int}(n:Nat): ∀{k B:Int} {r:Q01} {o:List Q02},Ql c0 r->Q8t P k r->r.B1<=B->B+n<4294967295->Ql c0 (recF n r o).1/\(recF n r o).1.B1<=B+n:=by
 induction n with
 |zero=>intro k B r o h g hb _;exact⟨h,by show r.B1<=B+(0:Nat);omega⟩
 | succ n ih=>
   intro k B r o h g hb hn
   have f:=yL h g
   obtain⟨gf,_⟩:=Qp0 g
   have fc:=Zg r
   cases hs:Q0y (Q47 r).A0
   . rw[Qua hs]
     obtain⟨t1,t2⟩:=vL f gf hs (by omega)
     have:=ih (o:=o++(Q05 (Q47 r).A0 (Q47 r).B1).1) t1 (Qou gf hs) (B:=B+1) (by omega) (by omega)
     exact⟨this.1,by have:=this.2;omega⟩
   . rw[Qup hs]
     exact⟨f,by show(Q47 r).B1<=_;omega⟩
theorem qM{P:Nat}{k c0:Int}(l:List Q0f): ∀{r:Q01},Ql c0 r->Q8t P k r->(∀e∈l,evOK e/\U e.N)->Ql c0 (l.foldl Q1z r)/\(l.foldl Q1z r).B1=r.B1/\Q8t P k (l.foldl Q1z r):=by
 induction l with
 |nil=>intro r h g _;exact⟨h,rfl,g⟩
 | cons e l ih=>
   intro r h g hu
   obtain⟨a,b⟩:=hu e (by simp)
   obtain⟨p,q,s⟩:=ih (Zb4 h g a b) (Qlx g b).1 (λq hq=>hu q (by simp [hq]))
   exact⟨p,q.trans (Zd6 r e),s⟩
theorem xal{P:Nat}{k c0 B:Int}{r:Q01}(h:Ql c0 r)(g:Q8t P k r)(hq:okQ r.A9){steps clock:Int}(hb:r.B1<=B)(hc0:0<=clock)(hc:clock<=B)(hs:0<=steps/\steps<12)(hB:B<1000000000):Ql c0 (advF r steps clock).1/\(advF r steps clock).1.B1<=B+12:=by
 rw[Z1g g.m.rmay,Qvu hs.1 (by omega)]
 have m0:r.B1<=(if clock>r.B1 then clock else r.B1)/\(if clock>r.B1 then clock else r.B1)<=B:=by split<;>omega
 generalize(if clock>r.B1 then clock else r.B1)=cl at*
 have u:U cl:=by have:=g.clock;unfold U at*;omega
 obtain⟨a,b,c⟩:=qM r.A9 (r:={A0:=r.A0,B1:=cl,C6:=r.C6,A9:=r.A9}) (h.with rfl rfl m0.1 h.q) ⟨g.m,u,g.cnt⟩ (λe he=>⟨h.q e he,hq.2 e he⟩)
 have b:(r.A9.foldl Q1z {A0:=r.A0,B1:=cl,C6:=r.C6,A9:=r.A9}).B1=cl:=b
 generalize r.A9.foldl Q1z {A0:=r.A0,B1:=cl,C6:=r.C6,A9:=r.A9}=y at*
 have:=zal steps.toNat (o:=[]) (r:=noQ y) (B:=B) (a.with rfl rfl (Int.le_refl _) (λe he=>by cases he)) (k:=k) ⟨c.m,c.clock,c.cnt⟩ (by show y.B1<=B;omega) (by omega)
 exact⟨this.1,by have:=this.2;omega⟩
theorem qam{c0:Int}{r:Q01}(h:Ql c0 r){e:Q0f}(he:evOK e):Ql c0 (Q2n r e).1/\(Q2n r e).1.B1=r.B1:=by
  rw[Qk2]
  cases Q2u e
  . exact⟨h,rfl⟩
  . cases e.B7==1
    . cases decide ((r.A9.length:Int)>=16)
      . refine⟨h.with rfl rfl (Int.le_refl _) λq hq=> ?_,rfl⟩
        have hq:q∈r.A9++[e]:=hq
        rcases List.mem_append.1 hq with hq|hq
        . exact h.q q hq
        . rw[List.mem_singleton.1 hq];exact he
      . exact⟨h,rfl⟩
    . exact⟨h,rfl⟩
structure logP(c0 k B:Int)(r:Q01):Prop where
 p:Qmx 8 k r
 l:Ql c0 r
 b:r.B1<=B
theorem xM{c0 k B:Int}{A:Q01×Bool}(p:Qmx 8 k A.1)(a:Ql c0 A.1)(b:A.1.B1<=B):logP c0 k B (A.1,([]:List Q02)).1:=⟨p,a,b⟩
theorem Qp3{c0 k B:Int}{r:Q01}(h:logP c0 k B r)(h255:255<=B)(hB:B<1000000000)(n:Int):logP c0 (k+4000) (B+12) (Q3h r n).1:=by
 have p:=mstepP h.p n
 have hb:=h.b
 cases hm:Int.tmod (Q35 n 3) 3==0
 . have rr:=Qe (n:=ishr .i64 (Q35 n 3) 4) (k:=12) (by decide) (by decide)
   have w:=Zhr (ishr .i64 (Q35 n 3) 12)
   rw[Qtq hm,Qst _ _ _ (by have:=h.p.q.1;omega)]at p⊢
   obtain⟨a,b⟩:=xal h.l h.p.g h.p.q (steps:=Q1s (ishr .i64 (Q35 n 3) 4) 12) (clock:=IntKind.wrap .u32 (iand .i64 (ishr .i64 (Q35 n 3) 12) 255)) hb w.1 (by omega) rr hB
   exact⟨p,a,b⟩
 . have hb':r.B1<=B+12:=by omega
   obtain⟨a,b⟩:=qam h.l (zL n)
   rw[Qts hm]
   exact xM (A:=Q2n r (Q3o n)) ((arriveP h.p (zk n)).more (Int.le_add_of_nonneg_right (by decide))) a (Int.le_trans (Int.le_of_eq b) hb')
theorem vn{c0:Int}(l:List Int): ∀{k B:Int} {s:Q01×List Q02},logP c0 k B s.1->255<=B->B+12*l.length<1000000000->logP c0 (k+4000*l.length) (B+12*l.length) (l.foldl Qji s).1:=by
 induction l with
 |nil=>intro k B s h _ _;simpa using h
 | cons n l ih=>
   intro k B s h h1 h2
   have e:((n::l).length:Int)=l.length+1:=by rw[List.length_cons];omega
   rw[e]at h2⊢
   have a:=Qp3 h h1 (by omega) n
   rw[<-Qo1]at a
   have:=ih a (by omega) (by omega)
   rw[List.foldl_cons,show k+4000*((l.length:Int)+1)=k+4000+4000*l.length by omega,show B+12*((l.length:Int)+1)=B+12+12*l.length by omega]
   exact this
theorem yM{m:Q00}(h:good 8 m)(hc:m.A1<=87):logP m.A1 87 255 {A0:=m,B1:=0,C6:=[],A9:=[]}:=
 ⟨newP h hc,⟨List.Pairwise.nil,(λe he=>by cases he),(λe he=>by cases he),Int.le_refl _⟩,by show(0:Int)<=255;decide⟩
inductive Ql3:Q00->List Q0h->List Q02->Q00->Prop
 |nil {m:Q00}:Ql3 m [] [] m
 |ev {m n:Q00} {e:Q0f} {L:List Q0h} {o:List Q02}:True->e.B7≠1->U e.N->Ql3 (Q0p m e).2 L o n->Ql3 m ({At:=m.A1,C4:=e}::L) o n
 |rd {m n:Q00} {c:Int} {L:List Q0h} {o:List Q02}:Q0y m=false->Q1b m=true->U c->Ql3 (Q05 m c).2 L o n->Ql3 m ({At:=m.A1,C4:={B7:=1,N:=c,D0:=[]}}::L) ((Q05 m c).1++o) n
 |st {m n:Q00} {c:Int} {L:List Q0h} {o:List Q02}:Q0y m=false->Q1b m=false->U c->Ql3 (Q05 m c).2 L o n->Ql3 m L ((Q05 m c).1++o) n
theorem Ql3.trans{a b c:Q00}{L M:List Q0h}{o p:List Q02}(h:Ql3 a L o b)(g:Ql3 b M p c):Ql3 a (L++M) (o++p) c:=by
 induction h with
 |nil=>exact g
 |ev h1 h2 h3 _ ih=>exact .ev h1 h2 h3 (ih g)
 |rd h1 h2 h3 _ ih=>rw[List.append_assoc];exact .rd h1 h2 h3 (ih g)
 |st h1 h2 h3 _ ih=>rw[List.append_assoc];exact .st h1 h2 h3 (ih g)
theorem Ql3.good{P:Nat}{a b:Q00}{L:List Q0h}{o:List Q02}(h:Ql3 a L o b):good P a->good P b/\a.A1<=b.A1/\ ∀e∈L,a.A1<=e.At:=by
 induction h with
 |nil=>exact λg=>⟨g,Int.le_refl _,λe he=>by cases he⟩
 | ev h1 h2 h3 _ ih=>
   intro g
   obtain⟨g1,c1⟩:=Qlo g h3
   obtain⟨p,q,r⟩:=ih g1
   rw[c1]at q r
   exact⟨p,q,λe he=>(List.mem_cons.1 he).elim (λh=>by rw[h];exact Int.le_refl _) (λh=>r e h)⟩
 | rd h1 h2 h3 _ ih=>
   intro g
   obtain⟨g1,c1,_⟩:=Qg9 g h1 h3
   obtain⟨p,q,r⟩:=ih g1
   rw[c1]at q r
   exact⟨p,by omega,λe he=>(List.mem_cons.1 he).elim (λh=>by rw[h];exact Int.le_refl _) (λh=>by have:=r e h;omega)⟩
 | st h1 h2 h3 _ ih=>
   intro g
   obtain⟨g1,c1,_⟩:=Qg9 g h1 h3
   obtain⟨p,q,r⟩:=ih g1
   rw[c1]at q r
   exact⟨p,by omega,λe he=>by have:=r e he;omega⟩
def Q6o(r x:Q01)(o:List Q02):Prop:= ∃L,x.C6=r.C6++L/\Ql3 r.A0 L o x.A0
theorem Q6o.rfl{r:Q01}:Q6o r r []:=⟨[],(List.append_nil _).symm, .nil⟩
theorem Q6o.trans{a b c:Q01}{o p:List Q02}(h:Q6o a b o)(g:Q6o b c p):Q6o a c (o++p):=by
 obtain⟨L,l1,l2⟩:=h
 obtain⟨M,m1,m2⟩:=g
 exact⟨L++M,by rw[m1,l1,List.append_assoc],l2.trans m2⟩
theorem Q6o.trans0{a b c:Q01}{p:List Q02}(h:Q6o a b [])(g:Q6o b c p):Q6o a c p:=h.trans g
theorem Zju{P:Nat}{k:Int}{r:Q01}(g:Q8t P k r){e:Q0f}(he:evOK e)(hu:U e.N):Q6o r (Q1z r e) []:=by
 obtain⟨_,b⟩:=Qlo g.m hu
 cases ha:(Q0p r.A0 e).1
 . rw[Z2v ha];exact Q6o.rfl
 . unfold Q1z
   rw[ha]
   refine⟨[{At:=r.A0.A1,C4:=e}],?_, .ev trivial he.2 hu .nil⟩
   show r.C6++[{At:=(Q0p r.A0 e).2.A1,C4:=e}]=_
   rw[b]
theorem zam{P:Nat}{k:Int}{r:Q01}(g:Q8t P k r):Q6o r (Q47 r) []:=by
 rw[Qn5]
 cases Q7k r.A0.A7 r.B1
 . exact Q6o.rfl
 . exact Zju g Z77 U_0
theorem xam{P:Nat}{k:Int}{r:Q01}(g:Q8t P k r)(hs:Q0y r.A0=false):Q6o r (Qiw r) (Q05 r.A0 r.B1).1:=by
 cases hr:Q1b r.A0
 . rw[Zgl hr]
   refine⟨[],(List.append_nil _).symm,?_⟩
   have:=Ql3.st (L:=[]) (o:=[]) hs hr g.clock .nil
   rw[List.append_nil]at this;exact this
 . rw[Z1i hr]
   refine⟨[{At:=r.A0.A1,C4:={B7:=1,N:=r.B1,D0:=[]}}],_root_.rfl,?_⟩
   have:=Ql3.rd (L:=[]) (o:=[]) hs hr g.clock .nil
   rw[List.append_nil]at this;exact this
theorem xaG{P:Nat}(n:Nat): ∀{k:Int} {r:Q01},Q8t P k r->Q6o r (recF n r []).1 (recF n r []).2:=by
 induction n with
 |zero=>intro k r _;exact Q6o.rfl
 | succ n ih=>
   intro k r g
   obtain⟨gf,_⟩:=Qp0 g
   have f:=zam g
   cases hs:Q0y (Q47 r).A0
   . rw[Qua hs,qK,List.nil_append]
     exact f.trans0 ((xam gf hs).trans (ih (Qou gf hs)))
   . rw[Qup hs];exact f
theorem qan{P:Nat}{k:Int}(l:List Q0f): ∀{r:Q01},Q8t P k r->(∀e∈l,evOK e/\U e.N)->Q6o r (l.foldl Q1z r) []:=by
 induction l with
 |nil=>intro r _ _;exact Q6o.rfl
 | cons e l ih=>
   intro r g hu
   obtain⟨a,b⟩:=hu e (by simp)
   exact(Zju g a b).trans0 (ih (Qlx g b).1 (λq hq=>hu q (by simp [hq])))
theorem qaH{P:Nat}{k:Int}{r:Q01}(g:Q8t P k r)(hq:okQ r.A9)(he: ∀e∈r.A9,evOK e)(steps:Int){clock:Int}(hc:U clock):Q6o r (advF r steps clock).1 (advF r steps clock).2:=by
 rw[Z1g g.m.rmay]
 have s:=Quq g hq hc
 have u:U (if clock>r.B1 then clock else r.B1):=by split<;>first|exact hc|exact g.clock
 have f:=qan r.A9 (r:={A0:=r.A0,B1:=if clock>r.B1 then clock else r.B1,C6:=r.C6,A9:=r.A9}) (k:=k) ⟨g.m,u,g.cnt⟩ (λe h=>⟨he e h,hq.2 e h⟩)
 generalize r.A9.foldl Q1z {A0:=r.A0,B1:=if clock>r.B1 then clock else r.B1,C6:=r.C6,A9:=r.A9}=y at*
 have f:Q6o r (noQ y) []:=f
 exact f.trans0 (xaG _ s)
theorem zaH(r:Q01)(e:Q0f):Q6o r (Q2n r e).1 []:=by
 rw[Qk2]
 cases Q2u e<;>cases e.B7==1<;>cases decide ((r.A9.length:Int)>=16)<;>exact Q6o.rfl
theorem ev_on{r:Q01}{A:Q01×Bool}(h:Q6o r A.1 []):Q6o r (A.1,([]:List Q02)).1 (A.1,([]:List Q02)).2:=h
theorem vM{c0 k B:Int}{r:Q01}(h:logP c0 k B r)(n:Int):Q6o r (Q3h r n).1 (Q3h r n).2:=by
 cases hm:Int.tmod (Q35 n 3) 3==0
 . rw[Qtq hm,Qst _ _ _ (by have:=h.p.q.1;omega)]
   exact qaH h.p.g h.p.q h.l.q _ (Q0r _)
 . rw[Qts hm]
   exact ev_on (A:=Q2n r (Q3o n)) (zaH _ _)
theorem zan{c0:Int}(l:List Int): ∀{k B:Int} {s:Q01×List Q02},logP c0 k B s.1->255<=B->B+12*l.length<1000000000-> ∃o,(l.foldl Qji s).2=s.2++o/\Q6o s.1 (l.foldl Qji s).1 o:=by
 induction l with
 |nil=>intro k B s _ _ _;exact⟨[],(List.append_nil _).symm,Q6o.rfl⟩
 | cons n l ih=>
   intro k B s h h1 h2
   rw[List.length_cons]at h2
   have a:=Qp3 h h1 (by omega) n
   have b:=vM h n
   rw[<-Qo1]at a b
   obtain⟨o,o1,o2⟩:=ih a (by omega) (by omega)
   refine⟨(Q3h s.1 n).2++o,?_,b.trans o2⟩
   rw[List.foldl_cons,o1,Zbc,List.append_assoc]
def arm(r:Q01):Nat:=if r.A0.A7.D2 then 1 else 0
theorem yV(r:Q01):arm r<=1:=by unfold arm;split<;>omega
theorem Zgm(m:Q00)(e:Q0f):(Q0p m e).2.A7=m.A7\/(Q0p m e).2.A7=(Q6d m.A7).1:=by
 show Tree.V (Q45 m e) (λx=>x.2.A7=m.A7\/x.2.A7=(Q6d m.A7).1)
 unfold Q45
 repeat'(first
   |exact v_lf (.inl rfl)
   |exact v_lv λx hx=>v_lf (.inr (by rw[hx]))
   |exact v_lv λx hx=>v_lf (.inl rfl)
   |exact v_an (v_lv λx hx=>v_lf (.inl rfl))
   |refine v_br (λ_=> ?_) (λ_=> ?_))
theorem qN(t:Q0g):(Q6d t).1.D2=true->t.D2=true:=by
 show Tree.V (Q96 t) (λr=>r.1.D2=true->t.D2=true)
 unfold Q96
 exact v_br (λ_=>v_lf λh=>h) (λ_=>v_lf λh=>by cases h)
theorem qo(r:Q01)(e:Q0f):(Q1z r e).C6.length+arm (Q1z r e)<=r.C6.length+arm r+1:=by
  have l:=Qp2 r e
  cases ha:(Q0p r.A0 e).1
  . rw[Z2v ha];omega
  . have h:arm (Q1z r e)<=arm r:=by
      unfold arm Q1z
      rw[ha]
      show(if(Q0p r.A0 e).2.A7.D2=true then 1 else 0)<=_
      rcases Zgm r.A0 e with t|t
      . rw[t];exact Nat.le_refl _
      . rw[t]
        split
        . rename_i q;rw[if_pos (qN _ q)];exact Nat.le_refl _
        . exact Nat.zero_le _
    omega
theorem xN(r:Q01):(Q47 r).C6.length+arm (Q47 r)<=r.C6.length+arm r:=by
  cases hd:Q7k r.A0.A7 r.B1
  . rw[xm hd];exact Nat.le_refl _
  . have e:Q47 r=Q1z r Qq5:=by rw[Qn5,hd];rfl
    rw[e]
    cases ha:(Q0p r.A0 Qq5).1
    . rw[Z2v ha];exact Nat.le_refl _
    . have a1:arm r=1:=by
        unfold arm
        refine if_pos ?_
        cases h:r.A0.A7.D2
        . rw[qm h]at hd;cases hd
        . rfl
      have l:=Qp2 r Qq5
      have a0:arm (Q1z r Qq5)=0:=by
        unfold arm Q1z
        rw[ha]
        refine if_neg ?_
        show¬(Q0p r.A0 Qq5).2.A7.D2=true
        rw[Zh3]at ha⊢
        cases hh:r.A0.A6
        . rw[hh]at ha
          have:=vl _ ha
          show¬(Q6d r.A0.A7).1.D2=true
          rw[this];decide
        . rw[hh]at ha;cases ha
      omega
theorem Zh4{P:Nat}{m:Q00}(g:good P m)(hr:Q1b m=true)(clock:Int):(Q05 m clock).2.A7=m.A7:=by
 have rd:Q1b m=bif Q0y m then false else Q18 m:=rfl
 rw[rd]at hr
 cases hs:Q0y m
 . rw[hs]at hr
   have hr:Q18 m=true:=hr
   obtain⟨g1,g2,g3,g4,g5⟩:=(Qn6 m).1 g.may
   obtain⟨b1,b2,b3,_⟩:=(Tree.pp (Qrt g.s g2)).2
   change Q5u (Q0v m).B2 at b1
   change okS P (Q0v m) at b2
   have be:=Qu2 g.v g2.st
   have b1':Q5u (Q0m m):=by have:=b1;rw[be]at this;exact this
   have b2':Q2b (Q0m m):=by have:=b2.cpu;rw[be]at this;exact this
   rw[Zcg,<-Zjg g.ok.mem b2' b1'.st]at hr
   rw[qV]
   generalize Q73 (Q0m m) m.Mem=D at*
   unfold ioP at hr
   unfold finR
   cases hk:D.2.1.B7==1
   . rw[hk]at hr;cases hr
   . rw[hk]at hr
     have hp:D.2.1.D1=2:=eq_of_beq hr
     rw[hp];rfl
 . rw[hs]at hr;cases hr
theorem zN{P:Nat}{k:Int}{r:Q01}(g:Q8t P k r):(Qiw r).C6.length+arm (Qiw r)<=r.C6.length+arm r+1:=by
 cases hr:Q1b r.A0
 . have:=yV (Qiw r)
   have e:(Qiw r).C6=r.C6:=by rw[Zgl hr]
   rw[e];omega
 . have l:=Zba r
   have e:arm (Qiw r)=arm r:=by
     unfold arm
     rw[Z1i hr]
     show(if(Q05 r.A0 r.B1).2.A7.D2=true then 1 else 0)=_
     rw[Zh4 g.m hr]
   omega
theorem xan{P:Nat}(n:Nat): ∀{k:Int} {r:Q01} {o:List Q02},Q8t P k r->(recF n r o).1.C6.length+arm (recF n r o).1<=r.C6.length+arm r+n:=by
 induction n with
 |zero=>intro k r o _;exact Nat.le_refl _
 | succ n ih=>
   intro k r o g
   obtain⟨gf,_⟩:=Qp0 g
   have f:=xN r
   cases hs:Q0y (Q47 r).A0
   . rw[Qua hs]
     have a:=ih (o:=o++(Q05 (Q47 r).A0 (Q47 r).B1).1) (Qou gf hs)
     have b:=zN gf
     omega
   . rw[Qup hs]
     show(Q47 r).C6.length+arm (Q47 r)<=_
     omega
theorem yN(l:List Q0f): ∀r:Q01,(l.foldl Q1z r).C6.length+arm (l.foldl Q1z r)<=r.C6.length+arm r+l.length:=by
 induction l with
 |nil=>intro r;exact Nat.le_refl _
 | cons e l ih=>
   intro r
   have a:=ih (Q1z r e)
   have b:=qo r e
   rw[List.foldl_cons,List.length_cons];omega
def cntR(r:Q01):Nat:=r.C6.length+arm r+r.A9.length
theorem qao{P:Nat}{k:Int}{r:Q01}(g:Q8t P k r)(hq:okQ r.A9){steps clock:Int}(hc:U clock)(hs:0<=steps/\steps<12):cntR (advF r steps clock).1<=cntR r+11:=by
 have s:=Quq g hq hc
 have f:=yN r.A9 {A0:=r.A0,B1:=if clock>r.B1 then clock else r.B1,C6:=r.C6,A9:=r.A9}
 rw[Z1g g.m.rmay,Qvu hs.1 (by omega)]
 generalize r.A9.foldl Q1z {A0:=r.A0,B1:=if clock>r.B1 then clock else r.B1,C6:=r.C6,A9:=r.A9}=y at*
 have q:(recF steps.toNat (noQ y) []).1.A9=[]:=Z71 _ _ _
 have c:=xan steps.toNat (o:=[]) s
 have e:arm (noQ y)=arm y:=rfl
 have e1:(noQ y).C6=y.C6:=rfl
 have e2:arm {A0:=r.A0,B1:=if clock>r.B1 then clock else r.B1,C6:=r.C6,A9:=r.A9}=arm r:=rfl
 rw[e,e1]at c
 rw[e2]at f
 have f:y.C6.length+arm y<=r.C6.length+arm r+r.A9.length:=f
 unfold cntR
 rw[q]
 show _+_+0<=_
 omega
theorem xo{P:Nat}{k:Int}{r:Q01}(g:Q8t P k r)(hq:okQ r.A9){steps clock:Int}(hc:U clock)(hs:0<=steps/\steps<12):(advF r steps clock).1.A0.A1<=r.A0.A1+11:=by
 have s:=Quq (k:=r.A0.A1) ⟨g.m,g.clock,Int.le_refl _⟩ hq hc
 rw[Z1g g.m.rmay,Qvu hs.1 (by omega)]
 have:=(Zbw steps.toNat (o:=[]) s).cnt
 omega
theorem Zha{c0 k B:Int}{r:Q01}(h:logP c0 k B r)(n:Int):(Q3h r n).1.A0.A1<=r.A0.A1+11:=by
 cases hm:Int.tmod (Q35 n 3) 3==0
 . rw[Qtq hm,Qst _ _ _ (by have:=h.p.q.1;omega)]
   exact xo h.p.g h.p.q (Q0r _) (Qe (n:=ishr .i64 (Q35 n 3) 4) (k:=12) (by decide) (by decide))
 . rw[Qts hm,Qk2]
   have z:r.A0.A1<=r.A0.A1+11:=by omega
   cases Q2u (Q3o n)<;>cases(Q3o n).B7==1<;>cases decide ((r.A9.length:Int)>=16)<;>exact z
theorem Zl6{c0:Int}(l:List Int): ∀{k B:Int} {s:Q01×List Q02},logP c0 k B s.1->255<=B->B+12*l.length<1000000000->(l.foldl Qji s).1.A0.A1<=s.1.A0.A1+11*l.length:=by
 induction l with
 |nil=>intro k B s _ _ _;show s.1.A0.A1<=s.1.A0.A1+11*((0:Nat):Int);omega
 | cons n l ih=>
   intro k B s h h1 h2
   rw[List.length_cons]at h2
   have a:=Qp3 h h1 (by omega) n
   have b:=Zha h n
   rw[<-Qo1]at a b
   have:=ih a (by omega) (by omega)
   rw[List.foldl_cons,List.length_cons];omega
theorem zo{c0 k B:Int}{r:Q01}(h:logP c0 k B r)(n:Int):cntR (Q3h r n).1<=cntR r+11:=by
 cases hm:Int.tmod (Q35 n 3) 3==0
 . rw[Qtq hm,Qst _ _ _ (by have:=h.p.q.1;omega)]
   exact qao h.p.g h.p.q (Q0r _) (Qe (n:=ishr .i64 (Q35 n 3) 4) (k:=12) (by decide) (by decide))
 . rw[Qts hm,Qk2]
   have:cntR {A0:=r.A0,B1:=r.B1,C6:=r.C6,A9:=r.A9++[Q3o n]}=cntR r+1:=by
     show r.C6.length+arm r+(r.A9++[_]).length=r.C6.length+arm r+r.A9.length+1
     rw[List.length_append,List.length_singleton];omega
   cases Q2u (Q3o n)<;>cases(Q3o n).B7==1<;>cases decide ((r.A9.length:Int)>=16)<;>first|exact Nat.le_add_right _ _|(show cntR {A0:=r.A0,B1:=r.B1,C6:=r.C6,A9:=r.A9++[Q3o n]}<=_;omega)
theorem vN{c0:Int}(l:List Int): ∀{k B:Int} {s:Q01×List Q02},logP c0 k B s.1->255<=B->B+12*l.length<1000000000->cntR (l.foldl Qji s).1<=cntR s.1+11*l.length:=by
 induction l with
 |nil=>intro k B s _ _ _;exact Nat.le_refl _
 | cons n l ih=>
   intro k B s h h1 h2
   rw[List.length_cons]at h2
   have a:=Qp3 h h1 (by omega) n
   have b:=zo h n
   rw[<-Qo1]at a b
   have:=ih a (by omega) (by omega)
   rw[List.foldl_cons,List.length_cons];omega
theorem Z7x{l:List Q0h}{i:Nat}(h:i<l.length):l.getD i (RK.dflt RK.apiEntry)=l[i]:=by
 rw[List.getD_eq_getElem?_getD,List.getElem?_eq_getElem h];rfl
theorem vo{P:Nat}{a b:Q00}{L:List Q0h}{o:List Q02}(h:Ql3 a L o b):good P a->(o.length:Int)<=b.A1-a.A1:=by
 induction h with
 |nil=>intro _;show((0:Nat):Int)<=_;omega
 | ev h1 h2 h3 h4 ih=>
   intro g
   obtain⟨g1,c1⟩:=Qlo g h3
   have:=ih g1
   omega
 | rd h1 h2 h3 h4 ih=>
   intro g
   obtain⟨g1,c1,o1⟩:=Qg9 g h1 h3
   have:=ih g1
   rw[List.length_append];omega
 | st h1 h2 h3 h4 ih=>
   intro g
   obtain⟨g1,c1,o1⟩:=Qg9 g h1 h3
   have:=ih g1
   rw[List.length_append];omega
structure recOf(m:Q00)(x:Q01×List Q02):Prop where
 len:x.1.C6.length<=400
 tr:Ql3 m x.1.C6 x.2 x.1.A0
 outs:x.2.length<=330
 lo:m.A1<=x.1.A0.A1
 hi:x.1.A0.A1<=m.A1+330
 pw:x.1.C6.Pairwise λa b=>a.At<=b.At/\(a.C4.B7=1->a.At<b.At/\(b.C4.B7=1->a.C4.N<=b.C4.N))
 good:good 8 x.1.A0
theorem recorded{m:Q00}{acts:List Int}{x:Q01×List Q02}(a:good 8 m)(b:m.A1<=87)(f2:acts.length<=30)(hx:x=acts.foldl Qji ({A0:=m,B1:=0,C6:=[],A9:=[]},[])):recOf m x:=by
 have s0:=yM a b
 have lp:=vn acts (s:=({A0:=m,B1:=0,C6:=[],A9:=[]},[])) s0 (Int.le_refl _) (by omega)
 have ct:=vN acts (s:=({A0:=m,B1:=0,C6:=[],A9:=[]},[])) s0 (Int.le_refl _) (by omega)
 obtain⟨o,on1,L,on2,on3⟩:=zan acts (s:=({A0:=m,B1:=0,C6:=[],A9:=[]},[])) s0 (Int.le_refl _) (by omega)
 have sp:=Zl6 acts (s:=({A0:=m,B1:=0,C6:=[],A9:=[]},[])) s0 (Int.le_refl _) (by omega)
 rw[<-hx]at lp ct on1 on2 on3 sp
 have on1:x.2=o:=on1
 have on2:x.1.C6=L:=on2
 have on3:Ql3 m L o x.1.A0:=on3
 rw[<-on1,<-on2]at on3
 have sp:x.1.A0.A1<=m.A1+11*acts.length:=sp
 have hlen:x.1.C6.length<=400:=by
   have c0:cntR ({A0:=m,B1:=0,C6:=[],A9:=[]}:Q01)<=1:=by
     have:=yV {A0:=m,B1:=0,C6:=[],A9:=[]}
     show 0+arm {A0:=m,B1:=0,C6:=[],A9:=[]}+0<=1
     omega
   have ct:cntR x.1<=cntR ({A0:=m,B1:=0,C6:=[],A9:=[]}:Q01)+11*acts.length:=ct
   unfold cntR at ct c0
   omega
 have ol:=vo on3 a
 obtain⟨gb,cb,_⟩:=on3.good a
 exact⟨hlen,on3,by omega,cb,by omega,lp.l.pw,gb⟩
abbrev RunR:=Q00×List Q02×Int×Int
def Qjo:Q00:={B2:={X:={a0:=0,a1:=0,a2:=0,a3:=0,a4:=0,a5:=0,a6:=0,a7:=0,a8:=0,a9:=0,a10:=0,a11:=0,a12:=0,a13:=0,a14:=0,a15:=0},Pc:=0,B5:={a0:=0,a1:=0,a2:=0,a3:=0,a4:=0,a5:=0,a6:=0,a7:=0}},Mem:=[],A3:={D3:=[]},A7:={D2:=false,C8:=0,D5:=false},B0:={Blocks:=0,B9:=0,B4:=0,C1:=0,D8:=0,B6:=0,B3:=0,C3:=[]},C0:={B4:=0,F0:=0,C7:=false,C2:=0,B8:=false,F3:=0},A2:={C9:=0,C5:=0},A1:=0,A4:=false,A6:=false}
def atI(s:List Q0h)(i:Int):Q0h:=s.getD i.toNat (RK.dflt RK.apiEntry)
def evI(s:List Q0h):Nat->Int->Q00->Int×Q00
 |0,i,y=>(i,y)
 |n+1,i,y=>bif(decide (i<(s.length:Int))&&(((atI s i).At==y.A1)&&((atI s i).C4.B7 !=1))) then evI s n (i+1) (Q0p y (atI s i).C4).2 else(i,y)
def Z1w(go:Int->Q00->List Q02->RunR)(s:List Q0h)(i:Int)(y:Q00)(out:List Q02):RunR:=
 bif y.A6 then(y,out,i,0) else
 bif Q36 y then(bif decide (i<(s.length:Int)) then(Qjo,[],0,1303) else(y,out,i,0)) else
 bif decide (i<(s.length:Int)) then
   (bif((atI s i).At==y.A1)==Q18 y then
     (bif((atI s i).At==y.A1) then go (i+1) (Q05 y (atI s i).C4.N).2 (out++(Q05 y (atI s i).C4.N).1) else go i (Q05 y 0).2 (out++(Q05 y 0).1))
   else(Qjo,[],0,1302))
 else(bif false==Q18 y then go i (Q05 y 0).2 (out++(Q05 y 0).1) else(Qjo,[],0,1302))
def goI(s:List Q0h)(u:Int):Nat->Int->Q00->List Q02->RunR
 |0,i,x,out=>(x,out,i,0)
 |k+1,i,x,out=>bif decide (x.A1<1152921504606846976) then Z1w (goI s u k) s (evI s (s.length-i).toNat i x).1 (evI s (s.length-i).toNat i x).2 out else(x,out,i,0)
def Qvx(s:List Q0h)(i:Nat):Bool:=!decide ((s.getD i (RK.dflt RK.apiEntry)).At<(s.getD (i-1) (RK.dflt RK.apiEntry)).At)&&!(((s.getD i (RK.dflt RK.apiEntry)).At==(s.getD (i-1) (RK.dflt RK.apiEntry)).At)&&((s.getD (i-1) (RK.dflt RK.apiEntry)).C4.B7==1))
def ordB(s:List Q0h):Bool:=decide (∀i,i<s.length->1<=i->Qvx s i=true)
def chk(m:Q00)(s:List Q0h)(u:Int):Int:=
 if Q41 m=false then 1300 else if u<m.A1 then 1300 else if 4000<IntKind.wrap .u64 (u-m.A1) then 1300 else if 400<s.length then 1300 else if ordB s=false then 1301 else if 0<s.length/\(atI s 0).At<m.A1 then 1301 else 0
def runR(m:Q00)(s:List Q0h)(u:Int):RunR:=if chk m s u=0 then goI s u (u-m.A1).toNat 0 m [] else(Qjo,[],0,chk m s u)
theorem w_ev3{β:Type}{c1 c2 c3 cc:Bool}{N T:Tree β}{W:β->Prop}(hcc:c1=true->cc=true)(hN:c1=true->c2=true->c3=true->N.w W)(hT:(c1&&(c2&&c3))=false->T.w W):(Tree.br c1 (.cn cc (.br c2 (.cn cc (.br c3 (.cn cc N) T)) T)) T).w W:=by
 refine w_br (λh1=>w_cn (hcc h1) (w_br (λh2=>w_cn (hcc h1) (w_br (λh3=>w_cn (hcc h1) (hN h1 h2 h3)) λh3=>hT (by rw[h1,h2,h3];rfl))) λh2=>hT (by rw[h1,h2];rfl))) λh1=>hT (by rw[h1];rfl)
theorem bn1: ∀a b:Bool,(!a==b)=true->(a==b)=false:=by decide
theorem bn2: ∀a b:Bool,(!a==b)=false->(a==b)=true:=by decide
theorem bn3: ∀a b:Bool,(!b==a)=true->(a==b)=false:=by decide
theorem bn4: ∀a b:Bool,(!b==a)=false->(a==b)=true:=by decide
theorem qO{s:List Q0h}(h:ordB s=true): ∀i:Nat,i<s.length->1<=i->Qvx s i=true:=of_decide_eq_true h
theorem qp{s:List Q0h}(h:ordB s=true): ∀i:Nat,i<s.length->(atI s 0).At<=(s.getD i (RK.dflt RK.apiEntry)).At:=by
 intro i
 induction i with
 |zero=>intro _;exact Int.le_refl _
 | succ i ih=>
   intro hi
   have h1:=qO h (i+1) hi (by omega)
   have h2:=ih (by omega)
   unfold Qvx at h1
   rw[Bool.and_eq_true]at h1
   have h3:decide ((s.getD (i+1) (RK.dflt RK.apiEntry)).At<(s.getD i (RK.dflt RK.apiEntry)).At)=false:=by simpa using h1.1
   have h3:=of_decide_eq_false h3
   omega
theorem Qq6{s:List Q0h}(hl:s.length<=1000000):(Q87 s).w (λb=>b=ordB s):=by
 unfold Q87
 refine w_lp (inv:=λz:Int=>1<=z/\(z<=s.length\/z=1)/\ ∀j:Nat,(j:Int)<z->1<=j->Qvx s j=true) (μ:=Q4i s) ⟨Int.le_refl 1, .inr rfl,λj h1 h2=>by omega⟩ (Nat.lt_succ_self _) λi ⟨a,b,c⟩=> ?_
 have ew:IntKind.i64.wrap (i+1)=i+1:=by rw[IntKind.wrap_i64];omega
 have em:IntKind.i64.wrap (i-1)=i-1:=by rw[IntKind.wrap_i64];omega
 refine w_br (λhb=> ?_) (λhb=>w_lf ?_)
 rotate_left
 . have hb:=of_decide_eq_false hb
   exact(decide_eq_true λj h1 h2=>c j (by omega) h2).symm
 have hb:i<s.length:=of_decide_eq_true hb
 have e1:(i-1).toNat=i.toNat-1:=by omega
 have no:Qvx s i.toNat=false->false=ordB s:=λh=>(decide_eq_false λk=>by rw[k i.toNat (by omega) (by omega)]at h;cases h).symm
 have nx:Qvx s i.toNat=true->(1<=IntKind.i64.wrap (i+1)/\(IntKind.i64.wrap (i+1)<=s.length\/IntKind.i64.wrap (i+1)=1)/\ ∀j:Nat,(j:Int)<IntKind.i64.wrap (i+1)->1<=j->Qvx s j=true)/\Q4i s (IntKind.i64.wrap (i+1))<Q4i s i:=λh=>by
   show _/\(s.length-IntKind.i64.wrap (i+1)).toNat<(s.length-i).toNat
   rw[ew]
   refine⟨⟨by omega,by omega,λj h1 h2=> ?_⟩,by omega⟩
   by_cases e:(j:Int)<i
   . exact c j e h2
   . rw[show j=i.toNat by omega];exact h
 have c1:(Nat.beq 4 4&&Nat.blt 0 4&&decide (0<=IntKind.i64.wrap (i-1)/\IntKind.i64.wrap (i-1)<(s.length:Int)))=true:=by rw[em];simp [Nat.blt];omega
 have c2:(Nat.beq 4 4&&Nat.blt 0 4&&decide (0<=i/\i<(s.length:Int)))=true:=by simp [Nat.blt];omega
 have eP:Qvx s i.toNat=(!decide ((s.getD i.toNat (RK.dflt RK.apiEntry)).At<(s.getD (IntKind.i64.wrap (i-1)).toNat (RK.dflt RK.apiEntry)).At)&&!(((s.getD i.toNat (RK.dflt RK.apiEntry)).At==(s.getD (IntKind.i64.wrap (i-1)).toNat (RK.dflt RK.apiEntry)).At)&&((s.getD (IntKind.i64.wrap (i-1)).toNat (RK.dflt RK.apiEntry)).C4.B7==1))):=by rw[em,e1];rfl
 refine w_cn c2 (w_cn c1 (w_br (λh=>w_lf (no (by rw[eP,h];rfl))) λh=>w_cn c2 (w_cn c1 (w_br (λh1=>w_cn c1 (w_br (λh2=>w_lf (no (by rw[eP,h,h1,h2];rfl))) λh2=>w_nx (nx (by rw[eP,h,h1,h2];rfl)))) λh1=>w_nx (nx (by rw[eP,h,h1];rfl))))))
theorem Qq9{s:List Q0h}(hl:s.length<=1000000):(Q88 s).w (λb=>b=ordB s):=by
 unfold Q88
 refine w_lp (inv:=λz:Int=>1<=z/\(z<=s.length\/z=1)/\ ∀j:Nat,(j:Int)<z->1<=j->Qvx s j=true) (μ:=Q4m s) ⟨Int.le_refl 1, .inr rfl,λj h1 h2=>by omega⟩ (Nat.lt_succ_self _) λi ⟨a,b,c⟩=> ?_
 have ew:IntKind.i64.wrap (i+1)=i+1:=by rw[IntKind.wrap_i64];omega
 have em:IntKind.i64.wrap (i-1)=i-1:=by rw[IntKind.wrap_i64];omega
 refine w_br (λhb=> ?_) (λhb=>w_lf ?_)
 rotate_left
 . have hb:=of_decide_eq_false hb
   exact(decide_eq_true λj h1 h2=>c j (by omega) h2).symm
 have hb:i<s.length:=of_decide_eq_true hb
 have e1:(i-1).toNat=i.toNat-1:=by omega
 have no:Qvx s i.toNat=false->false=ordB s:=λh=>(decide_eq_false λk=>by rw[k i.toNat (by omega) (by omega)]at h;cases h).symm
 have nx:Qvx s i.toNat=true->(1<=IntKind.i64.wrap (i+1)/\(IntKind.i64.wrap (i+1)<=s.length\/IntKind.i64.wrap (i+1)=1)/\ ∀j:Nat,(j:Int)<IntKind.i64.wrap (i+1)->1<=j->Qvx s j=true)/\Q4m s (IntKind.i64.wrap (i+1))<Q4m s i:=λh=>by
   show _/\(s.length-IntKind.i64.wrap (i+1)).toNat<(s.length-i).toNat
   rw[ew]
   refine⟨⟨by omega,by omega,λj h1 h2=> ?_⟩,by omega⟩
   by_cases e:(j:Int)<i
   . exact c j e h2
   . rw[show j=i.toNat by omega];exact h
 have c1:(Nat.beq 4 4&&Nat.blt 0 4&&decide (0<=IntKind.i64.wrap (i-1)/\IntKind.i64.wrap (i-1)<(s.length:Int)))=true:=by rw[em];simp [Nat.blt];omega
 have c2:(Nat.beq 4 4&&Nat.blt 0 4&&decide (0<=i/\i<(s.length:Int)))=true:=by simp [Nat.blt];omega
 have eP:Qvx s i.toNat=(!decide ((s.getD i.toNat (RK.dflt RK.apiEntry)).At<(s.getD (IntKind.i64.wrap (i-1)).toNat (RK.dflt RK.apiEntry)).At)&&!(((s.getD i.toNat (RK.dflt RK.apiEntry)).At==(s.getD (IntKind.i64.wrap (i-1)).toNat (RK.dflt RK.apiEntry)).At)&&((s.getD (IntKind.i64.wrap (i-1)).toNat (RK.dflt RK.apiEntry)).C4.B7==1))):=by rw[em,e1];rfl
 refine w_cn c1 (w_cn c2 (w_br (λh=>w_lf (no (by rw[eP,h];rfl))) λh=>w_br (λh1=>w_br (λh2=>w_lf (no (by rw[eP,h,h1,h2];rfl))) λh2=>w_nx (nx (by rw[eP,h,h1,h2];rfl))) λh1=>w_nx (nx (by rw[eP,h,h1];rfl))))
theorem xaH{m:Q00}(hv:okV m){s:List Q0h}(hs:s.length<=100)(hu: ∀e∈s,U e.C4.N){u:Int}(u0:0<=u)(u1:u<18446744073709551616):(Qko m s u).w (λr=>r=runR m s u/\r.2.1.length<=4000/\r.1.Mem.length<=1024):=by
  unfold Qko
  have m0:=hv.cnt
  have er: ∀c,chk m s u=c->c≠0->((Qjo,[],0,c):RunR)=runR m s u/\((Qjo,[],0,c):RunR).2.1.length<=4000/\((Qjo,[],0,c):RunR).1.Mem.length<=1024:=λc h1 h2=>⟨by unfold runR;rw[h1,if_neg h2],Nat.zero_le _,Nat.zero_le _⟩
  refine w_lv λx0 e0=> ?_
  refine w_br (λh=>w_lf (er 1300 ?_ (by decide))) λhm=>w_br (λh=>w_lf (er 1300 ?_ (by decide))) λh1=>w_br (λh=>w_lf (er 1300 ?_ (by decide))) λh2=>w_br (λh=>w_lf (er 1300 ?_ (by decide))) λh3=>w_an (show s.length<=1000000000000 by omega) (w_lv λx1 e1=> ?_)
  . unfold chk;rw[if_pos (by rw[<-e0];simpa using h)]
  all_goals have hm': ¬Q41 m=false:=by rw[<-e0];simpa using hm
  . unfold chk;rw[if_neg hm',if_pos (of_decide_eq_true h)]
  all_goals have h1': ¬u<m.A1:=of_decide_eq_false h1
  . unfold chk;rw[if_neg hm',if_neg h1',if_pos (of_decide_eq_true h)]
  all_goals have h2': ¬4000<IntKind.wrap .u64 (u-m.A1):=of_decide_eq_false h2
  . have:=of_decide_eq_true h;omega
  have h3': ¬400<s.length:=by omega
  have e1:x1=ordB s:=by rw[e1];exact Tree.post _ (Qq6 (by omega))
  rw[e1]
  refine w_br (λh=>w_lf (er 1301 ?_ (by decide))) λho=> ?_
  . unfold chk;rw[if_neg hm',if_neg h1',if_neg h2',if_neg h3',if_pos (by simpa using h)]
  have ho': ¬ordB s=false:=by simpa using ho
  have mm:Q14 m=true:=by rw[Qpj hv];simpa using hm'
  obtain⟨P,gS,gM⟩:=may_P hv mm
  have g:good P m:=⟨gM,mm⟩
  have hle:m.A1<=u:=by omega
  have h4:u-m.A1<=4000:=by rw[IntKind.wrap_u64]at h2';omega
  refine w_br (λhl=>w_cn (by have:=of_decide_eq_true hl;simp [Nat.blt];omega) (w_br (λha=>w_lf (er 1301 ?_ (by decide))) λha=> ?_)) λhl=> ?_
  . have hl:=of_decide_eq_true hl
    have ha:(atI s 0).At<m.A1:=of_decide_eq_true ha
    unfold chk;rw[if_neg hm',if_neg h1',if_neg h2',if_neg h3',if_neg ho',if_pos ⟨by omega,ha⟩]
  all_goals(
    have h0:chk m s u=0:=by
      have hn: ¬(0<s.length/\(atI s 0).At<m.A1):=by
        first
          |(have hl:=of_decide_eq_false hl;exact fun⟨q,_⟩=>hl (by omega))
          |(have ha: ¬(atI s 0).At<m.A1:=of_decide_eq_false ha;exact fun⟨_,q⟩=>ha q)
      unfold chk;rw[if_neg hm',if_neg h1',if_neg h2',if_neg h3',if_neg ho',if_neg hn]
    have hRES:goI s u (u-m.A1).toNat 0 m []=runR m s u:=by unfold runR;rw[h0,if_pos rfl]
    generalize runR m s u=RES at hRES⊢
    refine w_an (Tree.pp (Zit gM)).1 (w_lv λx2 e2=> ?_)
    rw[e2,Z2k]
    refine w_lp (inv:=λv:Int×Q00×List Q02=>0<=v.1/\v.1<=s.length/\good P v.2.1/\v.2.1.A1<=u/\(v.2.2.length:Int)<=v.2.1.A1-m.A1/\goI s u (u-v.2.1.A1).toNat v.1 v.2.1 v.2.2=RES) (μ:=Qqq m s u) ⟨Int.le_refl 0,by show(0:Int)<=_;omega,g,hle,by show((0:Nat):Int)<=m.A1-m.A1;omega,hRES⟩ (Nat.lt_succ_self _) λv ⟨a1,a2,a3,a4,a5,a6⟩=> ?_
    obtain⟨i0,x,out⟩:=v
    have a1:0<=i0:=a1
    have a2:i0<=s.length:=a2
    have a3:good P x:=a3
    have a4:x.A1<=u:=a4
    have a5:(out.length:Int)<=x.A1-m.A1:=a5
    have a6:goI s u (u-x.A1).toNat i0 x out=RES:=a6
    refine w_br (λhb=> ?_) (λhb=>w_lf ?_)
    rotate_left
    . have hb: ¬x.A1<u:=of_decide_eq_false hb
      rw[show(u-x.A1).toNat=0 by omega]at a6
      exact⟨a6,by show out.length<=4000;omega,a3.len⟩
    have hb:x.A1<u:=of_decide_eq_true hb
    obtain⟨k,hk⟩: ∃k:Nat,(u-x.A1).toNat=k+1:=⟨(u-x.A1).toNat-1,by omega⟩
    rw[hk]at a6
    refine w_br (λh60=> ?_) (λh60=>w_lf ?_)
    rotate_left
    . have a6':(bif decide (x.A1<1152921504606846976) then Z1w (goI s u k) s (evI s (s.length-i0).toNat i0 x).1 (evI s (s.length-i0).toNat i0 x).2 out else(x,out,i0,0))=RES:=a6
      have h60:decide (x.A1<1152921504606846976)=false:=h60
      rw[h60]at a6'
      exact⟨a6',by show out.length<=4000;omega,a3.len⟩
    have a6':(bif decide (x.A1<1152921504606846976) then Z1w (goI s u k) s (evI s (s.length-i0).toNat i0 x).1 (evI s (s.length-i0).toNat i0 x).2 out else(x,out,i0,0))=RES:=a6
    have h60':decide (x.A1<1152921504606846976)=true:=h60
    rw[h60']at a6'
    have a6':Z1w (goI s u k) s (evI s (s.length-i0).toNat i0 x).1 (evI s (s.length-i0).toNat i0 x).2 out=RES:=a6'
    have h60:x.A1<1152921504606846976:=of_decide_eq_true h60'
    clear a6
    generalize hE:evI s (s.length-i0).toNat i0 x=E at a6'
    refine w_lp (inv:=λw:Int×Q00=>0<=w.1/\w.1<=s.length/\good P w.2/\w.2.A1=x.A1/\evI s (s.length-w.1).toNat w.1 w.2=E) (μ:=Qq7 m s u (i0,x,out)) ⟨a1,a2,a3,rfl,hE⟩ (Nat.lt_succ_self _) λw ⟨b1,b2,b3,b4,b5⟩=> ?_
    obtain⟨i,y⟩:=w
    have b1:0<=i:=b1
    have b2:i<=s.length:=b2
    have b3:good P y:=b3
    have b4:y.A1=x.A1:=b4
    have b5:evI s (s.length-i).toNat i y=E:=b5
    have ew:IntKind.i64.wrap (i+1)=i+1:=by rw[IntKind.wrap_i64];omega
    have cc:decide (i<(s.length:Int))=true->(Nat.beq 4 4&&Nat.blt 0 4&&decide (0<=i/\i<((s.length:Nat):Int)))=true:=λh=>by have:=of_decide_eq_true h;simp [Nat.blt];omega
    have uN:decide (i<(s.length:Int))=true->U (s.getD i.toNat (RK.dflt RK.apiEntry)).C4.N:=λh=>by
      have:=of_decide_eq_true h
      rw[Z7x (show i.toNat<s.length by omega)]
      exact hu _ (List.getElem_mem _)
    refine w_ev3 (λh=>cc h) (λh1 h2 h3=> ?_) λhx=> ?_
    . have hi:=of_decide_eq_true h1
      obtain⟨g1,c1⟩:=Qlo b3 (uN h1)
      refine w_an (Tree.pp (Zjv b3.ok (uN h1))).1 (w_lv λx3 e3=>w_nx ?_)
      have e3:x3.2=(Q0p y (s.getD i.toNat (RK.dflt RK.apiEntry)).C4).2:=by rw[e3]
      show(0<=IntKind.i64.wrap (i+1)/\IntKind.i64.wrap (i+1)<=s.length/\good P x3.2/\x3.2.A1=x.A1/\evI s (s.length-IntKind.i64.wrap (i+1)).toNat (IntKind.i64.wrap (i+1)) x3.2=E)/\(s.length-IntKind.i64.wrap (i+1)).toNat<(s.length-i).toNat
      rw[ew,e3]
      refine⟨⟨by omega,by omega,g1,by rw[c1];exact b4,?_⟩,by omega⟩
      rw[show(s.length-i).toNat=(s.length-(i+1)).toNat+1 by omega]at b5
      have b5':(bif(decide (i<(s.length:Int))&&(((atI s i).At==y.A1)&&((atI s i).C4.B7 !=1))) then evI s (s.length-(i+1)).toNat (i+1) (Q0p y (atI s i).C4).2 else(i,y))=E:=b5
      rw[show(decide (i<(s.length:Int))&&(((atI s i).At==y.A1)&&((atI s i).C4.B7 !=1)))=true by
        have h1:decide (i<(s.length:Int))=true:=h1
        have h2:((atI s i).At==y.A1)=true:=h2
        have h3:((atI s i).C4.B7 !=1)=true:=h3
        rw[h1,h2,h3];rfl]at b5'
      exact b5'
    have hx:(decide (i<(s.length:Int))&&(((atI s i).At==y.A1)&&((atI s i).C4.B7 !=1)))=false:=hx
    have eE:(i,y)=E:=by
      generalize(s.length-i).toNat=n at b5
      cases n with
      |zero=>exact b5
      | succ n=>
        have b5':(bif(decide (i<(s.length:Int))&&(((atI s i).At==y.A1)&&((atI s i).C4.B7 !=1))) then evI s n (i+1) (Q0p y (atI s i).C4).2 else(i,y))=E:=b5
        rw[hx]at b5';exact b5'
    subst eE
    have R0:Z1w (goI s u k) s i y out=RES:=a6'
    unfold Z1w at R0
    have lo:out.length<=4000:=by omega
    have st:y.A6=false->Q36 y=false->Q0y y=false:=λh1 h2=>(Qrv b3).2 ⟨h1,h2,by omega⟩
    have fin: ∀(c:Int) (j:Int),U c->Q0y y=false->0<=j->j<=s.length->goI s u k j (Q05 y c).2 (out++(Q05 y c).1)=RES->decide (40*(out.length+(Q05 y c).1.length)<=140737488355328)=true/\((0<=j/\j<=s.length/\good P (Q05 y c).2/\(Q05 y c).2.A1<=u/\((out++(Q05 y c).1).length:Int)<=(Q05 y c).2.A1-m.A1/\goI s u (u-(Q05 y c).2.A1).toNat j (Q05 y c).2 (out++(Q05 y c).1)=RES)/\(u-(Q05 y c).2.A1).toNat<(u-x.A1).toNat):=λc j hc hs j1 j2 hr=>by
      obtain⟨g1,c1,l1⟩:=Qg9 b3 hs hc
      refine⟨decide_eq_true (by omega),⟨j1,j2,g1,by omega,by rw[List.length_append];omega,?_⟩,by omega⟩
      rw[show(u-(Q05 y c).2.A1).toNat=k by omega];exact hr
    refine w_br (λhh=>w_lf ?_) λhh=>w_an (Tree.pp (zv y)).1 (w_lv λx4 e4=> ?_)
    . have hh:y.A6=true:=hh
      rw[hh]at R0
      exact⟨R0,lo,b3.len⟩
    have hh:y.A6=false:=hh
    rw[hh]at R0
    have e4:x4=Q36 y:=e4
    rw[e4]
    refine w_br (λhi=> ?_) λhi=> ?_
    . have R1:(bif Q36 y then(bif decide (i<(s.length:Int)) then((Qjo,[],0,1303):RunR) else(y,out,i,0)) else _)=RES:=R0
      rw[hi]at R1
      have R1:(bif decide (i<(s.length:Int)) then((Qjo,[],0,1303):RunR) else(y,out,i,0))=RES:=R1
      refine w_br (λhl=>w_lf ?_) λhl=>w_lf ?_
      . have hl:decide (i<(s.length:Int))=true:=hl
        rw[hl]at R1;exact⟨R1,Nat.zero_le _,Nat.zero_le _⟩
      . have hl:decide (i<(s.length:Int))=false:=hl
        rw[hl]at R1;exact⟨R1,lo,b3.len⟩
    have sk:=st hh hi
    have R2:(bif decide (i<(s.length:Int)) then
      (bif((atI s i).At==y.A1)==Q18 y then
        (bif((atI s i).At==y.A1) then goI s u k (i+1) (Q05 y (atI s i).C4.N).2 (out++(Q05 y (atI s i).C4.N).1) else goI s u k i (Q05 y 0).2 (out++(Q05 y 0).1))
      else((Qjo,[],0,1302):RunR))
    else(bif false==Q18 y then goI s u k i (Q05 y 0).2 (out++(Q05 y 0).1) else(Qjo,[],0,1302)))=RES:=by
      have R1:(bif Q36 y then(bif decide (i<(s.length:Int)) then((Qjo,[],0,1303):RunR) else(y,out,i,0)) else _)=RES:=R0
      rw[hi]at R1;exact R1
    clear R0
    have rq: ∀z,z=Q18 y->z=Q18 y:=λz hz=>hz
    have rpre: ∀(c:Int),U c->Q81 y c:=λc hc=>(Tree.pp (Qvn b3.ok hc)).1
    have advE: ∀(c:Int) (z:List Q02×Q00),z=Q05 y c->z.1=(Q05 y c).1/\z.2=(Q05 y c).2:=λc z hz=>by rw[hz];exact⟨rfl,rfl⟩
    have go0:goI s u k i (Q05 y 0).2 (out++(Q05 y 0).1)=RES-> ∀z:List Q02×Q00,z=Q05 y 0->decide (40*(out.length+z.1.length)<=140737488355328)=true/\((0<=i/\i<=s.length/\good P z.2/\z.2.A1<=u/\((out++z.1).length:Int)<=z.2.A1-m.A1/\goI s u (u-z.2.A1).toNat i z.2 (out++z.1)=RES)/\(u-z.2.A1).toNat<(u-x.A1).toNat):=λhr z hz=>by
      obtain⟨z1,z2⟩:=advE 0 z hz
      rw[z1,z2]
      exact fin 0 i U_0 sk b1 b2 hr
    refine w_br (λhl=> ?_) λhl=> ?_
    . have hl:decide (i<(s.length:Int))=true:=hl
      have hi':=of_decide_eq_true hl
      rw[hl]at R2
      have R2:(bif((atI s i).At==y.A1)==Q18 y then
        (bif((atI s i).At==y.A1) then goI s u k (i+1) (Q05 y (atI s i).C4.N).2 (out++(Q05 y (atI s i).C4.N).1) else goI s u k i (Q05 y 0).2 (out++(Q05 y 0).1))
      else((Qjo,[],0,1302):RunR))=RES:=R2
      refine w_cn (cc hl) (w_an (Tree.pp (Z85 b3.ok.cpu b3.ok.mem)).1 (w_lv λx5 e5=> ?_))
      have e5:=rq x5 e5
      rw[e5]
      refine w_br (λhn=>w_lf ?_) λhn=> ?_
      . have hn:=bn1 ((atI s i).At==y.A1) (Q18 y) hn
        rw[hn]at R2
        exact⟨R2,Nat.zero_le _,Nat.zero_le _⟩
      have hn:=bn2 ((atI s i).At==y.A1) (Q18 y) hn
      rw[hn]at R2
      have R2:(bif((atI s i).At==y.A1) then goI s u k (i+1) (Q05 y (atI s i).C4.N).2 (out++(Q05 y (atI s i).C4.N).1) else goI s u k i (Q05 y 0).2 (out++(Q05 y 0).1))=RES:=R2
      refine w_br (λha=>w_cn (cc hl) (w_an (rpre _ (uN hl)) (w_lv λx6 e6=> ?_))) λha=> ?_
      . have ha:((atI s i).At==y.A1)=true:=ha
        rw[ha]at R2
        obtain⟨z1,z2⟩:=advE _ x6 e6
        have F:=fin (atI s i).C4.N (i+1) (uN hl) sk (by omega) (by omega) R2
        refine w_cn (by rw[z1];exact F.1) (w_nx ?_)
        have F2:=F.2
        rw[<-ew]at F2
        show(0<=IntKind.i64.wrap (i+1)/\IntKind.i64.wrap (i+1)<=s.length/\good P x6.2/\x6.2.A1<=u/\((out++x6.1).length:Int)<=x6.2.A1-m.A1/\goI s u (u-x6.2.A1).toNat (IntKind.i64.wrap (i+1)) x6.2 (out++x6.1)=RES)/\(u-x6.2.A1).toNat<(u-x.A1).toNat
        rw[z1,z2];exact F2
      . have ha:((atI s i).At==y.A1)=false:=ha
        rw[ha]at R2
        exact w_an (rpre _ U_0) (w_lv λx7 e7=>w_cn (go0 R2 x7 e7).1 (w_nx (go0 R2 x7 e7).2))
    . have hl:decide (i<(s.length:Int))=false:=hl
      rw[hl]at R2
      have R2:(bif false==Q18 y then goI s u k i (Q05 y 0).2 (out++(Q05 y 0).1) else((Qjo,[],0,1302):RunR))=RES:=R2
      refine w_an (Tree.pp (Z85 b3.ok.cpu b3.ok.mem)).1 (w_lv λx8 e8=> ?_)
      have e8:=rq x8 e8
      rw[e8]
      refine w_br (λhn=>w_lf ?_) λhn=> ?_
      . have hn:=bn1 false (Q18 y) hn
        rw[hn]at R2
        exact⟨R2,Nat.zero_le _,Nat.zero_le _⟩
      have hn:=bn2 false (Q18 y) hn
      rw[hn]at R2
      exact w_an (rpre _ U_0) (w_lv λx7 e7=>w_cn (go0 R2 x7 e7).1 (w_nx (go0 R2 x7 e7).2)))
theorem chk_w{m:Q00}(hv:okV m){s:List Q0h}(hs:s.length<=100){u:Int}:(Q8z m s u).w (λx=>x=chk m s u):=by
  unfold Q8z
  refine w_an (Tree.pp (Zk0 hv.bal.2)).1 (w_lv λx0 e0=> ?_)
  have e0:x0=Q41 m:=e0.trans (Qpj hv)
  refine w_br (λh=>w_lf ?_) λhm=>w_br (λh=>w_lf ?_) λh1=>w_br (λh=>w_lf ?_) λh2=>w_br (λh=>w_lf ?_) λh3=>w_an (show s.length<=1000000000000 by omega) (w_lv λx1 e1=> ?_)
  . unfold chk;rw[if_pos (by rw[<-e0];simpa using h)]
  all_goals have hm': ¬Q41 m=false:=by rw[<-e0];simpa using hm
  . unfold chk;rw[if_neg hm',if_pos (of_decide_eq_true h)]
  all_goals have h1': ¬u<m.A1:=of_decide_eq_false h1
  . unfold chk;rw[if_neg hm',if_neg h1',if_pos (of_decide_eq_true h)]
  all_goals have h2': ¬4000<IntKind.wrap .u64 (u-m.A1):=of_decide_eq_false h2
  . have:=of_decide_eq_true h;omega
  have h3': ¬400<s.length:=by omega
  have e1:x1=ordB s:=by rw[e1];exact Tree.post _ (Qq9 (by omega))
  rw[e1]
  refine w_br (λh=>w_lf ?_) λho=> ?_
  . unfold chk;rw[if_neg hm',if_neg h1',if_neg h2',if_neg h3',if_pos (by simpa using h)]
  have ho':ordB s=true:=by simpa using ho
  have ho2: ¬ordB s=false:=by rw[ho'];simp
  refine w_lp (inv:=λi:Int=>0<=i/\i<=s.length/\(0<i-> ¬(atI s 0).At<m.A1)) (μ:=Qmt m s u) ⟨Int.le_refl 0,by omega,λh=>absurd h (Int.lt_irrefl 0)⟩ (Nat.lt_succ_self _) λi ⟨v1,v2,v3⟩=> ?_
  refine w_br (λhb=> ?_) (λhb=>w_lf ?_)
  . have hb:=of_decide_eq_true hb
    have hlt:i.toNat<s.length:=by omega
    have of:=qp ho' i.toNat hlt
    have ew:IntKind.i64.wrap (i+1)=i+1:=by rw[IntKind.wrap_i64];omega
    refine w_cn (by simp [Nat.blt];omega) (w_br (λh=>w_lf ?_) λh=>w_nx ?_)
    . have h:=of_decide_eq_true h
      show(1301:Int)=_
      unfold chk;rw[if_neg hm',if_neg h1',if_neg h2',if_neg h3',if_neg ho2,if_pos ⟨by omega,by omega⟩]
    . have h:=of_decide_eq_false h
      show(0<=IntKind.i64.wrap (i+1)/\IntKind.i64.wrap (i+1)<=s.length/\(0<IntKind.i64.wrap (i+1)-> ¬(atI s 0).At<m.A1))/\(s.length-IntKind.i64.wrap (i+1)).toNat<(s.length-i).toNat
      rw[ew]
      refine⟨⟨by omega,by omega,λ_=> ?_⟩,by omega⟩
      by_cases e:0<i
      . exact v3 e
      . have:i=0:=by omega
        subst this;exact h
  . have hb:=of_decide_eq_false hb
    show(0:Int)=_
    unfold chk;rw[if_neg hm',if_neg h1',if_neg h2',if_neg h3',if_neg ho2,if_neg fun⟨q1,q2⟩=>v3 (by omega) q2]
theorem qaI{m:Q00}(hv:okV m){s:List Q0h}(hs:s.length<=100)(hu: ∀e∈s,U e.C4.N){u:Int}(u0:0<=u)(u1:u<18446744073709551616):(Qdg m s u).w (λr=>r=runR m s u/\r.2.1.length<=4000/\r.1.Mem.length<=1024):=by
 unfold Qdg
 have m0:=hv.cnt
 refine Q0d (chk_w hv hs) λx0 e0=> ?_
 rw[e0]
 refine w_br (λh=>w_lf ⟨?_,Nat.zero_le _,Nat.zero_le _⟩) λh=> ?_
 . have h: ¬chk m s u=0:=by simpa using h
   unfold runR;rw[if_neg h];rfl
 have h0:chk m s u=0:=by simpa using h
 have hm: ¬Q41 m=false:=λq=>by unfold chk at h0;rw[if_pos q]at h0;cases h0
 have h1: ¬u<m.A1:=λq=>by unfold chk at h0;rw[if_neg hm,if_pos q]at h0;cases h0
 have h2: ¬4000<IntKind.wrap .u64 (u-m.A1):=λq=>by unfold chk at h0;rw[if_neg hm,if_neg h1,if_pos q]at h0;cases h0
 have mm:Q14 m=true:=by rw[Qpj hv];simpa using hm
 obtain⟨P,gS,gM⟩:=may_P hv mm
 have g:good P m:=⟨gM,mm⟩
 have hle:m.A1<=u:=by omega
 have h4:u-m.A1<=4000:=by rw[IntKind.wrap_u64]at h2;omega
 have hRES:goI s u (u-m.A1).toNat 0 m []=runR m s u:=by unfold runR;rw[h0,if_pos rfl]
 generalize runR m s u=RES at hRES⊢
 refine w_an (Q8n gM.mem) (w_lv λx1 e1=> ?_)
 have hcl:Q03 m.Mem=m.Mem:=rfl
 rw[hcl]at e1
 subst e1
 refine w_lp (inv:=λv:Int×Q00×List Q02=>0<=v.1/\v.1<=s.length/\good P v.2.1/\v.2.1.A1<=u/\(v.2.2.length:Int)<=v.2.1.A1-m.A1/\goI s u (u-v.2.1.A1).toNat v.1 v.2.1 v.2.2=RES) (μ:=Qqj m s u) ⟨Int.le_refl 0,by show(0:Int)<=_;omega,g,hle,by show((0:Nat):Int)<=m.A1-m.A1;omega,hRES⟩ (Nat.lt_succ_self _) λv ⟨a1,a2,a3,a4,a5,a6⟩=> ?_
 obtain⟨i0,x,out⟩:=v
 have a1:0<=i0:=a1
 have a2:i0<=s.length:=a2
 have a3:good P x:=a3
 have a4:x.A1<=u:=a4
 have a5:(out.length:Int)<=x.A1-m.A1:=a5
 have a6:goI s u (u-x.A1).toNat i0 x out=RES:=a6
 refine w_br (λhb=> ?_) (λhb=>w_lf ?_)
 rotate_left
 . have hb: ¬x.A1<u:=of_decide_eq_false hb
   rw[show(u-x.A1).toNat=0 by omega]at a6
   exact⟨a6,by show out.length<=4000;omega,a3.len⟩
 have hb:x.A1<u:=of_decide_eq_true hb
 obtain⟨k,hk⟩: ∃k:Nat,(u-x.A1).toNat=k+1:=⟨(u-x.A1).toNat-1,by omega⟩
 rw[hk]at a6
 refine w_br (λh60=> ?_) (λh60=>w_lf ?_)
 rotate_left
 . have a6':(bif decide (x.A1<1152921504606846976) then Z1w (goI s u k) s (evI s (s.length-i0).toNat i0 x).1 (evI s (s.length-i0).toNat i0 x).2 out else(x,out,i0,0))=RES:=a6
   have h60:decide (x.A1<1152921504606846976)=false:=h60
   rw[h60]at a6'
   exact⟨a6',by show out.length<=4000;omega,a3.len⟩
 have a6':(bif decide (x.A1<1152921504606846976) then Z1w (goI s u k) s (evI s (s.length-i0).toNat i0 x).1 (evI s (s.length-i0).toNat i0 x).2 out else(x,out,i0,0))=RES:=a6
 have h60':decide (x.A1<1152921504606846976)=true:=h60
 rw[h60']at a6'
 have a6':Z1w (goI s u k) s (evI s (s.length-i0).toNat i0 x).1 (evI s (s.length-i0).toNat i0 x).2 out=RES:=a6'
 have h60:x.A1<1152921504606846976:=of_decide_eq_true h60'
 clear a6
 generalize hE:evI s (s.length-i0).toNat i0 x=E at a6'
 refine w_lp (inv:=λw:Int×Q00=>0<=w.1/\w.1<=s.length/\good P w.2/\w.2.A1=x.A1/\evI s (s.length-w.1).toNat w.1 w.2=E) (μ:=Qqi m s u (i0,x,out)) ⟨a1,a2,a3,rfl,hE⟩ (Nat.lt_succ_self _) λw ⟨b1,b2,b3,b4,b5⟩=> ?_
 obtain⟨i,y⟩:=w
 have b1:0<=i:=b1
 have b2:i<=s.length:=b2
 have b3:good P y:=b3
 have b4:y.A1=x.A1:=b4
 have b5:evI s (s.length-i).toNat i y=E:=b5
 have ew:IntKind.i64.wrap (i+1)=i+1:=by rw[IntKind.wrap_i64];omega
 have cc:decide (i<(s.length:Int))=true->(Nat.beq 4 4&&Nat.blt 0 4&&decide (0<=i/\i<((s.length:Nat):Int)))=true:=λh=>by have:=of_decide_eq_true h;simp [Nat.blt];omega
 have uN:decide (i<(s.length:Int))=true->U (s.getD i.toNat (RK.dflt RK.apiEntry)).C4.N:=λh=>by
   have:=of_decide_eq_true h
   rw[Z7x (show i.toNat<s.length by omega)]
   exact hu _ (List.getElem_mem _)
 refine w_ev3 (λh=>cc h) (λh1 h2 h3=> ?_) λhx=> ?_
 . have hi:=of_decide_eq_true h1
   obtain⟨g1,c1⟩:=Qlo b3 (uN h1)
   refine w_an (Zkg b3.v b3.len (uN h1)) (w_lv λx3 e3=>w_nx ?_)
   have e3:x3.1=(Q0p y (s.getD i.toNat (RK.dflt RK.apiEntry)).C4).2:=by rw[e3,b3.app]
   show(0<=IntKind.i64.wrap (i+1)/\IntKind.i64.wrap (i+1)<=s.length/\good P x3.1/\x3.1.A1=x.A1/\evI s (s.length-IntKind.i64.wrap (i+1)).toNat (IntKind.i64.wrap (i+1)) x3.1=E)/\(s.length-IntKind.i64.wrap (i+1)).toNat<(s.length-i).toNat
   rw[ew,e3]
   refine⟨⟨by omega,by omega,g1,by rw[c1];exact b4,?_⟩,by omega⟩
   rw[show(s.length-i).toNat=(s.length-(i+1)).toNat+1 by omega]at b5
   have b5':(bif(decide (i<(s.length:Int))&&(((atI s i).At==y.A1)&&((atI s i).C4.B7 !=1))) then evI s (s.length-(i+1)).toNat (i+1) (Q0p y (atI s i).C4).2 else(i,y))=E:=b5
   rw[show(decide (i<(s.length:Int))&&(((atI s i).At==y.A1)&&((atI s i).C4.B7 !=1)))=true by
     have h1:decide (i<(s.length:Int))=true:=h1
     have h2:((atI s i).At==y.A1)=true:=h2
     have h3:((atI s i).C4.B7 !=1)=true:=h3
     rw[h1,h2,h3];rfl]at b5'
   exact b5'
 have hx:(decide (i<(s.length:Int))&&(((atI s i).At==y.A1)&&((atI s i).C4.B7 !=1)))=false:=hx
 have eE:(i,y)=E:=by
   generalize(s.length-i).toNat=n at b5
   cases n with
   |zero=>exact b5
   | succ n=>
     have b5':(bif(decide (i<(s.length:Int))&&(((atI s i).At==y.A1)&&((atI s i).C4.B7 !=1))) then evI s n (i+1) (Q0p y (atI s i).C4).2 else(i,y))=E:=b5
     rw[hx]at b5';exact b5'
 subst eE
 have R0:Z1w (goI s u k) s i y out=RES:=a6'
 unfold Z1w at R0
 have lo:out.length<=4000:=by omega
 have st:y.A6=false->Q36 y=false->Q0y y=false:=λh1 h2=>(Qrv b3).2 ⟨h1,h2,by omega⟩
 have fin: ∀(c:Int) (j:Int),U c->Q0y y=false->0<=j->j<=s.length->goI s u k j (Q05 y c).2 (out++(Q05 y c).1)=RES->decide (40*(out.length+(Q05 y c).1.length)<=140737488355328)=true/\((0<=j/\j<=s.length/\good P (Q05 y c).2/\(Q05 y c).2.A1<=u/\((out++(Q05 y c).1).length:Int)<=(Q05 y c).2.A1-m.A1/\goI s u (u-(Q05 y c).2.A1).toNat j (Q05 y c).2 (out++(Q05 y c).1)=RES)/\(u-(Q05 y c).2.A1).toNat<(u-x.A1).toNat):=λc j hc hs j1 j2 hr=>by
   obtain⟨g1,c1,l1⟩:=Qg9 b3 hs hc
   refine⟨decide_eq_true (by omega),⟨j1,j2,g1,by omega,by rw[List.length_append];omega,?_⟩,by omega⟩
   rw[show(u-(Q05 y c).2.A1).toNat=k by omega];exact hr
 refine w_br (λhh=>w_lf ?_) λhh=>w_an (xai b3.ok.target.2) (w_lv λx4 e4=> ?_)
 . have hh:y.A6=true:=hh
   rw[hh]at R0
   exact⟨R0,lo,b3.len⟩
 have hh:y.A6=false:=hh
 rw[hh]at R0
 have e4:x4=Q36 y:=(e4.trans b3.idle)
 rw[e4]
 refine w_br (λhi=> ?_) λhi=> ?_
 . have R1:(bif Q36 y then(bif decide (i<(s.length:Int)) then((Qjo,[],0,1303):RunR) else(y,out,i,0)) else _)=RES:=R0
   rw[hi]at R1
   have R1:(bif decide (i<(s.length:Int)) then((Qjo,[],0,1303):RunR) else(y,out,i,0))=RES:=R1
   refine w_br (λhl=>w_lf ?_) λhl=>w_lf ?_
   . have hl:decide (i<(s.length:Int))=true:=hl
     rw[hl]at R1;exact⟨R1,Nat.zero_le _,Nat.zero_le _⟩
   . have hl:decide (i<(s.length:Int))=false:=hl
     rw[hl]at R1;exact⟨R1,lo,b3.len⟩
 have sk:=st hh hi
 have R2:(bif decide (i<(s.length:Int)) then
   (bif((atI s i).At==y.A1)==Q18 y then
     (bif((atI s i).At==y.A1) then goI s u k (i+1) (Q05 y (atI s i).C4.N).2 (out++(Q05 y (atI s i).C4.N).1) else goI s u k i (Q05 y 0).2 (out++(Q05 y 0).1))
   else((Qjo,[],0,1302):RunR))
 else(bif false==Q18 y then goI s u k i (Q05 y 0).2 (out++(Q05 y 0).1) else(Qjo,[],0,1302)))=RES:=by
   have R1:(bif Q36 y then(bif decide (i<(s.length:Int)) then((Qjo,[],0,1303):RunR) else(y,out,i,0)) else _)=RES:=R0
   rw[hi]at R1;exact R1
 clear R0
 have rq: ∀z,z=Q4l y->z=Q18 y:=λz hz=>by rw[hz,Zkw b3.v,show Q1b y=bif Q0y y then false else Q18 y from rfl,sk];rfl
 have bpre: ∀(c:Int),U c->Q62 y c:=λc hc=>(yj b3.v b3.len (clock:=c) hc).1
 have advE: ∀(c:Int) (z:Q00×List Q02),z=Q2v y c->z.2=(Q05 y c).1/\z.1=(Q05 y c).2:=λc z hz=>by rw[hz,b3.step sk];exact⟨rfl,rfl⟩
 have go0:goI s u k i (Q05 y 0).2 (out++(Q05 y 0).1)=RES-> ∀z:Q00×List Q02,z=Q2v y 0->decide (40*(out.length+z.2.length)<=140737488355328)=true/\((0<=i/\i<=s.length/\good P z.1/\z.1.A1<=u/\((out++z.2).length:Int)<=z.1.A1-m.A1/\goI s u (u-z.1.A1).toNat i z.1 (out++z.2)=RES)/\(u-z.1.A1).toNat<(u-x.A1).toNat):=λhr z hz=>by
   obtain⟨z1,z2⟩:=advE 0 z hz
   rw[z1,z2]
   exact fin 0 i U_0 sk b1 b2 hr
 refine w_br (λhl=> ?_) λhl=> ?_
 . have hl:decide (i<(s.length:Int))=true:=hl
   have hi':=of_decide_eq_true hl
   rw[hl]at R2
   have R2:(bif((atI s i).At==y.A1)==Q18 y then
     (bif((atI s i).At==y.A1) then goI s u k (i+1) (Q05 y (atI s i).C4.N).2 (out++(Q05 y (atI s i).C4.N).1) else goI s u k i (Q05 y 0).2 (out++(Q05 y 0).1))
   else((Qjo,[],0,1302):RunR))=RES:=R2
   refine w_cn (cc hl) (w_an (Tree.pp (Zk5 b3.s)).1 (w_lv λx5 e5=> ?_))
   have e5:=rq x5 e5
   rw[e5]
   refine w_br (λhn=>w_lf ?_) λhn=> ?_
   . have hn:=bn3 ((atI s i).At==y.A1) (Q18 y) hn
     rw[hn]at R2
     exact⟨R2,Nat.zero_le _,Nat.zero_le _⟩
   have hn:=bn4 ((atI s i).At==y.A1) (Q18 y) hn
   rw[hn]at R2
   have R2:(bif((atI s i).At==y.A1) then goI s u k (i+1) (Q05 y (atI s i).C4.N).2 (out++(Q05 y (atI s i).C4.N).1) else goI s u k i (Q05 y 0).2 (out++(Q05 y 0).1))=RES:=R2
   refine w_br (λha=>w_cn (cc hl) (w_an (bpre _ (uN hl)) (w_lv λx6 e6=> ?_))) λha=> ?_
   . have ha:((atI s i).At==y.A1)=true:=ha
     rw[ha]at R2
     obtain⟨z1,z2⟩:=advE _ x6 e6
     have F:=fin (atI s i).C4.N (i+1) (uN hl) sk (by omega) (by omega) R2
     refine w_cn (by rw[z1];exact F.1) (w_nx ?_)
     have F2:=F.2
     rw[<-ew]at F2
     show(0<=IntKind.i64.wrap (i+1)/\IntKind.i64.wrap (i+1)<=s.length/\good P x6.1/\x6.1.A1<=u/\((out++x6.2).length:Int)<=x6.1.A1-m.A1/\goI s u (u-x6.1.A1).toNat (IntKind.i64.wrap (i+1)) x6.1 (out++x6.2)=RES)/\(u-x6.1.A1).toNat<(u-x.A1).toNat
     rw[z1,z2];exact F2
   . have ha:((atI s i).At==y.A1)=false:=ha
     rw[ha]at R2
     exact w_an (bpre _ U_0) (w_lv λx7 e7=>w_cn (go0 R2 x7 e7).1 (w_nx (go0 R2 x7 e7).2))
 . have hl:decide (i<(s.length:Int))=false:=hl
   rw[hl]at R2
   have R2:(bif false==Q18 y then goI s u k i (Q05 y 0).2 (out++(Q05 y 0).1) else((Qjo,[],0,1302):RunR))=RES:=R2
   refine w_an (Tree.pp (Zk5 b3.s)).1 (w_lv λx8 e8=> ?_)
   have e8:=rq x8 e8
   rw[e8]
   refine w_br (λhn=>w_lf ?_) λhn=> ?_
   . have hn:=bn3 false (Q18 y) hn
     rw[hn]at R2
     exact⟨R2,Nat.zero_le _,Nat.zero_le _⟩
   have hn:=bn4 false (Q18 y) hn
   rw[hn]at R2
   exact w_an (bpre _ U_0) (w_lv λx7 e7=>w_cn (go0 R2 x7 e7).1 (w_nx (go0 R2 x7 e7).2))
def coreT(m:Q00)(s:List Q0h)(u:Int):Tree Bool:=
 .an (Q7e m s u) (.lv (Qlg m s u) λ(x9:Q00×List Q02×Int×Int)=> .an (Qbm m s u) (.lv (Qp1 m s u) λ(x10:Q00×List Q02×Int×Int)=> .an (Q1t s) (.lv (Q79 s) λ(x11:Bool)=> .an (Q27 s) (.lv (Q78 s) λ(x12:Bool)=> .br (x11==x12) (.an (Qa3 x9.1 x10.1) (.lv (Qki x9.1 x10.1) λ(x13:Bool)=> .br x13 (.an (Q28 x9.2.1 x10.2.1) (.lv (Q4r x9.2.1 x10.2.1) λ(x14:Bool)=> .br x14 (.br (x9.2.2.1==x10.2.2.1) (.br (x9.2.2.2==x10.2.2.2) (.an Q16 (.lv Q29 λ(x15:Bool)=> .lf x15)) (.lf false)) (.lf false)) (.lf false))) (.lf false))) (.lf false)))))
theorem zaI{m:Q00}(hv:okV m){s:List Q0h}(hs:s.length<=100)(hu: ∀e∈s,U e.C4.N){u:Int}(u0:0<=u)(u1:u<18446744073709551616):(coreT m s u).w (λr=>r=true):=by
 have aw:(Tree.an Q16 (.lv Q29 λx=> .lf x)).w (λr=>r=true):=aw13 rfl
 unfold coreT
 refine Q0d (qaI hv hs hu u0 u1) λx9 ⟨h9,l9,n9⟩=>Q0d (xaH hv hs hu u0 u1) λx10 ⟨h10,_⟩=> ?_
 have e:x10=x9:=h10.trans h9.symm
 subst e
 refine w_an (show s.length<=1000000000000 by omega) (w_lv λx11 e11=>w_an (show s.length<=1000000000000 by omega) (w_lv λx12 e12=> ?_))
 have e11:x11=ordB s:=by rw[e11];exact Tree.post _ (Qq9 (by omega))
 have e12:x12=ordB s:=by rw[e12];exact Tree.post _ (Qq6 (by omega))
 rw[e11,e12]
 refine w_br (λ_=> ?_) λh=>by simp at h
 refine Q0d (qah x10.1 (by omega)) λx13 e13=>w_br (λ_=> ?_) λh=>by rw[e13]at h;cases h
 have so:Q4r x10.2.1 x10.2.1=true:=Tree.post _ (vj x10.2.1 (by omega))
 refine w_an (show x10.2.1.length<=1000000000000 by omega) (w_lv λx14 e14=>w_br (λ_=> ?_) λh=>by rw[e14]at h;exact absurd (so.symm.trans h) (by decide))
 exact w_br (λ_=>w_br (λ_=>aw) λh=>by simp at h) λh=>by simp at h
theorem zao{l:List Q0h}(hl:l.length<=1000000000000000):(Qck l).w (λr=>r=true->l.length<=60):=by
 unfold Qck
 refine w_lp (inv:=λv:Int=>0<=v/\v<=l.length) (μ:=Qkh l) ⟨Int.le_refl 0,by omega⟩ (Nat.lt_succ_self _) λv ⟨v1,v2⟩=> ?_
 refine w_br (λhb=> ?_) λ_=>w_lf λh=>by have:=of_decide_eq_true h;omega
 have hb:=of_decide_eq_true hb
 have ew:IntKind.i64.wrap (v+1)=v+1:=by rw[IntKind.wrap_i64];omega
 refine w_cn (by simp [Nat.blt];omega) (w_br (λ_=>w_lf λh=>by cases h) λ_=>w_nx ?_)
 show(0<=IntKind.i64.wrap (v+1)/\IntKind.i64.wrap (v+1)<=l.length)/\(l.length-IntKind.i64.wrap (v+1)).toNat<(l.length-v).toNat
 rw[ew]
 exact⟨⟨by omega,by omega⟩,by omega⟩
theorem xO{l:List Q0h}(hl:l.length<=400)(hu: ∀e∈l,U e.C4.N)(how at0:Int):(Qal l how at0).w (λr=> ∀e∈r,U e.C4.N):=by
 unfold Qal
 refine w_br (λ_=>w_lf hu) λh0=> ?_
 have h0: ¬(l.length:Int)=0:=by simpa using h0
 refine w_cn (decide_eq_true (by omega)) (w_an (Q4y h0) (w_lv λx0 e0=>w_an (Q4y (by decide)) (w_lv λx1 _=> ?_)))
 have rr:=Qe (n:=at0) (k:=(l.length:Int)) (by omega) (by omega)
 rw[<-e0]at rr
 have hlt:x0.toNat<l.length:=by omega
 have ug:U (l.getD x0.toNat (RK.dflt RK.apiEntry)).C4.N:=by rw[Z7x hlt];exact hu _ (List.getElem_mem _)
 have ew:IntKind.i64.wrap (x0+1)=x0+1:=by rw[IntKind.wrap_i64];omega
 have c1:(Nat.beq 4 4&&Nat.blt 0 4&&decide (0<=x0/\x0<(l.length:Int)))=true:=by simp [Nat.blt];omega
 have us: ∀e:Q0h,U e.C4.N-> ∀q∈l.set x0.toNat e,U q.C4.N:=λe he q hq=>by
   rcases List.mem_or_eq_of_mem_set hq with h|h
   . exact hu q h
   . rw[h];exact he
 have ut: ∀(a b c:Nat),∀q∈List.take a l++List.take b (List.drop c l),U q.C4.N:=λa b c q hq=>by
   rcases List.mem_append.1 hq with h|h
   . exact hu q (List.mem_of_mem_take h)
   . exact hu q (List.mem_of_mem_drop (List.mem_of_mem_take h))
 refine w_br (λ_=>w_cn c1 (w_cn c1 (w_lf (us _ ug)))) λ_=>w_br (λ_=>w_cn c1 (w_br (λ_=>w_cn c1 (w_cn c1 (w_lf (us _ ug)))) λ_=>w_lf hu)) λ_=>w_br (λ_=>w_cn ?_ (w_cn ?_ (w_cn ?_ (w_lf (ut _ _ _))))) λ_=>w_br (λ_=>w_cn ?_ (w_cn ?_ (w_cn ?_ (w_lf (ut _ _ _))))) λ_=>w_br (λ_=>Q0d (Zgk at0) λx2 h2=>w_cn c1 (w_lf (us _ h2))) λ_=>w_lf hu
 . simp [Nat.blt];omega
 . rw[ew];simp [Nat.blt];omega
 . refine decide_eq_true ?_
   rw[List.length_take,List.length_take,List.length_drop];omega
 . rw[ew];simp [Nat.blt];omega
 . simp [Nat.blt];omega
 . refine decide_eq_true ?_
   rw[List.length_take,List.length_take,List.length_drop];omega
theorem xao{P:Nat}{a b:Q00}{L:List Q0h}{o:List Q02}(h:Ql3 a L o b): ∀e∈L,U e.C4.N:=by
 induction h with
 |nil=>exact λe he=>by cases he
 |ev h1 h2 h3 h4 ih=>exact λe he=>(List.mem_cons.1 he).elim (λh=>by rw[h];exact h3) (ih e)
 |rd h1 h2 h3 h4 ih=>exact λe he=>(List.mem_cons.1 he).elim (λh=>by rw[h];exact h3) (ih e)
 |st h1 h2 h3 h4 ih=>exact ih
theorem okW.v{m:Q00}(h:okW m):okV m:=⟨h.cpu,h.u,h.disk,h.nic,h.bal,h.cnt⟩
theorem Z61(x:Int):0<=IntKind.wrap .u64 x/\IntKind.wrap .u64 x<18446744073709551616:=by rw[IntKind.wrap_u64];omega
theorem runs(kind:Int)(l acts:List Int)(where0 what how at0:Int){w:Q00}(hw:okV w)(raw:Bool){other:List Q0h}(ho: ∀e∈other,U e.C4.N)(hol:other.length<=1000000000000000)(until0 more:Int)(hl:l.length*8<=reachBytes):
   Qiy kind l acts where0 what how at0 w raw other until0 more/\Qjw kind l acts where0 what how at0 w raw other until0 more=true:=by
 have aw:(Tree.an Q16 (.lv Q29 λx=> .lf x)).w (λr=>r=true):=aw13 rfl
 refine Tree.pp (W:=λr=>r=true) ?_
 unfold Qb
 refine w_lv λx0 h0=>w_br (λ_=>aw) λhb=> ?_
 obtain⟨f1,f2⟩:=xL h0 hb
 refine Q0d (zao hol) λx2 h2=>w_br (λ_=>aw) λhb2=> ?_
 have os:=h2 (by simpa using hb2)
 refine xak hl f1 f2 λm x hm g gc hx _=> ?_
 have R:=recorded g gc f2 hx
 refine Q0d (xO R.len (xao (P:=8) R.tr) how at0) λx6 h6=> ?_
 have bend:=zaB g.ok (by decide) g.ok.cnt where0 what (λk a b=>by show k<=1000000000000;omega)
 have C: ∀{m:Q00} (hv:okV m) {s:List Q0h},s.length<=60->(∀e∈s,U e.C4.N)-> ∀u:Int,(coreT m s (IntKind.wrap .u64 u)).w (λr=>r=true):=λhv s hs hu u=>zaI hv (by omega) hu (Z61 u).1 (Z61 u).2
 have le: ∀{s:List Q0h},decide ((s.length:Int)>60)=false->s.length<=60:=λh=>by have:=of_decide_eq_false h;omega
 refine w_br (λ_=> ?_) λ_=> ?_
 . refine Q0d bend λx7 h7=> ?_
   have k2: ∀h:decide ((other.length:Int)>60)=false,(coreT x7 other (IntKind.wrap .u64 (m.A1+Int.tmod more 400))).w (λr=>r=true):=λh=>C h7.v (le h) ho _
   have t2:=w_br (t:=Tree.an Q16 (.lv Q29 λx=> .lf x)) (c:=decide ((other.length:Int)>60)) (W:=λr=>r=true) (λ_=>aw) k2
   exact w_br (λ_=>w_br (λ_=>w_br (λ_=>w_br (λ_=>aw) λh=>C hw (le h) ho _) λ_=>t2) λ_=>t2) λ_=>t2
 . refine Q0d bend λx7 h7=> ?_
   have k2: ∀h:decide ((x6.length:Int)>60)=false,(coreT x7 x6 (IntKind.wrap .u64 (x.1.A0.A1+Int.tmod more 3))).w (λr=>r=true):=λh=>C h7.v (le h) h6 _
   have t2:=w_br (t:=Tree.an Q16 (.lv Q29 λx=> .lf x)) (c:=decide ((x6.length:Int)>60)) (W:=λr=>r=true) (λ_=>aw) k2
   exact w_br (λ_=>w_br (λ_=>w_br (λ_=>w_br (λ_=>aw) λh=>C hw (le h) h6 _) λ_=>t2) λ_=>t2) λ_=>t2
theorem Q0s{t:STy}{ts:List STy}{es:List D}(h:Fits (t::ts) es): ∃d ds,es=d::ds/\Fit t d/\Fits ts ds:=by
 cases es with
 |nil=>exact absurd h (by simp [Fits])
 |cons d ds=>unfold Fits at h;exact⟨d,ds,rfl,h.1,h.2⟩
theorem Zj5{es:List D}(h:Fits [] es):es=[]:=by
 cases es with
 |nil=>rfl
 |cons d ds=>exact absurd h (by simp [Fits])
theorem u_of{x:Int}(h:IntKind.u32.min<=x/\x<=IntKind.u32.max):U x:=⟨h.1,by have:IntKind.u32.max=4294967295:=rfl;have:=h.2;omega⟩
theorem Zbx{es:List D}(h:Fits [.int .u32, .int .u32, .int .u32, .int .u32, .int .u32, .int .u32, .int .u32, .int .u32, .int .u32, .int .u32, .int .u32, .int .u32, .int .u32, .int .u32, .int .u32, .int .u32, .int .u32, .int .u32, .int .u32, .int .u32, .int .u32, .int .u32, .int .u32, .int .u32, .int .u32, .sl [.int .u32], .str, .bool, .int .u32, .bool, .int .u32, .int .u32, .int .u32, .int .i64, .int .i64, .int .u32, .int .u32, .str, .int .u32, .int .u32, .bool, .int .u32, .bool, .int .u32, .int .u32, .int .u32, .int .u64, .bool, .bool] es): ∃m:Q00,es=m.cells/\okV m/\m.Mem.length*4<=reachBytes:=by
 obtain⟨d0,e0,rfl,h0,H0⟩:=Q0s h
 obtain⟨x0,rfl,b0⟩:=Q1g h0
 obtain⟨d1,e1,rfl,h1,H1⟩:=Q0s H0
 obtain⟨x1,rfl,b1⟩:=Q1g h1
 obtain⟨d2,e2,rfl,h2,H2⟩:=Q0s H1
 obtain⟨x2,rfl,b2⟩:=Q1g h2
 obtain⟨d3,e3,rfl,h3,H3⟩:=Q0s H2
 obtain⟨x3,rfl,b3⟩:=Q1g h3
 obtain⟨d4,e4,rfl,h4,H4⟩:=Q0s H3
 obtain⟨x4,rfl,b4⟩:=Q1g h4
 obtain⟨d5,e5,rfl,h5,H5⟩:=Q0s H4
 obtain⟨x5,rfl,b5⟩:=Q1g h5
 obtain⟨d6,e6,rfl,h6,H6⟩:=Q0s H5
 obtain⟨x6,rfl,b6⟩:=Q1g h6
 obtain⟨d7,e7,rfl,h7,H7⟩:=Q0s H6
 obtain⟨x7,rfl,b7⟩:=Q1g h7
 obtain⟨d8,e8,rfl,h8,H8⟩:=Q0s H7
 obtain⟨x8,rfl,b8⟩:=Q1g h8
 obtain⟨d9,e9,rfl,h9,H9⟩:=Q0s H8
 obtain⟨x9,rfl,b9⟩:=Q1g h9
 obtain⟨d10,e10,rfl,h10,H10⟩:=Q0s H9
 obtain⟨x10,rfl,b10⟩:=Q1g h10
 obtain⟨d11,e11,rfl,h11,H11⟩:=Q0s H10
 obtain⟨x11,rfl,b11⟩:=Q1g h11
 obtain⟨d12,e12,rfl,h12,H12⟩:=Q0s H11
 obtain⟨x12,rfl,b12⟩:=Q1g h12
 obtain⟨d13,e13,rfl,h13,H13⟩:=Q0s H12
 obtain⟨x13,rfl,b13⟩:=Q1g h13
 obtain⟨d14,e14,rfl,h14,H14⟩:=Q0s H13
 obtain⟨x14,rfl,b14⟩:=Q1g h14
 obtain⟨d15,e15,rfl,h15,H15⟩:=Q0s H14
 obtain⟨x15,rfl,b15⟩:=Q1g h15
 obtain⟨d16,e16,rfl,h16,H16⟩:=Q0s H15
 obtain⟨x16,rfl,b16⟩:=Q1g h16
 obtain⟨d17,e17,rfl,h17,H17⟩:=Q0s H16
 obtain⟨x17,rfl,b17⟩:=Q1g h17
 obtain⟨d18,e18,rfl,h18,H18⟩:=Q0s H17
 obtain⟨x18,rfl,b18⟩:=Q1g h18
 obtain⟨d19,e19,rfl,h19,H19⟩:=Q0s H18
 obtain⟨x19,rfl,b19⟩:=Q1g h19
 obtain⟨d20,e20,rfl,h20,H20⟩:=Q0s H19
 obtain⟨x20,rfl,b20⟩:=Q1g h20
 obtain⟨d21,e21,rfl,h21,H21⟩:=Q0s H20
 obtain⟨x21,rfl,b21⟩:=Q1g h21
 obtain⟨d22,e22,rfl,h22,H22⟩:=Q0s H21
 obtain⟨x22,rfl,b22⟩:=Q1g h22
 obtain⟨d23,e23,rfl,h23,H23⟩:=Q0s H22
 obtain⟨x23,rfl,b23⟩:=Q1g h23
 obtain⟨d24,e24,rfl,h24,H24⟩:=Q0s H23
 obtain⟨x24,rfl,b24⟩:=Q1g h24
 obtain⟨d25,e25,rfl,h25,H25⟩:=Q0s H24
 obtain⟨x25,rfl,r25,b25⟩:=Z7b h25
 obtain⟨d26,e26,rfl,h26,H26⟩:=Q0s H25
 obtain⟨x26,rfl,b26⟩:=Zfn h26
 obtain⟨d27,e27,rfl,h27,H27⟩:=Q0s H26
 obtain⟨x27,rfl⟩:=Qll h27
 obtain⟨d28,e28,rfl,h28,H28⟩:=Q0s H27
 obtain⟨x28,rfl,b28⟩:=Q1g h28
 obtain⟨d29,e29,rfl,h29,H29⟩:=Q0s H28
 obtain⟨x29,rfl⟩:=Qll h29
 obtain⟨d30,e30,rfl,h30,H30⟩:=Q0s H29
 obtain⟨x30,rfl,b30⟩:=Q1g h30
 obtain⟨d31,e31,rfl,h31,H31⟩:=Q0s H30
 obtain⟨x31,rfl,b31⟩:=Q1g h31
 obtain⟨d32,e32,rfl,h32,H32⟩:=Q0s H31
 obtain⟨x32,rfl,b32⟩:=Q1g h32
 obtain⟨d33,e33,rfl,h33,H33⟩:=Q0s H32
 obtain⟨x33,rfl,b33⟩:=Q1g h33
 obtain⟨d34,e34,rfl,h34,H34⟩:=Q0s H33
 obtain⟨x34,rfl,b34⟩:=Q1g h34
 obtain⟨d35,e35,rfl,h35,H35⟩:=Q0s H34
 obtain⟨x35,rfl,b35⟩:=Q1g h35
 obtain⟨d36,e36,rfl,h36,H36⟩:=Q0s H35
 obtain⟨x36,rfl,b36⟩:=Q1g h36
 obtain⟨d37,e37,rfl,h37,H37⟩:=Q0s H36
 obtain⟨x37,rfl,b37⟩:=Zfn h37
 obtain⟨d38,e38,rfl,h38,H38⟩:=Q0s H37
 obtain⟨x38,rfl,b38⟩:=Q1g h38
 obtain⟨d39,e39,rfl,h39,H39⟩:=Q0s H38
 obtain⟨x39,rfl,b39⟩:=Q1g h39
 obtain⟨d40,e40,rfl,h40,H40⟩:=Q0s H39
 obtain⟨x40,rfl⟩:=Qll h40
 obtain⟨d41,e41,rfl,h41,H41⟩:=Q0s H40
 obtain⟨x41,rfl,b41⟩:=Q1g h41
 obtain⟨d42,e42,rfl,h42,H42⟩:=Q0s H41
 obtain⟨x42,rfl⟩:=Qll h42
 obtain⟨d43,e43,rfl,h43,H43⟩:=Q0s H42
 obtain⟨x43,rfl,b43⟩:=Q1g h43
 obtain⟨d44,e44,rfl,h44,H44⟩:=Q0s H43
 obtain⟨x44,rfl,b44⟩:=Q1g h44
 obtain⟨d45,e45,rfl,h45,H45⟩:=Q0s H44
 obtain⟨x45,rfl,b45⟩:=Q1g h45
 obtain⟨d46,e46,rfl,h46,H46⟩:=Q0s H45
 obtain⟨x46,rfl,b46⟩:=Q1g h46
 obtain⟨d47,e47,rfl,h47,H47⟩:=Q0s H46
 obtain⟨x47,rfl⟩:=Qll h47
 obtain⟨d48,e48,rfl,h48,H48⟩:=Q0s H47
 obtain⟨x48,rfl⟩:=Qll h48
 obtain rfl:=Zj5 H48
 refine⟨⟨⟨⟨x0,x1,x2,x3,x4,x5,x6,x7,x8,x9,x10,x11,x12,x13,x14,x15⟩,x16,⟨x17,x18,x19,x20,x21,x22,x23,x24⟩⟩,x25,⟨x26⟩,⟨x27,x28,x29⟩,⟨x30,x31,x32,x33,x34,x35,x36,x37⟩,⟨x38,x39,x40,x41,x42,x43⟩,⟨x44,x45⟩,x46,x47,x48⟩,rfl,⟨⟨?_,u_of b16,?_⟩,λw hw=>u_of (b25 w hw),⟨u_of b31,u_of b32,u_of b35,u_of b36⟩,⟨u_of b38,u_of b39,u_of b41,u_of b43⟩,⟨u_of b44,u_of b45⟩,b46.1⟩,r25⟩
 . intro w hw
   have hw:w∈[x0,x1,x2,x3,x4,x5,x6,x7,x8,x9,x10,x11,x12,x13,x14,x15]:=hw
   simp only[List.mem_cons,List.not_mem_nil,or_false]at hw
   rcases hw with rfl|rfl|rfl|rfl|rfl|rfl|rfl|rfl|rfl|rfl|rfl|rfl|rfl|rfl|rfl|rfl
   . exact u_of b0
   . exact u_of b1
   . exact u_of b2
   . exact u_of b3
   . exact u_of b4
   . exact u_of b5
   . exact u_of b6
   . exact u_of b7
   . exact u_of b8
   . exact u_of b9
   . exact u_of b10
   . exact u_of b11
   . exact u_of b12
   . exact u_of b13
   . exact u_of b14
   . exact u_of b15
 . intro w hw
   have hw:w∈[x17,x18,x19,x20,x21,x22,x23,x24]:=hw
   simp only[List.mem_cons,List.not_mem_nil,or_false]at hw
   rcases hw with rfl|rfl|rfl|rfl|rfl|rfl|rfl|rfl
   . exact u_of b17
   . exact u_of b18
   . exact u_of b19
   . exact u_of b20
   . exact u_of b21
   . exact u_of b22
   . exact u_of b23
   . exact u_of b24
theorem Zlc{es:List D}(h:Fits [.int .i64, .int .u32, .str] es): ∃e:Q0f,es=e.cells/\U e.N:=by
 obtain⟨d0,e0,rfl,h0,H0⟩:=Q0s h
 obtain⟨x0,rfl,b0⟩:=Q1g h0
 obtain⟨d1,e1,rfl,h1,H1⟩:=Q0s H0
 obtain⟨x1,rfl,b1⟩:=Q1g h1
 obtain⟨d2,e2,rfl,h2,H2⟩:=Q0s H1
 obtain⟨x2,rfl,b2⟩:=Zfn h2
 obtain rfl:=Zj5 H2
 exact⟨⟨x0,x1,x2⟩,rfl,u_of b1⟩
theorem Sub1.gens{k:RK}{es:List (List D)}{fr:Bool}{l:List (RK.T k)}(h:es=l.map (RK.cells k)):Sub1 (.sl k.size (.gen es) fr) (.sl k.size (.recs k l) false):=by
 intro c w v hv
 obtain⟨a,cap,hv,hc,hes⟩:=hv
 have he:(Els.gen es).l=(Els.recs k l).l:=by subst h;rfl
 rw[he]at hv hc hes
 refine⟨a,cap,hv,hc,?_⟩
 rcases hes with hes|⟨b,off,arr,ty,fz,ha,hI,hf,hh,hE⟩
 . exact .inl hes
 . exact .inr ⟨b,off,arr,ty,fz,ha,hI,(λe=>by cases e),hh,hE⟩
theorem SubL.rfl: ∀{l:List D},SubL l l
 |[]=>trivial
 |_::_=>⟨Sub1.rfl,SubL.rfl⟩
theorem Ze9{es:List (List D)}(h: ∀e∈es,Fits [.int .u64, .int .i64, .int .u32, .str] e): ∃l:List Q0h,es=l.map Q0h.cells/\ ∀e∈l,U e.C4.N/\0<=e.At/\e.At<=18446744073709551615:=by
 induction es with
 |nil=>exact⟨[],rfl,λe he=>by cases he⟩
 | cons x es ih=>
   obtain⟨l,h1,h2⟩:=ih (λe he=>h e (by simp [he]))
   obtain⟨d0,e0,rfl,h0,H0⟩:=Q0s (h x (by simp))
   obtain⟨x0,rfl,b0⟩:=Q1g h0
   obtain⟨e,he,hu⟩:=Zlc H0
   refine⟨⟨x0,e⟩::l,by rw[h1,he];rfl,λq hq=> ?_⟩
   rcases List.mem_cons.1 hq with hq|hq
   . rw[hq];exact⟨hu,b0.1,b0.2⟩
   . exact h2 q hq
theorem Zfx{d:D}(h:Fit (.sl [.int .u64, .int .i64, .int .u32, .str]) d): ∃l:List Q0h,SubV d (.sl 4 (.recs .apiEntry l) false)/\l.length<=1000000000000000/\ ∀e∈l,U e.C4.N:=by
 unfold Fit at h
 obtain⟨es,rfl,hl,h⟩:=h
 obtain⟨l,rfl,hu⟩:=Ze9 h
 refine⟨l,Sub1.gens (k:= .apiEntry) rfl,?_,λe he=>(hu e he).1⟩
 rw[List.length_map]at hl
 have hl:=Nat.le_trans (Nat.le_mul_of_pos_right l.length (by decide)) hl
 unfold reachBytes at hl;omega
end Go.Proofs.YtjaifpiopmhmlaaGreat

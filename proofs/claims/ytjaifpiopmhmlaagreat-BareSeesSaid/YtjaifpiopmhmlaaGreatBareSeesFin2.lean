/-
  A part of the proof.
-/
import Derived.Test.YtjaifpiopmhmlaaGreatBareSeesLaws2
import Derived.Test.YtjaifpiopmhmlaaGreatBareSeesNewsB
import Derived.Test.YtjaifpiopmhmlaaGreatBareSeesZg
import Derived.Test.YtjaifpiopmhmlaaGreatBareSeesZt
import Derived.Test.YtjaifpiopmhmlaaGreatBareSeesCk
import Derived.Test.YtjaifpiopmhmlaaGreatBareSeesLaw
set_option maxRecDepth 100000
set_option linter.all false
namespace Go.Proofs.YtjaifpiopmhmlaaGreat
open Go Go.GD
theorem vG(i:Q0i):U (Q1e i).1:=by
 refine Tree.post (Qgh i) (W:=λr=>U r.1) ?_
 unfold Qgh
 exact w_lv λ_ _=>w_br (λ_=>U_0) (λ_=>U_or _ _)
theorem zd(l:List Int)(hl:l.length*8<=reachBytes):(Qia l).w (λr=>(r.length:Int)=l.length/\ ∀w∈r,U w):=by
 have hl':l.length*8<=140737488351232:=hl
 have app: ∀{r:List Int} {x:Int},(∀w∈r,U w)->U x-> ∀w∈r++[x],U w:=λhr hx w hw=>by
   rw[List.mem_append]at hw
   rcases hw with hw|hw
   . exact hr w hw
   . rw[List.mem_singleton.1 hw];exact hx
 unfold Qia
 refine w_lp (inv:=λz=>Qq9 l z/\ ∀w∈z.2,U w) (μ:=Qbl l) ⟨⟨by omega,by simp,by simp⟩,by simp⟩ (Nat.lt_succ_self _) (λv0 hv=> ?_)
 obtain⟨⟨h1,h2,h3⟩,h4⟩:=hv
 refine w_br (λh=> ?_) (λh=> ?_)
 . have h:=of_decide_eq_true h
   have next: ∀x:Int,U x->(Qq9 l (IntKind.wrap IntKind.i64 (v0.1+1),v0.2++[x])/\ ∀w∈v0.2++[x],U w)/\Qbl l (IntKind.wrap IntKind.i64 (v0.1+1),v0.2++[x])<Qbl l v0:=λx hx=>by
     have hw:IntKind.i64.wrap (v0.1+1)=v0.1+1:=by rw[IntKind.wrap_i64];omega
     rw[hw]
     refine⟨⟨⟨?_,?_,?_⟩,app h4 hx⟩,?_⟩
     . show 0<=v0.1+1;omega
     . show v0.1+1<=l.length;omega
     . show((v0.2++[x]).length:Int)=v0.1+1;simp;omega
     . show(l.length-(v0.1+1)).toNat<(l.length-v0.1).toNat;omega
   have hb:(Nat.beq 1 1&&Nat.blt 0 1&&decide (0<=v0.1/\v0.1<(l.length:Int)))=true:=by simp [Nat.blt];omega
   have hc:decide (4*(v0.2.length+1)<=140737488355328)=true:=decide_eq_true (by omega)
   exact w_cn hb (w_br (λ_=>w_cn hb (w_cn hc (next _ (Q0q _)))) (λ_=>w_cn hb (w_an (zU _) (w_lv λx0 _=>w_lv λx1 hx=>w_cn hc (next _ (by rw[hx];exact vG _))))))
 . have h:=of_decide_eq_false h
   exact⟨by show(v0.2.length:Int)=l.length;omega,h4⟩
theorem Qtb(steps:Int):0<=Q11 steps/\Q11 steps<=4000:=by
 refine Tree.post (Qci steps) (W:=λr=>0<=r/\r<=4000) ?_
 unfold Qci
 refine w_lf ?_
 constructor<;>(repeat' split)<;>omega
theorem Zaj{P:Nat}{r:Q01}(h:okR P r)(steps:Int){clock:Int}(hc:U clock)(hl:r.C6.length<=900000)(hq:r.A4.length<=1000)(hu: ∀q∈r.A4,U q.N):
    (Q5a r steps clock).w (λx=>okR P x.1/\x.1.C6.length<=r.C6.length+r.A4.length+8000/\(x.1.A4=r.A4\/x.1.A4=[])/\x.2.length<=4000):=by
  unfold Q5a
  refine Q0c (own_w h (by omega) (by omega)) λx0 hx=> ?_
  obtain⟨k1,k2,k3⟩:=hx
  refine w_lv λx1 _=>w_br (λ_=>⟨k1,by rw[k2];omega, .inl k3,Nat.zero_le _⟩) (λ_=> ?_)
  have hcl:U (if clock>x0.A9 then clock else x0.A9):=by split<;>first|exact hc|exact k1.clock
  refine w_lp (inv:=λz=>0<=z.1/\z.1<=r.A4.length/\okR P z.2/\(z.2.C6.length:Int)<=r.C6.length+z.1/\z.2.A4=r.A4) (μ:=Qat r steps clock) ⟨by omega,by omega,⟨k1.m,hcl⟩,by rw[k2];omega,k3⟩ (Nat.lt_succ_self _) (λz hz=> ?_)
  obtain⟨z1,z2,z3,z4,z5⟩:=hz
  refine w_br (λhb=> ?_) (λhb=> ?_)
  . have hb:=of_decide_eq_true hb
    rw[z5]at hb
    have hm:(z.2.A4.getD z.1.toNat (RK.dflt RK.apiEvent))∈r.A4:=by
      rw[z5]
      have hlt:z.1.toNat<r.A4.length:=by omega
      rw[List.getD_eq_getElem?_getD,List.getElem?_eq_getElem hlt]
      exact List.getElem_mem hlt
    refine w_cn (by rw[z5];simp [Nat.blt];omega) (Q0c (qx z3 (hu _ hm) (by omega)) λx hx=>w_nx ?_)
    obtain⟨a1,a2,a3⟩:=hx
    show(0<=IntKind.i64.wrap (z.1+1)/\IntKind.i64.wrap (z.1+1)<=r.A4.length/\okR P x/\(x.C6.length:Int)<=r.C6.length+IntKind.i64.wrap (z.1+1)/\x.A4=r.A4)/\(x.A4.length-IntKind.i64.wrap (z.1+1)).toNat<(z.2.A4.length-z.1).toNat
    have ew:IntKind.i64.wrap (z.1+1)=z.1+1:=by rw[IntKind.wrap_i64];omega
    rw[ew,a3,z5]
    exact⟨⟨by omega,by omega,a1,by omega,rfl⟩,by omega⟩
  . refine w_lp (inv:=λy=>0<=y.1/\y.1<=4000/\okR P y.2.1/\(y.2.1.C6.length:Int)<=r.C6.length+r.A4.length+2*y.1/\y.2.1.A4=[]/\(y.2.2.length:Int)<=y.1) (μ:=Q55 r steps clock z) ⟨by omega,by omega,⟨z3.m,z3.clock⟩,by simp;omega,rfl,by simp⟩ (Nat.lt_succ_self _) (λy hy=> ?_)
    obtain⟨y1,y2,y3,y4,y5,y6⟩:=hy
    have ew:IntKind.i64.wrap (y.1+1)=y.1+1:=by rw[IntKind.wrap_i64];omega
    refine w_lv λx3 hx3=>w_br (λhb=> ?_) (λ_=>⟨y3,by show y.2.1.C6.length<=_;omega, .inr y5,by show y.2.2.length<=_;omega⟩)
    have hb:=of_decide_eq_true hb
    have lim:=(Qtb steps).2
    rw[<-hx3]at lim
    refine w_lv λx4 _=>w_br (λ_=>Q0c (qx (e:=⟨_,_,_⟩) y3 U_0 (by omega)) λx5 h5=> ?_) (λ_=> ?_)
    . obtain⟨q1,q2,q3⟩:=h5
      have q3:=q3.trans y5
      refine Q0c (Zfk _) λs1 _=>w_br (λ_=>⟨q1,by show x5.C6.length<=_;omega, .inr q3,by show y.2.2.length<=_;omega⟩) (λ_=>Q0c (Qw3 q1.m.cpu q1.m.mem) λs2 _=>w_br (λ_=>w_cn (decide_eq_true (by omega)) (Q0c (Qrd (r:=⟨x5.A0,x5.A9,x5.C6++[_],x5.A4⟩) ⟨q1.m,q1.clock⟩ q1.clock) λo ho=> ?_)) (λ_=>Q0c (Qrd q1 q1.clock) λo ho=> ?_))
      . obtain⟨a1,⟨⟨a2,a3⟩,a4,a5⟩⟩:=ho
        have e4:o.2.C6.length=x5.C6.length+1:=by rw[a4];simp
        have a5:o.2.A4=[]:=a5.trans q3
        refine w_cn (decide_eq_true (by omega)) (w_nx ?_)
        show(0<=IntKind.i64.wrap (y.1+1)/\IntKind.i64.wrap (y.1+1)<=4000/\okR P _/\(o.2.C6.length:Int)<=r.C6.length+r.A4.length+2*IntKind.i64.wrap (y.1+1)/\o.2.A4=[]/\((y.2.2++o.1).length:Int)<=IntKind.i64.wrap (y.1+1))/\(4000-IntKind.i64.wrap (y.1+1)).toNat<(4000-y.1).toNat
        rw[ew,a5,List.length_append]
        exact⟨⟨by omega,by omega,⟨a2,Q0q _⟩,by omega,rfl,by omega⟩,by omega⟩
      . obtain⟨a1,⟨⟨a2,a3⟩,a4,a5⟩⟩:=ho
        have e4:o.2.C6.length=x5.C6.length:=by rw[a4]
        have a5:o.2.A4=[]:=a5.trans q3
        refine w_cn (decide_eq_true (by omega)) (w_nx ?_)
        show(0<=IntKind.i64.wrap (y.1+1)/\IntKind.i64.wrap (y.1+1)<=4000/\okR P _/\(o.2.C6.length:Int)<=r.C6.length+r.A4.length+2*IntKind.i64.wrap (y.1+1)/\o.2.A4=[]/\((y.2.2++o.1).length:Int)<=IntKind.i64.wrap (y.1+1))/\(4000-IntKind.i64.wrap (y.1+1)).toNat<(4000-y.1).toNat
        rw[ew,a5,List.length_append]
        exact⟨⟨by omega,by omega,⟨a2,Q0q _⟩,by omega,rfl,by omega⟩,by omega⟩
    . refine Q0c (Zfk _) λs1 _=>w_br (λ_=>⟨y3,by show y.2.1.C6.length<=_;omega, .inr y5,by show y.2.2.length<=_;omega⟩) (λ_=>Q0c (Qw3 y3.m.cpu y3.m.mem) λs2 _=>w_br (λ_=>w_cn (decide_eq_true (by omega)) (Q0c (Qrd (r:=⟨y.2.1.A0,y.2.1.A9,y.2.1.C6++[_],y.2.1.A4⟩) ⟨y3.m,y3.clock⟩ y3.clock) λo ho=> ?_)) (λ_=>Q0c (Qrd y3 y3.clock) λo ho=> ?_))
      . obtain⟨a1,⟨⟨a2,a3⟩,a4,a5⟩⟩:=ho
        have e4:o.2.C6.length=y.2.1.C6.length+1:=by rw[a4];simp
        have a5:o.2.A4=[]:=a5.trans y5
        refine w_cn (decide_eq_true (by omega)) (w_nx ?_)
        show(0<=IntKind.i64.wrap (y.1+1)/\IntKind.i64.wrap (y.1+1)<=4000/\okR P _/\(o.2.C6.length:Int)<=r.C6.length+r.A4.length+2*IntKind.i64.wrap (y.1+1)/\o.2.A4=[]/\((y.2.2++o.1).length:Int)<=IntKind.i64.wrap (y.1+1))/\(4000-IntKind.i64.wrap (y.1+1)).toNat<(4000-y.1).toNat
        rw[ew,a5,List.length_append]
        exact⟨⟨by omega,by omega,⟨a2,Q0q _⟩,by omega,rfl,by omega⟩,by omega⟩
      . obtain⟨a1,⟨⟨a2,a3⟩,a4,a5⟩⟩:=ho
        have e4:o.2.C6.length=y.2.1.C6.length:=by rw[a4]
        have a5:o.2.A4=[]:=a5.trans y5
        refine w_cn (decide_eq_true (by omega)) (w_nx ?_)
        show(0<=IntKind.i64.wrap (y.1+1)/\IntKind.i64.wrap (y.1+1)<=4000/\okR P _/\(o.2.C6.length:Int)<=r.C6.length+r.A4.length+2*IntKind.i64.wrap (y.1+1)/\o.2.A4=[]/\((y.2.2++o.1).length:Int)<=IntKind.i64.wrap (y.1+1))/\(4000-IntKind.i64.wrap (y.1+1)).toNat<(4000-y.1).toNat
        rw[ew,a5,List.length_append]
        exact⟨⟨by omega,by omega,⟨a2,Q0q _⟩,by omega,rfl,by omega⟩,by omega⟩
section
variable {P:Nat} {m:Q00} (h:okM P m)
include h
theorem min_w(port:Int){clock:Int}(hc:U clock):(Qjy m port clock).w (λx=>U x.1/\okM P x.2/\x.2.A3=m.A3):=by
 have k:=(⟨h,rfl⟩:okM P m/\m.A3=m.A3)
 obtain⟨h1,h2,h3,h4,h5,h7⟩:=h
 unfold Qjy
 exact w_br (λ_=>w_lv λx hx=>⟨hx▸Z1a _ _,⟨⟨h1,h2,h3,h4,h5,h7⟩,rfl⟩⟩) (λ_=>w_br (λ_=>⟨hc,k⟩) (λ_=>w_br (λ_=>w_lv λx hx=>⟨hx▸Zd3 _,k⟩) (λ_=>w_br (λ_=>w_lv λx hx=>⟨hx▸Zi0 h3 _,k⟩) (λ_=>w_br (λ_=>w_lv λx hx=>⟨hx▸vw h4 _,k⟩) (λ_=>w_lv λx hx=>⟨hx▸Qyq h5.1 _,k⟩)))))
theorem qaD(port:Int){v:Int}(hv:U v):(Qa1 m port v).w (λx=>x.1.length<=1/\okM P x.2/\x.2.A3=m.A3):=by
 have k:=(⟨h,rfl⟩:okM P m/\m.A3=m.A3)
 obtain⟨h1,h2,h3,h4,h5,h7⟩:=h
 unfold Qa1
 exact w_br (λ_=>⟨Nat.le_refl _,k⟩) (λ_=>w_br (λ_=>⟨Nat.zero_le _,k⟩) (λ_=>w_br (λ_=>w_lv λ_ _=>⟨Nat.zero_le _,⟨⟨h1,h2,h3,h4,h5,h7⟩,rfl⟩⟩) (λ_=>w_br (λ_=>Q0c (Zac h2 h3 _ hv _) λx hx=>⟨hx.2,⟨⟨h1,h2,hx.1,h4,h5,h7⟩,rfl⟩⟩) (λ_=>w_br (λ_=>Q0c (Zic h2 h4 _ hv _) λx hx=>⟨hx.2,⟨⟨h1,h2,h3,hx.1,h5,h7⟩,rfl⟩⟩) (λ_=>Q0c (z6 h2 h5 _ hv) λx hx=>⟨Nat.zero_le _,⟨⟨h1,hx.2,h3,h4,hx.1,h7⟩,rfl⟩⟩)))))
theorem Z4f{clock:Int}(hc:U clock):(Q83 m clock).w (λx=>x.1.length<=1/\okM P x.2/\x.2.A3=IntKind.wrap .u64 (m.A3+1)):=by
 obtain⟨h1,h2,h3,h4,h5,h7⟩:=h
 unfold Q83
 refine Q0c (Qlm h1) λx0 c0=>Q0c (do_w c0 h2) λx1 hx=> ?_
 obtain⟨c1,v1,m1⟩:=hx
 refine w_br (λ_=>Zcz (min_w (m:=⟨_,_,_,_,_,_,_,_,_,_⟩) ⟨c1,m1,h3,h4,h5,h7⟩ _ hc) λx2 hx=> ?_) (λ_=>w_br (λ_=>Q0c (qaD (m:=⟨_,_,_,_,_,_,_,_,_,_⟩) ⟨c1,m1,h3,h4,h5,h7⟩ _ v1) λx4 hx=> ?_) (λ_=> ?_))
 . obtain⟨u,⟨k1,k2,k3,k4,k5,k7⟩,k6⟩:=hx
   exact Q0c (Z3b k1 _ u) λx3 h3=>⟨Nat.zero_le _,⟨h3,k2,k3,k4,k5,w0 _⟩,congrArg (λn=>IntKind.wrap .u64 (n+1)) k6⟩
 . obtain⟨u,⟨k1,k2,k3,k4,k5,k7⟩,k6⟩:=hx
   exact⟨u,⟨k1,k2,k3,k4,k5,w0 _⟩,congrArg (λn=>IntKind.wrap .u64 (n+1)) k6⟩
 . repeat'(first
     |exact⟨Nat.zero_le _,⟨c1,m1,h3,h4,h5,w0 _⟩,rfl⟩
     |refine w_br (λ_=> ?_) (λ_=> ?_))
theorem zV:(Qbh m).w (λx=>okM P x/\x.A3=m.A3):=by
 obtain⟨h1,h2,h3,h4,h5,h7⟩:=h
 unfold Qbh
 exact Q0c (qZ h2) λx hx=>⟨⟨h1,by rw[hx];exact h2,h3,h4,h5,h7⟩,rfl⟩
end
theorem U_all(n:Nat): ∀w∈List.replicate n (0:Int),U w:=λw hw=>by rw[(List.mem_replicate.1 hw).2];exact U_0
theorem zad:okM 0 ⟨⟨⟨0,0,0,0,0,0,0,0,0,0,0,0,0,0,0,0⟩,0,⟨0,0,0,0,0,0,0,0⟩⟩,[],⟨[]⟩,⟨false,0,false⟩,⟨0,0,0,0,0,0,0,[]⟩,⟨0,0,false,0,false,0⟩,⟨0,0⟩,0,false,false⟩:=
 ⟨⟨U_all 16,U_0,U_all 8⟩,⟨rfl,by omega,by omega,λw hw=>by cases hw⟩,⟨U_0,U_0,U_0,U_0⟩,⟨U_0,U_0,U_0,U_0⟩,⟨U_0,U_0⟩,by decide⟩
theorem Zir{P:Nat}{m:Q00}(h:okM P m)(hc:0<=m.A3):(Q8q m [] 87).w (λx=> ∃Q,okM Q x.1):=by
 have z: ∃Q,okM Q _:=⟨0,zad⟩
 unfold Q8q
 refine w_lv λx0 _=>w_br (λ_=>z) λ_=>w_br (λ_=>z) λ_=>w_br (λ_=>z) λ_=>w_an (show Q7x [] by show([]:List Q0w).length<=1000000000000;decide) (w_lv λx1 _=>w_br (λ_=>z) λ_=>Q0c (zV h) λx2 hx=> ?_)
 refine w_lp (inv:=λv:Q00×List Q02=>okM P v.1/\0<=v.1.A3/\v.2.length+(87-v.1.A3).toNat<=87) (μ:=Qfj m [] 87) ⟨hx.1,by rw[hx.2];exact hc,by rw[hx.2];show 0+_<=87;omega⟩ (Nat.lt_succ_self _) λv0 ⟨a1,a2,a3⟩=> ?_
 refine w_br (λhb=>w_br (λ_=> ?_) (λ_=>⟨P,a1⟩)) (λ_=>⟨P,a1⟩)
 have hb:=of_decide_eq_true hb
 refine w_lp (inv:=λ_=>True) (μ:=Qfe m [] 87 v0) trivial (Nat.lt_succ_self _) λv1 _=> ?_
 refine w_br (λ_=>⟨P,a1⟩) λ_=>Q0c (yZ _) λx3 _=>w_br (λ_=>⟨P,a1⟩) λ_=>Q0c (yw a1.cpu a1.mem) λx4 _=>w_br (λ_=>z) λ_=>Q0c (Z4f a1 U_0) λx5 h5=> ?_
 obtain⟨b1,b2,b3⟩:=h5
 refine w_cn (decide_eq_true (by omega)) (w_nx ?_)
 have e:x5.2.A3=v0.1.A3+1:=by rw[b3,IntKind.wrap_u64];omega
 show(_/\_/\_)/\(_:Nat)<_
 refine⟨⟨b2,by show 0<=x5.2.A3;omega,by show(v0.2++x5.1).length+(87-x5.2.A3).toNat<=87;rw[List.length_append];omega⟩,by show(87-x5.2.A3).toNat<(87-v0.1.A3).toNat;omega⟩
set_option synthInstance.maxHeartbeats 2000000
set_option synthInstance.maxSize 100000
noncomputable section
instance qH (src:(List UInt8)):Ck (Qji src):=ckT (t:=Qek src) (by delta Qek;infer_instance)
instance zC (s:(List UInt8)):Ck (Qii s):=ckT (t:=Qc5 s) (by delta Qc5;infer_instance)
instance yC (n:Int):Ck (Q2z n):=let d:Decidable (Q2z n):=(by delta Q2z;infer_instance);⟨@decide _ d,@of_decide_eq_true _ d⟩
instance yd (n:Int):Ck (Qft n):=ckT (t:=Q6b n) (by delta Q6b;infer_instance)
instance xad (r:Int):Ck (Qnm r):=ckT (t:=Qd5 r) (by delta Qd5;infer_instance)
instance yV (s:(List UInt8)):Ck (Qg3 s):=ckT (t:=Qi0 s) (by delta Qi0;infer_instance)
instance Zm0 (op:Int):Ck (Qdg op):=ckT (t:=Q9e op) (by delta Q9e;infer_instance)
instance Zjz (s:(List UInt8)):Ck (Q2v s):=ckT (t:=Q7y s) (by delta Q7y;infer_instance)
instance vd (what:(List UInt8)):Ck (Q5o what):=ckT (t:=Qab what) (by delta Qab;infer_instance)
instance vC (s:(List UInt8)):Ck (Qhp s):=ckT (t:=Qc2 s) (by delta Qc2;infer_instance)
instance qe (l:(List Q0g)) (p:(List UInt8)):Ck (Q5p l p):=ckT (t:=Qae l p) (by delta Qae;infer_instance)
instance qD (s:(List UInt8)):Ck (Qid s):=ckT (t:=Qcm s) (by delta Qcm;infer_instance)
instance xe (l:(List Q21)) (label:(List UInt8)):Ck (Q35 l label):=let d:Decidable (Q35 l label):=(by delta Q35;infer_instance);⟨@decide _ d,@of_decide_eq_true _ d⟩
instance vV (src:(List UInt8)):Ck (Qlr src):=ckT (t:=Qhk src) (by delta Qhk;infer_instance)
instance qW (st:Q09) (v:Int):Ck (Qa0 st v):=ckT (t:=Qie st v) (by delta Qie;infer_instance)
instance Zm (src:(List UInt8)):Ck (Q9n src):=ckT (t:=Q8u src) (by delta Q8u;infer_instance)
theorem qae:Q9n ((108:UInt8)::(tblZe0++Z6++(Z59++Z6n)++(Z64++Z5f++(Z55++Z4k))++(Z6i++Z5a++(Qvj++Quc)++(Qu1++Qug++(Qu7++Qu4))))):=ck inferInstance (by kernel_rfl)
def inU(x:Int):Bool:=decide (0<=x)&&decide (x<4294967296)
theorem zae(l:List Int)(h:(Nat.ble l.length 160&&List.all l inU)=true):l.length<=160/\ ∀w∈l,U w:=by
 rw[Bool.and_eq_true]at h
 refine⟨Nat.le_of_ble_eq_true h.1,λw hw=> ?_⟩
 have:=List.all_eq_true.1 h.2 w hw
 simp only[inU,Bool.and_eq_true,decide_eq_true_eq]at this
 exact this
theorem ye:(Q12 (List.append (List.append (List.append (List.append Z6z Z6) (List.append Z59 Z6n)) (List.append (List.append Z64 Z5f) (List.append Z55 Z4k))) (List.append (List.append (List.append Z6i Z5a) (List.append Qvj Quc)) (List.append (List.append Qu1 Qug) (List.append Qu7 Qu4))))).1.length<=160/\ ∀w∈(Q12 (List.append (List.append (List.append (List.append Z6z Z6) (List.append Z59 Z6n)) (List.append (List.append Z64 Z5f) (List.append Z55 Z4k))) (List.append (List.append (List.append Z6i Z5a) (List.append Qvj Quc)) (List.append (List.append Qu1 Qug) (List.append Qu7 Qu4))))).1,U w:=zae _ (by kernel_rfl)
end
theorem new_w(i:List Int)(hu: ∀w∈i,U w)(hl:i.length<=256):(Q86 8 4 i).w (λx=>okM 8 x.1/\x.1.A3=0):=by
 unfold Q86
 refine w_br (λh=>absurd h (by decide)) λ_=>w_br (λh=>absurd h (by decide)) λ_=>w_br (λh=>absurd h (by decide)) λ_=>w_br (λh=>absurd h (by decide)) λ_=>w_br (λh=> ?_) λ_=>w_lv λx0 e0=>w_an (Zbr _) (w_lv λx1 e1=> ?_)
 . have h:=of_decide_eq_true h
   rw[show IntKind.i64.wrap (8*32)=256 by decide]at h
   omega
 have hx:x1=List.replicate 256 0:=by rw[e1];kernel_rfl
 have c0:Q2e x0:=by rw[e0];exact⟨by
   intro w hw
   simp only[Qom,Qj4,Tree.m,A16.l,List.mem_cons,List.not_mem_nil,or_false,or_self]at hw
   rw[hw];exact U_0,U_0,by
   intro w hw
   simp only[Qom,Qj4,Tree.m,A8.l,List.mem_cons,List.not_mem_nil,or_false,or_self]at hw
   rcases hw with rfl|rfl
   . exact⟨by omega,by omega⟩
   . exact U_0⟩
 have hz: ∀w∈x1,U w:=by rw[hx];exact U_all 256
 have hn:x1.length=256:=by rw[hx,List.length_replicate]
 refine⟨⟨c0,⟨?_,by omega,by omega,λw hw=> ?_⟩,⟨U_0,U_0,U_0,U_0⟩,⟨U_0,U_0,U_0,U_0⟩,⟨U_0,U_0⟩,Int.le_refl _⟩,rfl⟩
 . simp only[List.length_append,List.length_take,List.length_drop,hn];omega
 . rcases List.mem_append.1 hw with h1|h1
   . exact hu w (List.mem_of_mem_take h1)
   . exact hz w (List.mem_of_mem_drop h1)
theorem qf(kind:Int)(l:List Int)(hl:l.length*8<=reachBytes):(Q6c kind l).w (λx=> ∃Q,okM Q x):=by
  have hl':l.length*8<=140737488351232:=hl
  unfold Q6c
  refine w_an (Qh5 (by decide)) (w_lv λx0 _=>w_br (λ_=>w_an qae (w_lv λx1 e1=> ?_)) (λ_=> ?_))
  . obtain⟨q1,q2⟩:x1.1.length<=160/\ ∀w∈x1.1,U w:=by rw[e1];exact ye
    refine w_lp (inv:=λv:List Int=>v.length<=160/\ ∀w∈v,U w) (μ:=Qck kind l) ⟨q1,q2⟩ (Nat.lt_succ_self _) λv0 ⟨a1,a2⟩=> ?_
    refine w_br (λhb=> ?_) (λ_=> ?_)
    . have hb:=of_decide_eq_true hb
      refine w_cn (decide_eq_true (by omega)) (w_nx ?_)
      show(_/\_)/\(_:Nat)<_
      refine⟨⟨by rw[List.length_append,List.length_singleton];omega,λw hw=> ?_⟩,by show 160-(v0++[0]).length<160-v0.length;rw[List.length_append,List.length_singleton];omega⟩
      rcases List.mem_append.1 hw with h1|h1
      . exact a2 w h1
      . rw[List.mem_singleton.1 h1];exact U_0
    . refine Q0c (zd l hl) λx2 ⟨b1,b2⟩=>w_cn (decide_eq_true (by omega)) ?_
      have hu: ∀w∈v0++x2,U w:=λw hw=>(List.mem_append.1 hw).elim (a2 w) (b2 w)
      refine w_br (λhb=> ?_) (λhb=> ?_)
      . have hb:=of_decide_eq_true hb
        refine w_cn (by simp [Nat.blt];rw[List.length_append]at hb;omega) (Q0c (new_w _ (λw hw=>hu w (List.mem_of_mem_drop (List.mem_of_mem_take hw))) (by rw[List.length_take];exact Nat.le_trans (Nat.min_le_left _ _) (by decide))) λx3 ⟨c1,c2⟩=>w_br (λ_=>Q0c (Zir c1 (by omega)) λx4 hx=>hx) (λ_=>⟨8,c1⟩))
      . have hb:=of_decide_eq_false hb
        exact Q0c (new_w _ hu (by omega)) λx3 ⟨c1,c2⟩=>w_br (λ_=>Q0c (Zir c1 (by omega)) λx4 hx=>hx) (λ_=>⟨8,c1⟩)
  . refine Q0c (zd l hl) λx2 ⟨b1,b2⟩=>w_cn (decide_eq_true (by omega)) ?_
    refine w_br (λhb=> ?_) (λhb=> ?_)
    . have hb:=of_decide_eq_true hb
      refine w_cn (by simp [Nat.blt];omega) (Q0c (new_w _ (λw hw=>b2 w (List.mem_of_mem_drop (List.mem_of_mem_take hw))) (by rw[List.length_take];exact Nat.le_trans (Nat.min_le_left _ _) (by decide))) λx3 ⟨c1,c2⟩=>w_br (λ_=>Q0c (Zir c1 (by omega)) λx4 hx=>hx) (λ_=>⟨8,c1⟩))
    . have hb:=of_decide_eq_false hb
      exact Q0c (new_w _ b2 (by omega)) λx3 ⟨c1,c2⟩=>w_br (λ_=>Q0c (Zir c1 (by omega)) λx4 hx=>hx) (λ_=>⟨8,c1⟩)
theorem zaD{P:Nat}{r:Q01}(h:okR P r)(n:Int)(hl:r.C6.length<=900000)(hq:r.A4.length<=16)(hu: ∀q∈r.A4,U q.N):
   (Q7i r n).w (λx=>okR P x.1/\x.1.C6.length<=r.C6.length+8016/\(x.1.A4.length<=16/\ ∀q∈x.1.A4,U q.N)/\x.2.length<=4000):=by
 unfold Q7i
 refine w_lv λx0 _=>w_br (λ_=>Q0c (xx n) λe he=>Q0c (qU h e (by omega) hq hu he) λx hx=> ?_) (λ_=>w_an (Qh5 (by decide)) (w_lv λx3 _=>Q0c (Zaj h _ (Q0q _) hl (by omega) hu) λx hx=> ?_))
 . obtain⟨a1,a2,a3,a4⟩:=hx
   exact⟨a1,by rw[a2];omega,⟨a3,a4⟩,Nat.zero_le _⟩
 . obtain⟨a1,a2,a3,a4⟩:=hx
   refine⟨a1,by show x.1.C6.length<=_;omega,?_,a4⟩
   rcases a3 with a3|a3
   . rw[a3];exact⟨hq,hu⟩
   . rw[a3];exact⟨Nat.zero_le _,λq hq=>by cases hq⟩
theorem xaD{P:Nat}{m:Q00}(h:okM P m)(l:List Int)(hl:l.length<=30):(Qay m l).w (λx=>okR P x.1):=by
 unfold Qay
 have nr:(Q3e m).w (λx=>okR P x/\x.C6=[]/\x.A4=[]):=by
   unfold Q3e
   exact Q0c (zV h) λx hx=>⟨⟨hx.1,U_0⟩,rfl,rfl⟩
 refine Q0c nr λx0 ⟨n1,n2,n3⟩=> ?_
 refine w_lp (inv:=λv:Int×Q01×List Q02=>0<=v.1/\v.1<=l.length/\okR P v.2.1/\(v.2.1.C6.length:Int)<=8016*v.1/\(v.2.1.A4.length<=16/\ ∀q∈v.2.1.A4,U q.N)/\(v.2.2.length:Int)<=4000*v.1) (μ:=Qh2 m l) ⟨Int.le_refl _,by show(0:Int)<=l.length;omega,n1,by rw[n2];exact Int.le_refl _,by rw[n3];exact⟨Nat.zero_le _,λq hq=>by cases hq⟩,Int.le_refl _⟩ (Nat.lt_succ_self _) λv0 ⟨a1,a2,a3,a4,⟨a5,a6⟩,a7⟩=> ?_
 refine w_br (λhb=> ?_) (λ_=>a3)
 have hb:=of_decide_eq_true hb
 refine w_cn (by simp [Nat.blt];omega) (Q0c (zaD a3 _ (by omega) a5 a6) λx1 ⟨b1,b2,b3,b4⟩=>w_cn (decide_eq_true (by omega)) (w_nx ?_))
 have e:IntKind.i64.wrap (v0.1+1)=v0.1+1:=by rw[IntKind.wrap_i64];omega
 show(_/\_/\_/\_/\_/\_)/\(_:Nat)<_
 refine⟨⟨by rw[e];omega,by rw[e];omega,b1,by rw[e];show(x1.1.C6.length:Int)<=_;omega,b3,by rw[e,List.length_append];omega⟩,by show(l.length-IntKind.i64.wrap (v0.1+1)).toNat<(l.length-v0.1).toNat;rw[e];omega⟩
noncomputable section
def boot:List Int:=(Q12 (List.append (List.append (List.append (List.append Z6z Z6) (List.append Z59 Z6n)) (List.append (List.append Z64 Z5f) (List.append Z55 Z4k))) (List.append (List.append (List.append Z6i Z5a) (List.append Qvj Quc)) (List.append (List.append Qu1 Qug) (List.append Qu7 Qu4))))).1
def Qj8:List Int:=boot++List.replicate (160-boot.length) 0
theorem run87(t0 t1 t2 t3 t4 t5 t6 t7 t8 t9 t10 t11 t12 t13 t14 t15 t16 t17 t18 t19 t20 t21 t22 t23 t24 t25 t26 t27 t28 t29 t30 t31 t32 t33 t34 t35 t36 t37 t38 t39 t40 t41 t42 t43 t44 t45 t46 t47 t48 t49 t50 t51 t52 t53 t54 t55 t56 t57 t58 t59 t60 t61 t62 t63 t64 t65 t66 t67 t68 t69 t70 t71 t72 t73 t74 t75 t76 t77 t78 t79 t80 t81 t82 t83 t84 t85 t86 t87 t88 t89 t90 t91 t92 t93 t94 t95:Int):(Qdh (Q1r 8 4 (Qj8++[t0,t1,t2,t3,t4,t5,t6,t7,t8,t9,t10,t11,t12,t13,t14,t15,t16,t17,t18,t19,t20,t21,t22,t23,t24,t25,t26,t27,t28,t29,t30,t31,t32,t33,t34,t35,t36,t37,t38,t39,t40,t41,t42,t43,t44,t45,t46,t47,t48,t49,t50,t51,t52,t53,t54,t55,t56,t57,t58,t59,t60,t61,t62,t63,t64,t65,t66,t67,t68,t69,t70,t71,t72,t73,t74,t75,t76,t77,t78,t79,t80,t81,t82,t83,t84,t85,t86,t87,t88,t89,t90,t91,t92,t93,t94,t95])).1 [] 87).2.2.2=0:=by kernel_rfl
end
attribute [local irreducible] Q12
theorem xae(i j:List Int)(hi:i.length<=256)(hj:j.length<=256)(e:i++List.replicate (256-i.length) 0=j++List.replicate (256-j.length) 0):Q1r 8 4 i=Q1r 8 4 j:=by
 have w:IntKind.i64.wrap (8*32)=256:=by decide
 have m:Qsa 8=List.replicate 256 0:=by kernel_rfl
 have d: ∀k:List Int,k.length<=256->decide ((k.length:Int)>256)=false:=λk h=>decide_eq_false (by omega)
 have mem: ∀k:List Int,k.length<=256->List.take (min k.length (List.replicate 256 (0:Int)).length) k++List.drop (min k.length (List.replicate 256 (0:Int)).length) (List.replicate 256 0)=k++List.replicate (256-k.length) 0:=λk h=>by
   rw[List.length_replicate,Nat.min_eq_left h,List.take_length,List.drop_replicate]
 have r:Qsa 8=List.replicate 256 0:=by kernel_rfl
 simp only[Q1r,Q86,Tree.m,w,letv,r,d i hi,d j hj]
 simp only[mem i hi,mem j hj,e]
theorem list96(t:List Int)(ht:t.length=96):t=[t.getD 0 0,t.getD 1 0,t.getD 2 0,t.getD 3 0,t.getD 4 0,t.getD 5 0,t.getD 6 0,t.getD 7 0,t.getD 8 0,t.getD 9 0,t.getD 10 0,t.getD 11 0,t.getD 12 0,t.getD 13 0,t.getD 14 0,t.getD 15 0,t.getD 16 0,t.getD 17 0,t.getD 18 0,t.getD 19 0,t.getD 20 0,t.getD 21 0,t.getD 22 0,t.getD 23 0,t.getD 24 0,t.getD 25 0,t.getD 26 0,t.getD 27 0,t.getD 28 0,t.getD 29 0,t.getD 30 0,t.getD 31 0,t.getD 32 0,t.getD 33 0,t.getD 34 0,t.getD 35 0,t.getD 36 0,t.getD 37 0,t.getD 38 0,t.getD 39 0,t.getD 40 0,t.getD 41 0,t.getD 42 0,t.getD 43 0,t.getD 44 0,t.getD 45 0,t.getD 46 0,t.getD 47 0,t.getD 48 0,t.getD 49 0,t.getD 50 0,t.getD 51 0,t.getD 52 0,t.getD 53 0,t.getD 54 0,t.getD 55 0,t.getD 56 0,t.getD 57 0,t.getD 58 0,t.getD 59 0,t.getD 60 0,t.getD 61 0,t.getD 62 0,t.getD 63 0,t.getD 64 0,t.getD 65 0,t.getD 66 0,t.getD 67 0,t.getD 68 0,t.getD 69 0,t.getD 70 0,t.getD 71 0,t.getD 72 0,t.getD 73 0,t.getD 74 0,t.getD 75 0,t.getD 76 0,t.getD 77 0,t.getD 78 0,t.getD 79 0,t.getD 80 0,t.getD 81 0,t.getD 82 0,t.getD 83 0,t.getD 84 0,t.getD 85 0,t.getD 86 0,t.getD 87 0,t.getD 88 0,t.getD 89 0,t.getD 90 0,t.getD 91 0,t.getD 92 0,t.getD 93 0,t.getD 94 0,t.getD 95 0]:=by
 apply List.ext_getElem
 . rw[ht];rfl
 . intro i h1 h2
   have e: ∀j (hj:j<96),[t.getD 0 0,t.getD 1 0,t.getD 2 0,t.getD 3 0,t.getD 4 0,t.getD 5 0,t.getD 6 0,t.getD 7 0,t.getD 8 0,t.getD 9 0,t.getD 10 0,t.getD 11 0,t.getD 12 0,t.getD 13 0,t.getD 14 0,t.getD 15 0,t.getD 16 0,t.getD 17 0,t.getD 18 0,t.getD 19 0,t.getD 20 0,t.getD 21 0,t.getD 22 0,t.getD 23 0,t.getD 24 0,t.getD 25 0,t.getD 26 0,t.getD 27 0,t.getD 28 0,t.getD 29 0,t.getD 30 0,t.getD 31 0,t.getD 32 0,t.getD 33 0,t.getD 34 0,t.getD 35 0,t.getD 36 0,t.getD 37 0,t.getD 38 0,t.getD 39 0,t.getD 40 0,t.getD 41 0,t.getD 42 0,t.getD 43 0,t.getD 44 0,t.getD 45 0,t.getD 46 0,t.getD 47 0,t.getD 48 0,t.getD 49 0,t.getD 50 0,t.getD 51 0,t.getD 52 0,t.getD 53 0,t.getD 54 0,t.getD 55 0,t.getD 56 0,t.getD 57 0,t.getD 58 0,t.getD 59 0,t.getD 60 0,t.getD 61 0,t.getD 62 0,t.getD 63 0,t.getD 64 0,t.getD 65 0,t.getD 66 0,t.getD 67 0,t.getD 68 0,t.getD 69 0,t.getD 70 0,t.getD 71 0,t.getD 72 0,t.getD 73 0,t.getD 74 0,t.getD 75 0,t.getD 76 0,t.getD 77 0,t.getD 78 0,t.getD 79 0,t.getD 80 0,t.getD 81 0,t.getD 82 0,t.getD 83 0,t.getD 84 0,t.getD 85 0,t.getD 86 0,t.getD 87 0,t.getD 88 0,t.getD 89 0,t.getD 90 0,t.getD 91 0,t.getD 92 0,t.getD 93 0,t.getD 94 0,t.getD 95 0][j]'hj=t.getD j 0:=by
     intro j hj
     have:[t.getD 0 0,t.getD 1 0,t.getD 2 0,t.getD 3 0,t.getD 4 0,t.getD 5 0,t.getD 6 0,t.getD 7 0,t.getD 8 0,t.getD 9 0,t.getD 10 0,t.getD 11 0,t.getD 12 0,t.getD 13 0,t.getD 14 0,t.getD 15 0,t.getD 16 0,t.getD 17 0,t.getD 18 0,t.getD 19 0,t.getD 20 0,t.getD 21 0,t.getD 22 0,t.getD 23 0,t.getD 24 0,t.getD 25 0,t.getD 26 0,t.getD 27 0,t.getD 28 0,t.getD 29 0,t.getD 30 0,t.getD 31 0,t.getD 32 0,t.getD 33 0,t.getD 34 0,t.getD 35 0,t.getD 36 0,t.getD 37 0,t.getD 38 0,t.getD 39 0,t.getD 40 0,t.getD 41 0,t.getD 42 0,t.getD 43 0,t.getD 44 0,t.getD 45 0,t.getD 46 0,t.getD 47 0,t.getD 48 0,t.getD 49 0,t.getD 50 0,t.getD 51 0,t.getD 52 0,t.getD 53 0,t.getD 54 0,t.getD 55 0,t.getD 56 0,t.getD 57 0,t.getD 58 0,t.getD 59 0,t.getD 60 0,t.getD 61 0,t.getD 62 0,t.getD 63 0,t.getD 64 0,t.getD 65 0,t.getD 66 0,t.getD 67 0,t.getD 68 0,t.getD 69 0,t.getD 70 0,t.getD 71 0,t.getD 72 0,t.getD 73 0,t.getD 74 0,t.getD 75 0,t.getD 76 0,t.getD 77 0,t.getD 78 0,t.getD 79 0,t.getD 80 0,t.getD 81 0,t.getD 82 0,t.getD 83 0,t.getD 84 0,t.getD 85 0,t.getD 86 0,t.getD 87 0,t.getD 88 0,t.getD 89 0,t.getD 90 0,t.getD 91 0,t.getD 92 0,t.getD 93 0,t.getD 94 0,t.getD 95 0]=(List.range 96).map (λk=>t.getD k 0):=rfl
     simp only[this,List.getElem_map,List.getElem_range]
   rw[e i (by omega),List.getD_eq_getElem?_getD,List.getElem?_eq_getElem h1]
   rfl
theorem qaE(t:List Int)(ht:t.length=96):(Qdh (Q1r 8 4 (Qj8++t)).1 [] 87).2.2.2=0:=by
 rw[list96 t ht]
 exact run87 _ _ _ _ _ _ _ _ _ _ _ _ _ _ _ _ _ _ _ _ _ _ _ _ _ _ _ _ _ _ _ _ _ _ _ _ _ _ _ _ _ _ _ _ _ _ _ _ _ _ _ _ _ _ _ _ _ _ _ _ _ _ _ _ _ _ _ _ _ _ _ _ _ _ _ _ _ _ _ _ _ _ _ _ _ _ _ _ _ _ _ _ _ _ _ _
theorem qaf:Qj8.length=160:=by
 have h:boot.length<=160:=ye.1
 unfold Qj8
 rw[List.length_append,List.length_replicate];omega
def out(f:Int)(m m':List Int):Prop:= ∀j:Nat,¬(f*32<=j/\(j:Int)<f*32+32)->m'.getD j 0=m.getD j 0
theorem Qoh(f:Int)(m:List Int):out f m m:=λ_ _=>rfl
theorem getDset(l:List Int)(i j:Nat)(v:Int)(h:i≠j):(l.set i v).getD j 0=l.getD j 0:=by
 simp only[List.getD_eq_getElem?_getD,List.getElem?_set_ne h]
theorem Q38{P:Nat}{m:List Int}(h:Q0z P m):Q0t m=P:=by
 obtain⟨h1,h2,h3,_⟩:=h
 simp only[Q0t,Q8c,Tree.m]
 have e:(m.length:Int)=32*P:=by omega
 rw[e]
 have e1:(Int.tmod (32*(P:Int)) 32 !=0)=false:=by simp [Int.mul_tmod_right]
 have e2:decide ((32*(P:Int))>1024)=false:=decide_eq_false (by omega)
 rw[e1,e2]
 simp only[cond_false]
 rw[Int.mul_tdiv_cancel_left _ (by decide),IntKind.wrap_i64];omega
theorem xW{P:Nat}{m:List Int}(h:Q0z P m)(f:Int):Q4w m f=true->0<=f/\f<P:=by
 have hp:=Q38 h
 simp only[Q4w,Q7z,Tree.m,letv,hp]
 cases h1:decide (f>=0)
 . intro h;cases h
 . intro h;exact⟨of_decide_eq_true h1,of_decide_eq_true h⟩
theorem Z1e{P:Nat}{m:List Int}(h:Q0z P m)(f:Int)(s:List UInt8):(Q32 m f s).w (λr=>Q0z P r.1/\out f m r.1/\(r.2=false->r.1=m)):=by
 have hcl:Q04 m=m:=rfl
 have h2:=h.p2
 unfold Q32
 refine w_an (Q9h h) (w_lv λx0 hx0=>w_lv λx1 hx1=> ?_)
 rw[hcl]at hx0;subst hx0
 refine w_br (λ_=>⟨h,Qoh _ _,λ_=>rfl⟩) λhb=>w_br (λ_=>⟨h,Qoh _ _,λ_=>rfl⟩) λhs=> ?_
 have hb:x1=true:=by simpa using hb
 obtain⟨f0,f1⟩:=xW h f (hx1.symm.trans hb)
 have hs:(s.length:Int)=128:=by simpa using hs
 refine w_lp (inv:=λz:Int×List Int=>0<=z.1/\z.1<=32/\Q0z P z.2/\out f x0 z.2) (μ:=Qa8 x0 f s) ⟨show(0:Int)<=0 by decide,show(0:Int)<=32 by decide,h,Qoh _ _⟩ (Nat.lt_succ_self _) λz ⟨z1,z2,z3,z4⟩=> ?_
 refine w_br (λhb=> ?_) (λ_=>⟨z3,z4,λh=>by cases h⟩)
 have hb:=of_decide_eq_true hb
 have e1:IntKind.i64.wrap (4*z.1)=4*z.1:=by rw[IntKind.wrap_i64];omega
 have e2:IntKind.i64.wrap (IntKind.i64.wrap (4*z.1)+4)=4*z.1+4:=by rw[IntKind.wrap_i64,IntKind.wrap_i64];omega
 have e3:IntKind.i64.wrap (IntKind.i64.wrap (f*32)+z.1)=f*32+z.1:=by rw[IntKind.wrap_i64,IntKind.wrap_i64];omega
 have hl:=z3.len
 have hlen:(List.take (Int.toNat (IntKind.i64.wrap (IntKind.i64.wrap (4*z.1)+4))-Int.toNat (IntKind.i64.wrap (4*z.1))) (List.drop (Int.toNat (IntKind.i64.wrap (4*z.1))) s)).length=4:=by
   rw[e2,e1,List.length_take,List.length_drop];omega
 refine w_cn (decide_eq_true (by rw[e2,e1];omega)) ?_
 refine w_cn (decide_eq_true (by rw[hlen];decide)) (w_cn (decide_eq_true (by rw[hlen];decide)) (w_cn (decide_eq_true (by rw[hlen];decide)) (w_cn (decide_eq_true (by rw[hlen];decide)) (w_cn (by rw[e3];simp [Nat.blt];omega) (w_nx ?_)))))
 show(_/\_/\Q0z P (List.set _ _ _)/\out f x0 (List.set _ _ _))/\(_:Nat)<_
 have ew:IntKind.i64.wrap (z.1+1)=z.1+1:=by rw[IntKind.wrap_i64];omega
 rw[e3]
 refine⟨⟨by rw[ew];omega,by rw[ew];omega,⟨by rw[List.length_set];exact hl,z3.p1,z3.p2,Z4c z3.u (U_or _ _) _⟩,λj hj=> ?_⟩,by show(32-IntKind.i64.wrap (z.1+1)).toNat<(32-z.1).toNat;rw[ew];omega⟩
 rw[getDset _ _ _ _ (by omega)]
 exact z4 j hj
theorem zaE(w:List Int)(h:w.length<=32):(Q4o w).w (λr=>r.length=4*w.length):=by
 have e0:IntKind.i64.wrap (4*(w.length:Int))=4*w.length:=by rw[IntKind.wrap_i64];omega
 unfold Q4o
 refine w_cn (by rw[e0];simp [Nat.blt,D.plain];omega) ?_
 refine w_lp (inv:=λz:Int×List Int=>0<=z.1/\z.1<=w.length/\(z.2.length:Int)=4*z.1) (μ:=Q70 w) ⟨by decide,by show(0:Int)<=w.length;omega,rfl⟩ (Nat.lt_succ_self _) λz ⟨z1,z2,z3⟩=> ?_
 refine w_br (λhb=> ?_) (λhb=> ?_)
 . have hb:=of_decide_eq_true hb
   have ew:IntKind.i64.wrap (z.1+1)=z.1+1:=by rw[IntKind.wrap_i64];omega
   refine w_cn (by simp [Nat.blt];omega) (w_cn (decide_eq_true (by omega)) (w_nx ?_))
   show(_/\_/\_)/\(_:Nat)<_
   refine⟨⟨by rw[ew];omega,by rw[ew];omega,by rw[ew,List.length_append];simp only[List.length_cons,List.length_nil];omega⟩,by show(w.length-IntKind.i64.wrap (z.1+1)).toNat<(w.length-z.1).toNat;rw[ew];omega⟩
 . have hb:=of_decide_eq_false hb
   show(bytesOf z.2).length=_
   rw[Q90];omega
theorem Zgp{P:Nat}{m:List Int}(h:Q0z P m)(f:Int):(Q5u m f).w (λr=>0<=f->f<P->r.1.length=128):=by
 have hl:=h.len
 have h2:=h.p2
 unfold Q5u
 refine w_lv λx0 hx0=>w_br (λhb=>λf0 f1=> ?_) (λhb=> ?_)
 . have hp:=Q38 h
   have hb:x0=false:=by simpa using hb
   rw[hb]at hx0
   simp only[Q4w,Q7z,Tree.m,letv,hp]at hx0
   rw[decide_eq_true f0]at hx0
   exact absurd f1 (of_decide_eq_false hx0.symm)
 . have hb:x0=true:=by simpa using hb
   obtain⟨f0,f1⟩:=xW h f (hx0.symm.trans hb)
   have e1:IntKind.i64.wrap (f*32)=f*32:=by rw[IntKind.wrap_i64];omega
   have e2:IntKind.i64.wrap (IntKind.i64.wrap (f*32)+32)=f*32+32:=by rw[IntKind.wrap_i64,IntKind.wrap_i64];omega
   have hlen:(List.take (Int.toNat (IntKind.i64.wrap (IntKind.i64.wrap (f*32)+32))-Int.toNat (IntKind.i64.wrap (f*32))) (List.drop (Int.toNat (IntKind.i64.wrap (f*32))) m)).length=32:=by
     rw[e2,e1,List.length_take,List.length_drop];omega
   refine w_cn (by rw[e2,e1];simp [Nat.blt];omega) ?_
   refine w_an (by show List.length _<=1000000000000;rw[hlen];decide) (w_lv λx1 h1=> ?_)
   have h1:x1.length=4*(List.take (Int.toNat (IntKind.i64.wrap (IntKind.i64.wrap (f*32)+32))-Int.toNat (IntKind.i64.wrap (f*32))) (List.drop (Int.toNat (IntKind.i64.wrap (f*32))) m)).length:=by rw[h1];exact(Tree.pp (zaE _ (Nat.le_of_eq hlen))).2
   intro _ _
   show x1.length=128
   rw[h1,hlen]
theorem Zhr{f:Int}(hf:U f){P:Nat}(hP:P<=32)(h:decide (IntKind.u64.wrap f<IntKind.u64.wrap (P:Int))=true):0<=f/\f<P:=by
 have h:=of_decide_eq_true h
 obtain⟨h1,h2⟩:=hf
 rw[IntKind.wrap_u64,IntKind.wrap_u64,Int.emod_eq_of_lt h1 (by omega),Int.emod_eq_of_lt (by omega) (by omega)]at h
 exact⟨h1,h⟩
theorem Zlf{P:Nat}{m:List Int}(h:Q0z P m){d:Q0d}(hd:Q8e d)(e:Q0e):(Q6w d m e).w (λr=>Q8e r.1/\Q0z P r.2.1/\out d.B2 m r.2.1/\(r.2.2=false->r.2.1=m)/\(∀p,Q1b d p=true->Q1b r.1 p=true)):=by
 have hcl:Q04 m=m:=rfl
 have keep: ∀b:Bool,Q8e d/\Q0z P m/\out d.B2 m m/\(b=false->m=m)/\(∀p,Q1b d p=true->Q1b d p=true):=λb=>⟨hd,h,Qoh _ _,λ_=>rfl,λ_ h=>h⟩
 have blk: ∀{p:Int},Q1b d p=true->decide (d.Blocks>64)=false:=fun{p} hm=>by
   cases hb:decide (d.Blocks>64)
   . rfl
   . have:Q1b d p=false:=by simp only[Q1b,Q5t,Tree.m];rw[hb];rfl
     rw[this]at hm;cases hm
 have m2: ∀p,Q1b d p=true->Q1b {Blocks:=d.Blocks,B6:=d.B6,B4:=d.B4,C1:=2,F1:=0,B8:=0,B2:=0,C5:=[]} p=true:=λp hm=>by
   simp only[Q1b,Q5t,Tree.m];rw[blk hm];rfl
 have m3: ∀p,Q1b d p=true->Q1b {Blocks:=d.Blocks,B6:=d.B6,B4:=d.B4,C1:=3,F1:=0,B8:=0,B2:=0,C5:=[]} p=true:=λp hm=>by
   simp only[Q1b,Q5t,Tree.m];rw[blk hm];rfl
 unfold Q6w
 refine w_br (λ_=>w_an (Q9h h) (w_lv λx hx=>by rw[hcl]at hx;subst hx;exact keep _)) λ_=>w_br (λ_=>w_an (Q9h h) (w_lv λx hx=>by rw[hcl]at hx;subst hx;exact keep _)) λ_=>w_br (λ_=>w_an (Q9h h) (w_lv λx hx=>by rw[hcl]at hx;subst hx;exact keep _)) λ_=>w_an (Q9h h) (w_lv λx3 hx3=> ?_)
 rw[hcl]at hx3;subst hx3
 have fin: ∀{m':List Int},Q0z P m'->out d.B2 x3 m'->(Tree.br (e.N==1) (.lf (({Blocks:=d.Blocks,B6:=d.B6,B4:=d.B4,C1:=2,F1:=0,B8:=0,B2:=0,C5:=[]}:Q0d),m',true)) (.lf (({Blocks:=d.Blocks,B6:=d.B6,B4:=d.B4,C1:=3,F1:=0,B8:=0,B2:=0,C5:=[]}:Q0d),m',true))).w (λr=>Q8e r.1/\Q0z P r.2.1/\out d.B2 x3 r.2.1/\(r.2.2=false->r.2.1=x3)/\(∀p,Q1b d p=true->Q1b r.1 p=true)):=λhm ho=>
   w_br (λ_=>⟨⟨hd.block,hd.frame,U_0,U_0⟩,hm,ho,(λh=>by cases h),m2⟩) (λ_=>⟨⟨hd.block,hd.frame,U_0,U_0⟩,hm,ho,(λh=>by cases h),m3⟩)
 have nod:(Tree.br (!decide (e.C8=[])) (.lf (d,x3,false)) (Tree.br (e.N==1) (.lf (({Blocks:=d.Blocks,B6:=d.B6,B4:=d.B4,C1:=2,F1:=0,B8:=0,B2:=0,C5:=[]}:Q0d),x3,true)) (.lf (({Blocks:=d.Blocks,B6:=d.B6,B4:=d.B4,C1:=3,F1:=0,B8:=0,B2:=0,C5:=[]}:Q0d),x3,true)))).w (λr=>Q8e r.1/\Q0z P r.2.1/\out d.B2 x3 r.2.1/\(r.2.2=false->r.2.1=x3)/\(∀p,Q1b d p=true->Q1b r.1 p=true)):=
   w_br (λ_=>keep _) (λ_=>fin h (Qoh _ _))
 refine w_br (λ_=>w_br (λ_=>w_lv λx4 hx4=>w_br (λ_=>keep _) λhb=> ?_) (λ_=>nod)) (λ_=>nod)
 have hp:=Q38 h
 have hb:x4=true:=by simpa using hb
 rw[hb]at hx4
 simp only[Q8p,Qbo,Tree.m,letv,hp]at hx4
 obtain⟨f0,f1⟩:=Zhr hd.opFrame h.p2 hx4.symm
 have ef:IntKind.i64.wrap d.B2=d.B2:=by have:=h.p2;rw[IntKind.wrap_i64];omega
 refine Q0c (Z1e h _ _) λx5 ⟨h5,o5,k5⟩=> ?_
 rw[ef]at o5
 exact w_br (λhf=>⟨hd,h5,o5,λ_=>k5 (by simpa using hf),λ_ h=>h⟩) (λ_=>fin h5 o5)
theorem xf{P:Nat}{m:List Int}(h:Q0z P m){n:Q0p}(hn:Qin n)(frame:List UInt8):(Q9t n m frame).w (λr=>Qin r.1/\Q0z P r.2.1/\out n.C3 m r.2.1/\(r.2.2=false->r.2.1=m)/\(∀p,Q5m n p=true->Q5m r.1 p=true)):=by
 have hcl:Q04 m=m:=rfl
 have keep:Qin n/\Q0z P m/\out n.C3 m m/\(false=false->m=m)/\(∀p,Q5m n p=true->Q5m n p=true):=⟨hn,h,Qoh _ _,λ_=>rfl,λ_ h=>h⟩
 unfold Q9t
 refine w_br (λ_=>w_an (Q9h h) (w_lv λx hx=>by rw[hcl]at hx;subst hx;exact keep)) λhpo=>w_br (λ_=>w_an (Q9h h) (w_lv λx hx=>by rw[hcl]at hx;subst hx;exact keep)) λl1=>w_br (λ_=>w_an (Q9h h) (w_lv λx hx=>by rw[hcl]at hx;subst hx;exact keep)) λl2=>w_lv λx3 hx3=>w_br (λ_=>w_an (Q9h h) (w_lv λx hx=>by rw[hcl]at hx;subst hx;exact keep)) λhb=> ?_
 have l1:=of_decide_eq_false l1
 have l2:=of_decide_eq_false l2
 have hp:=Q38 h
 have hb:x3=true:=by simpa using hb
 rw[hb]at hx3
 simp only[Q9o,Qeb,Tree.m,letv,hp]at hx3
 obtain⟨f0,f1⟩:=Zhr hn.buffer h.p2 hx3.symm
 have ef:IntKind.i64.wrap n.C3=n.C3:=by have:=h.p2;rw[IntKind.wrap_i64];omega
 refine Q0c (Zgp h _) λx5 h5=> ?_
 rw[ef]at h5
 have h5:=h5 f0 f1
 have hmax:(maxLen:Nat)=9223372036854775807:=rfl
 refine w_cn (decide_eq_true (by omega)) (w_cn (decide_eq_true (by simp only[List.length_take,List.length_drop,hmax];omega)) (Q0c (Z1e h _ _) λx6 ⟨h6,o6,_⟩=> ?_))
 rw[ef]at o6
 have hg:IntKind.u32.wrap (frame.length:Int)=frame.length:=by rw[IntKind.wrap_u32];omega
 refine⟨⟨hn.frame,hn.len,U_0,Q0q _⟩,h6,o6,(λh=>by cases h),λp _=> ?_⟩
 simp only[Q5m,Qjs,Tree.m]
 rw[hg,decide_eq_true (show(frame.length:Int)>=1 by omega),decide_eq_true (show(frame.length:Int)<=128 by omega)]
 rfl
theorem zaf(c:Q0a)(b:Int):(Qai c b).w (λr=>Q29 c=true->Q29 r.1=true):=by
 have hmax:(maxLen:Nat)=9223372036854775807:=rfl
 unfold Qai
 refine w_br (λ_=>λh=>h) (λhb=> ?_)
 have hb:=of_decide_eq_false hb
 refine w_cn (decide_eq_true (by rw[hmax];omega)) ?_
 intro _
 show decide (((c.D5++[_]).length:Int)<=16)=true
 rw[List.length_append,List.length_singleton]
 exact decide_eq_true (by omega)
theorem xH(t:Q0f)(h:Q3u t=true):Q3u (Qkv t).1=true:=by
 simp only[Qkv,Qn1,Tree.m]
 cases ha:t.D4
 . exact h
 . rfl
theorem zf(m:Q00):Q0v m=(Q29 m.A1&&(Q3u m.B1&&(Q1b m.B0 (Q0t m.Mem)&&(Q5m m.C7 (Q0t m.Mem)&&Q2f m.A2 (Q0t m.Mem))))):=by
 simp only[Q0v,Q1k,Tree.m,letv]
 cases Q29 m.A1<;>cases Q3u m.B1<;>cases Q1b m.B0 (Q0t m.Mem)<;>cases Q5m m.C7 (Q0t m.Mem)<;>rfl
theorem xaE{b c:Q07}(h:c.C4=b.C4)(p:Int):Q2f c p=Q2f b p:=by
 simp only[Q2f,Q3m,Tree.m,h]
theorem cnd{a x y:Bool}(h:x=true->y=true):(bif a then false else x)=true->(bif a then false else y)=true:=by cases a<;>simp_all
def chain(b1 b2 b3 b4 b5 b6 b7 w h dev:Bool):Bool:=bif b1 then false else bif b2 then false else bif b3 then false else bif b4 then false else bif b5 then false else bif b6 then false else bif b7 then false else bif w then(bif h then false else dev) else dev
theorem Zky{b1 b2 b3 b4 b5 b6 b7 w h d d':Bool}(hd:d=true->d'=true):chain b1 b2 b3 b4 b5 b6 b7 w h d=true->chain b1 b2 b3 b4 b5 b6 b7 w h d'=true:=by
 refine cnd (cnd (cnd (cnd (cnd (cnd (cnd ?_))))))
 cases w
 . exact hd
 . cases h
   . exact hd
   . exact λh=>h
def mayC(p:Int)(c:Q03)(ct:Int)(w h dev:Bool):Bool:=chain (p==0) (c.X.a0 !=0) (decide (c.B7.a0>31)) (decide (c.B7.a7>31)) (decide (c.B7.a6>255)) (Int.tmod c.B7.a1 4 !=0) (decide (ct>1152921504606846976)) w h dev
theorem yf{p:Int}{c:Q03}{ct:Int}{w h d d':Bool}(hd:d=true->d'=true)(g:mayC p c ct w h d=true):mayC p c ct w h d'=true:=Zky hd g
theorem zW(m:Q00):Q1c m=mayC (Q0t m.Mem) m.B3 m.A3 m.A6 m.A7 (Q0v m):=rfl
theorem Qs0{m n:Q00}(hp:Q0t n.Mem=Q0t m.Mem)(hcpu:n.B3=m.B3)(hct:n.A3=m.A3)(hw:n.A6=m.A6)(hh:n.A7=m.A7)
   (hc:Q29 m.A1=true->Q29 n.A1=true) (ht:Q3u m.B1=true->Q3u n.B1=true) (hd: ∀p,Q1b m.B0 p=true->Q1b n.B0 p=true) (hn: ∀p,Q5m m.C7 p=true->Q5m n.C7 p=true) (hb:n.A2.C4=m.A2.C4) (h:Q1c m=true):Q1c n=true:=by
 have dev:Q0v m=true->Q0v n=true:=λh=>by
   rw[zf]at h⊢
   simp only[Bool.and_eq_true]at h⊢
   rw[hp,xaE hb]
   exact⟨hc h.1,ht h.2.1,hd _ h.2.2.1,hn _ h.2.2.2.1,h.2.2.2.2⟩
 rw[zW]at h⊢
 rw[hp,hcpu,hct,hw,hh]
 exact yf dev h
section
variable {P:Nat} {m:List Int} (h:Q0z P m)
include h
theorem dpage{f:Int}(hf:U f){b:Bool}(hx:b=Q8p m f)(hb:b=true):0<=f/\f<P:=by
 have hp:=Q38 h
 rw[hb]at hx
 simp only[Q8p,Qbo,Tree.m,letv,hp]at hx
 exact Zhr hf h.p2 hx.symm
theorem npage{f:Int}(hf:U f){b:Bool}(hx:b=Q9o m f)(hb:b=true):0<=f/\f<P:=by
 have hp:=Q38 h
 rw[hb]at hx
 simp only[Q9o,Qeb,Tree.m,letv,hp]at hx
 exact Zhr hf h.p2 hx.symm
def keepD(P:Nat)(d d':Q0d):Prop:=Q8e d'/\(Q1b d P=true->Q1b d' P=true)
theorem vf{d:Q0d}(hd:Q8e d){cmd:Int}(hc:cmd=1\/cmd=2)(at0:Int):(Qbc d m cmd at0).w (λr=>keepD P d r.1/\r.2.length<=1):=by
 have h2:=h.p2
 have st3:(d.C1 !=0)=false->keepD P d {Blocks:=d.Blocks,B6:=d.B6,B4:=d.B4,C1:=3,F1:=d.F1,B8:=d.B8,B2:=d.B2,C5:=d.C5}:=λhs=>by
   have hs:d.C1=0:=by simpa using hs
   refine⟨⟨hd.block,hd.frame,hd.opBlock,hd.opFrame⟩,λhm=> ?_⟩
   simp only[Q1b,Q5t,Tree.m,hs]at hm⊢
   exact hm
 have blk:Q1b d P=true->decide (d.Blocks>64)=false:=λhm=>by
   cases hb:decide (d.Blocks>64)
   . rfl
   . have:Q1b d P=false:=by simp only[Q1b,Q5t,Tree.m];rw[hb];rfl
     rw[this]at hm;cases hm
 unfold Qbc
 refine w_br (λ_=>⟨⟨hd,λh=>h⟩,Nat.zero_le _⟩) λhs=>w_br (λ_=>⟨st3 hs,Nat.zero_le _⟩) λhb=>w_lv λx0 hx=>w_br (λ_=>⟨st3 hs,Nat.zero_le _⟩) λhp=> ?_
 have hb:=of_decide_eq_false hb
 obtain⟨f0,f1⟩:=dpage h hd.frame hx (by simpa using hp)
 have ef:IntKind.i64.wrap d.B4=d.B4:=by rw[IntKind.wrap_i64];omega
 have e1:decide (d.B6<d.Blocks)=true:=decide_eq_true (by omega)
 have e2:decide (IntKind.i64.wrap d.B4<(P:Int))=true:=by rw[ef];exact decide_eq_true f1
 refine w_br (λhcm=>Q0c (Zgp h _) λx1 h1=> ?_) (λhcm=> ?_)
 . rw[ef]at h1
   have h1:=h1 f0 f1
   have hcm:=eq_of_beq hcm
   subst hcm
   refine w_lv λx2 _=>⟨⟨⟨hd.block,hd.frame,hd.block,hd.frame⟩,λhm=> ?_⟩,Nat.le_refl _⟩
   simp only[Q1b,Q5t,Q8r,Q6y,Tree.m,letv,blk hm,e1,e2,h1]
   rfl
 . have hc:cmd=1:=by
     rcases hc with h|h
     . exact h
     . rw[h]at hcm;exact absurd hcm (by decide)
   subst hc
   refine w_lv λx2 _=>⟨⟨⟨hd.block,hd.frame,hd.block,hd.frame⟩,λhm=> ?_⟩,Nat.le_refl _⟩
   simp only[Q1b,Q5t,Q8r,Q6y,Tree.m,letv,blk hm,e1,e2]
   rfl
theorem xaf{d:Q0d}(hd:Q8e d)(port:Int){v:Int}(hv:U v)(at0:Int):(Qgr d m port v at0).w (λr=>keepD P d r.1/\r.2.length<=1):=by
 have keep:keepD P d d:=⟨hd,λh=>h⟩
 have e1: ∀{k:Int},(v==k)=true->IntKind.i64.wrap v=k:=λhk=>by
   have:=eq_of_beq hk
   obtain⟨a,b⟩:=hv
   rw[IntKind.wrap_i64];omega
 unfold Qgr
 refine w_br (λ_=>⟨⟨⟨hv,hd.frame,hd.opBlock,hd.opFrame⟩,λh=>h⟩,Nat.zero_le _⟩) λ_=>w_br (λ_=>⟨⟨⟨hd.block,hv,hd.opBlock,hd.opFrame⟩,λh=>h⟩,Nat.zero_le _⟩) λ_=>w_br (λ_=>w_br (λhk=>Q0c (vf h hd (.inl (e1 hk)) _) λx hx=>hx) λ_=>w_br (λhk=>Q0c (vf h hd (.inr (e1 hk)) _) λx hx=>hx) λ_=>w_br (λ_=>w_lv λx hx=>w_br (λhb=> ?_) (λ_=>⟨keep,Nat.zero_le _⟩)) (λ_=>⟨keep,Nat.zero_le _⟩)) (λ_=>⟨keep,Nat.zero_le _⟩)
 refine⟨⟨⟨hd.block,hd.frame,hd.opBlock,hd.opFrame⟩,λhm=> ?_⟩,Nat.zero_le _⟩
 rw[hb]at hx
 simp only[Q95,Qjk,Tree.m]at hx
 cases h2:d.C1==2
 . rw[h2]at hx
   have h3:d.C1=3:=eq_of_beq hx.symm
   simp only[Q1b,Q5t,Tree.m,h3]at hm⊢
   exact hm
 . have h3:d.C1=2:=eq_of_beq h2
   simp only[Q1b,Q5t,Tree.m,h3]at hm⊢
   exact hm
def keepN(P:Nat)(n n':Q0p):Prop:=Qin n'/\(Q5m n P=true->Q5m n' P=true)
theorem qaF{n:Q0p}(hn:Qin n)(at0:Int):(Qgm n m at0).w (λr=>r.length<=1):=by
 have h2:=h.p2
 unfold Qgm
 refine w_br (λ_=>Nat.zero_le _) λl1=>w_br (λ_=>Nat.zero_le _) λl2=>w_lv λx0 hx=>w_br (λ_=>Nat.zero_le _) λhp=>Q0c (Zgp h _) λx1 h1=> ?_
 have l1:=of_decide_eq_false l1
 have l2:=of_decide_eq_false l2
 obtain⟨f0,f1⟩:=npage h hn.frame hx (by simpa using hp)
 have ef:IntKind.i64.wrap n.B4=n.B4:=by rw[IntKind.wrap_i64];omega
 rw[ef]at h1
 have h1:=h1 f0 f1
 exact w_cn (decide_eq_true (by omega)) (Nat.le_refl _)
theorem zaF{n:Q0p}(hn:Qin n)(port:Int){v:Int}(hv:U v)(at0:Int):(Qks n m port v at0).w (λr=>keepN P n r.1/\r.2.length<=1):=by
 have h2:=h.p2
 have keep:keepN P n n:=⟨hn,λh=>h⟩
 unfold Qks
 refine w_br (λ_=>⟨⟨⟨hv,hn.len,hn.buffer,hn.got⟩,λh=>h⟩,Nat.zero_le _⟩) λ_=>w_br (λ_=>⟨⟨⟨hn.frame,hv,hn.buffer,hn.got⟩,λh=>h⟩,Nat.zero_le _⟩) λ_=>w_br (λ_=>w_br (λ_=>Q0c (qaF h hn _) λx hx=>⟨keep,hx⟩) λ_=>w_br (λ_=>w_lv λx hx=>w_br (λhb=>w_br (λnp=>w_br (λnr=> ?_) (λ_=>⟨keep,Nat.zero_le _⟩)) (λ_=>⟨keep,Nat.zero_le _⟩)) (λ_=>⟨keep,Nat.zero_le _⟩)) λ_=>w_br (λ_=> ?_) (λ_=>⟨keep,Nat.zero_le _⟩)) (λ_=>⟨keep,Nat.zero_le _⟩)
 . obtain⟨f0,f1⟩:=npage h hn.frame hx hb
   have np:n.C9=false:=by simpa using np
   have nr:n.C0=false:=by simpa using nr
   have e2:decide (IntKind.i64.wrap n.B4>=(P:Int))=false:=decide_eq_false (by rw[IntKind.wrap_i64];omega)
   refine⟨⟨⟨hn.frame,hn.len,hn.frame,hn.got⟩,λhm=> ?_⟩,Nat.zero_le _⟩
   simp only[Q5m,Qjs,Tree.m,np,nr,e2]at hm⊢
   cases hb:(n.C3 !=0)
   . rw[hb]at hm;exact hm
   . rw[hb]at hm;cases hm
 . refine⟨⟨⟨hn.frame,hn.len,hn.buffer,U_0⟩,λhm=> ?_⟩,Nat.zero_le _⟩
   simp only[Q5m,Qjs,Tree.m]at hm⊢
   revert hm
   cases n.C9<;>cases n.C0<;>cases decide (IntKind.i64.wrap n.C3>=(P:Int))<;>cases(n.C3 !=0)<;>simp
end
theorem qag(t:Q0f)(v:Int):Q3u (Qkt t v)=true:=by
 simp only[Qkt,Qlk,Q3u,Qll,Tree.m]
 cases h:(v !=0)
 . have:v=0:=by simpa using h
   subst this;rfl
 . rfl
theorem Qpz{a:Int}(k:Nat)(hk:k<=32):ishr .u32 a k=a/2^k:=by
 unfold ishr
 have e:min (k:Int).toNat IntKind.u32.bits=k:=by show min (k:Int).toNat 32=k;omega
 have hp:(0:Int)<2^k:=Int.pow_pos (by decide)
 rw[e,Int.fdiv_eq_ediv_of_nonneg _ (Int.le_of_lt hp)]
def Zk7(x:Int)(n:Nat):Prop:=x<2^n/\(n=0\/(2:Int)^(n-1)<=x)
theorem Z86{x q:Int}{n k:Nat}(hq:q=x/2^k)(h0:0<q)(h:Zk7 q n):Zk7 x (n+k):=by
 have hp:(0:Int)<2^k:=Int.pow_pos (by decide)
 obtain⟨h1,h2⟩:=h
 have hn:n≠0:=λe=>by subst e;simp at h1;omega
 refine⟨?_, .inr ?_⟩
 . rw[Int.pow_add]
   have:x<(x/2^k+1)*2^k:=Int.lt_ediv_add_one_mul_self x hp
   have h3:(x/2^k+1)*2^k<=2^n*2^k:=Int.mul_le_mul_of_nonneg_right (by omega) (Int.le_of_lt hp)
   omega
 . have h2:=h2.resolve_left hn
   have e:n+k-1=(n-1)+k:=by omega
   rw[e,Int.pow_add]
   have h3:(2:Int)^(n-1)*2^k<=q*2^k:=Int.mul_le_mul_of_nonneg_right h2 (Int.le_of_lt hp)
   have h4:q*2^k<=x:=by rw[hq];exact Int.ediv_mul_le x (Int.ne_of_gt hp)
   omega
theorem zH{x:Int}{n p:Nat}(h:Zk7 x n)(hx:x<2^p):n<=p:=by
  obtain⟨h1,h2⟩:=h
  rcases h2 with h2|h2
  . omega
  . rcases Nat.lt_or_ge p n with hlt|hge
    . have:(2:Int)^p<=2^(n-1):=by
        have:=Nat.pow_le_pow_right (show 0<2 by omega) (show p<=n-1 by omega)
        exact_mod_cast this
      omega
    . exact hge
theorem Zgx{x:Int}{n p:Nat}(h:Zk7 x n)(hn:n<=p):x<2^p:=by
 have:(2:Int)^n<=2^p:=by
   have:=Nat.pow_le_pow_right (show 0<2 by omega) hn
   exact_mod_cast this
 exact Int.lt_of_lt_of_le h.1 this
def lenChk(i:Nat):Bool:=match(Q1f (i:Int)) with
 | .ofNat n=>decide ((i:Int)<2^n)&&(Nat.beq n 0||decide ((2:Int)^(n-1)<=i))&&decide (n<=8)
 |_=>false
theorem Qsd{q:Int}(h0:0<=q)(h1:q<256): ∃n:Nat,Q1f q=n/\Zk7 q n/\n<=8:=by
 have all:List.all (List.range 256) lenChk=true:=by kernel_rfl
 have:=List.all_eq_true.1 all q.toNat (List.mem_range.2 (by omega))
 have hq:((q.toNat:Nat):Int)=q:=by omega
 unfold lenChk at this
 rw[hq]at this
 split at this
 . rename_i n hn
   simp only[Bool.and_eq_true,Bool.or_eq_true,decide_eq_true_eq]at this
   refine⟨n,hn,⟨this.1.1,?_⟩,this.2⟩
   rcases this.1.2 with h|h
   . exact .inl (Nat.eq_of_beq_eq_true h)
   . exact .inr h
 . cases this
theorem xaF{x:Int}(h:U x)(hx:16777216<=x):Q1f x=24+Q1f (x/16777216):=by
 obtain⟨h0,h1⟩:=h
 have s16:ishr .u32 x 16=x/65536:=Qpz 16 (by omega)
 have s24:ishr .u32 (x/65536) 8=x/16777216:=by rw[show((8:Int))=((8:Nat):Int) from rfl,Qpz 8 (by omega)];omega
 have d1:decide (x>=65536)=true:=decide_eq_true (by omega)
 have d2:decide (x/65536>=256)=true:=decide_eq_true (by omega)
 have d3:decide (x/16777216>=65536)=false:=decide_eq_false (by omega)
 have d4:decide (x/16777216>=256)=false:=decide_eq_false (by omega)
 have u:IntKind.u8.wrap (x/16777216)=x/16777216:=by rw[IntKind.wrap_u8];omega
 simp only[Q1f,Q1n,Tree.m,s16,s24,d1,d2,d3,d4,u,cond_true,cond_false]
 generalize(List.getD _ (Int.toNat (x/16777216)) (0:UInt8))=b
 have hb:=UInt8.toNat_lt b
 rw[IntKind.wrap_i64,IntKind.wrap_i64,IntKind.wrap_i64,IntKind.wrap_i64]
 omega
theorem qaG{x:Int}(h0:65536<=x)(h1:x<16777216):Q1f x=16+Q1f (x/65536):=by
 have s16:ishr .u32 x 16=x/65536:=Qpz 16 (by omega)
 have d1:decide (x>=65536)=true:=decide_eq_true (by omega)
 have d2:decide (x/65536>=256)=false:=decide_eq_false (by omega)
 have d3:decide (x/65536>=65536)=false:=decide_eq_false (by omega)
 have u:IntKind.u8.wrap (x/65536)=x/65536:=by rw[IntKind.wrap_u8];omega
 simp only[Q1f,Q1n,Tree.m,s16,d1,d2,d3,u,cond_true,cond_false]
 generalize(List.getD _ (Int.toNat (x/65536)) (0:UInt8))=b
 have hb:=UInt8.toNat_lt b
 rw[IntKind.wrap_i64,IntKind.wrap_i64,IntKind.wrap_i64]
 omega
theorem len_8{x:Int}(h0:256<=x)(h1:x<65536):Q1f x=8+Q1f (x/256):=by
 have s8:ishr .u32 x 8=x/256:=Qpz 8 (by omega)
 have d1:decide (x>=65536)=false:=decide_eq_false (by omega)
 have d2:decide (x>=256)=true:=decide_eq_true (by omega)
 have d3:decide (x/256>=65536)=false:=decide_eq_false (by omega)
 have d4:decide (x/256>=256)=false:=decide_eq_false (by omega)
 have u:IntKind.u8.wrap (x/256)=x/256:=by rw[IntKind.wrap_u8];omega
 simp only[Q1f,Q1n,Tree.m,s8,d1,d2,d3,d4,u,cond_true,cond_false]
 generalize(List.getD _ (Int.toNat (x/256)) (0:UInt8))=b
 have hb:=UInt8.toNat_lt b
 rw[IntKind.wrap_i64,IntKind.wrap_i64,IntKind.wrap_i64,IntKind.wrap_i64]
 omega
theorem Zk3{x:Int}(h:U x): ∃n:Nat,Q1f x=n/\Zk7 x n:=by
  obtain⟨h0,h1⟩:=h
  rcases Int.lt_or_le x 256 with a|a
  . obtain⟨n,e,l,_⟩:=Qsd h0 a
    exact⟨n,e,l⟩
  . rcases Int.lt_or_le x 65536 with b|b
    . obtain⟨n,e,l,_⟩:=Qsd (q:=x/256) (by omega) (by omega)
      exact⟨n+8,by rw[len_8 a b,e];omega,Z86 (k:=8) rfl (by omega) l⟩
    . rcases Int.lt_or_le x 16777216 with c|c
      . obtain⟨n,e,l,_⟩:=Qsd (q:=x/65536) (by omega) (by omega)
        exact⟨n+16,by rw[qaG b c,e];omega,Z86 (k:=16) rfl (by omega) l⟩
      . obtain⟨n,e,l,_⟩:=Qsd (q:=x/16777216) (by omega) (by omega)
        exact⟨n+24,by rw[xaF ⟨h0,h1⟩ c,e];omega,Z86 (k:=24) rfl (by omega) l⟩
theorem Qzd{b:Q07}(h:U b.C4){P:Nat}:Q2f b P=true↔b.C4<2^P:=by
 obtain⟨n,e,l⟩:=Zk3 h
 have hp:(if(0:Int)>(P:Int) then(0:Int) else P)=P:=by rw[if_neg (by omega)]
 simp only[Q2f,Q3m,Tree.m,letv,e,hp,decide_eq_true_eq]
 constructor
 . intro h;exact Zgx l (by omega)
 . intro h;have:=zH l h;omega
theorem Z91{a:Int}(h:U a){P:Nat}(h1:a<2^P):(BitVec.ofInt 32 a).toNat<2^P:=by
 obtain⟨a0,a1⟩:=h
 rw[BitVec.toNat_ofInt,Int.emod_eq_of_lt a0 (by omega)]
 have:((2^P:Nat):Int)=(2:Int)^P:=by exact_mod_cast rfl
 omega
theorem or_lt{a b:Int}(ha:U a)(hb:U b){P:Nat}(hP:P<=32)(h1:a<2^P)(h2:b<2^P):ior .u32 a b<2^P:=by
 have e:(BitVec.ofInt 32 a|||BitVec.ofInt 32 b).toNat<2^P:=by
   rw[BitVec.toNat_or]
   exact Nat.or_lt_two_pow (Z91 ha h1) (Z91 hb h2)
 have hc:((2^P:Nat):Int)=(2:Int)^P:=by exact_mod_cast rfl
 have l:=(BitVec.ofInt 32 a|||BitVec.ofInt 32 b).isLt
 show IntKind.wrap .u32 ((BitVec.ofInt 32 a|||BitVec.ofInt 32 b).toNat:Int)<2^P
 rw[IntKind.wrap_u32]
 omega
theorem zag{a b:Int}(ha:U a){P:Nat}(h1:a<2^P):Qg5 .u32 a b<2^P:=by
 have e:(BitVec.ofInt 32 a&&&~~~BitVec.ofInt 32 b).toNat<2^P:=by
   rw[BitVec.toNat_and]
   exact Nat.lt_of_le_of_lt Nat.and_le_left (Z91 ha h1)
 have hc:((2^P:Nat):Int)=(2:Int)^P:=by exact_mod_cast rfl
 have l:=(BitVec.ofInt 32 a&&&~~~BitVec.ofInt 32 b).isLt
 show IntKind.wrap .u32 ((BitVec.ofInt 32 a&&&~~~BitVec.ofInt 32 b).toNat:Int)<2^P
 rw[IntKind.wrap_u32]
 omega
theorem qg{v:Int}(h0:0<=v)(h1:v<32):ishl .u32 1 v=2^v.toNat:=by
 have e:min v.toNat IntKind.u32.bits=v.toNat:=by show min v.toNat 32=v.toNat;omega
 obtain⟨n,rfl⟩: ∃n:Nat,v=n:=⟨v.toNat,by omega⟩
 have hn:n<32:=by omega
 have hlt:(2:Nat)^n<4294967296:=by
   have:=Nat.pow_lt_pow_right (show 1<2 by omega) hn
   simpa using this
 have hc:((2^n:Nat):Int)=(2:Int)^n:=by exact_mod_cast rfl
 unfold ishl
 rw[e,IntKind.wrap_u32,Int.one_mul,Int.toNat_natCast,<-hc]
 clear hc e
 generalize(2:Nat)^n=z at*
 omega
def keepB(P:Nat)(b b':Q07):Prop:=okB b'/\(Q2f b P=true->Q2f b' P=true)
theorem Zkx{P:Nat}{m:List Int}(h:Q0z P m){b:Q07}(hb:okB b)(port:Int){v:Int}(hv:U v):(Q3q b m port v).w (λr=>keepB P b r.1/\Q0z P r.2):=by
 have hcl:Q04 m=m:=rfl
 have h2:=h.p2
 have hp:=Q38 h
 have keep:(Tree.an (Q06 m) (.lv (Q04 m) λx=> .lf (b,x))).w (λr=>keepB P b r.1/\Q0z P r.2):=w_an (Q9h h) (w_lv λx hx=>by rw[hcl]at hx;subst hx;exact⟨⟨hb,λh=>h⟩,h⟩)
 unfold Q3q
 refine w_br (λ_=>keep) λhlt=>w_cn (decide_eq_true hv.1) (w_br (λ_=>w_lv λx1 hx=>w_br (λhpg=>w_br (λ_=>w_an ⟨by decide,by decide,by decide⟩ (w_lv λx2 _=>Q0c (Z1e h _ _) λx3 ⟨h3,_⟩=> ?_)) (λ_=>keep)) (λ_=>keep)) (λ_=>w_br (λ_=>w_an (Q9h h) (w_lv λx hx=> ?_)) (λ_=>keep)))
 . have hlt:=of_decide_eq_false hlt
   have hpg:=of_decide_eq_true hpg
   rw[hx,hp]at hpg
   obtain⟨v0,v1⟩:=hv
   have ev:IntKind.i64.wrap v=v:=by rw[IntKind.wrap_i64];omega
   rw[ev]at hpg
   refine⟨⟨⟨hb.1,Q0q _⟩,λhm=> ?_⟩,h3⟩
   rw[Qzd hb.2]at hm
   rw[Qzd (Q0q _)]
   have hs:ishl .u32 1 v<2^P:=by
     rw[qg v0 (by omega)]
     have:=Nat.pow_lt_pow_right (show 1<2 by omega) (show v.toNat<P by omega)
     exact_mod_cast this
   exact or_lt hb.2 (Q0q _) h2 hm hs
 . rw[hcl]at hx;subst hx
   refine⟨⟨⟨hb.1,Q0q _⟩,λhm=> ?_⟩,h⟩
   rw[Qzd hb.2]at hm
   rw[Qzd (Q0q _)]
   exact zag hb.2 hm
structure kept(P:Nat)(m n:Q00):Prop where
 ok:okS P n
 dev:Q0v m=true->Q0v n=true
 cpu:n.B3=m.B3
 cnt:n.A3=m.A3
 wait:n.A6=m.A6
 halt:n.A7=m.A7
theorem Zem{P:Nat}{m:Q00}(h:okS P m):kept P m m:=⟨h,λh=>h,rfl,rfl,rfl,rfl⟩
theorem Qol{P:Nat}{m n:Q00}(hm:Q0z P m.Mem)(hn:Q0z P n.Mem)(hc:Q29 m.A1=true->Q29 n.A1=true)(ht:Q3u m.B1=true->Q3u n.B1=true)
   (hd:Q1b m.B0 P=true->Q1b n.B0 P=true) (hk:Q5m m.C7 P=true->Q5m n.C7 P=true) (hb:Q2f m.A2 P=true->Q2f n.A2 P=true) (h:Q0v m=true):Q0v n=true:=by
 rw[zf]at h⊢
 rw[Q38 hm]at h
 rw[Q38 hn]
 simp only[Bool.and_eq_true]at h⊢
 exact⟨hc h.1,ht h.2.1,hd h.2.2.1,hk h.2.2.2.1,hb h.2.2.2.2⟩
theorem Zfz{P:Nat}{m:Q00}(h:okS P m)(port:Int){v:Int}(hv:U v)(at0:Int):(Q39 m port v at0).w (λr=>kept P m r.1/\r.2.length<=1):=by
 have k:=Zem h
 obtain⟨h1,h2,h3,h4,h5,h6⟩:=h
 have id: ∀{p:Prop},p->p:=λh=>h
 have D: ∀(x:Q0d×List Q02),(keepD P m.B0 x.1/\x.2.length<=1)->kept P m {B3:=m.B3,Mem:=m.Mem,A1:=m.A1,B1:=m.B1,B0:=x.1,C7:=m.C7,A2:=m.A2,A3:=m.A3,A6:=m.A6,A7:=m.A7}/\x.2.length<=1:=λx hx=>
   ⟨⟨⟨h1,h2,hx.1.1,h4,h5,h6⟩,Qol h2 h2 id id hx.1.2 id id,rfl,rfl,rfl,rfl⟩,hx.2⟩
 have N: ∀(x:Q0p×List Q02),(keepN P m.C7 x.1/\x.2.length<=1)->kept P m {B3:=m.B3,Mem:=m.Mem,A1:=m.A1,B1:=m.B1,B0:=m.B0,C7:=x.1,A2:=m.A2,A3:=m.A3,A6:=m.A6,A7:=m.A7}/\x.2.length<=1:=λx hx=>
   ⟨⟨⟨h1,h2,h3,hx.1.1,h5,h6⟩,Qol h2 h2 id id id hx.1.2 id,rfl,rfl,rfl,rfl⟩,hx.2⟩
 have B: ∀(x:Q07×List Int),(keepB P m.A2 x.1/\Q0z P x.2)->kept P m {B3:=m.B3,Mem:=x.2,A1:=m.A1,B1:=m.B1,B0:=m.B0,C7:=m.C7,A2:=x.1,A3:=m.A3,A6:=m.A6,A7:=m.A7}/\([]:List Q02).length<=1:=λx hx=>
   ⟨⟨⟨h1,hx.2,h3,h4,hx.1.1.1,hx.1.1.2⟩,Qol h2 hx.2 id id id id hx.1.2,rfl,rfl,rfl,rfl⟩,Nat.zero_le _⟩
 unfold Q39
 repeat'(first
   |exact⟨k,Nat.le_refl _⟩
   |exact⟨k,Nat.zero_le _⟩
   |exact w_lv λx hx=>⟨⟨⟨h1,h2,h3,h4,h5,h6⟩,Qol h2 h2 id (λ_=>by rw[hx];exact qag _ _) id id id,rfl,rfl,rfl,rfl⟩,Nat.zero_le _⟩
   |exact Q0c (xaf h2 h3 _ hv _) λx hx=>D x hx
   |exact Q0c (zaF h2 h4 _ hv _) λx hx=>N x hx
   |exact Q0c (Zkx h2 ⟨h5,h6⟩ _ hv) λx hx=>B x hx
   |refine w_br (λ_=> ?_) (λ_=> ?_))
theorem Z4n(c:Q0a)(port:Int):(Q96 c port).w (λr=>U r.2/\(Q29 c=true->Q29 r.1=true)):=by
 have u1:U 4294967295:=⟨by omega,by omega⟩
 unfold Q96
 refine w_br (λ_=>w_br (λ_=>⟨u1,λh=>h⟩) (λhb=>w_cn ?_ (w_cn ?_ ⟨Q0q _,λhm=> ?_⟩))) (λ_=>w_br (λ_=>⟨Q0q _,λh=>h⟩) (λ_=>⟨U_0,λh=>h⟩))
 . have hb:=of_decide_eq_false hb
   have:0<c.D5.length:=List.length_pos_iff.2 hb
   simp [Nat.blt];omega
 . have hb:=of_decide_eq_false hb
   have:0<c.D5.length:=List.length_pos_iff.2 hb
   exact decide_eq_true (by omega)
 . have hm:decide ((c.D5.length:Int)<=16)=true:=hm
   have hm:=of_decide_eq_true hm
   show decide (((List.take _ (List.drop _ c.D5)).length:Int)<=16)=true
   refine decide_eq_true ?_
   rw[List.length_take,List.length_drop];omega
theorem Zkh{P:Nat}{m:Q00}(h:okS P m)(port:Int){clock:Int}(hc:U clock):(Q46 m port clock).w (λr=>kept P m r.1/\U r.2):=by
 have k:=Zem h
 obtain⟨h1,h2,h3,h4,h5,h6⟩:=h
 have id: ∀{p:Prop},p->p:=λh=>h
 have ti: ∀t,U (Qyc t):=λt=>by
   refine Tree.post (Qok t) (W:=U) ?_
   unfold Qok
   exact w_br (λ_=>⟨by omega,by omega⟩) (λ_=>U_0)
 have di: ∀p,U (Qvc m.B0 p):=λp=>by
   refine Tree.post (Qtf m.B0 p) (W:=U) ?_
   unfold Qtf
   exact w_br (λ_=>h3.block) (λ_=>w_br (λ_=>h3.frame) (λ_=>w_br (λ_=>Q0q _) (λ_=>U_0)))
 have ni: ∀p,U (Z1m m.C7 p):=λp=>by
   refine Tree.post (Qt4 m.C7 p) (W:=U) ?_
   unfold Qt4
   exact w_br (λ_=>h4.frame) (λ_=>w_br (λ_=>h4.got) (λ_=>w_br (λ_=>w_br (λ_=>w_br (λ_=>Q0q _) (λ_=>Q0q _)) (λ_=>w_br (λ_=>Q0q _) (λ_=>U_0))) (λ_=>U_0)))
 have bi: ∀p,(Qb8 m.A2 p).w U:=λp=>by
   unfold Qb8
   exact w_br (λ_=>h5) (λ_=>w_br (λ_=>Q0c (Zix h6) λ_ _=>Q0q _) (λ_=>U_0))
 have C: ∀(x:Q0a×Int),(U x.2/\(Q29 m.A1=true->Q29 x.1=true))->kept P m {B3:=m.B3,Mem:=m.Mem,A1:=x.1,B1:=m.B1,B0:=m.B0,C7:=m.C7,A2:=m.A2,A3:=m.A3,A6:=m.A6,A7:=m.A7}/\U x.2:=λx hx=>
   ⟨⟨⟨h1,h2,h3,h4,h5,h6⟩,Qol h2 h2 hx.2 id id id id,rfl,rfl,rfl,rfl⟩,hx.1⟩
 unfold Q46
 repeat'(first
   |exact⟨k,hc⟩
   |exact⟨k,U_0⟩
   |exact Q0c (Z4n _ _) λx hx=>C x hx
   |exact Zcz (Z4n _ _) λx hx=>C x hx
   |exact w_lv λx hx=>⟨k,by rw[hx];exact ti _⟩
   |exact w_lv λx hx=>⟨k,by rw[hx];exact di _⟩
   |exact w_lv λx hx=>⟨k,by rw[hx];exact ni _⟩
   |exact Q0c (bi _) λx hx=>⟨k,hx⟩
   |refine w_br (λ_=> ?_) (λ_=> ?_))
structure Q6j(c:Q03):Prop where
 x0:c.X.a0=0
 st:c.B7.a0<=31
 en:c.B7.a7<=31
 rt:c.B7.a6<=255
 ve:Int.tmod c.B7.a1 4=0
theorem Q6j.pc{c:Q03}(h:Q6j c)(p:Int):Q6j {X:=c.X,Pc:=p,B7:=c.B7}:=⟨h.x0,h.st,h.en,h.rt,h.ve⟩
theorem and31(a:Int):iand .u32 a 31<=31:=by
 have e:(BitVec.ofInt 32 a&&&BitVec.ofInt 32 31).toNat<=31:=by
   rw[BitVec.toNat_and]
   exact Nat.le_trans Nat.and_le_right (by decide)
 show IntKind.wrap .u32 ((BitVec.ofInt 32 a&&&BitVec.ofInt 32 31).toNat:Int)<=31
 rw[IntKind.wrap_u32];omega
theorem and255'(a:Int):iand .u32 a 255<=255:=by have:=and255 a;omega
theorem andn3(a:Int):Int.tmod (Qg5 .u32 a 3) 4=0:=by
 have e:(BitVec.ofInt 32 a&&&~~~BitVec.ofInt 32 3).toNat%4=0:=by
   rw[BitVec.toNat_and,show(~~~BitVec.ofInt 32 3).toNat=4294967292 by decide]
   have:=Nat.and_mod_two_pow (a:=(BitVec.ofInt 32 a).toNat) (b:=4294967292) (n:=2)
   simpa using this
 have l:=(BitVec.ofInt 32 a&&&~~~BitVec.ofInt 32 3).isLt
 show Int.tmod (IntKind.wrap .u32 ((BitVec.ofInt 32 a&&&~~~BitVec.ofInt 32 3).toNat:Int)) 4=0
 rw[IntKind.wrap_u32,Int.tmod_eq_emod_of_nonneg (by omega)]
 omega
theorem fin32{f:Int->Int}(h:(List.range 32).all (λn=>decide (f n<=31))=true){s:Int}(h0:0<=s)(h1:s<=31):f s<=31:=by
 have:=List.all_eq_true.1 h s.toNat (List.mem_range.2 (by omega))
 have e:((s.toNat:Nat):Int)=s:=by omega
 rw[e]at this
 exact of_decide_eq_true this
theorem Qli{c:Q03}(h:Q2e c)(m:Q6j c)(k b:Int):Q6j (Q45 c k b):=
 ⟨m.x0,fin32 (f:=λs=>Qg5 .u32 (ior .u32 (Q8h (Q8h s 1 8) 2 16) 1) 2) (by kernel_rfl) h.a0.1 m.st,m.en,m.rt,m.ve⟩
theorem Zkq{c:Q03}(h:Q2e c)(m:Q6j c):Q6j (Qd2 c):=
 ⟨m.x0,fin32 (f:=λs=>Q8h (Q8h s 8 1) 16 2) (by kernel_rfl) h.a0.1 m.st,m.en,m.rt,m.ve⟩
theorem Qvb{c:Q03}(m:Q6j c){r:Int}(hr:0<=r/\r<16)(v:Int):(Qbk c r v).w Q6j:=by
 unfold Qbk
 refine w_br (λhn=>w_cn (rc hr) ?_) (λ_=>m)
 have hn:r≠0:=by simpa using hn
 obtain⟨n,e⟩: ∃n:Nat,r.toNat=n+1:=⟨r.toNat-1,by omega⟩
 refine⟨?_,m.st,m.en,m.rt,m.ve⟩
 show(A16.of 0 (List.set (A16.l c.X) r.toNat v)).a0=0
 rw[e]
 exact m.x0
theorem xg{c:Q03}(m:Q6j c)(k v:Int):(Qb6 c k v).w Q6j:=by
 unfold Qb6
 refine w_br (λhk=>w_cn (by rw[eq_of_beq hk];decide) ?_) λ_=>w_br (λhk=>w_cn (by rw[eq_of_beq hk];decide) ?_) λ_=>w_br (λhk=>w_cn (by rw[eq_of_beq hk];decide) ?_) λ_=>w_br (λhk=>w_cn (by rw[eq_of_beq hk];decide) ?_) λ_=>w_br (λhk=>w_cn (by rw[eq_of_beq hk];decide) ?_) λ_=>w_br (λhk=>w_cn (by rw[eq_of_beq hk];decide) ?_) λ_=>w_br (λhk=>w_cn (by rw[eq_of_beq hk];decide) ?_) λ_=>w_br (λhk=>w_cn (by rw[eq_of_beq hk];decide) ?_) (λ_=>m)
 all_goals(have hk:=eq_of_beq hk;subst hk)
 . exact⟨m.x0,and31 _,m.en,m.rt,m.ve⟩
 . exact⟨m.x0,m.st,and31 _,m.rt,m.ve⟩
 . exact⟨m.x0,m.st,m.en,and255' _,m.ve⟩
 . exact⟨m.x0,m.st,m.en,m.rt,andn3 _⟩
 . exact⟨m.x0,m.st,m.en,m.rt,m.ve⟩
 . exact⟨m.x0,m.st,m.en,m.rt,m.ve⟩
 . exact⟨m.x0,m.st,m.en,m.rt,m.ve⟩
 . exact⟨m.x0,m.st,m.en,m.rt,m.ve⟩
section
variable {c:Q03} (h:Q2e c) (m:Q6j c) {i:Q0i} (hi:Qem i)
include h m hi
theorem Zhn:(Q4t c i).w (λr=>Q6j r.1):=by
 unfold Q4t
 refine w_cn (rc hi.a) (w_cn (rc hi.b) ?_)
 repeat'(first
   |refine w_br (λ_=> ?_) (λ_=> ?_)
   |exact Q0c (Qvb m hi.a _) λx hx=>hx.pc _
   |exact w_lv λx _=>w_br (λ_=>m.pc _) (λ_=>m.pc _)
   |exact w_lv λx hx=>by rw[hx];exact Qli h m _ _
   |exact w_lv λx hx=>by rw[hx];exact Zkq h m
   |exact w_cn (by have:=hi.csr (by simp_all);simp [Nat.blt];omega) (Q0c (Qvb m hi.a _) λx hx=>hx.pc _)
   |exact Q0c (xg m _ _) λx hx=>hx.pc _
   |refine w_cn (rc hi.c) ?_
   |exact Q0c (Z68 _ (h.r _) (Q0q _)) λy hy=>Q0c (Qvb m hi.a _) λx hx=>hx.pc _
   |exact Q0c (Z68 _ (h.r _) (h.r _)) λy hy=>Q0c (Qvb m hi.a _) λx hx=>hx.pc _
   |refine w_lf ?_)
 all_goals exact m.pc _
theorem yH{P:Nat}{mem:List Int}(hm:Q0z P mem):(Qdn c mem i).w (λr=>Q6j r.1):=by
 have w:=Z6q i.Op
 unfold Qdn
 refine w_cn (rc hi.b) (w_lv λx0 h0=> ?_)
 rw[<-h0]at w
 refine Q0c (Qkp hm (Q0q _) w 2) λx1 h1=>w_br (λ_=>w_lv λy hy=>by rw[hy];exact Qli h m _ _) (λ_=>w_lv λx3 h3=> ?_)
 rw[h0,<-h3]at w
 exact Q0c (Qqu h1.2 h1.1 w) λx4 h4=>w_br (λ_=>Q0c (Qva h4.1 8) λy hy=>Q0c (Qvb m hi.a _) λx hx=>hx.pc _) (λ_=>Q0c (Qvb m hi.a _) λx hx=>hx.pc _)
theorem zg{P:Nat}{mem:List Int}(hm:Q0z P mem):(Qav c mem i).w (λr=>Q6j r.1):=by
 have w:=Z6q i.Op
 unfold Qav
 refine w_cn (rc hi.b) (w_lv λx0 h0=> ?_)
 rw[<-h0]at w
 refine Q0c (Qkp hm (Q0q _) w 3) λx1 h1=>w_br (λ_=>w_lv λy hy=>by rw[hy];exact Qli h m _ _) (λ_=>w_lv λx3 h3=>w_cn (rc hi.a) ?_)
 rw[h0,<-h3]at w
 exact Q0c (Qy9 h1.2 h1.1 w (h.r _)) λx hx=>m.pc _
end
theorem vH{c:Q03}(h:Q2e c)(m:Q6j c){P:Nat}{mem:List Int}(hm:Q0z P mem):(Q7 c mem).w (λr=>Q6j r.1):=by
 unfold Q7
 refine Q0c (Z9i hm h) λx0 h0=>w_br (λ_=>w_lv λy hy=>by rw[hy];exact Qli h m _ _) (λ_=>Q0c (Z0q _) λx2 h2=>w_br (λ_=>w_lv λy hy=>by rw[hy];exact Qli h m _ _) (λhb=> ?_))
 have hi:=h2 (by simpa using hb)
 refine w_lv λx4 _=> ?_
 repeat'(first
   |refine w_br (λ_=> ?_) (λ_=> ?_)
   |exact Q0c (yH h m hi h0.2) λx hx=>hx
   |exact Q0c (zg h m hi h0.2) λx hx=>hx
   |exact Q0c (Zhn h m hi) λx hx=>hx
   |exact w_lv λy hy=>by rw[hy];exact Qli h m _ _
   |refine w_lv λ_ _=> ?_)
theorem Zgk{c:Q03}(h:Q2e c){i:Q0i}(hi:Qem i):(Q4t c i).w (λr=>0<=r.2.F3/\r.2.F3<16):=by
 have z:(0:Int)<=0/\(0:Int)<16:=⟨by decide,by decide⟩
 unfold Q4t
 refine w_cn (rc hi.a) (w_cn (rc hi.b) ?_)
 repeat'(first
   |refine w_br (λ_=> ?_) (λ_=> ?_)
   |exact Q0c (Qpj h hi.a (Q0q _)) λx hx=>z
   |exact w_lv λx _=>w_br (λ_=>z) (λ_=>z)
   |exact w_lv λx hx=>z
   |exact w_cn (by have:=hi.csr (by simp_all);simp [Nat.blt];omega) (Q0c (Qpj h hi.a (h.a _)) λx hx=>z)
   |exact Q0c (Zjl h _ (h.r _)) λx hx=>z
   |refine w_cn (rc hi.c) ?_
   |exact Q0c (Z68 _ (h.r _) (Q0q _)) λy hy=>Q0c (Qpj h hi.a hy) λx hx=>z
   |exact Q0c (Z68 _ (h.r _) (h.r _)) λy hy=>Q0c (Qpj h hi.a hy) λx hx=>z
   |refine w_lf ?_)
 all_goals first|exact z|exact hi.a
theorem Zi9{c:Q03}(h:Q2e c){P:Nat}{mem:List Int}(hm:Q0z P mem):(Q7 c mem).w (λr=>0<=r.2.2.F3/\r.2.2.F3<16):=by
 have z:(0:Int)<=0/\(0:Int)<16:=⟨by decide,by decide⟩
 unfold Q7
 refine Q0c (Z9i hm h) λx0 h0=>w_br (λ_=>w_lv λy hy=>z) (λ_=>Q0c (Z0q _) λx2 h2=>w_br (λ_=>w_lv λy hy=>z) (λhb=> ?_))
 have hi:=h2 (by simpa using hb)
 refine w_lv λx4 _=> ?_
 repeat'(first
   |refine w_br (λ_=> ?_) (λ_=> ?_)
   |exact Q0c (Z04 h hi h0.2) λx hx=>z
   |exact Q0c (Qwn h hi h0.2) λx hx=>z
   |exact Q0c (Zgk h hi) λx hx=>hx
   |exact w_lv λy hy=>z
   |refine w_lv λ_ _=> ?_)
theorem cnd2{a x:Bool}:(bif a then false else x)=true↔a=false/\x=true:=by cases a<;>simp
theorem Qv8(m:Q00):Q1c m=true↔Q0t m.Mem≠0/\Q6j m.B3/\m.A3<=1152921504606846976/\ ¬(m.A6=true/\m.A7=true)/\Q0v m=true:=by
  rw[zW]
  unfold mayC chain
  rw[cnd2,cnd2,cnd2,cnd2,cnd2,cnd2,cnd2]
  simp only[decide_eq_false_iff_not,Int.not_lt,beq_eq_false_iff_ne,bne_eq_false_iff_eq,gt_iff_lt]
  constructor
  . rintro⟨a1,a2,a3,a4,a5,a6,a7,a8⟩
    refine⟨a1,⟨a2,a3,a4,a5,a6⟩,a7,?_,?_⟩
    . rintro⟨w,h⟩;rw[w,h]at a8;cases a8
    . revert a8;cases m.A6
      . exact λh=>h
      . cases m.A7
        . exact λh=>h
        . intro h;cases h
  . rintro⟨a1,⟨a2,a3,a4,a5,a6⟩,a7,a8,a9⟩
    refine⟨a1,a2,a3,a4,a5,a6,a7,?_⟩
    rw[a9]
    cases hw:m.A6
    . rfl
    . cases hh:m.A7
      . rfl
      . exact absurd ⟨hw,hh⟩ a8
theorem Zib{m:Q00}(h:Q41 m=true):Q1c m=true/\m.A7=false/\m.A3<1152921504606846976:=by
  simp only[Q41,Q3o,Tree.m,letv]at h
  cases h1:Q1c m
  . rw[h1]at h;cases h
  . cases h2:m.A7
    . rw[h1,h2]at h
      cases h3:Qbf m
      . rw[h3]at h
        have h:decide (m.A3<1152921504606846976)=true:=h
        exact⟨rfl,rfl,of_decide_eq_true h⟩
      . rw[h3]at h;cases h
    . rw[h1,h2]at h;cases h
theorem Z1z{P:Nat}{m:Q00}(h:okS P m)(g:Q6j m.B3):(Q3v m).w (λr=>Q6j r.B3/\okS P r/\r.Mem=m.Mem/\r.A6=false/\r.A7=m.A7/\r.A3=m.A3/\r.A1=m.A1/\r.B1=m.B1/\r.B0=m.B0/\r.C7=m.C7/\r.A2=m.A2):=by
 obtain⟨h1,h2,h3,h4,h5,h6⟩:=h
 unfold Q3v
 refine w_br (λ_=>⟨g,⟨h1,h2,h3,h4,h5,h6⟩,rfl,rfl,rfl,rfl,rfl,rfl,rfl,rfl,rfl⟩) (λ_=>Q0c (Z5b (m:=⟨_,_,_,_,_,_,m.A2,_,_,_⟩) h6) λx0 _=>w_lp (inv:=λz=>0<=z/\z<=5) (μ:=Qhv m) ⟨by omega,by omega⟩ (Nat.lt_succ_self _) (λz hz=> ?_))
 obtain⟨z1,z2⟩:=hz
 refine w_br (λhb=>w_cn (decide_eq_true z1) (w_br (λ_=>w_lv λx1 hx=>⟨by rw[hx];exact Qli h1 g _ _,⟨by rw[hx];exact Qqz h1 _ U_0,h2,h3,h4,h5,h6⟩,rfl,rfl,rfl,rfl,rfl,rfl,rfl,rfl,rfl⟩) (λ_=>w_nx ?_))) (λ_=>⟨g,⟨h1,h2,h3,h4,h5,h6⟩,rfl,rfl,rfl,rfl,rfl,rfl,rfl,rfl,rfl⟩)
 have hb:=of_decide_eq_true hb
 show(0<=IntKind.i64.wrap (z+1)/\IntKind.i64.wrap (z+1)<=5)/\(5-IntKind.i64.wrap (z+1)).toNat<(5-z).toNat
 have ew:IntKind.i64.wrap (z+1)=z+1:=by rw[IntKind.wrap_i64];omega
 rw[ew];omega
structure Good(P:Nat)(m r:Q00):Prop where
 ok:okS P r
 cnt:0<=r.A3
 may:Q1c m=true->Q1c r=true
 or:r=m\/r.A3=m.A3+1
theorem xag{P:Nat}{m:Q00}(h:okS P m)(hc0:0<=m.A3){clock:Int}(hk:U clock):(Q6h m clock).w (λr=>r.2.length<=1/\Good P m r.1):=by
 have hcl:Q04 m.Mem=m.Mem:=rfl
 unfold Q6h
 refine w_an (Q9h h.mem) (w_lv λl hl=> ?_)
 rw[hcl]at hl;subst hl
 refine w_an (Tree.pp (zay (m:=⟨_,_,_,_,_,_,m.A2,_,_,_⟩) h.given)).1 (w_lv λx1 hx1=>w_br (λ_=>⟨Nat.zero_le _,h,hc0,λh=>h, .inl rfl⟩) (λhb=> ?_))
 have hr:Q41 m=true:=by rw[<-show x1=Q41 m from hx1];simpa using hb
 obtain⟨hm,hh,hct⟩:=Zib hr
 obtain⟨g1,g2,g3,g4,g5⟩:=(Qv8 m).1 hm
 have hP:(P:Int)≠0:=by rw[<-Q38 h.mem];exact g1
 have fin: ∀(n:Q00),okS P n->Q6j n.B3->Q0v n=true->n.A3=m.A3-> ¬(n.A6=true/\n.A7=true)->Good P m {B3:=n.B3,Mem:=n.Mem,A1:=n.A1,B1:=n.B1,B0:=n.B0,C7:=n.C7,A2:=n.A2,A3:=IntKind.wrap .u64 (n.A3+1),A6:=n.A6,A7:=n.A7}:=λn a b c d e=>by
   have ec:IntKind.wrap .u64 (n.A3+1)=m.A3+1:=by rw[d,IntKind.wrap_u64];omega
   refine⟨⟨a.cpu,a.mem,a.disk,a.nic,a.target,a.given⟩,?_,λ_=>(Qv8 _).2 ⟨?_,b,?_,e,c⟩, .inr ec⟩
   . show 0<=IntKind.wrap .u64 (n.A3+1);omega
   . show Q0t n.Mem≠0;rw[Q38 a.mem];exact hP
   . show IntKind.wrap .u64 (n.A3+1)<=_;omega
 refine Q0c (Z1z (m:=⟨_,_,m.A1,m.B1,m.B0,m.C7,m.A2,m.A3,m.A6,m.A7⟩) ⟨h.cpu,h.mem,h.disk,h.nic,h.target,h.given⟩ g2) λx2 hx2=> ?_
 obtain⟨b1,b2,b3,b4,b5,b6,b7,b8,b9,b10,b11⟩:=hx2
 have ex:=Tree.pp (xax b2.cpu b2.mem)
 have em:=Tree.pp (vH b2.cpu b1 b2.mem)
 have er:=Tree.pp (Zi9 b2.cpu b2.mem)
 refine w_an ex.1 (w_lv λx3 h3=> ?_)
 obtain⟨e1,e2,e3⟩:Q2e x3.1/\Q0z P x3.2.1/\U x3.2.2.Value:=by rw[h3];exact ex.2
 have f1:Q6j x3.1:=by rw[h3];exact em.2
 have r1:0<=x3.2.2.F3/\x3.2.2.F3<16:=by rw[h3];exact er.2
 have ok3:okS P ⟨x3.1,x3.2.1,x2.A1,x2.B1,x2.B0,x2.C7,x2.A2,x2.A3,x2.A6,x2.A7⟩:=⟨e1,e2,b2.disk,b2.nic,b2.target,b2.given⟩
 have dev: ∀(w h:Bool),Q0v ⟨x3.1,x3.2.1,x2.A1,x2.B1,x2.B0,x2.C7,x2.A2,x2.A3,w,h⟩=true:=λw hh=>by
   have id: ∀{p:Prop},p->p:=λh=>h
   refine Qol (m:=m) (P:=P) h.mem e2 ?_ ?_ ?_ ?_ ?_ g5
   . show _->Q29 x2.A1=true;rw[b7];exact id
   . show _->Q3u x2.B1=true;rw[b8];exact id
   . show _->Q1b x2.B0 P=true;rw[b9];exact id
   . show _->Q5m x2.C7 P=true;rw[b10];exact id
   . show _->Q2f x2.A2 P=true;rw[b11];exact id
 have hw:x2.A6=false:=b4
 have hh2:x2.A7=false:=b5.trans hh
 have hct2:x2.A3=m.A3:=b6
 refine w_br (λ_=> ?_) λ_=>w_br (λ_=> ?_) λ_=>w_br (λ_=> ?_) λ_=>w_br (λ_=> ?_) λ_=> ?_
 . refine Q0c (Zkh ok3 _ hk) λx4 h4=> ?_
   obtain⟨k,u⟩:=h4
   have kc:x4.1.B3=x3.1:=k.cpu
   have kt:x4.1.A3=m.A3:=k.cnt.trans hct2
   have kw: ¬(x4.1.A6=true/\x4.1.A7=true):=λe=>by have:x4.1.A6=x2.A6:=k.wait;rw[this,hw]at e;cases e.1
   have km:Q6j x4.1.B3:=by rw[kc];exact f1
   refine w_br (λhn=>w_cn (rc r1) ⟨Nat.zero_le _,?_⟩) (λ_=>⟨Nat.zero_le _,fin x4.1 k.ok km (k.dev (dev _ _)) kt kw⟩)
   have hn:x3.2.2.F3≠0:=by simpa using hn
   obtain⟨q,e⟩: ∃q:Nat,x3.2.2.F3.toNat=q+1:=⟨x3.2.2.F3.toNat-1,by omega⟩
   refine fin ⟨⟨A16.of 0 (List.set (A16.l x4.1.B3.X) x3.2.2.F3.toNat x4.2),x4.1.B3.Pc,x4.1.B3.B7⟩,x4.1.Mem,x4.1.A1,x4.1.B1,x4.1.B0,x4.1.C7,x4.1.A2,x4.1.A3,x4.1.A6,x4.1.A7⟩ ⟨⟨Zeq k.ok.cpu.x u _,k.ok.cpu.pc,k.ok.cpu.csr⟩,k.ok.mem,k.ok.disk,k.ok.nic,k.ok.target,k.ok.given⟩ ⟨?_,km.st,km.en,km.rt,km.ve⟩ (k.dev (dev _ _)) kt kw
   show(A16.of 0 (List.set (A16.l x4.1.B3.X) x3.2.2.F3.toNat x4.2)).a0=0
   rw[e]
   exact km.x0
 . refine Q0c (Zfz ok3 _ e3 _) λx5 h5=> ?_
   obtain⟨k,u⟩:=h5
   have kc:x5.1.B3=x3.1:=k.cpu
   exact⟨u,fin x5.1 k.ok (by rw[kc];exact f1) (k.dev (dev _ _)) (k.cnt.trans hct2) (λe=>by have:x5.1.A6=x2.A6:=k.wait;rw[this,hw]at e;cases e.1)⟩
 . exact⟨Nat.zero_le _,fin ⟨x3.1,x3.2.1,x2.A1,x2.B1,x2.B0,x2.C7,x2.A2,x2.A3,true,x2.A7⟩ ⟨e1,e2,b2.disk,b2.nic,b2.target,b2.given⟩ f1 (dev _ _) hct2 (λe=>by have e2:x2.A7=true:=e.2;rw[hh2]at e2;cases e2)⟩
 . exact⟨Nat.zero_le _,fin ⟨x3.1,x3.2.1,x2.A1,x2.B1,x2.B0,x2.C7,x2.A2,x2.A3,x2.A6,true⟩ ⟨e1,e2,b2.disk,b2.nic,b2.target,b2.given⟩ f1 (dev _ _) hct2 (λe=>by have e2:x2.A6=true:=e.1;rw[hw]at e2;cases e2)⟩
 . exact⟨Nat.zero_le _,fin ⟨x3.1,x3.2.1,x2.A1,x2.B1,x2.B0,x2.C7,x2.A2,x2.A3,x2.A6,x2.A7⟩ ok3 f1 (dev _ _) hct2 (λe=>by have e2:x2.A6=true:=e.1;rw[hw]at e2;cases e2)⟩
theorem qI{P:Nat}{m:Q00}(h:okM P m){e:Q0e}(he:U e.N):(Q6z m e).w (λr=>(Q1c m=true->Q1c r.1=true)/\r.1.A3=m.A3/\U r.1.A2.C4):=by
 obtain⟨h1,h2,h3,h4,h5,h7⟩:=h
 have hcl:Q04 m.Mem=m.Mem:=rfl
 have pg: ∀{m':List Int},Q0z P m'->Q0t m'=Q0t m.Mem:=λh=>by rw[Q38 h,Q38 h2]
 have keep:(Q1c m=true->Q1c m=true)/\m.A3=m.A3/\U m.A2.C4:=⟨λh=>h,rfl,h5.2⟩
 unfold Q6z
 refine w_an (Q9h h2) (w_lv λl hl=> ?_)
 rw[hcl]at hl;subst hl
 refine Q0c (vY (m:=⟨_,_,_,_,_,_,m.A2,_,_,_⟩) h5.2) λx1 _=>w_br (λ_=>keep) λ_=>w_br (λ_=>keep) λ_=> ?_
 refine w_br (λ_=>w_br (λ_=>w_br (λ_=>w_lv λx hx=> ?_) (λ_=>keep)) (λ_=>keep)) λ_=>w_br (λ_=>w_br (λ_=>w_br (λ_=>Q0c (zaf _ _) λx hx=> ?_) (λ_=>keep)) (λ_=>keep)) λ_=>w_br (λhk=>Q0c (Zlf h2 h3 e) λx hx=> ?_) λ_=>w_br (λhk=>w_br (λ_=>Q0c (xf h2 h4 _) λx hx=> ?_) (λ_=>keep)) λ_=>w_br (λ_=>w_br (λ_=> ?_) (λ_=>keep)) (λ_=>keep)
 . exact⟨Qs0 rfl rfl rfl rfl rfl (λh=>h) (λh=>by rw[hx];exact xH _ h) (λ_ h=>h) (λ_ h=>h) rfl,rfl,h5.2⟩
 . exact⟨Qs0 rfl rfl rfl rfl rfl hx (λh=>h) (λ_ h=>h) (λ_ h=>h) rfl,rfl,h5.2⟩
 . obtain⟨a1,a2,a3,a4,a5⟩:=hx
   exact⟨Qs0 (pg a2) rfl rfl rfl rfl (λh=>h) (λh=>h) a5 (λ_ h=>h) rfl,rfl,h5.2⟩
 . obtain⟨a1,a2,a3,a4,a5⟩:=hx
   exact⟨Qs0 (pg a2) rfl rfl rfl rfl (λh=>h) (λh=>h) (λ_ h=>h) a5 rfl,rfl,h5.2⟩
 . exact⟨Qs0 rfl rfl rfl rfl rfl (λh=>h) (λh=>h) (λ_ h=>h) (λ_ h=>h) rfl,rfl,h5.2⟩
structure okW(m:Q00):Prop where
 cpu:Q2e m.B3
 u: ∀w∈m.Mem,U w
 len:m.Mem.length<=1024
 disk:Q8e m.B0
 nic:Qin m.C7
 bal:okB m.A2
 cnt:0<=m.A3
theorem Qvf{a:Int}(h:U a):(BitVec.ofInt 32 a).toNat=a.toNat:=by
 obtain⟨h1,h2⟩:=h
 rw[BitVec.toNat_ofInt];omega
theorem Zfh{a b:Int}(ha:U a)(hb:U b):iand .u32 a b=((a.toNat&&&b.toNat:Nat):Int):=by
 have l:=(BitVec.ofInt 32 a&&&BitVec.ofInt 32 b).isLt
 have e:(BitVec.ofInt 32 a&&&BitVec.ofInt 32 b).toNat=a.toNat&&&b.toNat:=by rw[BitVec.toNat_and,Qvf ha,Qvf hb]
 show IntKind.wrap .u32 ((BitVec.ofInt 32 a&&&BitVec.ofInt 32 b).toNat:Int)=_
 rw[IntKind.wrap_u32,<-e];omega
theorem zaG{a b:Int}(ha:U a)(hb:U b):ior .u32 a b=((a.toNat|||b.toNat:Nat):Int):=by
 have l:=(BitVec.ofInt 32 a|||BitVec.ofInt 32 b).isLt
 have e:(BitVec.ofInt 32 a|||BitVec.ofInt 32 b).toNat=a.toNat|||b.toNat:=by rw[BitVec.toNat_or,Qvf ha,Qvf hb]
 show IntKind.wrap .u32 ((BitVec.ofInt 32 a|||BitVec.ofInt 32 b).toNat:Int)=_
 rw[IntKind.wrap_u32,<-e];omega
theorem Z89{a:Int}(ha:U a)(k:Nat)(hk:k<=32){q:Int}(hq:q=((2^k-1:Nat):Int)):iand .u32 a q=a%2^k:=by
 have hp:2^k<=2^32:=Nat.pow_le_pow_right (by decide) hk
 have h1:(2:Nat)^32=4294967296:=by decide
 have hpos:=Nat.two_pow_pos k
 subst hq
 rw[Zfh ha ⟨by omega,by omega⟩,Int.toNat_natCast,Nat.and_two_pow_sub_one_eq_mod]
 have:=ha.1
 rw[Int.natCast_emod,Int.toNat_of_nonneg this]
 simp
theorem m15{a:Int}(ha:U a):iand .u32 a 15=a%16:=Z89 ha 4 (by decide) rfl
theorem m255{a:Int}(ha:U a):iand .u32 a 255=a%256:=Z89 ha 8 (by decide) rfl
theorem m65535{a:Int}(ha:U a):iand .u32 a 65535=a%65536:=Z89 ha 16 (by decide) rfl
theorem Qt0(p:Int->Bool)(N:Nat)(h:(List.range N).all (λn=>p n)=true){s:Int}(h0:0<=s)(h1:s<N):p s=true:=by
 have:=List.all_eq_true.1 h s.toNat (List.mem_range.2 (by omega))
 rwa [Int.toNat_of_nonneg h0]at this
theorem w64{x:Int}(h0: -9223372036854775808<=x)(h1:x<9223372036854775808):IntKind.wrap .i64 x=x:=by rw[IntKind.wrap_i64];omega
theorem shr0(a:Int):ishr .u32 a 0=a:=by have:=Qpz (a:=a) 0 (by decide);simpa using this
theorem fld(w:Int):Q2p w 24 8=iand .u32 (ishr .u32 w 24) 255/\Q2p w 20 4=iand .u32 (ishr .u32 w 20) 15/\Q2p w 16 4=iand .u32 (ishr .u32 w 16) 15/\Q2p w 0 16=iand .u32 (ishr .u32 w 0) 65535/\Q2p w 8 8=iand .u32 (ishr .u32 w 8) 255:=
 ⟨by kernel_rfl,by kernel_rfl,by kernel_rfl,by kernel_rfl,by kernel_rfl⟩
def useOf(f:Int):Q8f×Bool:=
 bif f==1 then(⟨false,false,false,0,0⟩,true) else bif f==2 then(⟨true,true,true,0,0⟩,true) else bif f==3 then(⟨true,true,false,-32768,32767⟩,true)
 else bif f==4 then(⟨true,true,false,0,65535⟩,true) else bif f==5 then(⟨true,true,false,0,31⟩,true) else bif f==6 then(⟨true,false,false,0,65535⟩,true)
 else bif f==7 then(⟨true,false,false,-32768,32767⟩,true) else bif f==8 then(⟨true,false,false,0,7⟩,true) else bif f==9 then(⟨true,false,false,0,11⟩,true) else(⟨false,false,false,0,0⟩,false)
def sameU(x y:Q8f×Bool):Bool:=x.1.a==y.1.a&&x.1.b==y.1.b&&x.1.c==y.1.c&&x.1.low==y.1.low&&x.1.D8==y.1.D8&&x.2==y.2
theorem xI{x y:Q8f×Bool}(h:sameU x y=true):x=y:=by
 obtain⟨⟨a,b,c,d,e⟩,f⟩:=x
 obtain⟨⟨a',b',c',d',e'⟩,f'⟩:=y
 simp only[sameU,Bool.and_eq_true,beq_iff_eq]at h
 obtain⟨⟨⟨⟨⟨rfl,rfl⟩,rfl⟩,rfl⟩,rfl⟩,rfl⟩:=h
 rfl
theorem yW{op:Int}(h0:0<=op)(h1:op<256):Qzy op=useOf (Q26 op):=by
 exact xI (Qt0 (λop=>sameU (Qzy op) (useOf (Q26 op))) 256 (by kernel_rfl) h0 h1)
theorem yg{op:Int}(h0:0<=op)(h1:op<256):Q26 op=0\/Q26 op=1\/Q26 op=2\/Q26 op=3\/Q26 op=4\/Q26 op=5\/Q26 op=6\/Q26 op=7\/Q26 op=8\/Q26 op=9:=by
 have:=of_decide_eq_true (Qt0 (λop=>decide (0<=Q26 op/\Q26 op<=9)) 256 (by kernel_rfl) h0 h1)
 omega
theorem qah{op:Int}(h0:0<=op)(h1:op<256):Q85 op=Q2y op:=by
 exact eq_of_beq (Qt0 (λop=>Q85 op==Q2y op) 256 (by kernel_rfl) h0 h1)
theorem zI{a x y:Bool}:(cond a x y=true)↔((a=true/\x=true)\/(a=false/\y=true)):=by cases a<;>simp
theorem Z7a{i:Q0i}(h0:0<=i.Op)(h1:i.Op<256)(hi:IntKind.wrap .i64 i.Imm=i.Imm):Qf2 i=Q71 i:=by
 rw[Bool.eq_iff_iff]
 simp only[Qf2,Qhg,Tree.m,letv,Q71,Qen,yW h0 h1,hi]
 rcases yg h0 h1 with h|h|h|h|h|h|h|h|h|h<;>rw[h]<;>
 simp [useOf,Q91,Qdv,Q7j,Qcd,Ql3,Ql0,Tree.m,letv,zI]<;>omega
theorem sx16{x:Int}(h0:0<=x)(h1:x<65536):IntKind.wrap .i32 (Q28 x 16)=IntKind.wrap .i32 (IntKind.wrap .i16 x):=by
 have e:Q28 x 16=IntKind.wrap .u32 (ishr .i32 (IntKind.wrap .i32 (ishl .u32 x 16)) 16):=by kernel_rfl
 have e2: ∀y,ishr .i32 y 16=y/65536:=λy=>by
   show Int.fdiv y 65536=_
   rw[Int.fdiv_eq_ediv_of_nonneg _ (by decide)]
 have e3:ishl .u32 x 16=IntKind.wrap .u32 (x*65536):=rfl
 have e4:IntKind.wrap .i16 x=(x+32768)%65536-32768:=by
   simp [IntKind.wrap,IntKind.bits,IntKind.signed]
   split<;>omega
 rw[e,e2,e3,e4]
 simp only[IntKind.wrap_i32,IntKind.wrap_u32]
 omega
theorem sx8{x:Int}(h0:0<=x)(h1:x<256):Q28 x 8=Q2t x 8:=by
 exact eq_of_beq (Qt0 (λx=>Q28 x 8==Q2t x 8) 256 (by kernel_rfl) h0 h1)
theorem vg{w:Int}(hw:U w):Qgo w=Q1w w:=by
 obtain⟨f1,f2,f3,f4,_⟩:=fld w
 obtain⟨w0,w1⟩:=hw
 have s24:ishr .u32 w 24=w/16777216:=by have:=Qpz (a:=w) 24 (by decide);simpa using this
 have s20:U (ishr .u32 w 20):=Qtj ⟨w0,w1⟩ _
 have s16:U (ishr .u32 w 16):=Qtj ⟨w0,w1⟩ _
 rw[m255 (Qtj ⟨w0,w1⟩ _),s24]at f1
 rw[m15 s20]at f2
 rw[m15 s16]at f3
 rw[shr0]at f4
 have g1:w/16777216%256=w/16777216:=by omega
 rw[g1]at f1
 have o0:0<=w/16777216:=by omega
 have o1:w/16777216<256:=by omega
 have eo:IntKind.wrap .i64 (w/16777216)=w/16777216:=w64 (by omega) (by omega)
 have i32: ∀x,IntKind.wrap .i64 (IntKind.wrap .i32 x)=IntKind.wrap .i32 x:=λx=>by rw[IntKind.wrap_i64,IntKind.wrap_i32];omega
 have l0:=m65535 ⟨w0,w1⟩
 have lx:=sx16 (x:=iand .u32 w 65535) (by omega) (by omega)
 simp only[Qgo,Q79,Q1w,Q63,Tree.m,letv,f1,f2,f3,f4,s24,eo,yW o0 o1,m15 s20,m15 s16,lx]
 generalize w/16777216=op at*
 generalize IntKind.wrap .i64 (ishr .u32 w 20%16)=a
 generalize IntKind.wrap .i64 (ishr .u32 w 16%16)=b
 generalize iand .u32 w 65535=l
 rw[Z7a (i:=⟨op,a,b,IntKind.wrap .i64 l,0⟩) o0 o1 rfl,Z7a (i:=⟨op,a,b,0,IntKind.wrap .i32 (IntKind.wrap .i16 l)⟩) o0 o1 (i32 _),Z7a (i:=⟨op,a,b,0,IntKind.wrap .i32 l⟩) o0 o1 (i32 _)]
 rcases yg o0 o1 with h|h|h|h|h|h|h|h|h|h<;>rw[h]<;>rfl
theorem zah(x v:BitVec 32)(s:Nat)(hs:s<=24):((x&&&~~~(255#32<<<s))|||((v&&&255#32)<<<s)).toNat=2^(s+8)*(x.toNat/2^(s+8))+(2^s*(v.toNat%256)+x.toNat%2^s):=by
  have hx:=x.isLt
  have h1:x.toNat%2^s<2^s:=Nat.mod_lt _ (Nat.two_pow_pos s)
  have h2:2^s*(v.toNat%256)+x.toNat%2^s<2^(s+8):=by
    have:v.toNat%256<256:=Nat.mod_lt _ (by decide)
    have h3:2^s*(v.toNat%256)<=2^s*255:=Nat.mul_le_mul_left _ (by omega)
    have:2^(s+8)=2^s*256:=by rw[Nat.pow_add]
    omega
  rw[Nat.two_pow_add_eq_or_of_lt h2,Nat.two_pow_add_eq_or_of_lt h1]
  apply Nat.eq_of_testBit_eq
  intro i
  rw[BitVec.testBit_toNat]
  simp only[BitVec.getLsbD_or,BitVec.getLsbD_and,BitVec.getLsbD_not,BitVec.getLsbD_shiftLeft,Nat.testBit_or,Nat.testBit_two_pow_mul,Nat.testBit_mod_two_pow,Nat.testBit_div_two_pow,BitVec.getLsbD_ofNat]
  have e255: ∀j,Nat.testBit 255 j=decide (j<8):=λj=>by
    rw[show 255=2^8-1 from rfl,Nat.testBit_two_pow_sub_one]
  have e256: ∀n j,Nat.testBit (n%256) j=(decide (j<8)&&Nat.testBit n j):=λn j=>by
    rw[show 256=2^8 from rfl,Nat.testBit_mod_two_pow]
  rw[e255,e256]
  by_cases hi:i<32
  . by_cases a1:i<s
    . have a2: ¬(s<=i):=by omega
      have a3: ¬(s+8<=i):=by omega
      simp [hi,a1,a2,a3,BitVec.getLsbD]
    . by_cases a4:s+8<=i
      . have a2: ¬(i-s<8):=by omega
        have a5:i-(s+8)+(s+8)=i:=by omega
        have a6:s<=i:=by omega
        simp [hi,a1,a2,a4,a5,a6,BitVec.getLsbD]
      . have a2:(i-s<8):=by omega
        have a6:s<=i:=by omega
        have a7:i-s<32:=by omega
        simp [hi,a1,a2,a4,a6,a7,BitVec.getLsbD]
  . have a0:x.toNat.testBit i=false:=Nat.testBit_lt_two_pow (Nat.lt_of_lt_of_le hx (Nat.pow_le_pow_right (by decide) (by omega)))
    have a1: ¬(i<s):=by omega
    have a2: ¬(i-s<8):=by omega
    have a4:s+8<=i:=by omega
    have a5:i-(s+8)+(s+8)=i:=by omega
    simp [hi,a0,a1,a2,a4,a5]
theorem Z4w(b:BitVec 32):BitVec.ofInt 32 (IntKind.wrap .u32 (b.toNat:Int))=b:=by
 have:=b.isLt
 rw[IntKind.wrap_u32]
 apply BitVec.eq_of_toNat_eq
 rw[BitVec.toNat_ofInt];omega
theorem Zku(x:Int):BitVec.ofInt 32 (IntKind.wrap .u32 x)=BitVec.ofInt 32 x:=by
 apply BitVec.eq_of_toNat_eq
 rw[BitVec.toNat_ofInt,BitVec.toNat_ofInt,IntKind.wrap_u32]
 have:((2^32:Nat):Int)=4294967296:=by decide
 rw[this,Int.emod_emod_of_dvd _ (Int.dvd_refl _)]
theorem Zad{x:Int}(hx:U x)(s:Nat)(hs:s<=32):BitVec.ofInt 32 (ishl .u32 x s)=BitVec.ofInt 32 x<<<s:=by
 obtain⟨n,rfl⟩: ∃n:Nat,x=n:=⟨x.toNat,by have:=hx.1;omega⟩
 have e:min (Int.toNat (s:Int)) IntKind.u32.bits=s:=by show min (Int.toNat (s:Int)) 32=s;omega
 unfold ishl
 rw[e,Zku]
 have e2:((n:Int)*2^s)=((n*2^s:Nat):Int):=by simp
 have:=hx.2
 rw[e2,BitVec.ofInt_natCast,BitVec.ofInt_natCast]
 apply BitVec.eq_of_toNat_eq
 rw[BitVec.toNat_shiftLeft,BitVec.toNat_ofNat,BitVec.toNat_ofNat,Nat.shiftLeft_eq,Nat.mod_mul_mod]
def putW(W v:Int)(s:Nat):Int:=ior .u32 (Qg5 .u32 W (ishl .u32 255 s)) (ishl .u32 (iand .u32 v 255) s)
theorem xah{W v:Int}(hW:U W)(hv:U v)(s:Nat)(hs:s<=24):putW W v s=2^(s+8)*(W/2^(s+8))+(2^s*(v%256)+W%2^s):=by
 have e:=zah (BitVec.ofInt 32 W) (BitVec.ofInt 32 v) s hs
 have l:=((BitVec.ofInt 32 W&&&~~~(255#32<<<s))|||((BitVec.ofInt 32 v&&&255#32)<<<s)).isLt
 have h1:BitVec.ofInt 32 (Qg5 .u32 W (ishl .u32 255 s))=BitVec.ofInt 32 W&&&~~~(255#32<<<s):=by
   show BitVec.ofInt 32 (IntKind.wrap .u32 (BitVec.ofInt 32 W&&&~~~BitVec.ofInt 32 (ishl .u32 255 s)).toNat)=_
   rw[Z4w,Zad ⟨by decide,by decide⟩ s (by omega)]
   rfl
 have h2:BitVec.ofInt 32 (ishl .u32 (iand .u32 v 255) s)=(BitVec.ofInt 32 v&&&255#32)<<<s:=by
   rw[Zad (Zh7 _ _) s (by omega)]
   congr 1
   show BitVec.ofInt 32 (IntKind.wrap .u32 (BitVec.ofInt 32 v&&&BitVec.ofInt 32 255).toNat)=_
   rw[Z4w];rfl
 show IntKind.wrap .u32 ((BitVec.ofInt 32 (Qg5 .u32 W (ishl .u32 255 s))|||BitVec.ofInt 32 (ishl .u32 (iand .u32 v 255) s)).toNat:Int)=_
 rw[h1,h2]
 have lw:IntKind.wrap .u32 ((((BitVec.ofInt 32 W&&&~~~(255#32<<<s))|||((BitVec.ofInt 32 v&&&255#32)<<<s)).toNat:Nat):Int)=(((BitVec.ofInt 32 W&&&~~~(255#32<<<s))|||((BitVec.ofInt 32 v&&&255#32)<<<s)).toNat:Nat):=by rw[IntKind.wrap_u32];omega
 rw[lw,e,Qvf hW,Qvf hv]
 obtain⟨n,rfl⟩: ∃n:Nat,W=n:=⟨W.toNat,by have:=hW.1;omega⟩
 obtain⟨k,rfl⟩: ∃n:Nat,v=n:=⟨v.toNat,by have:=hv.1;omega⟩
 simp
def dig(w:Int)(k:Nat):Int:=if k=0 then w%256 else if k=1 then w/256%256 else if k=2 then w/65536%256 else w/16777216%256
def byt(m:List Int)(a:Nat):Int:=dig (m.getD (a/4) 0) (a%4)
theorem qh(w:Int)(k:Nat):0<=dig w k/\dig w k<256:=by
 unfold dig
 split
 . omega
 . split
   . omega
   . split<;>omega
theorem qai{w v:Int}(hw:U w)(hv:U v)(h: ∀k,k<4->dig w k=dig v k):w=v:=by
 have h0:=h 0 (by omega)
 have h1:=h 1 (by omega)
 have h2:=h 2 (by omega)
 have h3:=h 3 (by omega)
 simp [dig]at h0 h1 h2 h3
 obtain⟨a,b⟩:=hw
 obtain⟨c,d⟩:=hv
 omega
theorem Zfu{m n:List Int}(hl:m.length=n.length)(hm: ∀w∈m,U w)(hn: ∀w∈n,U w)(h: ∀a,byt m a=byt n a):m=n:=by
 refine List.ext_getElem hl λi h1 h2=> ?_
 have e1:m[i]=m.getD i 0:=by simp [List.getD,h1]
 have e2:n[i]=n.getD i 0:=by simp [List.getD,h2]
 rw[e1,e2]
 refine qai (Qk0 hm i) (Qk0 hn i) λk hk=> ?_
 have:=h (4*i+k)
 simp only[byt]at this
 rwa [show(4*i+k)/4=i by omega,show(4*i+k)%4=k by omega]at this
theorem Qrv{l:List Int}{i:Nat}(h:i<l.length)(v:Int):(l.set i v).getD i 0=v:=by
 simp [List.getD,h]
theorem Zfc{m:List Int}{i:Nat}(hi:i<m.length)(v:Int)(a:Nat):byt (m.set i v) a=if a/4=i then dig v (a%4) else byt m a:=by
 unfold byt
 split
 . rename_i h;rw[h,Qrv hi]
 . rename_i h;rw[getDset _ _ _ _ (λe=>h e.symm)]
theorem zai{W v:Int}(hW:U W)(hv:U v){j:Nat}(hj:j<4){k:Nat}(hk:k<4):dig (putW W v (8*j)) k=if k=j then v%256 else dig W k:=by
 have h:=xah hW hv (8*j) (by omega)
 rw[h]
 obtain⟨w0,w1⟩:=hW
 have h0:0<=v%256:=by omega
 have h1:v%256<256:=by omega
 generalize v%256=b at*
 clear h
 have hj:j=0\/j=1\/j=2\/j=3:=by omega
 have hk:k=0\/k=1\/k=2\/k=3:=by omega
 rcases hj with rfl|rfl|rfl|rfl<;>rcases hk with rfl|rfl|rfl|rfl<;>simp [dig]<;>omega
theorem xai{m:List Int}{a v:Int}(ha:U a):Q9m m a 1 v=m.set (a/4).toNat (putW (m.getD (a/4).toNat 0) v (8*(a%4).toNat)):=by
 obtain⟨a0,a1⟩:=ha
 have e1:IntKind.wrap .u32 (Int.tdiv a 4)=a/4:=by rw[IntKind.wrap_u32,Int.tdiv_eq_ediv_of_nonneg a0];omega
 have e2:IntKind.wrap .u32 (8*Int.tmod a 4)=((8*(a%4).toNat:Nat):Int):=by rw[IntKind.wrap_u32,Int.tmod_eq_emod_of_nonneg a0];omega
 have e3:((1:Int)==4)=false:=rfl
 simp only[Q9m,Qdu,Tree.m,e1,e2,e3,cond_false]
 rfl
theorem xh{P:Nat}{m:List Int}(h:Q0z P m){a v:Int}(ha:U a)(hl:a<128*P)(hv:U v):Q0z P (Q9m m a 1 v)/\ ∀b:Nat,byt (Q9m m a 1 v) b=if(b:Int)=a then v%256 else byt m b:=by
 have hlen:=h.len
 have a0:=ha.1
 rw[xai ha]
 have hi:(a/4).toNat<m.length:=by omega
 refine⟨⟨by rw[List.length_set];exact hlen,h.p1,h.p2,Z4c h.u (U_or _ _) _⟩,λb=> ?_⟩
 rw[Zfc hi]
 by_cases hb:b/4=(a/4).toNat
 . rw[if_pos hb,zai (Qk0 h.u _) hv (by omega) (by omega)]
   by_cases hc:b%4=(a%4).toNat
   . rw[if_pos hc,if_pos (by omega)]
   . rw[if_neg hc,if_neg (by omega),byt,hb]
 . rw[if_neg hb,if_neg (by omega)]
theorem vW{P:Nat}{m:List Int}(h:Q0z P m){frame:Int}(f0:0<=frame)(f1:frame<P)(s:List UInt8):(Q9b m frame s).w (λr=>Q0z P r/\ ∀b:Nat,byt r b=if frame*128<=b/\(b:Int)<frame*128+min s.length 128 then((s.getD (b-frame*128).toNat 0).toNat:Int) else byt m b):=by
 unfold Q9b
 have h3:=h.p2
 refine w_lp (inv:=λz=>0<=z.1/\z.1<=min s.length 128/\Q0z P z.2/\ ∀b:Nat,byt z.2 b=if frame*128<=b/\(b:Int)<frame*128+z.1 then((s.getD (b-frame*128).toNat 0).toNat:Int) else byt m b) (μ:=Qhx m frame s) ⟨show(0:Int)<=0 by decide,by show(0:Int)<=_;omega,h,λb=>by rw[if_neg];show¬(_/\_<_+(0:Int));omega⟩ (Nat.lt_succ_self _) (λv0 hv0=> ?_)
 obtain⟨i,mm⟩:=v0
 obtain⟨i0,i1,hm,hy⟩:=hv0
 have i0:0<=i:=i0
 have i1:i<=min s.length 128:=i1
 have hm:Q0z P mm:=hm
 have fin: ∀r:List Int,r=mm->i=min s.length 128->Q0z P r/\ ∀b:Nat,byt r b=if frame*128<=b/\(b:Int)<frame*128+min s.length 128 then((s.getD (b-frame*128).toNat 0).toNat:Int) else byt m b:=λr hr hi=>by
   subst hr;refine⟨hm,λb=> ?_⟩
   rw[hy b];simp only[hi]
 refine w_br (λh1=>w_br (λh2=>w_cn ?_ ?_) (λh2=>fin mm rfl ?_)) (λh1=>fin mm rfl ?_)
 . have:=of_decide_eq_true h1
   simp [Nat.blt];omega
 . have h1:i<s.length:=of_decide_eq_true h1
   have h2:i<128:=of_decide_eq_true h2
   have e:IntKind.wrap IntKind.u32 (IntKind.wrap IntKind.i64 (IntKind.wrap IntKind.i64 (frame*128)+i))=frame*128+i:=by
     rw[IntKind.wrap_u32,IntKind.wrap_i64,IntKind.wrap_i64];omega
   show(Tree.an (Qei mm (IntKind.wrap IntKind.u32 (IntKind.wrap IntKind.i64 (IntKind.wrap IntKind.i64 (frame*128)+i))) 1 _) (Tree.lv _ _)).w _
   rw[e]
   have hu:U (frame*128+i):=⟨by omega,by omega⟩
   have hvU: ∀n:Nat,U (IntKind.wrap .u32 (n:Int)):=λn=>Q0q _
   obtain⟨g1,_⟩:=Tree.pp (put_w hm (size:=1) (addr:=frame*128+i) hu (by rw[hm.len];omega) (hvU (UInt8.toNat (s.getD i.toNat 0))))
   obtain⟨g2,g3⟩:=xh hm hu (by omega) (hvU (UInt8.toNat (s.getD i.toNat 0)))
   refine w_an g1 (w_lv λx0 hx0=> ?_)
   rw[hx0]
   have ew:IntKind.i64.wrap (i+1)=i+1:=by rw[IntKind.wrap_i64];omega
   refine w_nx ?_
   show(0<=IntKind.i64.wrap (i+1)/\IntKind.i64.wrap (i+1)<=min s.length 128/\Q0z P _/\ ∀b:Nat,byt _ b=if frame*128<=b/\(b:Int)<frame*128+IntKind.i64.wrap (i+1) then _ else _)/\(128-IntKind.i64.wrap (i+1)).toNat<(128-i).toNat
   rw[ew]
   refine⟨⟨by omega,by omega,g2,λb=> ?_⟩,by omega⟩
   rw[show Q9m mm (frame*128+i) 1 _=_ from rfl,g3 b]
   by_cases hb:(b:Int)=frame*128+i
   . rw[if_pos hb,if_pos (by omega),IntKind.wrap_u32]
     have:=(s.getD i.toNat 0).toNat_lt
     rw[show(b-frame*128).toNat=i.toNat by omega];omega
   . rw[if_neg hb,hy b]
     show(if frame*128<=(b:Int)/\(b:Int)<frame*128+i then _ else _)=_
     by_cases hc:frame*128<=(b:Int)/\(b:Int)<frame*128+i
     . rw[if_pos hc,if_pos (by omega)]
     . rw[if_neg hc,if_neg (by omega)]
 . have h1:i<s.length:=of_decide_eq_true h1
   have h2: ¬i<128:=of_decide_eq_false h2
   omega
 . have h1: ¬i<s.length:=of_decide_eq_false h1
   omega
theorem zh{x y:Int}(hx:U x)(hy:U y)(k:Nat)(hk:x<2^k)(h:x+y*2^k<4294967296):ior .u32 x (y*2^k)=x+y*2^k:=by
 obtain⟨n,rfl⟩: ∃n:Nat,x=n:=⟨x.toNat,by have:=hx.1;omega⟩
 obtain⟨z,rfl⟩: ∃n:Nat,y=n:=⟨y.toNat,by have:=hy.1;omega⟩
 have e:((z:Int)*2^k)=((z*2^k:Nat):Int):=by simp
 rw[e]at h⊢
 have hn:n<2^k:=by exact_mod_cast hk
 rw[zaG hx ⟨by omega,by omega⟩,Int.toNat_natCast,Int.toNat_natCast,Nat.or_comm,Nat.mul_comm,<-Nat.two_pow_add_eq_or_of_lt hn]
 omega
theorem four{a b c d:Int}(ha:0<=a/\a<256)(hb:0<=b/\b<256)(hc:0<=c/\c<256)(hd:0<=d/\d<256):ior .u32 (ior .u32 (ior .u32 (IntKind.wrap .u32 a) (ishl .u32 (IntKind.wrap .u32 b) 8)) (ishl .u32 (IntKind.wrap .u32 c) 16)) (ishl .u32 (IntKind.wrap .u32 d) 24)=a+b*2^8+c*2^16+d*2^24:=by
 have w: ∀{x:Int},0<=x/\x<256->IntKind.wrap .u32 x=x:=λhx=>by rw[IntKind.wrap_u32];omega
 have s8: ∀{x:Int},0<=x/\x<256->ishl .u32 x 8=x*2^8:=fun{x} hx=>by show IntKind.wrap .u32 (x*2^8)=_;rw[IntKind.wrap_u32];omega
 have s16: ∀{x:Int},0<=x/\x<256->ishl .u32 x 16=x*2^16:=fun{x} hx=>by show IntKind.wrap .u32 (x*2^16)=_;rw[IntKind.wrap_u32];omega
 have s24: ∀{x:Int},0<=x/\x<256->ishl .u32 x 24=x*2^24:=fun{x} hx=>by show IntKind.wrap .u32 (x*2^24)=_;rw[IntKind.wrap_u32];omega
 rw[w ha,w hb,w hc,w hd,s8 hb,s16 hc,s24 hd]
 rw[zh ⟨by omega,by omega⟩ ⟨by omega,by omega⟩ 8 (by omega) (by omega),zh ⟨by omega,by omega⟩ ⟨by omega,by omega⟩ 16 (by omega) (by omega),zh ⟨by omega,by omega⟩ ⟨by omega,by omega⟩ 24 (by omega) (by omega)]
theorem yI{a b c d:Int}(ha:0<=a/\a<256)(hb:0<=b/\b<256)(hc:0<=c/\c<256)(hd:0<=d/\d<256)(k:Nat)(hk:k<4):dig (a+b*2^8+c*2^16+d*2^24) k=if k=0 then a else if k=1 then b else if k=2 then c else d:=by
 have hk:k=0\/k=1\/k=2\/k=3:=by omega
 rcases hk with rfl|rfl|rfl|rfl<;>simp [dig]<;>omega
theorem Z9v{P:Nat}{m:List Int}(h:Q0z P m)(f:Int):Q4w m f=decide (0<=f/\f<P):=by
 have hp:=Q38 h
 simp only[Q4w,Q7z,Tree.m,letv,hp]
 by_cases h1:0<=f
 . rw[decide_eq_true h1];simp [h1]
 . rw[decide_eq_false h1];simp [h1]
theorem vI(s:List UInt8)(a b k:Nat)(h:k<b):(List.take b (List.drop a s)).getD k 0=s.getD (a+k) 0:=by
 simp [List.getD_eq_getElem?_getD,List.getElem?_take,h]
theorem u8I(x:UInt8):0<=(x.toNat:Int)/\(x.toNat:Int)<256:=by have:=x.toNat_lt;omega
theorem Z1j{P:Nat}{m:List Int}(h:Q0z P m){f:Int}(f0:0<=f)(f1:f<P){s:List UInt8}(hs:s.length=128):(Q32 m f s).w (λr=>r.2=true/\Q0z P r.1/\ ∀b:Nat,byt r.1 b=if f*128<=b/\(b:Int)<f*128+128 then((s.getD (b-f*128).toNat 0).toNat:Int) else byt m b):=by
  have hcl:Q04 m=m:=rfl
  have h2:=h.p2
  unfold Q32
  refine w_an (Q9h h) (w_lv λx0 hx0=>w_lv λx1 hx1=> ?_)
  rw[hcl]at hx0;subst hx0
  rw[Z9v h,decide_eq_true ⟨f0,f1⟩]at hx1
  subst hx1
  refine w_br (λhb=>by cases hb) λ_=>w_br (λhb=>by simp [hs]at hb) λ_=> ?_
  refine w_lp (inv:=λz:Int×List Int=>0<=z.1/\z.1<=32/\Q0z P z.2/\ ∀b:Nat,byt z.2 b=if f*128<=b/\(b:Int)<f*128+4*z.1 then((s.getD (b-f*128).toNat 0).toNat:Int) else byt x0 b) (μ:=Qa8 x0 f s) ⟨show(0:Int)<=0 by decide,show(0:Int)<=32 by decide,h,λb=>by rw[if_neg];show¬(_/\_<_+4*(0:Int));omega⟩ (Nat.lt_succ_self _) λz ⟨z1,z2,z3,z4⟩=> ?_
  refine w_br (λhb=> ?_) (λhb=>⟨rfl,z3,λb=> ?_⟩)
  . have hb:=of_decide_eq_true hb
    have e1:IntKind.i64.wrap (4*z.1)=4*z.1:=by rw[IntKind.wrap_i64];omega
    have e2:IntKind.i64.wrap (IntKind.i64.wrap (4*z.1)+4)=4*z.1+4:=by rw[IntKind.wrap_i64,IntKind.wrap_i64];omega
    have e3:IntKind.i64.wrap (IntKind.i64.wrap (f*32)+z.1)=f*32+z.1:=by rw[IntKind.wrap_i64,IntKind.wrap_i64];omega
    have hl:=z3.len
    have cut:Int.toNat (IntKind.i64.wrap (IntKind.i64.wrap (4*z.1)+4))-Int.toNat (IntKind.i64.wrap (4*z.1))=4:=by rw[e2,e1];omega
    have hlen:(List.take (Int.toNat (IntKind.i64.wrap (IntKind.i64.wrap (4*z.1)+4))-Int.toNat (IntKind.i64.wrap (4*z.1))) (List.drop (Int.toNat (IntKind.i64.wrap (4*z.1))) s)).length=4:=by
      rw[cut,e1,List.length_take,List.length_drop];omega
    refine w_cn (decide_eq_true (by rw[e2,e1];omega)) ?_
    refine w_cn (decide_eq_true (by rw[hlen];decide)) (w_cn (decide_eq_true (by rw[hlen];decide)) (w_cn (decide_eq_true (by rw[hlen];decide)) (w_cn (decide_eq_true (by rw[hlen];decide)) (w_cn (by rw[e3];simp [Nat.blt];omega) (w_nx ?_)))))
    have ew:IntKind.i64.wrap (z.1+1)=z.1+1:=by rw[IntKind.wrap_i64];omega
    rw[cut]
    refine⟨⟨by show 0<=IntKind.i64.wrap (z.1+1);rw[ew];omega,by show IntKind.i64.wrap (z.1+1)<=32;rw[ew];omega,?_,?_⟩,by show(32-IntKind.i64.wrap (z.1+1)).toNat<(32-z.1).toNat;rw[ew];omega⟩
    . show Q0z P (List.set _ _ _)
      exact⟨by rw[List.length_set];exact hl,z3.p1,z3.p2,Z4c z3.u (U_or _ _) _⟩
    . intro b
      show byt (List.set z.2 (Int.toNat (IntKind.i64.wrap (IntKind.i64.wrap (f*32)+z.1))) _) b=if f*128<=(b:Int)/\(b:Int)<f*128+4*IntKind.i64.wrap (z.1+1) then _ else _
      rw[e3,ew,four (u8I _) (u8I _) (u8I _) (u8I _),Zfc (by omega)]
      have g: ∀k:Nat,k<4->(List.take 4 (List.drop (Int.toNat (IntKind.i64.wrap (4*z.1))) s)).getD k 0=s.getD ((4*z.1).toNat+k) 0:=λk hk=>by rw[e1];exact vI _ _ _ _ hk
      by_cases hc:b/4=(f*32+z.1).toNat
      . have hin:f*128<=(b:Int)/\(b:Int)<f*128+4*(z.1+1):=by omega
        rw[if_pos hc,yI (u8I _) (u8I _) (u8I _) (u8I _) _ (by omega),if_pos hin]
        have hb4:b%4=0\/b%4=1\/b%4=2\/b%4=3:=by omega
        have gi:(b-f*128).toNat=(4*z.1).toNat+b%4:=by omega
        rw[gi]
        rcases hb4 with h4|h4|h4|h4<;>rw[h4]
        . rw[if_pos rfl,<-g 0 (by omega)];rfl
        . rw[if_neg (by decide),if_pos rfl,<-g 1 (by omega)];rfl
        . rw[if_neg (by decide),if_neg (by decide),if_pos rfl,<-g 2 (by omega)];rfl
        . rw[if_neg (by decide),if_neg (by decide),if_neg (by decide),<-g 3 (by omega)];rfl
      . rw[if_neg hc,z4 b]
        by_cases hd:f*128<=(b:Int)/\(b:Int)<f*128+4*z.1
        . rw[if_pos hd,if_pos (by omega)]
        . rw[if_neg hd,if_neg (by omega)]
  . have hb:=of_decide_eq_false hb
    show byt z.2 b=_
    rw[z4 b,show z.1=32 by omega]
    rfl
theorem Z9z{α:Type}(l l2:List α)(k:Nat)(z:α):(l++l2).getD k z=if k<l.length then l.getD k z else l2.getD (k-l.length) z:=by
 simp only[List.getD_eq_getElem?_getD,List.getElem?_append]
 split<;>rfl
theorem u8w{x:Int}:IntKind.wrap .u8 x=x%256:=IntKind.wrap_u8 x
theorem shr_c(W:Int):ishr .u32 W 8=W/256/\ishr .u32 W 16=W/65536/\ishr .u32 W 24=W/16777216:=by
 refine⟨?_,?_,?_⟩
 . show Int.fdiv W 256=_;rw[Int.fdiv_eq_ediv_of_nonneg _ (by decide)]
 . show Int.fdiv W 65536=_;rw[Int.fdiv_eq_ediv_of_nonneg _ (by decide)]
 . show Int.fdiv W 16777216=_;rw[Int.fdiv_eq_ediv_of_nonneg _ (by decide)]
theorem b4d(W:Int){k:Nat}(hk:k<4):[IntKind.wrap .u8 W,IntKind.wrap .u8 (ishr .u32 W 8),IntKind.wrap .u8 (ishr .u32 W 16),IntKind.wrap .u8 (ishr .u32 W 24)].getD k 0=dig W k:=by
 obtain⟨a,b,c⟩:=shr_c W
 have hk:k=0\/k=1\/k=2\/k=3:=by omega
 rcases hk with rfl|rfl|rfl|rfl<;>simp [dig,a,b,c,u8w]
theorem Qn8(l:List Int)(k:Nat)(h:0<=l.getD k 0/\l.getD k 0<256)(hk:k<l.length):(((bytesOf l).getD k 0).toNat:Int)=l.getD k 0:=by
 have e:(bytesOf l).getD k 0=UInt8.ofNat (l.getD k 0).toNat:=by
   simp [bytesOf,List.getD_eq_getElem?_getD,hk]
 rw[e,UInt8.toNat_ofNat']
 omega
theorem Zgr(l:List UInt8)(k:Nat)(hk:k<l.length):(Q4l l).getD k 0=((l.getD k 0).toNat:Int):=by
 simp [Q4l,List.getD_eq_getElem?_getD,hk]
theorem xaG(w:List Int)(h:w.length<=32):(Q4o w).w (λr=>r.length=4*w.length/\ ∀k:Nat,k<4*w.length->((r.getD k 0).toNat:Int)=dig (w.getD (k/4) 0) (k%4)):=by
 have e0:IntKind.i64.wrap (4*(w.length:Int))=4*w.length:=by rw[IntKind.wrap_i64];omega
 unfold Q4o
 refine w_cn (by rw[e0];simp [Nat.blt,D.plain];omega) ?_
 refine w_lp (inv:=λz:Int×List Int=>0<=z.1/\z.1<=w.length/\(z.2.length:Int)=4*z.1/\ ∀k:Nat,(k:Int)<4*z.1->z.2.getD k 0=dig (w.getD (k/4) 0) (k%4)) (μ:=Q70 w) ⟨by decide,by show(0:Int)<=w.length;omega,rfl,λk hk=>by have hk:(k:Int)<4*0:=hk;omega⟩ (Nat.lt_succ_self _) λz ⟨z1,z2,z3,z4⟩=> ?_
 refine w_br (λhb=> ?_) (λhb=> ?_)
 . have hb:=of_decide_eq_true hb
   have ew:IntKind.i64.wrap (z.1+1)=z.1+1:=by rw[IntKind.wrap_i64];omega
   refine w_cn (by simp [Nat.blt];omega) (w_cn (decide_eq_true (by omega)) (w_nx ?_))
   show(_/\_/\_/\ ∀k:Nat,(k:Int)<4*IntKind.i64.wrap (z.1+1)->(z.2++_).getD k 0=_)/\(_:Nat)<_
   refine⟨⟨by rw[ew];omega,by rw[ew];omega,by rw[ew,List.length_append];simp only[List.length_cons,List.length_nil];omega,λk hk=> ?_⟩,by show(w.length-IntKind.i64.wrap (z.1+1)).toNat<(w.length-z.1).toNat;rw[ew];omega⟩
   rw[ew]at hk
   rw[Z9z]
   split
   . exact z4 k (by omega)
   . rename_i hn
     rw[b4d _ (by omega),show z.1.toNat=k/4 by omega,show k-z.2.length=k%4 by omega]
 . have hb:=of_decide_eq_false hb
   show(bytesOf z.2).length=_/\ ∀k:Nat,_->(((bytesOf z.2).getD k 0).toNat:Int)=_
   refine⟨by rw[Q90];omega,λk hk=> ?_⟩
   have e:=z4 k (by omega)
   have:=qh (w.getD (k/4) 0) (k%4)
   rw[Qn8 _ _ (by rw[e];exact this) (by omega),e]
def isPg(m:List Int)(f:Int)(r:List UInt8):Prop:=r.length=128/\ ∀k:Nat,k<128->((r.getD k 0).toNat:Int)=byt m ((f*128).toNat+k)
theorem qaH{m:List Int}{f:Int}{r s:List UInt8}(a:isPg m f r)(b:isPg m f s):r=s:=by
 obtain⟨a1,a2⟩:=a
 obtain⟨b1,b2⟩:=b
 refine List.ext_getElem (by omega) λi h1 h2=> ?_
 have e:=(a2 i (by omega)).trans (b2 i (by omega)).symm
 have e1:r[i]=r.getD i 0:=by simp [List.getD,h1]
 have e2:s[i]=s.getD i 0:=by simp [List.getD,h2]
 rw[e1,e2]
 exact UInt8.toNat_inj.1 (by omega)
theorem yh{P:Nat}{m:List Int}(h:Q0z P m){f:Int}(f0:0<=f)(f1:f<P):(Q5u m f).w (λr=>isPg m f r.1/\r.2=true):=by
 have hl:=h.len
 have h2:=h.p2
 unfold Q5u
 refine w_lv λx0 hx0=> ?_
 rw[Z9v h,decide_eq_true ⟨f0,f1⟩]at hx0
 subst hx0
 refine w_br (λhb=>by cases hb) (λhb=> ?_)
 have e1:IntKind.i64.wrap (f*32)=f*32:=by rw[IntKind.wrap_i64];omega
 have e2:IntKind.i64.wrap (IntKind.i64.wrap (f*32)+32)=f*32+32:=by rw[IntKind.wrap_i64,IntKind.wrap_i64];omega
 have cut:Int.toNat (IntKind.i64.wrap (IntKind.i64.wrap (f*32)+32))-Int.toNat (IntKind.i64.wrap (f*32))=32:=by rw[e2,e1];omega
 have hlen:(List.take 32 (List.drop (Int.toNat (IntKind.i64.wrap (f*32))) m)).length=32:=by
   rw[e1,List.length_take,List.length_drop];omega
 refine w_cn (by rw[e2,e1];simp [Nat.blt];omega) ?_
 rw[cut]
 refine w_an (by show List.length _<=1000000000000;rw[hlen];decide) (w_lv λx1 h1=> ?_)
 have t:=(Tree.pp (xaG _ (Nat.le_of_eq hlen))).2
 rw[hlen,show(Q4o (List.take 32 (List.drop (Int.toNat (IntKind.i64.wrap (f*32))) m))).m=x1 from h1.symm]at t
 refine⟨⟨t.1,λk hk=> ?_⟩,rfl⟩
 show((x1.getD k 0).toNat:Int)=_
 rw[t.2 k hk,byt,e1]
 have g:(List.take 32 (List.drop (Int.toNat (f*32)) m)).getD (k/4) 0=m.getD ((f*32).toNat+k/4) 0:=by
   simp [List.getD_eq_getElem?_getD,List.getElem?_take,show k/4<32 by omega]
 rw[g,show((f*128).toNat+k)/4=(f*32).toNat+k/4 by omega,show((f*128).toNat+k)%4=k%4 by omega]
theorem zaH(x:Int):Z7w x 4=bytesOf [IntKind.wrap .u8 (ishr .u32 x 0),IntKind.wrap .u8 (ishr .u32 x 8),IntKind.wrap .u8 (ishr .u32 x 16),IntKind.wrap .u8 (ishr .u32 x 24)]:=by kernel_rfl
theorem qaj{P:Nat}{m:List Int}(hm:Q0z P m){frame:Int}(f0:0<=frame)(f1:frame<P):(Q6d m frame).w (λr=>isPg m frame r.1/\r.2=true):=by
 have hp:=Qe2 hm
 have hl:=hm.len
 have h2:=hm.p2
 unfold Q6d
 refine w_br (λh=>by have:=of_decide_eq_true h;omega) (λh=>w_lv λx0 hx=>w_br (λh1=>by have:=of_decide_eq_true h1;rw[hx,hp]at this;omega) (λh1=> ?_))
 refine w_lp (inv:=λz:Int×List Int=>0<=z.1/\z.1<=32/\(z.2.length:Int)=4*z.1/\ ∀k:Nat,(k:Int)<4*z.1->z.2.getD k 0=byt m ((frame*128).toNat+k)) (μ:=Qbp m frame) ⟨by decide,by decide,rfl,λk hk=>by have hk:(k:Int)<4*0:=hk;omega⟩ (Nat.lt_succ_self _) (λz hz=> ?_)
 obtain⟨z1,z2,z3,z4⟩:=hz
 refine w_br (λhb=> ?_) (λhb=> ?_)
 . have hb:=of_decide_eq_true hb
   have e:IntKind.wrap IntKind.i64 (IntKind.wrap IntKind.i64 (frame*32)+z.1)=frame*32+z.1:=by rw[IntKind.wrap_i64,IntKind.wrap_i64];omega
   refine w_cn (by rw[e];simp [Nat.blt];omega) (w_an (show(4:Int)<=1000000000000 by decide) (w_lv λx1 h4=> ?_))
   rw[zaH,shr0,e]at h4
   have l4:x1.length=4:=by rw[h4];rfl
   refine w_cn (decide_eq_true (by rw[Qjq,l4];omega)) (w_nx ?_)
   show(0<=IntKind.i64.wrap (z.1+1)/\IntKind.i64.wrap (z.1+1)<=32/\((z.2++Q4l x1).length:Int)=4*IntKind.i64.wrap (z.1+1)/\ ∀k:Nat,(k:Int)<4*IntKind.i64.wrap (z.1+1)->(z.2++Q4l x1).getD k 0=_)/\(32-IntKind.i64.wrap (z.1+1)).toNat<(32-z.1).toNat
   have ew:IntKind.i64.wrap (z.1+1)=z.1+1:=by rw[IntKind.wrap_i64];omega
   rw[ew]
   refine⟨⟨by omega,by omega,by rw[List.length_append,Qjq,l4];omega,λk hk=> ?_⟩,by omega⟩
   rw[Z9z]
   split
   . exact z4 k (by omega)
   . rename_i hn
     have hk4:k-z.2.length<4:=by omega
     rw[Zgr _ _ (by omega),h4]
     have d:=b4d (m.getD (frame*32+z.1).toNat 0) hk4
     rw[Qn8 _ _ (by rw[d];exact qh _ _) (by simpa using hk4),d,byt]
     rw[show((frame*128).toNat+k)/4=(frame*32+z.1).toNat by omega,show((frame*128).toNat+k)%4=k-z.2.length by omega]
 . have hb:=of_decide_eq_false hb
   refine⟨⟨?_,λk hk=> ?_⟩,rfl⟩
   . show(bytesOf z.2).length=128
     rw[Q90];omega
   . show(((bytesOf z.2).getD k 0).toNat:Int)=_
     have e:=z4 k (by omega)
     rw[Qn8 _ _ (by rw[e];exact qh _ _) (by omega),e]
theorem Zcc{P:Nat}{m:List Int}(h:Q0z P m)(f:Int):Q5e m f=Qf1 m f:=by
 by_cases hf:0<=f/\f<P
 . have a:=(Tree.pp (yh h hf.1 hf.2)).2
   have b:=(Tree.pp (qaj h hf.1 hf.2)).2
   exact Prod.ext (qaH a.1 b.1) (a.2.trans b.2.symm)
 . have hp:=Qe2 h
   have e1:Q5e m f=([],false):=by
     simp only[Q5e,Q5u,Tree.m,letv,Z9v h,decide_eq_false hf];rfl
   have e2:Qf1 m f=([],false):=by
     simp only[Qf1,Q6d,Tree.m,letv,hp]
     by_cases h0:f<0
     . rw[decide_eq_true h0];rfl
     . rw[decide_eq_false h0,decide_eq_true (show f>=P by omega)];rfl
   rw[e1,e2]
section
variable {P:Nat} {m:List Int} (h:Q0z P m)
include h
theorem Za6{f:Int}(f0:0<=f)(f1:f<P){s:List UInt8}(hs:s.length=128):Q2m m f s=(Qju m f s,true):=by
 have a:=(Tree.pp (Z1j h f0 f1 hs)).2
 have b:=(Tree.pp (vW h f0 f1 s)).2
 refine Prod.ext (Zfu (a.2.1.len.trans b.1.len.symm) a.2.1.u b.1.u λk=> ?_) a.1
 have e:((min s.length 128:Nat):Int)=128:=by rw[hs];rfl
 have b2:=b.2 k
 have a2:=a.2.2 k
 rw[e]at b2
 exact a2.trans b2.symm
theorem Zd5{f:Int}(f0:0<=f)(f1:f<P){s r:List UInt8}(hs:s.length<=128)(hr:isPg m f r):Q2m m f (s++r.drop s.length)=(Qju m f s,true):=by
  have hl:(s++r.drop s.length).length=128:=by have:=hr.1;simp;omega
  have a:=(Tree.pp (Z1j h f0 f1 hl)).2
  have b:=(Tree.pp (vW h f0 f1 s)).2
  refine Prod.ext (Zfu (a.2.1.len.trans b.1.len.symm) a.2.1.u b.1.u λk=> ?_) a.1
  have b2:=b.2 k
  have a2:=a.2.2 k
  refine a2.trans (Eq.trans ?_ b2.symm)
  by_cases hc:f*128<=(k:Int)/\(k:Int)<f*128+128
  . rw [if_pos hc,Z9z]
    by_cases hd:(k-f*128).toNat<s.length
    . rw[if_pos hd,if_pos (by omega)]
    . rw[if_neg hd,if_neg (by omega)]
      have e:(r.drop s.length).getD ((k-f*128).toNat-s.length) 0=r.getD (k-f*128).toNat 0:=by
        simp [List.getD_eq_getElem?_getD,show s.length+((k-f*128).toNat-s.length)=(k-f*128).toNat by omega]
      rw[e,hr.2 _ (by omega),show(f*128).toNat+(k-f*128).toNat=k by omega]
  . rw[if_neg hc,if_neg (by omega)]
theorem Qgp{a:Int}(ha:U a){size:Int}(hs:size=1\/size=4):Q20 m a size=decide (a%size=0/\a<128*P):=by
 have hq:=Qe2 h
 have h2:=h.p2
 have a0:=ha.1
 have e:IntKind.wrap IntKind.u32 size=size:=by rcases hs with rfl|rfl<;>decide
 have e0:decide (IntKind.wrap IntKind.u32 size≠0)=true:=by rcases hs with rfl|rfl<;>decide
 have t:Int.tmod a (IntKind.wrap IntKind.u32 size)=a%size:=by rw[e,Int.tmod_eq_emod_of_nonneg a0]
 have l: ∀x,x=Q3j m->a%size=0->decide (a<IntKind.wrap IntKind.u32 (IntKind.wrap IntKind.i64 (128*x)))=decide (a%size=0/\a<128*P):=λx hx hz=>by
   rw[hx,hq,IntKind.wrap_u32,IntKind.wrap_i64]
   exact decide_eq_decide.2 ⟨λh=>⟨hz,by omega⟩,λh=>by omega⟩
 refine Tree.post (Q7t m a size) (W:=λb=>b=decide (a%size=0/\a<128*P)) ?_
 unfold Q7t
 refine w_br (λh1=>w_br (λh4=> ?_) (λ_=> ?_)) (λ_=> ?_)
 . have h1: ¬size=1:=by simpa using h1
   have h4: ¬size=4:=by simpa using h4
   omega
 all_goals
   refine w_cn e0 (w_br (λhb=>w_lv λx hx=>l x hx ?_) (λhb=> ?_))
   . rw[t]at hb;exact eq_of_beq hb
   . rw[t]at hb
     exact(decide_eq_false (λh=>by rw[h.1]at hb;cases hb)).symm
theorem Qyo{a:Int}(ha:U a){size:Int}(hs:size=1\/size=4):Qg4 m a size=Q20 m a size:=by
 rw[Qgp h ha hs]
 have hq:=Z0t h
 have h2:=h.p2
 have a0:=ha.1
 have a1:=ha.2
 have e:IntKind.wrap IntKind.u32 size=size:=by rcases hs with rfl|rfl<;>decide
 have e0:decide (IntKind.wrap IntKind.u32 size≠0)=true:=by rcases hs with rfl|rfl<;>decide
 have t:Int.tmod a (IntKind.wrap IntKind.u32 size)=a%size:=by rw[e,Int.tmod_eq_emod_of_nonneg a0]
 have l: ∀x,x=Q0t m->a%size=0->decide (IntKind.wrap IntKind.u64 (IntKind.wrap IntKind.u64 a+IntKind.wrap IntKind.u64 size)<=IntKind.wrap IntKind.u64 (IntKind.wrap IntKind.u64 x*128))=decide (a%size=0/\a<128*P):=λx hx hz=>by
   rw[hx,hq]
   simp only[IntKind.wrap_u64]
   refine decide_eq_decide.2 ⟨λh=>⟨hz,?_⟩,λh=> ?_⟩<;>rcases hs with rfl|rfl<;>omega
 refine Tree.post (Q3 m a size) (W:=λb=>b=decide (a%size=0/\a<128*P)) ?_
 unfold Q3
 refine w_br (λh1=>w_br (λh4=> ?_) (λ_=> ?_)) (λ_=> ?_)
 . have h1: ¬size=1:=by simpa using h1
   have h4: ¬size=4:=by simpa using h4
   omega
 all_goals
   refine w_cn e0 (w_br (λhb=> ?_) (λhb=>w_lv λx hx=>l x hx ?_))
   . rw[t]at hb
     exact(decide_eq_false (λh=>by rw[h.1]at hb;cases hb)).symm
   . rw[t]at hb;simpa using hb
end
theorem fldj(w:Int):Q2p w 0 8=iand .u32 (ishr .u32 w 0) 255/\Q2p w 8 8=iand .u32 (ishr .u32 w 8) 255/\Q2p w 16 8=iand .u32 (ishr .u32 w 16) 255/\Q2p w 24 8=iand .u32 (ishr .u32 w 24) 255:=
 ⟨by kernel_rfl,by kernel_rfl,by kernel_rfl,by kernel_rfl⟩
theorem setj(w v:Int):Q7r w 0 8 v=putW w v 0/\Q7r w 8 8 v=putW w v 8/\Q7r w 16 8 v=putW w v 16/\Q7r w 24 8 v=putW w v 24:=
 ⟨by kernel_rfl,by kernel_rfl,by kernel_rfl,by kernel_rfl⟩
theorem vh{a:Int}(ha:U a):IntKind.wrap .i64 (IntKind.wrap .i64 (Int.tmod a 4)*8)=8*(a%4)/\IntKind.wrap .u32 (8*Int.tmod a 4)=8*(a%4):=by
 obtain⟨a0,a1⟩:=ha
 rw[Int.tmod_eq_emod_of_nonneg a0]
 exact⟨by rw[IntKind.wrap_i64,IntKind.wrap_i64];omega,by rw[IntKind.wrap_u32];omega⟩
section
variable {P:Nat} {m:List Int} (h:Q0z P m)
include h
theorem Qmn{a:Int}(ha:U a){size:Int}(hs:size=1\/size=4):Q4b m a size=Q14 m a size:=by
 have e:=Qyo h ha hs
 obtain⟨s1,s2⟩:=vh ha
 have f:Q2p (m.getD (Int.toNat (IntKind.wrap .u32 (Int.tdiv a 4))) 0) (8*(a%4)) 8=iand .u32 (ishr .u32 (m.getD (Int.toNat (IntKind.wrap .u32 (Int.tdiv a 4))) 0) (8*(a%4))) 255:=by
   obtain⟨f0,f1,f2,f3⟩:=fldj (m.getD (Int.toNat (IntKind.wrap .u32 (Int.tdiv a 4))) 0)
   have:a%4=0\/a%4=1\/a%4=2\/a%4=3:=by omega
   rcases this with h|h|h|h<;>rw[h]
   . exact f0
   . exact f1
   . exact f2
   . exact f3
 simp only[Q4b,Q65,Q14,Q3b,Tree.m,letv,e,s1,s2,f]
omit h in
theorem Z7h(a:Int)(size:Int):(Q14 m a size).2=Q20 m a size:=by
 simp only[Q14,Q3b,Tree.m,letv]
 cases Q20 m a size
 . rfl
 . cases size==1<;>rfl
theorem Z4z{a:Int}(ha:U a){size:Int}(hs:size=1\/size=4)(v:Int):Q98 m a size v=bif Q20 m a size then(Q9m m a size v,true) else(m,false):=by
 have hcl:Q04 m=m:=rfl
 have e:=Qyo h ha hs
 obtain⟨s1,s2⟩:=vh ha
 have f: ∀w,Q7r w (8*(a%4)) 8 v=ior .u32 (Qg5 .u32 w (ishl .u32 255 (8*(a%4)))) (ishl .u32 (iand .u32 v 255) (8*(a%4))):=λw=>by
   obtain⟨f0,f1,f2,f3⟩:=setj w v
   have:a%4=0\/a%4=1\/a%4=2\/a%4=3:=by omega
   rcases this with h|h|h|h<;>rw[h]
   . exact f0
   . exact f1
   . exact f2
   . exact f3
 simp only[Q98,Q89,Q9m,Qdu,Tree.m,letv,hcl,e,s1,s2,f]
 rcases hs with rfl|rfl<;>cases Q20 m a _<;>rfl
end
section
variable {P:Nat} {m:List Int} (h:Q0z P m)
include h
theorem qi{root va:Int}(hr:U root)(hv:U va){access:Int}(ha:access=1\/access=2\/access=3):Qhr m root va access=Q6 m root va access:=by
 have hp:=Qe2 h
 have h2:=h.p2
 have hlen:=h.len
 obtain⟨r1,r2⟩:=hr
 obtain⟨v1,v2⟩:=hv
 have hpg: ∀{f:Int},U f->Q9i m f=decide (f<P):=λhf=>vS h hf
 have eP:IntKind.wrap .u32 (P:Int)=P:=by rw[IntKind.wrap_u32];omega
 have kn:Qdt access=true:=by rcases ha with rfl|rfl|rfl<;>rfl
 have ca:Qjl access=(Q1y access,true):=by rcases ha with rfl|rfl|rfl<;>rfl
 simp only[Qhr,Q9z,Q6,Q8y,Tree.m,letv,hp,eP,kn,ca,hpg ⟨r1,r2⟩]
 by_cases c1:va>=4096
 . rw[decide_eq_true c1];rfl
 by_cases c2:root<P
 . have eE:IntKind.wrap IntKind.u32 (IntKind.wrap IntKind.u32 (root*128)+IntKind.wrap IntKind.u32 (4*IntKind.wrap IntKind.u32 (Int.tdiv va 128)))=root*128+4*(va/128):=by
     rw[Int.tdiv_eq_ediv_of_nonneg v1,IntKind.wrap_u32,IntKind.wrap_u32,IntKind.wrap_u32,IntKind.wrap_u32];omega
   have hE:U (root*128+4*(va/128)):=⟨by omega,by omega⟩
   have wi:Q20 m (root*128+4*(va/128)) 4=true:=by
     rw[Qgp h hE (.inr rfl)];exact decide_eq_true ⟨by omega,by omega⟩
   rw[decide_eq_false c1,decide_eq_true c2,decide_eq_false (show¬root>=P by omega),eE,Qmn h hE (.inr rfl),Z7h,wi]
   have ld:(Q14 m (root*128+4*(va/128)) 4).1=m.getD (Int.toNat (IntKind.wrap .u32 (Int.tdiv (root*128+4*(va/128)) 4))) 0:=by
     simp only[Q14,Q3b,Tree.m,letv,wi];rfl
   rw[ld]
   generalize m.getD (Int.toNat (IntKind.wrap .u32 (Int.tdiv (root*128+4*(va/128)) 4))) 0=w
   have fo:Qe1 w=iand .u32 (ishr .u32 w 8) 255:=(fld w).2.2.2.2
   rw[fo,hpg (Zh7 _ _)]
   have hge:decide (iand .u32 (ishr .u32 w 8) 255>=(P:Int))=!decide (iand .u32 (ishr .u32 w 8) 255<(P:Int)):=by
     by_cases hq:iand .u32 (ishr .u32 w 8) 255<(P:Int)
     . rw[decide_eq_true hq,decide_eq_false (by omega)];rfl
     . rw[decide_eq_false hq,decide_eq_true (by omega)];rfl
   rw[hge]
   generalize decide (iand .u32 (ishr .u32 w 8) 255<(P:Int))=d
   rcases ha with rfl|rfl|rfl
   . show _=(bif iand .u32 w 1==0 then _ else bif iand .u32 w 4==0 then _ else bif !d then _ else _)
     have:Qah w 1=(bif iand .u32 w 1==0 then false else !(iand .u32 w 4==0)):=rfl
     rw[this]
     cases iand .u32 w 1==0<;>cases iand .u32 w 4==0<;>cases d<;>rfl
   . show _=(bif iand .u32 w 1==0 then _ else bif !d then _ else _)
     have:Qah w 2=(bif iand .u32 w 1==0 then false else true):=rfl
     rw[this]
     cases iand .u32 w 1==0<;>cases d<;>rfl
   . show _=(bif iand .u32 w 1==0 then _ else bif iand .u32 w 2==0 then _ else bif !d then _ else _)
     have:Qah w 3=(bif iand .u32 w 1==0 then false else !(iand .u32 w 2==0)):=rfl
     rw[this]
     cases iand .u32 w 1==0<;>cases iand .u32 w 2==0<;>cases d<;>rfl
 . rw[decide_eq_false c1,decide_eq_false c2,decide_eq_true (show root>=P by omega)];rfl
theorem Zl5{a:Int}(ha:U a)(access:Int):Qbe m a access=Qnq m a access:=by
 have hcl:Q04 m=m:=rfl
 have hl:=h.len
 have a0:=ha.1
 simp only[Qbe,Q8a,Qnq,Qd4,Tree.m,letv,Qmn h ha (.inr rfl),Z7h,Z4z h ha (.inr rfl),hcl]
 cases hw:Q20 m a 4
 . rfl
 . rw[Qgp h ha (.inr rfl)]at hw
   have hw:=of_decide_eq_true hw
   have wi:Q20 m a 4=true:=by rw[Qgp h ha (.inr rfl)];exact decide_eq_true hw
   have ld:(Q14 m a 4).1=m.getD (Int.toNat (IntKind.wrap .u32 (Int.tdiv a 4))) 0:=by
     simp only[Q14,Q3b,Tree.m,letv,wi];rfl
   have pu: ∀v,Q9m m a 4 v=m.set (Int.toNat (IntKind.wrap .u32 (Int.tdiv a 4))) v:=λv=>rfl
   rw[ld,pu,pu]
   have hi:Int.toNat (IntKind.wrap .u32 (Int.tdiv a 4))<m.length:=by
     rw[Int.tdiv_eq_ediv_of_nonneg a0,IntKind.wrap_u32];omega
   generalize Int.toNat (IntKind.wrap .u32 (Int.tdiv a 4))=i at*
   rw[Qrv hi,List.set_set]
   rfl
end
theorem Qn5{c:Q03}(h0:0<=c.B7.a0)(h:c.B7.a0<=31)(k b:Int):Q45 c k b=Q2k c k b:=by
 have e:=eq_of_beq (Qt0 (λs=>Qg5 .u32 (ior .u32 (Q8h (Q8h s 1 8) 2 16) 1) 2==ior .u32 (Qg5 .u32 (ior .u32 (ior .u32 (Qg5 .u32 s 24) (IntKind.wrap .u32 (8*Qan (iand .u32 s 1 !=0)))) (IntKind.wrap .u32 (16*Qan (iand .u32 s 2 !=0)))) 2) 1) 32 (by kernel_rfl) h0 (by omega))
 simp only[Q45,Qk2,Q2k,Qi6,Tree.m,letv,e]
theorem Zfo{c:Q03}(h0:0<=c.B7.a0)(h:c.B7.a0<=31):Qd2 c=Qgx c:=by
 have e:=eq_of_beq (Qt0 (λs=>Q8h (Q8h s 8 1) 16 2==ior .u32 (ior .u32 (Qg5 .u32 s 3) (IntKind.wrap .u32 (1*Qan (iand .u32 s 8 !=0)))) (IntKind.wrap .u32 (2*Qan (iand .u32 s 16 !=0)))) 32 (by kernel_rfl) h0 (by omega))
 simp only[Qd2,Qea,Qgx,Qbq,Tree.m,letv,e]
theorem Z54{c:Q03}(h0:0<=c.B7.a0)(h:c.B7.a0<=31):Qka c=(!Q9v c&&(iand .u32 c.B7.a0 4 !=0)):=
 eq_of_beq (Qt0 (λs=>(iand .u32 s 5==4)==(!(iand .u32 s 1 !=0)&&(iand .u32 s 4 !=0))) 32 (by kernel_rfl) h0 (by omega))
theorem Qye(c:Q03){r:Int}(hr:0<=r/\r<16)(v:Int):Qa5 c r v=Q1u c r v:=by
 simp only[Qa5,Qbk,Q1u,Qd1,Tree.m]
 by_cases h:r=0
 . subst h;rfl
 . rw[decide_eq_true (show r>0 by omega),decide_eq_true hr.2,show(r !=0)=true by simpa using h];rfl
theorem qJ{a b:Int}(ha:U a)(hb:U b):Qb7 a b=Qau a b:=by
  obtain⟨a0,a1⟩:=ha
  obtain⟨b0,b1⟩:=hb
  have i: ∀x,IntKind.wrap .i64 (IntKind.wrap .i32 x)=IntKind.wrap .i32 x:=λx=>by rw[IntKind.wrap_i64,IntKind.wrap_i32];omega
  have r32: ∀x,-2147483648<=IntKind.wrap .i32 x/\IntKind.wrap .i32 x<2147483648:=λx=>by rw[IntKind.wrap_i32];omega
  have q32: ∀x y:Int,-2147483648<=x/\x<2147483648-> -2147483648<=Int.tdiv x y/\Int.tdiv x y<=2147483648:=λx y hx=>by
    have h1:(Int.tdiv x y).natAbs<=x.natAbs:=by rw[Int.natAbs_tdiv];exact Nat.div_le_self _ _
    omega
  simp only[Qb7,Q9r,Qau,Q9w,Tree.m,i]
  cases hb:b==0
  . have w: ∀z,IntKind.wrap .u32 (IntKind.wrap .i32 z)=IntKind.wrap .u32 z:=λz=>by rw[IntKind.wrap_i32,IntKind.wrap_u32,IntKind.wrap_u32];omega
    have w2:IntKind.wrap .i64 (Int.tdiv (IntKind.wrap .i32 a) (IntKind.wrap .i32 b))=Int.tdiv (IntKind.wrap .i32 a) (IntKind.wrap .i32 b):=by
      have:=q32 _ (IntKind.wrap .i32 b) (r32 a)
      rw[IntKind.wrap_i64];omega
    rw[w,w2]
    cases h1:a==2147483648
    . rfl
    . cases h2:b==4294967295
      . rfl
      . have h1:=eq_of_beq h1
        have h2:=eq_of_beq h2
        subst h1;subst h2
        rfl
  . rfl
theorem xJ{op a b:Int}(h0:1<=op)(h1:op<=23)(ha:U a)(hb:U b):Q3z op a b=Qca op a b:=by
 have sub:IntKind.wrap .u32 (a+IntKind.wrap .u32 (0-b))=IntKind.wrap .u32 (a-b):=by
   rw[IntKind.wrap_u32,IntKind.wrap_u32,IntKind.wrap_u32];omega
 have hop:op=1\/op=2\/op=3\/op=4\/op=5\/op=6\/op=7\/op=8\/op=9\/op=10\/op=11\/op=12\/op=13\/op=14\/op=15\/op=16\/op=17\/op=18\/op=19\/op=20\/op=21\/op=22\/op=23:=by omega
 have d:=qJ ha hb
 rcases hop with rfl|rfl|rfl|rfl|rfl|rfl|rfl|rfl|rfl|rfl|rfl|rfl|rfl|rfl|rfl|rfl|rfl|rfl|rfl|rfl|rfl|rfl|rfl
 . rfl
 . show(IntKind.wrap .u32 (a+IntKind.wrap .u32 (0-b)),true)=(IntKind.wrap .u32 (a-b),true)
   rw[sub]
 . rfl
 . rfl
 . rfl
 . rfl
 . rfl
 . rfl
 . rfl
 . show((Qb7 a b).1,true)=((Qau a b).1,true)
   rw[d]
 . show((Qb7 a b).2,true)=((Qau a b).2,true)
   rw[d]
 all_goals rfl
theorem Qmq{P:Nat}{m:List Int}(h:Q0z P m){c:Q03}(hc:Q2e c)(hst:c.B7.a0<=31){va:Int}(hv:U va){size:Int}(hs:size=1\/size=4){access:Int}(ha:access=1\/access=2\/access=3):Q2 c m va size access=((Q10 c m va size access).1,(Q10 c m va size access).2.2,(Q10 c m va size access).2.1):=by
 have hcl:Q04 m=m:=rfl
 have kn:Qdt access=true:=by rcases ha with rfl|rfl|rfl<;>rfl
 have ca:Qqq access=(Q1y access,true):=by rcases ha with rfl|rfl|rfl<;>rfl
 have pg:=Z54 hc.a0.1 hst
 have wk:=qi h hc.a6 hv ha
 have tc:Qbe m (Q6 m c.B7.a6 va access).F7 access=Qnq m (Q6 m c.B7.a6 va access).F7 access:=Zl5 h (Tree.pp (zZ h hc.a6 hv access)).2.2.1 access
 have sz:(bif size !=1 then bif size !=4 then false else true else true)=true:=by rcases hs with rfl|rfl<;>rfl
 simp only[Q2,Q60,Q10,Q74,Tree.m,letv,hcl,kn,ca,pg,wk,tc,Qmn h hv hs,Z7h]
 rcases hs with rfl|rfl<;>
 . show(bif _ then _ else _)=_
   cases Int.tmod va _ !=0<;>cases Q9v c<;>cases iand .u32 c.B7.a0 4 !=0<;>cases(Q6 m c.B7.a6 va access).F5 !=0<;>cases Q20 m va _<;>rfl
theorem Qzu{α:Type}{Q:α->Prop}{c:Bool}{x y:α}(hx:Q x)(hy:Q y):Q (cond c x y):=by cases c<;>assumption
theorem zaj(m:List Int)(root:Int){va:Int}(hv:U va)(access:Int):(Q6 m root va access).F5=0->(Q6 m root va access).Addr%4=va%4:=by
 have hc:Q1y access≠0:=by
   simp only[Q1y,Q81,Tree.m]
   cases access==1<;>cases access==3<;>simp
 have q :(λt:Q13=>t.F5=0->t.Addr%4=va%4) (Q6 m root va access):=by
   simp only[Q6,Q8y,Tree.m,letv]
   repeat'(first
     |exact λe=>absurd e hc
     | (intro _
        show IntKind.wrap .u32 (IntKind.wrap .u32 (_*128)+Int.tmod va 128)%4=va%4
        rw[Int.tmod_eq_emod_of_nonneg hv.1,IntKind.wrap_u32,IntKind.wrap_u32];omega)
     |refine Qzu (Q:=λt:Q13=>t.F5=0->t.Addr%4=va%4) ?_ ?_)
 exact q
theorem zJ{c:Q03}{m:List Int}{va:Int}(hv:U va){size:Int}(hs:size=1\/size=4){access:Int}(ha:access=1\/access=2\/access=3):(Q10 c m va size access).2.1=0->(Q10 c m va size access).1%size=0:=by
  have kn:Qdt access=true:=by rcases ha with rfl|rfl|rfl<;>rfl
  have hc:Q1y access≠0:=by
    simp only[Q1y,Q81,Tree.m]
    cases access==1<;>cases access==3<;>simp
  rcases hs with rfl|rfl
  . intro _;omega
  simp only[Q10,Q74,Tree.m,letv,kn]
  show(bif Int.tmod va 4 !=0 then((0:Int),(3:Int),m) else _).2.1=0->(bif Int.tmod va 4 !=0 then((0:Int),(3:Int),m) else _).1%4=0
  rw[Int.tmod_eq_emod_of_nonneg hv.1]
  cases hz:va%4 !=0
  . have hz:va%4=0:=by simpa using hz
    have w:=zaj m c.B7.a6 hv access
    cases hp:Qka c
    . cases hw:Q20 m va 4
      . exact λe=>absurd e hc
      . exact λ_=>hz
    . cases hq:(Q6 m c.B7.a6 va access).F5 !=0
      . have hq:(Q6 m c.B7.a6 va access).F5=0:=by simpa using hq
        exact λ_=>(w hq).trans hz
      . have hq: ¬(Q6 m c.B7.a6 va access).F5=0:=by simpa using hq
        exact λe=>absurd e hq
  . intro e;cases e
def eff0:Q1:={B5:=0,D3:=0,F3:=0,Value:=0}
def Q5f(c:Q03)(m:List Int)(i:Q0i):Q03×List Int×Q1:=
 bif i.Op==32 then((Q6a c m i).1,(Q6a c m i).2,eff0) else bif i.Op==33 then((Q6a c m i).1,(Q6a c m i).2,eff0) else bif i.Op==34 then((Q6a c m i).1,(Q6a c m i).2,eff0)
 else bif i.Op==35 then((Q7v c m i).1,(Q7v c m i).2,eff0) else bif i.Op==36 then((Q7v c m i).1,(Q7v c m i).2,eff0) else((Ql c i).1,m,(Ql c i).2)
def regX(c:Q03)(r:Int):Int:=List.getD (A16.l c.X) r.toNat 0
def Qim(c:Q03)(m:List Int)(i:Q0i):Q03×Q1×List Int:=
 bif decide (i.Op>=56) then((Qih c i).1,(Qih c i).2,m) else bif decide (i.Op>=40) then(Z0a c i,eff0,m) else bif decide (i.Op>=32) then((Q4q c m i).1,eff0,(Q4q c m i).2)
 else bif i.Op==24 then({X:=(Q1u c i.A (ishl .u32 (IntKind.wrap .u32 i.Imm) 16)).X,Pc:=IntKind.wrap .u32 ((Q1u c i.A (ishl .u32 (IntKind.wrap .u32 i.Imm) 16)).Pc+4),B7:=(Q1u c i.A (ishl .u32 (IntKind.wrap .u32 i.Imm) 16)).B7},eff0,m)
 else bif decide (i.Op<=13) then
   ({X:=(Q1u c i.A (Qca i.Op (regX c i.B) (regX c i.C)).1).X,Pc:=IntKind.wrap .u32 ((Q1u c i.A (Qca i.Op (regX c i.B) (regX c i.C)).1).Pc+4),B7:=(Q1u c i.A (Qca i.Op (regX c i.B) (regX c i.C)).1).B7},eff0,m)
 else({X:=(Q1u c i.A (Qca i.Op (regX c i.B) (IntKind.wrap .u32 i.Imm)).1).X,Pc:=IntKind.wrap .u32 ((Q1u c i.A (Qca i.Op (regX c i.B) (IntKind.wrap .u32 i.Imm)).1).Pc+4),B7:=(Q1u c i.A (Qca i.Op (regX c i.B) (IntKind.wrap .u32 i.Imm)).1).B7},eff0,m)
def isOp(op:Int):Prop:=op=1\/op=2\/op=3\/op=4\/op=5\/op=6\/op=7\/op=8\/op=9\/op=10\/op=11\/op=12\/op=13\/op=16\/op=17\/op=18\/op=19\/op=20\/op=21\/op=22\/op=23\/op=24\/op=32\/op=33\/op=34\/op=35\/op=36\/op=40\/op=41\/op=42\/op=43\/op=44\/op=45\/op=48\/op=49\/op=56\/op=57\/op=58\/op=59\/op=60\/op=61\/op=62\/op=63\/op=64
theorem qX(c:Q03)(r v:Int):(Q1u c r v).Pc=c.Pc/\(Q1u c r v).B7=c.B7:=by
 simp only[Q1u,Qd1,Tree.m]
 cases decide (r>0)
 . exact⟨rfl,rfl⟩
 . cases decide (r<16)<;>exact⟨rfl,rfl⟩
def adv(c:Q03):Q03:={X:=c.X,Pc:=IntKind.wrap .u32 (c.Pc+4),B7:=c.B7}
def va(c:Q03)(B Imm:Int):Int:=IntKind.wrap .u32 (List.getD (A16.l c.X) B.toNat 0+IntKind.wrap .u32 Imm)
def ldP(c:Q03)(A v size:Int)(f:Int->Int)(y:Int×List Int×Int):Q03×List Int:=bif y.2.2 !=0 then(Q45 c y.2.2 v,y.2.1) else(adv (Qa5 c A (f (Q4b y.2.1 y.1 size).1)),y.2.1)
def ldR(c:Q03)(A v size:Int)(f:Int->Int)(x:Int×Int×List Int):Q03×List Int:=bif x.2.1 !=0 then(Q2k c x.2.1 v,x.2.2) else(adv (Q1u c A (f (Q14 x.2.2 x.1 size).1)),x.2.2)
def stP(c:Q03)(A v size:Int)(y:Int×List Int×Int):Q03×List Int:=bif y.2.2 !=0 then(Q45 c y.2.2 v,y.2.1) else(adv c,(Q98 y.2.1 y.1 size (List.getD (A16.l c.X) A.toNat 0)).1)
def stR(c:Q03)(A v size:Int)(x:Int×Int×List Int):Q03×List Int:=bif x.2.1 !=0 then(Q2k c x.2.1 v,x.2.2) else(adv c,Q9m x.2.2 x.1 size (List.getD (A16.l c.X) A.toNat 0))
theorem ld_eq(c:Q03)(m:List Int)(A B C Imm:Int):
   (Q6a c m ⟨32,A,B,C,Imm⟩=ldP c A (va c B Imm) 4 (λv=>v) (Q2 c m (va c B Imm) 4 2)/\Q4q c m ⟨32,A,B,C,Imm⟩=ldR c A (va c B Imm) 4 (λv=>v) (Q10 c m (va c B Imm) 4 2))/\
   (Q6a c m ⟨33,A,B,C,Imm⟩=ldP c A (va c B Imm) 1 (λv=>Q28 v 8) (Q2 c m (va c B Imm) 1 2)/\Q4q c m ⟨33,A,B,C,Imm⟩=ldR c A (va c B Imm) 1 (λv=>Q2t v 8) (Q10 c m (va c B Imm) 1 2))/\
   (Q6a c m ⟨34,A,B,C,Imm⟩=ldP c A (va c B Imm) 1 (λv=>v) (Q2 c m (va c B Imm) 1 2)/\Q4q c m ⟨34,A,B,C,Imm⟩=ldR c A (va c B Imm) 1 (λv=>v) (Q10 c m (va c B Imm) 1 2))/\
   (Q7v c m ⟨35,A,B,C,Imm⟩=stP c A (va c B Imm) 4 (Q2 c m (va c B Imm) 4 3)/\Q4q c m ⟨35,A,B,C,Imm⟩=stR c A (va c B Imm) 4 (Q10 c m (va c B Imm) 4 3))/\
   (Q7v c m ⟨36,A,B,C,Imm⟩=stP c A (va c B Imm) 1 (Q2 c m (va c B Imm) 1 3)/\Q4q c m ⟨36,A,B,C,Imm⟩=stR c A (va c B Imm) 1 (Q10 c m (va c B Imm) 1 3)):=
 ⟨⟨by kernel_rfl,by kernel_rfl⟩,⟨by kernel_rfl,by kernel_rfl⟩,⟨by kernel_rfl,by kernel_rfl⟩,⟨by kernel_rfl,by kernel_rfl⟩,⟨by kernel_rfl,by kernel_rfl⟩⟩
theorem xaj{P:Nat}{m:List Int}(h:Q0z P m)(a:Int):Q28 (Q14 m a 1).1 8=Q2t (Q14 m a 1).1 8:=by
 have: ∀x:Int×Bool,(∃w,U w/\x=(iand .u32 w 255,true))\/x=(0,false)->Q28 x.1 8=Q2t x.1 8:=λx hx=>by
   rcases hx with⟨w,hw,rfl⟩|rfl
   . have e:=m255 hw
     exact sx8 (by show 0<=iand .u32 w 255;omega) (by show iand .u32 w 255<256;omega)
   . rfl
 refine this _ ?_
 simp only[Q14,Q3b,Tree.m,letv]
 cases Q20 m a 1
 . exact .inr rfl
 . exact .inl ⟨_,Qtj (Qk0 h.u _) _,rfl⟩
section
variable {P:Nat} {m:List Int} (h:Q0z P m) {c:Q03} (hc:Q2e c) (hst:c.B7.a0<=31)
include h hc hst
omit hst in
theorem Zfm{v:Int}(hv:U v){size:Int}(hs:size=1\/size=4)(access:Int):Q0z P (Q10 c m v size access).2.2/\U (Q10 c m v size access).1/\((Q10 c m v size access).2.1=0->(Q10 c m v size access).1<128*P):=(Tree.pp (Z7k h hc hv hs access)).2
theorem Zgu{A v:Int}(hA:0<=A/\A<16)(hv:U v){size:Int}(hs:size=1\/size=4){f g:Int->Int}(hf: ∀{m':List Int},Q0z P m'-> ∀a,f (Q14 m' a size).1=g (Q14 m' a size).1):ldP c A v size f (Q2 c m v size 2)=ldR c A v size g (Q10 c m v size 2):=by
 rw[Qmq h hc hst hv hs (.inr (.inl rfl))]
 obtain⟨k,u,_⟩:=Zfm h hc hv hs 2
 generalize Q10 c m v size 2=x at*
 simp only[ldP,ldR,Qmn k u hs,Qn5 hc.a0.1 hst,Qye c hA,hf k]
theorem xi{A v:Int}(hv:U v){size:Int}(hs:size=1\/size=4):stP c A v size (Q2 c m v size 3)=stR c A v size (Q10 c m v size 3):=by
 rw[Qmq h hc hst hv hs (.inr (.inr rfl))]
 obtain⟨k,u,b⟩:=Zfm h hc hv hs 3
 have al:=zJ (c:=c) (m:=m) hv hs (access:=3) (.inr (.inr rfl))
 generalize Q10 c m v size 3=x at*
 simp only[stP,stR,Z4z k u hs,Qn5 hc.a0.1 hst,Qgp k u hs]
 cases hq:x.2.1 !=0
 . have hq:x.2.1=0:=by simpa using hq
   rw[decide_eq_true ⟨al hq,b hq⟩];rfl
 . rfl
end
theorem yJ(c:Q03)(k v:Int):(Qgu c k v).Pc=c.Pc:=by
 simp only[Qgu,Qbb,Tree.m]
 repeat'(first|rfl|refine Qzu (Q:=λx:Q03=>x.Pc=c.Pc) ?_ ?_)
def setP(c:Q03)(A v p:Int):Q03:={X:=(Qa5 c A v).X,Pc:=p,B7:=(Qa5 c A v).B7}
def setR(c:Q03)(A v p:Int):Q03:={X:=(Q1u c A v).X,Pc:=p,B7:=(Q1u c A v).B7}
def nxt(c:Q03):Int:=IntKind.wrap .u32 (c.Pc+4)
theorem Zdj(c:Q03){A:Int}(hA:0<=A/\A<16)(v p:Int):setP c A v p=setR c A v p:=by
 unfold setP setR;rw[Qye c hA]
theorem Zf5(c:Q03)(A v:Int):adv (Q1u c A v)=setR c A v (nxt c):=by
 unfold adv setR nxt;rw[(qX c A v).1]
theorem brc(t:Bool)(x y:Q03)(m:List Int):((bif t then(x,eff0) else(y,eff0)).1,m,(bif t then(x,eff0) else(y,eff0)).2)=((bif t then x else y),m,eff0):=by cases t<;>rfl
def isOpB(op:Int):Bool:=decide (op=1)||decide (op=2)||decide (op=3)||decide (op=4)||decide (op=5)||decide (op=6)||decide (op=7)||decide (op=8)||decide (op=9)||decide (op=10)||decide (op=11)||decide (op=12)||decide (op=13)||decide (op=16)||decide (op=17)||decide (op=18)||decide (op=19)||decide (op=20)||decide (op=21)||decide (op=22)||decide (op=23)||decide (op=24)||decide (op=32)||decide (op=33)||decide (op=34)||decide (op=35)||decide (op=36)||decide (op=40)||decide (op=41)||decide (op=42)||decide (op=43)||decide (op=44)||decide (op=45)||decide (op=48)||decide (op=49)||decide (op=56)||decide (op=57)||decide (op=58)||decide (op=59)||decide (op=60)||decide (op=61)||decide (op=62)||decide (op=63)||decide (op=64)
section
variable {P:Nat} {m:List Int} (h:Q0z P m) {c:Q03} (hc:Q2e c) (hst:c.B7.a0<=31) {A B C Imm:Int} (hA:0<=A/\A<16)
include h hc hst hA
theorem vi{op:Int}(hop:isOp op):Q5f c m ⟨op,A,B,C,Imm⟩=((Qim c m ⟨op,A,B,C,Imm⟩).1,(Qim c m ⟨op,A,B,C,Imm⟩).2.2,(Qim c m ⟨op,A,B,C,Imm⟩).2.1):=by
 have alu: ∀{k y:Int},1<=k->k<=23->U y->((setP c A (Q3z k (regX c B) y).1 (nxt c),m,eff0):Q03×List Int×Q1)=(adv (Q1u c A (Qca k (regX c B) y).1),m,eff0):=λh1 h2 hy=>by
   rw[xJ h1 h2 (show U (regX c B) from hc.r _) hy,Zf5,Zdj c hA]
 have uC:U (regX c C):=hc.r _
 have uI:U (IntKind.wrap .u32 Imm):=Q0q _
 obtain⟨⟨l1,l2⟩,⟨l3,l4⟩,⟨l5,l6⟩,⟨l7,l8⟩,⟨l9,l10⟩⟩:=ld_eq c m A B C Imm
 have hva:U (va c B Imm):=Q0q _
 rcases hop with rfl|rfl|rfl|rfl|rfl|rfl|rfl|rfl|rfl|rfl|rfl|rfl|rfl|rfl|rfl|rfl|rfl|rfl|rfl|rfl|rfl|rfl|rfl|rfl|rfl|rfl|rfl|rfl|rfl|rfl|rfl|rfl|rfl|rfl|rfl|rfl|rfl|rfl|rfl|rfl|rfl|rfl|rfl|rfl
 . exact(show Q5f c m ⟨1,A,B,C,Imm⟩=(setP c A (Q3z 1 (regX c B) (regX c C)).1 (nxt c),m,eff0) by kernel_rfl).trans ((alu (by decide) (by decide) uC).trans (by kernel_rfl))
 . exact(show Q5f c m ⟨2,A,B,C,Imm⟩=(setP c A (Q3z 2 (regX c B) (regX c C)).1 (nxt c),m,eff0) by kernel_rfl).trans ((alu (by decide) (by decide) uC).trans (by kernel_rfl))
 . exact(show Q5f c m ⟨3,A,B,C,Imm⟩=(setP c A (Q3z 3 (regX c B) (regX c C)).1 (nxt c),m,eff0) by kernel_rfl).trans ((alu (by decide) (by decide) uC).trans (by kernel_rfl))
 . exact(show Q5f c m ⟨4,A,B,C,Imm⟩=(setP c A (Q3z 4 (regX c B) (regX c C)).1 (nxt c),m,eff0) by kernel_rfl).trans ((alu (by decide) (by decide) uC).trans (by kernel_rfl))
 . exact(show Q5f c m ⟨5,A,B,C,Imm⟩=(setP c A (Q3z 5 (regX c B) (regX c C)).1 (nxt c),m,eff0) by kernel_rfl).trans ((alu (by decide) (by decide) uC).trans (by kernel_rfl))
 . exact(show Q5f c m ⟨6,A,B,C,Imm⟩=(setP c A (Q3z 6 (regX c B) (regX c C)).1 (nxt c),m,eff0) by kernel_rfl).trans ((alu (by decide) (by decide) uC).trans (by kernel_rfl))
 . exact(show Q5f c m ⟨7,A,B,C,Imm⟩=(setP c A (Q3z 7 (regX c B) (regX c C)).1 (nxt c),m,eff0) by kernel_rfl).trans ((alu (by decide) (by decide) uC).trans (by kernel_rfl))
 . exact(show Q5f c m ⟨8,A,B,C,Imm⟩=(setP c A (Q3z 8 (regX c B) (regX c C)).1 (nxt c),m,eff0) by kernel_rfl).trans ((alu (by decide) (by decide) uC).trans (by kernel_rfl))
 . exact(show Q5f c m ⟨9,A,B,C,Imm⟩=(setP c A (Q3z 9 (regX c B) (regX c C)).1 (nxt c),m,eff0) by kernel_rfl).trans ((alu (by decide) (by decide) uC).trans (by kernel_rfl))
 . exact(show Q5f c m ⟨10,A,B,C,Imm⟩=(setP c A (Q3z 10 (regX c B) (regX c C)).1 (nxt c),m,eff0) by kernel_rfl).trans ((alu (by decide) (by decide) uC).trans (by kernel_rfl))
 . exact(show Q5f c m ⟨11,A,B,C,Imm⟩=(setP c A (Q3z 11 (regX c B) (regX c C)).1 (nxt c),m,eff0) by kernel_rfl).trans ((alu (by decide) (by decide) uC).trans (by kernel_rfl))
 . exact(show Q5f c m ⟨12,A,B,C,Imm⟩=(setP c A (Q3z 12 (regX c B) (regX c C)).1 (nxt c),m,eff0) by kernel_rfl).trans ((alu (by decide) (by decide) uC).trans (by kernel_rfl))
 . exact(show Q5f c m ⟨13,A,B,C,Imm⟩=(setP c A (Q3z 13 (regX c B) (regX c C)).1 (nxt c),m,eff0) by kernel_rfl).trans ((alu (by decide) (by decide) uC).trans (by kernel_rfl))
 . exact(show Q5f c m ⟨16,A,B,C,Imm⟩=(setP c A (Q3z 16 (regX c B) (IntKind.wrap .u32 Imm)).1 (nxt c),m,eff0) by kernel_rfl).trans ((alu (by decide) (by decide) uI).trans (by kernel_rfl))
 . exact(show Q5f c m ⟨17,A,B,C,Imm⟩=(setP c A (Q3z 17 (regX c B) (IntKind.wrap .u32 Imm)).1 (nxt c),m,eff0) by kernel_rfl).trans ((alu (by decide) (by decide) uI).trans (by kernel_rfl))
 . exact(show Q5f c m ⟨18,A,B,C,Imm⟩=(setP c A (Q3z 18 (regX c B) (IntKind.wrap .u32 Imm)).1 (nxt c),m,eff0) by kernel_rfl).trans ((alu (by decide) (by decide) uI).trans (by kernel_rfl))
 . exact(show Q5f c m ⟨19,A,B,C,Imm⟩=(setP c A (Q3z 19 (regX c B) (IntKind.wrap .u32 Imm)).1 (nxt c),m,eff0) by kernel_rfl).trans ((alu (by decide) (by decide) uI).trans (by kernel_rfl))
 . exact(show Q5f c m ⟨20,A,B,C,Imm⟩=(setP c A (Q3z 20 (regX c B) (IntKind.wrap .u32 Imm)).1 (nxt c),m,eff0) by kernel_rfl).trans ((alu (by decide) (by decide) uI).trans (by kernel_rfl))
 . exact(show Q5f c m ⟨21,A,B,C,Imm⟩=(setP c A (Q3z 21 (regX c B) (IntKind.wrap .u32 Imm)).1 (nxt c),m,eff0) by kernel_rfl).trans ((alu (by decide) (by decide) uI).trans (by kernel_rfl))
 . exact(show Q5f c m ⟨22,A,B,C,Imm⟩=(setP c A (Q3z 22 (regX c B) (IntKind.wrap .u32 Imm)).1 (nxt c),m,eff0) by kernel_rfl).trans ((alu (by decide) (by decide) uI).trans (by kernel_rfl))
 . exact(show Q5f c m ⟨23,A,B,C,Imm⟩=(setP c A (Q3z 23 (regX c B) (IntKind.wrap .u32 Imm)).1 (nxt c),m,eff0) by kernel_rfl).trans ((alu (by decide) (by decide) uI).trans (by kernel_rfl))
 . refine(show Q5f c m ⟨24,A,B,C,Imm⟩=(setP c A (ishl .u32 (IntKind.wrap .u32 Imm) 16) (nxt c),m,eff0) by kernel_rfl).trans ?_
   rw[Zdj c hA,<-Zf5];kernel_rfl
 . have e:=Zgu h hc hst hA hva (.inr rfl) (f:=λv=>v) (g:=λv=>v) (λ_ _=>rfl)
   rw[<-l1,<-l2]at e
   refine(show Q5f c m ⟨32,A,B,C,Imm⟩=((Q6a c m ⟨32,A,B,C,Imm⟩).1,(Q6a c m ⟨32,A,B,C,Imm⟩).2,eff0) by kernel_rfl).trans ?_
   rw[e];kernel_rfl
 . have e:=Zgu h hc hst hA hva (.inl rfl) (f:=λv=>Q28 v 8) (g:=λv=>Q2t v 8) (λhm a=>xaj hm a)
   rw[<-l3,<-l4]at e
   refine(show Q5f c m ⟨33,A,B,C,Imm⟩=((Q6a c m ⟨33,A,B,C,Imm⟩).1,(Q6a c m ⟨33,A,B,C,Imm⟩).2,eff0) by kernel_rfl).trans ?_
   rw[e];kernel_rfl
 . have e:=Zgu h hc hst hA hva (.inl rfl) (f:=λv=>v) (g:=λv=>v) (λ_ _=>rfl)
   rw[<-l5,<-l6]at e
   refine(show Q5f c m ⟨34,A,B,C,Imm⟩=((Q6a c m ⟨34,A,B,C,Imm⟩).1,(Q6a c m ⟨34,A,B,C,Imm⟩).2,eff0) by kernel_rfl).trans ?_
   rw[e];kernel_rfl
 . have e:=xi h hc hst (A:=A) hva (.inr rfl)
   rw[<-l7,<-l8]at e
   refine(show Q5f c m ⟨35,A,B,C,Imm⟩=((Q7v c m ⟨35,A,B,C,Imm⟩).1,(Q7v c m ⟨35,A,B,C,Imm⟩).2,eff0) by kernel_rfl).trans ?_
   rw[e];kernel_rfl
 . have e:=xi h hc hst (A:=A) hva (.inl rfl)
   rw[<-l9,<-l10]at e
   refine(show Q5f c m ⟨36,A,B,C,Imm⟩=((Q7v c m ⟨36,A,B,C,Imm⟩).1,(Q7v c m ⟨36,A,B,C,Imm⟩).2,eff0) by kernel_rfl).trans ?_
   rw[e];kernel_rfl
 . exact(show Q5f c m ⟨40,A,B,C,Imm⟩=((bif(Q24 40 (regX c A) (regX c B)) then((⟨c.X,IntKind.wrap .u32 (c.Pc+IntKind.wrap .u32 (4*IntKind.wrap .u32 Imm)),c.B7⟩:Q03),eff0) else(⟨c.X,nxt c,c.B7⟩,eff0)).1,m,(bif(Q24 40 (regX c A) (regX c B)) then((⟨c.X,IntKind.wrap .u32 (c.Pc+IntKind.wrap .u32 (4*IntKind.wrap .u32 Imm)),c.B7⟩:Q03),eff0) else(⟨c.X,nxt c,c.B7⟩,eff0)).2) by kernel_rfl).trans ((brc (Q24 40 (regX c A) (regX c B)) ⟨c.X,IntKind.wrap .u32 (c.Pc+IntKind.wrap .u32 (4*IntKind.wrap .u32 Imm)),c.B7⟩ ⟨c.X,nxt c,c.B7⟩ m).trans (by kernel_rfl))
 . exact(show Q5f c m ⟨41,A,B,C,Imm⟩=((bif(Q24 41 (regX c A) (regX c B)) then((⟨c.X,IntKind.wrap .u32 (c.Pc+IntKind.wrap .u32 (4*IntKind.wrap .u32 Imm)),c.B7⟩:Q03),eff0) else(⟨c.X,nxt c,c.B7⟩,eff0)).1,m,(bif(Q24 41 (regX c A) (regX c B)) then((⟨c.X,IntKind.wrap .u32 (c.Pc+IntKind.wrap .u32 (4*IntKind.wrap .u32 Imm)),c.B7⟩:Q03),eff0) else(⟨c.X,nxt c,c.B7⟩,eff0)).2) by kernel_rfl).trans ((brc (Q24 41 (regX c A) (regX c B)) ⟨c.X,IntKind.wrap .u32 (c.Pc+IntKind.wrap .u32 (4*IntKind.wrap .u32 Imm)),c.B7⟩ ⟨c.X,nxt c,c.B7⟩ m).trans (by kernel_rfl))
 . exact(show Q5f c m ⟨42,A,B,C,Imm⟩=((bif(Q24 42 (regX c A) (regX c B)) then((⟨c.X,IntKind.wrap .u32 (c.Pc+IntKind.wrap .u32 (4*IntKind.wrap .u32 Imm)),c.B7⟩:Q03),eff0) else(⟨c.X,nxt c,c.B7⟩,eff0)).1,m,(bif(Q24 42 (regX c A) (regX c B)) then((⟨c.X,IntKind.wrap .u32 (c.Pc+IntKind.wrap .u32 (4*IntKind.wrap .u32 Imm)),c.B7⟩:Q03),eff0) else(⟨c.X,nxt c,c.B7⟩,eff0)).2) by kernel_rfl).trans ((brc (Q24 42 (regX c A) (regX c B)) ⟨c.X,IntKind.wrap .u32 (c.Pc+IntKind.wrap .u32 (4*IntKind.wrap .u32 Imm)),c.B7⟩ ⟨c.X,nxt c,c.B7⟩ m).trans (by kernel_rfl))
 . exact(show Q5f c m ⟨43,A,B,C,Imm⟩=((bif(Q24 43 (regX c A) (regX c B)) then((⟨c.X,IntKind.wrap .u32 (c.Pc+IntKind.wrap .u32 (4*IntKind.wrap .u32 Imm)),c.B7⟩:Q03),eff0) else(⟨c.X,nxt c,c.B7⟩,eff0)).1,m,(bif(Q24 43 (regX c A) (regX c B)) then((⟨c.X,IntKind.wrap .u32 (c.Pc+IntKind.wrap .u32 (4*IntKind.wrap .u32 Imm)),c.B7⟩:Q03),eff0) else(⟨c.X,nxt c,c.B7⟩,eff0)).2) by kernel_rfl).trans ((brc (Q24 43 (regX c A) (regX c B)) ⟨c.X,IntKind.wrap .u32 (c.Pc+IntKind.wrap .u32 (4*IntKind.wrap .u32 Imm)),c.B7⟩ ⟨c.X,nxt c,c.B7⟩ m).trans (by kernel_rfl))
 . exact(show Q5f c m ⟨44,A,B,C,Imm⟩=((bif(Q24 44 (regX c A) (regX c B)) then((⟨c.X,IntKind.wrap .u32 (c.Pc+IntKind.wrap .u32 (4*IntKind.wrap .u32 Imm)),c.B7⟩:Q03),eff0) else(⟨c.X,nxt c,c.B7⟩,eff0)).1,m,(bif(Q24 44 (regX c A) (regX c B)) then((⟨c.X,IntKind.wrap .u32 (c.Pc+IntKind.wrap .u32 (4*IntKind.wrap .u32 Imm)),c.B7⟩:Q03),eff0) else(⟨c.X,nxt c,c.B7⟩,eff0)).2) by kernel_rfl).trans ((brc (Q24 44 (regX c A) (regX c B)) ⟨c.X,IntKind.wrap .u32 (c.Pc+IntKind.wrap .u32 (4*IntKind.wrap .u32 Imm)),c.B7⟩ ⟨c.X,nxt c,c.B7⟩ m).trans (by kernel_rfl))
 . exact(show Q5f c m ⟨45,A,B,C,Imm⟩=((bif(Q24 45 (regX c A) (regX c B)) then((⟨c.X,IntKind.wrap .u32 (c.Pc+IntKind.wrap .u32 (4*IntKind.wrap .u32 Imm)),c.B7⟩:Q03),eff0) else(⟨c.X,nxt c,c.B7⟩,eff0)).1,m,(bif(Q24 45 (regX c A) (regX c B)) then((⟨c.X,IntKind.wrap .u32 (c.Pc+IntKind.wrap .u32 (4*IntKind.wrap .u32 Imm)),c.B7⟩:Q03),eff0) else(⟨c.X,nxt c,c.B7⟩,eff0)).2) by kernel_rfl).trans ((brc (Q24 45 (regX c A) (regX c B)) ⟨c.X,IntKind.wrap .u32 (c.Pc+IntKind.wrap .u32 (4*IntKind.wrap .u32 Imm)),c.B7⟩ ⟨c.X,nxt c,c.B7⟩ m).trans (by kernel_rfl))
 . refine(show Q5f c m ⟨48,A,B,C,Imm⟩=(setP c A (nxt c) (IntKind.wrap .u32 ((Qa5 c A (nxt c)).Pc+IntKind.wrap .u32 (4*IntKind.wrap .u32 Imm))),m,eff0) by kernel_rfl).trans ?_
   rw[Zdj c hA,Qye c hA,(qX c A (nxt c)).1];kernel_rfl
 . refine(show Q5f c m ⟨49,A,B,C,Imm⟩=(setP c A (nxt c) (va c B Imm),m,eff0) by kernel_rfl).trans ?_
   rw[Zdj c hA];kernel_rfl
 . refine(show Q5f c m ⟨56,A,B,C,Imm⟩=(Q45 c 7 0,m,eff0) by kernel_rfl).trans ?_
   rw[Qn5 hc.a0.1 hst];kernel_rfl
 . refine(show Q5f c m ⟨57,A,B,C,Imm⟩=(Qd2 c,m,eff0) by kernel_rfl).trans ?_
   rw[Zfo hc.a0.1 hst];kernel_rfl
 . refine(show Q5f c m ⟨58,A,B,C,Imm⟩=(setP c A (List.getD (A8.l c.B7) Imm.toNat 0) (nxt c),m,eff0) by kernel_rfl).trans ?_
   rw[Zdj c hA,<-Zf5];kernel_rfl
 . have e:=yJ c (IntKind.wrap .i64 Imm) (regX c A)
   refine(show Q5f c m ⟨59,A,B,C,Imm⟩=((⟨(Qgu c (IntKind.wrap .i64 Imm) (regX c A)).X,IntKind.wrap .u32 (c.Pc+4),(Qgu c (IntKind.wrap .i64 Imm) (regX c A)).B7⟩:Q03),m,eff0) by kernel_rfl).trans ?_
   rw[<-e];kernel_rfl
 . exact(show Q5f c m ⟨60,A,B,C,Imm⟩=((Qim c m ⟨60,A,B,C,Imm⟩).1,(Qim c m ⟨60,A,B,C,Imm⟩).2.2,(Qim c m ⟨60,A,B,C,Imm⟩).2.1) by kernel_rfl)
 . exact(show Q5f c m ⟨61,A,B,C,Imm⟩=((Qim c m ⟨61,A,B,C,Imm⟩).1,(Qim c m ⟨61,A,B,C,Imm⟩).2.2,(Qim c m ⟨61,A,B,C,Imm⟩).2.1) by kernel_rfl)
 . exact(show Q5f c m ⟨62,A,B,C,Imm⟩=((Qim c m ⟨62,A,B,C,Imm⟩).1,(Qim c m ⟨62,A,B,C,Imm⟩).2.2,(Qim c m ⟨62,A,B,C,Imm⟩).2.1) by kernel_rfl)
 . exact(show Q5f c m ⟨63,A,B,C,Imm⟩=((Qim c m ⟨63,A,B,C,Imm⟩).1,(Qim c m ⟨63,A,B,C,Imm⟩).2.2,(Qim c m ⟨63,A,B,C,Imm⟩).2.1) by kernel_rfl)
 . exact(show Q5f c m ⟨64,A,B,C,Imm⟩=((Qim c m ⟨64,A,B,C,Imm⟩).1,(Qim c m ⟨64,A,B,C,Imm⟩).2.2,(Qim c m ⟨64,A,B,C,Imm⟩).2.1) by kernel_rfl)
end
theorem qak{op:Int}(h0:0<=op)(h1:op<256)(h:Q26 op≠0):isOp op:=by
 have e:=of_decide_eq_true (Qt0 (λop=>decide (Q26 op=0\/isOpB op=true)) 256 (by kernel_rfl) h0 h1)
 rcases e with e|e
 . exact absurd e h
 . simpa only[isOpB,isOp,Bool.or_eq_true,decide_eq_true_eq,or_assoc] using e
theorem qj{op:Int}(o:isOp op):1<=op/\op<=64:=by
 unfold isOp at o
 rcases o with h|h|h|h|h|h|h|h|h|h|h|h|h|h|h|h|h|h|h|h|h|h|h|h|h|h|h|h|h|h|h|h|h|h|h|h|h|h|h|h|h|h|h|h<;>(rw[h];decide)
theorem xj{w:Int}(hw:U w):(Q1w w).2=true->isOp (Q1w w).1.Op:=by
  have s24:ishr .u32 w 24=w/16777216:=by have:=Qpz (a:=w) 24 (by decide);simpa using this
  obtain⟨w0,w1⟩:=hw
  have eo:IntKind.wrap .i64 (w/16777216)=w/16777216:=w64 (by omega) (by omega)
  have q:(λr:Q0i×Bool=>r.2=true->isOp r.1.Op) (Q1w w):=by
    simp only[Q1w,Q63,Tree.m,letv,s24,eo]
    cases hf:Q26 (w/16777216)==0
    . have g:isOp (w/16777216):=qak (by omega) (by omega) (by simpa using hf)
      repeat'(first
        |exact λ_=>g
        |exact λe=>Bool.noConfusion (show false=true from e)
        |refine Qzu (Q:=λr:Q0i×Bool=>r.2=true->isOp r.1.Op) ?_ ?_)
    . exact λe=>Bool.noConfusion (show false=true from e)
  exact q
section
variable (c:Q03) (m:List Int)
def doR(x:Int×Int×List Int)(w:Int)(d:Q0i×Bool):Q03×Q1×List Int:=
 bif x.2.1 !=0 then(Q2k c x.2.1 c.Pc,eff0,x.2.2) else bif !d.2 then(Q2k c 1 w,eff0,x.2.2) else bif Q2y d.1.Op then(bif iand .u32 c.B7.a0 1==0 then(Q2k c 2 w,eff0,x.2.2) else Qim c x.2.2 d.1) else Qim c x.2.2 d.1
def doP(y:Int×List Int×Int)(d:Q0i×Bool):Q03×List Int×Q1:=
 bif y.2.2 !=0 then(Q45 c y.2.2 c.Pc,y.2.1,eff0) else bif !d.2 then(Q45 c 1 y.1,y.2.1,eff0) else bif Q85 d.1.Op then(bif !Q9v c then(Q45 c 2 y.1,y.2.1,eff0) else Q5f c y.2.1 d.1) else Q5f c y.2.1 d.1
theorem do_eq:Q6f c m=doR c (Q10 c m c.Pc 4 1) (Q14 (Q10 c m c.Pc 4 1).2.2 (Q10 c m c.Pc 4 1).1 4).1 (Q1w (Q14 (Q10 c m c.Pc 4 1).2.2 (Q10 c m c.Pc 4 1).1 4).1):=by kernel_rfl
theorem zak:Q9l c m=doP c (Qmo c m) (Qgo (Qmo c m).1):=by kernel_rfl
theorem vJ:Qmo c m=bif(Q2 c m c.Pc 4 1).2.2 !=0 then(0,(Q2 c m c.Pc 4 1).2.1,(Q2 c m c.Pc 4 1).2.2) else((Q4b (Q2 c m c.Pc 4 1).2.1 (Q2 c m c.Pc 4 1).1 4).1,(Q2 c m c.Pc 4 1).2.1,0):=by kernel_rfl
end
theorem zj{P:Nat}{m:List Int}(h:Q0z P m){c:Q03}(hc:Q2e c)(hst:c.B7.a0<=31):Q9l c m=((Q6f c m).1,(Q6f c m).2.2,(Q6f c m).2.1):=by
  obtain⟨k,u,b⟩:=Zfm h hc hc.pc (.inr rfl) 1
  have tr: ∀k b,Q45 c k b=Q2k c k b:=Qn5 hc.a0.1 hst
  rw[zak,do_eq,vJ,Qmq h hc hst hc.pc (.inr rfl) (.inl rfl)]
  generalize Q10 c m c.Pc 4 1=x at*
  cases hx:x.2.1 !=0
  . rw [Qmn k u (.inr rfl)]
    have hw:U (Q14 x.2.2 x.1 4).1:=(Tree.pp (Zax k u (.inr rfl))).2
    generalize(Q14 x.2.2 x.1 4).1=w at*
    show doP c (w,x.2.2,0) (Qgo w)=_
    rw[vg hw]
    have o:=xj hw
    have i:=Tree.post _ (Zi3 w)
    change(Q1w w).2=true->Qem (Q1w w).1 at i
    generalize Q1w w=d at*
    obtain⟨⟨op,A,B,C,Imm⟩,ok⟩:=d
    cases ok
    . simp only[doP,doR,hx,tr];rfl
    . have o:isOp op:=o rfl
      have i:=i rfl
      have p:=vi (C:=C) (B:=B) (Imm:=Imm) k hc hst i.a o
      have pv:Q85 op=Q2y op:=qah (by have:=qj o;omega) (by have:=qj o;omega)
      have kn:(!Q9v c)=(iand .u32 c.B7.a0 1==0):=by
        show(!(!(iand .u32 c.B7.a0 1==0)))=_
        exact Bool.not_not _
      simp only[doP,doR,hx,tr,pv,kn,p]
      cases Q2y op
      . rfl
      . cases iand .u32 c.B7.a0 1==0<;>rfl
  . simp only[doP,doR,hx,cond_true,tr]
theorem yj{a b:Int}:decide (a>=b)=!decide (a<b):=by
 by_cases h:a<b
 . rw[decide_eq_true h,decide_eq_false (by omega)];rfl
 . rw[decide_eq_false h,decide_eq_true (by omega)];rfl
def bits(g:Int)(l:List Nat)(s:Int):Int:=l.foldl (λ(a:Int) (i:Nat)=>IntKind.wrap .i64 (a+IntKind.wrap .i64 (iand .u32 (ishr .u32 g (i:Int)) 1))) s
theorem qK(b:Q07):Qdp b=bits b.C4 [0,1,2,3,4,5,6,7,8,9,10,11,12,13,14,15,16,17,18,19,20,21,22,23,24,25,26,27,28,29,30,31] 0:=by kernel_rfl
theorem xaH{g:Int}(hg:U g){i:Nat}(hi:i<=32):IntKind.wrap .i64 (iand .u32 (ishr .u32 g (i:Int)) 1)=g/2^i%2:=by
 rw[and1 (Qtj hg _),Qpz i hi]
 have:0<=g/2^i%2/\g/2^i%2<2:=by omega
 exact w64 (by omega) (by omega)
theorem xK{g:Int}(hg:U g)(l:List Nat): ∀s:Int,(∀i∈l,i<=32)->0<=s->s+l.length<=1000->bits g l s=s+(l.map λi=>g/2^i%2).sum:=by
 induction l with
 |nil=>intro s _ _ _;simp [bits]
 | cons i l ih=>
   intro s hl h0 h1
   have h1:s+(l.length+1)<=1000:=by simpa using h1
   have hb:0<=g/2^i%2/\g/2^i%2<2:=by omega
   have e:bits g (i::l) s=bits g l (s+g/2^i%2):=by
     show bits g l (IntKind.wrap .i64 (s+IntKind.wrap .i64 (iand .u32 (ishr .u32 g (i:Int)) 1)))=_
     rw[xaH hg (hl i (by simp)),w64 (by omega) (by omega)]
   rw[e,ih _ (λj hj=>hl j (by simp [hj])) (by omega) (by omega)]
   simp;omega
theorem Zla(n:Q0p)(port:Int):Z1m n port=Qgk n port:=by
 simp only[Z1m,Qt4,Qgk,Qeh,Tree.m]
 cases n.C9<;>cases n.C0<;>rfl
theorem Z2m(t:Q0f):Q3u t=Qcl t:=by
 simp only[Q3u,Qll,Qcl,Qi,Tree.m]
 cases t.D4<;>cases t.D9<;>rfl
theorem Zaz(n:Q0p)(p:Int):Q5m n p=Qha n p:=by
 simp only[Q5m,Qjs,Qha,Qls,Tree.m]
 cases n.C9<;>cases n.C0<;>rfl
theorem Z9e(d:Q0d)(p:Int):Q1b d p=Qev d p:=by
  simp only[Q1b,Q5t,Q8r,Q6y,Qev,Qj9,Tree.m,letv,yj]
  cases decide (d.Blocks>64)
  . by_cases s:d.C1=0\/d.C1=1\/d.C1=2\/d.C1=3
    . rcases s with s|s|s|s<;>rw[s]
      . rfl
      . by_cases c1:d.F1=1
        . rw[c1];cases decide (d.B8<d.Blocks)<;>cases decide (IntKind.wrap .i64 d.B2<p)<;>cases decide (d.C5=[])<;>rfl
        . by_cases c2:d.F1=2
          . rw[c2];cases decide (d.B8<d.Blocks)<;>cases decide (IntKind.wrap .i64 d.B2<p)<;>cases(d.C5.length:Int)==128<;>rfl
          . rw[show(d.F1==1)=false by simpa using c1,show(d.F1==2)=false by simpa using c2]
            cases decide (d.B8<d.Blocks)<;>cases decide (IntKind.wrap .i64 d.B2<p)<;>rfl
      . rfl
      . rfl
    . rw[show(d.C1==0)=false by simp;omega,show(d.C1==1)=false by simp;omega,show(d.C1==2)=false by simp;omega,show(d.C1==3)=false by simp;omega]
      by_cases n:d.C1<0
      . rw[decide_eq_true n];rfl
      . rw[decide_eq_false n,decide_eq_true (show d.C1>3 by omega)];rfl
  . rfl
theorem zK(c:Q0a):Q9g c=Q5d c:=by
 show(!decide (c.D5=[]))=decide ((c.D5.length:Int)>0)
 cases c.D5 with
 |nil=>rfl
 |cons a l=>rw[decide_eq_false (by simp),decide_eq_true (by simp)];rfl
theorem xak(k:List UInt8):decide (k=[])=((k.length:Int)==0):=by
 cases k with
 |nil=>rfl
 | cons a l=>
   rw[decide_eq_false (by simp)]
   exact(beq_eq_false_iff_ne.2 (by simp;omega)).symm
theorem Zl6(c:Q0a)(port:Int):Qor c port=Q4v c port:=by
 simp only[Qor,Q96,Q4v,Q30,Tree.m,xak]
 cases port==0
 . rfl
 . cases(c.D5.length:Int)==0<;>rfl
theorem yK(t:Q0f)(v:Int):Qkt t v=Qrx v:=by
 simp only[Qkt,Qlk,Qrx,Qv0,Tree.m]
 cases h:v==0
 . rw[show(v !=0)=true by simp only[bne,h];rfl];rfl
 . rw[show(v !=0)=false by simp only[bne,h];rfl,eq_of_beq h];rfl
section
variable {P:Nat} {m:List Int} (h:Q0z P m)
include h
theorem Z62(f:Int):Q8p m f=Q22 m f:=by
 have a:=Q38 h
 have b:=Qe2 h
 simp only[Q8p,Qbo,Q22,Qhz,Tree.m,letv,a,b]
theorem Z5u(f:Int):Q9o m f=Q22 m f:=by
 have a:=Q38 h
 have b:=Qe2 h
 simp only[Q9o,Qeb,Q22,Qhz,Tree.m,letv,a,b]
theorem Zdp(d:Q0d)(port:Int)(v:Int)(at0:Int):Qyh d m port v at0=Qbi d m port v at0:=by
  have pg:=Z62 h
  have pa:=Zcc h
  have rq: ∀d a,Qix d a=Qep d a:=λ_ _=>rfl
  simp only[Qyh,Qgr,Qub,Qbc,Qbi,Q4u,Tree.m,letv,pg,pa,rq]
  cases port==4
  . cases port==5
    . cases h6:port==6
      . rw[show(port !=6)=true by simp only[bne,h6];rfl];rfl
      . rw [show(port !=6)=false by simp only[bne,h6];rfl]
        by_cases v1:v=1
        . subst v1
          cases hs:d.C1==0
          . rw[show(d.C1 !=0)=true by simp only[bne,hs];rfl];rfl
          . rw[show(d.C1 !=0)=false by simp only[bne,hs];rfl];rfl
        . by_cases v2:v=2
          . subst v2
            cases hs:d.C1==0
            . rw[show(d.C1 !=0)=true by simp only[bne,hs];rfl];rfl
            . rw[show(d.C1 !=0)=false by simp only[bne,hs];rfl];rfl
          . rw[show(v==1)=false by simpa using v1,show(v==2)=false by simpa using v2]
            cases v==0
            . rfl
            . have:Q95 d=(bif d.C1==2 then true else d.C1==3):=rfl
              rw[this]
              cases d.C1==2<;>cases d.C1==3<;>rfl
    . rfl
  . rfl
theorem Zg1(n:Q0p)(port:Int)(v:Int)(at0:Int):Z8s n m port v at0=Qd6 n m port v at0:=by
  have pg:=Z5u h
  have pa:=Zcc h
  simp only[Z8s,Qks,Z88,Qgm,Qd6,Q64,Tree.m,letv,pg,pa]
  have g1:decide (n.F4>=1)=!decide (n.F4<1):=yj
  have g2:decide (n.F4<=128)=!decide (n.F4>128):=by
    by_cases h:n.F4>128
    . rw[decide_eq_true h,decide_eq_false (by omega)];rfl
    . rw[decide_eq_false h,decide_eq_true (by omega)];rfl
  rw[g1,g2]
  cases port==7
  . cases port==8
    . cases h9:port==9
      . rw[show(port !=9)=true by simp only[bne,h9];rfl];rfl
      . rw [show(port !=9)=false by simp only[bne,h9];rfl]
        by_cases v1:v=1
        . subst v1
          cases decide (n.F4<1)<;>cases decide (n.F4>128)<;>cases Q22 m n.B4<;>rfl
        . by_cases v2:v=2
          . subst v2;rfl
          . rw[show(v==1)=false by simpa using v1,show(v==2)=false by simpa using v2]
            cases v==0<;>rfl
    . rfl
  . rfl
theorem Za{d:Q0d}(hd:Q8e d)(e:Q0e):Qge d m e=((Q7f d m e).1,(Q7f d m e).2.2,(Q7f d m e).2.1):=by
  have hcl:Q04 m=m:=rfl
  have pg:=Z62 h d.B2
  have lp:decide ((e.C8.length:Int)>0)=!decide (e.C8=[]):=by
    cases e.C8 with
    |nil=>rfl
    |cons a l=>rw[decide_eq_true (by simp),decide_eq_false (by simp)];rfl
  have bad:(e.C8.length:Int)≠128->Q22 m d.B2=true->Q2m m (IntKind.wrap .i64 d.B2) e.C8=(m,false):=λhl hp=>by
    rw[Qlj h hd.opFrame]at hp
    have hp:=of_decide_eq_true hp
    have h1:=hd.opFrame.1
    have h3:=h.p2
    have ew:IntKind.i64.wrap d.B2=d.B2:=w64 (by omega) (by omega)
    simp only[Q2m,Q32,Tree.m,letv,hcl,ew,Z9v h,decide_eq_true (⟨h1,hp⟩:0<=d.B2/\d.B2<P),show((e.C8.length:Int) !=128)=true by simpa using hl]
    rfl
  have good:(e.C8.length:Int)=128->Q22 m d.B2=true->Q2m m (IntKind.wrap .i64 d.B2) e.C8=(Qju m (IntKind.wrap .i64 d.B2) e.C8,true):=λhl hp=>by
    rw[Qlj h hd.opFrame]at hp
    have hp:=of_decide_eq_true hp
    have h1:=hd.opFrame.1
    have h3:=h.p2
    have ew:IntKind.i64.wrap d.B2=d.B2:=w64 (by omega) (by omega)
    rw[ew];exact Za6 h h1 hp (by omega)
  simp only[Qge,Q6w,Q7f,Q66,Tree.m,letv,hcl,pg,lp]
  cases d.C1 !=1
  . cases e.B5 !=4
    . cases decide (e.N>1)
      . cases e.N==1
        . cases decide (e.C8=[])<;>rfl
        . cases hc:d.F1==1
          . cases decide (e.C8=[])<;>rfl
          . by_cases hl:(e.C8.length:Int)=128
            . rw[show((e.C8.length:Int) !=128)=false by simpa using hl]
              cases hp:Q22 m d.B2
              . rfl
              . rw[good hl hp];rfl
            . rw[show((e.C8.length:Int) !=128)=true by simpa using hl]
              cases hp:Q22 m d.B2
              . rfl
              . rw[bad hl hp];rfl
      . rfl
    . rfl
  . rfl
theorem Zaw{n:Q0p}(hn:Qin n)(frame:List UInt8):Qlb n m frame=((Q7s n m frame).1,(Q7s n m frame).2.2,(Q7s n m frame).2.1):=by
  have hcl:Q04 m=m:=rfl
  have pg:=Z5u h n.C3
  simp only[Qlb,Q9t,Q7s,Q69,Tree.m,letv,hcl,pg]
  cases !n.C9
  . cases decide ((frame.length:Int)<1)
    . cases hf:decide ((frame.length:Int)>128)
      . cases hp:Q22 m n.C3
        . rfl
        . rw[Qlj h hn.buffer]at hp
          have hp:=of_decide_eq_true hp
          have h1:=hn.buffer.1
          have h3:=h.p2
          have ew:IntKind.i64.wrap n.C3=n.C3:=w64 (by omega) (by omega)
          have hf:=of_decide_eq_false hf
          obtain⟨b1,b2⟩:=(Tree.pp (yh h h1 hp)).2
          change isPg m n.C3 (Q5e m n.C3).1 at b1
          have tk:List.take (Int.toNat ((Q5e m n.C3).1.length:Int)-Int.toNat (frame.length:Int)) (List.drop (Int.toNat (frame.length:Int)) (Q5e m n.C3).1)=(Q5e m n.C3).1.drop frame.length:=by
            rw[Int.toNat_natCast,Int.toNat_natCast]
            exact List.take_of_length_le (by simp)
          rw[ew,tk,Zd5 h h1 hp (by omega) b1]
          rfl
      . rfl
    . rfl
  . rfl
end
def ptab:List UInt8:=(List.range 256).map λn=>UInt8.ofNat (n%2+n/2%2+n/4%2+n/8%2+n/16%2+n/32%2+n/64%2+n/128%2)
def pt(n:Int):Int:=((UInt8.toNat (ptab.getD n.toNat 0):Nat):Int)
theorem vK(x:Int):Q5w x=IntKind.wrap .i64 (IntKind.wrap .u8 (IntKind.wrap .u8 (IntKind.wrap .u8 (pt (ishr .u32 x 24)+pt (iand .u32 (ishr .u32 x 16) 255))+pt (iand .u32 (ishr .u32 x 8) 255))+pt (iand .u32 x 255))):=by kernel_rfl
theorem pt8{a:Int}(h0:0<=a)(h1:a<256):pt a=a%2+a/2%2+a/4%2+a/8%2+a/16%2+a/32%2+a/64%2+a/128%2:=
 eq_of_beq (Qt0 (λa=>pt a==a%2+a/2%2+a/4%2+a/8%2+a/16%2+a/32%2+a/64%2+a/128%2) 256 (by kernel_rfl) h0 h1)
theorem vj{g:Int}(hg:U g):bits g [0,1,2,3,4,5,6,7,8,9,10,11,12,13,14,15,16,17,18,19,20,21,22,23,24,25,26,27,28,29,30,31] 0=pt (g%256)+pt (g/256%256)+pt (g/65536%256)+pt (g/16777216):=by
 rw[xK hg _ 0 (by decide) (by decide) (by decide),pt8 (by omega) (by omega),pt8 (by omega) (by omega),pt8 (by omega) (by omega),pt8 (by have:=hg.1;omega) (by have:=hg.2;omega)]
 obtain⟨g0,g1⟩:=hg
 simp only[List.map_cons,List.map_nil,List.sum_cons,List.sum_nil]
 have e: ∀i j:Nat,∀k:Int,i<8->k=2^j->g/2^(i+j)%2=(g/k%256)/2^i%2:=λi j k hi hk=>by
   subst hk
   rw[Nat.add_comm,Int.pow_add,<-Int.ediv_ediv_of_nonneg (Int.le_of_lt (Int.pow_pos (by decide)))]
   generalize g/2^j=x
   have:i=0\/i=1\/i=2\/i=3\/i=4\/i=5\/i=6\/i=7:=by omega
   rcases this with rfl|rfl|rfl|rfl|rfl|rfl|rfl|rfl<;>simp<;>omega
 have e0: ∀i:Nat,i<8->g/2^i%2=(g%256)/2^i%2:=λi hi=>by have:=e i 0 1 hi rfl;simpa using this
 have e24:g/16777216%256=g/16777216:=by omega
 rw[e0 0 (by decide),e0 1 (by decide),e0 2 (by decide),e0 3 (by decide),e0 4 (by decide),e0 5 (by decide),e0 6 (by decide),e0 7 (by decide)]
 rw[e 0 8 256 (by decide) (by decide),e 1 8 256 (by decide) (by decide),e 2 8 256 (by decide) (by decide),e 3 8 256 (by decide) (by decide),e 4 8 256 (by decide) (by decide),e 5 8 256 (by decide) (by decide),e 6 8 256 (by decide) (by decide),e 7 8 256 (by decide) (by decide)]
 rw[e 0 16 65536 (by decide) (by decide),e 1 16 65536 (by decide) (by decide),e 2 16 65536 (by decide) (by decide),e 3 16 65536 (by decide) (by decide),e 4 16 65536 (by decide) (by decide),e 5 16 65536 (by decide) (by decide),e 6 16 65536 (by decide) (by decide),e 7 16 65536 (by decide) (by decide)]
 rw[e 0 24 16777216 (by decide) (by decide),e 1 24 16777216 (by decide) (by decide),e 2 24 16777216 (by decide) (by decide),e 3 24 16777216 (by decide) (by decide),e 4 24 16777216 (by decide) (by decide),e 5 24 16777216 (by decide) (by decide),e 6 24 16777216 (by decide) (by decide),e 7 24 16777216 (by decide) (by decide),e24]
 generalize g%256=a
 generalize g/256%256=b
 generalize g/65536%256=c
 generalize g/16777216=d
 simp only[show(2:Int)^0=1 from rfl,show(2:Int)^1=2 from rfl,show(2:Int)^2=4 from rfl,show(2:Int)^3=8 from rfl,show(2:Int)^4=16 from rfl,show(2:Int)^5=32 from rfl,show(2:Int)^6=64 from rfl,show(2:Int)^7=128 from rfl,Int.ediv_one]
 omega
theorem pt_le{a:Int}(h0:0<=a)(h1:a<256):0<=pt a/\pt a<=8:=by rw[pt8 h0 h1];omega
theorem Z57{b:Q07}(hg:U b.C4):Qbm b=Qdp b/\0<=Qdp b/\Qdp b<=32:=by
 obtain⟨s8,s16,s24⟩:=shr_c b.C4
 have u8:U (ishr .u32 b.C4 8):=Qtj hg _
 have u16:U (ishr .u32 b.C4 16):=Qtj hg _
 have e:Qbm b=Q5w b.C4:=rfl
 rw[e,vK,qK,vj hg,m255 u8,m255 u16,m255 hg,s8,s16,s24]
 obtain⟨g0,g1⟩:=hg
 have p0:=pt_le (a:=b.C4%256) (by omega) (by omega)
 have p1:=pt_le (a:=b.C4/256%256) (by omega) (by omega)
 have p2:=pt_le (a:=b.C4/65536%256) (by omega) (by omega)
 have p3:=pt_le (a:=b.C4/16777216) (by omega) (by omega)
 have w8: ∀x,IntKind.wrap .u8 x=x%256:=λx=>IntKind.wrap_u8 x
 rw[w8,w8,w8,IntKind.wrap_i64]
 omega
theorem Ze6{b:Q07}(h:okB b):Q6p b=Q3h b:=by
 obtain⟨e,l0,l1⟩:=Z57 h.2
 obtain⟨t0,t1⟩:=h.1
 simp only[Q6p,Q51,Q3h,Q8x,Tree.m,letv,e]
 rw[IntKind.wrap_u32,IntKind.wrap_u64,IntKind.wrap_u64,Int.emod_eq_of_lt l0 (by omega),Int.emod_eq_of_lt l0 (by omega),Int.emod_eq_of_lt t0 (by omega)]
theorem Zkb{b:Q07}(h:okB b)(port:Int):Qoj b port=Q5 b port:=by
 simp only[Qoj,Qb8,Q5,Q5r,Tree.m,letv,(Z57 h.2).1]
theorem qal(g:Int)(z:Nat):g%2^(z+1)=g%2^z+2^z*(g/2^z%2):=by
 have hp:(0:Int)<2^z:=Int.pow_pos (by decide)
 have h1:=Int.mul_ediv_add_emod g (2^z)
 have h2:=Int.mul_ediv_add_emod (g/2^z) 2
 have h3:(g/2^z)/2=g/2^(z+1):=by rw[Int.pow_succ,Int.ediv_ediv_of_nonneg (Int.le_of_lt hp)]
 have h4:=Int.mul_ediv_add_emod g (2^(z+1))
 rw[h3]at h2
 have h5:(2:Int)^(z+1)*(g/2^(z+1))=2^z*(2*(g/2^(z+1))):=by rw[Int.pow_succ,Int.mul_assoc]
 have h6:(2:Int)^z*(g/2^z)=2^z*(2*(g/2^(z+1)))+2^z*(g/2^z%2):=by rw[<-Int.mul_add,h2]
 omega
theorem qaI{b:Q07}(hg:U b.C4){P:Nat}(hP:P<=32):(Q50 b P).w (λr=>r=decide (b.C4<2^P)):=by
 unfold Q50
 have fin: ∀v:Int,0<=v->v<=32->IntKind.wrap .u64 v=(v.toNat:Int):=λv h0 h1=>by rw[IntKind.wrap_u64];omega
 refine w_lp (inv:=λz:Int=>0<=z/\z<=32/\b.C4%2^z.toNat<2^P) (μ:=Q5x b P) ⟨by decide,by decide,by have:(0:Int)<2^P:=Int.pow_pos (by decide);simpa using this⟩ (Nat.lt_succ_self _) λz ⟨z0,z1,z2⟩=> ?_
 refine w_br (λhb=> ?_) (λhb=> ?_)
 . have hb:=of_decide_eq_true hb
   have ew:IntKind.i64.wrap (z+1)=z+1:=w64 (by omega) (by omega)
   have bt:iand .u32 (ishr .u32 b.C4 (IntKind.wrap .u64 z)) 1=b.C4/2^z.toNat%2:=by
     rw[fin z z0 z1,and1 (Qtj hg _),Qpz _ (by omega)]
   have bp:=qal b.C4 z.toNat
   have zt:(z+1).toNat=z.toNat+1:=by omega
   refine w_cn (decide_eq_true (by rw[IntKind.wrap_u64];omega)) ?_
   rw[bt]
   refine w_br (λe=>w_br (λhp=> ?_) (λhp=>w_nx ?_)) (λe=>w_nx ?_)
   . have e:=eq_of_beq e
     have hp:=of_decide_eq_true hp
     show false=_
     refine(decide_eq_false λhlt=> ?_).symm
     have hle:(2:Int)^P<=2^z.toNat:=by exact_mod_cast Nat.pow_le_pow_right (show 0<2 by decide) (show P<=z.toNat by omega)
     have:b.C4/2^z.toNat=0:=Int.ediv_eq_zero_of_lt hg.1 (by omega)
     rw[this]at e;cases e
   . have e:=eq_of_beq e
     have hp:=of_decide_eq_false hp
     show(0<=IntKind.i64.wrap (z+1)/\IntKind.i64.wrap (z+1)<=32/\b.C4%2^(IntKind.i64.wrap (z+1)).toNat<2^P)/\(32-IntKind.i64.wrap (z+1)).toNat<(32-z).toNat
     rw[ew,zt]
     have hle:(2:Int)^(z.toNat+1)<=2^P:=by exact_mod_cast Nat.pow_le_pow_right (show 0<2 by decide) (show z.toNat+1<=P by omega)
     have:=Int.emod_lt_of_pos b.C4 (show(0:Int)<2^(z.toNat+1) from Int.pow_pos (by decide))
     exact⟨⟨by omega,by omega,by omega⟩,by omega⟩
   . have e: ¬b.C4/2^z.toNat%2=1:=by simpa using e
     have e:b.C4/2^z.toNat%2=0:=by omega
     rw[e]at bp
     show(0<=IntKind.i64.wrap (z+1)/\IntKind.i64.wrap (z+1)<=32/\b.C4%2^(IntKind.i64.wrap (z+1)).toNat<2^P)/\(32-IntKind.i64.wrap (z+1)).toNat<(32-z).toNat
     rw[ew,zt,bp]
     exact⟨⟨by omega,by omega,by omega⟩,by omega⟩
 . have hb:=of_decide_eq_false hb
   have:z=32:=by omega
   subst this
   show true=_
   refine(decide_eq_true ?_).symm
   have h2:b.C4%2^(32:Int).toNat=b.C4:=Int.emod_eq_of_lt hg.1 hg.2
   rwa [h2]at z2
theorem Zgb{b:Q07}(hg:U b.C4){P:Nat}(hP:P<=32):Q2f b P=Q92 b P:=by
 have r:=(Tree.pp (qaI hg hP)).2
 change Q92 b P=_ at r
 rw[r,Bool.eq_iff_iff,Qzd hg,decide_eq_true_eq]
theorem zeros:strings_Repeat [(0:UInt8)] 128=List.replicate 128 0:=by kernel_rfl
theorem zaI{P:Nat}{m:List Int}(hm:Q0z P m){b:Q07}{port:Int}{v:Int}(hv:U v)(hp:v<P)(h10:port=10)(hb:(iand .u32 (ishr .u32 b.C4 v) 1==0)=true):(Q4g b m port v).w (λr=>r.1={D0:=b.D0,C4:=ior .u32 b.C4 (ishl .u32 1 v)}/\Q0z P r.2/\ ∀k:Nat,byt r.2 k=if v*128<=k/\(k:Int)<v*128+128 then 0 else byt m k):=by
 have hv0:decide (0<=v)=true:=decide_eq_true hv.1
 have h2:=hm.p2
 have pg:Q22 m v=true:=by rw[Qlj hm hv];exact decide_eq_true hp
 obtain⟨v1,v2⟩:=hv
 subst h10
 unfold Q4g
 refine w_br (λ_=>w_lv λx0 hx=>w_br (λ_=>w_cn hv0 (w_br (λ_=>w_cn hv0 ?_) (λh=>by rw[hb]at h;cases h))) (λh=>by rw[hx,pg]at h;cases h)) (λh=>by cases h)
 refine w_lp (inv:=λz=>0<=z.1/\z.1<=32/\Q0z P z.2/\ ∀k:Nat,byt z.2 k=if v*128<=k/\(k:Int)<v*128+4*z.1 then 0 else byt m k) (μ:=Qh b m 10 v) ⟨show(0:Int)<=0 by decide,show(0:Int)<=32 by decide,hm,λk=>by rw[if_neg];show¬(_/\_<_+4*(0:Int));omega⟩ (Nat.lt_succ_self _) (λz hz=> ?_)
 obtain⟨z1,z2,z3,z4⟩:=hz
 have hl:=z3.len
 refine w_br (λh=> ?_) (λh=>⟨rfl,z3,λk=> ?_⟩)
 . have h:=of_decide_eq_true h
   have e:IntKind.wrap IntKind.i64 (IntKind.wrap IntKind.i64 (IntKind.wrap IntKind.i64 v*32)+z.1)=v*32+z.1:=by rw[IntKind.wrap_i64,IntKind.wrap_i64,IntKind.wrap_i64];omega
   refine w_cn (by rw[e];simp [Nat.blt];omega) (w_nx ?_)
   have ew:IntKind.i64.wrap (z.1+1)=z.1+1:=by rw[IntKind.wrap_i64];omega
   show(0<=IntKind.i64.wrap (z.1+1)/\IntKind.i64.wrap (z.1+1)<=32/\Q0z P (List.set _ _ _)/\ ∀k:Nat,byt (List.set z.2 (Int.toNat (IntKind.wrap IntKind.i64 (IntKind.wrap IntKind.i64 (IntKind.wrap IntKind.i64 v*32)+z.1))) 0) k=if v*128<=(k:Int)/\(k:Int)<v*128+4*IntKind.i64.wrap (z.1+1) then 0 else _)/\(32-IntKind.i64.wrap (z.1+1)).toNat<(32-z.1).toNat
   rw[ew,e]
   refine⟨⟨by omega,by omega,⟨by simp [hl],z3.p1,z3.p2,Z4c z3.u U_0 _⟩,λk=> ?_⟩,by omega⟩
   rw[Zfc (by omega)]
   by_cases hc:k/4=(v*32+z.1).toNat
   . rw[if_pos hc,if_pos (by omega)]
     have:k%4=0\/k%4=1\/k%4=2\/k%4=3:=by omega
     rcases this with h|h|h|h<;>rw[h]<;>rfl
   . rw[if_neg hc,z4 k]
     by_cases hd:v*128<=(k:Int)/\(k:Int)<v*128+4*z.1
     . rw[if_pos hd,if_pos (by omega)]
     . rw[if_neg hd,if_neg (by omega)]
 . have h:=of_decide_eq_false h
   show byt z.2 k=_
   rw[z4 k,show z.1=32 by omega];rfl
theorem bitv{g v:Int}(hg:U g)(v0:0<=v)(v1:v<32):(iand .u32 g (ishl .u32 1 v)==0)=(iand .u32 (ishr .u32 g v) 1==0):=by
 obtain⟨z,rfl⟩: ∃z:Nat,v=z:=⟨v.toNat,by omega⟩
 obtain⟨n,rfl⟩: ∃n:Nat,g=n:=⟨g.toNat,by have:=hg.1;omega⟩
 have hz:z<32:=by omega
 have hlt:(2:Nat)^z<4294967296:=by have:=Nat.pow_lt_pow_right (show 1<2 by omega) hz;simpa using this
 rw[and1 (Qtj hg _),Qpz z (by omega),qg v0 v1,Int.toNat_natCast]
 have hc:((2:Int)^z)=((2^z:Nat):Int):=by simp
 generalize hq:2^z=q at*
 rw[hc,Zfh hg ⟨by omega,by omega⟩,Int.toNat_natCast,Int.toNat_natCast,<-hq]
 have e1:(n&&&2^z)=0↔n/2^z%2=0:=by
   have t:n.testBit z=decide (n/2^z%2=1):=Nat.testBit_eq_decide_div_mod_eq
   constructor
   . intro h
     have h2:(n&&&2^z).testBit z=false:=by rw[h];exact Nat.zero_testBit z
     rw[Nat.testBit_and,Nat.testBit_two_pow_self,Bool.and_true,t]at h2
     have:=of_decide_eq_false h2
     omega
   . intro h
     have t0:n.testBit z=false:=by rw[t];exact decide_eq_false (by omega)
     apply Nat.eq_of_testBit_eq
     intro i
     rw[Nat.testBit_and,Nat.testBit_two_pow,Nat.zero_testBit]
     by_cases hi:z=i
     . subst hi;rw[t0];rfl
     . rw[decide_eq_false hi,Bool.and_false]
 rw[Bool.eq_iff_iff,beq_iff_eq,beq_iff_eq]
 constructor
 . intro h;have:=e1.1 (by omega);omega
 . intro h;have:=e1.2 (by omega);omega
theorem Zf1{P:Nat}{m:List Int}(h:Q0z P m){b:Q07}(hb:okB b)(port:Int){v:Int}(hv:U v):Q7q b m port v=Q68 b m port v:=by
  have hcl:Q04 m=m:=rfl
  have hp:=Q38 h
  have h2:=h.p2
  have ew:IntKind.i64.wrap v=v:=w64 (by have:=hv.1;omega) (by have:=hv.2;omega)
  have pe:=Qlj h hv
  by_cases h32:v<32
  . have bv :=bitv hb.2 hv.1 h32
    by_cases h10:port=10
    . by_cases hP:v<P
      . cases hz:iand .u32 (ishr .u32 b.C4 v) 1==0
        . simp only[Q7q,Q3q,Q68,Q4g,Tree.m,letv,hcl,hp,ew,pe,bv,hz,h10,decide_eq_true hP,decide_eq_false (show¬v>=32 by omega)]
          rfl
        . obtain⟨g1,g2,g3⟩:=(Tree.pp (zaI h hv hP h10 hz)).2
          change(Q68 b m port v).1=_ at g1
          change Q0z P (Q68 b m port v).2 at g2
          change∀k:Nat,byt (Q68 b m port v).2 k=_ at g3
          obtain⟨s1,s2,s3⟩:=(Tree.pp (Z1j h hv.1 hP (s:=List.replicate 128 0) (by simp))).2
          have em:(Q2m m v (List.replicate 128 0)).1=(Q68 b m port v).2:=by
            refine Zfu (s2.len.trans g2.len.symm) s2.u g2.u λk=> ?_
            rw[g3 k]
            refine(s3 k).trans ?_
            by_cases hk:v*128<=(k:Int)/\(k:Int)<v*128+128
            . rw[if_pos hk,if_pos hk]
              have:(List.replicate 128 (0:UInt8)).getD ((k:Int)-v*128).toNat 0=0:=by
                rw[List.getD_eq_getElem?_getD,List.getElem?_replicate]
                split<;>rfl
              rw[this];rfl
            . rw[if_neg hk,if_neg hk]
          have el:Q7q b m port v=({D0:=b.D0,C4:=ior .u32 b.C4 (ishl .u32 1 v)},(Q2m m v (List.replicate 128 0)).1):=by
            simp only[Q7q,Q3q,Tree.m,letv,hcl,hp,ew,bv,hz,h10,decide_eq_true hP,decide_eq_false (show¬v>=32 by omega),zeros]
            rfl
          rw[el,em,<-g1]
      . simp only[Q7q,Q3q,Q68,Q4g,Tree.m,letv,hcl,hp,ew,pe,h10,decide_eq_false hP,decide_eq_false (show¬v>=32 by omega)]
        rfl
    . simp only[Q7q,Q3q,Q68,Q4g,Tree.m,letv,hcl,decide_eq_true h32,decide_eq_false (show¬v>=32 by omega),show(port==10)=false by simpa using h10]
      cases port==11<;>rfl
  . simp only[Q7q,Q3q,Q68,Q4g,Tree.m,letv,hcl,pe,decide_eq_false h32,decide_eq_true (show v>=32 by omega),decide_eq_false (show¬v<P by omega)]
    cases port==10<;>cases port==11<;>rfl
structure okV(m:Q00):Prop where
 cpu:Q2e m.B3
 mem: ∀w∈m.Mem,U w
 disk:Q8e m.B0
 nic:Qin m.C7
 bal:okB m.A2
 cnt:0<=m.A3
theorem Z0f(m:List Int)(hm: ∀w∈m,U w):Q0t m=Q3j m/\(Q0t m=0\/ ∃P:Nat,1<=P/\Q0z P m):=by
 refine⟨rfl,?_⟩
 simp only[Q0t,Q8c,Tree.m]
 cases h1:Int.tmod (m.length:Int) 32 !=0
 . cases h2:decide ((m.length:Int)>1024)
   . have h1:Int.tmod (m.length:Int) 32=0:=by simpa using h1
     have h2:=of_decide_eq_false h2
     rw[Int.tmod_eq_emod_of_nonneg (by omega)]at h1
     by_cases h0:m.length=0
     . left;rw[h0];rfl
     . right;exact⟨m.length/32,by omega,⟨by omega,by omega,by omega,hm⟩⟩
   . left;rfl
 . left;rfl
theorem rcnd{a x:Bool}:(bif !a then false else x)=true↔a=true/\x=true:=by cases a<;>simp
theorem qL(m:Q00):Q7g m=true↔ ¬(Q3j m.Mem<1)/\Q6j m.B3/\Qij m.A1=true/\Qcl m.B1=true/\Qev m.B0 (Q3j m.Mem)=true/\Qha m.C7 (Q3j m.Mem)=true/\Q92 m.A2 (Q3j m.Mem)=true/\m.A3<=1152921504606846976/\ ¬(m.A6=true/\m.A7=true):=by
 simp only[Q7g,Quw,Tree.m,letv]
 rw[cnd2,cnd2,cnd2,cnd2,cnd2,cnd2,rcnd,rcnd,rcnd,rcnd,rcnd]
 simp only[decide_eq_false_iff_not,Int.not_lt,bne_eq_false_iff_eq,gt_iff_lt]
 have l:((bif decide (m.A3<=1152921504606846976) then(bif m.A6 then !m.A7 else true) else false)=true)↔m.A3<=1152921504606846976/\ ¬(m.A6=true/\m.A7=true):=by
   by_cases hc:m.A3<=1152921504606846976
   . rw[decide_eq_true hc]
     cases m.A6<;>cases m.A7<;>simp [hc]
   . rw[decide_eq_false hc];simp [hc]
 rw[l]
 constructor
 . rintro⟨a1,a2,a3,a4,a5,a6,a7⟩
   exact⟨by omega,⟨a2,a3,a4,a5,a6⟩,a7⟩
 . rintro⟨a1,⟨a2,a3,a4,a5,a6⟩,a7⟩
   exact⟨by omega,a2,a3,a4,a5,a6,a7⟩
theorem Z71{m:Q00}(h:okV m):Q1c m=Q7g m:=by
 rw[Bool.eq_iff_iff,Qv8,qL,zf]
 obtain⟨e,c⟩:=Z0f m.Mem h.mem
 simp only[Bool.and_eq_true,<-e]
 rcases c with c|⟨P,hP,hm⟩
 . constructor
   . rintro⟨a,_⟩;exact absurd c a
   . rintro⟨a,_⟩;omega
 . rw[Q38 hm,Z2m,Z9e,Zaz,Zgb h.bal.2 hm.p2]
   constructor
   . rintro⟨a1,a2,a3,a4,a5,a6,a7,a8,a9⟩;exact⟨by omega,a2,a5,a6,a7,a8,a9,a3,a4⟩
   . rintro⟨a1,a2,a5,a6,a7,a8,a9,a3,a4⟩;exact⟨by omega,a2,a3,a4,a5,a6,a7,a8,a9⟩
def Z7e(a b c d e:Bool):Int:=ior .u32 (ior .u32 (ior .u32 (ior .u32 (Q8z a 0) (Q8z b 1)) (Q8z c 2)) (Q8z d 3)) (Q8z e 4)
theorem mlines(m:Q00):Qc6 m=Z7e (Qg6 m.B1) (Q9g m.A1) (Q95 m.B0) (Qlz m.C7) (Q6p m.A2):=by
 unfold Qc6 Q6x
 simp only[Tree.m,letv]
 generalize Qg6 m.B1=a
 generalize Q9g m.A1=b
 generalize Q95 m.B0=c
 generalize Qlz m.C7=d
 generalize Q6p m.A2=e
 cases a<;>cases b<;>cases c<;>cases d<;>cases e<;>kernel_rfl
theorem Zjv(a b c d e:Bool):0<=Z7e a b c d e/\Z7e a b c d e<32:=by
 cases a<;>cases b<;>cases c<;>cases d<;>cases e<;>decide
theorem rlines(m:Q00):Qgq m=Z7e (Q9j m.B1) (Q5d m.A1) (Qak m.B0) (Qbu m.C7) (Q3h m.A2):=rfl
section
variable {m:Q00} (h:okV m)
include h
theorem Zkz:Qc6 m=Qgq m:=by
 rw[mlines,rlines,zK,Ze6 h.bal];rfl
theorem Qvr:Q56 m=Q2q m:=by
 have e:=Zkz h
 simp only[Q56,Q53,Q2q,Q82,Tree.m,letv,e]
theorem qk:Qbf m=Qe5 m:=by
 have e:=Qvr h
 simp only[Qbf,Q4z,Qe5,Qdq,Tree.m,letv,e]
theorem Zci:Q41 m=!Q17 m:=by
 have e1:=Z71 h
 have e2:=qk h
 have e3:decide (m.A3>=1152921504606846976)=!decide (m.A3<1152921504606846976):=yj
 simp only[Q41,Q3o,Q17,Q8k,Tree.m,letv,e1,e2,e3]
 cases Q7g m<;>cases m.A7<;>cases Qe5 m<;>cases decide (m.A3<1152921504606846976)<;>rfl
theorem Z6l:0<=Q2q m/\Q2q m<32:=by
 have e:Q2q m=iand .u32 (Qgq m) m.B3.B7.a7:=rfl
 have l:=Zjv (Q9j m.B1) (Q5d m.A1) (Qak m.B0) (Qbu m.C7) (Q3h m.A2)
 rw[<-rlines]at l
 rw[e,Zfh ⟨l.1,by omega⟩ h.cpu.a7]
 have:=Nat.and_le_left (n:=(Qgq m).toNat) (m:=m.B3.B7.a7.toNat)
 omega
def low(l:Int):Int:=if l%2=1 then 0 else if l/2%2=1 then 1 else if l/4%2=1 then 2 else if l/8%2=1 then 3 else 4
end
theorem cases32{l:Int}(h0:0<=l)(h1:l<32):l=0\/l=1\/l=2\/l=3\/l=4\/l=5\/l=6\/l=7\/l=8\/l=9\/l=10\/l=11\/l=12\/l=13\/l=14\/l=15\/l=16\/l=17\/l=18\/l=19\/l=20\/l=21\/l=22\/l=23\/l=24\/l=25\/l=26\/l=27\/l=28\/l=29\/l=30\/l=31:=by omega
def intr(m:Q00)(l:Int):Q03:=bif iand .u32 m.B3.B7.a0 2==0 then m.B3 else bif l==0 then m.B3 else Q2k m.B3 (IntKind.wrap .i64 (16+low l)) 0
theorem rintr{m:Q00}(h:okV m):Q0m m=intr m (Q2q m):=by
 obtain⟨l0,l1⟩:=Z6l h
 unfold Q0m Q43
 simp only[Tree.m,letv]
 revert l0 l1
 generalize Q2q m=l
 intro l0 l1
 unfold intr
 cases iand .u32 m.B3.B7.a0 2==0
 . rcases cases32 l0 l1 with rfl|rfl|rfl|rfl|rfl|rfl|rfl|rfl|rfl|rfl|rfl|rfl|rfl|rfl|rfl|rfl|rfl|rfl|rfl|rfl|rfl|rfl|rfl|rfl|rfl|rfl|rfl|rfl|rfl|rfl|rfl|rfl<;>kernel_rfl
 . rfl
def beg(m:Q00)(c:Q03):Q00:={B3:=c,Mem:=m.Mem,A1:=m.A1,B1:=m.B1,B0:=m.B0,C7:=m.C7,A2:=m.A2,A3:=m.A3,A6:=false,A7:=m.A7}
theorem Z6k{m:Q00}(h:okV m)(hst:m.B3.B7.a0<=31):Q0y m=beg m (Q0m m):=by
 obtain⟨l0,l1⟩:=Z6l h
 have tr: ∀k b,Q45 m.B3 k b=Q2k m.B3 k b:=Qn5 h.cpu.a0.1 hst
 have e:Q56 (beg m m.B3)=Q2q m:=Qvr (m:=beg m m.B3) ⟨h.cpu,h.mem,h.disk,h.nic,h.bal,h.cnt⟩
 rw[rintr h]
 unfold Q0y Q3v
 simp only[Tree.m,letv]
 rw[show Q56 {B3:=m.B3,Mem:=m.Mem,A1:=m.A1,B1:=m.B1,B0:=m.B0,C7:=m.C7,A2:=m.A2,A3:=m.A3,A6:=false,A7:=m.A7}=Q2q m from e]
 revert l0 l1
 generalize Q2q m=l
 intro l0 l1
 unfold intr
 simp only[<-tr]
 cases iand .u32 m.B3.B7.a0 2==0
 . rcases cases32 l0 l1 with rfl|rfl|rfl|rfl|rfl|rfl|rfl|rfl|rfl|rfl|rfl|rfl|rfl|rfl|rfl|rfl|rfl|rfl|rfl|rfl|rfl|rfl|rfl|rfl|rfl|rfl|rfl|rfl|rfl|rfl|rfl|rfl<;>(show _=_;kernel_rfl)
 . rfl
theorem ports{p:Int}:p=0\/p=1\/p=2\/p=3\/p=4\/p=5\/p=6\/p=7\/p=8\/p=9\/p=10\/p=11\/p<0\/12<=p:=by omega
theorem zal{m:Q00}(hb:okB m.A2)(port clock:Int):Q1a m port clock=((Qcn m port clock).2,(Qcn m port clock).1):=by
 have e1:=Zl6 m.A1
 have e2: ∀p,Qvc m.B0 p=Qgy m.B0 p:=λ_=>rfl
 have e3:=Zla m.C7
 have e4:=Zkb hb
 have e5:Qyc m.B1=Qeo m.B1:=rfl
 simp only[Q1a,Q46,Qcn,Qjy,Tree.m,letv,e1,e2,e3,e4,e5]
 rcases ports (p:=port) with rfl|rfl|rfl|rfl|rfl|rfl|rfl|rfl|rfl|rfl|rfl|rfl|h|h
 all_goals first|rfl|skip
 . have n: ∀k:Int,0<=k->(port==k)=false:=λk hk=>beq_eq_false_iff_ne.2 (by omega)
   have c:Q4v m.A1 port=(m.A1,0):=by
     simp only[Q4v,Q30,Tree.m,n 0 (by decide),n 1 (by decide),cond_false]
   simp only[n 0 (by decide),n 1 (by decide),n 2 (by decide),n 3 (by decide),n 4 (by decide),n 5 (by decide),n 6 (by decide),n 7 (by decide),n 8 (by decide),n 9 (by decide),n 10 (by decide),n 11 (by decide),cond_false,decide_eq_true (show port<=1 by omega),cond_true,c]
 . have n: ∀k:Int,k<12->(port==k)=false:=λk hk=>beq_eq_false_iff_ne.2 (by omega)
   have c:Q5 m.A2 port=0:=by
     simp only[Q5,Q5r,Tree.m,n 10 (by decide),n 11 (by decide),cond_false]
   simp only[n 0 (by decide),n 1 (by decide),n 2 (by decide),n 3 (by decide),n 4 (by decide),n 5 (by decide),n 6 (by decide),n 7 (by decide),n 8 (by decide),n 9 (by decide),n 10 (by decide),n 11 (by decide),cond_false,decide_eq_false (show¬port<=1 by omega),decide_eq_false (show¬port<=6 by omega),decide_eq_false (show¬port<=9 by omega),c]
theorem xL{P:Nat}{m:Q00}(hm:Q0z P m.Mem)(hb:okB m.A2)(port:Int){v:Int}(hv:U v):Q2d m port v m.A3=((Q8i m port v).2,(Q8i m port v).1):=by
 have e1:=Zdp hm m.B0
 have e2:=Zg1 hm m.C7
 have e3:=Zf1 hm hb port hv
 have e4:=yK m.B1 v
 simp only[Q2d,Q39,Q8i,Qa1,Tree.m,letv,e1,e2,e3,e4]
 rcases ports (p:=port) with rfl|rfl|rfl|rfl|rfl|rfl|rfl|rfl|rfl|rfl|rfl|rfl|h|h
 all_goals first|rfl|skip
 . have n: ∀k:Int,0<=k->(port==k)=false:=λk hk=>beq_eq_false_iff_ne.2 (by omega)
   simp only[n 0 (by decide),n 1 (by decide),n 2 (by decide),n 3 (by decide),n 4 (by decide),n 5 (by decide),n 6 (by decide),n 7 (by decide),n 8 (by decide),n 9 (by decide),n 10 (by decide),n 11 (by decide),cond_false,decide_eq_true (show port<=2 by omega),cond_true]
 . have n: ∀k:Int,k<12->(port==k)=false:=λk hk=>beq_eq_false_iff_ne.2 (by omega)
   have c:Q68 m.A2 m.Mem port v=(m.A2,m.Mem):=by
     simp only[Q68,Q4g,Tree.m,n 10 (by decide),n 11 (by decide),cond_false]
   simp only[n 0 (by decide),n 1 (by decide),n 2 (by decide),n 3 (by decide),n 4 (by decide),n 5 (by decide),n 6 (by decide),n 7 (by decide),n 8 (by decide),n 9 (by decide),n 10 (by decide),n 11 (by decide),cond_false,decide_eq_false (show¬port<=2 by omega),decide_eq_false (show¬port<=6 by omega),decide_eq_false (show¬port<=9 by omega),c]
def tick(n:Q00)(c:Q03)(w h:Bool):Q00:={B3:=c,Mem:=n.Mem,A1:=n.A1,B1:=n.B1,B0:=n.B0,C7:=n.C7,A2:=n.A2,A3:=IntKind.wrap .u64 (n.A3+1),A6:=w,A7:=h}
def withX(m:Q00)(c:Q03)(mem:List Int):Q00:={B3:=c,Mem:=mem,A1:=m.A1,B1:=m.B1,B0:=m.B0,C7:=m.C7,A2:=m.A2,A3:=m.A3,A6:=false,A7:=m.A7}
def finP(n:Q00)(e:Q1)(clock at0:Int):Q00×List Q02:=
 bif e.B5==1 then
   (bif e.F3 !=0 then(tick (Q1a n e.D3 clock).1 {X:=A16.of 0 (List.set (A16.l (Q1a n e.D3 clock).1.B3.X) e.F3.toNat (Q1a n e.D3 clock).2),Pc:=(Q1a n e.D3 clock).1.B3.Pc,B7:=(Q1a n e.D3 clock).1.B3.B7} (Q1a n e.D3 clock).1.A6 (Q1a n e.D3 clock).1.A7,[])
   else(tick (Q1a n e.D3 clock).1 (Q1a n e.D3 clock).1.B3 (Q1a n e.D3 clock).1.A6 (Q1a n e.D3 clock).1.A7,[]))
 else bif e.B5==2 then(tick (Q2d n e.D3 e.Value at0).1 (Q2d n e.D3 e.Value at0).1.B3 (Q2d n e.D3 e.Value at0).1.A6 (Q2d n e.D3 e.Value at0).1.A7,(Q2d n e.D3 e.Value at0).2)
 else bif e.B5==3 then(tick n n.B3 true n.A7,[]) else bif e.B5==4 then(tick n n.B3 n.A6 true,[]) else(tick n n.B3 n.A6 n.A7,[])
def finR(n:Q00)(e:Q1)(clock:Int):List Q02×Q00:=
 bif e.B5==1 then([],tick (Qcn n e.D3 clock).2 (Q1u (Qcn n e.D3 clock).2.B3 e.F3 (Qcn n e.D3 clock).1) (Qcn n e.D3 clock).2.A6 (Qcn n e.D3 clock).2.A7)
 else bif e.B5==2 then((Q8i n e.D3 e.Value).1,tick (Q8i n e.D3 e.Value).2 (Q8i n e.D3 e.Value).2.B3 (Q8i n e.D3 e.Value).2.A6 (Q8i n e.D3 e.Value).2.A7)
 else bif e.B5==3 then([],tick n n.B3 true n.A7) else bif e.B5==4 then([],tick n n.B3 n.A6 true) else([],tick n n.B3 n.A6 n.A7)
theorem xk(m:Q00)(clock:Int):Q0l m clock=finR (withX m (Q6f (Q0m m) m.Mem).1 (Q6f (Q0m m) m.Mem).2.2) (Q6f (Q0m m) m.Mem).2.1 clock:=by kernel_rfl
theorem zL(m:Q00)(clock:Int):Q7a m clock=bif !Q41 m then(m,[]) else finP {B3:=(Q9l (Q0y m).B3 (Q0y m).Mem).1,Mem:=(Q9l (Q0y m).B3 (Q0y m).Mem).2.1,A1:=(Q0y m).A1,B1:=(Q0y m).B1,B0:=(Q0y m).B0,C7:=(Q0y m).C7,A2:=(Q0y m).A2,A3:=(Q0y m).A3,A6:=(Q0y m).A6,A7:=(Q0y m).A7} (Q9l (Q0y m).B3 (Q0y m).Mem).2.2 clock m.A3:=by kernel_rfl
theorem xal(m:List Int):Qsg m=m:=by
 simp [Qsg,Qd8,Tree.m]
theorem Z5(m:Q00):Qky m=m:=by
 simp only[Qky,Qbh,Tree.m,letv,xal]
def Zat(m:Q00)(clock:Int):Q00×List Q02:=bif Q17 m then(m,[]) else((Q0l m clock).2,(Q0l m clock).1)
def Qj2(m:Q00)(e:Q0e):Tree (Q00×Bool):=
 .an (Qez m) (.lv (Qky m) λ(x0:Q00)=> .lv (Q7g x0) λ(x1:Bool)=> .br (!x1) (.lf (x0,false)) (.an (Qps x0 e) (.lv (Q0r x0 e) λ(x2:Bool×Q00)=> .lf (x2.2,x2.1))))
def Qkd(m:Q00)(e:Q0e):Q00×Bool:=(Qj2 m e).m
theorem Z73(m:Q00)(clock:Int):Zat m clock=bif Q17 m then(m,[]) else((Q0l m clock).2,(Q0l m clock).1):=rfl
theorem yL{P:Nat}{n:Q00}(hm:Q0z P n.Mem)(hb:okB n.A2){e:Q1}(hr:0<=e.F3/\e.F3<16)(hv:U e.Value)(clock:Int):finP n e clock n.A3=((finR n e clock).2,(finR n e clock).1):=by
 unfold finP finR
 rw[zal hb e.D3 clock,xL hm hb e.D3 hv]
 cases e.B5==1
 . cases e.B5==2
   . cases e.B5==3
     . cases e.B5==4<;>rfl
     . rfl
   . rfl
 . generalize Qcn n e.D3 clock=r
   have s:=Qye r.2.B3 hr r.1
   show(bif e.F3 !=0 then _ else _)=(tick r.2 (Q1u r.2.B3 e.F3 r.1) r.2.A6 r.2.A7,[])
   rw[<-s]
   simp only[Qa5,Qbk,Tree.m]
   cases e.F3 !=0<;>rfl
theorem Zai{m:Q00}(h:okV m)(clock:Int):Q7a m clock=Zat m clock:=by
 rw[zL,Z73,Zci h]
 cases hs:Q17 m
 . have hr:Q41 m=true:=by rw[Zci h,hs];rfl
   obtain⟨hm,hh,hct⟩:=Zib hr
   obtain⟨g1,g2,g3,g4,g5⟩:=(Qv8 m).1 hm
   rcases(Z0f m.Mem h.mem).2 with c|⟨P,hP,hmem⟩
   . exact absurd c g1
   have okm:okS P m:=⟨h.cpu,hmem,h.disk,h.nic,h.bal.1,h.bal.2⟩
   obtain⟨b1,b2,b3,_⟩:=(Tree.pp (Z1z okm g2)).2
   change Q6j (Q0y m).B3 at b1
   change okS P (Q0y m) at b2
   change(Q0y m).Mem=m.Mem at b3
   have be:=Z6k h g2.st
   have b1':Q6j (Q0m m):=by have:=b1;rw[be]at this;exact this
   have b2':Q2e (Q0m m):=by have:=b2.cpu;rw[be]at this;exact this
   have ex:=zj hmem b2' b1'.st
   have er:=(Tree.pp (Zi9 b2' hmem)).2
   change 0<=(Q9l (Q0m m) m.Mem).2.2.F3/\(Q9l (Q0m m) m.Mem).2.2.F3<16 at er
   obtain⟨d1,d2,d3⟩:=(Tree.pp (do_w b2' hmem)).2
   change U (Q6f (Q0m m) m.Mem).2.1.Value at d2
   change Q0z P (Q6f (Q0m m) m.Mem).2.2 at d3
   rw[ex]at er
   rw[xk,be]
   show finP {B3:=(Q9l (Q0m m) m.Mem).1,Mem:=(Q9l (Q0m m) m.Mem).2.1,A1:=m.A1,B1:=m.B1,B0:=m.B0,C7:=m.C7,A2:=m.A2,A3:=m.A3,A6:=false,A7:=m.A7} (Q9l (Q0m m) m.Mem).2.2 clock m.A3=_
   rw[ex]
   exact yL (n:=withX m (Q6f (Q0m m) m.Mem).1 (Q6f (Q0m m) m.Mem).2.2) d3 h.bal er d2 clock
 . rfl
theorem Z6d{m:Q00}(h:okV m)(e:Q0e):Q7c m e=Qkd m e:=by
 have hcl:Q04 m.Mem=m.Mem:=rfl
 have mm:=Z71 h
 have t1:Qkv m.B1=Q61 m.B1:=rfl
 have t2: ∀b,Qnx m.A1 b=Qkm m.A1 b:=λ_=>rfl
 simp only[Q7c,Q6z,Qkd,Qj2,Q0r,Q3x,Tree.m,letv,Z5,hcl,t1,t2]
 rw[show Q1c {B3:=m.B3,Mem:=m.Mem,A1:=m.A1,B1:=m.B1,B0:=m.B0,C7:=m.C7,A2:=m.A2,A3:=m.A3,A6:=m.A6,A7:=m.A7}=Q7g m from mm]
 cases hM:Q7g m
 . rfl
 have hM':Q1c m=true:=mm.trans hM
 rcases(Z0f m.Mem h.mem).2 with c|⟨P,hP,hmem⟩
 . exact absurd c ((Qv8 m).1 hM').1
 have cs:=Za hmem h.disk e
 have rs:=Zaw hmem h.nic e.C8
 clear mm hM hM' hcl h
 obtain⟨c,mem,con,ti,d,n,b,ct,w,hl⟩:=m
 cases hl
 . by_cases k2:e.B5=2
   . rw[k2];cases e.N==0<;>cases decide (e.C8=[])<;>rfl
   by_cases k3:e.B5=3
   . rw[k3];cases decide (e.N<=255)<;>cases decide (e.C8=[])<;>rfl
   by_cases k4:e.B5=4
   . rw[k4,cs];rfl
   by_cases k5:e.B5=5
   . rw[k5,rs];cases e.N==0<;>rfl
   by_cases k6:e.B5=6
   . rw[k6];cases decide (e.C8=[])<;>rfl
   . rw[show(e.B5==2)=false by simpa using k2,show(e.B5==3)=false by simpa using k3,show(e.B5==4)=false by simpa using k4,show(e.B5==5)=false by simpa using k5,show(e.B5==6)=false by simpa using k6]
     rfl
 . rfl
section
variable {m:Q00} (h:okV m) (hl:m.Mem.length<=1024)
include h
include hl
omit h hl in
theorem vL{P:Nat}(h:okM P m){e:Q0e}(he:U e.N):(Q3x m e).w (λx=>okM P x.2):=by
 have k:=h
 obtain⟨h1,h2,h3,h4,h5,h7⟩:=h
 unfold Q3x
 repeat'(first
   |exact k
   |exact⟨h1,h2,h3,h4,⟨he,h5.2⟩,h7⟩
   |exact w_lv λ_ _=>⟨h1,h2,h3,h4,h5,h7⟩
   |exact Q0c (v6 _ _) λ_ _=>⟨h1,h2,h3,h4,h5,h7⟩
   |exact Q0c (Zia h2 h3 _) λx hx=>⟨h1,hx.2,hx.1,h4,h5,h7⟩
   |exact Q0c (Zjh h2 h4 _) λx hx=>⟨h1,hx.2,h3,hx.1,h5,h7⟩
   |refine w_br (λ_=> ?_) (λ_=> ?_))
end
def Tree.V{β:Type}(t:Tree β)(W:β->Prop):Prop:=W t.m
section
variable {α β:Type} {W:β->Prop} {c:Bool} {t e:Tree β}
theorem v_lf{x:β}(h:W x):Tree.V (.lf x) W:=h
theorem v_nx{f:Prop}{x:β}{hf:f}(h:W x):Tree.V (.nx f x hf) W:=h
theorem v_br(h:c=true->Tree.V t W)(g:c=false->Tree.V e W):Tree.V (.br c t e) W:=by
 cases c
 . exact g rfl
 . exact h rfl
theorem v_cn(g:Tree.V t W):Tree.V (.cn c t) W:=g
theorem v_an{p:Prop}(g:Tree.V t W):Tree.V (.an p t) W:=g
theorem v_lv{x:α}{k:α->Tree β}(h: ∀y,y=x->Tree.V (k y) W):Tree.V (.lv x k) W:=h x rfl
theorem v_lp{d:Inhabited β}{n:Nat}{f:Prop}{x:α}{k:α->Tree (α⊕β)}{hf:f}{inv:α->Prop}{μ:α->Nat}(h:inv x)(hn:μ x<n)(g: ∀y,inv y->Tree.V (k y) (Sum.elim (λz=>inv z/\μ z<μ y) W)):Tree.V (.lp d n f x k hf) W:=by
 refine xaA (P:=inv) (R:=W) (μ:=μ) (λa ha=> ?_) n x h hn
 have:=g a ha
 unfold Tree.V at this
 revert this
 cases(k a).m with
 |inl z=>exact λh=>h
 |inr b=>exact λh=>h
end
def Z34(r:Q01)(m:Q00):Q01:={A0:=m,A9:=r.A9,C6:=r.C6,A4:=r.A4}
theorem xaI(r:Q01)(port clock:Int):Qt5 r port clock=((Qcn r.A0 port clock).1,Z34 r (Qcn r.A0 port clock).2):=by
 simp only[Qt5,Qh1,Qcn,Qjy,Tree.m,letv]
 cases decide (port<=1)<;>cases port==2<;>cases port==3<;>cases decide (port<=6)<;>cases decide (port<=9)<;>rfl
theorem qam(r:Q01)(port v:Int):Qod r port v=((Q8i r.A0 port v).1,Z34 r (Q8i r.A0 port v).2):=by
 simp only[Qod,Qba,Q8i,Qa1,Tree.m,letv]
 cases port==0<;>cases decide (port<=2)<;>cases port==3<;>cases decide (port<=6)<;>cases decide (port<=9)<;>rfl
theorem qaJ{r:Q01}{c:Bool}{x y:Bool×Q01}{x' y':Bool×Q00}(hx:x=(x'.1,Z34 r x'.2))(hy:y=(y'.1,Z34 r y'.2)):cond c x y=((cond c x' y').1,Z34 r (cond c x' y').2):=by cases c<;>assumption
theorem zk(r:Q01)(e:Q0e):Qiw r e=((Q0r r.A0 e).1,Z34 r (Q0r r.A0 e).2):=by
 simp only[Qiw,Q8b,Q0r,Q3x,Tree.m,letv]
 repeat'(first|rfl|refine qaJ ?_ ?_)
theorem Z6o(r:Q01)(clock:Int):Q6g r clock=((Q0l r.A0 clock).1,Z34 r (Q0l r.A0 clock).2):=by
 simp only[Q6g,Q5s,Q0l,Q83,Tree.m,letv,xaI,qam,Z34]
 cases(Q6f (Q0m r.A0) r.A0.Mem).2.1.B5==1<;>cases(Q6f (Q0m r.A0) r.A0.Mem).2.1.B5==2<;>cases(Q6f (Q0m r.A0) r.A0.Mem).2.1.B5==3<;>cases(Q6f (Q0m r.A0) r.A0.Mem).2.1.B5==4<;>rfl
def Q1v(r:Q01)(e:Q0e):Q01:=
 bif(Q0r r.A0 e).1 then{A0:=(Q0r r.A0 e).2,A9:=r.A9,C6:=r.C6++[{At:=(Q0r r.A0 e).2.A3,D6:=e}],A4:=r.A4} else Z34 r (Q0r r.A0 e).2
theorem Zii(r:Q01)(e:Q0e):Qhf r e=Q1v r e:=by
 have a:Qga r e=((Q0r r.A0 e).1,Z34 r (Q0r r.A0 e).2):=by
   simp only[Qga,Q6v,Tree.m,letv,zk]
 simp only[Qhf,Q9p,Tree.m,letv,a,Q1v]
 cases(Q0r r.A0 e).1<;>rfl
def Q3y(r:Q01):Q01:=bif Q7h r.A0.B1 r.A9 then Q1v r {B5:=2,N:=0,C8:=[]} else r
def Z7z(r:Q01):Q01:=bif Q1p r.A0 then{A0:=r.A0,A9:=r.A9,C6:=r.C6++[{At:=r.A0.A3,D6:={B5:=1,N:=r.A9,C8:=[]}}],A4:=r.A4} else r
def Qio(r:Q01):Q01:={A0:=(Q0l r.A0 r.A9).2,A9:=IntKind.wrap .u32 (r.A9+1),C6:=(Z7z r).C6,A4:=r.A4}
def recF:Nat->Q01->List Q02->Q01×List Q02
 |0,r,o=>(r,o)
 |n+1,r,o=>bif Q17 (Q3y r).A0 then(Q3y r,o) else recF n (Qio (Q3y r)) (o++(Q0l (Q3y r).A0 (Q3y r).A9).1)
def noQ(r:Q01):Q01:={A0:=r.A0,A9:=r.A9,C6:=r.C6,A4:=[]}
def advF(r:Q01)(steps clock:Int):Q01×List Q02:=
 bif !Q7g r.A0 then(r,[]) else recF (Q11 steps).toNat (noQ (r.A4.foldl Q1v {A0:=r.A0,A9:=if clock>r.A9 then clock else r.A9,C6:=r.C6,A4:=r.A4})) []
theorem Qo0(r:Q01)(e:Q0e):(Q1v r e).A4=r.A4:=by
 unfold Q1v;cases(Q0r r.A0 e).1<;>rfl
theorem Zi7(r:Q01):Qo2 r=r:=by
 simp only[Qo2,Qdc,Tree.m,letv,Z5]
theorem Qrc(r:Q01)(steps clock:Int)(hq:r.A4.length<=1000000):Qcg r steps clock=advF r steps clock:=by
  show Tree.V (Q5a r steps clock) (λx=>x=advF r steps clock)
  obtain⟨lim0,lim⟩:=Qtb steps
  unfold Q5a
  refine v_an (v_lv λx0 e0=>v_lv λx1 e1=> ?_)
  rw[Zi7]at e0
  subst e0
  refine v_br (λhb=>v_lf ?_) λhb=> ?_
  . unfold advF;rw[<-e1,hb];rfl
  generalize hr0:({A0:=x0.A0,A9:=if clock>x0.A9 then clock else x0.A9,C6:=x0.C6,A4:=x0.A4}:Q01)=r0
  have hA:advF x0 steps clock=recF (Q11 steps).toNat (noQ (x0.A4.foldl Q1v r0)) []:=by
    unfold advF;rw[<-e1,hb,hr0];rfl
  have hQ:r0.A4=x0.A4:=by rw[<-hr0]
  refine v_lp (inv:=λz:Int×Q01=>0<=z.1/\z.1<=x0.A4.length/\z.2.A4=x0.A4/\(x0.A4.drop z.1.toNat).foldl Q1v z.2=x0.A4.foldl Q1v r0) (μ:=Qat x0 steps clock) ⟨Int.le_refl 0,by show(0:Int)<=_;omega,hQ,rfl⟩ (Nat.lt_succ_self _) λz ⟨z0,z1,z2,z3⟩=> ?_
  refine v_br (λhb=> ?_) (λhb=> ?_)
  . have hb:=of_decide_eq_true hb
    rw[z2]at hb
    refine v_cn (v_an (v_lv λx2 e2=>v_nx ?_))
    have ew:IntKind.i64.wrap (z.1+1)=z.1+1:=by rw[IntKind.wrap_i64];omega
    rw[Zii]at e2
    have q2:x2.A4=x0.A4:=by rw[e2,Qo0,z2]
    have hlt:z.1.toNat<x0.A4.length:=by omega
    have ed:z.2.A4.getD z.1.toNat (RK.dflt RK.apiEvent)=x0.A4[z.1.toNat]:=by rw[z2,List.getD_eq_getElem?_getD,List.getElem?_eq_getElem hlt];rfl
    show(0<=IntKind.i64.wrap (z.1+1)/\IntKind.i64.wrap (z.1+1)<=x0.A4.length/\x2.A4=x0.A4/\(x0.A4.drop (IntKind.i64.wrap (z.1+1)).toNat).foldl Q1v x2=_)/\(x2.A4.length-IntKind.i64.wrap (z.1+1)).toNat<(z.2.A4.length-z.1).toNat
    rw[ew,q2,z2]
    refine⟨⟨by omega,by omega,rfl,?_⟩,by omega⟩
    rw[<-z3,List.drop_eq_getElem_cons hlt,List.foldl_cons,show(z.1+1).toNat=z.1.toNat+1 by omega,e2,ed]
  . have hb:=of_decide_eq_false hb
    rw[z2]at hb
    obtain⟨zi,zr⟩:=z
    have hb: ¬zi<x0.A4.length:=hb
    have ze:zr=x0.A4.foldl Q1v r0:=by
      rw[<-z3,List.drop_eq_nil_of_le (by show x0.A4.length<=zi.toNat;omega)];rfl
    rw[<-ze]at hA
    refine v_lp (inv:=λy:Int×Q01×List Q02=>0<=y.1/\y.1<=Q11 steps/\recF (Q11 steps-y.1).toNat y.2.1 y.2.2=advF x0 steps clock) (μ:=Q55 x0 steps clock (zi,zr)) ⟨Int.le_refl 0,by show(0:Int)<=_;omega,by rw[hA];show recF (Q11 steps-0).toNat _ _=_;rw[Int.sub_zero];rfl⟩ (Nat.lt_succ_self _) λy ⟨y0,y1,y2⟩=> ?_
    obtain⟨yi,yr,yo⟩:=y
    have mu: ∀q,yi<4000->Q55 x0 steps clock (zi,zr) (IntKind.wrap .i64 (yi+1),q)<Q55 x0 steps clock (zi,zr) (yi,yr,yo):=λq h=>by
      show(4000-IntKind.wrap .i64 (yi+1)).toNat<(4000-yi).toNat
      have y0:0<=yi:=y0
      rw[IntKind.wrap_i64];omega
    have y0:0<=yi:=y0
    refine v_lv λx3 e3=>v_br (λhb=> ?_) (λhb=> ?_)
    . have hb:yi<x3:=of_decide_eq_true hb
      rw[e3]at hb
      have mu:=λq=>mu q (by omega)
      have ew:IntKind.i64.wrap (yi+1)=yi+1:=by rw[IntKind.wrap_i64];omega
      have en:(Q11 steps-yi).toNat=(Q11 steps-(yi+1)).toNat+1:=by omega
      change recF (Q11 steps-yi).toNat yr yo=_ at y2
      rw[en]at y2
      refine v_lv λx4 e4=>v_br (λhd=>v_an (v_lv λx5 e5=> ?_)) (λhd=> ?_)
      . have e5:x5=Q3y yr:=by rw[e5,Zii];unfold Q3y;rw[<-e4,hd];rfl
        refine v_an (v_lv λx6 e6=>v_br (λhs=>v_lf ?_) λhs=>v_an (v_lv λx7 e7=>v_br (λhr=>v_cn (v_an (v_lv λx8 e8=>v_cn (v_nx ?_)))) λhr=>v_an (v_lv λx9 e9=>v_cn (v_nx ?_))))
        . show(_,yo)=_
          rw[<-y2];unfold recF
          rw[<-e5,<-e6,hs];rfl
        . rw[Z6o]at e8
          refine⟨⟨by show 0<=IntKind.wrap .i64 (yi+1);rw[ew];omega,by show IntKind.wrap .i64 (yi+1)<=_;rw[ew];omega,?_⟩,mu _⟩
          show recF (Q11 steps-IntKind.wrap .i64 (yi+1)).toNat _ _=_
          rw[ew,<-y2,e8]
          conv=>rhs;unfold recF
          rw[<-e5,<-e6,hs]
          unfold Qio Z7z
          rw[<-e7,hr];rfl
        . rw[Z6o]at e9
          refine⟨⟨by show 0<=IntKind.wrap .i64 (yi+1);rw[ew];omega,by show IntKind.wrap .i64 (yi+1)<=_;rw[ew];omega,?_⟩,mu _⟩
          show recF (Q11 steps-IntKind.wrap .i64 (yi+1)).toNat _ _=_
          rw[ew,<-y2,e9]
          conv=>rhs;unfold recF
          rw[<-e5,<-e6,hs]
          unfold Qio Z7z
          rw[<-e7,hr];rfl
      . have e5:yr=Q3y yr:=by
          have e4:x4=Q7h yr.A0.B1 yr.A9:=e4
          unfold Q3y;rw[<-e4,hd];rfl
        refine v_an (v_lv λx6 e6=>v_br (λhs=>v_lf ?_) λhs=>v_an (v_lv λx7 e7=>v_br (λhr=>v_cn (v_an (v_lv λx8 e8=>v_cn (v_nx ?_)))) λhr=>v_an (v_lv λx9 e9=>v_cn (v_nx ?_))))
        . show(_,yo)=_
          rw[<-y2];unfold recF
          rw[<-e5,<-e6,hs];rfl
        . rw[Z6o]at e8
          refine⟨⟨by show 0<=IntKind.wrap .i64 (yi+1);rw[ew];omega,by show IntKind.wrap .i64 (yi+1)<=_;rw[ew];omega,?_⟩,mu _⟩
          show recF (Q11 steps-IntKind.wrap .i64 (yi+1)).toNat _ _=_
          rw[ew,<-y2,e8]
          conv=>rhs;unfold recF
          rw[<-e5,<-e6,hs]
          unfold Qio Z7z
          rw[<-e7,hr];rfl
        . rw[Z6o]at e9
          refine⟨⟨by show 0<=IntKind.wrap .i64 (yi+1);rw[ew];omega,by show IntKind.wrap .i64 (yi+1)<=_;rw[ew];omega,?_⟩,mu _⟩
          show recF (Q11 steps-IntKind.wrap .i64 (yi+1)).toNat _ _=_
          rw[ew,<-y2,e9]
          conv=>rhs;unfold recF
          rw[<-e5,<-e6,hs]
          unfold Qio Z7z
          rw[<-e7,hr];rfl
    . have hb: ¬yi<x3:=of_decide_eq_false hb
      rw[e3]at hb
      refine v_lf ?_
      show(yr,yo)=_
      change recF (Q11 steps-yi).toNat yr yo=_ at y2
      rw[<-y2,show(Q11 steps-yi).toNat=0 by omega];rfl
structure good(P:Nat)(m:Q00):Prop where
 ok:okM P m
 may:Q1c m=true
section
variable {P:Nat} {m:Q00} (h:good P m)
include h
theorem good.v:okV m:=⟨h.ok.cpu,h.ok.mem.u,h.ok.disk,h.ok.nic,h.ok.target,h.ok.cnt⟩
theorem good.s:okS P m:=⟨h.ok.cpu,h.ok.mem,h.ok.disk,h.ok.nic,h.ok.target.1,h.ok.target.2⟩
theorem good.rmay:Q7g m=true:=(Z71 h.v).symm.trans h.may
theorem Qov{e:Q0e}(he:U e.N):good P (Q0r m e).2/\(Q0r m e).2.A3=m.A3:=by
 have o:okM P (Q0r m e).2:=Tree.post _ (vL h.ok he)
 have a:=(Tree.pp (qI h.ok he)).2
 change(Q1c m=true->Q1c (Q7c m e).1=true)/\(Q7c m e).1.A3=m.A3/\_ at a
 have e1:Qkd m e=((Q0r m e).2,(Q0r m e).1):=by
   simp only[Qkd,Qj2,Tree.m,letv,Z5,h.rmay];rfl
 rw[Z6d h.v e,e1]at a
 exact⟨⟨o,a.1 h.may⟩,a.2.1⟩
theorem Zc4:Q17 m=false↔m.A7=false/\Qe5 m=false/\m.A3<1152921504606846976:=by
 simp only[Q17,Q8k,Tree.m,letv,h.rmay]
 cases m.A7<;>cases Qe5 m<;>simp
theorem Qfx(hs:Q17 m=false){clock:Int}(hc:U clock):good P (Q0l m clock).2/\(Q0l m clock).2.A3=m.A3+1/\(Q0l m clock).1.length<=1:=by
 have o:=Tree.post _ (Z4f h.ok hc)
 change(Q0l m clock).1.length<=1/\okM P (Q0l m clock).2/\(Q0l m clock).2.A3=IntKind.wrap .u64 (m.A3+1) at o
 have s:=(Tree.pp (xag h.s h.ok.cnt hc)).2
 change _/\Good P m (Q7a m clock).1 at s
 have e:Q7a m clock=((Q0l m clock).2,(Q0l m clock).1):=by rw[Zai h.v,Z73,hs];rfl
 rw[e]at s
 have hct:=((Zc4 h).1 hs).2.2
 have h0:=h.ok.cnt
 refine⟨⟨o.2.1,s.2.may h.may⟩,?_,o.1⟩
 rw[o.2.2,IntKind.wrap_u64];omega
end
structure Q8j(P:Nat)(k:Int)(r:Q01):Prop where
 m:good P r.A0
 clock:U r.A9
 cnt:r.A0.A3<=k
theorem Ql4{P:Nat}{k:Int}{r:Q01}(h:Q8j P k r){e:Q0e}(he:U e.N):Q8j P k (Q1v r e)/\(Q1v r e).A0.A3=r.A0.A3:=by
 obtain⟨a,b⟩:=Qov h.m he
 have hc:=h.cnt
 unfold Q1v
 cases(Q0r r.A0 e).1
 . exact⟨⟨a,h.clock,by show(Q0r r.A0 e).2.A3<=k;omega⟩,b⟩
 . exact⟨⟨a,h.clock,by show(Q0r r.A0 e).2.A3<=k;omega⟩,b⟩
theorem Qoo{P:Nat}{k:Int}{r:Q01}(h:Q8j P k r):Q8j P k (Q3y r)/\(Q3y r).A0.A3=r.A0.A3:=by
 unfold Q3y
 cases Q7h r.A0.B1 r.A9
 . exact⟨h,rfl⟩
 . exact Ql4 h U_0
theorem Qp{P:Nat}{k:Int}{r:Q01}(h:Q8j P k r)(hs:Q17 r.A0=false):Q8j P (k+1) (Qio r):=by
 obtain⟨a,b,_⟩:=Qfx h.m hs h.clock
 have hc:=h.cnt
 exact⟨a,Q0q _,by show(Q0l r.A0 r.A9).2.A3<=k+1;omega⟩
theorem Zc1{P:Nat}(n:Nat): ∀{k:Int} {r:Q01} {o:List Q02},Q8j P k r->Q8j P (k+n) (recF n r o).1:=by
 induction n with
 |zero=>intro k r o h;exact⟨h.m,h.clock,by have:=h.cnt;show r.A0.A3<=k+(0:Nat);omega⟩
 | succ n ih=>
   intro k r o h
   obtain⟨f,fc⟩:=Qoo h
   unfold recF
   cases hs:Q17 (Q3y r).A0
   . have t:=ih (o:=o++(Q0l (Q3y r).A0 (Q3y r).A9).1) (Qp f hs)
     exact⟨t.m,t.clock,by have:=t.cnt;show(recF n _ _).1.A0.A3<=_;omega⟩
   . exact⟨f.m,f.clock,by have:=f.cnt;show(Q3y r).A0.A3<=_;omega⟩
theorem Z5q{P:Nat}{k:Int}(l:List Q0e): ∀{r:Q01},Q8j P k r->(∀q∈l,U q.N)->Q8j P k (l.foldl Q1v r)/\(l.foldl Q1v r).A4=r.A4:=by
 induction l with
 |nil=>intro r h _;exact⟨h,rfl⟩
 | cons e l ih=>
   intro r h hu
   obtain⟨a,b⟩:=ih (Ql4 h (hu e (by simp))).1 (λq hq=>hu q (by simp [hq]))
   exact⟨a,b.trans (Qo0 r e)⟩
theorem Z6h(n:Nat): ∀(r:Q01) (o:List Q02),(recF n r o).1.A4=r.A4:=by
 induction n with
 |zero=>intro r o;rfl
 | succ n ih=>
   intro r o
   have f:(Q3y r).A4=r.A4:=by
     unfold Q3y;cases Q7h r.A0.B1 r.A9
     . rfl
     . exact Qo0 _ _
   unfold recF
   cases Q17 (Q3y r).A0
   . exact(ih _ _).trans f
   . exact f
def okQ(l:List Q0e):Prop:=l.length<=16/\ ∀q∈l,U q.N
theorem yk{P:Nat}{k:Int}{r:Q01}(h:Q8j P k r)(hq:okQ r.A4)(steps:Int){clock:Int}(hc:U clock):Q8j P (k+4000) (advF r steps clock).1/\okQ (advF r steps clock).1.A4:=by
 obtain⟨l0,l1⟩:=Qtb steps
 unfold advF
 rw[h.m.rmay]
 have hcl:U (if clock>r.A9 then clock else r.A9):=by split<;>first|exact hc|exact h.clock
 obtain⟨a,b⟩:=Z5q r.A4 (r:={A0:=r.A0,A9:=if clock>r.A9 then clock else r.A9,C6:=r.C6,A4:=r.A4}) ⟨h.m,hcl,h.cnt⟩ hq.2
 have c:=Zc1 (Q11 steps).toNat (o:=[]) (r:=noQ (r.A4.foldl Q1v {A0:=r.A0,A9:=if clock>r.A9 then clock else r.A9,C6:=r.C6,A4:=r.A4})) ⟨a.m,a.clock,a.cnt⟩
 refine⟨⟨c.m,c.clock,?_⟩,?_⟩
 . have:=c.cnt
   show(recF _ _ _).1.A0.A3<=_
   omega
 . show okQ (recF _ _ _).1.A4
   rw[Z6h];exact⟨Nat.zero_le _,λq hq=>by cases hq⟩
theorem vk(n:Int):U (Q4a n).N:=Tree.post _ (xx n)
theorem Qkh(r:Q01)(e:Q0e):Q2h r e=bif !Q2n e then(r,false) else bif e.B5==1 then(r,false) else bif decide ((r.A4.length:Int)>=16) then(r,false) else({A0:=r.A0,A9:=r.A9,C6:=r.C6,A4:=r.A4++[e]},true):=by
 simp only[Q2h,Q84,Tree.m,letv,Zi7]
theorem Zep{P:Nat}{k:Int}{r:Q01}(h:Q8j P k r)(hq:okQ r.A4){e:Q0e}(he:U e.N):Q8j P k (Q2h r e).1/\okQ (Q2h r e).1.A4:=by
  rw[Qkh]
  cases Q2n e
  . exact⟨h,hq⟩
  . cases e.B5==1
    . cases hl:decide ((r.A4.length:Int)>=16)
      . have hl:=of_decide_eq_false hl
        refine⟨⟨h.m,h.clock,h.cnt⟩,?_,λq hm=> ?_⟩
        . show(r.A4++[e]).length<=16
          rw[List.length_append,List.length_singleton];omega
        . have hm:q∈r.A4++[e]:=hm
          rcases List.mem_append.1 hm with hm|hm
          . exact hq.2 q hm
          . rw[List.mem_singleton.1 hm];exact he
      . exact⟨h,hq⟩
    . exact⟨h,hq⟩
theorem Qtg{r:Q01}{n:Int}(h:(Int.tmod (Q2u n 3) 3==0)=true):Q37 r n=((Q2h r (Q4a n)).1,[]):=by
 show Tree.V (Q7i r n) (λx=>x=((Q2h r (Q4a n)).1,[]))
 unfold Q7i
 refine v_lv λx0 e0=>v_br (λ_=>v_an (v_lv λx1 e1=>v_an (v_lv λx2 e2=>v_lf ?_))) (λhb=> ?_)
 . rw[e2,e1]
 . rw[e0,h]at hb;cases hb
theorem Qsu{r:Q01}{n:Int}(h:(Int.tmod (Q2u n 3) 3==0)=false):Q37 r n=Qcg r (Q49 (ishr .i64 (Q2u n 3) 4) 12) (IntKind.wrap .u32 (iand .i64 (ishr .i64 (Q2u n 3) 12) 255)):=by
 show Tree.V (Q7i r n) (λx=>x=Qcg r (Q49 (ishr .i64 (Q2u n 3) 4) 12) (IntKind.wrap .u32 (iand .i64 (ishr .i64 (Q2u n 3) 12) 255)))
 unfold Q7i
 refine v_lv λx0 e0=>v_br (λhb=> ?_) (λ_=>v_an (v_lv λx1 e1=>v_an (v_lv λx2 e2=>v_lf ?_)))
 . rw[e0,h]at hb;cases hb
 . rw[e2,e1,e0]
def Qjg(s:Q01×List Q02)(n:Int):Q01×List Q02:=((Q37 s.1 n).1,s.2++(Q37 s.1 n).2)
theorem zam(m:Q00)(l:List Int)(hl:l.length<=1000000):Qsn m l=l.foldl Qjg (Q3a m,[]):=by
 show Tree.V (Qay m l) (λx=>x=l.foldl Qjg (Q3a m,[]))
 unfold Qay
 refine v_an (v_lv λx0 e0=> ?_)
 subst e0
 refine v_lp (inv:=λz:Int×Q01×List Q02=>0<=z.1/\z.1<=l.length/\(l.drop z.1.toNat).foldl Qjg z.2=l.foldl Qjg (Q3a m,[])) (μ:=Qh2 m l) ⟨Int.le_refl 0,by show(0:Int)<=_;omega,rfl⟩ (Nat.lt_succ_self _) λz ⟨z0,z1,z2⟩=> ?_
 obtain⟨i,r,o⟩:=z
 have z0:0<=i:=z0
 have z1:i<=l.length:=z1
 refine v_br (λhb=>v_cn (v_an (v_lv λx1 e1=>v_cn (v_nx ?_)))) (λhb=>v_lf ?_)
 . have hb:i<l.length:=of_decide_eq_true hb
   have ew:IntKind.i64.wrap (i+1)=i+1:=by rw[IntKind.wrap_i64];omega
   have hlt:i.toNat<l.length:=by omega
   show(0<=IntKind.i64.wrap (i+1)/\IntKind.i64.wrap (i+1)<=l.length/\(l.drop (IntKind.i64.wrap (i+1)).toNat).foldl Qjg (x1.1,o++x1.2)=_)/\(l.length-IntKind.i64.wrap (i+1)).toNat<(l.length-i).toNat
   rw[ew]
   refine⟨⟨by omega,by omega,?_⟩,by omega⟩
   rw[<-z2]
   show _=(l.drop i.toNat).foldl Qjg (r,o)
   rw[List.drop_eq_getElem_cons hlt,List.foldl_cons,show(i+1).toNat=i.toNat+1 by omega,e1]
   have ed:l.getD i.toNat 0=l[i.toNat]:=by rw[List.getD_eq_getElem?_getD,List.getElem?_eq_getElem hlt];rfl
   rw[show Qjg (r,o) l[i.toNat]=((Q37 r l[i.toNat]).1,o++(Q37 r l[i.toNat]).2) from by unfold Qjg;rfl,<-ed]
 . have hb: ¬i<l.length:=of_decide_eq_false hb
   show(r,o)=_
   rw[<-z2]
   show _=(l.drop i.toNat).foldl Qjg (r,o)
   rw[List.drop_eq_nil_of_le (by omega)];rfl
theorem Zc7(s:Q01×List Q02)(n:Int):Qjg s n=((Q37 s.1 n).1,s.2++(Q37 s.1 n).2):=by unfold Qjg;rfl
theorem ql{σ:Type}{f:σ->Int->σ}{I:Int->σ->Prop}(hf: ∀k s n,I k s->I (k+4000) (f s n))(l:List Int): ∀k s,I k s->I (k+4000*l.length) (l.foldl f s):=by
 induction l with
 |nil=>intro k s h;simpa using h
 | cons n l ih=>
   intro k s h
   have:=ih _ _ (hf k s n h)
   rw[List.foldl_cons,List.length_cons]
   rwa [show k+4000*((l.length+1:Nat):Int)=k+4000+4000*l.length by omega]
theorem xl(m:Q00):Q3a m={A0:=m,A9:=0,C6:=[],A4:=[]}:=by
 simp only[Q3a,Q3e,Tree.m,letv,Z5]
theorem Zj0{i:List Int}(hu: ∀w∈i,U w)(hl:i.length<=256):good 8 (Q1r 8 4 i).1/\(Q1r 8 4 i).1.A3=0:=by
 obtain⟨a,b⟩:=(Tree.pp (new_w i hu hl)).2
 change okM 8 (Q1r 8 4 i).1 at a
 refine⟨⟨a,?_⟩,b⟩
 have e:(Q1r 8 4 i).2=true:=by
   have w:IntKind.i64.wrap (8*32)=256:=by decide
   simp only[Q1r,Q86,Tree.m,w,letv,decide_eq_false (show¬((i.length:Int)>256) by omega)]
   rfl
 obtain⟨a1,a2,a3,a4,a5,a6⟩:=qaP 8 4 i e
 exact(zaP _ 8 4 a1 a2 a3 a4 a5 _ a6).1
theorem zl{m:Q00}(h:good 8 m)(hc:m.A3<=87):Tree.V (Q8q m [] 87) (λx=>x.2.2.2=0->good 8 x.1/\x.1.A3<=87):=by
 have z: ∀{k:Int} {p:Prop},k≠0->k=0->p:=λa b=>absurd b a
 unfold Q8q
 refine v_lv λx0 _=>v_br (λ_=>v_lf (z (by decide))) λ_=>v_br (λ_=>v_lf (z (by decide))) λ_=>v_br (λ_=>v_lf (z (by decide))) λ_=>v_an (v_lv λx1 _=>v_br (λ_=>v_lf (z (by decide))) λ_=>v_an (v_lv λx2 hx=> ?_))
 rw[Z5]at hx
 refine v_lp (inv:=λv:Q00×List Q02=>good 8 v.1/\v.1.A3<=87) (μ:=Qfj m [] 87) ⟨by rw[hx];exact h,by rw[hx];exact hc⟩ (Nat.lt_succ_self _) λv0 ⟨a1,a3⟩=> ?_
 have a2:=a1.ok.cnt
 refine v_br (λhb=>v_br (λhm=> ?_) (λ_=>v_lf λ_=>⟨a1,a3⟩)) (λ_=>v_lf λ_=>⟨a1,a3⟩)
 have hb:=of_decide_eq_true hb
 have hm:=of_decide_eq_true hm
 refine v_lp (inv:=λ_=>True) (μ:=Qfe m [] 87 v0) trivial (Nat.lt_succ_self _) λv1 _=> ?_
 refine v_br (λ_=>v_lf λ_=>⟨a1,a3⟩) λhh=>v_an (v_lv λx3 h3=>v_br (λ_=>v_lf λ_=>⟨a1,a3⟩) λhi=>v_an (v_lv λx4 _=>v_br (λ_=>v_lf (z (by decide))) λ_=>v_an (v_lv λx5 h5=>v_cn (v_nx ?_))))
 obtain⟨b1,b2,_⟩:=Qfx a1 ((Zc4 a1).2 ⟨hh,h3.symm.trans hi,hm⟩) (clock:=0) U_0
 rw[<-h5]at b1 b2
 show(good 8 x5.2/\x5.2.A3<=87)/\(87-x5.2.A3).toNat<(87-v0.1.A3).toNat
 exact⟨⟨b1,by omega⟩,by omega⟩
theorem Zef(kind:Int)(l:List Int)(hl:l.length*8<=reachBytes)(h40:l.length<=40):good 8 (Qbg kind l)/\(Qbg kind l).A3<=87:=by
  show Tree.V (Q6c kind l) (λm=>good 8 m/\m.A3<=87)
  have code:=(Tree.pp (zd l hl)).2
  change((Qoa l).length:Int)=l.length/\ ∀w∈Qoa l,U w at code
  obtain⟨b1,b2⟩:=code
  unfold Q6c
  refine v_an (v_lv λx0 hx0=>v_br (λ_=>v_an (v_lv λx1 e1=> ?_)) (λhk=> ?_))
  . have eb:x1.1=boot:=by rw[e1];rfl
    obtain⟨q1,q2⟩:boot.length<=160/\ ∀w∈boot,U w:=ye
    refine v_lp (inv:=λv:List Int=>v.length<=160/\v=boot++List.replicate (v.length-boot.length) 0) (μ:=Qck kind l) ⟨by rw[eb];exact q1,by rw[eb];simp⟩ (Nat.lt_succ_self _) λv0 ⟨a1,a2⟩=> ?_
    have a3:boot.length<=v0.length:=by rw[a2,List.length_append];omega
    refine v_br (λhb=> ?_) (λhb=> ?_)
    . have hb:=of_decide_eq_true hb
      refine v_cn (v_nx ?_)
      show(_/\_)/\(_:Nat)<_
      refine⟨⟨by rw[List.length_append,List.length_singleton];omega,?_⟩,by show 160-(v0++[0]).length<160-v0.length;rw[List.length_append,List.length_singleton];omega⟩
      show v0++[0]=boot++List.replicate ((v0++[0]).length-boot.length) 0
      rw[List.length_append,List.length_singleton,show v0.length+1-boot.length=(v0.length-boot.length)+1 by omega,List.replicate_succ',<-List.append_assoc,<-a2]
    . have hb:=of_decide_eq_false hb
      have hv:v0=Qj8:=by
        unfold Qj8
        rw[show(160:Nat)=v0.length by omega]
        exact a2
      subst hv
      have hp:=qaf
      have hu0: ∀w∈Qj8,U w:=λw hw=>(List.mem_append.1 hw).elim (q2 w) (U_all _ w)
      refine v_an (v_lv λx2 e2=>v_cn ?_)
      rw[<-e2]at b1 b2
      have hu: ∀w∈Qj8++x2,U w:=λw hw=>(List.mem_append.1 hw).elim (hu0 w) (b2 w)
      have hlen:(Qj8++x2).length<=256:=by rw[List.length_append];omega
      refine v_br (λhb=> ?_) (λhb=> ?_)
      . have hb:=of_decide_eq_true hb;omega
      . obtain⟨c1,c2⟩:=Zj0 hu hlen
        refine v_an (v_lv λx3 h3=> ?_)
        rw[<-h3]at c1 c2
        have rn:=zl c1 (by omega)
        refine v_br (λ_=>v_an (v_lv λx4 hx=>v_lf ?_)) (λ_=>v_lf ⟨c1,by omega⟩)
        have e:x3=Q1r 8 4 (Qj8++(x2++List.replicate (96-x2.length) 0)):=by
          rw[h3]
          have hl2:(x2++List.replicate (96-x2.length) (0:Int)).length=96:=by rw[List.length_append,List.length_replicate];omega
          refine xae _ _ hlen (by rw[List.length_append,hl2];omega) ?_
          rw[List.length_append,List.length_append,hl2,hp,List.append_assoc,List.append_assoc,List.append_assoc,show 256-(160+96)=0 by omega,show 256-(160+x2.length)=96-x2.length by omega]
          simp
        have h0:x4.2.2.2=0:=by
          rw[hx,e]
          exact qaE _ (by rw[List.length_append,List.length_replicate];omega)
        exact(by rw[hx];exact rn:x4.2.2.2=0->good 8 x4.1/\x4.1.A3<=87) h0
  . have hk:=of_decide_eq_false hk
    refine v_an (v_lv λx2 e2=>v_cn ?_)
    rw[<-e2]at b1 b2
    refine v_br (λhb=> ?_) (λhb=> ?_)
    . have hb:=of_decide_eq_true hb;omega
    . obtain⟨c1,c2⟩:=Zj0 b2 (by omega)
      refine v_an (v_lv λx3 h3=> ?_)
      rw[<-h3]at c1 c2
      exact v_br (λh=>absurd (eq_of_beq h) (by omega)) (λ_=>v_lf ⟨c1,by omega⟩)
theorem Zkt(w:Int):IntKind.wrap .i64 (Q1w w).1.Imm=(Q1w w).1.Imm:=by
 show Tree.V (Q63 w) (λr=>IntKind.wrap .i64 r.1.Imm=r.1.Imm)
 have e: ∀x,IntKind.wrap .i64 (IntKind.wrap .i32 x)=IntKind.wrap .i32 x:=λx=>by rw[IntKind.wrap_i64,IntKind.wrap_i32];omega
 unfold Q63
 refine v_lv λx0 _=> ?_
 have l: ∀i:Q0i,IntKind.wrap .i64 i.Imm=i.Imm->Tree.V (Tree.lv (Q71 i) λx=> .br (!x) (.lf ((⟨0,0,0,0,0⟩:Q0i),false)) (.lf (i,true))) (λr=>IntKind.wrap .i64 r.1.Imm=r.1.Imm):=λi hi=>v_lv λx hx=>v_br (λ_=>v_lf rfl) (λhb=>v_lf hi)
 exact v_br (λ_=>v_lf rfl) (λ_=>v_br (λ_=>l _ rfl) (λ_=>v_br (λ_=>l _ (e _)) (λ_=>v_br (λ_=>l _ (e _)) (λ_=>l _ (e _)))))
def ioP(e:Q1):Bool:=bif e.B5==1 then e.D3==2 else false
def readsC(c:Q03)(m:List Int):Bool:=
 bif iand .u32 c.B7.a0 1==0 then false else bif(Q14 m c.Pc 4).2 then bif(Q1w (Q14 m c.Pc 4).1).2 then bif(Q1w (Q14 m c.Pc 4).1).1.Op==60 then(Q1w (Q14 m c.Pc 4).1).1.Imm==2 else false else false else false
theorem yl(m:Q00):Qgs m=readsC (Q0m m) m.Mem:=rfl
theorem zaJ(c:Q03)(i:Q0i):ioP (Qih c i).2=(bif i.Op==60 then IntKind.wrap .i64 i.Imm==2 else false):=by
 show Tree.V (Q7l c i) (λr=>ioP r.2=_)
 have no: ∀{k:Int},i.Op=k->k≠60-> ∀e:Q1,e.B5≠1->ioP e=(bif i.Op==60 then IntKind.wrap .i64 i.Imm==2 else false):=λh g e he=>by
   unfold ioP
   rw[h,show(_==(60:Int))=false from beq_false_of_ne g,show(e.B5==1)=false from beq_false_of_ne he];rfl
 have eq: ∀{k:Int},(i.Op==k)=true->i.Op=k:=λh=>eq_of_beq h
 unfold Q7l
 refine v_br (λh=>v_lv λ_ _=>v_lf (no (eq h) (by decide) _ (show(0:Int)≠1 by decide))) λ_=>v_br (λh=>v_lv λ_ _=>v_lf (no (eq h) (by decide) _ (show(0:Int)≠1 by decide))) λ_=>v_br (λh=>v_cn (v_an (v_lv λ_ _=>v_lf (no (eq h) (by decide) _ (show(0:Int)≠1 by decide))))) λ_=>v_br (λh=>v_cn (v_an (v_lv λ_ _=>v_lf (no (eq h) (by decide) _ (show(0:Int)≠1 by decide))))) λ_=>v_br (λh=>v_lf ?_) λh60=> ?_
 . show(bif(1:Int)==1 then IntKind.wrap .i64 i.Imm==2 else false)=_
   rw[h];rfl
 . have n60:i.Op≠60:=λe=>by rw[e]at h60;cases h60
   refine v_br (λh=>v_cn (v_lf (no (eq h) (by decide) _ (by show(2:Int)≠1;decide)))) λ_=>v_br (λh=>v_lf (no (eq h) (by decide) _ (show(3:Int)≠1 by decide))) λ_=>v_br (λh=>v_lf (no (eq h) (by decide) _ (show(5:Int)≠1 by decide))) λ_=>v_br (λh=>v_lf (no (eq h) (by decide) _ (show(4:Int)≠1 by decide))) λ_=>v_lf (no rfl n60 _ (show(0:Int)≠1 by decide))
theorem vl(c:Q03)(m:List Int)(i:Q0i):ioP (Qim c m i).2.1=(bif i.Op==60 then IntKind.wrap .i64 i.Imm==2 else false):=by
 unfold Qim
 cases h:decide (i.Op>=56)
 . have h:=of_decide_eq_false h
   rw[show(i.Op==60)=false from beq_false_of_ne (by omega)]
   cases decide (i.Op>=40)<;>cases decide (i.Op>=32)<;>cases i.Op==24<;>cases decide (i.Op<=13)<;>rfl
 . exact zaJ c i
theorem qM{P:Nat}{m:List Int}(h:Q0z P m){c:Q03}(hc:Q2e c)(hst:c.B7.a0<=31):ioP (Q6f c m).2.1=readsC c m:=by
  rw[do_eq]
  unfold readsC
  cases hk:iand .u32 c.B7.a0 1==0
  . have hp:Qka c=false:=by
      rw[Z54 hc.a0.1 hst,show Q9v c=true from by show(iand .u32 c.B7.a0 1 !=0)=true;rw[bne,hk];rfl]
      rfl
    have wi:=Qgp h hc.pc (size:=4) (.inr rfl)
    have kn:Qdt 1=true:=rfl
    have p0:=hc.pc.1
    have tm:Int.tmod c.Pc (IntKind.wrap .u32 4)=c.Pc%4:=by
      rw[show IntKind.wrap .u32 4=4 from rfl,Int.tmod_eq_emod_of_nonneg p0]
    have rc:Q10 c m c.Pc 4 1=bif c.Pc%4 !=0 then(0,3,m) else bif !Q20 m c.Pc 4 then(0,Q1y 1,m) else(c.Pc,0,m):=by
      simp only[Q10,Q74,Tree.m,letv,kn,hp,tm]
      rfl
    rw[rc]
    cases h4:(c.Pc%4 !=0)
    . cases hw:Q20 m c.Pc 4
      . have l2:(Q14 m c.Pc 4).2=false:=by
          simp only[Q14,Q3b,Tree.m,letv,hw];rfl
        rw[l2]
        show ioP (doR c (0,Q1y 1,m) _ _).2.1=false
        unfold doR
        rw[show((0,Q1y 1,m):Int×Int×List Int).2.1=Q1y 1 from rfl,show(Q1y 1 !=0)=true by decide]
        rfl
      . have l2:(Q14 m c.Pc 4).2=true:=by
          simp only[Q14,Q3b,Tree.m,letv,hw];rfl
        rw[l2]
        show ioP (doR c (c.Pc,0,m) (Q14 m c.Pc 4).1 (Q1w (Q14 m c.Pc 4).1)).2.1=_
        have im:=Zkt (Q14 m c.Pc 4).1
        generalize Q14 m c.Pc 4=x at*
        generalize Q1w x.1=d at*
        unfold doR
        cases d.2
        . rfl
        . rw[hk]
          have:=vl c m d.1
          rw[im]at this
          cases Q2y d.1.Op<;>exact this
    . have hw:Q20 m c.Pc 4=false:=by
        rw[wi]
        refine decide_eq_false λe=> ?_
        rw[e.1]at h4;cases h4
      have l2:(Q14 m c.Pc 4).2=false:=by
        simp only[Q14,Q3b,Tree.m,letv,hw];rfl
      rw[l2];rfl
  . have us : ∀x w d,ioP (doR c x w d).2.1=false:=λx w d=>by
      unfold doR
      cases x.2.1 !=0
      . cases d.2
        . rfl
        . cases hp:Q2y d.1.Op
          . have:=vl c x.2.2 d.1
            rw[show(d.1.Op==60)=false from beq_false_of_ne λe=>by rw[e]at hp;cases hp]at this
            exact this
          . rw[hk];rfl
      . rfl
    exact us _ _ _
theorem xaJ(d:Q0d)(m:List Int)(e:Q0e):(Q7f d m e).2.1=false->Q7f d m e=(d,false,m):=by
 show Tree.V (Q66 d m e) (λr=>r.2.1=false->r=(d,false,m))
 have no: ∀{p:Prop},true=false->p:=λh=>by cases h
 unfold Q66
 repeat'(first
   |exact v_lf λ_=>rfl
   |exact v_lf no
   |exact v_an (v_lv λ_ _=>v_lf no)
   |refine v_lv λ_ _=> ?_
   |refine v_an ?_
   |refine v_br (λ_=> ?_) (λ_=> ?_))
theorem qaK(n:Q0p)(m:List Int)(s:List UInt8):(Q7s n m s).2.1=false->Q7s n m s=(n,false,m):=by
 show Tree.V (Q69 n m s) (λr=>r.2.1=false->r=(n,false,m))
 have no: ∀{p:Prop},true=false->p:=λh=>by cases h
 unfold Q69
 repeat'(first
   |exact v_lf λ_=>rfl
   |exact v_an (v_lv λ_ _=>v_lf no)
   |refine v_lv λ_ _=> ?_
   |refine v_br (λ_=> ?_) (λ_=> ?_))
theorem xam(t:Q0f):(Q61 t).2=false->(Q61 t).1=t:=by
 show Tree.V (Q94 t) (λr=>r.2=false->r.1=t)
 have no: ∀{p:Prop},true=false->p:=λh=>by cases h
 unfold Q94
 repeat'(first
   |exact v_lf λ_=>rfl
   |exact v_lf no
   |refine v_br (λ_=> ?_) (λ_=> ?_))
theorem qan(c:Q0a)(b:Int):(Qkm c b).2=false->(Qkm c b).1=c:=by
 show Tree.V (Qaw c b) (λr=>r.2=false->r.1=c)
 have no: ∀{p:Prop},true=false->p:=λh=>by cases h
 unfold Qaw
 exact v_br (λ_=>v_lf λ_=>rfl) (λ_=>v_cn (v_lf no))
theorem zaK(m:Q00)(e:Q0e):(Q0r m e).1=false->(Q0r m e).2=m:=by
 show Tree.V (Q3x m e) (λr=>r.1=false->r.2=m)
 have no: ∀{p:Prop},true=false->p:=λh=>by cases h
 unfold Q3x
 repeat'(first
   |exact v_lf λ_=>rfl
   |exact v_lf no
   |exact v_lv λx hx=>v_lf λh=>by rw[hx]at h⊢;rw[xam _ h]
   |exact v_an (v_lv λx hx=>v_lf λh=>by rw[hx]at h⊢;rw[xaJ _ _ _ h])
   |exact v_an (v_lv λx hx=>v_lf λh=>by rw[hx]at h⊢;rw[qaK _ _ _ h])
   |exact v_an (v_lv λx hx=>v_lf λh=>by rw[hx]at h⊢;rw[qan _ _ h])
   |refine v_br (λ_=> ?_) (λ_=> ?_))
section
variable {P:Nat} {m:Q00} (h:good P m)
include h
theorem good.len:m.Mem.length<=1024:=by have:=h.ok.mem.len;have:=h.ok.mem.p2;omega
theorem good.app(e:Q0e):Q7c m e=((Q0r m e).2,(Q0r m e).1):=by
 rw[Z6d h.v]
 simp only[Qkd,Qj2,Tree.m,letv,Z5,h.rmay];rfl
theorem good.step(hs:Q17 m=false)(clock:Int):Q7a m clock=((Q0l m clock).2,(Q0l m clock).1):=by
 rw[Zai h.v,Z73,hs];rfl
end
theorem Qp0(r:Q01)(e:Q0e):(Q1v r e).C6.length<=r.C6.length+1:=by
 unfold Q1v
 cases(Q0r r.A0 e).1
 . exact Nat.le_succ _
 . show(r.C6++[_]).length<=_
   rw[List.length_append,List.length_singleton];omega
theorem qm(r:Q01):(Q3y r).C6.length<=r.C6.length+1:=by
 unfold Q3y
 cases Q7h r.A0.B1 r.A9
 . exact Nat.le_succ _
 . exact Qp0 _ _
theorem xm(r:Q01):(Z7z r).C6.length<=r.C6.length+1:=by
 unfold Z7z
 cases Q1p r.A0
 . exact Nat.le_succ _
 . show(r.C6++[_]).length<=_
   rw[List.length_append,List.length_singleton];omega
theorem Z11{r:Q01}(hr:Q1p r.A0=true):Qio r={A0:=(Q0l r.A0 r.A9).2,A9:=IntKind.wrap .u32 (r.A9+1),C6:=r.C6++[{At:=r.A0.A3,D6:={B5:=1,N:=r.A9,C8:=[]}}],A4:=r.A4}:=by
 unfold Qio Z7z;rw[hr];rfl
theorem Zev{r:Q01}(hr:Q1p r.A0=false):Qio r={A0:=(Q0l r.A0 r.A9).2,A9:=IntKind.wrap .u32 (r.A9+1),C6:=r.C6,A4:=r.A4}:=by
 unfold Qio Z7z;rw[hr];rfl
theorem Zbz(r:Q01):(Qio r).C6.length<=r.C6.length+1:=xm r
def Qq3:Q0e:={B5:=2,N:=0,C8:=[]}
theorem Zgo(m:Q00):Q0r m Qq3=bif m.A7 then(false,m) else((Q61 m.B1).2,{B3:=m.B3,Mem:=m.Mem,A1:=m.A1,B1:=(Q61 m.B1).1,B0:=m.B0,C7:=m.C7,A2:=m.A2,A3:=m.A3,A6:=m.A6,A7:=m.A7}):=rfl
theorem zm(t:Q0f):(Q61 t).2=true->(Q61 t).1.D4=false:=by
 show Tree.V (Q94 t) (λr=>r.2=true->r.1.D4=false)
 unfold Q94
 exact v_br (λ_=>v_lf λh=>by cases h) (λ_=>v_lf λ_=>rfl)
theorem ym{t:Q0f}{c:Int}(h:t.D4=false):Q7h t c=false:=by
 simp only[Q7h,Qtt,Tree.m,h];rfl
theorem Z15{r:Q01}{e:Q0e}(h:(Q0r r.A0 e).1=false):Q1v r e=r:=by
 unfold Q1v;rw[h,zaK _ _ h];rfl
theorem Qnz(r:Q01):Q3y r=bif Q7h r.A0.B1 r.A9 then Q1v r Qq3 else r:=rfl
theorem vm{r:Q01}(h:Q7h r.A0.B1 r.A9=false):Q3y r=r:=by rw[Qnz,h];rfl
theorem Ze8(r:Q01)(o:List Q02):recF 0 r o=(r,o):=rfl
theorem Qui{n:Nat}{r:Q01}{o:List Q02}(hs:Q17 (Q3y r).A0=true):recF (n+1) r o=(Q3y r,o):=by
 conv=>lhs;unfold recF
 rw[hs];rfl
theorem Qus{n:Nat}{r:Q01}{o:List Q02}(hs:Q17 (Q3y r).A0=false):recF (n+1) r o=recF n (Qio (Q3y r)) (o++(Q0l (Q3y r).A0 (Q3y r).A9).1):=by
 conv=>lhs;unfold recF
 rw[hs];rfl
theorem xM(n:Nat): ∀(r:Q01) (o:List Q02),recF n r o=((recF n r []).1,o++(recF n r []).2):=by
 induction n with
 |zero=>intro r o;rw[Ze8,Ze8,List.append_nil]
 | succ n ih=>
   intro r o
   cases hs:Q17 (Q3y r).A0
   . rw[Qus hs,Qus hs,ih,ih (Qio (Q3y r)) ([]++_),List.nil_append,List.append_assoc]
   . rw[Qui hs,Qui hs,List.append_nil]
theorem Z0y{r:Q01}(h:Q7g r.A0=true)(steps clock:Int):advF r steps clock=recF (Q11 steps).toNat (noQ (r.A4.foldl Q1v {A0:=r.A0,A9:=if clock>r.A9 then clock else r.A9,C6:=r.C6,A4:=r.A4})) []:=by
 unfold advF;rw[h];rfl
theorem Qud{s:Int}(h0:0<=s)(h1:s<=4000):Q11 s=s:=by
 have:Q11 s=(if 4000<(if 0>s then 0 else s) then 4000 else(if 0>s then 0 else s)):=rfl
 rw[this,if_neg (show¬0>s by omega),if_neg (show¬4000<s by omega)]
set_option synthInstance.maxHeartbeats 2000000
set_option synthInstance.maxSize 100000
noncomputable section
instance Qxu (s:(List Int)):Ck (Q06 s):=let d:Decidable (Q06 s):=(by delta Q06;infer_instance);⟨@decide _ d,@of_decide_eq_true _ d⟩
instance Zlz (m:(List Int)) (addr:Int) (size:Int):Ck (Q9y m addr size):=ckT (t:=Q3 m addr size) (by delta Q3;infer_instance)
instance xX (n:Int):Ck (Qfy n):=ckT (t:=Qb1 n) (by delta Qb1;infer_instance)
instance yM (w:Int) (low:Int) (n:Int):Ck (Q4y w low n):=ckT (t:=Q8l w low n) (by delta Q8l;infer_instance)
instance vM (w:Int):Ck (Qjm w):=ckT (t:=Q79 w) (by delta Q79;infer_instance)
instance xD (m:(List Int)) (addr:Int) (size:Int):Ck (Q2w m addr size):=ckT (t:=Q65 m addr size) (by delta Q65;infer_instance)
instance zD (c:Q03) (m:(List Int)) (va:Int) (size:Int) (access:Int):Ck (Q8t c m va size access):=ckT (t:=Q60 c m va size access) (by delta Q60;infer_instance)
instance zX (c:Q03) (m:(List Int)):Ck (Qlt c m):=ckT (t:=Qaz c m) (by delta Qaz;infer_instance)
instance zan (c:Q03) (m:(List Int)):Ck (Qiu c m):=ckT (t:=Q7 c m) (by delta Q7;infer_instance)
instance Zhy (x:Int):Ck (Qb5 x):=ckT (t:=Q1n x) (by delta Q1n;infer_instance)
instance yD (b:Q07) (pages:Int):Ck (Qc b pages):=ckT (t:=Q3m b pages) (by delta Q3m;infer_instance)
instance Zbh (m:Q00):Ck (Q2i m):=ckT (t:=Q1k m) (by delta Q1k;infer_instance)
instance vD (m:Q00):Ck (Q57 m):=ckT (t:=Q4p m) (by delta Q4p;infer_instance)
instance qn (m:Q00):Ck (Qaq m):=ckT (t:=Q4z m) (by delta Q4z;infer_instance)
instance xn (m:Q00):Ck (Qam m):=ckT (t:=Q3o m) (by delta Q3o;infer_instance)
instance Zm1 (m:Q00):Ck (Q9k m):=ckT (t:=Q3v m) (by delta Q3v;infer_instance)
instance zn (m:Q00) (clock:Int):Ck (Qal m clock):=ckT (t:=Q6h m clock) (by delta Q6h;infer_instance)
instance xan (pages:Int):Ck (Qee pages):=ckT (t:=Qdl pages) (by delta Qdl;infer_instance)
instance qao (pages:Int) (blocks:Int) (image:(List Int)):Ck (Q93 pages blocks image):=ckT (t:=Q86 pages blocks image) (by delta Q86;infer_instance)
instance Zcp (m:Q00):Ck (Q5g m):=ckT (t:=Q4n m) (by delta Q4n;infer_instance)
instance yn (script:(List Q0w)):Ck (Q34 script):=let d:Decidable (Q34 script):=(by delta Q34;infer_instance);⟨@decide _ d,@of_decide_eq_true _ d⟩
instance qN (m:Q00) (script:(List Q0w)) (until0:Int):Ck (Qja m script until0):=ckT (t:=Qe4 m script until0) (by delta Qe4;infer_instance)
instance zao (m:Q00) (script:(List Q0w)) (until0:Int):Ck (Qnp m script until0):=ckT (t:=Qkj m script until0) (by delta Qkj;infer_instance)
instance Qw6 (b:(List Int)) (s:(List UInt8)):Ck (Q3d b s):=ckT (t:=Q1o b s) (by delta Q1o;infer_instance)
instance Qxx (s:(List (List UInt8))):Ck (Q18 s):=let d:Decidable (Q18 s):=(by delta Q18;infer_instance);⟨@decide _ d,@of_decide_eq_true _ d⟩
instance xao (disk:(List (List UInt8))) (l:(List Q02)):Ck (Q33 disk l):=ckT (t:=Qd3 disk l) (by delta Qd3;infer_instance)
theorem vn:Q2l:=ck (ckT (t:=Qco) (by delta Qco;infer_instance)) (by kernel_rfl)
theorem Zjy:Q6i=true:=by kernel_rfl
theorem aw13{W:Bool->Prop}(h:W true):(Tree.an Q2l (.lv Q6i λx=> .lf x)).w W:=w_an vn (w_lv λx e=>by show W x;rw[e,Zjy];exact h)
end
structure Qml(P:Nat)(k:Int)(r:Q01):Prop where
 g:Q8j P k r
 q:okQ r.A4
 l:(r.C6.length:Int)<=3*k
theorem xN(n:Nat): ∀(r:Q01) (o:List Q02),(recF n r o).1.C6.length<=r.C6.length+2*n:=by
 induction n with
 |zero=>intro r o;exact Nat.le_refl _
 | succ n ih=>
   intro r o
   have f:=qm r
   cases hs:Q17 (Q3y r).A0
   . rw[Qus hs]
     have:=ih (Qio (Q3y r)) (o++(Q0l (Q3y r).A0 (Q3y r).A9).1)
     have:=Zbz (Q3y r)
     omega
   . rw[Qui hs]
     show(Q3y r).C6.length<=_
     omega
theorem qo(l:List Q0e): ∀r:Q01,(l.foldl Q1v r).C6.length<=r.C6.length+l.length:=by
 induction l with
 |nil=>intro r;exact Nat.le_refl _
 | cons e l ih=>
   intro r
   have:=ih (Q1v r e)
   have:=Qp0 r e
   rw[List.foldl_cons,List.length_cons];omega
theorem zN(r:Q01)(steps clock:Int):(advF r steps clock).1.C6.length<=r.C6.length+r.A4.length+8000:=by
 obtain⟨l0,l1⟩:=Qtb steps
 cases hm:Q7g r.A0
 . unfold advF;rw[hm]
   show r.C6.length<=_
   omega
 . rw[Z0y hm]
   have a:=xN (Q11 steps).toNat (noQ (r.A4.foldl Q1v {A0:=r.A0,A9:=if clock>r.A9 then clock else r.A9,C6:=r.C6,A4:=r.A4})) []
   have b:=qo r.A4 {A0:=r.A0,A9:=if clock>r.A9 then clock else r.A9,C6:=r.C6,A4:=r.A4}
   have b:(noQ (r.A4.foldl Q1v {A0:=r.A0,A9:=if clock>r.A9 then clock else r.A9,C6:=r.C6,A4:=r.A4})).C6.length<=r.C6.length+r.A4.length:=b
   omega
theorem Zg2{P:Nat}{k:Int}{r:Q01}(h:Q8j P k r)(hu: ∀q∈r.A4,U q.N){clock:Int}(hc:U clock):Q8j P k (noQ (r.A4.foldl Q1v {A0:=r.A0,A9:=if clock>r.A9 then clock else r.A9,C6:=r.C6,A4:=r.A4})):=by
 have hcl:U (if clock>r.A9 then clock else r.A9):=by split<;>first|exact hc|exact h.clock
 obtain⟨a,b⟩:=Z5q r.A4 (r:={A0:=r.A0,A9:=if clock>r.A9 then clock else r.A9,C6:=r.C6,A4:=r.A4}) ⟨h.m,hcl,h.cnt⟩ hu
 exact⟨a.m,a.clock,a.cnt⟩
theorem Qv{P:Nat}{k:Int}{r:Q01}(h:Q8j P k r)(hq:okQ r.A4){clock:Int}(hc:U clock):Q8j P k (noQ (r.A4.foldl Q1v {A0:=r.A0,A9:=if clock>r.A9 then clock else r.A9,C6:=r.C6,A4:=r.A4})):=Zg2 h hq.2 hc
theorem advP{P:Nat}{k:Int}{r:Q01}(h:Qml P k r)(steps:Int){clock:Int}(hc:U clock):Qml P (k+4000) (advF r steps clock).1:=by
 obtain⟨a,b⟩:=yk h.g h.q steps hc
 have c:=zN r steps clock
 have d:=h.q.1
 have e:=h.l
 exact⟨a,b,by omega⟩
theorem arriveP{P:Nat}{k:Int}{r:Q01}(h:Qml P k r){e:Q0e}(he:U e.N):Qml P k (Q2h r e).1:=by
 obtain⟨a,b⟩:=Zep h.g h.q he
 refine⟨a,b,?_⟩
 have:=h.l
 rw[Qkh]
 cases Q2n e<;>cases e.B5==1<;>cases decide ((r.A4.length:Int)>=16)<;>exact this
theorem Qml.more{P:Nat}{k j:Int}{r:Q01}(h:Qml P k r)(hj:k<=j):Qml P j r:=
 ⟨⟨h.g.m,h.g.clock,by have:=h.g.cnt;omega⟩,h.q,by have:=h.l;omega⟩
theorem xaK{P:Nat}{k:Int}{A:Q01×Bool}(h:Qml P k A.1):Qml P (k+4000) (A.1,([]:List Q02)).1:=h.more (by omega)
theorem mstepP{P:Nat}{k:Int}{r:Q01}(h:Qml P k r)(n:Int):Qml P (k+4000) (Q37 r n).1:=by
 cases hm:Int.tmod (Q2u n 3) 3==0
 . rw[Qsu hm,Qrc _ _ _ (by have:=h.q.1;omega)]
   exact advP h _ (Q0q _)
 . rw[Qtg hm]
   exact xaK (arriveP h (vk n))
theorem qaL{α β:Type}(a:α)(b:β):(a,b).1=a:=rfl
theorem Qo5(s:Q01×List Q02)(n:Int):(Qjg s n).1=(Q37 s.1 n).1:=(congrArg Prod.fst (Zc7 s n)).trans (qaL _ _)
theorem playP{P:Nat}(l:List Int){k:Int}{s:Q01×List Q02}(h:Qml P k s.1):Qml P (k+4000*l.length) (l.foldl Qjg s).1:=
 ql (f:=Qjg) (I:=λk s=>Qml P k s.1) (λk s n h=>by rw[Qo5];exact mstepP h n) l k s h
theorem newP{P:Nat}{m:Q00}(h:good P m)(hc:m.A3<=87):Qml P 87 {A0:=m,A9:=0,C6:=[],A4:=[]}:=
 ⟨⟨h,U_0,hc⟩,⟨Nat.zero_le _,λq hq=>by cases hq⟩,by show((0:Nat):Int)<=_;omega⟩
theorem qap{kind:Int}{l acts:List Int}(hl:l.length*8<=reachBytes)(h40:l.length<=40)(h30:acts.length<=30){β:Type}{W:β->Prop}{k:Q00->Q01×List Q02->Tree β}
   (g: ∀m x,m=Qbg kind l->good 8 m->m.A3<=87->x=acts.foldl Qjg ({A0:=m,A9:=0,C6:=[],A4:=[]},[])->Qml 8 121000 x.1->(k m x).w W):
   (Tree.an (Qfb kind l) (.lv (Qbg kind l) λm=> .an (Qlc m acts) (.lv (Qsn m acts) λx=>k m x))).w W:=by
 obtain⟨a,b⟩:=Zef kind l hl h40
 refine w_an (Tree.pp (qf kind l hl)).1 (w_lv λm hm=> ?_)
 rw[<-hm]at a b
 refine w_an (Tree.pp (xaD a.ok acts h30)).1 (w_lv λx hx=> ?_)
 rw[zam _ _ (by omega),xl]at hx
 refine g m x hm a b hx ?_
 have:=playP acts (s:=({A0:=m,A9:=0,C6:=[],A4:=[]},[])) (newP a b)
 rw[hx]
 exact this.more (by omega)
theorem and255i(a:Int):0<=iand .i64 a 255/\iand .i64 a 255<=255:=by
 unfold iand
 rw[IntKind.wrap_i64]
 have:(BitVec.ofInt IntKind.i64.bits a&&&BitVec.ofInt IntKind.i64.bits 255).toNat<=255:=by
   show(BitVec.ofInt 64 a&&&BitVec.ofInt 64 255).toNat<=255
   rw[BitVec.toNat_and]
   exact Nat.le_trans Nat.and_le_right (by decide)
 omega
theorem Zez(a:Int):0<=IntKind.wrap .u32 (iand .i64 a 255)/\IntKind.wrap .u32 (iand .i64 a 255)<=255:=by
 have:=and255i a
 rw[IntKind.wrap_u32];omega
theorem Zij(n k:Int)(h0:0<=k)(h1:k<=1000):(Qtd n k).length=k.toNat:=by
 show Tree.V (Qcz n k) (λs=>s.length=k.toNat)
 unfold Qcz
 refine v_lp (inv:=λv:Int×List Int=>0<=v.1/\v.1<=k/\v.2.length=v.1.toNat) (μ:=Qbn n k) ⟨Int.le_refl 0,h0,rfl⟩ (Nat.lt_succ_self _) λv ⟨a,b,c⟩=> ?_
 refine v_br (λhb=> ?_) (λhb=> ?_)
 . have hb:=of_decide_eq_true hb
   have e:IntKind.i64.wrap (v.1+1)=v.1+1:=by rw[IntKind.wrap_i64];omega
   refine v_lv λx _=>v_cn (v_nx ?_)
   show(0<=IntKind.i64.wrap (v.1+1)/\IntKind.i64.wrap (v.1+1)<=k/\(v.2++[_]).length=(IntKind.i64.wrap (v.1+1)).toNat)/\(k-IntKind.i64.wrap (v.1+1)).toNat<(k-v.1).toNat
   rw[e,List.length_append,List.length_singleton]
   exact⟨⟨by omega,by omega,by omega⟩,by omega⟩
 . have hb:=of_decide_eq_false hb
   refine v_lf ?_
   show(bytesOf v.2).length=_
   unfold bytesOf
   rw[List.length_map,c];omega
theorem zap(n k:Int):0<=Q2u n k:=by
 show Tree.V (Qoe n k) (λx=>0<=x)
 unfold Qoe
 refine v_lv λx hx=>v_lf ?_
 have r:0<=x.1/\x.1<18446744073709551616:=by
   rw[hx]
   show 0<=IntKind.wrap .u64 _/\IntKind.wrap .u64 _<_
   rw[IntKind.wrap_u64];omega
 show 0<=IntKind.wrap .i64 (x.1.fdiv 2)
 rw[Int.fdiv_eq_ediv_of_nonneg _ (by decide),IntKind.wrap_i64];omega
def evOK(e:Q0e):Prop:=Q2n e=true/\e.B5≠1
theorem Z52:evOK Qq3:=⟨rfl,by decide⟩
theorem Zae{n:Int}(h:n<=255):Q2n {B5:=3,N:=n,C8:=[]}=true:=by
 show(bif decide (n<=255) then decide (([]:List UInt8)=[]) else false)=true
 rw[decide_eq_true h];rfl
theorem Zl{s:List UInt8}(h:s.length=128):Q2n {B5:=4,N:=1,C8:=s}=true:=by
 show(bif decide (s=[]) then true else(s.length:Int)==128)=true
 rw[h];cases decide (s=[])<;>rfl
theorem xo{s:List UInt8}(h1:1<=s.length)(h2:s.length<=128):Q2n {B5:=5,N:=0,C8:=s}=true:=by
 show(bif decide ((s.length:Int)>=1) then decide ((s.length:Int)<=128) else false)=true
 rw[decide_eq_true (show(s.length:Int)>=1 by omega),decide_eq_true (show(s.length:Int)<=128 by omega)];rfl
theorem yN(n:Int):evOK (Q4a n):=by
 show Tree.V (Q8s n) evOK
 unfold Q8s
 refine v_lv λx hx=> ?_
 have x0:0<=x:=by rw[hx];exact zap n 2
 have i2: ∀k:Int,k≠1-> ¬k=1:=λ_ h=>h
 refine v_br (λ_=>v_lf ⟨rfl,by decide⟩) λ_=>v_br (λ_=>v_lf ⟨Zae (Zez _).2,by show(3:Int)≠1;decide⟩) λ_=>v_br (λ_=>v_lf ⟨Zae (Zez _).2,by show(3:Int)≠1;decide⟩) λ_=>v_br (λ_=>v_lf ⟨rfl,by decide⟩) λ_=>v_br (λ_=>v_an (v_lv λy hy=>v_lf ⟨Zl ?_,by show(4:Int)≠1;decide⟩)) λ_=>v_br (λ_=>v_an (v_lv λy hy=>v_lf ⟨?_,by show(5:Int)≠1;decide⟩)) λ_=>v_br (λ_=>v_lf ⟨rfl,by decide⟩) λ_=>v_lf ⟨rfl,by show(6:Int)≠1;decide⟩
 . rw[hy,Zij _ _ (by decide) (by decide)];rfl
 . have s0:0<=ishr .i64 x 8:=by
     unfold ishr
     exact Int.fdiv_nonneg x0 (Int.le_of_lt (Int.pow_pos (by decide)))
   have t1:=Int.tmod_lt_of_pos (ishr .i64 x 8) (b:=40) (by decide)
   have t0:=Int.tmod_nonneg 40 s0
   have e:IntKind.i64.wrap (1+Int.tmod (ishr .i64 x 8) 40)=1+Int.tmod (ishr .i64 x 8) 40:=by rw[IntKind.wrap_i64];omega
   rw[e]at hy
   have:=Zij x (1+Int.tmod (ishr .i64 x 8) 40) (by omega) (by omega)
   rw[<-hy]at this
   exact xo (by omega) (by omega)
structure Qjt(c0:Int)(r:Q01):Prop where
 pw:r.C6.Pairwise λa b=>a.At<=b.At/\(a.D6.B5=1->a.At<b.At/\(b.D6.B5=1->a.D6.N<=b.D6.N))
 all: ∀e∈r.C6,c0<=e.At/\e.At<=r.A0.A3/\Q2n e.D6=true/\(e.D6.B5=1->e.At<r.A0.A3/\e.D6.N<r.A9/\0<=e.D6.N)
 q: ∀e∈r.A4,evOK e
 c:c0<=r.A0.A3
theorem Qjt.with{c0:Int}{r x:Q01}(h:Qjt c0 r)(hl:x.C6=r.C6)(hm:x.A0.A3=r.A0.A3)(hc:r.A9<=x.A9)(hq: ∀e∈x.A4,evOK e):Qjt c0 x:=
 ⟨by rw[hl];exact h.pw,by
   rw[hl,hm]
   exact λe he=>⟨(h.all e he).1,(h.all e he).2.1,(h.all e he).2.2.1,λk=>⟨((h.all e he).2.2.2 k).1,by have:=((h.all e he).2.2.2 k).2.1;omega,((h.all e he).2.2.2 k).2.2⟩⟩,hq,by rw[hm];exact h.c⟩
theorem Zah{P:Nat}{k c0:Int}{r:Q01}(h:Qjt c0 r)(g:Q8j P k r){e:Q0e}(he:evOK e)(hu:U e.N):Qjt c0 (Q1v r e):=by
  obtain⟨a,b⟩:=Qov g.m hu
  unfold Q1v
  cases(Q0r r.A0 e).1
  . exact h.with rfl b (Int.le_refl _) h.q
  . show Qjt c0 {A0:=(Q0r r.A0 e).2,A9:=r.A9,C6:=r.C6++[{At:=(Q0r r.A0 e).2.A3,D6:=e}],A4:=r.A4}
    rw[b]
    refine⟨List.pairwise_append.2 ⟨h.pw,List.pairwise_singleton _ _,λx hx y hy=> ?_⟩,λx hx=> ?_,h.q,by show c0<=(Q0r r.A0 e).2.A3;rw[b];exact h.c⟩
    . rw[List.mem_singleton.1 hy]
      obtain⟨p1,p2,p3,p4⟩:=h.all x hx
      exact⟨p2,λkx=>⟨(p4 kx).1,λke=>absurd ke he.2⟩⟩
    . show c0<=x.At/\x.At<=(Q0r r.A0 e).2.A3/\_/\(_->x.At<(Q0r r.A0 e).2.A3/\_)
      rw[b]
      rcases List.mem_append.1 hx with hx|hx
      . exact h.all x hx
      . rw[List.mem_singleton.1 hx]
        exact⟨h.c,Int.le_refl _,he.1,λke=>absurd ke he.2⟩
theorem vN{P:Nat}{k c0:Int}{r:Q01}(h:Qjt c0 r)(g:Q8j P k r):Qjt c0 (Q3y r):=by
 rw[Qnz]
 cases Q7h r.A0.B1 r.A9
 . exact h
 . exact Zah h g Z52 U_0
theorem qO{P:Nat}{k c0:Int}{r:Q01}(h:Qjt c0 r)(g:Q8j P k r)(hs:Q17 r.A0=false)(hc:r.A9<4294967295):Qjt c0 (Qio r)/\(Qio r).A9=r.A9+1:=by
  obtain⟨_,b,_⟩:=Qfx g.m hs g.clock
  have c0':=g.clock.1
  have ec:IntKind.wrap .u32 (r.A9+1)=r.A9+1:=by rw[IntKind.wrap_u32];omega
  have old: ∀x∈r.C6,c0<=x.At/\x.At<=r.A0.A3+1/\Q2n x.D6=true/\(x.D6.B5=1->x.At<r.A0.A3+1/\x.D6.N<r.A9+1/\0<=x.D6.N):=λx hx=>by
    obtain⟨p1,p2,p3,p4⟩:=h.all x hx
    exact⟨p1,by omega,p3,λkx=>⟨by have:=(p4 kx).1;omega,by have:=(p4 kx).2.1;omega,(p4 kx).2.2⟩⟩
  have hcc:=h.c
  cases hr:Q1p r.A0
  . rw[Zev hr,ec]
    refine⟨⟨h.pw,?_,h.q,by show c0<=(Q0l r.A0 r.A9).2.A3;omega⟩,rfl⟩
    show∀x∈r.C6,c0<=x.At/\x.At<=(Q0l r.A0 r.A9).2.A3/\_/\(_->x.At<(Q0l r.A0 r.A9).2.A3/\_)
    rw[b];exact old
  . rw [Z11 hr,ec]
    refine⟨⟨List.pairwise_append.2 ⟨h.pw,List.pairwise_singleton _ _,λx hx y hy=> ?_⟩,?_,h.q,by show c0<=(Q0l r.A0 r.A9).2.A3;omega⟩,rfl⟩
    . rw[List.mem_singleton.1 hy]
      obtain⟨p1,p2,p3,p4⟩:=h.all x hx
      exact⟨p2,λkx=>⟨(p4 kx).1,λ_=>Int.le_of_lt (p4 kx).2.1⟩⟩
    . show∀x∈r.C6++[_],c0<=x.At/\x.At<=(Q0l r.A0 r.A9).2.A3/\_/\(_->x.At<(Q0l r.A0 r.A9).2.A3/\_)
      rw[b]
      intro x hx
      rcases List.mem_append.1 hx with hx|hx
      . exact old x hx
      . rw[List.mem_singleton.1 hx]
        exact⟨h.c,by show r.A0.A3<=_;omega,rfl,λ_=>⟨by show r.A0.A3<_;omega,by show r.A9<r.A9+1;omega,c0'⟩⟩
theorem Zhi(r:Q01):(Q3y r).A9=r.A9:=by
 rw[Qnz]
 cases Q7h r.A0.B1 r.A9
 . rfl
 . show(Q1v r Qq3).A9=r.A9
   unfold Q1v;cases(Q0r r.A0 Qq3).1<;>rfl
theorem Zb2(r:Q01)(e:Q0e):(Q1v r e).A9=r.A9:=by
 unfold Q1v;cases(Q0r r.A0 e).1<;>rfl
theorem xap{P:Nat}{c0:Int}(n:Nat): ∀{k B:Int} {r:Q01} {o:List Q02},Qjt c0 r->Q8j P k r->r.A9<=B->B+n<4294967295->Qjt c0 (recF n r o).1/\(recF n r o).1.A9<=B+n:=by
 induction n with
 |zero=>intro k B r o h g hb _;exact⟨h,by show r.A9<=B+(0:Nat);omega⟩
 | succ n ih=>
   intro k B r o h g hb hn
   have f:=vN h g
   obtain⟨gf,_⟩:=Qoo g
   have fc:=Zhi r
   cases hs:Q17 (Q3y r).A0
   . rw[Qus hs]
     obtain⟨t1,t2⟩:=qO f gf hs (by omega)
     have:=ih (o:=o++(Q0l (Q3y r).A0 (Q3y r).A9).1) t1 (Qp gf hs) (B:=B+1) (by omega) (by omega)
     exact⟨this.1,by have:=this.2;omega⟩
   . rw[Qui hs]
     exact⟨f,by show(Q3y r).A9<=_;omega⟩
theorem xO{P:Nat}{k c0:Int}(l:List Q0e): ∀{r:Q01},Qjt c0 r->Q8j P k r->(∀e∈l,evOK e/\U e.N)->Qjt c0 (l.foldl Q1v r)/\(l.foldl Q1v r).A9=r.A9/\Q8j P k (l.foldl Q1v r):=by
 induction l with
 |nil=>intro r h g _;exact⟨h,rfl,g⟩
 | cons e l ih=>
   intro r h g hu
   obtain⟨a,b⟩:=hu e (by simp)
   obtain⟨p,q,s⟩:=ih (Zah h g a b) (Ql4 g b).1 (λq hq=>hu q (by simp [hq]))
   exact⟨p,q.trans (Zb2 r e),s⟩
theorem qaq{P:Nat}{k c0 B:Int}{r:Q01}(h:Qjt c0 r)(g:Q8j P k r)(hq:okQ r.A4){steps clock:Int}(hb:r.A9<=B)(hc0:0<=clock)(hc:clock<=B)(hs:0<=steps/\steps<12)(hB:B<1000000000):Qjt c0 (advF r steps clock).1/\(advF r steps clock).1.A9<=B+12:=by
 rw[Z0y g.m.rmay,Qud hs.1 (by omega)]
 have m0:r.A9<=(if clock>r.A9 then clock else r.A9)/\(if clock>r.A9 then clock else r.A9)<=B:=by split<;>omega
 generalize(if clock>r.A9 then clock else r.A9)=cl at*
 have u:U cl:=by have:=g.clock;unfold U at*;omega
 obtain⟨a,b,c⟩:=xO r.A4 (r:={A0:=r.A0,A9:=cl,C6:=r.C6,A4:=r.A4}) (h.with rfl rfl m0.1 h.q) ⟨g.m,u,g.cnt⟩ (λe he=>⟨h.q e he,hq.2 e he⟩)
 have b:(r.A4.foldl Q1v {A0:=r.A0,A9:=cl,C6:=r.C6,A4:=r.A4}).A9=cl:=b
 generalize r.A4.foldl Q1v {A0:=r.A0,A9:=cl,C6:=r.C6,A4:=r.A4}=y at*
 have:=xap steps.toNat (o:=[]) (r:=noQ y) (B:=B) (a.with rfl rfl (Int.le_refl _) (λe he=>by cases he)) (k:=k) ⟨c.m,c.clock,c.cnt⟩ (by show y.A9<=B;omega) (by omega)
 exact⟨this.1,by have:=this.2;omega⟩
theorem zaq{c0:Int}{r:Q01}(h:Qjt c0 r){e:Q0e}(he:evOK e):Qjt c0 (Q2h r e).1/\(Q2h r e).1.A9=r.A9:=by
  rw[Qkh]
  cases Q2n e
  . exact⟨h,rfl⟩
  . cases e.B5==1
    . cases decide ((r.A4.length:Int)>=16)
      . refine⟨h.with rfl rfl (Int.le_refl _) λq hq=> ?_,rfl⟩
        have hq:q∈r.A4++[e]:=hq
        rcases List.mem_append.1 hq with hq|hq
        . exact h.q q hq
        . rw[List.mem_singleton.1 hq];exact he
      . exact⟨h,rfl⟩
    . exact⟨h,rfl⟩
structure logP(c0 k B:Int)(r:Q01):Prop where
 p:Qml 8 k r
 l:Qjt c0 r
 b:r.A9<=B
theorem zO{c0 k B:Int}{A:Q01×Bool}(p:Qml 8 k A.1)(a:Qjt c0 A.1)(b:A.1.A9<=B):logP c0 k B (A.1,([]:List Q02)).1:=⟨p,a,b⟩
theorem Qot{c0 k B:Int}{r:Q01}(h:logP c0 k B r)(h255:255<=B)(hB:B<1000000000)(n:Int):logP c0 (k+4000) (B+12) (Q37 r n).1:=by
 have p:=mstepP h.p n
 have hb:=h.b
 cases hm:Int.tmod (Q2u n 3) 3==0
 . have rr:=Qlh (n:=ishr .i64 (Q2u n 3) 4) (k:=12) (by decide) (by decide)
   have w:=Zez (ishr .i64 (Q2u n 3) 12)
   rw[Qsu hm,Qrc _ _ _ (by have:=h.p.q.1;omega)]at p⊢
   obtain⟨a,b⟩:=qaq h.l h.p.g h.p.q (steps:=Q49 (ishr .i64 (Q2u n 3) 4) 12) (clock:=IntKind.wrap .u32 (iand .i64 (ishr .i64 (Q2u n 3) 12) 255)) hb w.1 (by omega) rr hB
   exact⟨p,a,b⟩
 . have hb':r.A9<=B+12:=by omega
   obtain⟨a,b⟩:=zaq h.l (yN n)
   rw[Qtg hm]
   exact zO (A:=Q2h r (Q4a n)) ((arriveP h.p (vk n)).more (Int.le_add_of_nonneg_right (by decide))) a (Int.le_trans (Int.le_of_eq b) hb')
theorem zo{c0:Int}(l:List Int): ∀{k B:Int} {s:Q01×List Q02},logP c0 k B s.1->255<=B->B+12*l.length<1000000000->logP c0 (k+4000*l.length) (B+12*l.length) (l.foldl Qjg s).1:=by
 induction l with
 |nil=>intro k B s h _ _;simpa using h
 | cons n l ih=>
   intro k B s h h1 h2
   have e:((n::l).length:Int)=l.length+1:=by rw[List.length_cons];omega
   rw[e]at h2⊢
   have a:=Qot h h1 (by omega) n
   rw[<-Qo5]at a
   have:=ih a (by omega) (by omega)
   rw[List.foldl_cons,show k+4000*((l.length:Int)+1)=k+4000+4000*l.length by omega,show B+12*((l.length:Int)+1)=B+12+12*l.length by omega]
   exact this
theorem yO{m:Q00}(h:good 8 m)(hc:m.A3<=87):logP m.A3 87 255 {A0:=m,A9:=0,C6:=[],A4:=[]}:=
 ⟨newP h hc,⟨List.Pairwise.nil,(λe he=>by cases he),(λe he=>by cases he),Int.le_refl _⟩,by show(0:Int)<=255;decide⟩
inductive Qjr:Q00->List Q0w->List Q02->Q00->Prop
 |nil {m:Q00}:Qjr m [] [] m
 |ev {m n:Q00} {e:Q0e} {L:List Q0w} {o:List Q02}:True->e.B5≠1->U e.N->Qjr (Q0r m e).2 L o n->Qjr m ({At:=m.A3,D6:=e}::L) o n
 |rd {m n:Q00} {c:Int} {L:List Q0w} {o:List Q02}:Q17 m=false->Q1p m=true->U c->Qjr (Q0l m c).2 L o n->Qjr m ({At:=m.A3,D6:={B5:=1,N:=c,C8:=[]}}::L) ((Q0l m c).1++o) n
 |st {m n:Q00} {c:Int} {L:List Q0w} {o:List Q02}:Q17 m=false->Q1p m=false->U c->Qjr (Q0l m c).2 L o n->Qjr m L ((Q0l m c).1++o) n
theorem Qjr.trans{a b c:Q00}{L M:List Q0w}{o p:List Q02}(h:Qjr a L o b)(g:Qjr b M p c):Qjr a (L++M) (o++p) c:=by
 induction h with
 |nil=>exact g
 |ev h1 h2 h3 _ ih=>exact .ev h1 h2 h3 (ih g)
 |rd h1 h2 h3 _ ih=>rw[List.append_assoc];exact .rd h1 h2 h3 (ih g)
 |st h1 h2 h3 _ ih=>rw[List.append_assoc];exact .st h1 h2 h3 (ih g)
theorem Qjr.good{P:Nat}{a b:Q00}{L:List Q0w}{o:List Q02}(h:Qjr a L o b):good P a->good P b/\a.A3<=b.A3/\ ∀e∈L,a.A3<=e.At:=by
 induction h with
 |nil=>exact λg=>⟨g,Int.le_refl _,λe he=>by cases he⟩
 | ev h1 h2 h3 _ ih=>
   intro g
   obtain⟨g1,c1⟩:=Qov g h3
   obtain⟨p,q,r⟩:=ih g1
   rw[c1]at q r
   exact⟨p,q,λe he=>(List.mem_cons.1 he).elim (λh=>by rw[h];exact Int.le_refl _) (λh=>r e h)⟩
 | rd h1 h2 h3 _ ih=>
   intro g
   obtain⟨g1,c1,_⟩:=Qfx g h1 h3
   obtain⟨p,q,r⟩:=ih g1
   rw[c1]at q r
   exact⟨p,by omega,λe he=>(List.mem_cons.1 he).elim (λh=>by rw[h];exact Int.le_refl _) (λh=>by have:=r e h;omega)⟩
 | st h1 h2 h3 _ ih=>
   intro g
   obtain⟨g1,c1,_⟩:=Qfx g h1 h3
   obtain⟨p,q,r⟩:=ih g1
   rw[c1]at q r
   exact⟨p,by omega,λe he=>by have:=r e he;omega⟩
def Q6m(r x:Q01)(o:List Q02):Prop:= ∃L,x.C6=r.C6++L/\Qjr r.A0 L o x.A0
theorem Q6m.rfl{r:Q01}:Q6m r r []:=⟨[],(List.append_nil _).symm, .nil⟩
theorem Q6m.trans{a b c:Q01}{o p:List Q02}(h:Q6m a b o)(g:Q6m b c p):Q6m a c (o++p):=by
 obtain⟨L,l1,l2⟩:=h
 obtain⟨M,m1,m2⟩:=g
 exact⟨L++M,by rw[m1,l1,List.append_assoc],l2.trans m2⟩
theorem Q6m.trans0{a b c:Q01}{p:List Q02}(h:Q6m a b [])(g:Q6m b c p):Q6m a c p:=h.trans g
theorem Zhz{P:Nat}{k:Int}{r:Q01}(g:Q8j P k r){e:Q0e}(he:evOK e)(hu:U e.N):Q6m r (Q1v r e) []:=by
 obtain⟨_,b⟩:=Qov g.m hu
 cases ha:(Q0r r.A0 e).1
 . rw[Z15 ha];exact Q6m.rfl
 . unfold Q1v
   rw[ha]
   refine⟨[{At:=r.A0.A3,D6:=e}],?_, .ev trivial he.2 hu .nil⟩
   show r.C6++[{At:=(Q0r r.A0 e).2.A3,D6:=e}]=_
   rw[b]
theorem xaq{P:Nat}{k:Int}{r:Q01}(g:Q8j P k r):Q6m r (Q3y r) []:=by
 rw[Qnz]
 cases Q7h r.A0.B1 r.A9
 . exact Q6m.rfl
 . exact Zhz g Z52 U_0
theorem qar{P:Nat}{k:Int}{r:Q01}(g:Q8j P k r)(hs:Q17 r.A0=false):Q6m r (Qio r) (Q0l r.A0 r.A9).1:=by
 cases hr:Q1p r.A0
 . rw[Zev hr]
   refine⟨[],(List.append_nil _).symm,?_⟩
   have:=Qjr.st (L:=[]) (o:=[]) hs hr g.clock .nil
   rw[List.append_nil]at this;exact this
 . rw[Z11 hr]
   refine⟨[{At:=r.A0.A3,D6:={B5:=1,N:=r.A9,C8:=[]}}],_root_.rfl,?_⟩
   have:=Qjr.rd (L:=[]) (o:=[]) hs hr g.clock .nil
   rw[List.append_nil]at this;exact this
theorem zaL{P:Nat}(n:Nat): ∀{k:Int} {r:Q01},Q8j P k r->Q6m r (recF n r []).1 (recF n r []).2:=by
 induction n with
 |zero=>intro k r _;exact Q6m.rfl
 | succ n ih=>
   intro k r g
   obtain⟨gf,_⟩:=Qoo g
   have f:=xaq g
   cases hs:Q17 (Q3y r).A0
   . rw[Qus hs,xM,List.nil_append]
     exact f.trans0 ((qar gf hs).trans (ih (Qp gf hs)))
   . rw[Qui hs];exact f
theorem zar{P:Nat}{k:Int}(l:List Q0e): ∀{r:Q01},Q8j P k r->(∀e∈l,evOK e/\U e.N)->Q6m r (l.foldl Q1v r) []:=by
 induction l with
 |nil=>intro r _ _;exact Q6m.rfl
 | cons e l ih=>
   intro r g hu
   obtain⟨a,b⟩:=hu e (by simp)
   exact(Zhz g a b).trans0 (ih (Ql4 g b).1 (λq hq=>hu q (by simp [hq])))
theorem xaL{P:Nat}{k:Int}{r:Q01}(g:Q8j P k r)(hq:okQ r.A4)(he: ∀e∈r.A4,evOK e)(steps:Int){clock:Int}(hc:U clock):Q6m r (advF r steps clock).1 (advF r steps clock).2:=by
 rw[Z0y g.m.rmay]
 have s:=Qv g hq hc
 have u:U (if clock>r.A9 then clock else r.A9):=by split<;>first|exact hc|exact g.clock
 have f:=zar r.A4 (r:={A0:=r.A0,A9:=if clock>r.A9 then clock else r.A9,C6:=r.C6,A4:=r.A4}) (k:=k) ⟨g.m,u,g.cnt⟩ (λe h=>⟨he e h,hq.2 e h⟩)
 generalize r.A4.foldl Q1v {A0:=r.A0,A9:=if clock>r.A9 then clock else r.A9,C6:=r.C6,A4:=r.A4}=y at*
 have f:Q6m r (noQ y) []:=f
 exact f.trans0 (zaL _ s)
theorem qaM(r:Q01)(e:Q0e):Q6m r (Q2h r e).1 []:=by
 rw[Qkh]
 cases Q2n e<;>cases e.B5==1<;>cases decide ((r.A4.length:Int)>=16)<;>exact Q6m.rfl
theorem ev_on{r:Q01}{A:Q01×Bool}(h:Q6m r A.1 []):Q6m r (A.1,([]:List Q02)).1 (A.1,([]:List Q02)).2:=h
theorem vO{c0 k B:Int}{r:Q01}(h:logP c0 k B r)(n:Int):Q6m r (Q37 r n).1 (Q37 r n).2:=by
 cases hm:Int.tmod (Q2u n 3) 3==0
 . rw[Qsu hm,Qrc _ _ _ (by have:=h.p.q.1;omega)]
   exact xaL h.p.g h.p.q h.l.q _ (Q0q _)
 . rw[Qtg hm]
   exact ev_on (A:=Q2h r (Q4a n)) (qaM _ _)
theorem xar{c0:Int}(l:List Int): ∀{k B:Int} {s:Q01×List Q02},logP c0 k B s.1->255<=B->B+12*l.length<1000000000-> ∃o,(l.foldl Qjg s).2=s.2++o/\Q6m s.1 (l.foldl Qjg s).1 o:=by
 induction l with
 |nil=>intro k B s _ _ _;exact⟨[],(List.append_nil _).symm,Q6m.rfl⟩
 | cons n l ih=>
   intro k B s h h1 h2
   rw[List.length_cons]at h2
   have a:=Qot h h1 (by omega) n
   have b:=vO h n
   rw[<-Qo5]at a b
   obtain⟨o,o1,o2⟩:=ih a (by omega) (by omega)
   refine⟨(Q37 s.1 n).2++o,?_,b.trans o2⟩
   rw[List.foldl_cons,o1,Zc7,List.append_assoc]
def arm(r:Q01):Nat:=if r.A0.B1.D4 then 1 else 0
theorem yX(r:Q01):arm r<=1:=by unfold arm;split<;>omega
theorem Zh(m:Q00)(e:Q0e):(Q0r m e).2.B1=m.B1\/(Q0r m e).2.B1=(Q61 m.B1).1:=by
 show Tree.V (Q3x m e) (λx=>x.2.B1=m.B1\/x.2.B1=(Q61 m.B1).1)
 unfold Q3x
 repeat'(first
   |exact v_lf (.inl rfl)
   |exact v_lv λx hx=>v_lf (.inr (by rw[hx]))
   |exact v_lv λx hx=>v_lf (.inl rfl)
   |exact v_an (v_lv λx hx=>v_lf (.inl rfl))
   |refine v_br (λ_=> ?_) (λ_=> ?_))
theorem qP(t:Q0f):(Q61 t).1.D4=true->t.D4=true:=by
 show Tree.V (Q94 t) (λr=>r.1.D4=true->t.D4=true)
 unfold Q94
 exact v_br (λ_=>v_lf λh=>h) (λ_=>v_lf λh=>by cases h)
theorem vo(r:Q01)(e:Q0e):(Q1v r e).C6.length+arm (Q1v r e)<=r.C6.length+arm r+1:=by
  have l:=Qp0 r e
  cases ha:(Q0r r.A0 e).1
  . rw[Z15 ha];omega
  . have h:arm (Q1v r e)<=arm r:=by
      unfold arm Q1v
      rw[ha]
      show(if(Q0r r.A0 e).2.B1.D4=true then 1 else 0)<=_
      rcases Zh r.A0 e with t|t
      . rw[t];exact Nat.le_refl _
      . rw[t]
        split
        . rename_i q;rw[if_pos (qP _ q)];exact Nat.le_refl _
        . exact Nat.zero_le _
    omega
theorem xP(r:Q01):(Q3y r).C6.length+arm (Q3y r)<=r.C6.length+arm r:=by
  cases hd:Q7h r.A0.B1 r.A9
  . rw[vm hd];exact Nat.le_refl _
  . have e:Q3y r=Q1v r Qq3:=by rw[Qnz,hd];rfl
    rw[e]
    cases ha:(Q0r r.A0 Qq3).1
    . rw[Z15 ha];exact Nat.le_refl _
    . have a1:arm r=1:=by
        unfold arm
        refine if_pos ?_
        cases h:r.A0.B1.D4
        . rw[ym h]at hd;cases hd
        . rfl
      have l:=Qp0 r Qq3
      have a0:arm (Q1v r Qq3)=0:=by
        unfold arm Q1v
        rw[ha]
        refine if_neg ?_
        show¬(Q0r r.A0 Qq3).2.B1.D4=true
        rw[Zgo]at ha⊢
        cases hh:r.A0.A7
        . rw[hh]at ha
          have:=zm _ ha
          show¬(Q61 r.A0.B1).1.D4=true
          rw[this];decide
        . rw[hh]at ha;cases ha
      omega
theorem Zfw{P:Nat}{m:Q00}(g:good P m)(hr:Q1p m=true)(clock:Int):(Q0l m clock).2.B1=m.B1:=by
 have rd:Q1p m=bif Q17 m then false else Qgs m:=rfl
 rw[rd]at hr
 cases hs:Q17 m
 . rw[hs]at hr
   have hr:Qgs m=true:=hr
   obtain⟨g1,g2,g3,g4,g5⟩:=(Qv8 m).1 g.may
   obtain⟨b1,b2,b3,_⟩:=(Tree.pp (Z1z g.s g2)).2
   change Q6j (Q0y m).B3 at b1
   change okS P (Q0y m) at b2
   have be:=Z6k g.v g2.st
   have b1':Q6j (Q0m m):=by have:=b1;rw[be]at this;exact this
   have b2':Q2e (Q0m m):=by have:=b2.cpu;rw[be]at this;exact this
   rw[yl,<-qM g.ok.mem b2' b1'.st]at hr
   rw[xk]
   generalize Q6f (Q0m m) m.Mem=D at*
   unfold ioP at hr
   unfold finR
   cases hk:D.2.1.B5==1
   . rw[hk]at hr;cases hr
   . rw[hk]at hr
     have hp:D.2.1.D3=2:=eq_of_beq hr
     rw[hp];rfl
 . rw[hs]at hr;cases hr
theorem zP{P:Nat}{k:Int}{r:Q01}(g:Q8j P k r):(Qio r).C6.length+arm (Qio r)<=r.C6.length+arm r+1:=by
 cases hr:Q1p r.A0
 . have:=yX (Qio r)
   have e:(Qio r).C6=r.C6:=by rw[Zev hr]
   rw[e];omega
 . have l:=Zbz r
   have e:arm (Qio r)=arm r:=by
     unfold arm
     rw[Z11 hr]
     show(if(Q0l r.A0 r.A9).2.B1.D4=true then 1 else 0)=_
     rw[Zfw g.m hr]
   omega
theorem qas{P:Nat}(n:Nat): ∀{k:Int} {r:Q01} {o:List Q02},Q8j P k r->(recF n r o).1.C6.length+arm (recF n r o).1<=r.C6.length+arm r+n:=by
 induction n with
 |zero=>intro k r o _;exact Nat.le_refl _
 | succ n ih=>
   intro k r o g
   obtain⟨gf,_⟩:=Qoo g
   have f:=xP r
   cases hs:Q17 (Q3y r).A0
   . rw[Qus hs]
     have a:=ih (o:=o++(Q0l (Q3y r).A0 (Q3y r).A9).1) (Qp gf hs)
     have b:=zP gf
     omega
   . rw[Qui hs]
     show(Q3y r).C6.length+arm (Q3y r)<=_
     omega
theorem yP(l:List Q0e): ∀r:Q01,(l.foldl Q1v r).C6.length+arm (l.foldl Q1v r)<=r.C6.length+arm r+l.length:=by
 induction l with
 |nil=>intro r;exact Nat.le_refl _
 | cons e l ih=>
   intro r
   have a:=ih (Q1v r e)
   have b:=vo r e
   rw[List.foldl_cons,List.length_cons];omega
def cntR(r:Q01):Nat:=r.C6.length+arm r+r.A4.length
theorem zas{P:Nat}{k:Int}{r:Q01}(g:Q8j P k r)(hq:okQ r.A4){steps clock:Int}(hc:U clock)(hs:0<=steps/\steps<12):cntR (advF r steps clock).1<=cntR r+11:=by
 have s:=Qv g hq hc
 have f:=yP r.A4 {A0:=r.A0,A9:=if clock>r.A9 then clock else r.A9,C6:=r.C6,A4:=r.A4}
 rw[Z0y g.m.rmay,Qud hs.1 (by omega)]
 generalize r.A4.foldl Q1v {A0:=r.A0,A9:=if clock>r.A9 then clock else r.A9,C6:=r.C6,A4:=r.A4}=y at*
 have q:(recF steps.toNat (noQ y) []).1.A4=[]:=Z6h _ _ _
 have c:=qas steps.toNat (o:=[]) s
 have e:arm (noQ y)=arm y:=rfl
 have e1:(noQ y).C6=y.C6:=rfl
 have e2:arm {A0:=r.A0,A9:=if clock>r.A9 then clock else r.A9,C6:=r.C6,A4:=r.A4}=arm r:=rfl
 rw[e,e1]at c
 rw[e2]at f
 have f:y.C6.length+arm y<=r.C6.length+arm r+r.A4.length:=f
 unfold cntR
 rw[q]
 show _+_+0<=_
 omega
theorem qp{P:Nat}{k:Int}{r:Q01}(g:Q8j P k r)(hq:okQ r.A4){steps clock:Int}(hc:U clock)(hs:0<=steps/\steps<12):(advF r steps clock).1.A0.A3<=r.A0.A3+11:=by
 have s:=Qv (k:=r.A0.A3) ⟨g.m,g.clock,Int.le_refl _⟩ hq hc
 rw[Z0y g.m.rmay,Qud hs.1 (by omega)]
 have:=(Zc1 steps.toNat (o:=[]) s).cnt
 omega
theorem Zgw{c0 k B:Int}{r:Q01}(h:logP c0 k B r)(n:Int):(Q37 r n).1.A0.A3<=r.A0.A3+11:=by
 cases hm:Int.tmod (Q2u n 3) 3==0
 . rw[Qsu hm,Qrc _ _ _ (by have:=h.p.q.1;omega)]
   exact qp h.p.g h.p.q (Q0q _) (Qlh (n:=ishr .i64 (Q2u n 3) 4) (k:=12) (by decide) (by decide))
 . rw[Qtg hm,Qkh]
   have z:r.A0.A3<=r.A0.A3+11:=by omega
   cases Q2n (Q4a n)<;>cases(Q4a n).B5==1<;>cases decide ((r.A4.length:Int)>=16)<;>exact z
theorem Zl4{c0:Int}(l:List Int): ∀{k B:Int} {s:Q01×List Q02},logP c0 k B s.1->255<=B->B+12*l.length<1000000000->(l.foldl Qjg s).1.A0.A3<=s.1.A0.A3+11*l.length:=by
 induction l with
 |nil=>intro k B s _ _ _;show s.1.A0.A3<=s.1.A0.A3+11*((0:Nat):Int);omega
 | cons n l ih=>
   intro k B s h h1 h2
   rw[List.length_cons]at h2
   have a:=Qot h h1 (by omega) n
   have b:=Zgw h n
   rw[<-Qo5]at a b
   have:=ih a (by omega) (by omega)
   rw[List.foldl_cons,List.length_cons];omega
theorem xp{c0 k B:Int}{r:Q01}(h:logP c0 k B r)(n:Int):cntR (Q37 r n).1<=cntR r+11:=by
 cases hm:Int.tmod (Q2u n 3) 3==0
 . rw[Qsu hm,Qrc _ _ _ (by have:=h.p.q.1;omega)]
   exact zas h.p.g h.p.q (Q0q _) (Qlh (n:=ishr .i64 (Q2u n 3) 4) (k:=12) (by decide) (by decide))
 . rw[Qtg hm,Qkh]
   have:cntR {A0:=r.A0,A9:=r.A9,C6:=r.C6,A4:=r.A4++[Q4a n]}=cntR r+1:=by
     show r.C6.length+arm r+(r.A4++[_]).length=r.C6.length+arm r+r.A4.length+1
     rw[List.length_append,List.length_singleton];omega
   cases Q2n (Q4a n)<;>cases(Q4a n).B5==1<;>cases decide ((r.A4.length:Int)>=16)<;>first|exact Nat.le_add_right _ _|(show cntR {A0:=r.A0,A9:=r.A9,C6:=r.C6,A4:=r.A4++[Q4a n]}<=_;omega)
theorem vP{c0:Int}(l:List Int): ∀{k B:Int} {s:Q01×List Q02},logP c0 k B s.1->255<=B->B+12*l.length<1000000000->cntR (l.foldl Qjg s).1<=cntR s.1+11*l.length:=by
 induction l with
 |nil=>intro k B s _ _ _;exact Nat.le_refl _
 | cons n l ih=>
   intro k B s h h1 h2
   rw[List.length_cons]at h2
   have a:=Qot h h1 (by omega) n
   have b:=xp h n
   rw[<-Qo5]at a b
   have:=ih a (by omega) (by omega)
   rw[List.foldl_cons,List.length_cons];omega
theorem zp{P:Nat}{a b:Q00}{L:List Q0w}{o:List Q02}(h:Qjr a L o b):good P a->(o.length:Int)<=b.A3-a.A3:=by
 induction h with
 |nil=>intro _;show((0:Nat):Int)<=_;omega
 | ev h1 h2 h3 h4 ih=>
   intro g
   obtain⟨g1,c1⟩:=Qov g h3
   have:=ih g1
   omega
 | rd h1 h2 h3 h4 ih=>
   intro g
   obtain⟨g1,c1,o1⟩:=Qfx g h1 h3
   have:=ih g1
   rw[List.length_append];omega
 | st h1 h2 h3 h4 ih=>
   intro g
   obtain⟨g1,c1,o1⟩:=Qfx g h1 h3
   have:=ih g1
   rw[List.length_append];omega
structure recOf(m:Q00)(x:Q01×List Q02):Prop where
 len:x.1.C6.length<=400
 tr:Qjr m x.1.C6 x.2 x.1.A0
 outs:x.2.length<=330
 lo:m.A3<=x.1.A0.A3
 hi:x.1.A0.A3<=m.A3+330
 pw:x.1.C6.Pairwise λa b=>a.At<=b.At/\(a.D6.B5=1->a.At<b.At/\(b.D6.B5=1->a.D6.N<=b.D6.N))
 good:good 8 x.1.A0
theorem recorded{m:Q00}{acts:List Int}{x:Q01×List Q02}(a:good 8 m)(b:m.A3<=87)(f2:acts.length<=30)(hx:x=acts.foldl Qjg ({A0:=m,A9:=0,C6:=[],A4:=[]},[])):recOf m x:=by
 have s0:=yO a b
 have lp:=zo acts (s:=({A0:=m,A9:=0,C6:=[],A4:=[]},[])) s0 (Int.le_refl _) (by omega)
 have ct:=vP acts (s:=({A0:=m,A9:=0,C6:=[],A4:=[]},[])) s0 (Int.le_refl _) (by omega)
 obtain⟨o,on1,L,on2,on3⟩:=xar acts (s:=({A0:=m,A9:=0,C6:=[],A4:=[]},[])) s0 (Int.le_refl _) (by omega)
 have sp:=Zl4 acts (s:=({A0:=m,A9:=0,C6:=[],A4:=[]},[])) s0 (Int.le_refl _) (by omega)
 rw[<-hx]at lp ct on1 on2 on3 sp
 have on1:x.2=o:=on1
 have on2:x.1.C6=L:=on2
 have on3:Qjr m L o x.1.A0:=on3
 rw[<-on1,<-on2]at on3
 have sp:x.1.A0.A3<=m.A3+11*acts.length:=sp
 have hlen:x.1.C6.length<=400:=by
   have c0:cntR ({A0:=m,A9:=0,C6:=[],A4:=[]}:Q01)<=1:=by
     have:=yX {A0:=m,A9:=0,C6:=[],A4:=[]}
     show 0+arm {A0:=m,A9:=0,C6:=[],A4:=[]}+0<=1
     omega
   have ct:cntR x.1<=cntR ({A0:=m,A9:=0,C6:=[],A4:=[]}:Q01)+11*acts.length:=ct
   unfold cntR at ct c0
   omega
 have ol:=zp on3 a
 obtain⟨gb,cb,_⟩:=on3.good a
 exact⟨hlen,on3,by omega,cb,by omega,lp.l.pw,gb⟩
abbrev SeeS:=List (List UInt8)×List (List UInt8)×List Int
def seeS(s:SeeS)(z:Q02):SeeS:=
 bif z.B5==1 then(s.1,s.2.1,s.2.2++Q4l z.C8) else bif z.B5==2 then(s.1++[z.C8],s.2.1,s.2.2) else bif z.B5==4 then bif decide (z.B6<(s.2.1.length:Int)) then(s.1,s.2.1.set z.B6.toNat z.C8,s.2.2) else s else s
def Quq(s:SeeS):Q0o:={A1:=bytesOf s.2.2,B9:=s.1,B0:=s.2.1}
theorem Z03(s:SeeS)(z:Q02):(seeS s z).2.1.length=s.2.1.length:=by
 unfold seeS
 cases z.B5==1<;>cases z.B5==2<;>cases z.B5==4<;>cases decide (z.B6<(s.2.1.length:Int))<;>simp
theorem Qqg(s:SeeS)(z:Q02):(seeS s z).1.length<=s.1.length+1:=by
 unfold seeS
 cases z.B5==1<;>cases z.B5==2<;>cases z.B5==4<;>cases decide (z.B6<(s.2.1.length:Int))<;>simp
theorem Ql6(l:List UInt8):(Q4l l).length=l.length:=by simp [Q4l]
theorem Z9a(s:SeeS)(z:Q02):(seeS s z).2.2.length<=s.2.2.length+z.C8.length:=by
 unfold seeS
 cases z.B5==1<;>cases z.B5==2<;>cases z.B5==4<;>cases decide (z.B6<(s.2.1.length:Int))<;>simp [Ql6]
theorem takeS{α β:Type}(f:β->α->β)(b:β)(l:List α)(i:Nat)(h:i<l.length):(l.take (i+1)).foldl f b=f ((l.take i).foldl f b) l[i]:=by
 rw[List.take_succ_eq_append_getElem h,List.foldl_append];rfl
theorem yp{disk:List (List UInt8)}{l:List Q02}(hd:disk.length<=100000)(hl:l.length<=100000)(hz: ∀z∈l,U z.B6/\z.C8.length<=1000):
    (Qd3 disk l).w (λv=>v=Quq (l.foldl seeS ([],disk,[]))):=by
  unfold Qd3
  refine w_an (show disk.length<=1000000000000 by omega) (w_lv λx0 h0=> ?_)
  have h0:x0=disk:=h0
  rw[h0]
  refine w_lp (inv:=λv:Int×Q0o×List Int=>0<=v.1/\v.1<=l.length/\ ∃S:SeeS,S=(l.take v.1.toNat).foldl seeS ([],disk,[])/\v.2.1={A1:=[],B9:=S.1,B0:=S.2.1}/\v.2.2=S.2.2/\(S.1.length:Int)<=v.1/\S.2.1.length=disk.length/\(S.2.2.length:Int)<=1000*v.1) (μ:=Qpp disk l)
    ⟨Int.le_refl 0,by show(0:Int)<=_;omega,([],disk,[]),rfl,rfl,rfl,Int.le_refl _,rfl,by show((0:Nat):Int)<=1000*0;omega⟩ (Nat.lt_succ_self _) λv ⟨v1,v2,S,s1,s2,s3,s4,s5,s6⟩=> ?_
  obtain⟨i,V,con⟩:=v
  have v1:0<=i:=v1
  have v2:i<=l.length:=v2
  have s1:S=(l.take i.toNat).foldl seeS ([],disk,[]):=s1
  have s2:V={A1:=[],B9:=S.1,B0:=S.2.1}:=s2
  have s3:con=S.2.2:=s3
  have s4:(S.1.length:Int)<=i:=s4
  have s6:(S.2.2.length:Int)<=1000*i:=s6
  subst s2
  subst s3
  have ew:IntKind.i64.wrap (i+1)=i+1:=by rw[IntKind.wrap_i64];omega
  refine w_br (λhb=> ?_) λhb=> ?_
  . have hi:i<l.length:=of_decide_eq_true hb
    have hlt:i.toNat<l.length:=by omega
    have cc:(Nat.beq 4 4&&Nat.blt 0 4&&decide (0<=i/\i<((l.length:Nat):Int)))=true:=by simp [Nat.blt];omega
    have eg:l.getD i.toNat (RK.dflt RK.apiOutput)=l[i.toNat]:=by rw[List.getD_eq_getElem?_getD,List.getElem?_eq_getElem hlt];rfl
    obtain⟨z1,z2⟩:=hz (l.getD i.toNat (RK.dflt RK.apiOutput)) (by rw[eg];exact List.getElem_mem hlt)
    have tk:=takeS seeS ([],disk,[]) l i.toNat hlt
    rw[<-s1,<-eg]at tk
    have nx: ∀S':SeeS,S'=seeS S (l.getD i.toNat (RK.dflt RK.apiOutput))->(0<=IntKind.i64.wrap (i+1)/\IntKind.i64.wrap (i+1)<=l.length/\ ∃S:SeeS,S=(l.take (IntKind.i64.wrap (i+1)).toNat).foldl seeS ([],disk,[])/\({A1:=[],B9:=S'.1,B0:=S'.2.1}:Q0o)={A1:=[],B9:=S.1,B0:=S.2.1}/\S'.2.2=S.2.2/\(S.1.length:Int)<=IntKind.i64.wrap (i+1)/\S.2.1.length=disk.length/\(S.2.2.length:Int)<=1000*IntKind.i64.wrap (i+1))/\(l.length-IntKind.i64.wrap (i+1)).toNat<(l.length-i).toNat:=by
      intro S' hS
      have f1:=Qqg S (l.getD i.toNat (RK.dflt RK.apiOutput))
      have f2:=Z03 S (l.getD i.toNat (RK.dflt RK.apiOutput))
      have f3:=Z9a S (l.getD i.toNat (RK.dflt RK.apiOutput))
      rw[<-hS]at f1 f2 f3 tk
      rw[ew,show(i+1).toNat=i.toNat+1 by omega]
      exact⟨⟨by omega,by omega,S',tk.symm,rfl,rfl,by omega,by omega,by omega⟩,by omega⟩
    refine w_cn cc ?_
    dsimp only
    refine w_br (λh1=> ?_) λh1=>w_br (λh2=>w_cn (decide_eq_true (by omega)) (w_nx ?_)) λh2=>w_br (λh4=>w_br (λhbk=> ?_) λhbk=>w_nx ?_) λh4=>w_nx ?_
    . refine w_an (show(Q1o S.2.2 (l.getD i.toNat (RK.dflt RK.apiOutput)).C8).p from w_lv λx hx=>w_cn (decide_eq_true ?_) trivial) (w_lv λx hx=>w_nx ?_)
      . have hx:x=S.2.2:=hx
        rw[hx,Ql6];omega
      . have hx:x=((((l.getD i.toNat (RK.dflt RK.apiOutput)).C8.length:Nat):Int),(),S.2.2++Q4l (l.getD i.toNat (RK.dflt RK.apiOutput)).C8):=hx
        rw[hx]
        exact nx (S.1,S.2.1,S.2.2++Q4l (l.getD i.toNat (RK.dflt RK.apiOutput)).C8) (by unfold seeS;rw[h1];rfl)
    . exact nx (S.1++[(l.getD i.toNat (RK.dflt RK.apiOutput)).C8],S.2.1,S.2.2) (by unfold seeS;rw[h1,h2];rfl)
    . have hbk:=of_decide_eq_true hbk
      rw[IntKind.wrap_u64,IntKind.wrap_u64]at hbk
      obtain⟨u1,u2⟩:=z1
      have hb:(l.getD i.toNat (RK.dflt RK.apiOutput)).B6<(S.2.1.length:Int):=by omega
      refine w_cn (by rw[decide_eq_true ⟨u1,hb⟩];rfl) (w_nx (nx (S.1,S.2.1.set (l.getD i.toNat (RK.dflt RK.apiOutput)).B6.toNat (l.getD i.toNat (RK.dflt RK.apiOutput)).C8,S.2.2) ?_))
      unfold seeS;rw[h1,h2,h4,decide_eq_true hb];rfl
    . have hbk:=of_decide_eq_false hbk
      rw[IntKind.wrap_u64,IntKind.wrap_u64]at hbk
      obtain⟨u1,u2⟩:=z1
      have hb: ¬(l.getD i.toNat (RK.dflt RK.apiOutput)).B6<(S.2.1.length:Int):=by omega
      exact nx S (by unfold seeS;rw[h1,h2,h4,decide_eq_false hb];rfl)
    . exact nx S (by unfold seeS;rw[h1,h2,h4];rfl)
  . have hi: ¬i<l.length:=of_decide_eq_false hb
    refine w_lv λx hx=> ?_
    have hx:x=(bytesOf S.2.2,S.2.2):=hx
    show({A1:=x.1,B9:=S.1,B0:=S.2.1}:Q0o)=_
    rw[hx,<-List.take_of_length_le (l:=l) (i:=i.toNat) (by omega),<-s1];rfl
theorem Zgt(a b:List Int):bytesOf (a++b)=bytesOf a++bytesOf b:=by simp [bytesOf]
def outZ(z:Q02):Prop:=U z.B6/\z.C8.length<=1000
theorem Z5t(m:List Int)(frame:Int):(Qf1 m frame).1.length<=128:=by
 show Tree.V (Q6d m frame) (λr=>r.1.length<=128)
 unfold Q6d
 refine v_br (λ_=>v_lf (Nat.zero_le _)) λ_=>v_lv λx0 _=>v_br (λ_=>v_lf (Nat.zero_le _)) λ_=> ?_
 refine v_lp (inv:=λz:Int×List Int=>0<=z.1/\z.1<=32/\(z.2.length:Int)=4*z.1) (μ:=Qbp m frame) ⟨Int.le_refl 0,by show(0:Int)<=32;decide,rfl⟩ (Nat.lt_succ_self _) λz ⟨z1,z2,z3⟩=>v_br (λhb=> ?_) λhb=> ?_
 . have hb:=of_decide_eq_true hb
   refine v_cn (v_an (v_lv λx1 h1=>v_cn (v_nx ?_)))
   have h4:x1.length=4:=by rw[h1];exact Tree.post _ (low_w _)
   show(0<=IntKind.i64.wrap (z.1+1)/\IntKind.i64.wrap (z.1+1)<=32/\((z.2++Q4l x1).length:Int)=4*IntKind.i64.wrap (z.1+1))/\(32-IntKind.i64.wrap (z.1+1)).toNat<(32-z.1).toNat
   have ew:IntKind.i64.wrap (z.1+1)=z.1+1:=by rw[IntKind.wrap_i64];omega
   rw[ew,List.length_append,Qjq,h4]
   exact⟨⟨by omega,by omega,by omega⟩,by omega⟩
 . have hb:=of_decide_eq_false hb
   refine v_lf ?_
   show(bytesOf z.2).length<=128
   rw[Q90];omega
theorem req_z{d:Q0d}{at0:Int}(h1:U d.B8)(h2:d.C5.length<=1000):outZ (Qep d at0).1:=by
 show Tree.V (Qdz d at0) (λr=>outZ r.1)
 unfold Qdz
 exact v_br (λ_=>v_lf ⟨U_0,Nat.zero_le _⟩) λ_=>v_br (λ_=>v_lf ⟨h1,Nat.zero_le _⟩) λ_=>v_br (λ_=>v_lf ⟨h1,h2⟩) λ_=>v_lf ⟨U_0,Nat.zero_le _⟩
theorem zaM(d:Q0d)(m:List Int)(port v at0:Int)(hd:U d.B6): ∀z∈(Qbi d m port v at0).2,outZ z:=by
 show Tree.V (Q4u d m port v at0) (λr=> ∀z∈r.2,outZ z)
 unfold Q4u
 repeat'(first
   |exact v_lf (λz hz=>absurd hz List.not_mem_nil)
   |exact v_lv λx hx=>v_lf (λz hz=>by rw[List.mem_singleton.1 hz,hx];exact req_z hd (Nat.zero_le _))
   |exact v_an (v_lv λy hy=>v_lv λx hx=>v_lf (λz hz=>by rw[List.mem_singleton.1 hz,hx];exact req_z hd (by show y.1.length<=1000;rw[hy];exact Nat.le_trans (Z5t _ _) (by decide))))
   |refine v_br (λ_=> ?_) (λ_=> ?_)
   |refine v_lv λ_ _=> ?_)
theorem nic_z(n:Q0p)(m:List Int)(port v at0:Int): ∀z∈(Qd6 n m port v at0).2,outZ z:=by
  show Tree.V (Q64 n m port v at0) (λr=> ∀z∈r.2,outZ z)
  unfold Q64
  repeat'(first
    |exact v_lf (λz hz=>absurd hz List.not_mem_nil)
    |exact v_an (v_lv λy hy=>v_cn (v_lf (λz hz=>by
        rw[List.mem_singleton.1 hz]
        refine⟨U_0,?_⟩
        have:=Z5t m (IntKind.wrap .i64 n.B4)
        rw[<-hy]at this
        show(List.take _ (List.drop _ y.1)).length<=1000
        rw[List.length_take,List.length_drop];omega)))
    |refine v_br (λ_=> ?_) (λ_=> ?_)
    |refine v_lv λ_ _=> ?_)
theorem out_z(m:Q00)(port v:Int)(hd:U m.B0.B6): ∀z∈(Q8i m port v).1,outZ z:=by
 show Tree.V (Qa1 m port v) (λr=> ∀z∈r.1,outZ z)
 unfold Qa1
 repeat'(first
   |exact v_lf (λz hz=>absurd hz List.not_mem_nil)
   |exact v_lf (λz hz=>by rw[List.mem_singleton.1 hz];exact⟨U_0,by show 1<=1000;decide⟩)
   |exact v_lv λx hx=>v_lf (λz hz=>absurd hz List.not_mem_nil)
   |exact v_an (v_lv λx hx=>v_lf (λz hz=>absurd hz List.not_mem_nil))
   |exact v_an (v_lv λx hx=>v_lf (by rw[hx];exact zaM _ _ _ _ _ hd))
   |exact v_an (v_lv λx hx=>v_lf (by rw[hx];exact nic_z _ _ _ _ _))
   |refine v_br (λ_=> ?_) (λ_=> ?_))
theorem adv_z(m:Q00)(clock:Int)(hd:U m.B0.B6): ∀z∈(Q0l m clock).1,outZ z:=by
 rw[xk]
 generalize Q6f (Q0m m) m.Mem=D
 unfold finR
 have nl: ∀z∈([]:List Q02),outZ z:=λz hz=>by cases hz
 have o:=out_z (withX m D.1 D.2.2) D.2.1.D3 D.2.1.Value hd
 cases D.2.1.B5==1
 . cases D.2.1.B5==2
   . cases D.2.1.B5==3
     . cases D.2.1.B5==4<;>exact nl
     . exact nl
   . exact o
 . exact nl
theorem xas{P:Nat}{a b:Q00}{L:List Q0w}{o:List Q02}(h:Qjr a L o b):good P a-> ∀z∈o,outZ z:=by
 induction h with
 |nil=>exact λ_ z hz=>absurd hz List.not_mem_nil
 |ev h1 h2 h3 h4 ih=>exact λg=>ih (Qov g h3).1
 | rd h1 h2 h3 h4 ih=>
   intro g z hz
   rcases List.mem_append.1 hz with hz|hz
   . exact adv_z _ _ g.ok.disk.block z hz
   . exact ih (Qfx g h1 h3).1 z hz
 | st h1 h2 h3 h4 ih=>
   intro g z hz
   rcases List.mem_append.1 hz with hz|hz
   . exact adv_z _ _ g.ok.disk.block z hz
   . exact ih (Qfx g h1 h3).1 z hz
theorem xaM{disk:List (List UInt8)}{l:List Q02}(hd:disk.length<=100000)(hl:l.length<=100000)(hz: ∀z∈l,outZ z):
   (Qko disk l).w (λv=>v=Quq (l.foldl seeS ([],disk,[]))):=by
 unfold Qko
 refine w_cn (decide_eq_true (by omega)) ?_
 refine w_lp (inv:=λv:Int×Q0o×List Int=>0<=v.1/\v.1<=l.length/\ ∃S:SeeS,S=(l.take v.1.toNat).foldl seeS ([],disk,[])/\v.2.1={A1:=[],B9:=S.1,B0:=S.2.1}/\v.2.2=S.2.2/\(S.1.length:Int)<=v.1/\S.2.1.length=disk.length/\(S.2.2.length:Int)<=1000*v.1) (μ:=Qq6 disk l)
   ⟨Int.le_refl 0,by show(0:Int)<=_;omega,([],disk,[]),rfl,rfl,rfl,Int.le_refl _,rfl,by show((0:Nat):Int)<=1000*0;omega⟩ (Nat.lt_succ_self _) λv ⟨v1,v2,S,s1,s2,s3,s4,s5,s6⟩=> ?_
 obtain⟨i,V,con⟩:=v
 have v1:0<=i:=v1
 have v2:i<=l.length:=v2
 have s1:S=(l.take i.toNat).foldl seeS ([],disk,[]):=s1
 have s2:V={A1:=[],B9:=S.1,B0:=S.2.1}:=s2
 have s3:con=S.2.2:=s3
 have s4:(S.1.length:Int)<=i:=s4
 have s6:(S.2.2.length:Int)<=1000*i:=s6
 subst s2
 subst s3
 have ew:IntKind.i64.wrap (i+1)=i+1:=by rw[IntKind.wrap_i64];omega
 refine w_br (λhb=> ?_) λhb=> ?_
 . have hi:i<l.length:=of_decide_eq_true hb
   have hlt:i.toNat<l.length:=by omega
   have cc:(Nat.beq 4 4&&Nat.blt 0 4&&decide (0<=i/\i<((l.length:Nat):Int)))=true:=by simp [Nat.blt];omega
   have eg:l.getD i.toNat (RK.dflt RK.apiOutput)=l[i.toNat]:=by rw[List.getD_eq_getElem?_getD,List.getElem?_eq_getElem hlt];rfl
   obtain⟨z1,z2⟩:=hz (l.getD i.toNat (RK.dflt RK.apiOutput)) (by rw[eg];exact List.getElem_mem hlt)
   have tk:=takeS seeS ([],disk,[]) l i.toNat hlt
   rw[<-s1,<-eg]at tk
   have nx: ∀S':SeeS,S'=seeS S (l.getD i.toNat (RK.dflt RK.apiOutput))->(0<=IntKind.i64.wrap (i+1)/\IntKind.i64.wrap (i+1)<=l.length/\ ∃S:SeeS,S=(l.take (IntKind.i64.wrap (i+1)).toNat).foldl seeS ([],disk,[])/\({A1:=[],B9:=S'.1,B0:=S'.2.1}:Q0o)={A1:=[],B9:=S.1,B0:=S.2.1}/\S'.2.2=S.2.2/\(S.1.length:Int)<=IntKind.i64.wrap (i+1)/\S.2.1.length=disk.length/\(S.2.2.length:Int)<=1000*IntKind.i64.wrap (i+1))/\(l.length-IntKind.i64.wrap (i+1)).toNat<(l.length-i).toNat:=by
     intro S' hS
     have f1:=Qqg S (l.getD i.toNat (RK.dflt RK.apiOutput))
     have f2:=Z03 S (l.getD i.toNat (RK.dflt RK.apiOutput))
     have f3:=Z9a S (l.getD i.toNat (RK.dflt RK.apiOutput))
     rw[<-hS]at f1 f2 f3 tk
     rw[ew,show(i+1).toNat=i.toNat+1 by omega]
     exact⟨⟨by omega,by omega,S',tk.symm,rfl,rfl,by omega,by omega,by omega⟩,by omega⟩
   dsimp only
   refine w_cn cc ?_
   refine w_br (λh1=>w_cn cc (w_cn (decide_eq_true (by rw[Ql6];omega)) (w_nx ?_))) λh1=>w_br (λh2=>w_cn cc (w_cn (decide_eq_true (by omega)) (w_nx ?_))) λh2=>w_br (λh4=>w_cn cc (w_br (λhbk=> ?_) λhbk=>w_nx ?_)) λh4=>w_nx ?_
   . exact nx (S.1,S.2.1,S.2.2++Q4l (l.getD i.toNat (RK.dflt RK.apiOutput)).C8) (by unfold seeS;rw[h1];rfl)
   . exact nx (S.1++[(l.getD i.toNat (RK.dflt RK.apiOutput)).C8],S.2.1,S.2.2) (by unfold seeS;rw[h1,h2];rfl)
   . have hbk:=of_decide_eq_true hbk
     rw[IntKind.wrap_u64,IntKind.wrap_u64]at hbk
     obtain⟨u1,u2⟩:=z1
     have hb:(l.getD i.toNat (RK.dflt RK.apiOutput)).B6<(S.2.1.length:Int):=by omega
     refine w_cn cc (w_cn cc (w_cn (by rw[decide_eq_true ⟨u1,hb⟩];rfl) (w_nx (nx (S.1,S.2.1.set (l.getD i.toNat (RK.dflt RK.apiOutput)).B6.toNat (l.getD i.toNat (RK.dflt RK.apiOutput)).C8,S.2.2) ?_))))
     unfold seeS;rw[h1,h2,h4,decide_eq_true hb];rfl
   . have hbk:=of_decide_eq_false hbk
     rw[IntKind.wrap_u64,IntKind.wrap_u64]at hbk
     obtain⟨u1,u2⟩:=z1
     have hb: ¬(l.getD i.toNat (RK.dflt RK.apiOutput)).B6<(S.2.1.length:Int):=by omega
     exact nx S (by unfold seeS;rw[h1,h2,h4,decide_eq_false hb];rfl)
   . exact nx S (by unfold seeS;rw[h1,h2,h4];rfl)
 . have hi: ¬i<l.length:=of_decide_eq_false hb
   show({A1:=bytesOf S.2.2,B9:=S.1,B0:=S.2.1}:Q0o)=_
   rw[<-List.take_of_length_le (l:=l) (i:=i.toNat) (by omega),<-s1];rfl
theorem vp{x y:List (List UInt8)}{i:Nat}(hl:x.length=y.length)(h:x.take i=y.take i)(hi:i<x.length)(he:x.getD i []=y.getD i []):x.take (i+1)=y.take (i+1):=by
 have hy:i<y.length:=by omega
 rw[List.take_succ_eq_append_getElem hi,List.take_succ_eq_append_getElem hy,h]
 rw[List.getD_eq_getElem?_getD,List.getElem?_eq_getElem hi,List.getD_eq_getElem?_getD,List.getElem?_eq_getElem hy]at he
 have he:x[i]=y[i]:=he
 rw[he]
theorem Zip{x y:List (List UInt8)}(hx:x.length<=1000000000000):(Q1s x y).w (λr=>r=decide (x=y)):=by
  unfold Q1s
  refine w_br (λh=>w_lf (decide_eq_false λe=> ?_).symm) λh=> ?_
  . rw[e]at h;simp at h
  have hl:x.length=y.length:=by simp at h;omega
  refine w_lp (inv:=λz:Int=>0<=z/\z<=x.length/\x.take z.toNat=y.take z.toNat) (μ:=Q25 x y) ⟨Int.le_refl 0,by show(0:Int)<=_;omega,rfl⟩ (Nat.lt_succ_self _) λz ⟨z1,z2,z3⟩=> ?_
  have ew:IntKind.i64.wrap (z+1)=z+1:=by rw[IntKind.wrap_i64];omega
  refine w_br (λhb=> ?_) λhb=> ?_
  . have hi:z<x.length:=of_decide_eq_true hb
    refine w_cn (by simp [Nat.blt];omega) (w_cn (by simp [Nat.blt];omega) (w_br (λhn=>w_lf ?_) λhn=>w_nx ?_))
    . refine(decide_eq_false λe=> ?_).symm
      rw[e]at hn;simp at hn
    . have he:x.getD z.toNat []=y.getD z.toNat []:=by
        have:decide (x.getD z.toNat (RK.dflt RK.str)=y.getD z.toNat (RK.dflt RK.str))=true:=by simpa using hn
        exact of_decide_eq_true this
      show(0<=IntKind.i64.wrap (z+1)/\IntKind.i64.wrap (z+1)<=x.length/\x.take (IntKind.i64.wrap (z+1)).toNat=y.take (IntKind.i64.wrap (z+1)).toNat)/\(x.length-IntKind.i64.wrap (z+1)).toNat<(x.length-z).toNat
      rw[ew,show(z+1).toNat=z.toNat+1 by omega]
      exact⟨⟨by omega,by omega,vp hl z3 (by omega) he⟩,by omega⟩
  . have hi: ¬z<x.length:=of_decide_eq_false hb
    refine w_lf (decide_eq_true ?_).symm
    rw[List.take_of_length_le (by omega),List.take_of_length_le (by omega)]at z3;exact z3
theorem qq{x y:List (List UInt8)}(hx:x.length<=1000000000000):(Q47 x y).w (λr=>r=decide (x=y)):=by
  unfold Q47
  refine w_br (λh=>w_lf (decide_eq_false λe=> ?_).symm) λh=> ?_
  . rw[e]at h;simp at h
  have hl:x.length=y.length:=by simp at h;omega
  refine w_lp (inv:=λz:Int=>0<=z/\z<=x.length/\x.take z.toNat=y.take z.toNat) (μ:=Q5i x y) ⟨Int.le_refl 0,by show(0:Int)<=_;omega,rfl⟩ (Nat.lt_succ_self _) λz ⟨z1,z2,z3⟩=> ?_
  have ew:IntKind.i64.wrap (z+1)=z+1:=by rw[IntKind.wrap_i64];omega
  refine w_br (λhb=> ?_) λhb=> ?_
  . have hi:z<x.length:=of_decide_eq_true hb
    refine w_cn (by simp [Nat.blt];omega) (w_cn (by simp [Nat.blt];omega) (w_br (λhn=>w_lf ?_) λhn=>w_nx ?_))
    . refine(decide_eq_false λe=> ?_).symm
      rw[e]at hn;simp at hn
    . have he:x.getD z.toNat []=y.getD z.toNat []:=by
        have:decide (x.getD z.toNat (RK.dflt RK.str)=y.getD z.toNat (RK.dflt RK.str))=true:=by simpa using hn
        exact of_decide_eq_true this
      show(0<=IntKind.i64.wrap (z+1)/\IntKind.i64.wrap (z+1)<=x.length/\x.take (IntKind.i64.wrap (z+1)).toNat=y.take (IntKind.i64.wrap (z+1)).toNat)/\(x.length-IntKind.i64.wrap (z+1)).toNat<(x.length-z).toNat
      rw[ew,show(z+1).toNat=z.toNat+1 by omega]
      exact⟨⟨by omega,by omega,vp hl z3 (by omega) he⟩,by omega⟩
  . have hi: ¬z<x.length:=of_decide_eq_false hb
    refine w_lf (decide_eq_true ?_).symm
    rw[List.take_of_length_le (by omega),List.take_of_length_le (by omega)]at z3;exact z3
def eqV(a b:Q0o):Bool:=decide (a.A1=b.A1)&&(decide (a.B9=b.B9)&&decide (a.B0=b.B0))
theorem Z7d(a:Q0o):eqV a a=true:=by unfold eqV;simp
theorem xq{a b:Q0o}(h1:a.B9.length<=1000000000000)(h2:a.B0.length<=1000000000000):(Qi3 a b).w (λr=>r=eqV a b):=by
 unfold Qi3 eqV
 refine w_br (λh=> ?_) λh=>w_lf (by rw[h];rfl)
 rw[h,Bool.true_and]
 refine w_an h1 (w_lv λx0 h0=> ?_)
 have h0:x0=decide (a.B9=b.B9):=by rw[h0];exact Tree.post _ (Zip h1)
 rw[h0]
 refine w_br (λh=> ?_) λh=>w_lf (by rw[h];rfl)
 rw[h,Bool.true_and]
 refine w_an h2 (w_lv λx1 h1=>w_lf ?_)
 rw[h1];exact Tree.post _ (Zip h2)
theorem Zh3{a b:Q0o}(h1:a.B9.length<=1000000000000)(h2:a.B0.length<=1000000000000):(Q8m a b).w (λr=>r=eqV a b):=by
 unfold Q8m eqV
 refine w_br (λh=> ?_) λh=>w_lf (by rw[h];rfl)
 rw[h,Bool.true_and]
 refine w_an h1 (w_lv λx0 h0=> ?_)
 have h0:x0=decide (a.B9=b.B9):=by rw[h0];exact Tree.post _ (qq h1)
 rw[h0]
 refine w_br (λh=> ?_) λh=>w_lf (by rw[h];rfl)
 rw[h,Bool.true_and]
 refine w_an h2 (w_lv λx1 h1=>w_lf ?_)
 rw[h1];exact Tree.post _ (qq h2)
theorem Qz2{l:List Q02}(hz: ∀z∈l,outZ z): ∀S:SeeS,(l.foldl seeS S).1.length<=S.1.length+l.length/\(l.foldl seeS S).2.1.length=S.2.1.length/\(l.foldl seeS S).2.2.length<=S.2.2.length+1000*l.length:=by
 induction l with
 |nil=>exact λS=>⟨Nat.le_refl _,rfl,Nat.le_refl _⟩
 | cons z l ih=>
   intro S
   obtain⟨a,b,c⟩:=ih (λy hy=>hz y (by simp [hy])) (seeS S z)
   have f1:=Qqg S z
   have f2:=Z03 S z
   have f3:=Z9a S z
   have f4:=(hz z (by simp)).2
   rw[List.foldl_cons,List.length_cons]
   exact⟨by omega,by omega,by omega⟩
theorem Z6b: ∀(l:List Q02) (F f D:List (List UInt8)) (C c:List Int),l.foldl seeS (F++f,D,C++c)=(F++(l.foldl seeS (f,D,c)).1,(l.foldl seeS (f,D,c)).2.1,C++(l.foldl seeS (f,D,c)).2.2)
 |[],_,_,_,_,_=>rfl
 | z ::l,F,f,D,C,c=>by
   have h:seeS (F++f,D,C++c) z=(F++(seeS (f,D,c) z).1,(seeS (f,D,c) z).2.1,C++(seeS (f,D,c) z).2.2):=by
     unfold seeS
     cases z.B5==1<;>cases z.B5==2<;>cases z.B5==4<;>simp [List.append_assoc]
     all_goals(cases decide (z.B6<(D.length:Int))<;>rfl)
   rw[List.foldl_cons,h,Z6b l,List.foldl_cons]
def seesT(disk:List (List UInt8))(a b:List Q02):Tree Bool:=
 .an (Q33 disk a) (.lv (Qch disk a) λ(x16:Q0o)=> .cn (decide (40*(0+a.length)<=140737488355328)) (.cn (decide (40*(a.length+b.length)<=140737488355328)) (.an (Q33 disk (a++b)) (.lv (Qch disk (a++b)) λ(x17:Q0o)=> .an (Q33 x16.B0 b) (.lv (Qch x16.B0 b) λ(x18:Q0o)=> .cn (decide (x16.A1.length+x18.A1.length<=maxLen)) (.cn (decide (16*(0+x16.B9.length)<=140737488355328)) (.cn (decide (16*(x16.B9.length+x18.B9.length)<=140737488355328)) (.an (Qj5 disk a) (.lv (Qy6 disk a) λ(x19:Q0o)=> .an (Q23 x16 x19) (.lv (Q3p x16 x19) λ(x20:Bool)=> .br x20 (let E0:=({A1:=x16.A1++x18.A1,B9:=x16.B9++x18.B9,B0:=x18.B0}:Q0o); .an (Q23 E0 x17) (.lv (Q3p E0 x17) λ(x21:Bool)=> .br x21 (.an (Q7p E0 x17) (.lv (Qhd E0 x17) λ(x22:Bool)=> .br x22 (.an (Q7p x16 x17) (.lv (Qhd x16 x17) λ(x23:Bool)=> .an (Q23 x16 x17) (.lv (Q3p x16 x17) λ(x24:Bool)=> .br (x23==x24) (.an Q2l (.lv Q6i λ(x25:Bool)=> .lf x25)) (.lf false)))) (.lf false))) (.lf false))) (.lf false)))))))))))
theorem vX{disk:List (List UInt8)}{a b:List Q02}(hd:disk.length<=20)(ha:a.length<=400)(hb:b.length<=50)(za: ∀z∈a,outZ z)(zb: ∀z∈b,outZ z):(seesT disk a b).w (λr=>r=true):=by
 have aw:(Tree.an Q2l (.lv Q6i λx=> .lf x)).w (λr=>r=true):=aw13 rfl
 unfold seesT
 refine Q0c (yp (by omega) (by omega) za) λx0 h0=> ?_
 rw[h0]
 have fa:=Qz2 za ([],disk,[])
 have sh:=Z6b b (a.foldl seeS ([],disk,[])).1 [] (a.foldl seeS ([],disk,[])).2.1 (a.foldl seeS ([],disk,[])).2.2 []
 rw[List.append_nil,List.append_nil]at sh
 have sh:b.foldl seeS (a.foldl seeS ([],disk,[]))=_:=sh
 have fab:(a++b).foldl seeS ([],disk,[])=b.foldl seeS (a.foldl seeS ([],disk,[])):=List.foldl_append
 rw[sh]at fab
 generalize hA:a.foldl seeS ([],disk,[])=A at*
 obtain⟨F,D,C⟩:=A
 have a1:F.length<=0+a.length:=fa.1
 have a2:D.length=disk.length:=fa.2.1
 have a3:C.length<=0+1000*a.length:=fa.2.2
 have fb:=Qz2 zb ([],D,[])
 have zab: ∀z∈a++b,outZ z:=λz hz=>(List.mem_append.1 hz).elim (za z) (zb z)
 refine w_cn (decide_eq_true (by omega)) (w_cn (decide_eq_true (by omega)) (Q0c (yp (by omega) (by rw[List.length_append];omega) zab) λx1 h1=>Q0c (yp (by show D.length<=_;omega) (by omega) zb) λx2 h2=> ?_))
 rw[h1,h2,fab]
 have e2:(Quq (F,D,C)).B0=D:=rfl
 rw[e2]
 have fab':True:=trivial
 simp only at fab
 generalize hB:b.foldl seeS ([],D,[])=B at*
 obtain⟨F2,D2,C2⟩:=B
 have b1:F2.length<=0+b.length:=fb.1
 have b2:D2.length=D.length:=fb.2.1
 have b3:C2.length<=0+1000*b.length:=fb.2.2
 have eU:({A1:=(Quq (F,D,C)).A1++(Quq (F2,D2,C2)).A1,B9:=(Quq (F,D,C)).B9++(Quq (F2,D2,C2)).B9,B0:=(Quq (F2,D2,C2)).B0}:Q0o)=Quq (F++F2,D2,C++C2):=by
   show({A1:=bytesOf C++bytesOf C2,B9:=F++F2,B0:=D2}:Q0o)={A1:=bytesOf (C++C2),B9:=F++F2,B0:=D2}
   rw[Zgt]
 dsimp only
 refine w_cn (decide_eq_true ?_) (w_cn (decide_eq_true ?_) (w_cn (decide_eq_true ?_) (Q0c (xaM (by omega) (by omega) za) λx3 h3=> ?_)))
 . show(bytesOf C).length+(bytesOf C2).length<=maxLen
   rw[Q90,Q90];unfold maxLen;omega
 . show 16*(0+F.length)<=_;omega
 . show 16*(F.length+F2.length)<=_;omega
 rw[h3,hA,eU]
 have l1:(Quq (F,D,C)).B9.length<=1000000000000:=by show F.length<=_;omega
 have l2:(Quq (F,D,C)).B0.length<=1000000000000:=by show D.length<=_;omega
 have l3:(Quq (F++F2,D2,C++C2)).B9.length<=1000000000000:=by show(F++F2).length<=_;rw[List.length_append];omega
 have l4:(Quq (F++F2,D2,C++C2)).B0.length<=1000000000000:=by show D2.length<=_;omega
 refine Q0c (Zh3 l1 l2) λx4 h4=> ?_
 rw[h4,Z7d]
 refine w_br (λ_=> ?_) λh=>by cases h
 refine Q0c (Zh3 l3 l4) λx5 h5=> ?_
 rw[h5,Z7d]
 refine w_br (λ_=> ?_) λh=>by cases h
 refine Q0c (xq l3 l4) λx6 h6=> ?_
 rw[h6,Z7d]
 refine w_br (λ_=> ?_) λh=>by cases h
 refine Q0c (xq l1 l2) λx7 h7=>Q0c (Zh3 l1 l2) λx8 h8=> ?_
 rw[h7,h8]
 refine w_br (λ_=>aw) λh=>by simp at h
theorem w_br2{β:Type}{c d:Bool}{X T:Tree β}{W:β->Prop}(hT:T.w W)(hX:c=true->d=true->X.w W):(Tree.br c (Tree.br d X T) T).w W:=
 w_br (λh=>w_br (λg=>hX h g) λ_=>hT) λ_=>hT
theorem qY{disk:List (List UInt8)}{l:List Q02}(h1:disk.length<=1000000000000000)(h2:l.length<=1000000000000000):(Qhb disk l).w (λr=>r=true->disk.length<=20/\l.length<=50/\ ∀z∈l,z.C8.length<=300):=by
 unfold Qhb
 refine w_lp (inv:=λv:Int=>0<=v/\v<=disk.length) (μ:=Qmw disk l) ⟨Int.le_refl 0,by omega⟩ (Nat.lt_succ_self _) λv ⟨v1,v2⟩=> ?_
 refine w_br2 ?_ λhb hs=> ?_
 . refine w_lp (inv:=λu:Int=>0<=u/\u<=l.length/\ ∀j:Nat,(j:Int)<u->(l.getD j (RK.dflt RK.apiOutput)).C8.length<=300) (μ:=Qnw disk l) ⟨Int.le_refl 0,by omega,λj hj=>by omega⟩ (Nat.lt_succ_self _) λu ⟨u1,u2,u3⟩=> ?_
   refine w_br (λhb=>w_br (λhs=> ?_) λhs=> ?_) λhb=> ?_
   rotate_left
   . have hs:=of_decide_eq_false hs
     refine w_br (λhd=>w_lf λhl=>absurd (of_decide_eq_true hl) (by omega)) λ_=>w_lf (λh=>by cases h)
   . have hb:=of_decide_eq_false hb
     refine w_br (λhd=>w_lf λhl=> ?_) λ_=>w_lf (λh=>by cases h)
     have hd:=of_decide_eq_true hd
     have hl:=of_decide_eq_true hl
     refine⟨by omega,by omega,λz hz=> ?_⟩
     obtain⟨j,hj,rfl⟩:=List.getElem_of_mem hz
     have:=u3 j (by omega)
     rw[List.getD_eq_getElem?_getD,List.getElem?_eq_getElem hj]at this
     exact this
   have hb:=of_decide_eq_true hb
   refine w_cn (by simp [Nat.blt];omega) (w_br (λ_=>w_lf (λh=>by cases h)) λhd=>w_nx ?_)
   have hd:=of_decide_eq_false hd
   have ew:IntKind.i64.wrap (u+1)=u+1:=by rw[IntKind.wrap_i64];omega
   show(0<=IntKind.i64.wrap (u+1)/\IntKind.i64.wrap (u+1)<=l.length/\ ∀j:Nat,(j:Int)<IntKind.i64.wrap (u+1)->(l.getD j (RK.dflt RK.apiOutput)).C8.length<=300)/\(l.length-IntKind.i64.wrap (u+1)).toNat<(l.length-u).toNat
   rw[ew]
   refine⟨⟨by omega,by omega,λj hj=> ?_⟩,by omega⟩
   by_cases e:(j:Int)<u
   . exact u3 j e
   . have e:j=u.toNat:=by omega
     rw[e];omega
 have hb:=of_decide_eq_true hb
 refine w_cn (by simp [Nat.blt];omega) (w_br (λ_=>w_lf (λh=>by cases h)) λhd=>w_nx ?_)
 have ew:IntKind.i64.wrap (v+1)=v+1:=by rw[IntKind.wrap_i64];omega
 show(0<=IntKind.i64.wrap (v+1)/\IntKind.i64.wrap (v+1)<=disk.length)/\(disk.length-IntKind.i64.wrap (v+1)).toNat<(disk.length-v).toNat
 rw[ew]
 exact⟨⟨by omega,by omega⟩,by omega⟩
theorem sees(disk:List (List UInt8))(a b:List Q02)(n k:Int)(made:Bool)(h1:disk.length<=1000000000000000)(h2:a.length<=1000000000000000)(h3:b.length<=1000000000000000)(ua: ∀z∈a,U z.B6)(ub: ∀z∈b,U z.B6):Qj1 disk a b n k made/\Qj7 disk a b n k made=true:=by
 have aw:(Tree.an Q2l (.lv Q6i λx=> .lf x)).w (λr=>r=true):=aw13 rfl
 refine Tree.pp (W:=λr=>r=true) ?_
 unfold Qap
 refine Q0c (qY h1 h2) λx0 h0=>w_br (λ_=>aw) λhb=> ?_
 obtain⟨d1,d2,d3⟩:=h0 (by simpa using hb)
 refine Q0c (qY (Nat.zero_le _) h3) λx1 h1=>w_br (λ_=>aw) λhb=> ?_
 obtain⟨_,c2,c3⟩:=h1 (by simpa using hb)
 have zb: ∀z∈b,outZ z:=λz hz=>⟨ub z hz,by have:=c3 z hz;omega⟩
 refine w_br (λ_=> ?_) λ_=>vX d1 (by omega) c2 (λz hz=>⟨ua z hz,by have:=d3 z hz;omega⟩) zb
 refine qap (by show 1*8<=reachBytes;decide) (by show 1<=40;decide) (by show 3<=30;decide) λm x hm g gc hx _=> ?_
 have R:=recorded g gc (by show 3<=30;decide) hx
 exact vX (by show 2<=20;decide) (by have:=R.outs;omega) c2 (xas R.tr g) zb
theorem Qn0{t:STy}{ts:List STy}{es:List D}(h:Fits (t::ts) es): ∃d ds,es=d::ds/\Fit t d/\Fits ts ds:=by
 cases es with
 |nil=>exact absurd h (by simp [Fits])
 |cons d ds=>unfold Fits at h;exact⟨d,ds,rfl,h.1,h.2⟩
theorem Zig{es:List D}(h:Fits [] es):es=[]:=by
 cases es with
 |nil=>rfl
 |cons d ds=>exact absurd h (by simp [Fits])
theorem u_of{x:Int}(h:IntKind.u32.min<=x/\x<=IntKind.u32.max):U x:=⟨h.1,by have:IntKind.u32.max=4294967295:=rfl;have:=h.2;omega⟩
theorem Sub1.gens{k:RK}{es:List (List D)}{fr:Bool}{l:List (RK.T k)}(h:es=l.map (RK.cells k)):Sub1 (.sl k.size (.gen es) fr) (.sl k.size (.recs k l) false):=by
 intro c w v hv
 obtain⟨a,cap,hv,hc,hes⟩:=hv
 have he:(Els.gen es).l=(Els.recs k l).l:=by subst h;rfl
 rw[he]at hv hc hes
 refine⟨a,cap,hv,hc,?_⟩
 rcases hes with hes|⟨b,off,arr,ty,fz,ha,hI,hf,hh,hE⟩
 . exact .inl hes
 . exact .inr ⟨b,off,arr,ty,fz,ha,hI,(λe=>by cases e),hh,hE⟩
theorem qQ{d:D}(h:Fit (.sl [.str]) d): ∃l:List (List UInt8),SubV d (.sl 1 (.recs .str l) false)/\l.length<=1000000000000000:=by
 unfold Fit at h
 obtain⟨es,rfl,hl,h⟩:=h
 have: ∃l:List (List UInt8),es=l.map (RK.cells .str):=by
   clear hl
   induction es with
   |nil=>exact⟨[],rfl⟩
   | cons x es ih=>
     obtain⟨l,h1⟩:=ih (λe he=>h e (by simp [he]))
     obtain⟨d0,e0,rfl,h0,H0⟩:=Qn0 (h x (by simp))
     obtain⟨x0,rfl,b0⟩:=yv h0
     obtain rfl:=Zig H0
     exact⟨x0::l,by rw[h1];rfl⟩
 obtain⟨l,rfl⟩:=this
 refine⟨l,Sub1.gens (k:= .str) rfl,?_⟩
 rw[List.length_map]at hl
 have hl:=Nat.le_trans (Nat.le_mul_of_pos_right l.length (by decide)) hl
 unfold reachBytes at hl;omega
theorem Zi5{d:D}(h:Fit (.sl [.int .i64, .int .u64, .int .u32, .str]) d): ∃l:List Q02,SubV d (.sl 4 (.recs .apiOutput l) false)/\l.length<=1000000000000000/\ ∀z∈l,U z.B6:=by
 unfold Fit at h
 obtain⟨es,rfl,hl,h⟩:=h
 have: ∃l:List Q02,es=l.map (RK.cells .apiOutput)/\ ∀z∈l,U z.B6:=by
   clear hl
   induction es with
   |nil=>exact⟨[],rfl,λz hz=>by cases hz⟩
   | cons x es ih=>
     obtain⟨l,h1,h2⟩:=ih (λe he=>h e (by simp [he]))
     obtain⟨d0,e0,rfl,h0,H0⟩:=Qn0 (h x (by simp))
     obtain⟨x0,rfl,b0⟩:=Z18 h0
     obtain⟨d1,e1,rfl,h3,H1⟩:=Qn0 H0
     obtain⟨x1,rfl,b1⟩:=Z18 h3
     obtain⟨d2,e2,rfl,h4,H2⟩:=Qn0 H1
     obtain⟨x2,rfl,b2⟩:=Z18 h4
     obtain⟨d3,e3,rfl,h5,H3⟩:=Qn0 H2
     obtain⟨x3,rfl,b3⟩:=yv h5
     obtain rfl:=Zig H3
     refine⟨⟨x0,x1,x2,x3⟩::l,by rw[h1];rfl,λq hq=> ?_⟩
     rcases List.mem_cons.1 hq with hq|hq
     . rw[hq];exact u_of b2
     . exact h2 q hq
 obtain⟨l,rfl,hu⟩:=this
 refine⟨l,Sub1.gens (k:= .apiOutput) rfl,?_,hu⟩
 rw[List.length_map]at hl
 have hl:=Nat.le_trans (Nat.le_mul_of_pos_right l.length (by decide)) hl
 unfold reachBytes at hl;omega
end Go.Proofs.YtjaifpiopmhmlaaGreat

/-
  A part of the proof.
-/
import Derived.Test.YtjaifpiopmhmlaaGreatBareSplitsLaws2
import Derived.Test.YtjaifpiopmhmlaaGreatBareSplitsNewsB
import Derived.Test.YtjaifpiopmhmlaaGreatBareSplitsZg
import Derived.Test.YtjaifpiopmhmlaaGreatBareSplitsZt
import Derived.Test.YtjaifpiopmhmlaaGreatBareSplitsCk
set_option maxRecDepth 100000
set_option linter.all false
namespace Go.Proofs.YtjaifpiopmhmlaaGreat
open Go Go.GD
theorem xG(i:Q0i):U (Q1f i).1:=by
 refine Tree.post (Qfp i) (W:=λr=>U r.1) ?_
 unfold Qfp
 exact w_lv λ_ _=>w_br (λ_=>U_0) (λ_=>U_or _ _)
theorem qd(l:List Int)(hl:l.length*8<=reachBytes):(Qgt l).w (λr=>(r.length:Int)=l.length/\ ∀w∈r,U w):=by
 have hl':l.length*8<=140737488351232:=hl
 have app: ∀{r:List Int} {x:Int},(∀w∈r,U w)->U x-> ∀w∈r++[x],U w:=λhr hx w hw=>by
   rw[List.mem_append]at hw
   rcases hw with hw|hw
   . exact hr w hw
   . rw[List.mem_singleton.1 hw];exact hx
 unfold Qgt
 refine w_lp (inv:=λz=>Qp8 l z/\ ∀w∈z.2,U w) (μ:=Qbw l) ⟨⟨by omega,by simp,by simp⟩,by simp⟩ (Nat.lt_succ_self _) (λv0 hv=> ?_)
 obtain⟨⟨h1,h2,h3⟩,h4⟩:=hv
 refine w_br (λh=> ?_) (λh=> ?_)
 . have h:=of_decide_eq_true h
   have next: ∀x:Int,U x->(Qp8 l (IntKind.wrap IntKind.i64 (v0.1+1),v0.2++[x])/\ ∀w∈v0.2++[x],U w)/\Qbw l (IntKind.wrap IntKind.i64 (v0.1+1),v0.2++[x])<Qbw l v0:=λx hx=>by
     have hw:IntKind.i64.wrap (v0.1+1)=v0.1+1:=by rw[IntKind.wrap_i64];omega
     rw[hw]
     refine⟨⟨⟨?_,?_,?_⟩,app h4 hx⟩,?_⟩
     . show 0<=v0.1+1;omega
     . show v0.1+1<=l.length;omega
     . show((v0.2++[x]).length:Int)=v0.1+1;simp;omega
     . show(l.length-(v0.1+1)).toNat<(l.length-v0.1).toNat;omega
   have hb:(Nat.beq 1 1&&Nat.blt 0 1&&decide (0<=v0.1/\v0.1<(l.length:Int)))=true:=by simp [Nat.blt];omega
   have hc:decide (4*(v0.2.length+1)<=140737488355328)=true:=decide_eq_true (by omega)
   exact w_cn hb (w_br (λ_=>w_cn hb (w_cn hc (next _ (Q0s _)))) (λ_=>w_cn hb (w_an (zT _) (w_lv λx0 _=>w_lv λx1 hx=>w_cn hc (next _ (by rw[hx];exact xG _))))))
 . have h:=of_decide_eq_false h
   exact⟨by show(v0.2.length:Int)=l.length;omega,h4⟩
theorem Qs2(steps:Int):0<=Q13 steps/\Q13 steps<=4000:=by
 refine Tree.post (Qc steps) (W:=λr=>0<=r/\r<=4000) ?_
 unfold Qc
 refine w_lf ?_
 constructor<;>(repeat' split)<;>omega
theorem Ze4{P:Nat}{r:Q01}(h:okR P r)(steps:Int){clock:Int}(hc:U clock)(hl:r.C4.length<=900000)(hq:r.A6.length<=1000)(hu: ∀q∈r.A6,U q.N):
    (Q54 r steps clock).w (λx=>okR P x.1/\x.1.C4.length<=r.C4.length+r.A6.length+8000/\(x.1.A6=r.A6\/x.1.A6=[])/\x.2.length<=4000):=by
  unfold Q54
  refine Q0d (own_w h (by omega) (by omega)) λx0 hx=> ?_
  obtain⟨k1,k2,k3⟩:=hx
  refine w_lv λx1 _=>w_br (λ_=>⟨k1,by rw[k2];omega, .inl k3,Nat.zero_le _⟩) (λ_=> ?_)
  have hcl:U (if clock>x0.A9 then clock else x0.A9):=by split<;>first|exact hc|exact k1.clock
  refine w_lp (inv:=λz=>0<=z.1/\z.1<=r.A6.length/\okR P z.2/\(z.2.C4.length:Int)<=r.C4.length+z.1/\z.2.A6=r.A6) (μ:=Qar r steps clock) ⟨by omega,by omega,⟨k1.m,hcl⟩,by rw[k2];omega,k3⟩ (Nat.lt_succ_self _) (λz hz=> ?_)
  obtain⟨z1,z2,z3,z4,z5⟩:=hz
  refine w_br (λhb=> ?_) (λhb=> ?_)
  . have hb:=of_decide_eq_true hb
    rw[z5]at hb
    have hm:(z.2.A6.getD z.1.toNat (RK.dflt RK.apiEvent))∈r.A6:=by
      rw[z5]
      have hlt:z.1.toNat<r.A6.length:=by omega
      rw[List.getD_eq_getElem?_getD,List.getElem?_eq_getElem hlt]
      exact List.getElem_mem hlt
    refine w_cn (by rw[z5];simp [Nat.blt];omega) (Q0d (xw z3 (hu _ hm) (by omega)) λx hx=>w_nx ?_)
    obtain⟨a1,a2,a3⟩:=hx
    show(0<=IntKind.i64.wrap (z.1+1)/\IntKind.i64.wrap (z.1+1)<=r.A6.length/\okR P x/\(x.C4.length:Int)<=r.C4.length+IntKind.i64.wrap (z.1+1)/\x.A6=r.A6)/\(x.A6.length-IntKind.i64.wrap (z.1+1)).toNat<(z.2.A6.length-z.1).toNat
    have ew:IntKind.i64.wrap (z.1+1)=z.1+1:=by rw[IntKind.wrap_i64];omega
    rw[ew,a3,z5]
    exact⟨⟨by omega,by omega,a1,by omega,rfl⟩,by omega⟩
  . refine w_lp (inv:=λy=>0<=y.1/\y.1<=4000/\okR P y.2.1/\(y.2.1.C4.length:Int)<=r.C4.length+r.A6.length+2*y.1/\y.2.1.A6=[]/\(y.2.2.length:Int)<=y.1) (μ:=Q59 r steps clock z) ⟨by omega,by omega,⟨z3.m,z3.clock⟩,by simp;omega,rfl,by simp⟩ (Nat.lt_succ_self _) (λy hy=> ?_)
    obtain⟨y1,y2,y3,y4,y5,y6⟩:=hy
    have ew:IntKind.i64.wrap (y.1+1)=y.1+1:=by rw[IntKind.wrap_i64];omega
    refine w_lv λx3 hx3=>w_br (λhb=> ?_) (λ_=>⟨y3,by show y.2.1.C4.length<=_;omega, .inr y5,by show y.2.2.length<=_;omega⟩)
    have hb:=of_decide_eq_true hb
    have lim:=(Qs2 steps).2
    rw[<-hx3]at lim
    refine w_lv λx4 _=>w_br (λ_=>Q0d (xw (e:=⟨_,_,_⟩) y3 U_0 (by omega)) λx5 h5=> ?_) (λ_=> ?_)
    . obtain⟨q1,q2,q3⟩:=h5
      have q3:=q3.trans y5
      refine Q0d (Zex _) λs1 _=>w_br (λ_=>⟨q1,by show x5.C4.length<=_;omega, .inr q3,by show y.2.2.length<=_;omega⟩) (λ_=>Q0d (Qvn q1.m.cpu q1.m.mem) λs2 _=>w_br (λ_=>w_cn (decide_eq_true (by omega)) (Q0d (Qsc (r:=⟨x5.A0,x5.A9,x5.C4++[_],x5.A6⟩) ⟨q1.m,q1.clock⟩ q1.clock) λo ho=> ?_)) (λ_=>Q0d (Qsc q1 q1.clock) λo ho=> ?_))
      . obtain⟨a1,⟨⟨a2,a3⟩,a4,a5⟩⟩:=ho
        have e4:o.2.C4.length=x5.C4.length+1:=by rw[a4];simp
        have a5:o.2.A6=[]:=a5.trans q3
        refine w_cn (decide_eq_true (by omega)) (w_nx ?_)
        show(0<=IntKind.i64.wrap (y.1+1)/\IntKind.i64.wrap (y.1+1)<=4000/\okR P _/\(o.2.C4.length:Int)<=r.C4.length+r.A6.length+2*IntKind.i64.wrap (y.1+1)/\o.2.A6=[]/\((y.2.2++o.1).length:Int)<=IntKind.i64.wrap (y.1+1))/\(4000-IntKind.i64.wrap (y.1+1)).toNat<(4000-y.1).toNat
        rw[ew,a5,List.length_append]
        exact⟨⟨by omega,by omega,⟨a2,Q0s _⟩,by omega,rfl,by omega⟩,by omega⟩
      . obtain⟨a1,⟨⟨a2,a3⟩,a4,a5⟩⟩:=ho
        have e4:o.2.C4.length=x5.C4.length:=by rw[a4]
        have a5:o.2.A6=[]:=a5.trans q3
        refine w_cn (decide_eq_true (by omega)) (w_nx ?_)
        show(0<=IntKind.i64.wrap (y.1+1)/\IntKind.i64.wrap (y.1+1)<=4000/\okR P _/\(o.2.C4.length:Int)<=r.C4.length+r.A6.length+2*IntKind.i64.wrap (y.1+1)/\o.2.A6=[]/\((y.2.2++o.1).length:Int)<=IntKind.i64.wrap (y.1+1))/\(4000-IntKind.i64.wrap (y.1+1)).toNat<(4000-y.1).toNat
        rw[ew,a5,List.length_append]
        exact⟨⟨by omega,by omega,⟨a2,Q0s _⟩,by omega,rfl,by omega⟩,by omega⟩
    . refine Q0d (Zex _) λs1 _=>w_br (λ_=>⟨y3,by show y.2.1.C4.length<=_;omega, .inr y5,by show y.2.2.length<=_;omega⟩) (λ_=>Q0d (Qvn y3.m.cpu y3.m.mem) λs2 _=>w_br (λ_=>w_cn (decide_eq_true (by omega)) (Q0d (Qsc (r:=⟨y.2.1.A0,y.2.1.A9,y.2.1.C4++[_],y.2.1.A6⟩) ⟨y3.m,y3.clock⟩ y3.clock) λo ho=> ?_)) (λ_=>Q0d (Qsc y3 y3.clock) λo ho=> ?_))
      . obtain⟨a1,⟨⟨a2,a3⟩,a4,a5⟩⟩:=ho
        have e4:o.2.C4.length=y.2.1.C4.length+1:=by rw[a4];simp
        have a5:o.2.A6=[]:=a5.trans y5
        refine w_cn (decide_eq_true (by omega)) (w_nx ?_)
        show(0<=IntKind.i64.wrap (y.1+1)/\IntKind.i64.wrap (y.1+1)<=4000/\okR P _/\(o.2.C4.length:Int)<=r.C4.length+r.A6.length+2*IntKind.i64.wrap (y.1+1)/\o.2.A6=[]/\((y.2.2++o.1).length:Int)<=IntKind.i64.wrap (y.1+1))/\(4000-IntKind.i64.wrap (y.1+1)).toNat<(4000-y.1).toNat
        rw[ew,a5,List.length_append]
        exact⟨⟨by omega,by omega,⟨a2,Q0s _⟩,by omega,rfl,by omega⟩,by omega⟩
      . obtain⟨a1,⟨⟨a2,a3⟩,a4,a5⟩⟩:=ho
        have e4:o.2.C4.length=y.2.1.C4.length:=by rw[a4]
        have a5:o.2.A6=[]:=a5.trans y5
        refine w_cn (decide_eq_true (by omega)) (w_nx ?_)
        show(0<=IntKind.i64.wrap (y.1+1)/\IntKind.i64.wrap (y.1+1)<=4000/\okR P _/\(o.2.C4.length:Int)<=r.C4.length+r.A6.length+2*IntKind.i64.wrap (y.1+1)/\o.2.A6=[]/\((y.2.2++o.1).length:Int)<=IntKind.i64.wrap (y.1+1))/\(4000-IntKind.i64.wrap (y.1+1)).toNat<(4000-y.1).toNat
        rw[ew,a5,List.length_append]
        exact⟨⟨by omega,by omega,⟨a2,Q0s _⟩,by omega,rfl,by omega⟩,by omega⟩
section
variable {P:Nat} {m:Q00} (h:okM P m)
include h
theorem min_w(port:Int){clock:Int}(hc:U clock):(Qk6 m port clock).w (λx=>U x.1/\okM P x.2/\x.2.A1=m.A1):=by
 have k:=(⟨h,rfl⟩:okM P m/\m.A1=m.A1)
 obtain⟨h1,h2,h3,h4,h5,h7⟩:=h
 unfold Qk6
 exact w_br (λ_=>w_lv λx hx=>⟨hx▸Z0l _ _,⟨⟨h1,h2,h3,h4,h5,h7⟩,rfl⟩⟩) (λ_=>w_br (λ_=>⟨hc,k⟩) (λ_=>w_br (λ_=>w_lv λx hx=>⟨hx▸Zdf _,k⟩) (λ_=>w_br (λ_=>w_lv λx hx=>⟨hx▸Ziv h3 _,k⟩) (λ_=>w_br (λ_=>w_lv λx hx=>⟨hx▸qw h4 _,k⟩) (λ_=>w_lv λx hx=>⟨hx▸Z1n h5.1 _,k⟩)))))
theorem qaA(port:Int){v:Int}(hv:U v):(Qd9 m port v).w (λx=>x.1.length<=1/\okM P x.2/\x.2.A1=m.A1):=by
 have k:=(⟨h,rfl⟩:okM P m/\m.A1=m.A1)
 obtain⟨h1,h2,h3,h4,h5,h7⟩:=h
 unfold Qd9
 exact w_br (λ_=>⟨Nat.le_refl _,k⟩) (λ_=>w_br (λ_=>⟨Nat.zero_le _,k⟩) (λ_=>w_br (λ_=>w_lv λ_ _=>⟨Nat.zero_le _,⟨⟨h1,h2,h3,h4,h5,h7⟩,rfl⟩⟩) (λ_=>w_br (λ_=>Q0d (Zau h2 h3 _ hv _) λx hx=>⟨hx.2,⟨⟨h1,h2,hx.1,h4,h5,h7⟩,rfl⟩⟩) (λ_=>w_br (λ_=>Q0d (Zhd h2 h4 _ hv _) λx hx=>⟨hx.2,⟨⟨h1,h2,h3,hx.1,h5,h7⟩,rfl⟩⟩) (λ_=>Q0d (yY h2 h5 _ hv) λx hx=>⟨Nat.zero_le _,⟨⟨h1,hx.2,h3,h4,hx.1,h7⟩,rfl⟩⟩)))))
theorem Z5i{clock:Int}(hc:U clock):(Q81 m clock).w (λx=>x.1.length<=1/\okM P x.2/\x.2.A1=IntKind.wrap .u64 (m.A1+1)):=by
 obtain⟨h1,h2,h3,h4,h5,h7⟩:=h
 unfold Q81
 refine Q0d (Ql2 h1) λx0 c0=>Q0d (do_w c0 h2) λx1 hx=> ?_
 obtain⟨c1,v1,m1⟩:=hx
 refine w_br (λ_=>Zb3 (min_w (m:=⟨_,_,_,_,_,_,_,_,_,_⟩) ⟨c1,m1,h3,h4,h5,h7⟩ _ hc) λx2 hx=> ?_) (λ_=>w_br (λ_=>Q0d (qaA (m:=⟨_,_,_,_,_,_,_,_,_,_⟩) ⟨c1,m1,h3,h4,h5,h7⟩ _ v1) λx4 hx=> ?_) (λ_=> ?_))
 . obtain⟨u,⟨k1,k2,k3,k4,k5,k7⟩,k6⟩:=hx
   exact Q0d (Z3i k1 _ u) λx3 h3=>⟨Nat.zero_le _,⟨h3,k2,k3,k4,k5,w0 _⟩,congrArg (λn=>IntKind.wrap .u64 (n+1)) k6⟩
 . obtain⟨u,⟨k1,k2,k3,k4,k5,k7⟩,k6⟩:=hx
   exact⟨u,⟨k1,k2,k3,k4,k5,w0 _⟩,congrArg (λn=>IntKind.wrap .u64 (n+1)) k6⟩
 . repeat'(first
     |exact⟨Nat.zero_le _,⟨c1,m1,h3,h4,h5,w0 _⟩,rfl⟩
     |refine w_br (λ_=> ?_) (λ_=> ?_))
theorem zU:(Qb8 m).w (λx=>okM P x/\x.A1=m.A1):=by
 obtain⟨h1,h2,h3,h4,h5,h7⟩:=h
 unfold Qb8
 exact Q0d (yX h2) λx hx=>⟨⟨h1,by rw[hx];exact h2,h3,h4,h5,h7⟩,rfl⟩
end
theorem U_all(n:Nat): ∀w∈List.replicate n (0:Int),U w:=λw hw=>by rw[(List.mem_replicate.1 hw).2];exact U_0
theorem xaa:okM 0 ⟨⟨⟨0,0,0,0,0,0,0,0,0,0,0,0,0,0,0,0⟩,0,⟨0,0,0,0,0,0,0,0⟩⟩,[],⟨[]⟩,⟨false,0,false⟩,⟨0,0,0,0,0,0,0,[]⟩,⟨0,0,false,0,false,0⟩,⟨0,0⟩,0,false,false⟩:=
 ⟨⟨U_all 16,U_0,U_all 8⟩,⟨rfl,by omega,by omega,λw hw=>by cases hw⟩,⟨U_0,U_0,U_0,U_0⟩,⟨U_0,U_0,U_0,U_0⟩,⟨U_0,U_0⟩,by decide⟩
theorem Zi9{P:Nat}{m:Q00}(h:okM P m)(hc:0<=m.A1):(Q93 m [] 87).w (λx=> ∃Q,okM Q x.1):=by
 have z: ∃Q,okM Q _:=⟨0,xaa⟩
 unfold Q93
 refine w_lv λx0 _=>w_br (λ_=>z) λ_=>w_br (λ_=>z) λ_=>w_br (λ_=>z) λ_=>w_an (show Q7t [] by show([]:List Q0m).length<=1000000000000;decide) (w_lv λx1 _=>w_br (λ_=>z) λ_=>Q0d (zU h) λx2 hx=> ?_)
 refine w_lp (inv:=λv:Q00×List Q02=>okM P v.1/\0<=v.1.A1/\v.2.length+(87-v.1.A1).toNat<=87) (μ:=Qey m [] 87) ⟨hx.1,by rw[hx.2];exact hc,by rw[hx.2];show 0+_<=87;omega⟩ (Nat.lt_succ_self _) λv0 ⟨a1,a2,a3⟩=> ?_
 refine w_br (λhb=>w_br (λ_=> ?_) (λ_=>⟨P,a1⟩)) (λ_=>⟨P,a1⟩)
 have hb:=of_decide_eq_true hb
 refine w_lp (inv:=λ_=>True) (μ:=Qf3 m [] 87 v0) trivial (Nat.lt_succ_self _) λv1 _=> ?_
 refine w_br (λ_=>⟨P,a1⟩) λ_=>Q0d (xY _) λx3 _=>w_br (λ_=>⟨P,a1⟩) λ_=>Q0d (vv a1.cpu a1.mem) λx4 _=>w_br (λ_=>z) λ_=>Q0d (Z5i a1 U_0) λx5 h5=> ?_
 obtain⟨b1,b2,b3⟩:=h5
 refine w_cn (decide_eq_true (by omega)) (w_nx ?_)
 have e:x5.2.A1=v0.1.A1+1:=by rw[b3,IntKind.wrap_u64];omega
 show(_/\_/\_)/\(_:Nat)<_
 refine⟨⟨b2,by show 0<=x5.2.A1;omega,by show(v0.2++x5.1).length+(87-x5.2.A1).toNat<=87;rw[List.length_append];omega⟩,by show(87-x5.2.A1).toNat<(87-v0.1.A1).toNat;omega⟩
set_option synthInstance.maxHeartbeats 2000000
set_option synthInstance.maxSize 100000
noncomputable section
instance zG (src:(List UInt8)):Ck (Qj5 src):=ckT (t:=Qew src) (by delta Qew;infer_instance)
instance vB (s:(List UInt8)):Ck (Qi9 s):=ckT (t:=Qbr s) (by delta Qbr;infer_instance)
instance qC (n:Int):Ck (Q2z n):=let d:Decidable (Q2z n):=(by delta Q2z;infer_instance);⟨@decide _ d,@of_decide_eq_true _ d⟩
instance xd (n:Int):Ck (Qf9 n):=ckT (t:=Q69 n) (by delta Q69;infer_instance)
instance qab (r:Int):Ck (Qn3 r):=ckT (t:=Qd6 r) (by delta Qd6;infer_instance)
instance yU (s:(List UInt8)):Ck (Qfx s):=ckT (t:=Qi6 s) (by delta Qi6;infer_instance)
instance Zlp (op:Int):Ck (Qcy op):=ckT (t:=Q9g op) (by delta Q9g;infer_instance)
instance Zkm (s:(List UInt8)):Ck (Q31 s):=ckT (t:=Q7v s) (by delta Q7v;infer_instance)
instance zd (what:(List UInt8)):Ck (Q5n what):=ckT (t:=Qaf what) (by delta Qaf;infer_instance)
instance xC (s:(List UInt8)):Ck (Qh4 s):=ckT (t:=Qbz s) (by delta Qbz;infer_instance)
instance yd (l:(List Q0h)) (p:(List UInt8)):Ck (Q5m l p):=ckT (t:=Qae l p) (by delta Qae;infer_instance)
instance zC (s:(List UInt8)):Ck (Qhk s):=ckT (t:=Qcf s) (by delta Qcf;infer_instance)
instance vd (l:(List Q1z)) (label:(List UInt8)):Ck (Q34 l label):=let d:Decidable (Q34 l label):=(by delta Q34;infer_instance);⟨@decide _ d,@of_decide_eq_true _ d⟩
instance vU (src:(List UInt8)):Ck (Qlf src):=ckT (t:=Qi4 src) (by delta Qi4;infer_instance)
instance qV (st:Q09) (v:Int):Ck (Q9s st v):=ckT (t:=Qhr st v) (by delta Qhr;infer_instance)
instance Zlo (src:(List UInt8)):Ck (Q9u src):=ckT (t:=Q92 src) (by delta Q92;infer_instance)
theorem zab:Q9u ((108:UInt8)::(tblZe0++Z42++(Z66++Z52)++(Z63++Z5u++(Z5h++Z6))++(Z4a++Z58++(Qv++Que)++(Qv0++Quu++(Qui++Qup))))):=ck inferInstance (by kernel_rfl)
def inU(x:Int):Bool:=decide (0<=x)&&decide (x<4294967296)
theorem xab(l:List Int)(h:(Nat.ble l.length 160&&List.all l inU)=true):l.length<=160/\ ∀w∈l,U w:=by
 rw[Bool.and_eq_true]at h
 refine⟨Nat.le_of_ble_eq_true h.1,λw hw=> ?_⟩
 have:=List.all_eq_true.1 h.2 w hw
 simp only[inU,Bool.and_eq_true,decide_eq_true_eq]at this
 exact this
theorem qe:(Q15 (List.append (List.append (List.append (List.append Z9l Z42) (List.append Z66 Z52)) (List.append (List.append Z63 Z5u) (List.append Z5h Z6))) (List.append (List.append (List.append Z4a Z58) (List.append Qv Que)) (List.append (List.append Qv0 Quu) (List.append Qui Qup))))).1.length<=160/\ ∀w∈(Q15 (List.append (List.append (List.append (List.append Z9l Z42) (List.append Z66 Z52)) (List.append (List.append Z63 Z5u) (List.append Z5h Z6))) (List.append (List.append (List.append Z4a Z58) (List.append Qv Que)) (List.append (List.append Qv0 Quu) (List.append Qui Qup))))).1,U w:=xab _ (by kernel_rfl)
end
theorem new_w(i:List Int)(hu: ∀w∈i,U w)(hl:i.length<=256):(Q88 8 4 i).w (λx=>okM 8 x.1/\x.1.A1=0):=by
 unfold Q88
 refine w_br (λh=>absurd h (by decide)) λ_=>w_br (λh=>absurd h (by decide)) λ_=>w_br (λh=>absurd h (by decide)) λ_=>w_br (λh=>absurd h (by decide)) λ_=>w_br (λh=> ?_) λ_=>w_lv λx0 e0=>w_an (Za9 _) (w_lv λx1 e1=> ?_)
 . have h:=of_decide_eq_true h
   rw[show IntKind.i64.wrap (8*32)=256 by decide]at h
   omega
 have hx:x1=List.replicate 256 0:=by rw[e1];kernel_rfl
 have c0:Q2b x0:=by rw[e0];exact⟨by
   intro w hw
   simp only[Qnw,Qiz,Tree.m,A16.l,List.mem_cons,List.not_mem_nil,or_false,or_self]at hw
   rw[hw];exact U_0,U_0,by
   intro w hw
   simp only[Qnw,Qiz,Tree.m,A8.l,List.mem_cons,List.not_mem_nil,or_false,or_self]at hw
   rcases hw with rfl|rfl
   . exact⟨by omega,by omega⟩
   . exact U_0⟩
 have hz: ∀w∈x1,U w:=by rw[hx];exact U_all 256
 have hn:x1.length=256:=by rw[hx,List.length_replicate]
 refine⟨⟨c0,⟨?_,by omega,by omega,λw hw=> ?_⟩,⟨U_0,U_0,U_0,U_0⟩,⟨U_0,U_0,U_0,U_0⟩,⟨U_0,U_0⟩,Int.le_refl _⟩,rfl⟩
 . simp only[List.length_append,List.length_take,List.length_drop,hn];omega
 . rcases List.mem_append.1 hw with h1|h1
   . exact hu w (List.mem_of_mem_take h1)
   . exact hz w (List.mem_of_mem_drop h1)
theorem xe(kind:Int)(l:List Int)(hl:l.length*8<=reachBytes):(Q6a kind l).w (λx=> ∃Q,okM Q x):=by
  have hl':l.length*8<=140737488351232:=hl
  unfold Q6a
  refine w_an (Qhu (by decide)) (w_lv λx0 _=>w_br (λ_=>w_an zab (w_lv λx1 e1=> ?_)) (λ_=> ?_))
  . obtain⟨q1,q2⟩:x1.1.length<=160/\ ∀w∈x1.1,U w:=by rw[e1];exact qe
    refine w_lp (inv:=λv:List Int=>v.length<=160/\ ∀w∈v,U w) (μ:=Qbq kind l) ⟨q1,q2⟩ (Nat.lt_succ_self _) λv0 ⟨a1,a2⟩=> ?_
    refine w_br (λhb=> ?_) (λ_=> ?_)
    . have hb:=of_decide_eq_true hb
      refine w_cn (decide_eq_true (by omega)) (w_nx ?_)
      show(_/\_)/\(_:Nat)<_
      refine⟨⟨by rw[List.length_append,List.length_singleton];omega,λw hw=> ?_⟩,by show 160-(v0++[0]).length<160-v0.length;rw[List.length_append,List.length_singleton];omega⟩
      rcases List.mem_append.1 hw with h1|h1
      . exact a2 w h1
      . rw[List.mem_singleton.1 h1];exact U_0
    . refine Q0d (qd l hl) λx2 ⟨b1,b2⟩=>w_cn (decide_eq_true (by omega)) ?_
      have hu: ∀w∈v0++x2,U w:=λw hw=>(List.mem_append.1 hw).elim (a2 w) (b2 w)
      refine w_br (λhb=> ?_) (λhb=> ?_)
      . have hb:=of_decide_eq_true hb
        refine w_cn (by simp [Nat.blt];rw[List.length_append]at hb;omega) (Q0d (new_w _ (λw hw=>hu w (List.mem_of_mem_drop (List.mem_of_mem_take hw))) (by rw[List.length_take];exact Nat.le_trans (Nat.min_le_left _ _) (by decide))) λx3 ⟨c1,c2⟩=>w_br (λ_=>Q0d (Zi9 c1 (by omega)) λx4 hx=>hx) (λ_=>⟨8,c1⟩))
      . have hb:=of_decide_eq_false hb
        exact Q0d (new_w _ hu (by omega)) λx3 ⟨c1,c2⟩=>w_br (λ_=>Q0d (Zi9 c1 (by omega)) λx4 hx=>hx) (λ_=>⟨8,c1⟩)
  . refine Q0d (qd l hl) λx2 ⟨b1,b2⟩=>w_cn (decide_eq_true (by omega)) ?_
    refine w_br (λhb=> ?_) (λhb=> ?_)
    . have hb:=of_decide_eq_true hb
      refine w_cn (by simp [Nat.blt];omega) (Q0d (new_w _ (λw hw=>b2 w (List.mem_of_mem_drop (List.mem_of_mem_take hw))) (by rw[List.length_take];exact Nat.le_trans (Nat.min_le_left _ _) (by decide))) λx3 ⟨c1,c2⟩=>w_br (λ_=>Q0d (Zi9 c1 (by omega)) λx4 hx=>hx) (λ_=>⟨8,c1⟩))
    . have hb:=of_decide_eq_false hb
      exact Q0d (new_w _ b2 (by omega)) λx3 ⟨c1,c2⟩=>w_br (λ_=>Q0d (Zi9 c1 (by omega)) λx4 hx=>hx) (λ_=>⟨8,c1⟩)
theorem zaA{P:Nat}{r:Q01}(h:okR P r)(n:Int)(hl:r.C4.length<=900000)(hq:r.A6.length<=16)(hu: ∀q∈r.A6,U q.N):
   (Q7n r n).w (λx=>okR P x.1/\x.1.C4.length<=r.C4.length+8016/\(x.1.A6.length<=16/\ ∀q∈x.1.A6,U q.N)/\x.2.length<=4000):=by
 unfold Q7n
 refine w_lv λx0 _=>w_br (λ_=>Q0d (zw n) λe he=>Q0d (qT h e (by omega) hq hu he) λx hx=> ?_) (λ_=>w_an (Qhu (by decide)) (w_lv λx3 _=>Q0d (Ze4 h _ (Q0s _) hl (by omega) hu) λx hx=> ?_))
 . obtain⟨a1,a2,a3,a4⟩:=hx
   exact⟨a1,by rw[a2];omega,⟨a3,a4⟩,Nat.zero_le _⟩
 . obtain⟨a1,a2,a3,a4⟩:=hx
   refine⟨a1,by show x.1.C4.length<=_;omega,?_,a4⟩
   rcases a3 with a3|a3
   . rw[a3];exact⟨hq,hu⟩
   . rw[a3];exact⟨Nat.zero_le _,λq hq=>by cases hq⟩
theorem xaA{P:Nat}{m:Q00}(h:okM P m)(l:List Int)(hl:l.length<=30):(Qb2 m l).w (λx=>okR P x.1):=by
 unfold Qb2
 have nr:(Q3d m).w (λx=>okR P x/\x.C4=[]/\x.A6=[]):=by
   unfold Q3d
   exact Q0d (zU h) λx hx=>⟨⟨hx.1,U_0⟩,rfl,rfl⟩
 refine Q0d nr λx0 ⟨n1,n2,n3⟩=> ?_
 refine w_lp (inv:=λv:Int×Q01×List Q02=>0<=v.1/\v.1<=l.length/\okR P v.2.1/\(v.2.1.C4.length:Int)<=8016*v.1/\(v.2.1.A6.length<=16/\ ∀q∈v.2.1.A6,U q.N)/\(v.2.2.length:Int)<=4000*v.1) (μ:=Qhd m l) ⟨Int.le_refl _,by show(0:Int)<=l.length;omega,n1,by rw[n2];exact Int.le_refl _,by rw[n3];exact⟨Nat.zero_le _,λq hq=>by cases hq⟩,Int.le_refl _⟩ (Nat.lt_succ_self _) λv0 ⟨a1,a2,a3,a4,⟨a5,a6⟩,a7⟩=> ?_
 refine w_br (λhb=> ?_) (λ_=>a3)
 have hb:=of_decide_eq_true hb
 refine w_cn (by simp [Nat.blt];omega) (Q0d (zaA a3 _ (by omega) a5 a6) λx1 ⟨b1,b2,b3,b4⟩=>w_cn (decide_eq_true (by omega)) (w_nx ?_))
 have e:IntKind.i64.wrap (v0.1+1)=v0.1+1:=by rw[IntKind.wrap_i64];omega
 show(_/\_/\_/\_/\_/\_)/\(_:Nat)<_
 refine⟨⟨by rw[e];omega,by rw[e];omega,b1,by rw[e];show(x1.1.C4.length:Int)<=_;omega,b3,by rw[e,List.length_append];omega⟩,by show(l.length-IntKind.i64.wrap (v0.1+1)).toNat<(l.length-v0.1).toNat;rw[e];omega⟩
noncomputable section
def boot:List Int:=(Q15 (List.append (List.append (List.append (List.append Z9l Z42) (List.append Z66 Z52)) (List.append (List.append Z63 Z5u) (List.append Z5h Z6))) (List.append (List.append (List.append Z4a Z58) (List.append Qv Que)) (List.append (List.append Qv0 Quu) (List.append Qui Qup))))).1
def Qj0:List Int:=boot++List.replicate (160-boot.length) 0
theorem run87(t0 t1 t2 t3 t4 t5 t6 t7 t8 t9 t10 t11 t12 t13 t14 t15 t16 t17 t18 t19 t20 t21 t22 t23 t24 t25 t26 t27 t28 t29 t30 t31 t32 t33 t34 t35 t36 t37 t38 t39 t40 t41 t42 t43 t44 t45 t46 t47 t48 t49 t50 t51 t52 t53 t54 t55 t56 t57 t58 t59 t60 t61 t62 t63 t64 t65 t66 t67 t68 t69 t70 t71 t72 t73 t74 t75 t76 t77 t78 t79 t80 t81 t82 t83 t84 t85 t86 t87 t88 t89 t90 t91 t92 t93 t94 t95:Int):(Qdp (Q1p 8 4 (Qj0++[t0,t1,t2,t3,t4,t5,t6,t7,t8,t9,t10,t11,t12,t13,t14,t15,t16,t17,t18,t19,t20,t21,t22,t23,t24,t25,t26,t27,t28,t29,t30,t31,t32,t33,t34,t35,t36,t37,t38,t39,t40,t41,t42,t43,t44,t45,t46,t47,t48,t49,t50,t51,t52,t53,t54,t55,t56,t57,t58,t59,t60,t61,t62,t63,t64,t65,t66,t67,t68,t69,t70,t71,t72,t73,t74,t75,t76,t77,t78,t79,t80,t81,t82,t83,t84,t85,t86,t87,t88,t89,t90,t91,t92,t93,t94,t95])).1 [] 87).2.2.2=0:=by kernel_rfl
end
attribute [local irreducible] Q15
theorem qac(i j:List Int)(hi:i.length<=256)(hj:j.length<=256)(e:i++List.replicate (256-i.length) 0=j++List.replicate (256-j.length) 0):Q1p 8 4 i=Q1p 8 4 j:=by
 have w:IntKind.i64.wrap (8*32)=256:=by decide
 have m:Qrs 8=List.replicate 256 0:=by kernel_rfl
 have d: ∀k:List Int,k.length<=256->decide ((k.length:Int)>256)=false:=λk h=>decide_eq_false (by omega)
 have mem: ∀k:List Int,k.length<=256->List.take (min k.length (List.replicate 256 (0:Int)).length) k++List.drop (min k.length (List.replicate 256 (0:Int)).length) (List.replicate 256 0)=k++List.replicate (256-k.length) 0:=λk h=>by
   rw[List.length_replicate,Nat.min_eq_left h,List.take_length,List.drop_replicate]
 have r:Qrs 8=List.replicate 256 0:=by kernel_rfl
 simp only[Q1p,Q88,Tree.m,w,letv,r,d i hi,d j hj]
 simp only[mem i hi,mem j hj,e]
theorem list96(t:List Int)(ht:t.length=96):t=[t.getD 0 0,t.getD 1 0,t.getD 2 0,t.getD 3 0,t.getD 4 0,t.getD 5 0,t.getD 6 0,t.getD 7 0,t.getD 8 0,t.getD 9 0,t.getD 10 0,t.getD 11 0,t.getD 12 0,t.getD 13 0,t.getD 14 0,t.getD 15 0,t.getD 16 0,t.getD 17 0,t.getD 18 0,t.getD 19 0,t.getD 20 0,t.getD 21 0,t.getD 22 0,t.getD 23 0,t.getD 24 0,t.getD 25 0,t.getD 26 0,t.getD 27 0,t.getD 28 0,t.getD 29 0,t.getD 30 0,t.getD 31 0,t.getD 32 0,t.getD 33 0,t.getD 34 0,t.getD 35 0,t.getD 36 0,t.getD 37 0,t.getD 38 0,t.getD 39 0,t.getD 40 0,t.getD 41 0,t.getD 42 0,t.getD 43 0,t.getD 44 0,t.getD 45 0,t.getD 46 0,t.getD 47 0,t.getD 48 0,t.getD 49 0,t.getD 50 0,t.getD 51 0,t.getD 52 0,t.getD 53 0,t.getD 54 0,t.getD 55 0,t.getD 56 0,t.getD 57 0,t.getD 58 0,t.getD 59 0,t.getD 60 0,t.getD 61 0,t.getD 62 0,t.getD 63 0,t.getD 64 0,t.getD 65 0,t.getD 66 0,t.getD 67 0,t.getD 68 0,t.getD 69 0,t.getD 70 0,t.getD 71 0,t.getD 72 0,t.getD 73 0,t.getD 74 0,t.getD 75 0,t.getD 76 0,t.getD 77 0,t.getD 78 0,t.getD 79 0,t.getD 80 0,t.getD 81 0,t.getD 82 0,t.getD 83 0,t.getD 84 0,t.getD 85 0,t.getD 86 0,t.getD 87 0,t.getD 88 0,t.getD 89 0,t.getD 90 0,t.getD 91 0,t.getD 92 0,t.getD 93 0,t.getD 94 0,t.getD 95 0]:=by
 apply List.ext_getElem
 . rw[ht];rfl
 . intro i h1 h2
   have e: ∀j (hj:j<96),[t.getD 0 0,t.getD 1 0,t.getD 2 0,t.getD 3 0,t.getD 4 0,t.getD 5 0,t.getD 6 0,t.getD 7 0,t.getD 8 0,t.getD 9 0,t.getD 10 0,t.getD 11 0,t.getD 12 0,t.getD 13 0,t.getD 14 0,t.getD 15 0,t.getD 16 0,t.getD 17 0,t.getD 18 0,t.getD 19 0,t.getD 20 0,t.getD 21 0,t.getD 22 0,t.getD 23 0,t.getD 24 0,t.getD 25 0,t.getD 26 0,t.getD 27 0,t.getD 28 0,t.getD 29 0,t.getD 30 0,t.getD 31 0,t.getD 32 0,t.getD 33 0,t.getD 34 0,t.getD 35 0,t.getD 36 0,t.getD 37 0,t.getD 38 0,t.getD 39 0,t.getD 40 0,t.getD 41 0,t.getD 42 0,t.getD 43 0,t.getD 44 0,t.getD 45 0,t.getD 46 0,t.getD 47 0,t.getD 48 0,t.getD 49 0,t.getD 50 0,t.getD 51 0,t.getD 52 0,t.getD 53 0,t.getD 54 0,t.getD 55 0,t.getD 56 0,t.getD 57 0,t.getD 58 0,t.getD 59 0,t.getD 60 0,t.getD 61 0,t.getD 62 0,t.getD 63 0,t.getD 64 0,t.getD 65 0,t.getD 66 0,t.getD 67 0,t.getD 68 0,t.getD 69 0,t.getD 70 0,t.getD 71 0,t.getD 72 0,t.getD 73 0,t.getD 74 0,t.getD 75 0,t.getD 76 0,t.getD 77 0,t.getD 78 0,t.getD 79 0,t.getD 80 0,t.getD 81 0,t.getD 82 0,t.getD 83 0,t.getD 84 0,t.getD 85 0,t.getD 86 0,t.getD 87 0,t.getD 88 0,t.getD 89 0,t.getD 90 0,t.getD 91 0,t.getD 92 0,t.getD 93 0,t.getD 94 0,t.getD 95 0][j]'hj=t.getD j 0:=by
     intro j hj
     have:[t.getD 0 0,t.getD 1 0,t.getD 2 0,t.getD 3 0,t.getD 4 0,t.getD 5 0,t.getD 6 0,t.getD 7 0,t.getD 8 0,t.getD 9 0,t.getD 10 0,t.getD 11 0,t.getD 12 0,t.getD 13 0,t.getD 14 0,t.getD 15 0,t.getD 16 0,t.getD 17 0,t.getD 18 0,t.getD 19 0,t.getD 20 0,t.getD 21 0,t.getD 22 0,t.getD 23 0,t.getD 24 0,t.getD 25 0,t.getD 26 0,t.getD 27 0,t.getD 28 0,t.getD 29 0,t.getD 30 0,t.getD 31 0,t.getD 32 0,t.getD 33 0,t.getD 34 0,t.getD 35 0,t.getD 36 0,t.getD 37 0,t.getD 38 0,t.getD 39 0,t.getD 40 0,t.getD 41 0,t.getD 42 0,t.getD 43 0,t.getD 44 0,t.getD 45 0,t.getD 46 0,t.getD 47 0,t.getD 48 0,t.getD 49 0,t.getD 50 0,t.getD 51 0,t.getD 52 0,t.getD 53 0,t.getD 54 0,t.getD 55 0,t.getD 56 0,t.getD 57 0,t.getD 58 0,t.getD 59 0,t.getD 60 0,t.getD 61 0,t.getD 62 0,t.getD 63 0,t.getD 64 0,t.getD 65 0,t.getD 66 0,t.getD 67 0,t.getD 68 0,t.getD 69 0,t.getD 70 0,t.getD 71 0,t.getD 72 0,t.getD 73 0,t.getD 74 0,t.getD 75 0,t.getD 76 0,t.getD 77 0,t.getD 78 0,t.getD 79 0,t.getD 80 0,t.getD 81 0,t.getD 82 0,t.getD 83 0,t.getD 84 0,t.getD 85 0,t.getD 86 0,t.getD 87 0,t.getD 88 0,t.getD 89 0,t.getD 90 0,t.getD 91 0,t.getD 92 0,t.getD 93 0,t.getD 94 0,t.getD 95 0]=(List.range 96).map (λk=>t.getD k 0):=rfl
     simp only[this,List.getElem_map,List.getElem_range]
   rw[e i (by omega),List.getD_eq_getElem?_getD,List.getElem?_eq_getElem h1]
   rfl
theorem qaB(t:List Int)(ht:t.length=96):(Qdp (Q1p 8 4 (Qj0++t)).1 [] 87).2.2.2=0:=by
 rw[list96 t ht]
 exact run87 _ _ _ _ _ _ _ _ _ _ _ _ _ _ _ _ _ _ _ _ _ _ _ _ _ _ _ _ _ _ _ _ _ _ _ _ _ _ _ _ _ _ _ _ _ _ _ _ _ _ _ _ _ _ _ _ _ _ _ _ _ _ _ _ _ _ _ _ _ _ _ _ _ _ _ _ _ _ _ _ _ _ _ _ _ _ _ _ _ _ _ _ _ _ _ _
theorem zac:Qj0.length=160:=by
 have h:boot.length<=160:=qe.1
 unfold Qj0
 rw[List.length_append,List.length_replicate];omega
def out(f:Int)(m m':List Int):Prop:= ∀j:Nat,¬(f*32<=j/\(j:Int)<f*32+32)->m'.getD j 0=m.getD j 0
theorem Qok(f:Int)(m:List Int):out f m m:=λ_ _=>rfl
theorem getDset(l:List Int)(i j:Nat)(v:Int)(h:i≠j):(l.set i v).getD j 0=l.getD j 0:=by
 simp only[List.getD_eq_getElem?_getD,List.getElem?_set_ne h]
theorem Q3a{P:Nat}{m:List Int}(h:Q1 P m):Q0v m=P:=by
 obtain⟨h1,h2,h3,_⟩:=h
 simp only[Q0v,Q7z,Tree.m]
 have e:(m.length:Int)=32*P:=by omega
 rw[e]
 have e1:(Int.tmod (32*(P:Int)) 32 !=0)=false:=by simp [Int.mul_tmod_right]
 have e2:decide ((32*(P:Int))>1024)=false:=decide_eq_false (by omega)
 rw[e1,e2]
 simp only[cond_false]
 rw[Int.mul_tdiv_cancel_left _ (by decide),IntKind.wrap_i64];omega
theorem xV{P:Nat}{m:List Int}(h:Q1 P m)(f:Int):Q4w m f=true->0<=f/\f<P:=by
 have hp:=Q3a h
 simp only[Q4w,Q7s,Tree.m,letv,hp]
 cases h1:decide (f>=0)
 . intro h;cases h
 . intro h;exact⟨of_decide_eq_true h1,of_decide_eq_true h⟩
theorem Qyl{P:Nat}{m:List Int}(h:Q1 P m)(f:Int)(s:List UInt8):(Q33 m f s).w (λr=>Q1 P r.1/\out f m r.1/\(r.2=false->r.1=m)):=by
 have hcl:Q03 m=m:=rfl
 have h2:=h.p2
 unfold Q33
 refine w_an (Q8c h) (w_lv λx0 hx0=>w_lv λx1 hx1=> ?_)
 rw[hcl]at hx0;subst hx0
 refine w_br (λ_=>⟨h,Qok _ _,λ_=>rfl⟩) λhb=>w_br (λ_=>⟨h,Qok _ _,λ_=>rfl⟩) λhs=> ?_
 have hb:x1=true:=by simpa using hb
 obtain⟨f0,f1⟩:=xV h f (hx1.symm.trans hb)
 have hs:(s.length:Int)=128:=by simpa using hs
 refine w_lp (inv:=λz:Int×List Int=>0<=z.1/\z.1<=32/\Q1 P z.2/\out f x0 z.2) (μ:=Qa6 x0 f s) ⟨show(0:Int)<=0 by decide,show(0:Int)<=32 by decide,h,Qok _ _⟩ (Nat.lt_succ_self _) λz ⟨z1,z2,z3,z4⟩=> ?_
 refine w_br (λhb=> ?_) (λ_=>⟨z3,z4,λh=>by cases h⟩)
 have hb:=of_decide_eq_true hb
 have e1:IntKind.i64.wrap (4*z.1)=4*z.1:=by rw[IntKind.wrap_i64];omega
 have e2:IntKind.i64.wrap (IntKind.i64.wrap (4*z.1)+4)=4*z.1+4:=by rw[IntKind.wrap_i64,IntKind.wrap_i64];omega
 have e3:IntKind.i64.wrap (IntKind.i64.wrap (f*32)+z.1)=f*32+z.1:=by rw[IntKind.wrap_i64,IntKind.wrap_i64];omega
 have hl:=z3.len
 have hlen:(List.take (Int.toNat (IntKind.i64.wrap (IntKind.i64.wrap (4*z.1)+4))-Int.toNat (IntKind.i64.wrap (4*z.1))) (List.drop (Int.toNat (IntKind.i64.wrap (4*z.1))) s)).length=4:=by
   rw[e2,e1,List.length_take,List.length_drop];omega
 refine w_cn (decide_eq_true (by rw[e2,e1];omega)) ?_
 refine w_cn (decide_eq_true (by rw[hlen];decide)) (w_cn (decide_eq_true (by rw[hlen];decide)) (w_cn (decide_eq_true (by rw[hlen];decide)) (w_cn (decide_eq_true (by rw[hlen];decide)) (w_cn (by rw[e3];simp [Nat.blt];omega) (w_nx ?_)))))
 show(_/\_/\Q1 P (List.set _ _ _)/\out f x0 (List.set _ _ _))/\(_:Nat)<_
 have ew:IntKind.i64.wrap (z.1+1)=z.1+1:=by rw[IntKind.wrap_i64];omega
 rw[e3]
 refine⟨⟨by rw[ew];omega,by rw[ew];omega,⟨by rw[List.length_set];exact hl,z3.p1,z3.p2,Z3q z3.u (U_or _ _) _⟩,λj hj=> ?_⟩,by show(32-IntKind.i64.wrap (z.1+1)).toNat<(32-z.1).toNat;rw[ew];omega⟩
 rw[getDset _ _ _ _ (by omega)]
 exact z4 j hj
theorem zaB(w:List Int)(h:w.length<=32):(Q4p w).w (λr=>r.length=4*w.length):=by
 have e0:IntKind.i64.wrap (4*(w.length:Int))=4*w.length:=by rw[IntKind.wrap_i64];omega
 unfold Q4p
 refine w_cn (by rw[e0];simp [Nat.blt,D.plain];omega) ?_
 refine w_lp (inv:=λz:Int×List Int=>0<=z.1/\z.1<=w.length/\(z.2.length:Int)=4*z.1) (μ:=Q6t w) ⟨by decide,by show(0:Int)<=w.length;omega,rfl⟩ (Nat.lt_succ_self _) λz ⟨z1,z2,z3⟩=> ?_
 refine w_br (λhb=> ?_) (λhb=> ?_)
 . have hb:=of_decide_eq_true hb
   have ew:IntKind.i64.wrap (z.1+1)=z.1+1:=by rw[IntKind.wrap_i64];omega
   refine w_cn (by simp [Nat.blt];omega) (w_cn (decide_eq_true (by omega)) (w_nx ?_))
   show(_/\_/\_)/\(_:Nat)<_
   refine⟨⟨by rw[ew];omega,by rw[ew];omega,by rw[ew,List.length_append];simp only[List.length_cons,List.length_nil];omega⟩,by show(w.length-IntKind.i64.wrap (z.1+1)).toNat<(w.length-z.1).toNat;rw[ew];omega⟩
 . have hb:=of_decide_eq_false hb
   show(bytesOf z.2).length=_
   rw[Qgm];omega
theorem Zf5{P:Nat}{m:List Int}(h:Q1 P m)(f:Int):(Q62 m f).w (λr=>0<=f->f<P->r.1.length=128):=by
 have hl:=h.len
 have h2:=h.p2
 unfold Q62
 refine w_lv λx0 hx0=>w_br (λhb=>λf0 f1=> ?_) (λhb=> ?_)
 . have hp:=Q3a h
   have hb:x0=false:=by simpa using hb
   rw[hb]at hx0
   simp only[Q4w,Q7s,Tree.m,letv,hp]at hx0
   rw[decide_eq_true f0]at hx0
   exact absurd f1 (of_decide_eq_false hx0.symm)
 . have hb:x0=true:=by simpa using hb
   obtain⟨f0,f1⟩:=xV h f (hx0.symm.trans hb)
   have e1:IntKind.i64.wrap (f*32)=f*32:=by rw[IntKind.wrap_i64];omega
   have e2:IntKind.i64.wrap (IntKind.i64.wrap (f*32)+32)=f*32+32:=by rw[IntKind.wrap_i64,IntKind.wrap_i64];omega
   have hlen:(List.take (Int.toNat (IntKind.i64.wrap (IntKind.i64.wrap (f*32)+32))-Int.toNat (IntKind.i64.wrap (f*32))) (List.drop (Int.toNat (IntKind.i64.wrap (f*32))) m)).length=32:=by
     rw[e2,e1,List.length_take,List.length_drop];omega
   refine w_cn (by rw[e2,e1];simp [Nat.blt];omega) ?_
   refine w_an (by show List.length _<=1000000000000;rw[hlen];decide) (w_lv λx1 h1=> ?_)
   have h1:x1.length=4*(List.take (Int.toNat (IntKind.i64.wrap (IntKind.i64.wrap (f*32)+32))-Int.toNat (IntKind.i64.wrap (f*32))) (List.drop (Int.toNat (IntKind.i64.wrap (f*32))) m)).length:=by rw[h1];exact(Tree.pp (zaB _ (Nat.le_of_eq hlen))).2
   intro _ _
   show x1.length=128
   rw[h1,hlen]
theorem Zhk{f:Int}(hf:U f){P:Nat}(hP:P<=32)(h:decide (IntKind.u64.wrap f<IntKind.u64.wrap (P:Int))=true):0<=f/\f<P:=by
 have h:=of_decide_eq_true h
 obtain⟨h1,h2⟩:=hf
 rw[IntKind.wrap_u64,IntKind.wrap_u64,Int.emod_eq_of_lt h1 (by omega),Int.emod_eq_of_lt (by omega) (by omega)]at h
 exact⟨h1,h⟩
theorem Zkv{P:Nat}{m:List Int}(h:Q1 P m){d:Q0e}(hd:Q8j d)(e:Q0f):(Q6h d m e).w (λr=>Q8j r.1/\Q1 P r.2.1/\out d.B3 m r.2.1/\(r.2.2=false->r.2.1=m)/\(∀p,Q1c d p=true->Q1c r.1 p=true)):=by
 have hcl:Q03 m=m:=rfl
 have keep: ∀b:Bool,Q8j d/\Q1 P m/\out d.B3 m m/\(b=false->m=m)/\(∀p,Q1c d p=true->Q1c d p=true):=λb=>⟨hd,h,Qok _ _,λ_=>rfl,λ_ h=>h⟩
 have blk: ∀{p:Int},Q1c d p=true->decide (d.Blocks>64)=false:=fun{p} hm=>by
   cases hb:decide (d.Blocks>64)
   . rfl
   . have:Q1c d p=false:=by simp only[Q1c,Q5s,Tree.m];rw[hb];rfl
     rw[this]at hm;cases hm
 have m2: ∀p,Q1c d p=true->Q1c {Blocks:=d.Blocks,B9:=d.B9,B4:=d.B4,C1:=2,D8:=0,B7:=0,B3:=0,C3:=[]} p=true:=λp hm=>by
   simp only[Q1c,Q5s,Tree.m];rw[blk hm];rfl
 have m3: ∀p,Q1c d p=true->Q1c {Blocks:=d.Blocks,B9:=d.B9,B4:=d.B4,C1:=3,D8:=0,B7:=0,B3:=0,C3:=[]} p=true:=λp hm=>by
   simp only[Q1c,Q5s,Tree.m];rw[blk hm];rfl
 unfold Q6h
 refine w_br (λ_=>w_an (Q8c h) (w_lv λx hx=>by rw[hcl]at hx;subst hx;exact keep _)) λ_=>w_br (λ_=>w_an (Q8c h) (w_lv λx hx=>by rw[hcl]at hx;subst hx;exact keep _)) λ_=>w_br (λ_=>w_an (Q8c h) (w_lv λx hx=>by rw[hcl]at hx;subst hx;exact keep _)) λ_=>w_an (Q8c h) (w_lv λx3 hx3=> ?_)
 rw[hcl]at hx3;subst hx3
 have fin: ∀{m':List Int},Q1 P m'->out d.B3 x3 m'->(Tree.br (e.N==1) (.lf (({Blocks:=d.Blocks,B9:=d.B9,B4:=d.B4,C1:=2,D8:=0,B7:=0,B3:=0,C3:=[]}:Q0e),m',true)) (.lf (({Blocks:=d.Blocks,B9:=d.B9,B4:=d.B4,C1:=3,D8:=0,B7:=0,B3:=0,C3:=[]}:Q0e),m',true))).w (λr=>Q8j r.1/\Q1 P r.2.1/\out d.B3 x3 r.2.1/\(r.2.2=false->r.2.1=x3)/\(∀p,Q1c d p=true->Q1c r.1 p=true)):=λhm ho=>
   w_br (λ_=>⟨⟨hd.block,hd.frame,U_0,U_0⟩,hm,ho,(λh=>by cases h),m2⟩) (λ_=>⟨⟨hd.block,hd.frame,U_0,U_0⟩,hm,ho,(λh=>by cases h),m3⟩)
 have nod:(Tree.br (!decide (e.C8=[])) (.lf (d,x3,false)) (Tree.br (e.N==1) (.lf (({Blocks:=d.Blocks,B9:=d.B9,B4:=d.B4,C1:=2,D8:=0,B7:=0,B3:=0,C3:=[]}:Q0e),x3,true)) (.lf (({Blocks:=d.Blocks,B9:=d.B9,B4:=d.B4,C1:=3,D8:=0,B7:=0,B3:=0,C3:=[]}:Q0e),x3,true)))).w (λr=>Q8j r.1/\Q1 P r.2.1/\out d.B3 x3 r.2.1/\(r.2.2=false->r.2.1=x3)/\(∀p,Q1c d p=true->Q1c r.1 p=true)):=
   w_br (λ_=>keep _) (λ_=>fin h (Qok _ _))
 refine w_br (λ_=>w_br (λ_=>w_lv λx4 hx4=>w_br (λ_=>keep _) λhb=> ?_) (λ_=>nod)) (λ_=>nod)
 have hp:=Q3a h
 have hb:x4=true:=by simpa using hb
 rw[hb]at hx4
 simp only[Q97,Qc9,Tree.m,letv,hp]at hx4
 obtain⟨f0,f1⟩:=Zhk hd.opFrame h.p2 hx4.symm
 have ef:IntKind.i64.wrap d.B3=d.B3:=by have:=h.p2;rw[IntKind.wrap_i64];omega
 refine Q0d (Qyl h _ _) λx5 ⟨h5,o5,k5⟩=> ?_
 rw[ef]at o5
 exact w_br (λhf=>⟨hd,h5,o5,λ_=>k5 (by simpa using hf),λ_ h=>h⟩) (λ_=>fin h5 o5)
theorem ye{P:Nat}{m:List Int}(h:Q1 P m){n:Q0q}(hn:Qie n)(frame:List UInt8):(Q9k n m frame).w (λr=>Qie r.1/\Q1 P r.2.1/\out n.C0 m r.2.1/\(r.2.2=false->r.2.1=m)/\(∀p,Q5l n p=true->Q5l r.1 p=true)):=by
 have hcl:Q03 m=m:=rfl
 have keep:Qie n/\Q1 P m/\out n.C0 m m/\(false=false->m=m)/\(∀p,Q5l n p=true->Q5l n p=true):=⟨hn,h,Qok _ _,λ_=>rfl,λ_ h=>h⟩
 unfold Q9k
 refine w_br (λ_=>w_an (Q8c h) (w_lv λx hx=>by rw[hcl]at hx;subst hx;exact keep)) λhpo=>w_br (λ_=>w_an (Q8c h) (w_lv λx hx=>by rw[hcl]at hx;subst hx;exact keep)) λl1=>w_br (λ_=>w_an (Q8c h) (w_lv λx hx=>by rw[hcl]at hx;subst hx;exact keep)) λl2=>w_lv λx3 hx3=>w_br (λ_=>w_an (Q8c h) (w_lv λx hx=>by rw[hcl]at hx;subst hx;exact keep)) λhb=> ?_
 have l1:=of_decide_eq_false l1
 have l2:=of_decide_eq_false l2
 have hp:=Q3a h
 have hb:x3=true:=by simpa using hb
 rw[hb]at hx3
 simp only[Q9t,Qer,Tree.m,letv,hp]at hx3
 obtain⟨f0,f1⟩:=Zhk hn.buffer h.p2 hx3.symm
 have ef:IntKind.i64.wrap n.C0=n.C0:=by have:=h.p2;rw[IntKind.wrap_i64];omega
 refine Q0d (Zf5 h _) λx5 h5=> ?_
 rw[ef]at h5
 have h5:=h5 f0 f1
 have hmax:(maxLen:Nat)=9223372036854775807:=rfl
 refine w_cn (decide_eq_true (by omega)) (w_cn (decide_eq_true (by simp only[List.length_take,List.length_drop,hmax];omega)) (Q0d (Qyl h _ _) λx6 ⟨h6,o6,_⟩=> ?_))
 rw[ef]at o6
 have hg:IntKind.u32.wrap (frame.length:Int)=frame.length:=by rw[IntKind.wrap_u32];omega
 refine⟨⟨hn.frame,hn.len,U_0,Q0s _⟩,h6,o6,(λh=>by cases h),λp _=> ?_⟩
 simp only[Q5l,Qjs,Tree.m]
 rw[hg,decide_eq_true (show(frame.length:Int)>=1 by omega),decide_eq_true (show(frame.length:Int)<=128 by omega)]
 rfl
theorem xac(c:Q0b)(b:Int):(Qah c b).w (λr=>Q23 c=true->Q23 r.1=true):=by
 have hmax:(maxLen:Nat)=9223372036854775807:=rfl
 unfold Qah
 refine w_br (λ_=>λh=>h) (λhb=> ?_)
 have hb:=of_decide_eq_false hb
 refine w_cn (decide_eq_true (by rw[hmax];omega)) ?_
 intro _
 show decide (((c.D3++[_]).length:Int)<=16)=true
 rw[List.length_append,List.length_singleton]
 exact decide_eq_true (by omega)
theorem yG(t:Q0g)(h:Q3z t=true):Q3z (Qk1 t).1=true:=by
 simp only[Qk1,Qne,Tree.m]
 cases ha:t.D2
 . exact h
 . rfl
theorem qf(m:Q00):Q0x m=(Q23 m.A3&&(Q3z m.B0&&(Q1c m.B1 (Q0v m.Mem)&&(Q5l m.C5 (Q0v m.Mem)&&Q2e m.A2 (Q0v m.Mem))))):=by
 simp only[Q0x,Q1k,Tree.m,letv]
 cases Q23 m.A3<;>cases Q3z m.B0<;>cases Q1c m.B1 (Q0v m.Mem)<;>cases Q5l m.C5 (Q0v m.Mem)<;>rfl
theorem xaB{b c:Q07}(h:c.C2=b.C2)(p:Int):Q2e c p=Q2e b p:=by
 simp only[Q2e,Q3n,Tree.m,h]
theorem cnd{a x y:Bool}(h:x=true->y=true):(bif a then false else x)=true->(bif a then false else y)=true:=by cases a<;>simp_all
def chain(b1 b2 b3 b4 b5 b6 b7 w h dev:Bool):Bool:=bif b1 then false else bif b2 then false else bif b3 then false else bif b4 then false else bif b5 then false else bif b6 then false else bif b7 then false else bif w then(bif h then false else dev) else dev
theorem Zko{b1 b2 b3 b4 b5 b6 b7 w h d d':Bool}(hd:d=true->d'=true):chain b1 b2 b3 b4 b5 b6 b7 w h d=true->chain b1 b2 b3 b4 b5 b6 b7 w h d'=true:=by
 refine cnd (cnd (cnd (cnd (cnd (cnd (cnd ?_))))))
 cases w
 . exact hd
 . cases h
   . exact hd
   . exact λh=>h
def mayC(p:Int)(c:Q04)(ct:Int)(w h dev:Bool):Bool:=chain (p==0) (c.X.a0 !=0) (decide (c.B6.a0>31)) (decide (c.B6.a7>31)) (decide (c.B6.a6>255)) (Int.tmod c.B6.a1 4 !=0) (decide (ct>1152921504606846976)) w h dev
theorem xf{p:Int}{c:Q04}{ct:Int}{w h d d':Bool}(hd:d=true->d'=true)(g:mayC p c ct w h d=true):mayC p c ct w h d'=true:=Zko hd g
theorem zV(m:Q00):Q1a m=mayC (Q0v m.Mem) m.B2 m.A1 m.A4 m.A7 (Q0x m):=rfl
theorem Qsj{m n:Q00}(hp:Q0v n.Mem=Q0v m.Mem)(hcpu:n.B2=m.B2)(hct:n.A1=m.A1)(hw:n.A4=m.A4)(hh:n.A7=m.A7)
   (hc:Q23 m.A3=true->Q23 n.A3=true) (ht:Q3z m.B0=true->Q3z n.B0=true) (hd: ∀p,Q1c m.B1 p=true->Q1c n.B1 p=true) (hn: ∀p,Q5l m.C5 p=true->Q5l n.C5 p=true) (hb:n.A2.C2=m.A2.C2) (h:Q1a m=true):Q1a n=true:=by
 have dev:Q0x m=true->Q0x n=true:=λh=>by
   rw[qf]at h⊢
   simp only[Bool.and_eq_true]at h⊢
   rw[hp,xaB hb]
   exact⟨hc h.1,ht h.2.1,hd _ h.2.2.1,hn _ h.2.2.2.1,h.2.2.2.2⟩
 rw[zV]at h⊢
 rw[hp,hcpu,hct,hw,hh]
 exact xf dev h
section
variable {P:Nat} {m:List Int} (h:Q1 P m)
include h
theorem dpage{f:Int}(hf:U f){b:Bool}(hx:b=Q97 m f)(hb:b=true):0<=f/\f<P:=by
 have hp:=Q3a h
 rw[hb]at hx
 simp only[Q97,Qc9,Tree.m,letv,hp]at hx
 exact Zhk hf h.p2 hx.symm
theorem npage{f:Int}(hf:U f){b:Bool}(hx:b=Q9t m f)(hb:b=true):0<=f/\f<P:=by
 have hp:=Q3a h
 rw[hb]at hx
 simp only[Q9t,Qer,Tree.m,letv,hp]at hx
 exact Zhk hf h.p2 hx.symm
def keepD(P:Nat)(d d':Q0e):Prop:=Q8j d'/\(Q1c d P=true->Q1c d' P=true)
theorem zf{d:Q0e}(hd:Q8j d){cmd:Int}(hc:cmd=1\/cmd=2)(at0:Int):(Qb7 d m cmd at0).w (λr=>keepD P d r.1/\r.2.length<=1):=by
 have h2:=h.p2
 have st3:(d.C1 !=0)=false->keepD P d {Blocks:=d.Blocks,B9:=d.B9,B4:=d.B4,C1:=3,D8:=d.D8,B7:=d.B7,B3:=d.B3,C3:=d.C3}:=λhs=>by
   have hs:d.C1=0:=by simpa using hs
   refine⟨⟨hd.block,hd.frame,hd.opBlock,hd.opFrame⟩,λhm=> ?_⟩
   simp only[Q1c,Q5s,Tree.m,hs]at hm⊢
   exact hm
 have blk:Q1c d P=true->decide (d.Blocks>64)=false:=λhm=>by
   cases hb:decide (d.Blocks>64)
   . rfl
   . have:Q1c d P=false:=by simp only[Q1c,Q5s,Tree.m];rw[hb];rfl
     rw[this]at hm;cases hm
 unfold Qb7
 refine w_br (λ_=>⟨⟨hd,λh=>h⟩,Nat.zero_le _⟩) λhs=>w_br (λ_=>⟨st3 hs,Nat.zero_le _⟩) λhb=>w_lv λx0 hx=>w_br (λ_=>⟨st3 hs,Nat.zero_le _⟩) λhp=> ?_
 have hb:=of_decide_eq_false hb
 obtain⟨f0,f1⟩:=dpage h hd.frame hx (by simpa using hp)
 have ef:IntKind.i64.wrap d.B4=d.B4:=by rw[IntKind.wrap_i64];omega
 have e1:decide (d.B9<d.Blocks)=true:=decide_eq_true (by omega)
 have e2:decide (IntKind.i64.wrap d.B4<(P:Int))=true:=by rw[ef];exact decide_eq_true f1
 refine w_br (λhcm=>Q0d (Zf5 h _) λx1 h1=> ?_) (λhcm=> ?_)
 . rw[ef]at h1
   have h1:=h1 f0 f1
   have hcm:=eq_of_beq hcm
   subst hcm
   refine w_lv λx2 _=>⟨⟨⟨hd.block,hd.frame,hd.block,hd.frame⟩,λhm=> ?_⟩,Nat.le_refl _⟩
   simp only[Q1c,Q5s,Q8z,Q6s,Tree.m,letv,blk hm,e1,e2,h1]
   rfl
 . have hc:cmd=1:=by
     rcases hc with h|h
     . exact h
     . rw[h]at hcm;exact absurd hcm (by decide)
   subst hc
   refine w_lv λx2 _=>⟨⟨⟨hd.block,hd.frame,hd.block,hd.frame⟩,λhm=> ?_⟩,Nat.le_refl _⟩
   simp only[Q1c,Q5s,Q8z,Q6s,Tree.m,letv,blk hm,e1,e2]
   rfl
theorem qad{d:Q0e}(hd:Q8j d)(port:Int){v:Int}(hv:U v)(at0:Int):(Qgh d m port v at0).w (λr=>keepD P d r.1/\r.2.length<=1):=by
 have keep:keepD P d d:=⟨hd,λh=>h⟩
 have e1: ∀{k:Int},(v==k)=true->IntKind.i64.wrap v=k:=λhk=>by
   have:=eq_of_beq hk
   obtain⟨a,b⟩:=hv
   rw[IntKind.wrap_i64];omega
 unfold Qgh
 refine w_br (λ_=>⟨⟨⟨hv,hd.frame,hd.opBlock,hd.opFrame⟩,λh=>h⟩,Nat.zero_le _⟩) λ_=>w_br (λ_=>⟨⟨⟨hd.block,hv,hd.opBlock,hd.opFrame⟩,λh=>h⟩,Nat.zero_le _⟩) λ_=>w_br (λ_=>w_br (λhk=>Q0d (zf h hd (.inl (e1 hk)) _) λx hx=>hx) λ_=>w_br (λhk=>Q0d (zf h hd (.inr (e1 hk)) _) λx hx=>hx) λ_=>w_br (λ_=>w_lv λx hx=>w_br (λhb=> ?_) (λ_=>⟨keep,Nat.zero_le _⟩)) (λ_=>⟨keep,Nat.zero_le _⟩)) (λ_=>⟨keep,Nat.zero_le _⟩)
 refine⟨⟨⟨hd.block,hd.frame,hd.opBlock,hd.opFrame⟩,λhm=> ?_⟩,Nat.zero_le _⟩
 rw[hb]at hx
 simp only[Q9i,Qj1,Tree.m]at hx
 cases h2:d.C1==2
 . rw[h2]at hx
   have h3:d.C1=3:=eq_of_beq hx.symm
   simp only[Q1c,Q5s,Tree.m,h3]at hm⊢
   exact hm
 . have h3:d.C1=2:=eq_of_beq h2
   simp only[Q1c,Q5s,Tree.m,h3]at hm⊢
   exact hm
def keepN(P:Nat)(n n':Q0q):Prop:=Qie n'/\(Q5l n P=true->Q5l n' P=true)
theorem qaC{n:Q0q}(hn:Qie n)(at0:Int):(Qge n m at0).w (λr=>r.length<=1):=by
 have h2:=h.p2
 unfold Qge
 refine w_br (λ_=>Nat.zero_le _) λl1=>w_br (λ_=>Nat.zero_le _) λl2=>w_lv λx0 hx=>w_br (λ_=>Nat.zero_le _) λhp=>Q0d (Zf5 h _) λx1 h1=> ?_
 have l1:=of_decide_eq_false l1
 have l2:=of_decide_eq_false l2
 obtain⟨f0,f1⟩:=npage h hn.frame hx (by simpa using hp)
 have ef:IntKind.i64.wrap n.B4=n.B4:=by rw[IntKind.wrap_i64];omega
 rw[ef]at h1
 have h1:=h1 f0 f1
 exact w_cn (decide_eq_true (by omega)) (Nat.le_refl _)
theorem zaC{n:Q0q}(hn:Qie n)(port:Int){v:Int}(hv:U v)(at0:Int):(Qjo n m port v at0).w (λr=>keepN P n r.1/\r.2.length<=1):=by
 have h2:=h.p2
 have keep:keepN P n n:=⟨hn,λh=>h⟩
 unfold Qjo
 refine w_br (λ_=>⟨⟨⟨hv,hn.len,hn.buffer,hn.got⟩,λh=>h⟩,Nat.zero_le _⟩) λ_=>w_br (λ_=>⟨⟨⟨hn.frame,hv,hn.buffer,hn.got⟩,λh=>h⟩,Nat.zero_le _⟩) λ_=>w_br (λ_=>w_br (λ_=>Q0d (qaC h hn _) λx hx=>⟨keep,hx⟩) λ_=>w_br (λ_=>w_lv λx hx=>w_br (λhb=>w_br (λnp=>w_br (λnr=> ?_) (λ_=>⟨keep,Nat.zero_le _⟩)) (λ_=>⟨keep,Nat.zero_le _⟩)) (λ_=>⟨keep,Nat.zero_le _⟩)) λ_=>w_br (λ_=> ?_) (λ_=>⟨keep,Nat.zero_le _⟩)) (λ_=>⟨keep,Nat.zero_le _⟩)
 . obtain⟨f0,f1⟩:=npage h hn.frame hx hb
   have np:n.C7=false:=by simpa using np
   have nr:n.B8=false:=by simpa using nr
   have e2:decide (IntKind.i64.wrap n.B4>=(P:Int))=false:=decide_eq_false (by rw[IntKind.wrap_i64];omega)
   refine⟨⟨⟨hn.frame,hn.len,hn.frame,hn.got⟩,λhm=> ?_⟩,Nat.zero_le _⟩
   simp only[Q5l,Qjs,Tree.m,np,nr,e2]at hm⊢
   cases hb:(n.C0 !=0)
   . rw[hb]at hm;exact hm
   . rw[hb]at hm;cases hm
 . refine⟨⟨⟨hn.frame,hn.len,hn.buffer,U_0⟩,λhm=> ?_⟩,Nat.zero_le _⟩
   simp only[Q5l,Qjs,Tree.m]at hm⊢
   revert hm
   cases n.C7<;>cases n.B8<;>cases decide (IntKind.i64.wrap n.C0>=(P:Int))<;>cases(n.C0 !=0)<;>simp
end
theorem zad(t:Q0g)(v:Int):Q3z (Qjj t v)=true:=by
 simp only[Qjj,Ql7,Q3z,Ql1,Tree.m]
 cases h:(v !=0)
 . have:v=0:=by simpa using h
   subst this;rfl
 . rfl
theorem Qpo{a:Int}(k:Nat)(hk:k<=32):ishr .u32 a k=a/2^k:=by
 unfold ishr
 have e:min (k:Int).toNat IntKind.u32.bits=k:=by show min (k:Int).toNat 32=k;omega
 have hp:(0:Int)<2^k:=Int.pow_pos (by decide)
 rw[e,Int.fdiv_eq_ediv_of_nonneg _ (Int.le_of_lt hp)]
def Zlk(x:Int)(n:Nat):Prop:=x<2^n/\(n=0\/(2:Int)^(n-1)<=x)
theorem Z92{x q:Int}{n k:Nat}(hq:q=x/2^k)(h0:0<q)(h:Zlk q n):Zlk x (n+k):=by
 have hp:(0:Int)<2^k:=Int.pow_pos (by decide)
 obtain⟨h1,h2⟩:=h
 have hn:n≠0:=λe=>by subst e;simp at h1;omega
 refine⟨?_, .inr ?_⟩
 . rw[Int.pow_add]
   have:x<(x/2^k+1)*2^k:=Int.lt_ediv_add_one_mul_self x hp
   have h3:(x/2^k+1)*2^k<=2^n*2^k:=Int.mul_le_mul_of_nonneg_right (by omega) (Int.le_of_lt hp)
   omega
 . have h2:=h2.resolve_left hn
   have e:n+k-1=(n-1)+k:=by omega
   rw[e,Int.pow_add]
   have h3:(2:Int)^(n-1)*2^k<=q*2^k:=Int.mul_le_mul_of_nonneg_right h2 (Int.le_of_lt hp)
   have h4:q*2^k<=x:=by rw[hq];exact Int.ediv_mul_le x (Int.ne_of_gt hp)
   omega
theorem vG{x:Int}{n p:Nat}(h:Zlk x n)(hx:x<2^p):n<=p:=by
  obtain⟨h1,h2⟩:=h
  rcases h2 with h2|h2
  . omega
  . rcases Nat.lt_or_ge p n with hlt|hge
    . have:(2:Int)^p<=2^(n-1):=by
        have:=Nat.pow_le_pow_right (show 0<2 by omega) (show p<=n-1 by omega)
        exact_mod_cast this
      omega
    . exact hge
theorem Zgv{x:Int}{n p:Nat}(h:Zlk x n)(hn:n<=p):x<2^p:=by
 have:(2:Int)^n<=2^p:=by
   have:=Nat.pow_le_pow_right (show 0<2 by omega) hn
   exact_mod_cast this
 exact Int.lt_of_lt_of_le h.1 this
def lenChk(i:Nat):Bool:=match(Q1e (i:Int)) with
 | .ofNat n=>decide ((i:Int)<2^n)&&(Nat.beq n 0||decide ((2:Int)^(n-1)<=i))&&decide (n<=8)
 |_=>false
theorem Qs1{q:Int}(h0:0<=q)(h1:q<256): ∃n:Nat,Q1e q=n/\Zlk q n/\n<=8:=by
 have all:List.all (List.range 256) lenChk=true:=by kernel_rfl
 have:=List.all_eq_true.1 all q.toNat (List.mem_range.2 (by omega))
 have hq:((q.toNat:Nat):Int)=q:=by omega
 unfold lenChk at this
 rw[hq]at this
 split at this
 . rename_i n hn
   simp only[Bool.and_eq_true,Bool.or_eq_true,decide_eq_true_eq]at this
   refine⟨n,hn,⟨this.1.1,?_⟩,this.2⟩
   rcases this.1.2 with h|h
   . exact .inl (Nat.eq_of_beq_eq_true h)
   . exact .inr h
 . cases this
theorem xaC{x:Int}(h:U x)(hx:16777216<=x):Q1e x=24+Q1e (x/16777216):=by
 obtain⟨h0,h1⟩:=h
 have s16:ishr .u32 x 16=x/65536:=Qpo 16 (by omega)
 have s24:ishr .u32 (x/65536) 8=x/16777216:=by rw[show((8:Int))=((8:Nat):Int) from rfl,Qpo 8 (by omega)];omega
 have d1:decide (x>=65536)=true:=decide_eq_true (by omega)
 have d2:decide (x/65536>=256)=true:=decide_eq_true (by omega)
 have d3:decide (x/16777216>=65536)=false:=decide_eq_false (by omega)
 have d4:decide (x/16777216>=256)=false:=decide_eq_false (by omega)
 have u:IntKind.u8.wrap (x/16777216)=x/16777216:=by rw[IntKind.wrap_u8];omega
 simp only[Q1e,Q1n,Tree.m,s16,s24,d1,d2,d3,d4,u,cond_true,cond_false]
 generalize(List.getD _ (Int.toNat (x/16777216)) (0:UInt8))=b
 have hb:=UInt8.toNat_lt b
 rw[IntKind.wrap_i64,IntKind.wrap_i64,IntKind.wrap_i64,IntKind.wrap_i64]
 omega
theorem qaD{x:Int}(h0:65536<=x)(h1:x<16777216):Q1e x=16+Q1e (x/65536):=by
 have s16:ishr .u32 x 16=x/65536:=Qpo 16 (by omega)
 have d1:decide (x>=65536)=true:=decide_eq_true (by omega)
 have d2:decide (x/65536>=256)=false:=decide_eq_false (by omega)
 have d3:decide (x/65536>=65536)=false:=decide_eq_false (by omega)
 have u:IntKind.u8.wrap (x/65536)=x/65536:=by rw[IntKind.wrap_u8];omega
 simp only[Q1e,Q1n,Tree.m,s16,d1,d2,d3,u,cond_true,cond_false]
 generalize(List.getD _ (Int.toNat (x/65536)) (0:UInt8))=b
 have hb:=UInt8.toNat_lt b
 rw[IntKind.wrap_i64,IntKind.wrap_i64,IntKind.wrap_i64]
 omega
theorem len_8{x:Int}(h0:256<=x)(h1:x<65536):Q1e x=8+Q1e (x/256):=by
 have s8:ishr .u32 x 8=x/256:=Qpo 8 (by omega)
 have d1:decide (x>=65536)=false:=decide_eq_false (by omega)
 have d2:decide (x>=256)=true:=decide_eq_true (by omega)
 have d3:decide (x/256>=65536)=false:=decide_eq_false (by omega)
 have d4:decide (x/256>=256)=false:=decide_eq_false (by omega)
 have u:IntKind.u8.wrap (x/256)=x/256:=by rw[IntKind.wrap_u8];omega
 simp only[Q1e,Q1n,Tree.m,s8,d1,d2,d3,d4,u,cond_true,cond_false]
 generalize(List.getD _ (Int.toNat (x/256)) (0:UInt8))=b
 have hb:=UInt8.toNat_lt b
 rw[IntKind.wrap_i64,IntKind.wrap_i64,IntKind.wrap_i64,IntKind.wrap_i64]
 omega
theorem Zkc{x:Int}(h:U x): ∃n:Nat,Q1e x=n/\Zlk x n:=by
  obtain⟨h0,h1⟩:=h
  rcases Int.lt_or_le x 256 with a|a
  . obtain⟨n,e,l,_⟩:=Qs1 h0 a
    exact⟨n,e,l⟩
  . rcases Int.lt_or_le x 65536 with b|b
    . obtain⟨n,e,l,_⟩:=Qs1 (q:=x/256) (by omega) (by omega)
      exact⟨n+8,by rw[len_8 a b,e];omega,Z92 (k:=8) rfl (by omega) l⟩
    . rcases Int.lt_or_le x 16777216 with c|c
      . obtain⟨n,e,l,_⟩:=Qs1 (q:=x/65536) (by omega) (by omega)
        exact⟨n+16,by rw[qaD b c,e];omega,Z92 (k:=16) rfl (by omega) l⟩
      . obtain⟨n,e,l,_⟩:=Qs1 (q:=x/16777216) (by omega) (by omega)
        exact⟨n+24,by rw[xaC ⟨h0,h1⟩ c,e];omega,Z92 (k:=24) rfl (by omega) l⟩
theorem Qz2{b:Q07}(h:U b.C2){P:Nat}:Q2e b P=true↔b.C2<2^P:=by
 obtain⟨n,e,l⟩:=Zkc h
 have hp:(if(0:Int)>(P:Int) then(0:Int) else P)=P:=by rw[if_neg (by omega)]
 simp only[Q2e,Q3n,Tree.m,letv,e,hp,decide_eq_true_eq]
 constructor
 . intro h;exact Zgv l (by omega)
 . intro h;have:=vG l h;omega
theorem Z8m{a:Int}(h:U a){P:Nat}(h1:a<2^P):(BitVec.ofInt 32 a).toNat<2^P:=by
 obtain⟨a0,a1⟩:=h
 rw[BitVec.toNat_ofInt,Int.emod_eq_of_lt a0 (by omega)]
 have:((2^P:Nat):Int)=(2:Int)^P:=by exact_mod_cast rfl
 omega
theorem or_lt{a b:Int}(ha:U a)(hb:U b){P:Nat}(hP:P<=32)(h1:a<2^P)(h2:b<2^P):ior .u32 a b<2^P:=by
 have e:(BitVec.ofInt 32 a|||BitVec.ofInt 32 b).toNat<2^P:=by
   rw[BitVec.toNat_or]
   exact Nat.or_lt_two_pow (Z8m ha h1) (Z8m hb h2)
 have hc:((2^P:Nat):Int)=(2:Int)^P:=by exact_mod_cast rfl
 have l:=(BitVec.ofInt 32 a|||BitVec.ofInt 32 b).isLt
 show IntKind.wrap .u32 ((BitVec.ofInt 32 a|||BitVec.ofInt 32 b).toNat:Int)<2^P
 rw[IntKind.wrap_u32]
 omega
theorem xad{a b:Int}(ha:U a){P:Nat}(h1:a<2^P):Qg1 .u32 a b<2^P:=by
 have e:(BitVec.ofInt 32 a&&&~~~BitVec.ofInt 32 b).toNat<2^P:=by
   rw[BitVec.toNat_and]
   exact Nat.lt_of_le_of_lt Nat.and_le_left (Z8m ha h1)
 have hc:((2^P:Nat):Int)=(2:Int)^P:=by exact_mod_cast rfl
 have l:=(BitVec.ofInt 32 a&&&~~~BitVec.ofInt 32 b).isLt
 show IntKind.wrap .u32 ((BitVec.ofInt 32 a&&&~~~BitVec.ofInt 32 b).toNat:Int)<2^P
 rw[IntKind.wrap_u32]
 omega
theorem yf{v:Int}(h0:0<=v)(h1:v<32):ishl .u32 1 v=2^v.toNat:=by
 have e:min v.toNat IntKind.u32.bits=v.toNat:=by show min v.toNat 32=v.toNat;omega
 obtain⟨n,rfl⟩: ∃n:Nat,v=n:=⟨v.toNat,by omega⟩
 have hn:n<32:=by omega
 have hlt:(2:Nat)^n<4294967296:=by
   have:=Nat.pow_lt_pow_right (show 1<2 by omega) hn
   simpa using this
 have hc:((2^n:Nat):Int)=(2:Int)^n:=by exact_mod_cast rfl
 unfold ishl
 rw[e,IntKind.wrap_u32,Int.one_mul,Int.toNat_natCast,<-hc]
 clear hc e
 generalize(2:Nat)^n=z at*
 omega
def keepB(P:Nat)(b b':Q07):Prop:=okB b'/\(Q2e b P=true->Q2e b' P=true)
theorem Zk3{P:Nat}{m:List Int}(h:Q1 P m){b:Q07}(hb:okB b)(port:Int){v:Int}(hv:U v):(Q3p b m port v).w (λr=>keepB P b r.1/\Q1 P r.2):=by
 have hcl:Q03 m=m:=rfl
 have h2:=h.p2
 have hp:=Q3a h
 have keep:(Tree.an (Q06 m) (.lv (Q03 m) λx=> .lf (b,x))).w (λr=>keepB P b r.1/\Q1 P r.2):=w_an (Q8c h) (w_lv λx hx=>by rw[hcl]at hx;subst hx;exact⟨⟨hb,λh=>h⟩,h⟩)
 unfold Q3p
 refine w_br (λ_=>keep) λhlt=>w_cn (decide_eq_true hv.1) (w_br (λ_=>w_lv λx1 hx=>w_br (λhpg=>w_br (λ_=>w_an ⟨by decide,by decide,by decide⟩ (w_lv λx2 _=>Q0d (Qyl h _ _) λx3 ⟨h3,_⟩=> ?_)) (λ_=>keep)) (λ_=>keep)) (λ_=>w_br (λ_=>w_an (Q8c h) (w_lv λx hx=> ?_)) (λ_=>keep)))
 . have hlt:=of_decide_eq_false hlt
   have hpg:=of_decide_eq_true hpg
   rw[hx,hp]at hpg
   obtain⟨v0,v1⟩:=hv
   have ev:IntKind.i64.wrap v=v:=by rw[IntKind.wrap_i64];omega
   rw[ev]at hpg
   refine⟨⟨⟨hb.1,Q0s _⟩,λhm=> ?_⟩,h3⟩
   rw[Qz2 hb.2]at hm
   rw[Qz2 (Q0s _)]
   have hs:ishl .u32 1 v<2^P:=by
     rw[yf v0 (by omega)]
     have:=Nat.pow_lt_pow_right (show 1<2 by omega) (show v.toNat<P by omega)
     exact_mod_cast this
   exact or_lt hb.2 (Q0s _) h2 hm hs
 . rw[hcl]at hx;subst hx
   refine⟨⟨⟨hb.1,Q0s _⟩,λhm=> ?_⟩,h⟩
   rw[Qz2 hb.2]at hm
   rw[Qz2 (Q0s _)]
   exact xad hb.2 hm
structure kept(P:Nat)(m n:Q00):Prop where
 ok:okS P n
 dev:Q0x m=true->Q0x n=true
 cpu:n.B2=m.B2
 cnt:n.A1=m.A1
 wait:n.A4=m.A4
 halt:n.A7=m.A7
theorem Zc6{P:Nat}{m:Q00}(h:okS P m):kept P m m:=⟨h,λh=>h,rfl,rfl,rfl,rfl⟩
theorem Qo7{P:Nat}{m n:Q00}(hm:Q1 P m.Mem)(hn:Q1 P n.Mem)(hc:Q23 m.A3=true->Q23 n.A3=true)(ht:Q3z m.B0=true->Q3z n.B0=true)
   (hd:Q1c m.B1 P=true->Q1c n.B1 P=true) (hk:Q5l m.C5 P=true->Q5l n.C5 P=true) (hb:Q2e m.A2 P=true->Q2e n.A2 P=true) (h:Q0x m=true):Q0x n=true:=by
 rw[qf]at h⊢
 rw[Q3a hm]at h
 rw[Q3a hn]
 simp only[Bool.and_eq_true]at h⊢
 exact⟨hc h.1,ht h.2.1,hd h.2.2.1,hk h.2.2.2.1,hb h.2.2.2.2⟩
theorem Zg2{P:Nat}{m:Q00}(h:okS P m)(port:Int){v:Int}(hv:U v)(at0:Int):(Q3l m port v at0).w (λr=>kept P m r.1/\r.2.length<=1):=by
 have k:=Zc6 h
 obtain⟨h1,h2,h3,h4,h5,h6⟩:=h
 have id: ∀{p:Prop},p->p:=λh=>h
 have D: ∀(x:Q0e×List Q02),(keepD P m.B1 x.1/\x.2.length<=1)->kept P m {B2:=m.B2,Mem:=m.Mem,A3:=m.A3,B0:=m.B0,B1:=x.1,C5:=m.C5,A2:=m.A2,A1:=m.A1,A4:=m.A4,A7:=m.A7}/\x.2.length<=1:=λx hx=>
   ⟨⟨⟨h1,h2,hx.1.1,h4,h5,h6⟩,Qo7 h2 h2 id id hx.1.2 id id,rfl,rfl,rfl,rfl⟩,hx.2⟩
 have N: ∀(x:Q0q×List Q02),(keepN P m.C5 x.1/\x.2.length<=1)->kept P m {B2:=m.B2,Mem:=m.Mem,A3:=m.A3,B0:=m.B0,B1:=m.B1,C5:=x.1,A2:=m.A2,A1:=m.A1,A4:=m.A4,A7:=m.A7}/\x.2.length<=1:=λx hx=>
   ⟨⟨⟨h1,h2,h3,hx.1.1,h5,h6⟩,Qo7 h2 h2 id id id hx.1.2 id,rfl,rfl,rfl,rfl⟩,hx.2⟩
 have B: ∀(x:Q07×List Int),(keepB P m.A2 x.1/\Q1 P x.2)->kept P m {B2:=m.B2,Mem:=x.2,A3:=m.A3,B0:=m.B0,B1:=m.B1,C5:=m.C5,A2:=x.1,A1:=m.A1,A4:=m.A4,A7:=m.A7}/\([]:List Q02).length<=1:=λx hx=>
   ⟨⟨⟨h1,hx.2,h3,h4,hx.1.1.1,hx.1.1.2⟩,Qo7 h2 hx.2 id id id id hx.1.2,rfl,rfl,rfl,rfl⟩,Nat.zero_le _⟩
 unfold Q3l
 repeat'(first
   |exact⟨k,Nat.le_refl _⟩
   |exact⟨k,Nat.zero_le _⟩
   |exact w_lv λx hx=>⟨⟨⟨h1,h2,h3,h4,h5,h6⟩,Qo7 h2 h2 id (λ_=>by rw[hx];exact zad _ _) id id id,rfl,rfl,rfl,rfl⟩,Nat.zero_le _⟩
   |exact Q0d (qad h2 h3 _ hv _) λx hx=>D x hx
   |exact Q0d (zaC h2 h4 _ hv _) λx hx=>N x hx
   |exact Q0d (Zk3 h2 ⟨h5,h6⟩ _ hv) λx hx=>B x hx
   |refine w_br (λ_=> ?_) (λ_=> ?_))
theorem Z4y(c:Q0b)(port:Int):(Q8t c port).w (λr=>U r.2/\(Q23 c=true->Q23 r.1=true)):=by
 have u1:U 4294967295:=⟨by omega,by omega⟩
 unfold Q8t
 refine w_br (λ_=>w_br (λ_=>⟨u1,λh=>h⟩) (λhb=>w_cn ?_ (w_cn ?_ ⟨Q0s _,λhm=> ?_⟩))) (λ_=>w_br (λ_=>⟨Q0s _,λh=>h⟩) (λ_=>⟨U_0,λh=>h⟩))
 . have hb:=of_decide_eq_false hb
   have:0<c.D3.length:=List.length_pos_iff.2 hb
   simp [Nat.blt];omega
 . have hb:=of_decide_eq_false hb
   have:0<c.D3.length:=List.length_pos_iff.2 hb
   exact decide_eq_true (by omega)
 . have hm:decide ((c.D3.length:Int)<=16)=true:=hm
   have hm:=of_decide_eq_true hm
   show decide (((List.take _ (List.drop _ c.D3)).length:Int)<=16)=true
   refine decide_eq_true ?_
   rw[List.length_take,List.length_drop];omega
theorem Zku{P:Nat}{m:Q00}(h:okS P m)(port:Int){clock:Int}(hc:U clock):(Q3 m port clock).w (λr=>kept P m r.1/\U r.2):=by
 have k:=Zc6 h
 obtain⟨h1,h2,h3,h4,h5,h6⟩:=h
 have id: ∀{p:Prop},p->p:=λh=>h
 have ti: ∀t,U (Qyb t):=λt=>by
   refine Tree.post (Qol t) (W:=U) ?_
   unfold Qol
   exact w_br (λ_=>⟨by omega,by omega⟩) (λ_=>U_0)
 have di: ∀p,U (Qtj m.B1 p):=λp=>by
   refine Tree.post (Qre m.B1 p) (W:=U) ?_
   unfold Qre
   exact w_br (λ_=>h3.block) (λ_=>w_br (λ_=>h3.frame) (λ_=>w_br (λ_=>Q0s _) (λ_=>U_0)))
 have ni: ∀p,U (Z1e m.C5 p):=λp=>by
   refine Tree.post (Qt9 m.C5 p) (W:=U) ?_
   unfold Qt9
   exact w_br (λ_=>h4.frame) (λ_=>w_br (λ_=>h4.got) (λ_=>w_br (λ_=>w_br (λ_=>w_br (λ_=>Q0s _) (λ_=>Q0s _)) (λ_=>w_br (λ_=>Q0s _) (λ_=>U_0))) (λ_=>U_0)))
 have bi: ∀p,(Qb9 m.A2 p).w U:=λp=>by
   unfold Qb9
   exact w_br (λ_=>h5) (λ_=>w_br (λ_=>Q0d (Zj1 h6) λ_ _=>Q0s _) (λ_=>U_0))
 have C: ∀(x:Q0b×Int),(U x.2/\(Q23 m.A3=true->Q23 x.1=true))->kept P m {B2:=m.B2,Mem:=m.Mem,A3:=x.1,B0:=m.B0,B1:=m.B1,C5:=m.C5,A2:=m.A2,A1:=m.A1,A4:=m.A4,A7:=m.A7}/\U x.2:=λx hx=>
   ⟨⟨⟨h1,h2,h3,h4,h5,h6⟩,Qo7 h2 h2 hx.2 id id id id,rfl,rfl,rfl,rfl⟩,hx.1⟩
 unfold Q3
 repeat'(first
   |exact⟨k,hc⟩
   |exact⟨k,U_0⟩
   |exact Q0d (Z4y _ _) λx hx=>C x hx
   |exact Zb3 (Z4y _ _) λx hx=>C x hx
   |exact w_lv λx hx=>⟨k,by rw[hx];exact ti _⟩
   |exact w_lv λx hx=>⟨k,by rw[hx];exact di _⟩
   |exact w_lv λx hx=>⟨k,by rw[hx];exact ni _⟩
   |exact Q0d (bi _) λx hx=>⟨k,hx⟩
   |refine w_br (λ_=> ?_) (λ_=> ?_))
structure Q5j(c:Q04):Prop where
 x0:c.X.a0=0
 st:c.B6.a0<=31
 en:c.B6.a7<=31
 rt:c.B6.a6<=255
 ve:Int.tmod c.B6.a1 4=0
theorem Q5j.pc{c:Q04}(h:Q5j c)(p:Int):Q5j {X:=c.X,Pc:=p,B6:=c.B6}:=⟨h.x0,h.st,h.en,h.rt,h.ve⟩
theorem and31(a:Int):iand .u32 a 31<=31:=by
 have e:(BitVec.ofInt 32 a&&&BitVec.ofInt 32 31).toNat<=31:=by
   rw[BitVec.toNat_and]
   exact Nat.le_trans Nat.and_le_right (by decide)
 show IntKind.wrap .u32 ((BitVec.ofInt 32 a&&&BitVec.ofInt 32 31).toNat:Int)<=31
 rw[IntKind.wrap_u32];omega
theorem and255'(a:Int):iand .u32 a 255<=255:=by have:=and255 a;omega
theorem andn3(a:Int):Int.tmod (Qg1 .u32 a 3) 4=0:=by
 have e:(BitVec.ofInt 32 a&&&~~~BitVec.ofInt 32 3).toNat%4=0:=by
   rw[BitVec.toNat_and,show(~~~BitVec.ofInt 32 3).toNat=4294967292 by decide]
   have:=Nat.and_mod_two_pow (a:=(BitVec.ofInt 32 a).toNat) (b:=4294967292) (n:=2)
   simpa using this
 have l:=(BitVec.ofInt 32 a&&&~~~BitVec.ofInt 32 3).isLt
 show Int.tmod (IntKind.wrap .u32 ((BitVec.ofInt 32 a&&&~~~BitVec.ofInt 32 3).toNat:Int)) 4=0
 rw[IntKind.wrap_u32,Int.tmod_eq_emod_of_nonneg (by omega)]
 omega
theorem fin32{f:Int->Int}(h:(List.range 32).all (λn=>decide (f n<=31))=true){s:Int}(h0:0<=s)(h1:s<=31):f s<=31:=by
 have:=List.all_eq_true.1 h s.toNat (List.mem_range.2 (by omega))
 have e:((s.toNat:Nat):Int)=s:=by omega
 rw[e]at this
 exact of_decide_eq_true this
theorem Qkm{c:Q04}(h:Q2b c)(m:Q5j c)(k b:Int):Q5j (Q48 c k b):=
 ⟨m.x0,fin32 (f:=λs=>Qg1 .u32 (ior .u32 (Q8h (Q8h s 1 8) 2 16) 1) 2) (by kernel_rfl) h.a0.1 m.st,m.en,m.rt,m.ve⟩
theorem Zjd{c:Q04}(h:Q2b c)(m:Q5j c):Q5j (Qcx c):=
 ⟨m.x0,fin32 (f:=λs=>Q8h (Q8h s 8 1) 16 2) (by kernel_rfl) h.a0.1 m.st,m.en,m.rt,m.ve⟩
theorem Qu6{c:Q04}(m:Q5j c){r:Int}(hr:0<=r/\r<16)(v:Int):(Qbi c r v).w Q5j:=by
 unfold Qbi
 refine w_br (λhn=>w_cn (rc hr) ?_) (λ_=>m)
 have hn:r≠0:=by simpa using hn
 obtain⟨n,e⟩: ∃n:Nat,r.toNat=n+1:=⟨r.toNat-1,by omega⟩
 refine⟨?_,m.st,m.en,m.rt,m.ve⟩
 show(A16.of 0 (List.set (A16.l c.X) r.toNat v)).a0=0
 rw[e]
 exact m.x0
theorem vf{c:Q04}(m:Q5j c)(k v:Int):(Qb0 c k v).w Q5j:=by
 unfold Qb0
 refine w_br (λhk=>w_cn (by rw[eq_of_beq hk];decide) ?_) λ_=>w_br (λhk=>w_cn (by rw[eq_of_beq hk];decide) ?_) λ_=>w_br (λhk=>w_cn (by rw[eq_of_beq hk];decide) ?_) λ_=>w_br (λhk=>w_cn (by rw[eq_of_beq hk];decide) ?_) λ_=>w_br (λhk=>w_cn (by rw[eq_of_beq hk];decide) ?_) λ_=>w_br (λhk=>w_cn (by rw[eq_of_beq hk];decide) ?_) λ_=>w_br (λhk=>w_cn (by rw[eq_of_beq hk];decide) ?_) λ_=>w_br (λhk=>w_cn (by rw[eq_of_beq hk];decide) ?_) (λ_=>m)
 all_goals(have hk:=eq_of_beq hk;subst hk)
 . exact⟨m.x0,and31 _,m.en,m.rt,m.ve⟩
 . exact⟨m.x0,m.st,and31 _,m.rt,m.ve⟩
 . exact⟨m.x0,m.st,m.en,and255' _,m.ve⟩
 . exact⟨m.x0,m.st,m.en,m.rt,andn3 _⟩
 . exact⟨m.x0,m.st,m.en,m.rt,m.ve⟩
 . exact⟨m.x0,m.st,m.en,m.rt,m.ve⟩
 . exact⟨m.x0,m.st,m.en,m.rt,m.ve⟩
 . exact⟨m.x0,m.st,m.en,m.rt,m.ve⟩
section
variable {c:Q04} (h:Q2b c) (m:Q5j c) {i:Q0i} (hi:Qex i)
include h m hi
theorem Zel:(Q4q c i).w (λr=>Q5j r.1):=by
 unfold Q4q
 refine w_cn (rc hi.a) (w_cn (rc hi.b) ?_)
 repeat'(first
   |refine w_br (λ_=> ?_) (λ_=> ?_)
   |exact Q0d (Qu6 m hi.a _) λx hx=>hx.pc _
   |exact w_lv λx _=>w_br (λ_=>m.pc _) (λ_=>m.pc _)
   |exact w_lv λx hx=>by rw[hx];exact Qkm h m _ _
   |exact w_lv λx hx=>by rw[hx];exact Zjd h m
   |exact w_cn (by have:=hi.csr (by simp_all);simp [Nat.blt];omega) (Q0d (Qu6 m hi.a _) λx hx=>hx.pc _)
   |exact Q0d (vf m _ _) λx hx=>hx.pc _
   |refine w_cn (rc hi.c) ?_
   |exact Q0d (Z4h _ (h.r _) (Q0s _)) λy hy=>Q0d (Qu6 m hi.a _) λx hx=>hx.pc _
   |exact Q0d (Z4h _ (h.r _) (h.r _)) λy hy=>Q0d (Qu6 m hi.a _) λx hx=>hx.pc _
   |refine w_lf ?_)
 all_goals exact m.pc _
theorem qH{P:Nat}{mem:List Int}(hm:Q1 P mem):(Qdi c mem i).w (λr=>Q5j r.1):=by
 have w:=Z9g i.Op
 unfold Qdi
 refine w_cn (rc hi.b) (w_lv λx0 h0=> ?_)
 rw[<-h0]at w
 refine Q0d (Qk7 hm (Q0s _) w 2) λx1 h1=>w_br (λ_=>w_lv λy hy=>by rw[hy];exact Qkm h m _ _) (λ_=>w_lv λx3 h3=> ?_)
 rw[h0,<-h3]at w
 exact Q0d (Qpv h1.2 h1.1 w) λx4 h4=>w_br (λ_=>Q0d (Qux h4.1 8) λy hy=>Q0d (Qu6 m hi.a _) λx hx=>hx.pc _) (λ_=>Q0d (Qu6 m hi.a _) λx hx=>hx.pc _)
theorem qg{P:Nat}{mem:List Int}(hm:Q1 P mem):(Qau c mem i).w (λr=>Q5j r.1):=by
 have w:=Z9g i.Op
 unfold Qau
 refine w_cn (rc hi.b) (w_lv λx0 h0=> ?_)
 rw[<-h0]at w
 refine Q0d (Qk7 hm (Q0s _) w 3) λx1 h1=>w_br (λ_=>w_lv λy hy=>by rw[hy];exact Qkm h m _ _) (λ_=>w_lv λx3 h3=>w_cn (rc hi.a) ?_)
 rw[h0,<-h3]at w
 exact Q0d (Qya h1.2 h1.1 w (h.r _)) λx hx=>m.pc _
end
theorem xH{c:Q04}(h:Q2b c)(m:Q5j c){P:Nat}{mem:List Int}(hm:Q1 P mem):(Q6w c mem).w (λr=>Q5j r.1):=by
 unfold Q6w
 refine Q0d (Z7c hm h) λx0 h0=>w_br (λ_=>w_lv λy hy=>by rw[hy];exact Qkm h m _ _) (λ_=>Q0d (Z0r _) λx2 h2=>w_br (λ_=>w_lv λy hy=>by rw[hy];exact Qkm h m _ _) (λhb=> ?_))
 have hi:=h2 (by simpa using hb)
 refine w_lv λx4 _=> ?_
 repeat'(first
   |refine w_br (λ_=> ?_) (λ_=> ?_)
   |exact Q0d (qH h m hi h0.2) λx hx=>hx
   |exact Q0d (qg h m hi h0.2) λx hx=>hx
   |exact Q0d (Zel h m hi) λx hx=>hx
   |exact w_lv λy hy=>by rw[hy];exact Qkm h m _ _
   |refine w_lv λ_ _=> ?_)
theorem Zgz{c:Q04}(h:Q2b c){i:Q0i}(hi:Qex i):(Q4q c i).w (λr=>0<=r.2.E0/\r.2.E0<16):=by
 have z:(0:Int)<=0/\(0:Int)<16:=⟨by decide,by decide⟩
 unfold Q4q
 refine w_cn (rc hi.a) (w_cn (rc hi.b) ?_)
 repeat'(first
   |refine w_br (λ_=> ?_) (λ_=> ?_)
   |exact Q0d (Qpg h hi.a (Q0s _)) λx hx=>z
   |exact w_lv λx _=>w_br (λ_=>z) (λ_=>z)
   |exact w_lv λx hx=>z
   |exact w_cn (by have:=hi.csr (by simp_all);simp [Nat.blt];omega) (Q0d (Qpg h hi.a (h.a _)) λx hx=>z)
   |exact Q0d (Zix h _ (h.r _)) λx hx=>z
   |refine w_cn (rc hi.c) ?_
   |exact Q0d (Z4h _ (h.r _) (Q0s _)) λy hy=>Q0d (Qpg h hi.a hy) λx hx=>z
   |exact Q0d (Z4h _ (h.r _) (h.r _)) λy hy=>Q0d (Qpg h hi.a hy) λx hx=>z
   |refine w_lf ?_)
 all_goals first|exact z|exact hi.a
theorem Zhn{c:Q04}(h:Q2b c){P:Nat}{mem:List Int}(hm:Q1 P mem):(Q6w c mem).w (λr=>0<=r.2.2.E0/\r.2.2.E0<16):=by
 have z:(0:Int)<=0/\(0:Int)<16:=⟨by decide,by decide⟩
 unfold Q6w
 refine Q0d (Z7c hm h) λx0 h0=>w_br (λ_=>w_lv λy hy=>z) (λ_=>Q0d (Z0r _) λx2 h2=>w_br (λ_=>w_lv λy hy=>z) (λhb=> ?_))
 have hi:=h2 (by simpa using hb)
 refine w_lv λx4 _=> ?_
 repeat'(first
   |refine w_br (λ_=> ?_) (λ_=> ?_)
   |exact Q0d (Qyz h hi h0.2) λx hx=>z
   |exact Q0d (Qw7 h hi h0.2) λx hx=>z
   |exact Q0d (Zgz h hi) λx hx=>hx
   |exact w_lv λy hy=>z
   |refine w_lv λ_ _=> ?_)
theorem cnd2{a x:Bool}:(bif a then false else x)=true↔a=false/\x=true:=by cases a<;>simp
theorem Qjd(m:Q00):Q1a m=true↔Q0v m.Mem≠0/\Q5j m.B2/\m.A1<=1152921504606846976/\ ¬(m.A4=true/\m.A7=true)/\Q0x m=true:=by
  rw[zV]
  unfold mayC chain
  rw[cnd2,cnd2,cnd2,cnd2,cnd2,cnd2,cnd2]
  simp only[decide_eq_false_iff_not,Int.not_lt,beq_eq_false_iff_ne,bne_eq_false_iff_eq,gt_iff_lt]
  constructor
  . rintro⟨a1,a2,a3,a4,a5,a6,a7,a8⟩
    refine⟨a1,⟨a2,a3,a4,a5,a6⟩,a7,?_,?_⟩
    . rintro⟨w,h⟩;rw[w,h]at a8;cases a8
    . revert a8;cases m.A4
      . exact λh=>h
      . cases m.A7
        . exact λh=>h
        . intro h;cases h
  . rintro⟨a1,⟨a2,a3,a4,a5,a6⟩,a7,a8,a9⟩
    refine⟨a1,a2,a3,a4,a5,a6,a7,?_⟩
    rw[a9]
    cases hw:m.A4
    . rfl
    . cases hh:m.A7
      . rfl
      . exact absurd ⟨hw,hh⟩ a8
theorem Qyd{m:Q00}(h:Q25 m=true):Q1a m=true/\m.A7=false/\m.A1<1152921504606846976:=by
  simp only[Q25,Q3r,Tree.m,letv]at h
  cases h1:Q1a m
  . rw[h1]at h;cases h
  . cases h2:m.A7
    . rw[h1,h2]at h
      cases h3:Q37 m
      . rw[h3]at h
        have h:decide (m.A1<1152921504606846976)=true:=h
        exact⟨rfl,rfl,of_decide_eq_true h⟩
      . rw[h3]at h;cases h
    . rw[h1,h2]at h;cases h
theorem Qt3{P:Nat}{m:Q00}(h:okS P m)(g:Q5j m.B2):(Q2l m).w (λr=>Q5j r.B2/\okS P r/\r.Mem=m.Mem/\r.A4=false/\r.A7=m.A7/\r.A1=m.A1/\r.A3=m.A3/\r.B0=m.B0/\r.B1=m.B1/\r.C5=m.C5/\r.A2=m.A2):=by
 obtain⟨h1,h2,h3,h4,h5,h6⟩:=h
 unfold Q2l
 refine w_br (λ_=>⟨g,⟨h1,h2,h3,h4,h5,h6⟩,rfl,rfl,rfl,rfl,rfl,rfl,rfl,rfl,rfl⟩) (λ_=>Q0d (Qva (m:=⟨_,_,_,_,_,_,m.A2,_,_,_⟩) h6) λx0 _=>w_lp (inv:=λz=>0<=z/\z<=5) (μ:=Qay m) ⟨by omega,by omega⟩ (Nat.lt_succ_self _) (λz hz=> ?_))
 obtain⟨z1,z2⟩:=hz
 refine w_br (λhb=>w_cn (decide_eq_true z1) (w_br (λ_=>w_lv λx1 hx=>⟨by rw[hx];exact Qkm h1 g _ _,⟨by rw[hx];exact Qmq h1 _ U_0,h2,h3,h4,h5,h6⟩,rfl,rfl,rfl,rfl,rfl,rfl,rfl,rfl,rfl⟩) (λ_=>w_nx ?_))) (λ_=>⟨g,⟨h1,h2,h3,h4,h5,h6⟩,rfl,rfl,rfl,rfl,rfl,rfl,rfl,rfl,rfl⟩)
 have hb:=of_decide_eq_true hb
 show(0<=IntKind.i64.wrap (z+1)/\IntKind.i64.wrap (z+1)<=5)/\(5-IntKind.i64.wrap (z+1)).toNat<(5-z).toNat
 have ew:IntKind.i64.wrap (z+1)=z+1:=by rw[IntKind.wrap_i64];omega
 rw[ew];omega
structure Good(P:Nat)(m r:Q00):Prop where
 ok:okS P r
 cnt:0<=r.A1
 may:Q1a m=true->Q1a r=true
 or:r=m\/r.A1=m.A1+1
theorem Z3j(m:Q00){port:Int}(hp:(port==2)=false)(a b:Int):Q10 m port a=Q10 m port b:=by
 simp only[Q10,Q3,Tree.m,hp,cond_false]
theorem Z45{m:Q00}(h:Q21 m=false)(a b:Int):Q27 m a=Q27 m b:=by
 have hcl:Q03 m.Mem=m.Mem:=rfl
 have e:(⟨m.B2,m.Mem,m.A3,m.B0,m.B1,m.C5,m.A2,m.A1,m.A4,m.A7⟩:Q00)=m:=rfl
 simp only[Q21,Q20,Tree.m,letv]at h
 simp only[Q27,Q2k,Tree.m,letv,hcl,e]
 cases hr:Q25 m
 . rfl
 . rw[hr]at h
   have h:(bif(Q4u (Q0p m).B2 (Q0p m).Mem).2.2.B5==1 then(Q4u (Q0p m).B2 (Q0p m).Mem).2.2.D1==2 else false)=false:=h
   cases hk:(Q4u (Q0p m).B2 (Q0p m).Mem).2.2.B5==1
   . rfl
   . rw[hk]at h
     have hp:((Q4u (Q0p m).B2 (Q0p m).Mem).2.2.D1==2)=false:=h
     rw[Z3j _ hp a b]
theorem xg{P:Nat}{m:Q00}(h:okS P m)(hc0:0<=m.A1){clock:Int}(hk:U clock):(Q2k m clock).w (λr=>r.2.length<=1/\Good P m r.1):=by
 have hcl:Q03 m.Mem=m.Mem:=rfl
 unfold Q2k
 refine w_an (Q8c h.mem) (w_lv λl hl=> ?_)
 rw[hcl]at hl;subst hl
 refine w_an (Tree.pp (Ze7 (m:=⟨_,_,_,_,_,_,m.A2,_,_,_⟩) h.given)).1 (w_lv λx1 hx1=>w_br (λ_=>⟨Nat.zero_le _,h,hc0,λh=>h, .inl rfl⟩) (λhb=> ?_))
 have hr:Q25 m=true:=by rw[<-show x1=Q25 m from hx1];simpa using hb
 obtain⟨hm,hh,hct⟩:=Qyd hr
 obtain⟨g1,g2,g3,g4,g5⟩:=(Qjd m).1 hm
 have hP:(P:Int)≠0:=by rw[<-Q3a h.mem];exact g1
 have fin: ∀(n:Q00),okS P n->Q5j n.B2->Q0x n=true->n.A1=m.A1-> ¬(n.A4=true/\n.A7=true)->Good P m {B2:=n.B2,Mem:=n.Mem,A3:=n.A3,B0:=n.B0,B1:=n.B1,C5:=n.C5,A2:=n.A2,A1:=IntKind.wrap .u64 (n.A1+1),A4:=n.A4,A7:=n.A7}:=λn a b c d e=>by
   have ec:IntKind.wrap .u64 (n.A1+1)=m.A1+1:=by rw[d,IntKind.wrap_u64];omega
   refine⟨⟨a.cpu,a.mem,a.disk,a.nic,a.target,a.given⟩,?_,λ_=>(Qjd _).2 ⟨?_,b,?_,e,c⟩, .inr ec⟩
   . show 0<=IntKind.wrap .u64 (n.A1+1);omega
   . show Q0v n.Mem≠0;rw[Q3a a.mem];exact hP
   . show IntKind.wrap .u64 (n.A1+1)<=_;omega
 refine Q0d (Qt3 (m:=⟨_,_,m.A3,m.B0,m.B1,m.C5,m.A2,m.A1,m.A4,m.A7⟩) ⟨h.cpu,h.mem,h.disk,h.nic,h.target,h.given⟩ g2) λx2 hx2=> ?_
 obtain⟨b1,b2,b3,b4,b5,b6,b7,b8,b9,b10,b11⟩:=hx2
 have ex:=Tree.pp (xv b2.cpu b2.mem)
 have em:=Tree.pp (xH b2.cpu b1 b2.mem)
 have er:=Tree.pp (Zhn b2.cpu b2.mem)
 refine w_an ex.1 (w_lv λx3 h3=> ?_)
 obtain⟨e1,e2,e3⟩:Q2b x3.1/\Q1 P x3.2.1/\U x3.2.2.Value:=by rw[h3];exact ex.2
 have f1:Q5j x3.1:=by rw[h3];exact em.2
 have r1:0<=x3.2.2.E0/\x3.2.2.E0<16:=by rw[h3];exact er.2
 have ok3:okS P ⟨x3.1,x3.2.1,x2.A3,x2.B0,x2.B1,x2.C5,x2.A2,x2.A1,x2.A4,x2.A7⟩:=⟨e1,e2,b2.disk,b2.nic,b2.target,b2.given⟩
 have dev: ∀(w h:Bool),Q0x ⟨x3.1,x3.2.1,x2.A3,x2.B0,x2.B1,x2.C5,x2.A2,x2.A1,w,h⟩=true:=λw hh=>by
   have id: ∀{p:Prop},p->p:=λh=>h
   refine Qo7 (m:=m) (P:=P) h.mem e2 ?_ ?_ ?_ ?_ ?_ g5
   . show _->Q23 x2.A3=true;rw[b7];exact id
   . show _->Q3z x2.B0=true;rw[b8];exact id
   . show _->Q1c x2.B1 P=true;rw[b9];exact id
   . show _->Q5l x2.C5 P=true;rw[b10];exact id
   . show _->Q2e x2.A2 P=true;rw[b11];exact id
 have hw:x2.A4=false:=b4
 have hh2:x2.A7=false:=b5.trans hh
 have hct2:x2.A1=m.A1:=b6
 refine w_br (λ_=> ?_) λ_=>w_br (λ_=> ?_) λ_=>w_br (λ_=> ?_) λ_=>w_br (λ_=> ?_) λ_=> ?_
 . refine Q0d (Zku ok3 _ hk) λx4 h4=> ?_
   obtain⟨k,u⟩:=h4
   have kc:x4.1.B2=x3.1:=k.cpu
   have kt:x4.1.A1=m.A1:=k.cnt.trans hct2
   have kw: ¬(x4.1.A4=true/\x4.1.A7=true):=λe=>by have:x4.1.A4=x2.A4:=k.wait;rw[this,hw]at e;cases e.1
   have km:Q5j x4.1.B2:=by rw[kc];exact f1
   refine w_br (λhn=>w_cn (rc r1) ⟨Nat.zero_le _,?_⟩) (λ_=>⟨Nat.zero_le _,fin x4.1 k.ok km (k.dev (dev _ _)) kt kw⟩)
   have hn:x3.2.2.E0≠0:=by simpa using hn
   obtain⟨q,e⟩: ∃q:Nat,x3.2.2.E0.toNat=q+1:=⟨x3.2.2.E0.toNat-1,by omega⟩
   refine fin ⟨⟨A16.of 0 (List.set (A16.l x4.1.B2.X) x3.2.2.E0.toNat x4.2),x4.1.B2.Pc,x4.1.B2.B6⟩,x4.1.Mem,x4.1.A3,x4.1.B0,x4.1.B1,x4.1.C5,x4.1.A2,x4.1.A1,x4.1.A4,x4.1.A7⟩ ⟨⟨Zgu k.ok.cpu.x u _,k.ok.cpu.pc,k.ok.cpu.csr⟩,k.ok.mem,k.ok.disk,k.ok.nic,k.ok.target,k.ok.given⟩ ⟨?_,km.st,km.en,km.rt,km.ve⟩ (k.dev (dev _ _)) kt kw
   show(A16.of 0 (List.set (A16.l x4.1.B2.X) x3.2.2.E0.toNat x4.2)).a0=0
   rw[e]
   exact km.x0
 . refine Q0d (Zg2 ok3 _ e3 _) λx5 h5=> ?_
   obtain⟨k,u⟩:=h5
   have kc:x5.1.B2=x3.1:=k.cpu
   exact⟨u,fin x5.1 k.ok (by rw[kc];exact f1) (k.dev (dev _ _)) (k.cnt.trans hct2) (λe=>by have:x5.1.A4=x2.A4:=k.wait;rw[this,hw]at e;cases e.1)⟩
 . exact⟨Nat.zero_le _,fin ⟨x3.1,x3.2.1,x2.A3,x2.B0,x2.B1,x2.C5,x2.A2,x2.A1,true,x2.A7⟩ ⟨e1,e2,b2.disk,b2.nic,b2.target,b2.given⟩ f1 (dev _ _) hct2 (λe=>by have e2:x2.A7=true:=e.2;rw[hh2]at e2;cases e2)⟩
 . exact⟨Nat.zero_le _,fin ⟨x3.1,x3.2.1,x2.A3,x2.B0,x2.B1,x2.C5,x2.A2,x2.A1,x2.A4,true⟩ ⟨e1,e2,b2.disk,b2.nic,b2.target,b2.given⟩ f1 (dev _ _) hct2 (λe=>by have e2:x2.A4=true:=e.1;rw[hw]at e2;cases e2)⟩
 . exact⟨Nat.zero_le _,fin ⟨x3.1,x3.2.1,x2.A3,x2.B0,x2.B1,x2.C5,x2.A2,x2.A1,x2.A4,x2.A7⟩ ok3 f1 (dev _ _) hct2 (λe=>by have e2:x2.A4=true:=e.1;rw[hw]at e2;cases e2)⟩
theorem Zit{P:Nat}{m:Q00}(h:okM P m){e:Q0f}(he:U e.N):(Q3x m e).w (λr=>(Q1a m=true->Q1a r.1=true)/\r.1.A1=m.A1/\U r.1.A2.C2):=by
 obtain⟨h1,h2,h3,h4,h5,h7⟩:=h
 have hcl:Q03 m.Mem=m.Mem:=rfl
 have pg: ∀{m':List Int},Q1 P m'->Q0v m'=Q0v m.Mem:=λh=>by rw[Q3a h,Q3a h2]
 have keep:(Q1a m=true->Q1a m=true)/\m.A1=m.A1/\U m.A2.C2:=⟨λh=>h,rfl,h5.2⟩
 unfold Q3x
 refine w_an (Q8c h2) (w_lv λl hl=> ?_)
 rw[hcl]at hl;subst hl
 refine Q0d (Zhb (m:=⟨_,_,_,_,_,_,m.A2,_,_,_⟩) h5.2) λx1 _=>w_br (λ_=>keep) λ_=>w_br (λ_=>keep) λ_=> ?_
 refine w_br (λ_=>w_br (λ_=>w_br (λ_=>w_lv λx hx=> ?_) (λ_=>keep)) (λ_=>keep)) λ_=>w_br (λ_=>w_br (λ_=>w_br (λ_=>Q0d (xac _ _) λx hx=> ?_) (λ_=>keep)) (λ_=>keep)) λ_=>w_br (λhk=>Q0d (Zkv h2 h3 e) λx hx=> ?_) λ_=>w_br (λhk=>w_br (λ_=>Q0d (ye h2 h4 _) λx hx=> ?_) (λ_=>keep)) λ_=>w_br (λ_=>w_br (λ_=> ?_) (λ_=>keep)) (λ_=>keep)
 . exact⟨Qsj rfl rfl rfl rfl rfl (λh=>h) (λh=>by rw[hx];exact yG _ h) (λ_ h=>h) (λ_ h=>h) rfl,rfl,h5.2⟩
 . exact⟨Qsj rfl rfl rfl rfl rfl hx (λh=>h) (λ_ h=>h) (λ_ h=>h) rfl,rfl,h5.2⟩
 . obtain⟨a1,a2,a3,a4,a5⟩:=hx
   exact⟨Qsj (pg a2) rfl rfl rfl rfl (λh=>h) (λh=>h) a5 (λ_ h=>h) rfl,rfl,h5.2⟩
 . obtain⟨a1,a2,a3,a4,a5⟩:=hx
   exact⟨Qsj (pg a2) rfl rfl rfl rfl (λh=>h) (λh=>h) (λ_ h=>h) a5 rfl,rfl,h5.2⟩
 . exact⟨Qsj rfl rfl rfl rfl rfl (λh=>h) (λh=>h) (λ_ h=>h) (λ_ h=>h) rfl,rfl,h5.2⟩
structure okW(m:Q00):Prop where
 cpu:Q2b m.B2
 u: ∀w∈m.Mem,U w
 len:m.Mem.length<=1024
 disk:Q8j m.B1
 nic:Qie m.C5
 bal:okB m.A2
 cnt:0<=m.A1
theorem Qu7{a:Int}(h:U a):(BitVec.ofInt 32 a).toNat=a.toNat:=by
 obtain⟨h1,h2⟩:=h
 rw[BitVec.toNat_ofInt];omega
theorem Zfi{a b:Int}(ha:U a)(hb:U b):iand .u32 a b=((a.toNat&&&b.toNat:Nat):Int):=by
 have l:=(BitVec.ofInt 32 a&&&BitVec.ofInt 32 b).isLt
 have e:(BitVec.ofInt 32 a&&&BitVec.ofInt 32 b).toNat=a.toNat&&&b.toNat:=by rw[BitVec.toNat_and,Qu7 ha,Qu7 hb]
 show IntKind.wrap .u32 ((BitVec.ofInt 32 a&&&BitVec.ofInt 32 b).toNat:Int)=_
 rw[IntKind.wrap_u32,<-e];omega
theorem zaD{a b:Int}(ha:U a)(hb:U b):ior .u32 a b=((a.toNat|||b.toNat:Nat):Int):=by
 have l:=(BitVec.ofInt 32 a|||BitVec.ofInt 32 b).isLt
 have e:(BitVec.ofInt 32 a|||BitVec.ofInt 32 b).toNat=a.toNat|||b.toNat:=by rw[BitVec.toNat_or,Qu7 ha,Qu7 hb]
 show IntKind.wrap .u32 ((BitVec.ofInt 32 a|||BitVec.ofInt 32 b).toNat:Int)=_
 rw[IntKind.wrap_u32,<-e];omega
theorem Z6a{a:Int}(ha:U a)(k:Nat)(hk:k<=32){q:Int}(hq:q=((2^k-1:Nat):Int)):iand .u32 a q=a%2^k:=by
 have hp:2^k<=2^32:=Nat.pow_le_pow_right (by decide) hk
 have h1:(2:Nat)^32=4294967296:=by decide
 have hpos:=Nat.two_pow_pos k
 subst hq
 rw[Zfi ha ⟨by omega,by omega⟩,Int.toNat_natCast,Nat.and_two_pow_sub_one_eq_mod]
 have:=ha.1
 rw[Int.natCast_emod,Int.toNat_of_nonneg this]
 simp
theorem m15{a:Int}(ha:U a):iand .u32 a 15=a%16:=Z6a ha 4 (by decide) rfl
theorem m255{a:Int}(ha:U a):iand .u32 a 255=a%256:=Z6a ha 8 (by decide) rfl
theorem m65535{a:Int}(ha:U a):iand .u32 a 65535=a%65536:=Z6a ha 16 (by decide) rfl
theorem Qt6(p:Int->Bool)(N:Nat)(h:(List.range N).all (λn=>p n)=true){s:Int}(h0:0<=s)(h1:s<N):p s=true:=by
 have:=List.all_eq_true.1 h s.toNat (List.mem_range.2 (by omega))
 rwa [Int.toNat_of_nonneg h0]at this
theorem w64{x:Int}(h0: -9223372036854775808<=x)(h1:x<9223372036854775808):IntKind.wrap .i64 x=x:=by rw[IntKind.wrap_i64];omega
theorem shr0(a:Int):ishr .u32 a 0=a:=by have:=Qpo (a:=a) 0 (by decide);simpa using this
theorem fld(w:Int):Q2r w 24 8=iand .u32 (ishr .u32 w 24) 255/\Q2r w 20 4=iand .u32 (ishr .u32 w 20) 15/\Q2r w 16 4=iand .u32 (ishr .u32 w 16) 15/\Q2r w 0 16=iand .u32 (ishr .u32 w 0) 65535/\Q2r w 8 8=iand .u32 (ishr .u32 w 8) 255:=
 ⟨by kernel_rfl,by kernel_rfl,by kernel_rfl,by kernel_rfl,by kernel_rfl⟩
def useOf(f:Int):Q8e×Bool:=
 bif f==1 then(⟨false,false,false,0,0⟩,true) else bif f==2 then(⟨true,true,true,0,0⟩,true) else bif f==3 then(⟨true,true,false,-32768,32767⟩,true)
 else bif f==4 then(⟨true,true,false,0,65535⟩,true) else bif f==5 then(⟨true,true,false,0,31⟩,true) else bif f==6 then(⟨true,false,false,0,65535⟩,true)
 else bif f==7 then(⟨true,false,false,-32768,32767⟩,true) else bif f==8 then(⟨true,false,false,0,7⟩,true) else bif f==9 then(⟨true,false,false,0,11⟩,true) else(⟨false,false,false,0,0⟩,false)
def sameU(x y:Q8e×Bool):Bool:=x.1.a==y.1.a&&x.1.b==y.1.b&&x.1.c==y.1.c&&x.1.low==y.1.low&&x.1.D6==y.1.D6&&x.2==y.2
theorem zH{x y:Q8e×Bool}(h:sameU x y=true):x=y:=by
 obtain⟨⟨a,b,c,d,e⟩,f⟩:=x
 obtain⟨⟨a',b',c',d',e'⟩,f'⟩:=y
 simp only[sameU,Bool.and_eq_true,beq_iff_eq]at h
 obtain⟨⟨⟨⟨⟨rfl,rfl⟩,rfl⟩,rfl⟩,rfl⟩,rfl⟩:=h
 rfl
theorem yV{op:Int}(h0:0<=op)(h1:op<256):Z0a op=useOf (Q28 op):=by
 exact zH (Qt6 (λop=>sameU (Z0a op) (useOf (Q28 op))) 256 (by kernel_rfl) h0 h1)
theorem zg{op:Int}(h0:0<=op)(h1:op<256):Q28 op=0\/Q28 op=1\/Q28 op=2\/Q28 op=3\/Q28 op=4\/Q28 op=5\/Q28 op=6\/Q28 op=7\/Q28 op=8\/Q28 op=9:=by
 have:=of_decide_eq_true (Qt6 (λop=>decide (0<=Q28 op/\Q28 op<=9)) 256 (by kernel_rfl) h0 h1)
 omega
theorem qae{op:Int}(h0:0<=op)(h1:op<256):Q83 op=Q2w op:=by
 exact eq_of_beq (Qt6 (λop=>Q83 op==Q2w op) 256 (by kernel_rfl) h0 h1)
theorem yH{a x y:Bool}:(cond a x y=true)↔((a=true/\x=true)\/(a=false/\y=true)):=by cases a<;>simp
theorem Z6y{i:Q0i}(h0:0<=i.Op)(h1:i.Op<256)(hi:IntKind.wrap .i64 i.Imm=i.Imm):Qei i=Q6l i:=by
 rw[Bool.eq_iff_iff]
 simp only[Qei,Qgj,Tree.m,letv,Q6l,Qe3,yV h0 h1,hi]
 rcases zg h0 h1 with h|h|h|h|h|h|h|h|h|h<;>rw[h]<;>
 simp [useOf,Q8w,Qdx,Q77,Qc2,Qky,Qkp,Tree.m,letv,yH]<;>omega
theorem sx16{x:Int}(h0:0<=x)(h1:x<65536):IntKind.wrap .i32 (Q26 x 16)=IntKind.wrap .i32 (IntKind.wrap .i16 x):=by
 have e:Q26 x 16=IntKind.wrap .u32 (ishr .i32 (IntKind.wrap .i32 (ishl .u32 x 16)) 16):=by kernel_rfl
 have e2: ∀y,ishr .i32 y 16=y/65536:=λy=>by
   show Int.fdiv y 65536=_
   rw[Int.fdiv_eq_ediv_of_nonneg _ (by decide)]
 have e3:ishl .u32 x 16=IntKind.wrap .u32 (x*65536):=rfl
 have e4:IntKind.wrap .i16 x=(x+32768)%65536-32768:=by
   simp [IntKind.wrap,IntKind.bits,IntKind.signed]
   split<;>omega
 rw[e,e2,e3,e4]
 simp only[IntKind.wrap_i32,IntKind.wrap_u32]
 omega
theorem sx8{x:Int}(h0:0<=x)(h1:x<256):Q26 x 8=Q32 x 8:=by
 exact eq_of_beq (Qt6 (λx=>Q26 x 8==Q32 x 8) 256 (by kernel_rfl) h0 h1)
theorem yg{w:Int}(hw:U w):Qg9 w=Q1s w:=by
 obtain⟨f1,f2,f3,f4,_⟩:=fld w
 obtain⟨w0,w1⟩:=hw
 have s24:ishr .u32 w 24=w/16777216:=by have:=Qpo (a:=w) 24 (by decide);simpa using this
 have s20:U (ishr .u32 w 20):=Qtu ⟨w0,w1⟩ _
 have s16:U (ishr .u32 w 16):=Qtu ⟨w0,w1⟩ _
 rw[m255 (Qtu ⟨w0,w1⟩ _),s24]at f1
 rw[m15 s20]at f2
 rw[m15 s16]at f3
 rw[shr0]at f4
 have g1:w/16777216%256=w/16777216:=by omega
 rw[g1]at f1
 have o0:0<=w/16777216:=by omega
 have o1:w/16777216<256:=by omega
 have eo:IntKind.wrap .i64 (w/16777216)=w/16777216:=w64 (by omega) (by omega)
 have i32: ∀x,IntKind.wrap .i64 (IntKind.wrap .i32 x)=IntKind.wrap .i32 x:=λx=>by rw[IntKind.wrap_i64,IntKind.wrap_i32];omega
 have l0:=m65535 ⟨w0,w1⟩
 have lx:=sx16 (x:=iand .u32 w 65535) (by omega) (by omega)
 simp only[Qg9,Q6y,Q1s,Q66,Tree.m,letv,f1,f2,f3,f4,s24,eo,yV o0 o1,m15 s20,m15 s16,lx]
 generalize w/16777216=op at*
 generalize IntKind.wrap .i64 (ishr .u32 w 20%16)=a
 generalize IntKind.wrap .i64 (ishr .u32 w 16%16)=b
 generalize iand .u32 w 65535=l
 rw[Z6y (i:=⟨op,a,b,IntKind.wrap .i64 l,0⟩) o0 o1 rfl,Z6y (i:=⟨op,a,b,0,IntKind.wrap .i32 (IntKind.wrap .i16 l)⟩) o0 o1 (i32 _),Z6y (i:=⟨op,a,b,0,IntKind.wrap .i32 l⟩) o0 o1 (i32 _)]
 rcases zg o0 o1 with h|h|h|h|h|h|h|h|h|h<;>rw[h]<;>rfl
theorem zae(x v:BitVec 32)(s:Nat)(hs:s<=24):((x&&&~~~(255#32<<<s))|||((v&&&255#32)<<<s)).toNat=2^(s+8)*(x.toNat/2^(s+8))+(2^s*(v.toNat%256)+x.toNat%2^s):=by
  have hx:=x.isLt
  have h1:x.toNat%2^s<2^s:=Nat.mod_lt _ (Nat.two_pow_pos s)
  have h2:2^s*(v.toNat%256)+x.toNat%2^s<2^(s+8):=by
    have:v.toNat%256<256:=Nat.mod_lt _ (by decide)
    have h3:2^s*(v.toNat%256)<=2^s*255:=Nat.mul_le_mul_left _ (by omega)
    have:2^(s+8)=2^s*256:=by rw[Nat.pow_add]
    omega
  rw[Nat.two_pow_add_eq_or_of_lt h2,Nat.two_pow_add_eq_or_of_lt h1]
  apply Nat.eq_of_testBit_eq
  intro i
  rw[BitVec.testBit_toNat]
  simp only[BitVec.getLsbD_or,BitVec.getLsbD_and,BitVec.getLsbD_not,BitVec.getLsbD_shiftLeft,Nat.testBit_or,Nat.testBit_two_pow_mul,Nat.testBit_mod_two_pow,Nat.testBit_div_two_pow,BitVec.getLsbD_ofNat]
  have e255: ∀j,Nat.testBit 255 j=decide (j<8):=λj=>by
    rw[show 255=2^8-1 from rfl,Nat.testBit_two_pow_sub_one]
  have e256: ∀n j,Nat.testBit (n%256) j=(decide (j<8)&&Nat.testBit n j):=λn j=>by
    rw[show 256=2^8 from rfl,Nat.testBit_mod_two_pow]
  rw[e255,e256]
  by_cases hi:i<32
  . by_cases a1:i<s
    . have a2: ¬(s<=i):=by omega
      have a3: ¬(s+8<=i):=by omega
      simp [hi,a1,a2,a3,BitVec.getLsbD]
    . by_cases a4:s+8<=i
      . have a2: ¬(i-s<8):=by omega
        have a5:i-(s+8)+(s+8)=i:=by omega
        have a6:s<=i:=by omega
        simp [hi,a1,a2,a4,a5,a6,BitVec.getLsbD]
      . have a2:(i-s<8):=by omega
        have a6:s<=i:=by omega
        have a7:i-s<32:=by omega
        simp [hi,a1,a2,a4,a6,a7,BitVec.getLsbD]
  . have a0:x.toNat.testBit i=false:=Nat.testBit_lt_two_pow (Nat.lt_of_lt_of_le hx (Nat.pow_le_pow_right (by decide) (by omega)))
    have a1: ¬(i<s):=by omega
    have a2: ¬(i-s<8):=by omega
    have a4:s+8<=i:=by omega
    have a5:i-(s+8)+(s+8)=i:=by omega
    simp [hi,a0,a1,a2,a4,a5]
theorem Z67(b:BitVec 32):BitVec.ofInt 32 (IntKind.wrap .u32 (b.toNat:Int))=b:=by
 have:=b.isLt
 rw[IntKind.wrap_u32]
 apply BitVec.eq_of_toNat_eq
 rw[BitVec.toNat_ofInt];omega
theorem Zjq(x:Int):BitVec.ofInt 32 (IntKind.wrap .u32 x)=BitVec.ofInt 32 x:=by
 apply BitVec.eq_of_toNat_eq
 rw[BitVec.toNat_ofInt,BitVec.toNat_ofInt,IntKind.wrap_u32]
 have:((2^32:Nat):Int)=4294967296:=by decide
 rw[this,Int.emod_emod_of_dvd _ (Int.dvd_refl _)]
theorem Zdg{x:Int}(hx:U x)(s:Nat)(hs:s<=32):BitVec.ofInt 32 (ishl .u32 x s)=BitVec.ofInt 32 x<<<s:=by
 obtain⟨n,rfl⟩: ∃n:Nat,x=n:=⟨x.toNat,by have:=hx.1;omega⟩
 have e:min (Int.toNat (s:Int)) IntKind.u32.bits=s:=by show min (Int.toNat (s:Int)) 32=s;omega
 unfold ishl
 rw[e,Zjq]
 have e2:((n:Int)*2^s)=((n*2^s:Nat):Int):=by simp
 have:=hx.2
 rw[e2,BitVec.ofInt_natCast,BitVec.ofInt_natCast]
 apply BitVec.eq_of_toNat_eq
 rw[BitVec.toNat_shiftLeft,BitVec.toNat_ofNat,BitVec.toNat_ofNat,Nat.shiftLeft_eq,Nat.mod_mul_mod]
def putW(W v:Int)(s:Nat):Int:=ior .u32 (Qg1 .u32 W (ishl .u32 255 s)) (ishl .u32 (iand .u32 v 255) s)
theorem xae{W v:Int}(hW:U W)(hv:U v)(s:Nat)(hs:s<=24):putW W v s=2^(s+8)*(W/2^(s+8))+(2^s*(v%256)+W%2^s):=by
 have e:=zae (BitVec.ofInt 32 W) (BitVec.ofInt 32 v) s hs
 have l:=((BitVec.ofInt 32 W&&&~~~(255#32<<<s))|||((BitVec.ofInt 32 v&&&255#32)<<<s)).isLt
 have h1:BitVec.ofInt 32 (Qg1 .u32 W (ishl .u32 255 s))=BitVec.ofInt 32 W&&&~~~(255#32<<<s):=by
   show BitVec.ofInt 32 (IntKind.wrap .u32 (BitVec.ofInt 32 W&&&~~~BitVec.ofInt 32 (ishl .u32 255 s)).toNat)=_
   rw[Z67,Zdg ⟨by decide,by decide⟩ s (by omega)]
   rfl
 have h2:BitVec.ofInt 32 (ishl .u32 (iand .u32 v 255) s)=(BitVec.ofInt 32 v&&&255#32)<<<s:=by
   rw[Zdg (Zec _ _) s (by omega)]
   congr 1
   show BitVec.ofInt 32 (IntKind.wrap .u32 (BitVec.ofInt 32 v&&&BitVec.ofInt 32 255).toNat)=_
   rw[Z67];rfl
 show IntKind.wrap .u32 ((BitVec.ofInt 32 (Qg1 .u32 W (ishl .u32 255 s))|||BitVec.ofInt 32 (ishl .u32 (iand .u32 v 255) s)).toNat:Int)=_
 rw[h1,h2]
 have lw:IntKind.wrap .u32 ((((BitVec.ofInt 32 W&&&~~~(255#32<<<s))|||((BitVec.ofInt 32 v&&&255#32)<<<s)).toNat:Nat):Int)=(((BitVec.ofInt 32 W&&&~~~(255#32<<<s))|||((BitVec.ofInt 32 v&&&255#32)<<<s)).toNat:Nat):=by rw[IntKind.wrap_u32];omega
 rw[lw,e,Qu7 hW,Qu7 hv]
 obtain⟨n,rfl⟩: ∃n:Nat,W=n:=⟨W.toNat,by have:=hW.1;omega⟩
 obtain⟨k,rfl⟩: ∃n:Nat,v=n:=⟨v.toNat,by have:=hv.1;omega⟩
 simp
def dig(w:Int)(k:Nat):Int:=if k=0 then w%256 else if k=1 then w/256%256 else if k=2 then w/65536%256 else w/16777216%256
def byt(m:List Int)(a:Nat):Int:=dig (m.getD (a/4) 0) (a%4)
theorem vg(w:Int)(k:Nat):0<=dig w k/\dig w k<256:=by
 unfold dig
 split
 . omega
 . split
   . omega
   . split<;>omega
theorem qaf{w v:Int}(hw:U w)(hv:U v)(h: ∀k,k<4->dig w k=dig v k):w=v:=by
 have h0:=h 0 (by omega)
 have h1:=h 1 (by omega)
 have h2:=h 2 (by omega)
 have h3:=h 3 (by omega)
 simp [dig]at h0 h1 h2 h3
 obtain⟨a,b⟩:=hw
 obtain⟨c,d⟩:=hv
 omega
theorem Zea{m n:List Int}(hl:m.length=n.length)(hm: ∀w∈m,U w)(hn: ∀w∈n,U w)(h: ∀a,byt m a=byt n a):m=n:=by
 refine List.ext_getElem hl λi h1 h2=> ?_
 have e1:m[i]=m.getD i 0:=by simp [List.getD,h1]
 have e2:n[i]=n.getD i 0:=by simp [List.getD,h2]
 rw[e1,e2]
 refine qaf (Qki hm i) (Qki hn i) λk hk=> ?_
 have:=h (4*i+k)
 simp only[byt]at this
 rwa [show(4*i+k)/4=i by omega,show(4*i+k)%4=k by omega]at this
theorem Qst{l:List Int}{i:Nat}(h:i<l.length)(v:Int):(l.set i v).getD i 0=v:=by
 simp [List.getD,h]
theorem Zf0{m:List Int}{i:Nat}(hi:i<m.length)(v:Int)(a:Nat):byt (m.set i v) a=if a/4=i then dig v (a%4) else byt m a:=by
 unfold byt
 split
 . rename_i h;rw[h,Qst hi]
 . rename_i h;rw[getDset _ _ _ _ (λe=>h e.symm)]
theorem zaf{W v:Int}(hW:U W)(hv:U v){j:Nat}(hj:j<4){k:Nat}(hk:k<4):dig (putW W v (8*j)) k=if k=j then v%256 else dig W k:=by
 have h:=xae hW hv (8*j) (by omega)
 rw[h]
 obtain⟨w0,w1⟩:=hW
 have h0:0<=v%256:=by omega
 have h1:v%256<256:=by omega
 generalize v%256=b at*
 clear h
 have hj:j=0\/j=1\/j=2\/j=3:=by omega
 have hk:k=0\/k=1\/k=2\/k=3:=by omega
 rcases hj with rfl|rfl|rfl|rfl<;>rcases hk with rfl|rfl|rfl|rfl<;>simp [dig]<;>omega
theorem xaf{m:List Int}{a v:Int}(ha:U a):Q9n m a 1 v=m.set (a/4).toNat (putW (m.getD (a/4).toNat 0) v (8*(a%4).toNat)):=by
 obtain⟨a0,a1⟩:=ha
 have e1:IntKind.wrap .u32 (Int.tdiv a 4)=a/4:=by rw[IntKind.wrap_u32,Int.tdiv_eq_ediv_of_nonneg a0];omega
 have e2:IntKind.wrap .u32 (8*Int.tmod a 4)=((8*(a%4).toNat:Nat):Int):=by rw[IntKind.wrap_u32,Int.tmod_eq_emod_of_nonneg a0];omega
 have e3:((1:Int)==4)=false:=rfl
 simp only[Q9n,Qdb,Tree.m,e1,e2,e3,cond_false]
 rfl
theorem qh{P:Nat}{m:List Int}(h:Q1 P m){a v:Int}(ha:U a)(hl:a<128*P)(hv:U v):Q1 P (Q9n m a 1 v)/\ ∀b:Nat,byt (Q9n m a 1 v) b=if(b:Int)=a then v%256 else byt m b:=by
 have hlen:=h.len
 have a0:=ha.1
 rw[xaf ha]
 have hi:(a/4).toNat<m.length:=by omega
 refine⟨⟨by rw[List.length_set];exact hlen,h.p1,h.p2,Z3q h.u (U_or _ _) _⟩,λb=> ?_⟩
 rw[Zf0 hi]
 by_cases hb:b/4=(a/4).toNat
 . rw[if_pos hb,zaf (Qki h.u _) hv (by omega) (by omega)]
   by_cases hc:b%4=(a%4).toNat
   . rw[if_pos hc,if_pos (by omega)]
   . rw[if_neg hc,if_neg (by omega),byt,hb]
 . rw[if_neg hb,if_neg (by omega)]
theorem vV{P:Nat}{m:List Int}(h:Q1 P m){frame:Int}(f0:0<=frame)(f1:frame<P)(s:List UInt8):(Q8q m frame s).w (λr=>Q1 P r/\ ∀b:Nat,byt r b=if frame*128<=b/\(b:Int)<frame*128+min s.length 128 then((s.getD (b-frame*128).toNat 0).toNat:Int) else byt m b):=by
 unfold Q8q
 have h3:=h.p2
 refine w_lp (inv:=λz=>0<=z.1/\z.1<=min s.length 128/\Q1 P z.2/\ ∀b:Nat,byt z.2 b=if frame*128<=b/\(b:Int)<frame*128+z.1 then((s.getD (b-frame*128).toNat 0).toNat:Int) else byt m b) (μ:=Qhw m frame s) ⟨show(0:Int)<=0 by decide,by show(0:Int)<=_;omega,h,λb=>by rw[if_neg];show¬(_/\_<_+(0:Int));omega⟩ (Nat.lt_succ_self _) (λv0 hv0=> ?_)
 obtain⟨i,mm⟩:=v0
 obtain⟨i0,i1,hm,hy⟩:=hv0
 have i0:0<=i:=i0
 have i1:i<=min s.length 128:=i1
 have hm:Q1 P mm:=hm
 have fin: ∀r:List Int,r=mm->i=min s.length 128->Q1 P r/\ ∀b:Nat,byt r b=if frame*128<=b/\(b:Int)<frame*128+min s.length 128 then((s.getD (b-frame*128).toNat 0).toNat:Int) else byt m b:=λr hr hi=>by
   subst hr;refine⟨hm,λb=> ?_⟩
   rw[hy b];simp only[hi]
 refine w_br (λh1=>w_br (λh2=>w_cn ?_ ?_) (λh2=>fin mm rfl ?_)) (λh1=>fin mm rfl ?_)
 . have:=of_decide_eq_true h1
   simp [Nat.blt];omega
 . have h1:i<s.length:=of_decide_eq_true h1
   have h2:i<128:=of_decide_eq_true h2
   have e:IntKind.wrap IntKind.u32 (IntKind.wrap IntKind.i64 (IntKind.wrap IntKind.i64 (frame*128)+i))=frame*128+i:=by
     rw[IntKind.wrap_u32,IntKind.wrap_i64,IntKind.wrap_i64];omega
   show(Tree.an (Qeb mm (IntKind.wrap IntKind.u32 (IntKind.wrap IntKind.i64 (IntKind.wrap IntKind.i64 (frame*128)+i))) 1 _) (Tree.lv _ _)).w _
   rw[e]
   have hu:U (frame*128+i):=⟨by omega,by omega⟩
   have hvU: ∀n:Nat,U (IntKind.wrap .u32 (n:Int)):=λn=>Q0s _
   obtain⟨g1,_⟩:=Tree.pp (put_w hm (size:=1) (addr:=frame*128+i) hu (by rw[hm.len];omega) (hvU (UInt8.toNat (s.getD i.toNat 0))))
   obtain⟨g2,g3⟩:=qh hm hu (by omega) (hvU (UInt8.toNat (s.getD i.toNat 0)))
   refine w_an g1 (w_lv λx0 hx0=> ?_)
   rw[hx0]
   have ew:IntKind.i64.wrap (i+1)=i+1:=by rw[IntKind.wrap_i64];omega
   refine w_nx ?_
   show(0<=IntKind.i64.wrap (i+1)/\IntKind.i64.wrap (i+1)<=min s.length 128/\Q1 P _/\ ∀b:Nat,byt _ b=if frame*128<=b/\(b:Int)<frame*128+IntKind.i64.wrap (i+1) then _ else _)/\(128-IntKind.i64.wrap (i+1)).toNat<(128-i).toNat
   rw[ew]
   refine⟨⟨by omega,by omega,g2,λb=> ?_⟩,by omega⟩
   rw[show Q9n mm (frame*128+i) 1 _=_ from rfl,g3 b]
   by_cases hb:(b:Int)=frame*128+i
   . rw[if_pos hb,if_pos (by omega),IntKind.wrap_u32]
     have:=(s.getD i.toNat 0).toNat_lt
     rw[show(b-frame*128).toNat=i.toNat by omega];omega
   . rw[if_neg hb,hy b]
     show(if frame*128<=(b:Int)/\(b:Int)<frame*128+i then _ else _)=_
     by_cases hc:frame*128<=(b:Int)/\(b:Int)<frame*128+i
     . rw[if_pos hc,if_pos (by omega)]
     . rw[if_neg hc,if_neg (by omega)]
 . have h1:i<s.length:=of_decide_eq_true h1
   have h2: ¬i<128:=of_decide_eq_false h2
   omega
 . have h1: ¬i<s.length:=of_decide_eq_false h1
   omega
theorem xh{x y:Int}(hx:U x)(hy:U y)(k:Nat)(hk:x<2^k)(h:x+y*2^k<4294967296):ior .u32 x (y*2^k)=x+y*2^k:=by
 obtain⟨n,rfl⟩: ∃n:Nat,x=n:=⟨x.toNat,by have:=hx.1;omega⟩
 obtain⟨z,rfl⟩: ∃n:Nat,y=n:=⟨y.toNat,by have:=hy.1;omega⟩
 have e:((z:Int)*2^k)=((z*2^k:Nat):Int):=by simp
 rw[e]at h⊢
 have hn:n<2^k:=by exact_mod_cast hk
 rw[zaD hx ⟨by omega,by omega⟩,Int.toNat_natCast,Int.toNat_natCast,Nat.or_comm,Nat.mul_comm,<-Nat.two_pow_add_eq_or_of_lt hn]
 omega
theorem four{a b c d:Int}(ha:0<=a/\a<256)(hb:0<=b/\b<256)(hc:0<=c/\c<256)(hd:0<=d/\d<256):ior .u32 (ior .u32 (ior .u32 (IntKind.wrap .u32 a) (ishl .u32 (IntKind.wrap .u32 b) 8)) (ishl .u32 (IntKind.wrap .u32 c) 16)) (ishl .u32 (IntKind.wrap .u32 d) 24)=a+b*2^8+c*2^16+d*2^24:=by
 have w: ∀{x:Int},0<=x/\x<256->IntKind.wrap .u32 x=x:=λhx=>by rw[IntKind.wrap_u32];omega
 have s8: ∀{x:Int},0<=x/\x<256->ishl .u32 x 8=x*2^8:=fun{x} hx=>by show IntKind.wrap .u32 (x*2^8)=_;rw[IntKind.wrap_u32];omega
 have s16: ∀{x:Int},0<=x/\x<256->ishl .u32 x 16=x*2^16:=fun{x} hx=>by show IntKind.wrap .u32 (x*2^16)=_;rw[IntKind.wrap_u32];omega
 have s24: ∀{x:Int},0<=x/\x<256->ishl .u32 x 24=x*2^24:=fun{x} hx=>by show IntKind.wrap .u32 (x*2^24)=_;rw[IntKind.wrap_u32];omega
 rw[w ha,w hb,w hc,w hd,s8 hb,s16 hc,s24 hd]
 rw[xh ⟨by omega,by omega⟩ ⟨by omega,by omega⟩ 8 (by omega) (by omega),xh ⟨by omega,by omega⟩ ⟨by omega,by omega⟩ 16 (by omega) (by omega),xh ⟨by omega,by omega⟩ ⟨by omega,by omega⟩ 24 (by omega) (by omega)]
theorem vH{a b c d:Int}(ha:0<=a/\a<256)(hb:0<=b/\b<256)(hc:0<=c/\c<256)(hd:0<=d/\d<256)(k:Nat)(hk:k<4):dig (a+b*2^8+c*2^16+d*2^24) k=if k=0 then a else if k=1 then b else if k=2 then c else d:=by
 have hk:k=0\/k=1\/k=2\/k=3:=by omega
 rcases hk with rfl|rfl|rfl|rfl<;>simp [dig]<;>omega
theorem Z7l{P:Nat}{m:List Int}(h:Q1 P m)(f:Int):Q4w m f=decide (0<=f/\f<P):=by
 have hp:=Q3a h
 simp only[Q4w,Q7s,Tree.m,letv,hp]
 by_cases h1:0<=f
 . rw[decide_eq_true h1];simp [h1]
 . rw[decide_eq_false h1];simp [h1]
theorem qI(s:List UInt8)(a b k:Nat)(h:k<b):(List.take b (List.drop a s)).getD k 0=s.getD (a+k) 0:=by
 simp [List.getD_eq_getElem?_getD,List.getElem?_take,h]
theorem u8I(x:UInt8):0<=(x.toNat:Int)/\(x.toNat:Int)<256:=by have:=x.toNat_lt;omega
theorem Qzw{P:Nat}{m:List Int}(h:Q1 P m){f:Int}(f0:0<=f)(f1:f<P){s:List UInt8}(hs:s.length=128):(Q33 m f s).w (λr=>r.2=true/\Q1 P r.1/\ ∀b:Nat,byt r.1 b=if f*128<=b/\(b:Int)<f*128+128 then((s.getD (b-f*128).toNat 0).toNat:Int) else byt m b):=by
  have hcl:Q03 m=m:=rfl
  have h2:=h.p2
  unfold Q33
  refine w_an (Q8c h) (w_lv λx0 hx0=>w_lv λx1 hx1=> ?_)
  rw[hcl]at hx0;subst hx0
  rw[Z7l h,decide_eq_true ⟨f0,f1⟩]at hx1
  subst hx1
  refine w_br (λhb=>by cases hb) λ_=>w_br (λhb=>by simp [hs]at hb) λ_=> ?_
  refine w_lp (inv:=λz:Int×List Int=>0<=z.1/\z.1<=32/\Q1 P z.2/\ ∀b:Nat,byt z.2 b=if f*128<=b/\(b:Int)<f*128+4*z.1 then((s.getD (b-f*128).toNat 0).toNat:Int) else byt x0 b) (μ:=Qa6 x0 f s) ⟨show(0:Int)<=0 by decide,show(0:Int)<=32 by decide,h,λb=>by rw[if_neg];show¬(_/\_<_+4*(0:Int));omega⟩ (Nat.lt_succ_self _) λz ⟨z1,z2,z3,z4⟩=> ?_
  refine w_br (λhb=> ?_) (λhb=>⟨rfl,z3,λb=> ?_⟩)
  . have hb:=of_decide_eq_true hb
    have e1:IntKind.i64.wrap (4*z.1)=4*z.1:=by rw[IntKind.wrap_i64];omega
    have e2:IntKind.i64.wrap (IntKind.i64.wrap (4*z.1)+4)=4*z.1+4:=by rw[IntKind.wrap_i64,IntKind.wrap_i64];omega
    have e3:IntKind.i64.wrap (IntKind.i64.wrap (f*32)+z.1)=f*32+z.1:=by rw[IntKind.wrap_i64,IntKind.wrap_i64];omega
    have hl:=z3.len
    have cut:Int.toNat (IntKind.i64.wrap (IntKind.i64.wrap (4*z.1)+4))-Int.toNat (IntKind.i64.wrap (4*z.1))=4:=by rw[e2,e1];omega
    have hlen:(List.take (Int.toNat (IntKind.i64.wrap (IntKind.i64.wrap (4*z.1)+4))-Int.toNat (IntKind.i64.wrap (4*z.1))) (List.drop (Int.toNat (IntKind.i64.wrap (4*z.1))) s)).length=4:=by
      rw[cut,e1,List.length_take,List.length_drop];omega
    refine w_cn (decide_eq_true (by rw[e2,e1];omega)) ?_
    refine w_cn (decide_eq_true (by rw[hlen];decide)) (w_cn (decide_eq_true (by rw[hlen];decide)) (w_cn (decide_eq_true (by rw[hlen];decide)) (w_cn (decide_eq_true (by rw[hlen];decide)) (w_cn (by rw[e3];simp [Nat.blt];omega) (w_nx ?_)))))
    have ew:IntKind.i64.wrap (z.1+1)=z.1+1:=by rw[IntKind.wrap_i64];omega
    rw[cut]
    refine⟨⟨by show 0<=IntKind.i64.wrap (z.1+1);rw[ew];omega,by show IntKind.i64.wrap (z.1+1)<=32;rw[ew];omega,?_,?_⟩,by show(32-IntKind.i64.wrap (z.1+1)).toNat<(32-z.1).toNat;rw[ew];omega⟩
    . show Q1 P (List.set _ _ _)
      exact⟨by rw[List.length_set];exact hl,z3.p1,z3.p2,Z3q z3.u (U_or _ _) _⟩
    . intro b
      show byt (List.set z.2 (Int.toNat (IntKind.i64.wrap (IntKind.i64.wrap (f*32)+z.1))) _) b=if f*128<=(b:Int)/\(b:Int)<f*128+4*IntKind.i64.wrap (z.1+1) then _ else _
      rw[e3,ew,four (u8I _) (u8I _) (u8I _) (u8I _),Zf0 (by omega)]
      have g: ∀k:Nat,k<4->(List.take 4 (List.drop (Int.toNat (IntKind.i64.wrap (4*z.1))) s)).getD k 0=s.getD ((4*z.1).toNat+k) 0:=λk hk=>by rw[e1];exact qI _ _ _ _ hk
      by_cases hc:b/4=(f*32+z.1).toNat
      . have hin:f*128<=(b:Int)/\(b:Int)<f*128+4*(z.1+1):=by omega
        rw[if_pos hc,vH (u8I _) (u8I _) (u8I _) (u8I _) _ (by omega),if_pos hin]
        have hb4:b%4=0\/b%4=1\/b%4=2\/b%4=3:=by omega
        have gi:(b-f*128).toNat=(4*z.1).toNat+b%4:=by omega
        rw[gi]
        rcases hb4 with h4|h4|h4|h4<;>rw[h4]
        . rw[if_pos rfl,<-g 0 (by omega)];rfl
        . rw[if_neg (by decide),if_pos rfl,<-g 1 (by omega)];rfl
        . rw[if_neg (by decide),if_neg (by decide),if_pos rfl,<-g 2 (by omega)];rfl
        . rw[if_neg (by decide),if_neg (by decide),if_neg (by decide),<-g 3 (by omega)];rfl
      . rw[if_neg hc,z4 b]
        by_cases hd:f*128<=(b:Int)/\(b:Int)<f*128+4*z.1
        . rw[if_pos hd,if_pos (by omega)]
        . rw[if_neg hd,if_neg (by omega)]
  . have hb:=of_decide_eq_false hb
    show byt z.2 b=_
    rw[z4 b,show z.1=32 by omega]
    rfl
theorem Z9b{α:Type}(l l2:List α)(k:Nat)(z:α):(l++l2).getD k z=if k<l.length then l.getD k z else l2.getD (k-l.length) z:=by
 simp only[List.getD_eq_getElem?_getD,List.getElem?_append]
 split<;>rfl
theorem u8w{x:Int}:IntKind.wrap .u8 x=x%256:=IntKind.wrap_u8 x
theorem shr_c(W:Int):ishr .u32 W 8=W/256/\ishr .u32 W 16=W/65536/\ishr .u32 W 24=W/16777216:=by
 refine⟨?_,?_,?_⟩
 . show Int.fdiv W 256=_;rw[Int.fdiv_eq_ediv_of_nonneg _ (by decide)]
 . show Int.fdiv W 65536=_;rw[Int.fdiv_eq_ediv_of_nonneg _ (by decide)]
 . show Int.fdiv W 16777216=_;rw[Int.fdiv_eq_ediv_of_nonneg _ (by decide)]
theorem b4d(W:Int){k:Nat}(hk:k<4):[IntKind.wrap .u8 W,IntKind.wrap .u8 (ishr .u32 W 8),IntKind.wrap .u8 (ishr .u32 W 16),IntKind.wrap .u8 (ishr .u32 W 24)].getD k 0=dig W k:=by
 obtain⟨a,b,c⟩:=shr_c W
 have hk:k=0\/k=1\/k=2\/k=3:=by omega
 rcases hk with rfl|rfl|rfl|rfl<;>simp [dig,a,b,c,u8w]
theorem Qmn(l:List Int)(k:Nat)(h:0<=l.getD k 0/\l.getD k 0<256)(hk:k<l.length):(((bytesOf l).getD k 0).toNat:Int)=l.getD k 0:=by
 have e:(bytesOf l).getD k 0=UInt8.ofNat (l.getD k 0).toNat:=by
   simp [bytesOf,List.getD_eq_getElem?_getD,hk]
 rw[e,UInt8.toNat_ofNat']
 omega
theorem Zew(l:List UInt8)(k:Nat)(hk:k<l.length):(Q8v l).getD k 0=((l.getD k 0).toNat:Int):=by
 simp [Q8v,List.getD_eq_getElem?_getD,hk]
theorem xaD(w:List Int)(h:w.length<=32):(Q4p w).w (λr=>r.length=4*w.length/\ ∀k:Nat,k<4*w.length->((r.getD k 0).toNat:Int)=dig (w.getD (k/4) 0) (k%4)):=by
 have e0:IntKind.i64.wrap (4*(w.length:Int))=4*w.length:=by rw[IntKind.wrap_i64];omega
 unfold Q4p
 refine w_cn (by rw[e0];simp [Nat.blt,D.plain];omega) ?_
 refine w_lp (inv:=λz:Int×List Int=>0<=z.1/\z.1<=w.length/\(z.2.length:Int)=4*z.1/\ ∀k:Nat,(k:Int)<4*z.1->z.2.getD k 0=dig (w.getD (k/4) 0) (k%4)) (μ:=Q6t w) ⟨by decide,by show(0:Int)<=w.length;omega,rfl,λk hk=>by have hk:(k:Int)<4*0:=hk;omega⟩ (Nat.lt_succ_self _) λz ⟨z1,z2,z3,z4⟩=> ?_
 refine w_br (λhb=> ?_) (λhb=> ?_)
 . have hb:=of_decide_eq_true hb
   have ew:IntKind.i64.wrap (z.1+1)=z.1+1:=by rw[IntKind.wrap_i64];omega
   refine w_cn (by simp [Nat.blt];omega) (w_cn (decide_eq_true (by omega)) (w_nx ?_))
   show(_/\_/\_/\ ∀k:Nat,(k:Int)<4*IntKind.i64.wrap (z.1+1)->(z.2++_).getD k 0=_)/\(_:Nat)<_
   refine⟨⟨by rw[ew];omega,by rw[ew];omega,by rw[ew,List.length_append];simp only[List.length_cons,List.length_nil];omega,λk hk=> ?_⟩,by show(w.length-IntKind.i64.wrap (z.1+1)).toNat<(w.length-z.1).toNat;rw[ew];omega⟩
   rw[ew]at hk
   rw[Z9b]
   split
   . exact z4 k (by omega)
   . rename_i hn
     rw[b4d _ (by omega),show z.1.toNat=k/4 by omega,show k-z.2.length=k%4 by omega]
 . have hb:=of_decide_eq_false hb
   show(bytesOf z.2).length=_/\ ∀k:Nat,_->(((bytesOf z.2).getD k 0).toNat:Int)=_
   refine⟨by rw[Qgm];omega,λk hk=> ?_⟩
   have e:=z4 k (by omega)
   have:=vg (w.getD (k/4) 0) (k%4)
   rw[Qmn _ _ (by rw[e];exact this) (by omega),e]
def isPg(m:List Int)(f:Int)(r:List UInt8):Prop:=r.length=128/\ ∀k:Nat,k<128->((r.getD k 0).toNat:Int)=byt m ((f*128).toNat+k)
theorem qaE{m:List Int}{f:Int}{r s:List UInt8}(a:isPg m f r)(b:isPg m f s):r=s:=by
 obtain⟨a1,a2⟩:=a
 obtain⟨b1,b2⟩:=b
 refine List.ext_getElem (by omega) λi h1 h2=> ?_
 have e:=(a2 i (by omega)).trans (b2 i (by omega)).symm
 have e1:r[i]=r.getD i 0:=by simp [List.getD,h1]
 have e2:s[i]=s.getD i 0:=by simp [List.getD,h2]
 rw[e1,e2]
 exact UInt8.toNat_inj.1 (by omega)
theorem zh{P:Nat}{m:List Int}(h:Q1 P m){f:Int}(f0:0<=f)(f1:f<P):(Q62 m f).w (λr=>isPg m f r.1/\r.2=true):=by
 have hl:=h.len
 have h2:=h.p2
 unfold Q62
 refine w_lv λx0 hx0=> ?_
 rw[Z7l h,decide_eq_true ⟨f0,f1⟩]at hx0
 subst hx0
 refine w_br (λhb=>by cases hb) (λhb=> ?_)
 have e1:IntKind.i64.wrap (f*32)=f*32:=by rw[IntKind.wrap_i64];omega
 have e2:IntKind.i64.wrap (IntKind.i64.wrap (f*32)+32)=f*32+32:=by rw[IntKind.wrap_i64,IntKind.wrap_i64];omega
 have cut:Int.toNat (IntKind.i64.wrap (IntKind.i64.wrap (f*32)+32))-Int.toNat (IntKind.i64.wrap (f*32))=32:=by rw[e2,e1];omega
 have hlen:(List.take 32 (List.drop (Int.toNat (IntKind.i64.wrap (f*32))) m)).length=32:=by
   rw[e1,List.length_take,List.length_drop];omega
 refine w_cn (by rw[e2,e1];simp [Nat.blt];omega) ?_
 rw[cut]
 refine w_an (by show List.length _<=1000000000000;rw[hlen];decide) (w_lv λx1 h1=> ?_)
 have t:=(Tree.pp (xaD _ (Nat.le_of_eq hlen))).2
 rw[hlen,show(Q4p (List.take 32 (List.drop (Int.toNat (IntKind.i64.wrap (f*32))) m))).m=x1 from h1.symm]at t
 refine⟨⟨t.1,λk hk=> ?_⟩,rfl⟩
 show((x1.getD k 0).toNat:Int)=_
 rw[t.2 k hk,byt,e1]
 have g:(List.take 32 (List.drop (Int.toNat (f*32)) m)).getD (k/4) 0=m.getD ((f*32).toNat+k/4) 0:=by
   simp [List.getD_eq_getElem?_getD,List.getElem?_take,show k/4<32 by omega]
 rw[g,show((f*128).toNat+k)/4=(f*32).toNat+k/4 by omega,show((f*128).toNat+k)%4=k%4 by omega]
theorem zaE(x:Int):Z8l x 4=bytesOf [IntKind.wrap .u8 (ishr .u32 x 0),IntKind.wrap .u8 (ishr .u32 x 8),IntKind.wrap .u8 (ishr .u32 x 16),IntKind.wrap .u8 (ishr .u32 x 24)]:=by kernel_rfl
theorem qag{P:Nat}{m:List Int}(hm:Q1 P m){frame:Int}(f0:0<=frame)(f1:frame<P):(Q9h m frame).w (λr=>isPg m frame r.1/\r.2=true):=by
 have hp:=Qdy hm
 have hl:=hm.len
 have h2:=hm.p2
 unfold Q9h
 refine w_br (λh=>by have:=of_decide_eq_true h;omega) (λh=>w_lv λx0 hx=>w_br (λh1=>by have:=of_decide_eq_true h1;rw[hx,hp]at this;omega) (λh1=> ?_))
 refine w_lp (inv:=λz:Int×List Int=>0<=z.1/\z.1<=32/\(z.2.length:Int)=4*z.1/\ ∀k:Nat,(k:Int)<4*z.1->z.2.getD k 0=byt m ((frame*128).toNat+k)) (μ:=Qhv m frame) ⟨by decide,by decide,rfl,λk hk=>by have hk:(k:Int)<4*0:=hk;omega⟩ (Nat.lt_succ_self _) (λz hz=> ?_)
 obtain⟨z1,z2,z3,z4⟩:=hz
 refine w_br (λhb=> ?_) (λhb=> ?_)
 . have hb:=of_decide_eq_true hb
   have e:IntKind.wrap IntKind.i64 (IntKind.wrap IntKind.i64 (frame*32)+z.1)=frame*32+z.1:=by rw[IntKind.wrap_i64,IntKind.wrap_i64];omega
   refine w_cn (by rw[e];simp [Nat.blt];omega) (w_an (show(4:Int)<=1000000000000 by decide) (w_lv λx1 h4=> ?_))
   rw[zaE,shr0,e]at h4
   have l4:x1.length=4:=by rw[h4];rfl
   refine w_cn (decide_eq_true (by rw[Qom,l4];omega)) (w_nx ?_)
   show(0<=IntKind.i64.wrap (z.1+1)/\IntKind.i64.wrap (z.1+1)<=32/\((z.2++Q8v x1).length:Int)=4*IntKind.i64.wrap (z.1+1)/\ ∀k:Nat,(k:Int)<4*IntKind.i64.wrap (z.1+1)->(z.2++Q8v x1).getD k 0=_)/\(32-IntKind.i64.wrap (z.1+1)).toNat<(32-z.1).toNat
   have ew:IntKind.i64.wrap (z.1+1)=z.1+1:=by rw[IntKind.wrap_i64];omega
   rw[ew]
   refine⟨⟨by omega,by omega,by rw[List.length_append,Qom,l4];omega,λk hk=> ?_⟩,by omega⟩
   rw[Z9b]
   split
   . exact z4 k (by omega)
   . rename_i hn
     have hk4:k-z.2.length<4:=by omega
     rw[Zew _ _ (by omega),h4]
     have d:=b4d (m.getD (frame*32+z.1).toNat 0) hk4
     rw[Qmn _ _ (by rw[d];exact vg _ _) (by simpa using hk4),d,byt]
     rw[show((frame*128).toNat+k)/4=(frame*32+z.1).toNat by omega,show((frame*128).toNat+k)%4=k-z.2.length by omega]
 . have hb:=of_decide_eq_false hb
   refine⟨⟨?_,λk hk=> ?_⟩,rfl⟩
   . show(bytesOf z.2).length=128
     rw[Qgm];omega
   . show(((bytesOf z.2).getD k 0).toNat:Int)=_
     have e:=z4 k (by omega)
     rw[Qmn _ _ (by rw[e];exact vg _ _) (by omega),e]
theorem Zcz{P:Nat}{m:List Int}(h:Q1 P m)(f:Int):Q5e m f=Qgw m f:=by
 by_cases hf:0<=f/\f<P
 . have a:=(Tree.pp (zh h hf.1 hf.2)).2
   have b:=(Tree.pp (qag h hf.1 hf.2)).2
   exact Prod.ext (qaE a.1 b.1) (a.2.trans b.2.symm)
 . have hp:=Qdy h
   have e1:Q5e m f=([],false):=by
     simp only[Q5e,Q62,Tree.m,letv,Z7l h,decide_eq_false hf];rfl
   have e2:Qgw m f=([],false):=by
     simp only[Qgw,Q9h,Tree.m,letv,hp]
     by_cases h0:f<0
     . rw[decide_eq_true h0];rfl
     . rw[decide_eq_false h0,decide_eq_true (show f>=P by omega)];rfl
   rw[e1,e2]
section
variable {P:Nat} {m:List Int} (h:Q1 P m)
include h
theorem Za6{f:Int}(f0:0<=f)(f1:f<P){s:List UInt8}(hs:s.length=128):Q2j m f s=(Qjh m f s,true):=by
 have a:=(Tree.pp (Qzw h f0 f1 hs)).2
 have b:=(Tree.pp (vV h f0 f1 s)).2
 refine Prod.ext (Zea (a.2.1.len.trans b.1.len.symm) a.2.1.u b.1.u λk=> ?_) a.1
 have e:((min s.length 128:Nat):Int)=128:=by rw[hs];rfl
 have b2:=b.2 k
 have a2:=a.2.2 k
 rw[e]at b2
 exact a2.trans b2.symm
theorem Zai{f:Int}(f0:0<=f)(f1:f<P){s r:List UInt8}(hs:s.length<=128)(hr:isPg m f r):Q2j m f (s++r.drop s.length)=(Qjh m f s,true):=by
  have hl:(s++r.drop s.length).length=128:=by have:=hr.1;simp;omega
  have a:=(Tree.pp (Qzw h f0 f1 hl)).2
  have b:=(Tree.pp (vV h f0 f1 s)).2
  refine Prod.ext (Zea (a.2.1.len.trans b.1.len.symm) a.2.1.u b.1.u λk=> ?_) a.1
  have b2:=b.2 k
  have a2:=a.2.2 k
  refine a2.trans (Eq.trans ?_ b2.symm)
  by_cases hc:f*128<=(k:Int)/\(k:Int)<f*128+128
  . rw [if_pos hc,Z9b]
    by_cases hd:(k-f*128).toNat<s.length
    . rw[if_pos hd,if_pos (by omega)]
    . rw[if_neg hd,if_neg (by omega)]
      have e:(r.drop s.length).getD ((k-f*128).toNat-s.length) 0=r.getD (k-f*128).toNat 0:=by
        simp [List.getD_eq_getElem?_getD,show s.length+((k-f*128).toNat-s.length)=(k-f*128).toNat by omega]
      rw[e,hr.2 _ (by omega),show(f*128).toNat+(k-f*128).toNat=k by omega]
  . rw[if_neg hc,if_neg (by omega)]
theorem Qga{a:Int}(ha:U a){size:Int}(hs:size=1\/size=4):Q1w m a size=decide (a%size=0/\a<128*P):=by
 have hq:=Qdy h
 have h2:=h.p2
 have a0:=ha.1
 have e:IntKind.wrap IntKind.u32 size=size:=by rcases hs with rfl|rfl<;>decide
 have e0:decide (IntKind.wrap IntKind.u32 size≠0)=true:=by rcases hs with rfl|rfl<;>decide
 have t:Int.tmod a (IntKind.wrap IntKind.u32 size)=a%size:=by rw[e,Int.tmod_eq_emod_of_nonneg a0]
 have l: ∀x,x=Q3i m->a%size=0->decide (a<IntKind.wrap IntKind.u32 (IntKind.wrap IntKind.i64 (128*x)))=decide (a%size=0/\a<128*P):=λx hx hz=>by
   rw[hx,hq,IntKind.wrap_u32,IntKind.wrap_i64]
   exact decide_eq_decide.2 ⟨λh=>⟨hz,by omega⟩,λh=>by omega⟩
 refine Tree.post (Q7f m a size) (W:=λb=>b=decide (a%size=0/\a<128*P)) ?_
 unfold Q7f
 refine w_br (λh1=>w_br (λh4=> ?_) (λ_=> ?_)) (λ_=> ?_)
 . have h1: ¬size=1:=by simpa using h1
   have h4: ¬size=4:=by simpa using h4
   omega
 all_goals
   refine w_cn e0 (w_br (λhb=>w_lv λx hx=>l x hx ?_) (λhb=> ?_))
   . rw[t]at hb;exact eq_of_beq hb
   . rw[t]at hb
     exact(decide_eq_false (λh=>by rw[h.1]at hb;cases hb)).symm
theorem Z0s{a:Int}(ha:U a){size:Int}(hs:size=1\/size=4):Qg4 m a size=Q1w m a size:=by
 rw[Qga h ha hs]
 have hq:=Qyv h
 have h2:=h.p2
 have a0:=ha.1
 have a1:=ha.2
 have e:IntKind.wrap IntKind.u32 size=size:=by rcases hs with rfl|rfl<;>decide
 have e0:decide (IntKind.wrap IntKind.u32 size≠0)=true:=by rcases hs with rfl|rfl<;>decide
 have t:Int.tmod a (IntKind.wrap IntKind.u32 size)=a%size:=by rw[e,Int.tmod_eq_emod_of_nonneg a0]
 have l: ∀x,x=Q0v m->a%size=0->decide (IntKind.wrap IntKind.u64 (IntKind.wrap IntKind.u64 a+IntKind.wrap IntKind.u64 size)<=IntKind.wrap IntKind.u64 (IntKind.wrap IntKind.u64 x*128))=decide (a%size=0/\a<128*P):=λx hx hz=>by
   rw[hx,hq]
   simp only[IntKind.wrap_u64]
   refine decide_eq_decide.2 ⟨λh=>⟨hz,?_⟩,λh=> ?_⟩<;>rcases hs with rfl|rfl<;>omega
 refine Tree.post (Q2x m a size) (W:=λb=>b=decide (a%size=0/\a<128*P)) ?_
 unfold Q2x
 refine w_br (λh1=>w_br (λh4=> ?_) (λ_=> ?_)) (λ_=> ?_)
 . have h1: ¬size=1:=by simpa using h1
   have h4: ¬size=4:=by simpa using h4
   omega
 all_goals
   refine w_cn e0 (w_br (λhb=> ?_) (λhb=>w_lv λx hx=>l x hx ?_))
   . rw[t]at hb
     exact(decide_eq_false (λh=>by rw[h.1]at hb;cases hb)).symm
   . rw[t]at hb;simpa using hb
end
theorem fldj(w:Int):Q2r w 0 8=iand .u32 (ishr .u32 w 0) 255/\Q2r w 8 8=iand .u32 (ishr .u32 w 8) 255/\Q2r w 16 8=iand .u32 (ishr .u32 w 16) 255/\Q2r w 24 8=iand .u32 (ishr .u32 w 24) 255:=
 ⟨by kernel_rfl,by kernel_rfl,by kernel_rfl,by kernel_rfl⟩
theorem setj(w v:Int):Q79 w 0 8 v=putW w v 0/\Q79 w 8 8 v=putW w v 8/\Q79 w 16 8 v=putW w v 16/\Q79 w 24 8 v=putW w v 24:=
 ⟨by kernel_rfl,by kernel_rfl,by kernel_rfl,by kernel_rfl⟩
theorem yh{a:Int}(ha:U a):IntKind.wrap .i64 (IntKind.wrap .i64 (Int.tmod a 4)*8)=8*(a%4)/\IntKind.wrap .u32 (8*Int.tmod a 4)=8*(a%4):=by
 obtain⟨a0,a1⟩:=ha
 rw[Int.tmod_eq_emod_of_nonneg a0]
 exact⟨by rw[IntKind.wrap_i64,IntKind.wrap_i64];omega,by rw[IntKind.wrap_u32];omega⟩
section
variable {P:Nat} {m:List Int} (h:Q1 P m)
include h
theorem Qn2{a:Int}(ha:U a){size:Int}(hs:size=1\/size=4):Q4h m a size=Q16 m a size:=by
 have e:=Z0s h ha hs
 obtain⟨s1,s2⟩:=yh ha
 have f:Q2r (m.getD (Int.toNat (IntKind.wrap .u32 (Int.tdiv a 4))) 0) (8*(a%4)) 8=iand .u32 (ishr .u32 (m.getD (Int.toNat (IntKind.wrap .u32 (Int.tdiv a 4))) 0) (8*(a%4))) 255:=by
   obtain⟨f0,f1,f2,f3⟩:=fldj (m.getD (Int.toNat (IntKind.wrap .u32 (Int.tdiv a 4))) 0)
   have:a%4=0\/a%4=1\/a%4=2\/a%4=3:=by omega
   rcases this with h|h|h|h<;>rw[h]
   . exact f0
   . exact f1
   . exact f2
   . exact f3
 simp only[Q4h,Q63,Q16,Q3h,Tree.m,letv,e,s1,s2,f]
omit h in
theorem Z7r(a:Int)(size:Int):(Q16 m a size).2=Q1w m a size:=by
 simp only[Q16,Q3h,Tree.m,letv]
 cases Q1w m a size
 . rfl
 . cases size==1<;>rfl
theorem Z4z{a:Int}(ha:U a){size:Int}(hs:size=1\/size=4)(v:Int):Q8r m a size v=bif Q1w m a size then(Q9n m a size v,true) else(m,false):=by
 have hcl:Q03 m=m:=rfl
 have e:=Z0s h ha hs
 obtain⟨s1,s2⟩:=yh ha
 have f: ∀w,Q79 w (8*(a%4)) 8 v=ior .u32 (Qg1 .u32 w (ishl .u32 255 (8*(a%4)))) (ishl .u32 (iand .u32 v 255) (8*(a%4))):=λw=>by
   obtain⟨f0,f1,f2,f3⟩:=setj w v
   have:a%4=0\/a%4=1\/a%4=2\/a%4=3:=by omega
   rcases this with h|h|h|h<;>rw[h]
   . exact f0
   . exact f1
   . exact f2
   . exact f3
 simp only[Q8r,Q80,Q9n,Qdb,Tree.m,letv,hcl,e,s1,s2,f]
 rcases hs with rfl|rfl<;>cases Q1w m a _<;>rfl
end
section
variable {P:Nat} {m:List Int} (h:Q1 P m)
include h
theorem vh{root va:Int}(hr:U root)(hv:U va){access:Int}(ha:access=1\/access=2\/access=3):Qia m root va access=Q68 m root va access:=by
 have hp:=Qdy h
 have h2:=h.p2
 have hlen:=h.len
 obtain⟨r1,r2⟩:=hr
 obtain⟨v1,v2⟩:=hv
 have hpg: ∀{f:Int},U f->Qa1 m f=decide (f<P):=λhf=>vR h hf
 have eP:IntKind.wrap .u32 (P:Int)=P:=by rw[IntKind.wrap_u32];omega
 have kn:Qda access=true:=by rcases ha with rfl|rfl|rfl<;>rfl
 have ca:Qj4 access=(Q1v access,true):=by rcases ha with rfl|rfl|rfl<;>rfl
 simp only[Qia,Q9v,Q68,Q8l,Tree.m,letv,hp,eP,kn,ca,hpg ⟨r1,r2⟩]
 by_cases c1:va>=4096
 . rw[decide_eq_true c1];rfl
 by_cases c2:root<P
 . have eE:IntKind.wrap IntKind.u32 (IntKind.wrap IntKind.u32 (root*128)+IntKind.wrap IntKind.u32 (4*IntKind.wrap IntKind.u32 (Int.tdiv va 128)))=root*128+4*(va/128):=by
     rw[Int.tdiv_eq_ediv_of_nonneg v1,IntKind.wrap_u32,IntKind.wrap_u32,IntKind.wrap_u32,IntKind.wrap_u32];omega
   have hE:U (root*128+4*(va/128)):=⟨by omega,by omega⟩
   have wi:Q1w m (root*128+4*(va/128)) 4=true:=by
     rw[Qga h hE (.inr rfl)];exact decide_eq_true ⟨by omega,by omega⟩
   rw[decide_eq_false c1,decide_eq_true c2,decide_eq_false (show¬root>=P by omega),eE,Qn2 h hE (.inr rfl),Z7r,wi]
   have ld:(Q16 m (root*128+4*(va/128)) 4).1=m.getD (Int.toNat (IntKind.wrap .u32 (Int.tdiv (root*128+4*(va/128)) 4))) 0:=by
     simp only[Q16,Q3h,Tree.m,letv,wi];rfl
   rw[ld]
   generalize m.getD (Int.toNat (IntKind.wrap .u32 (Int.tdiv (root*128+4*(va/128)) 4))) 0=w
   have fo:Qds w=iand .u32 (ishr .u32 w 8) 255:=(fld w).2.2.2.2
   rw[fo,hpg (Zec _ _)]
   have hge:decide (iand .u32 (ishr .u32 w 8) 255>=(P:Int))=!decide (iand .u32 (ishr .u32 w 8) 255<(P:Int)):=by
     by_cases hq:iand .u32 (ishr .u32 w 8) 255<(P:Int)
     . rw[decide_eq_true hq,decide_eq_false (by omega)];rfl
     . rw[decide_eq_false hq,decide_eq_true (by omega)];rfl
   rw[hge]
   generalize decide (iand .u32 (ishr .u32 w 8) 255<(P:Int))=d
   rcases ha with rfl|rfl|rfl
   . show _=(bif iand .u32 w 1==0 then _ else bif iand .u32 w 4==0 then _ else bif !d then _ else _)
     have:Qaj w 1=(bif iand .u32 w 1==0 then false else !(iand .u32 w 4==0)):=rfl
     rw[this]
     cases iand .u32 w 1==0<;>cases iand .u32 w 4==0<;>cases d<;>rfl
   . show _=(bif iand .u32 w 1==0 then _ else bif !d then _ else _)
     have:Qaj w 2=(bif iand .u32 w 1==0 then false else true):=rfl
     rw[this]
     cases iand .u32 w 1==0<;>cases d<;>rfl
   . show _=(bif iand .u32 w 1==0 then _ else bif iand .u32 w 2==0 then _ else bif !d then _ else _)
     have:Qaj w 3=(bif iand .u32 w 1==0 then false else !(iand .u32 w 2==0)):=rfl
     rw[this]
     cases iand .u32 w 1==0<;>cases iand .u32 w 2==0<;>cases d<;>rfl
 . rw[decide_eq_false c1,decide_eq_false c2,decide_eq_true (show root>=P by omega)];rfl
theorem Zka{a:Int}(ha:U a)(access:Int):Qba m a access=Qn9 m a access:=by
 have hcl:Q03 m=m:=rfl
 have hl:=h.len
 have a0:=ha.1
 simp only[Qba,Q8,Qn9,Qdm,Tree.m,letv,Qn2 h ha (.inr rfl),Z7r,Z4z h ha (.inr rfl),hcl]
 cases hw:Q1w m a 4
 . rfl
 . rw[Qga h ha (.inr rfl)]at hw
   have hw:=of_decide_eq_true hw
   have wi:Q1w m a 4=true:=by rw[Qga h ha (.inr rfl)];exact decide_eq_true hw
   have ld:(Q16 m a 4).1=m.getD (Int.toNat (IntKind.wrap .u32 (Int.tdiv a 4))) 0:=by
     simp only[Q16,Q3h,Tree.m,letv,wi];rfl
   have pu: ∀v,Q9n m a 4 v=m.set (Int.toNat (IntKind.wrap .u32 (Int.tdiv a 4))) v:=λv=>rfl
   rw[ld,pu,pu]
   have hi:Int.toNat (IntKind.wrap .u32 (Int.tdiv a 4))<m.length:=by
     rw[Int.tdiv_eq_ediv_of_nonneg a0,IntKind.wrap_u32];omega
   generalize Int.toNat (IntKind.wrap .u32 (Int.tdiv a 4))=i at*
   rw[Qst hi,List.set_set]
   rfl
end
theorem Qnm{c:Q04}(h0:0<=c.B6.a0)(h:c.B6.a0<=31)(k b:Int):Q48 c k b=Q2m c k b:=by
 have e:=eq_of_beq (Qt6 (λs=>Qg1 .u32 (ior .u32 (Q8h (Q8h s 1 8) 2 16) 1) 2==ior .u32 (Qg1 .u32 (ior .u32 (ior .u32 (Qg1 .u32 s 24) (IntKind.wrap .u32 (8*Qan (iand .u32 s 1 !=0)))) (IntKind.wrap .u32 (16*Qan (iand .u32 s 2 !=0)))) 2) 1) 32 (by kernel_rfl) h0 (by omega))
 simp only[Q48,Qkb,Q2m,Qho,Tree.m,letv,e]
theorem Zgg{c:Q04}(h0:0<=c.B6.a0)(h:c.B6.a0<=31):Qcx c=Qgu c:=by
 have e:=eq_of_beq (Qt6 (λs=>Q8h (Q8h s 8 1) 16 2==ior .u32 (ior .u32 (Qg1 .u32 s 3) (IntKind.wrap .u32 (1*Qan (iand .u32 s 8 !=0)))) (IntKind.wrap .u32 (2*Qan (iand .u32 s 16 !=0)))) 32 (by kernel_rfl) h0 (by omega))
 simp only[Qcx,Qen,Qgu,Qc0,Tree.m,letv,e]
theorem Z65{c:Q04}(h0:0<=c.B6.a0)(h:c.B6.a0<=31):Qkc c=(!Q9q c&&(iand .u32 c.B6.a0 4 !=0)):=
 eq_of_beq (Qt6 (λs=>(iand .u32 s 5==4)==(!(iand .u32 s 1 !=0)&&(iand .u32 s 4 !=0))) 32 (by kernel_rfl) h0 (by omega))
theorem Qy4(c:Q04){r:Int}(hr:0<=r/\r<16)(v:Int):Qa8 c r v=Q1q c r v:=by
 simp only[Qa8,Qbi,Q1q,Qdc,Tree.m]
 by_cases h:r=0
 . subst h;rfl
 . rw[decide_eq_true (show r>0 by omega),decide_eq_true hr.2,show(r !=0)=true by simpa using h];rfl
theorem xI{a b:Int}(ha:U a)(hb:U b):Qb6 a b=Qb3 a b:=by
  obtain⟨a0,a1⟩:=ha
  obtain⟨b0,b1⟩:=hb
  have i: ∀x,IntKind.wrap .i64 (IntKind.wrap .i32 x)=IntKind.wrap .i32 x:=λx=>by rw[IntKind.wrap_i64,IntKind.wrap_i32];omega
  have r32: ∀x,-2147483648<=IntKind.wrap .i32 x/\IntKind.wrap .i32 x<2147483648:=λx=>by rw[IntKind.wrap_i32];omega
  have q32: ∀x y:Int,-2147483648<=x/\x<2147483648-> -2147483648<=Int.tdiv x y/\Int.tdiv x y<=2147483648:=λx y hx=>by
    have h1:(Int.tdiv x y).natAbs<=x.natAbs:=by rw[Int.natAbs_tdiv];exact Nat.div_le_self _ _
    omega
  simp only[Qb6,Q9m,Qb3,Q9y,Tree.m,i]
  cases hb:b==0
  . have w: ∀z,IntKind.wrap .u32 (IntKind.wrap .i32 z)=IntKind.wrap .u32 z:=λz=>by rw[IntKind.wrap_i32,IntKind.wrap_u32,IntKind.wrap_u32];omega
    have w2:IntKind.wrap .i64 (Int.tdiv (IntKind.wrap .i32 a) (IntKind.wrap .i32 b))=Int.tdiv (IntKind.wrap .i32 a) (IntKind.wrap .i32 b):=by
      have:=q32 _ (IntKind.wrap .i32 b) (r32 a)
      rw[IntKind.wrap_i64];omega
    rw[w,w2]
    cases h1:a==2147483648
    . rfl
    . cases h2:b==4294967295
      . rfl
      . have h1:=eq_of_beq h1
        have h2:=eq_of_beq h2
        subst h1;subst h2
        rfl
  . rfl
theorem zI{op a b:Int}(h0:1<=op)(h1:op<=23)(ha:U a)(hb:U b):Q3w op a b=Qca op a b:=by
 have sub:IntKind.wrap .u32 (a+IntKind.wrap .u32 (0-b))=IntKind.wrap .u32 (a-b):=by
   rw[IntKind.wrap_u32,IntKind.wrap_u32,IntKind.wrap_u32];omega
 have hop:op=1\/op=2\/op=3\/op=4\/op=5\/op=6\/op=7\/op=8\/op=9\/op=10\/op=11\/op=12\/op=13\/op=14\/op=15\/op=16\/op=17\/op=18\/op=19\/op=20\/op=21\/op=22\/op=23:=by omega
 have d:=xI ha hb
 rcases hop with rfl|rfl|rfl|rfl|rfl|rfl|rfl|rfl|rfl|rfl|rfl|rfl|rfl|rfl|rfl|rfl|rfl|rfl|rfl|rfl|rfl|rfl|rfl
 . rfl
 . show(IntKind.wrap .u32 (a+IntKind.wrap .u32 (0-b)),true)=(IntKind.wrap .u32 (a-b),true)
   rw[sub]
 . rfl
 . rfl
 . rfl
 . rfl
 . rfl
 . rfl
 . rfl
 . show((Qb6 a b).1,true)=((Qb3 a b).1,true)
   rw[d]
 . show((Qb6 a b).2,true)=((Qb3 a b).2,true)
   rw[d]
 all_goals rfl
theorem Qnu{P:Nat}{m:List Int}(h:Q1 P m){c:Q04}(hc:Q2b c)(hst:c.B6.a0<=31){va:Int}(hv:U va){size:Int}(hs:size=1\/size=4){access:Int}(ha:access=1\/access=2\/access=3):Q1x c m va size access=((Q12 c m va size access).1,(Q12 c m va size access).2.2,(Q12 c m va size access).2.1):=by
 have hcl:Q03 m=m:=rfl
 have kn:Qda access=true:=by rcases ha with rfl|rfl|rfl<;>rfl
 have ca:Qqa access=(Q1v access,true):=by rcases ha with rfl|rfl|rfl<;>rfl
 have pg:=Z65 hc.a0.1 hst
 have wk:=vh h hc.a6 hv ha
 have tc:Qba m (Q68 m c.B6.a6 va access).F3 access=Qn9 m (Q68 m c.B6.a6 va access).F3 access:=Zka h (Tree.pp (qY h hc.a6 hv access)).2.2.1 access
 have sz:(bif size !=1 then bif size !=4 then false else true else true)=true:=by rcases hs with rfl|rfl<;>rfl
 simp only[Q1x,Q5x,Q12,Q72,Tree.m,letv,hcl,kn,ca,pg,wk,tc,Qn2 h hv hs,Z7r]
 rcases hs with rfl|rfl<;>
 . show(bif _ then _ else _)=_
   cases Int.tmod va _ !=0<;>cases Q9q c<;>cases iand .u32 c.B6.a0 4 !=0<;>cases(Q68 m c.B6.a6 va access).F1 !=0<;>cases Q1w m va _<;>rfl
theorem Qyp{α:Type}{Q:α->Prop}{c:Bool}{x y:α}(hx:Q x)(hy:Q y):Q (cond c x y):=by cases c<;>assumption
theorem zag(m:List Int)(root:Int){va:Int}(hv:U va)(access:Int):(Q68 m root va access).F1=0->(Q68 m root va access).Addr%4=va%4:=by
 have hc:Q1v access≠0:=by
   simp only[Q1v,Q86,Tree.m]
   cases access==1<;>cases access==3<;>simp
 have q :(λt:Q14=>t.F1=0->t.Addr%4=va%4) (Q68 m root va access):=by
   simp only[Q68,Q8l,Tree.m,letv]
   repeat'(first
     |exact λe=>absurd e hc
     | (intro _
        show IntKind.wrap .u32 (IntKind.wrap .u32 (_*128)+Int.tmod va 128)%4=va%4
        rw[Int.tmod_eq_emod_of_nonneg hv.1,IntKind.wrap_u32,IntKind.wrap_u32];omega)
     |refine Qyp (Q:=λt:Q14=>t.F1=0->t.Addr%4=va%4) ?_ ?_)
 exact q
theorem yI{c:Q04}{m:List Int}{va:Int}(hv:U va){size:Int}(hs:size=1\/size=4){access:Int}(ha:access=1\/access=2\/access=3):(Q12 c m va size access).2.1=0->(Q12 c m va size access).1%size=0:=by
  have kn:Qda access=true:=by rcases ha with rfl|rfl|rfl<;>rfl
  have hc:Q1v access≠0:=by
    simp only[Q1v,Q86,Tree.m]
    cases access==1<;>cases access==3<;>simp
  rcases hs with rfl|rfl
  . intro _;omega
  simp only[Q12,Q72,Tree.m,letv,kn]
  show(bif Int.tmod va 4 !=0 then((0:Int),(3:Int),m) else _).2.1=0->(bif Int.tmod va 4 !=0 then((0:Int),(3:Int),m) else _).1%4=0
  rw[Int.tmod_eq_emod_of_nonneg hv.1]
  cases hz:va%4 !=0
  . have hz:va%4=0:=by simpa using hz
    have w:=zag m c.B6.a6 hv access
    cases hp:Qkc c
    . cases hw:Q1w m va 4
      . exact λe=>absurd e hc
      . exact λ_=>hz
    . cases hq:(Q68 m c.B6.a6 va access).F1 !=0
      . have hq:(Q68 m c.B6.a6 va access).F1=0:=by simpa using hq
        exact λ_=>(w hq).trans hz
      . have hq: ¬(Q68 m c.B6.a6 va access).F1=0:=by simpa using hq
        exact λe=>absurd e hq
  . intro e;cases e
def eff0:Q11:={B5:=0,D1:=0,E0:=0,Value:=0}
def Q57(c:Q04)(m:List Int)(i:Q0i):Q04×List Int×Q11:=
 bif i.Op==32 then((Q60 c m i).1,(Q60 c m i).2,eff0) else bif i.Op==33 then((Q60 c m i).1,(Q60 c m i).2,eff0) else bif i.Op==34 then((Q60 c m i).1,(Q60 c m i).2,eff0)
 else bif i.Op==35 then((Q7o c m i).1,(Q7o c m i).2,eff0) else bif i.Op==36 then((Q7o c m i).1,(Q7o c m i).2,eff0) else((Qkw c i).1,m,(Qkw c i).2)
def regX(c:Q04)(r:Int):Int:=List.getD (A16.l c.X) r.toNat 0
def Qid(c:Q04)(m:List Int)(i:Q0i):Q04×Q11×List Int:=
 bif decide (i.Op>=56) then((Qh1 c i).1,(Qh1 c i).2,m) else bif decide (i.Op>=40) then(Z17 c i,eff0,m) else bif decide (i.Op>=32) then((Q4v c m i).1,eff0,(Q4v c m i).2)
 else bif i.Op==24 then({X:=(Q1q c i.A (ishl .u32 (IntKind.wrap .u32 i.Imm) 16)).X,Pc:=IntKind.wrap .u32 ((Q1q c i.A (ishl .u32 (IntKind.wrap .u32 i.Imm) 16)).Pc+4),B6:=(Q1q c i.A (ishl .u32 (IntKind.wrap .u32 i.Imm) 16)).B6},eff0,m)
 else bif decide (i.Op<=13) then
   ({X:=(Q1q c i.A (Qca i.Op (regX c i.B) (regX c i.C)).1).X,Pc:=IntKind.wrap .u32 ((Q1q c i.A (Qca i.Op (regX c i.B) (regX c i.C)).1).Pc+4),B6:=(Q1q c i.A (Qca i.Op (regX c i.B) (regX c i.C)).1).B6},eff0,m)
 else({X:=(Q1q c i.A (Qca i.Op (regX c i.B) (IntKind.wrap .u32 i.Imm)).1).X,Pc:=IntKind.wrap .u32 ((Q1q c i.A (Qca i.Op (regX c i.B) (IntKind.wrap .u32 i.Imm)).1).Pc+4),B6:=(Q1q c i.A (Qca i.Op (regX c i.B) (IntKind.wrap .u32 i.Imm)).1).B6},eff0,m)
def isOp(op:Int):Prop:=op=1\/op=2\/op=3\/op=4\/op=5\/op=6\/op=7\/op=8\/op=9\/op=10\/op=11\/op=12\/op=13\/op=16\/op=17\/op=18\/op=19\/op=20\/op=21\/op=22\/op=23\/op=24\/op=32\/op=33\/op=34\/op=35\/op=36\/op=40\/op=41\/op=42\/op=43\/op=44\/op=45\/op=48\/op=49\/op=56\/op=57\/op=58\/op=59\/op=60\/op=61\/op=62\/op=63\/op=64
theorem qW(c:Q04)(r v:Int):(Q1q c r v).Pc=c.Pc/\(Q1q c r v).B6=c.B6:=by
 simp only[Q1q,Qdc,Tree.m]
 cases decide (r>0)
 . exact⟨rfl,rfl⟩
 . cases decide (r<16)<;>exact⟨rfl,rfl⟩
def adv(c:Q04):Q04:={X:=c.X,Pc:=IntKind.wrap .u32 (c.Pc+4),B6:=c.B6}
def va(c:Q04)(B Imm:Int):Int:=IntKind.wrap .u32 (List.getD (A16.l c.X) B.toNat 0+IntKind.wrap .u32 Imm)
def ldP(c:Q04)(A v size:Int)(f:Int->Int)(y:Int×List Int×Int):Q04×List Int:=bif y.2.2 !=0 then(Q48 c y.2.2 v,y.2.1) else(adv (Qa8 c A (f (Q4h y.2.1 y.1 size).1)),y.2.1)
def ldR(c:Q04)(A v size:Int)(f:Int->Int)(x:Int×Int×List Int):Q04×List Int:=bif x.2.1 !=0 then(Q2m c x.2.1 v,x.2.2) else(adv (Q1q c A (f (Q16 x.2.2 x.1 size).1)),x.2.2)
def stP(c:Q04)(A v size:Int)(y:Int×List Int×Int):Q04×List Int:=bif y.2.2 !=0 then(Q48 c y.2.2 v,y.2.1) else(adv c,(Q8r y.2.1 y.1 size (List.getD (A16.l c.X) A.toNat 0)).1)
def stR(c:Q04)(A v size:Int)(x:Int×Int×List Int):Q04×List Int:=bif x.2.1 !=0 then(Q2m c x.2.1 v,x.2.2) else(adv c,Q9n x.2.2 x.1 size (List.getD (A16.l c.X) A.toNat 0))
theorem ld_eq(c:Q04)(m:List Int)(A B C Imm:Int):
   (Q60 c m ⟨32,A,B,C,Imm⟩=ldP c A (va c B Imm) 4 (λv=>v) (Q1x c m (va c B Imm) 4 2)/\Q4v c m ⟨32,A,B,C,Imm⟩=ldR c A (va c B Imm) 4 (λv=>v) (Q12 c m (va c B Imm) 4 2))/\
   (Q60 c m ⟨33,A,B,C,Imm⟩=ldP c A (va c B Imm) 1 (λv=>Q26 v 8) (Q1x c m (va c B Imm) 1 2)/\Q4v c m ⟨33,A,B,C,Imm⟩=ldR c A (va c B Imm) 1 (λv=>Q32 v 8) (Q12 c m (va c B Imm) 1 2))/\
   (Q60 c m ⟨34,A,B,C,Imm⟩=ldP c A (va c B Imm) 1 (λv=>v) (Q1x c m (va c B Imm) 1 2)/\Q4v c m ⟨34,A,B,C,Imm⟩=ldR c A (va c B Imm) 1 (λv=>v) (Q12 c m (va c B Imm) 1 2))/\
   (Q7o c m ⟨35,A,B,C,Imm⟩=stP c A (va c B Imm) 4 (Q1x c m (va c B Imm) 4 3)/\Q4v c m ⟨35,A,B,C,Imm⟩=stR c A (va c B Imm) 4 (Q12 c m (va c B Imm) 4 3))/\
   (Q7o c m ⟨36,A,B,C,Imm⟩=stP c A (va c B Imm) 1 (Q1x c m (va c B Imm) 1 3)/\Q4v c m ⟨36,A,B,C,Imm⟩=stR c A (va c B Imm) 1 (Q12 c m (va c B Imm) 1 3)):=
 ⟨⟨by kernel_rfl,by kernel_rfl⟩,⟨by kernel_rfl,by kernel_rfl⟩,⟨by kernel_rfl,by kernel_rfl⟩,⟨by kernel_rfl,by kernel_rfl⟩,⟨by kernel_rfl,by kernel_rfl⟩⟩
theorem xag{P:Nat}{m:List Int}(h:Q1 P m)(a:Int):Q26 (Q16 m a 1).1 8=Q32 (Q16 m a 1).1 8:=by
 have: ∀x:Int×Bool,(∃w,U w/\x=(iand .u32 w 255,true))\/x=(0,false)->Q26 x.1 8=Q32 x.1 8:=λx hx=>by
   rcases hx with⟨w,hw,rfl⟩|rfl
   . have e:=m255 hw
     exact sx8 (by show 0<=iand .u32 w 255;omega) (by show iand .u32 w 255<256;omega)
   . rfl
 refine this _ ?_
 simp only[Q16,Q3h,Tree.m,letv]
 cases Q1w m a 1
 . exact .inr rfl
 . exact .inl ⟨_,Qtu (Qki h.u _) _,rfl⟩
section
variable {P:Nat} {m:List Int} (h:Q1 P m) {c:Q04} (hc:Q2b c) (hst:c.B6.a0<=31)
include h hc hst
omit hst in
theorem Zfh{v:Int}(hv:U v){size:Int}(hs:size=1\/size=4)(access:Int):Q1 P (Q12 c m v size access).2.2/\U (Q12 c m v size access).1/\((Q12 c m v size access).2.1=0->(Q12 c m v size access).1<128*P):=(Tree.pp (Z70 h hc hv hs access)).2
theorem Zek{A v:Int}(hA:0<=A/\A<16)(hv:U v){size:Int}(hs:size=1\/size=4){f g:Int->Int}(hf: ∀{m':List Int},Q1 P m'-> ∀a,f (Q16 m' a size).1=g (Q16 m' a size).1):ldP c A v size f (Q1x c m v size 2)=ldR c A v size g (Q12 c m v size 2):=by
 rw[Qnu h hc hst hv hs (.inr (.inl rfl))]
 obtain⟨k,u,_⟩:=Zfh h hc hv hs 2
 generalize Q12 c m v size 2=x at*
 simp only[ldP,ldR,Qn2 k u hs,Qnm hc.a0.1 hst,Qy4 c hA,hf k]
theorem qi{A v:Int}(hv:U v){size:Int}(hs:size=1\/size=4):stP c A v size (Q1x c m v size 3)=stR c A v size (Q12 c m v size 3):=by
 rw[Qnu h hc hst hv hs (.inr (.inr rfl))]
 obtain⟨k,u,b⟩:=Zfh h hc hv hs 3
 have al:=yI (c:=c) (m:=m) hv hs (access:=3) (.inr (.inr rfl))
 generalize Q12 c m v size 3=x at*
 simp only[stP,stR,Z4z k u hs,Qnm hc.a0.1 hst,Qga k u hs]
 cases hq:x.2.1 !=0
 . have hq:x.2.1=0:=by simpa using hq
   rw[decide_eq_true ⟨al hq,b hq⟩];rfl
 . rfl
end
theorem vI(c:Q04)(k v:Int):(Qgf c k v).Pc=c.Pc:=by
 simp only[Qgf,Qbh,Tree.m]
 repeat'(first|rfl|refine Qyp (Q:=λx:Q04=>x.Pc=c.Pc) ?_ ?_)
def setP(c:Q04)(A v p:Int):Q04:={X:=(Qa8 c A v).X,Pc:=p,B6:=(Qa8 c A v).B6}
def setR(c:Q04)(A v p:Int):Q04:={X:=(Q1q c A v).X,Pc:=p,B6:=(Q1q c A v).B6}
def nxt(c:Q04):Int:=IntKind.wrap .u32 (c.Pc+4)
theorem Zcv(c:Q04){A:Int}(hA:0<=A/\A<16)(v p:Int):setP c A v p=setR c A v p:=by
 unfold setP setR;rw[Qy4 c hA]
theorem Zg3(c:Q04)(A v:Int):adv (Q1q c A v)=setR c A v (nxt c):=by
 unfold adv setR nxt;rw[(qW c A v).1]
theorem brc(t:Bool)(x y:Q04)(m:List Int):((bif t then(x,eff0) else(y,eff0)).1,m,(bif t then(x,eff0) else(y,eff0)).2)=((bif t then x else y),m,eff0):=by cases t<;>rfl
def isOpB(op:Int):Bool:=decide (op=1)||decide (op=2)||decide (op=3)||decide (op=4)||decide (op=5)||decide (op=6)||decide (op=7)||decide (op=8)||decide (op=9)||decide (op=10)||decide (op=11)||decide (op=12)||decide (op=13)||decide (op=16)||decide (op=17)||decide (op=18)||decide (op=19)||decide (op=20)||decide (op=21)||decide (op=22)||decide (op=23)||decide (op=24)||decide (op=32)||decide (op=33)||decide (op=34)||decide (op=35)||decide (op=36)||decide (op=40)||decide (op=41)||decide (op=42)||decide (op=43)||decide (op=44)||decide (op=45)||decide (op=48)||decide (op=49)||decide (op=56)||decide (op=57)||decide (op=58)||decide (op=59)||decide (op=60)||decide (op=61)||decide (op=62)||decide (op=63)||decide (op=64)
section
variable {P:Nat} {m:List Int} (h:Q1 P m) {c:Q04} (hc:Q2b c) (hst:c.B6.a0<=31) {A B C Imm:Int} (hA:0<=A/\A<16)
include h hc hst hA
theorem xi{op:Int}(hop:isOp op):Q57 c m ⟨op,A,B,C,Imm⟩=((Qid c m ⟨op,A,B,C,Imm⟩).1,(Qid c m ⟨op,A,B,C,Imm⟩).2.2,(Qid c m ⟨op,A,B,C,Imm⟩).2.1):=by
 have alu: ∀{k y:Int},1<=k->k<=23->U y->((setP c A (Q3w k (regX c B) y).1 (nxt c),m,eff0):Q04×List Int×Q11)=(adv (Q1q c A (Qca k (regX c B) y).1),m,eff0):=λh1 h2 hy=>by
   rw[zI h1 h2 (show U (regX c B) from hc.r _) hy,Zg3,Zcv c hA]
 have uC:U (regX c C):=hc.r _
 have uI:U (IntKind.wrap .u32 Imm):=Q0s _
 obtain⟨⟨l1,l2⟩,⟨l3,l4⟩,⟨l5,l6⟩,⟨l7,l8⟩,⟨l9,l10⟩⟩:=ld_eq c m A B C Imm
 have hva:U (va c B Imm):=Q0s _
 rcases hop with rfl|rfl|rfl|rfl|rfl|rfl|rfl|rfl|rfl|rfl|rfl|rfl|rfl|rfl|rfl|rfl|rfl|rfl|rfl|rfl|rfl|rfl|rfl|rfl|rfl|rfl|rfl|rfl|rfl|rfl|rfl|rfl|rfl|rfl|rfl|rfl|rfl|rfl|rfl|rfl|rfl|rfl|rfl|rfl
 . exact(show Q57 c m ⟨1,A,B,C,Imm⟩=(setP c A (Q3w 1 (regX c B) (regX c C)).1 (nxt c),m,eff0) by kernel_rfl).trans ((alu (by decide) (by decide) uC).trans (by kernel_rfl))
 . exact(show Q57 c m ⟨2,A,B,C,Imm⟩=(setP c A (Q3w 2 (regX c B) (regX c C)).1 (nxt c),m,eff0) by kernel_rfl).trans ((alu (by decide) (by decide) uC).trans (by kernel_rfl))
 . exact(show Q57 c m ⟨3,A,B,C,Imm⟩=(setP c A (Q3w 3 (regX c B) (regX c C)).1 (nxt c),m,eff0) by kernel_rfl).trans ((alu (by decide) (by decide) uC).trans (by kernel_rfl))
 . exact(show Q57 c m ⟨4,A,B,C,Imm⟩=(setP c A (Q3w 4 (regX c B) (regX c C)).1 (nxt c),m,eff0) by kernel_rfl).trans ((alu (by decide) (by decide) uC).trans (by kernel_rfl))
 . exact(show Q57 c m ⟨5,A,B,C,Imm⟩=(setP c A (Q3w 5 (regX c B) (regX c C)).1 (nxt c),m,eff0) by kernel_rfl).trans ((alu (by decide) (by decide) uC).trans (by kernel_rfl))
 . exact(show Q57 c m ⟨6,A,B,C,Imm⟩=(setP c A (Q3w 6 (regX c B) (regX c C)).1 (nxt c),m,eff0) by kernel_rfl).trans ((alu (by decide) (by decide) uC).trans (by kernel_rfl))
 . exact(show Q57 c m ⟨7,A,B,C,Imm⟩=(setP c A (Q3w 7 (regX c B) (regX c C)).1 (nxt c),m,eff0) by kernel_rfl).trans ((alu (by decide) (by decide) uC).trans (by kernel_rfl))
 . exact(show Q57 c m ⟨8,A,B,C,Imm⟩=(setP c A (Q3w 8 (regX c B) (regX c C)).1 (nxt c),m,eff0) by kernel_rfl).trans ((alu (by decide) (by decide) uC).trans (by kernel_rfl))
 . exact(show Q57 c m ⟨9,A,B,C,Imm⟩=(setP c A (Q3w 9 (regX c B) (regX c C)).1 (nxt c),m,eff0) by kernel_rfl).trans ((alu (by decide) (by decide) uC).trans (by kernel_rfl))
 . exact(show Q57 c m ⟨10,A,B,C,Imm⟩=(setP c A (Q3w 10 (regX c B) (regX c C)).1 (nxt c),m,eff0) by kernel_rfl).trans ((alu (by decide) (by decide) uC).trans (by kernel_rfl))
 . exact(show Q57 c m ⟨11,A,B,C,Imm⟩=(setP c A (Q3w 11 (regX c B) (regX c C)).1 (nxt c),m,eff0) by kernel_rfl).trans ((alu (by decide) (by decide) uC).trans (by kernel_rfl))
 . exact(show Q57 c m ⟨12,A,B,C,Imm⟩=(setP c A (Q3w 12 (regX c B) (regX c C)).1 (nxt c),m,eff0) by kernel_rfl).trans ((alu (by decide) (by decide) uC).trans (by kernel_rfl))
 . exact(show Q57 c m ⟨13,A,B,C,Imm⟩=(setP c A (Q3w 13 (regX c B) (regX c C)).1 (nxt c),m,eff0) by kernel_rfl).trans ((alu (by decide) (by decide) uC).trans (by kernel_rfl))
 . exact(show Q57 c m ⟨16,A,B,C,Imm⟩=(setP c A (Q3w 16 (regX c B) (IntKind.wrap .u32 Imm)).1 (nxt c),m,eff0) by kernel_rfl).trans ((alu (by decide) (by decide) uI).trans (by kernel_rfl))
 . exact(show Q57 c m ⟨17,A,B,C,Imm⟩=(setP c A (Q3w 17 (regX c B) (IntKind.wrap .u32 Imm)).1 (nxt c),m,eff0) by kernel_rfl).trans ((alu (by decide) (by decide) uI).trans (by kernel_rfl))
 . exact(show Q57 c m ⟨18,A,B,C,Imm⟩=(setP c A (Q3w 18 (regX c B) (IntKind.wrap .u32 Imm)).1 (nxt c),m,eff0) by kernel_rfl).trans ((alu (by decide) (by decide) uI).trans (by kernel_rfl))
 . exact(show Q57 c m ⟨19,A,B,C,Imm⟩=(setP c A (Q3w 19 (regX c B) (IntKind.wrap .u32 Imm)).1 (nxt c),m,eff0) by kernel_rfl).trans ((alu (by decide) (by decide) uI).trans (by kernel_rfl))
 . exact(show Q57 c m ⟨20,A,B,C,Imm⟩=(setP c A (Q3w 20 (regX c B) (IntKind.wrap .u32 Imm)).1 (nxt c),m,eff0) by kernel_rfl).trans ((alu (by decide) (by decide) uI).trans (by kernel_rfl))
 . exact(show Q57 c m ⟨21,A,B,C,Imm⟩=(setP c A (Q3w 21 (regX c B) (IntKind.wrap .u32 Imm)).1 (nxt c),m,eff0) by kernel_rfl).trans ((alu (by decide) (by decide) uI).trans (by kernel_rfl))
 . exact(show Q57 c m ⟨22,A,B,C,Imm⟩=(setP c A (Q3w 22 (regX c B) (IntKind.wrap .u32 Imm)).1 (nxt c),m,eff0) by kernel_rfl).trans ((alu (by decide) (by decide) uI).trans (by kernel_rfl))
 . exact(show Q57 c m ⟨23,A,B,C,Imm⟩=(setP c A (Q3w 23 (regX c B) (IntKind.wrap .u32 Imm)).1 (nxt c),m,eff0) by kernel_rfl).trans ((alu (by decide) (by decide) uI).trans (by kernel_rfl))
 . refine(show Q57 c m ⟨24,A,B,C,Imm⟩=(setP c A (ishl .u32 (IntKind.wrap .u32 Imm) 16) (nxt c),m,eff0) by kernel_rfl).trans ?_
   rw[Zcv c hA,<-Zg3];kernel_rfl
 . have e:=Zek h hc hst hA hva (.inr rfl) (f:=λv=>v) (g:=λv=>v) (λ_ _=>rfl)
   rw[<-l1,<-l2]at e
   refine(show Q57 c m ⟨32,A,B,C,Imm⟩=((Q60 c m ⟨32,A,B,C,Imm⟩).1,(Q60 c m ⟨32,A,B,C,Imm⟩).2,eff0) by kernel_rfl).trans ?_
   rw[e];kernel_rfl
 . have e:=Zek h hc hst hA hva (.inl rfl) (f:=λv=>Q26 v 8) (g:=λv=>Q32 v 8) (λhm a=>xag hm a)
   rw[<-l3,<-l4]at e
   refine(show Q57 c m ⟨33,A,B,C,Imm⟩=((Q60 c m ⟨33,A,B,C,Imm⟩).1,(Q60 c m ⟨33,A,B,C,Imm⟩).2,eff0) by kernel_rfl).trans ?_
   rw[e];kernel_rfl
 . have e:=Zek h hc hst hA hva (.inl rfl) (f:=λv=>v) (g:=λv=>v) (λ_ _=>rfl)
   rw[<-l5,<-l6]at e
   refine(show Q57 c m ⟨34,A,B,C,Imm⟩=((Q60 c m ⟨34,A,B,C,Imm⟩).1,(Q60 c m ⟨34,A,B,C,Imm⟩).2,eff0) by kernel_rfl).trans ?_
   rw[e];kernel_rfl
 . have e:=qi h hc hst (A:=A) hva (.inr rfl)
   rw[<-l7,<-l8]at e
   refine(show Q57 c m ⟨35,A,B,C,Imm⟩=((Q7o c m ⟨35,A,B,C,Imm⟩).1,(Q7o c m ⟨35,A,B,C,Imm⟩).2,eff0) by kernel_rfl).trans ?_
   rw[e];kernel_rfl
 . have e:=qi h hc hst (A:=A) hva (.inl rfl)
   rw[<-l9,<-l10]at e
   refine(show Q57 c m ⟨36,A,B,C,Imm⟩=((Q7o c m ⟨36,A,B,C,Imm⟩).1,(Q7o c m ⟨36,A,B,C,Imm⟩).2,eff0) by kernel_rfl).trans ?_
   rw[e];kernel_rfl
 . exact(show Q57 c m ⟨40,A,B,C,Imm⟩=((bif(Q22 40 (regX c A) (regX c B)) then((⟨c.X,IntKind.wrap .u32 (c.Pc+IntKind.wrap .u32 (4*IntKind.wrap .u32 Imm)),c.B6⟩:Q04),eff0) else(⟨c.X,nxt c,c.B6⟩,eff0)).1,m,(bif(Q22 40 (regX c A) (regX c B)) then((⟨c.X,IntKind.wrap .u32 (c.Pc+IntKind.wrap .u32 (4*IntKind.wrap .u32 Imm)),c.B6⟩:Q04),eff0) else(⟨c.X,nxt c,c.B6⟩,eff0)).2) by kernel_rfl).trans ((brc (Q22 40 (regX c A) (regX c B)) ⟨c.X,IntKind.wrap .u32 (c.Pc+IntKind.wrap .u32 (4*IntKind.wrap .u32 Imm)),c.B6⟩ ⟨c.X,nxt c,c.B6⟩ m).trans (by kernel_rfl))
 . exact(show Q57 c m ⟨41,A,B,C,Imm⟩=((bif(Q22 41 (regX c A) (regX c B)) then((⟨c.X,IntKind.wrap .u32 (c.Pc+IntKind.wrap .u32 (4*IntKind.wrap .u32 Imm)),c.B6⟩:Q04),eff0) else(⟨c.X,nxt c,c.B6⟩,eff0)).1,m,(bif(Q22 41 (regX c A) (regX c B)) then((⟨c.X,IntKind.wrap .u32 (c.Pc+IntKind.wrap .u32 (4*IntKind.wrap .u32 Imm)),c.B6⟩:Q04),eff0) else(⟨c.X,nxt c,c.B6⟩,eff0)).2) by kernel_rfl).trans ((brc (Q22 41 (regX c A) (regX c B)) ⟨c.X,IntKind.wrap .u32 (c.Pc+IntKind.wrap .u32 (4*IntKind.wrap .u32 Imm)),c.B6⟩ ⟨c.X,nxt c,c.B6⟩ m).trans (by kernel_rfl))
 . exact(show Q57 c m ⟨42,A,B,C,Imm⟩=((bif(Q22 42 (regX c A) (regX c B)) then((⟨c.X,IntKind.wrap .u32 (c.Pc+IntKind.wrap .u32 (4*IntKind.wrap .u32 Imm)),c.B6⟩:Q04),eff0) else(⟨c.X,nxt c,c.B6⟩,eff0)).1,m,(bif(Q22 42 (regX c A) (regX c B)) then((⟨c.X,IntKind.wrap .u32 (c.Pc+IntKind.wrap .u32 (4*IntKind.wrap .u32 Imm)),c.B6⟩:Q04),eff0) else(⟨c.X,nxt c,c.B6⟩,eff0)).2) by kernel_rfl).trans ((brc (Q22 42 (regX c A) (regX c B)) ⟨c.X,IntKind.wrap .u32 (c.Pc+IntKind.wrap .u32 (4*IntKind.wrap .u32 Imm)),c.B6⟩ ⟨c.X,nxt c,c.B6⟩ m).trans (by kernel_rfl))
 . exact(show Q57 c m ⟨43,A,B,C,Imm⟩=((bif(Q22 43 (regX c A) (regX c B)) then((⟨c.X,IntKind.wrap .u32 (c.Pc+IntKind.wrap .u32 (4*IntKind.wrap .u32 Imm)),c.B6⟩:Q04),eff0) else(⟨c.X,nxt c,c.B6⟩,eff0)).1,m,(bif(Q22 43 (regX c A) (regX c B)) then((⟨c.X,IntKind.wrap .u32 (c.Pc+IntKind.wrap .u32 (4*IntKind.wrap .u32 Imm)),c.B6⟩:Q04),eff0) else(⟨c.X,nxt c,c.B6⟩,eff0)).2) by kernel_rfl).trans ((brc (Q22 43 (regX c A) (regX c B)) ⟨c.X,IntKind.wrap .u32 (c.Pc+IntKind.wrap .u32 (4*IntKind.wrap .u32 Imm)),c.B6⟩ ⟨c.X,nxt c,c.B6⟩ m).trans (by kernel_rfl))
 . exact(show Q57 c m ⟨44,A,B,C,Imm⟩=((bif(Q22 44 (regX c A) (regX c B)) then((⟨c.X,IntKind.wrap .u32 (c.Pc+IntKind.wrap .u32 (4*IntKind.wrap .u32 Imm)),c.B6⟩:Q04),eff0) else(⟨c.X,nxt c,c.B6⟩,eff0)).1,m,(bif(Q22 44 (regX c A) (regX c B)) then((⟨c.X,IntKind.wrap .u32 (c.Pc+IntKind.wrap .u32 (4*IntKind.wrap .u32 Imm)),c.B6⟩:Q04),eff0) else(⟨c.X,nxt c,c.B6⟩,eff0)).2) by kernel_rfl).trans ((brc (Q22 44 (regX c A) (regX c B)) ⟨c.X,IntKind.wrap .u32 (c.Pc+IntKind.wrap .u32 (4*IntKind.wrap .u32 Imm)),c.B6⟩ ⟨c.X,nxt c,c.B6⟩ m).trans (by kernel_rfl))
 . exact(show Q57 c m ⟨45,A,B,C,Imm⟩=((bif(Q22 45 (regX c A) (regX c B)) then((⟨c.X,IntKind.wrap .u32 (c.Pc+IntKind.wrap .u32 (4*IntKind.wrap .u32 Imm)),c.B6⟩:Q04),eff0) else(⟨c.X,nxt c,c.B6⟩,eff0)).1,m,(bif(Q22 45 (regX c A) (regX c B)) then((⟨c.X,IntKind.wrap .u32 (c.Pc+IntKind.wrap .u32 (4*IntKind.wrap .u32 Imm)),c.B6⟩:Q04),eff0) else(⟨c.X,nxt c,c.B6⟩,eff0)).2) by kernel_rfl).trans ((brc (Q22 45 (regX c A) (regX c B)) ⟨c.X,IntKind.wrap .u32 (c.Pc+IntKind.wrap .u32 (4*IntKind.wrap .u32 Imm)),c.B6⟩ ⟨c.X,nxt c,c.B6⟩ m).trans (by kernel_rfl))
 . refine(show Q57 c m ⟨48,A,B,C,Imm⟩=(setP c A (nxt c) (IntKind.wrap .u32 ((Qa8 c A (nxt c)).Pc+IntKind.wrap .u32 (4*IntKind.wrap .u32 Imm))),m,eff0) by kernel_rfl).trans ?_
   rw[Zcv c hA,Qy4 c hA,(qW c A (nxt c)).1];kernel_rfl
 . refine(show Q57 c m ⟨49,A,B,C,Imm⟩=(setP c A (nxt c) (va c B Imm),m,eff0) by kernel_rfl).trans ?_
   rw[Zcv c hA];kernel_rfl
 . refine(show Q57 c m ⟨56,A,B,C,Imm⟩=(Q48 c 7 0,m,eff0) by kernel_rfl).trans ?_
   rw[Qnm hc.a0.1 hst];kernel_rfl
 . refine(show Q57 c m ⟨57,A,B,C,Imm⟩=(Qcx c,m,eff0) by kernel_rfl).trans ?_
   rw[Zgg hc.a0.1 hst];kernel_rfl
 . refine(show Q57 c m ⟨58,A,B,C,Imm⟩=(setP c A (List.getD (A8.l c.B6) Imm.toNat 0) (nxt c),m,eff0) by kernel_rfl).trans ?_
   rw[Zcv c hA,<-Zg3];kernel_rfl
 . have e:=vI c (IntKind.wrap .i64 Imm) (regX c A)
   refine(show Q57 c m ⟨59,A,B,C,Imm⟩=((⟨(Qgf c (IntKind.wrap .i64 Imm) (regX c A)).X,IntKind.wrap .u32 (c.Pc+4),(Qgf c (IntKind.wrap .i64 Imm) (regX c A)).B6⟩:Q04),m,eff0) by kernel_rfl).trans ?_
   rw[<-e];kernel_rfl
 . exact(show Q57 c m ⟨60,A,B,C,Imm⟩=((Qid c m ⟨60,A,B,C,Imm⟩).1,(Qid c m ⟨60,A,B,C,Imm⟩).2.2,(Qid c m ⟨60,A,B,C,Imm⟩).2.1) by kernel_rfl)
 . exact(show Q57 c m ⟨61,A,B,C,Imm⟩=((Qid c m ⟨61,A,B,C,Imm⟩).1,(Qid c m ⟨61,A,B,C,Imm⟩).2.2,(Qid c m ⟨61,A,B,C,Imm⟩).2.1) by kernel_rfl)
 . exact(show Q57 c m ⟨62,A,B,C,Imm⟩=((Qid c m ⟨62,A,B,C,Imm⟩).1,(Qid c m ⟨62,A,B,C,Imm⟩).2.2,(Qid c m ⟨62,A,B,C,Imm⟩).2.1) by kernel_rfl)
 . exact(show Q57 c m ⟨63,A,B,C,Imm⟩=((Qid c m ⟨63,A,B,C,Imm⟩).1,(Qid c m ⟨63,A,B,C,Imm⟩).2.2,(Qid c m ⟨63,A,B,C,Imm⟩).2.1) by kernel_rfl)
 . exact(show Q57 c m ⟨64,A,B,C,Imm⟩=((Qid c m ⟨64,A,B,C,Imm⟩).1,(Qid c m ⟨64,A,B,C,Imm⟩).2.2,(Qid c m ⟨64,A,B,C,Imm⟩).2.1) by kernel_rfl)
end
theorem qah{op:Int}(h0:0<=op)(h1:op<256)(h:Q28 op≠0):isOp op:=by
 have e:=of_decide_eq_true (Qt6 (λop=>decide (Q28 op=0\/isOpB op=true)) 256 (by kernel_rfl) h0 h1)
 rcases e with e|e
 . exact absurd e h
 . simpa only[isOpB,isOp,Bool.or_eq_true,decide_eq_true_eq,or_assoc] using e
theorem vi{op:Int}(o:isOp op):1<=op/\op<=64:=by
 unfold isOp at o
 rcases o with h|h|h|h|h|h|h|h|h|h|h|h|h|h|h|h|h|h|h|h|h|h|h|h|h|h|h|h|h|h|h|h|h|h|h|h|h|h|h|h|h|h|h|h<;>(rw[h];decide)
theorem qj{w:Int}(hw:U w):(Q1s w).2=true->isOp (Q1s w).1.Op:=by
  have s24:ishr .u32 w 24=w/16777216:=by have:=Qpo (a:=w) 24 (by decide);simpa using this
  obtain⟨w0,w1⟩:=hw
  have eo:IntKind.wrap .i64 (w/16777216)=w/16777216:=w64 (by omega) (by omega)
  have q:(λr:Q0i×Bool=>r.2=true->isOp r.1.Op) (Q1s w):=by
    simp only[Q1s,Q66,Tree.m,letv,s24,eo]
    cases hf:Q28 (w/16777216)==0
    . have g:isOp (w/16777216):=qah (by omega) (by omega) (by simpa using hf)
      repeat'(first
        |exact λ_=>g
        |exact λe=>Bool.noConfusion (show false=true from e)
        |refine Qyp (Q:=λr:Q0i×Bool=>r.2=true->isOp r.1.Op) ?_ ?_)
    . exact λe=>Bool.noConfusion (show false=true from e)
  exact q
section
variable (c:Q04) (m:List Int)
def doR(x:Int×Int×List Int)(w:Int)(d:Q0i×Bool):Q04×Q11×List Int:=
 bif x.2.1 !=0 then(Q2m c x.2.1 c.Pc,eff0,x.2.2) else bif !d.2 then(Q2m c 1 w,eff0,x.2.2) else bif Q2w d.1.Op then(bif iand .u32 c.B6.a0 1==0 then(Q2m c 2 w,eff0,x.2.2) else Qid c x.2.2 d.1) else Qid c x.2.2 d.1
def doP(y:Int×List Int×Int)(d:Q0i×Bool):Q04×List Int×Q11:=
 bif y.2.2 !=0 then(Q48 c y.2.2 c.Pc,y.2.1,eff0) else bif !d.2 then(Q48 c 1 y.1,y.2.1,eff0) else bif Q83 d.1.Op then(bif !Q9q c then(Q48 c 2 y.1,y.2.1,eff0) else Q57 c y.2.1 d.1) else Q57 c y.2.1 d.1
theorem do_eq:Q6k c m=doR c (Q12 c m c.Pc 4 1) (Q16 (Q12 c m c.Pc 4 1).2.2 (Q12 c m c.Pc 4 1).1 4).1 (Q1s (Q16 (Q12 c m c.Pc 4 1).2.2 (Q12 c m c.Pc 4 1).1 4).1):=by kernel_rfl
theorem zah:Q4u c m=doP c (Qmy c m) (Qg9 (Qmy c m).1):=by kernel_rfl
theorem qJ:Qmy c m=bif(Q1x c m c.Pc 4 1).2.2 !=0 then(0,(Q1x c m c.Pc 4 1).2.1,(Q1x c m c.Pc 4 1).2.2) else((Q4h (Q1x c m c.Pc 4 1).2.1 (Q1x c m c.Pc 4 1).1 4).1,(Q1x c m c.Pc 4 1).2.1,0):=by kernel_rfl
end
theorem Za3{P:Nat}{m:List Int}(h:Q1 P m){c:Q04}(hc:Q2b c)(hst:c.B6.a0<=31):Q4u c m=((Q6k c m).1,(Q6k c m).2.2,(Q6k c m).2.1):=by
  obtain⟨k,u,b⟩:=Zfh h hc hc.pc (.inr rfl) 1
  have tr: ∀k b,Q48 c k b=Q2m c k b:=Qnm hc.a0.1 hst
  rw[zah,do_eq,qJ,Qnu h hc hst hc.pc (.inr rfl) (.inl rfl)]
  generalize Q12 c m c.Pc 4 1=x at*
  cases hx:x.2.1 !=0
  . rw [Qn2 k u (.inr rfl)]
    have hw:U (Q16 x.2.2 x.1 4).1:=(Tree.pp (Zch k u (.inr rfl))).2
    generalize(Q16 x.2.2 x.1 4).1=w at*
    show doP c (w,x.2.2,0) (Qg9 w)=_
    rw[yg hw]
    have o:=qj hw
    have i:=Tree.post _ (Zh8 w)
    change(Q1s w).2=true->Qex (Q1s w).1 at i
    generalize Q1s w=d at*
    obtain⟨⟨op,A,B,C,Imm⟩,ok⟩:=d
    cases ok
    . simp only[doP,doR,hx,tr];rfl
    . have o:isOp op:=o rfl
      have i:=i rfl
      have p:=xi (C:=C) (B:=B) (Imm:=Imm) k hc hst i.a o
      have pv:Q83 op=Q2w op:=qae (by have:=vi o;omega) (by have:=vi o;omega)
      have kn:(!Q9q c)=(iand .u32 c.B6.a0 1==0):=by
        show(!(!(iand .u32 c.B6.a0 1==0)))=_
        exact Bool.not_not _
      simp only[doP,doR,hx,tr,pv,kn,p]
      cases Q2w op
      . rfl
      . cases iand .u32 c.B6.a0 1==0<;>rfl
  . simp only[doP,doR,hx,cond_true,tr]
theorem xj{a b:Int}:decide (a>=b)=!decide (a<b):=by
 by_cases h:a<b
 . rw[decide_eq_true h,decide_eq_false (by omega)];rfl
 . rw[decide_eq_false h,decide_eq_true (by omega)];rfl
def bits(g:Int)(l:List Nat)(s:Int):Int:=l.foldl (λ(a:Int) (i:Nat)=>IntKind.wrap .i64 (a+IntKind.wrap .i64 (iand .u32 (ishr .u32 g (i:Int)) 1))) s
theorem xJ(b:Q07):Qd1 b=bits b.C2 [0,1,2,3,4,5,6,7,8,9,10,11,12,13,14,15,16,17,18,19,20,21,22,23,24,25,26,27,28,29,30,31] 0:=by kernel_rfl
theorem xaE{g:Int}(hg:U g){i:Nat}(hi:i<=32):IntKind.wrap .i64 (iand .u32 (ishr .u32 g (i:Int)) 1)=g/2^i%2:=by
 rw[and1 (Qtu hg _),Qpo i hi]
 have:0<=g/2^i%2/\g/2^i%2<2:=by omega
 exact w64 (by omega) (by omega)
theorem zJ{g:Int}(hg:U g)(l:List Nat): ∀s:Int,(∀i∈l,i<=32)->0<=s->s+l.length<=1000->bits g l s=s+(l.map λi=>g/2^i%2).sum:=by
 induction l with
 |nil=>intro s _ _ _;simp [bits]
 | cons i l ih=>
   intro s hl h0 h1
   have h1:s+(l.length+1)<=1000:=by simpa using h1
   have hb:0<=g/2^i%2/\g/2^i%2<2:=by omega
   have e:bits g (i::l) s=bits g l (s+g/2^i%2):=by
     show bits g l (IntKind.wrap .i64 (s+IntKind.wrap .i64 (iand .u32 (ishr .u32 g (i:Int)) 1)))=_
     rw[xaE hg (hl i (by simp)),w64 (by omega) (by omega)]
   rw[e,ih _ (λj hj=>hl j (by simp [hj])) (by omega) (by omega)]
   simp;omega
theorem Zkt(n:Q0q)(port:Int):Z1e n port=Qgc n port:=by
 simp only[Z1e,Qt9,Qgc,Qe9,Tree.m]
 cases n.C7<;>cases n.B8<;>rfl
theorem Z2o(t:Q0g):Q3z t=Qc5 t:=by
 simp only[Q3z,Ql1,Qc5,Qi8,Tree.m]
 cases t.D2<;>cases t.D5<;>rfl
theorem Zd9(n:Q0q)(p:Int):Q5l n p=Qgq n p:=by
 simp only[Q5l,Qjs,Qgq,Ql6,Tree.m]
 cases n.C7<;>cases n.B8<;>rfl
theorem Z7m(d:Q0e)(p:Int):Q1c d p=Qeh d p:=by
  simp only[Q1c,Q5s,Q8z,Q6s,Qeh,Qj8,Tree.m,letv,xj]
  cases decide (d.Blocks>64)
  . by_cases s:d.C1=0\/d.C1=1\/d.C1=2\/d.C1=3
    . rcases s with s|s|s|s<;>rw[s]
      . rfl
      . by_cases c1:d.D8=1
        . rw[c1];cases decide (d.B7<d.Blocks)<;>cases decide (IntKind.wrap .i64 d.B3<p)<;>cases decide (d.C3=[])<;>rfl
        . by_cases c2:d.D8=2
          . rw[c2];cases decide (d.B7<d.Blocks)<;>cases decide (IntKind.wrap .i64 d.B3<p)<;>cases(d.C3.length:Int)==128<;>rfl
          . rw[show(d.D8==1)=false by simpa using c1,show(d.D8==2)=false by simpa using c2]
            cases decide (d.B7<d.Blocks)<;>cases decide (IntKind.wrap .i64 d.B3<p)<;>rfl
      . rfl
      . rfl
    . rw[show(d.C1==0)=false by simp;omega,show(d.C1==1)=false by simp;omega,show(d.C1==2)=false by simp;omega,show(d.C1==3)=false by simp;omega]
      by_cases n:d.C1<0
      . rw[decide_eq_true n];rfl
      . rw[decide_eq_false n,decide_eq_true (show d.C1>3 by omega)];rfl
  . rfl
theorem yJ(c:Q0b):Q98 c=Q58 c:=by
 show(!decide (c.D3=[]))=decide ((c.D3.length:Int)>0)
 cases c.D3 with
 |nil=>rfl
 |cons a l=>rw[decide_eq_false (by simp),decide_eq_true (by simp)];rfl
theorem xah(k:List UInt8):decide (k=[])=((k.length:Int)==0):=by
 cases k with
 |nil=>rfl
 | cons a l=>
   rw[decide_eq_false (by simp)]
   exact(beq_eq_false_iff_ne.2 (by simp;omega)).symm
theorem Zl4(c:Q0b)(port:Int):Qoa c port=Q4x c port:=by
 simp only[Qoa,Q8t,Q4x,Q36,Tree.m,xah]
 cases port==0
 . rfl
 . cases(c.D3.length:Int)==0<;>rfl
theorem vJ(t:Q0g)(v:Int):Qjj t v=Qsk v:=by
 simp only[Qjj,Ql7,Qsk,Qte,Tree.m]
 cases h:v==0
 . rw[show(v !=0)=true by simp only[bne,h];rfl];rfl
 . rw[show(v !=0)=false by simp only[bne,h];rfl,eq_of_beq h];rfl
section
variable {P:Nat} {m:List Int} (h:Q1 P m)
include h
theorem Z5l(f:Int):Q97 m f=Q1y m f:=by
 have a:=Q3a h
 have b:=Qdy h
 simp only[Q97,Qc9,Q1y,Qhb,Tree.m,letv,a,b]
theorem Z4r(f:Int):Q9t m f=Q1y m f:=by
 have a:=Q3a h
 have b:=Qdy h
 simp only[Q9t,Qer,Q1y,Qhb,Tree.m,letv,a,b]
theorem Zbu(d:Q0e)(port:Int)(v:Int)(at0:Int):Qy6 d m port v at0=Qe7 d m port v at0:=by
  have pg:=Z5l h
  have pa:=Zcz h
  have rq: ∀d a,Qir d a=Qiw d a:=λ_ _=>rfl
  simp only[Qy6,Qgh,Qtw,Qb7,Qe7,Q7y,Tree.m,letv,pg,pa,rq]
  cases port==4
  . cases port==5
    . cases h6:port==6
      . rw[show(port !=6)=true by simp only[bne,h6];rfl];rfl
      . rw [show(port !=6)=false by simp only[bne,h6];rfl]
        by_cases v1:v=1
        . subst v1
          cases hs:d.C1==0
          . rw[show(d.C1 !=0)=true by simp only[bne,hs];rfl];rfl
          . rw[show(d.C1 !=0)=false by simp only[bne,hs];rfl];rfl
        . by_cases v2:v=2
          . subst v2
            cases hs:d.C1==0
            . rw[show(d.C1 !=0)=true by simp only[bne,hs];rfl];rfl
            . rw[show(d.C1 !=0)=false by simp only[bne,hs];rfl];rfl
          . rw[show(v==1)=false by simpa using v1,show(v==2)=false by simpa using v2]
            cases v==0
            . rfl
            . have:Q9i d=(bif d.C1==2 then true else d.C1==3):=rfl
              rw[this]
              cases d.C1==2<;>cases d.C1==3<;>rfl
    . rfl
  . rfl
theorem Zgi(n:Q0q)(port:Int)(v:Int)(at0:Int):Z8g n m port v at0=Qi3 n m port v at0:=by
  have pg:=Z4r h
  have pa:=Zcz h
  simp only[Z8g,Qjo,Z80,Qge,Qi3,Q9r,Tree.m,letv,pg,pa]
  have g1:decide (n.F0>=1)=!decide (n.F0<1):=xj
  have g2:decide (n.F0<=128)=!decide (n.F0>128):=by
    by_cases h:n.F0>128
    . rw[decide_eq_true h,decide_eq_false (by omega)];rfl
    . rw[decide_eq_false h,decide_eq_true (by omega)];rfl
  rw[g1,g2]
  cases port==7
  . cases port==8
    . cases h9:port==9
      . rw[show(port !=9)=true by simp only[bne,h9];rfl];rfl
      . rw [show(port !=9)=false by simp only[bne,h9];rfl]
        by_cases v1:v=1
        . subst v1
          cases decide (n.F0<1)<;>cases decide (n.F0>128)<;>cases Q1y m n.B4<;>rfl
        . by_cases v2:v=2
          . subst v2;rfl
          . rw[show(v==1)=false by simpa using v1,show(v==2)=false by simpa using v2]
            cases v==0<;>rfl
    . rfl
  . rfl
theorem Z8u{d:Q0e}(hd:Q8j d)(e:Q0f):Qg2 d m e=((Q75 d m e).1,(Q75 d m e).2.2,(Q75 d m e).2.1):=by
  have hcl:Q03 m=m:=rfl
  have pg:=Z5l h d.B3
  have lp:decide ((e.C8.length:Int)>0)=!decide (e.C8=[]):=by
    cases e.C8 with
    |nil=>rfl
    |cons a l=>rw[decide_eq_true (by simp),decide_eq_false (by simp)];rfl
  have bad:(e.C8.length:Int)≠128->Q1y m d.B3=true->Q2j m (IntKind.wrap .i64 d.B3) e.C8=(m,false):=λhl hp=>by
    rw[Qkl h hd.opFrame]at hp
    have hp:=of_decide_eq_true hp
    have h1:=hd.opFrame.1
    have h3:=h.p2
    have ew:IntKind.i64.wrap d.B3=d.B3:=w64 (by omega) (by omega)
    simp only[Q2j,Q33,Tree.m,letv,hcl,ew,Z7l h,decide_eq_true (⟨h1,hp⟩:0<=d.B3/\d.B3<P),show((e.C8.length:Int) !=128)=true by simpa using hl]
    rfl
  have good:(e.C8.length:Int)=128->Q1y m d.B3=true->Q2j m (IntKind.wrap .i64 d.B3) e.C8=(Qjh m (IntKind.wrap .i64 d.B3) e.C8,true):=λhl hp=>by
    rw[Qkl h hd.opFrame]at hp
    have hp:=of_decide_eq_true hp
    have h1:=hd.opFrame.1
    have h3:=h.p2
    have ew:IntKind.i64.wrap d.B3=d.B3:=w64 (by omega) (by omega)
    rw[ew];exact Za6 h h1 hp (by omega)
  simp only[Qg2,Q6h,Q75,Q5u,Tree.m,letv,hcl,pg,lp]
  cases d.C1 !=1
  . cases e.B5 !=4
    . cases decide (e.N>1)
      . cases e.N==1
        . cases decide (e.C8=[])<;>rfl
        . cases hc:d.D8==1
          . cases decide (e.C8=[])<;>rfl
          . by_cases hl:(e.C8.length:Int)=128
            . rw[show((e.C8.length:Int) !=128)=false by simpa using hl]
              cases hp:Q1y m d.B3
              . rfl
              . rw[good hl hp];rfl
            . rw[show((e.C8.length:Int) !=128)=true by simpa using hl]
              cases hp:Q1y m d.B3
              . rfl
              . rw[bad hl hp];rfl
      . rfl
    . rfl
  . rfl
theorem Z9o{n:Q0q}(hn:Qie n)(frame:List UInt8):Qle n m frame=((Q76 n m frame).1,(Q76 n m frame).2.2,(Q76 n m frame).2.1):=by
  have hcl:Q03 m=m:=rfl
  have pg:=Z4r h n.C0
  simp only[Qle,Q9k,Q76,Q5y,Tree.m,letv,hcl,pg]
  cases !n.C7
  . cases decide ((frame.length:Int)<1)
    . cases hf:decide ((frame.length:Int)>128)
      . cases hp:Q1y m n.C0
        . rfl
        . rw[Qkl h hn.buffer]at hp
          have hp:=of_decide_eq_true hp
          have h1:=hn.buffer.1
          have h3:=h.p2
          have ew:IntKind.i64.wrap n.C0=n.C0:=w64 (by omega) (by omega)
          have hf:=of_decide_eq_false hf
          obtain⟨b1,b2⟩:=(Tree.pp (zh h h1 hp)).2
          change isPg m n.C0 (Q5e m n.C0).1 at b1
          have tk:List.take (Int.toNat ((Q5e m n.C0).1.length:Int)-Int.toNat (frame.length:Int)) (List.drop (Int.toNat (frame.length:Int)) (Q5e m n.C0).1)=(Q5e m n.C0).1.drop frame.length:=by
            rw[Int.toNat_natCast,Int.toNat_natCast]
            exact List.take_of_length_le (by simp)
          rw[ew,tk,Zai h h1 hp (by omega) b1]
          rfl
      . rfl
    . rfl
  . rfl
end
def ptab:List UInt8:=(List.range 256).map λn=>UInt8.ofNat (n%2+n/2%2+n/4%2+n/8%2+n/16%2+n/32%2+n/64%2+n/128%2)
def pt(n:Int):Int:=((UInt8.toNat (ptab.getD n.toNat 0):Nat):Int)
theorem qK(x:Int):Q5t x=IntKind.wrap .i64 (IntKind.wrap .u8 (IntKind.wrap .u8 (IntKind.wrap .u8 (pt (ishr .u32 x 24)+pt (iand .u32 (ishr .u32 x 16) 255))+pt (iand .u32 (ishr .u32 x 8) 255))+pt (iand .u32 x 255))):=by kernel_rfl
theorem pt8{a:Int}(h0:0<=a)(h1:a<256):pt a=a%2+a/2%2+a/4%2+a/8%2+a/16%2+a/32%2+a/64%2+a/128%2:=
 eq_of_beq (Qt6 (λa=>pt a==a%2+a/2%2+a/4%2+a/8%2+a/16%2+a/32%2+a/64%2+a/128%2) 256 (by kernel_rfl) h0 h1)
theorem zj{g:Int}(hg:U g):bits g [0,1,2,3,4,5,6,7,8,9,10,11,12,13,14,15,16,17,18,19,20,21,22,23,24,25,26,27,28,29,30,31] 0=pt (g%256)+pt (g/256%256)+pt (g/65536%256)+pt (g/16777216):=by
 rw[zJ hg _ 0 (by decide) (by decide) (by decide),pt8 (by omega) (by omega),pt8 (by omega) (by omega),pt8 (by omega) (by omega),pt8 (by have:=hg.1;omega) (by have:=hg.2;omega)]
 obtain⟨g0,g1⟩:=hg
 simp only[List.map_cons,List.map_nil,List.sum_cons,List.sum_nil]
 have e: ∀i j:Nat,∀k:Int,i<8->k=2^j->g/2^(i+j)%2=(g/k%256)/2^i%2:=λi j k hi hk=>by
   subst hk
   rw[Nat.add_comm,Int.pow_add,<-Int.ediv_ediv_of_nonneg (Int.le_of_lt (Int.pow_pos (by decide)))]
   generalize g/2^j=x
   have:i=0\/i=1\/i=2\/i=3\/i=4\/i=5\/i=6\/i=7:=by omega
   rcases this with rfl|rfl|rfl|rfl|rfl|rfl|rfl|rfl<;>simp<;>omega
 have e0: ∀i:Nat,i<8->g/2^i%2=(g%256)/2^i%2:=λi hi=>by have:=e i 0 1 hi rfl;simpa using this
 have e24:g/16777216%256=g/16777216:=by omega
 rw[e0 0 (by decide),e0 1 (by decide),e0 2 (by decide),e0 3 (by decide),e0 4 (by decide),e0 5 (by decide),e0 6 (by decide),e0 7 (by decide)]
 rw[e 0 8 256 (by decide) (by decide),e 1 8 256 (by decide) (by decide),e 2 8 256 (by decide) (by decide),e 3 8 256 (by decide) (by decide),e 4 8 256 (by decide) (by decide),e 5 8 256 (by decide) (by decide),e 6 8 256 (by decide) (by decide),e 7 8 256 (by decide) (by decide)]
 rw[e 0 16 65536 (by decide) (by decide),e 1 16 65536 (by decide) (by decide),e 2 16 65536 (by decide) (by decide),e 3 16 65536 (by decide) (by decide),e 4 16 65536 (by decide) (by decide),e 5 16 65536 (by decide) (by decide),e 6 16 65536 (by decide) (by decide),e 7 16 65536 (by decide) (by decide)]
 rw[e 0 24 16777216 (by decide) (by decide),e 1 24 16777216 (by decide) (by decide),e 2 24 16777216 (by decide) (by decide),e 3 24 16777216 (by decide) (by decide),e 4 24 16777216 (by decide) (by decide),e 5 24 16777216 (by decide) (by decide),e 6 24 16777216 (by decide) (by decide),e 7 24 16777216 (by decide) (by decide),e24]
 generalize g%256=a
 generalize g/256%256=b
 generalize g/65536%256=c
 generalize g/16777216=d
 simp only[show(2:Int)^0=1 from rfl,show(2:Int)^1=2 from rfl,show(2:Int)^2=4 from rfl,show(2:Int)^3=8 from rfl,show(2:Int)^4=16 from rfl,show(2:Int)^5=32 from rfl,show(2:Int)^6=64 from rfl,show(2:Int)^7=128 from rfl,Int.ediv_one]
 omega
theorem pt_le{a:Int}(h0:0<=a)(h1:a<256):0<=pt a/\pt a<=8:=by rw[pt8 h0 h1];omega
theorem Z5z{b:Q07}(hg:U b.C2):Qc6 b=Qd1 b/\0<=Qd1 b/\Qd1 b<=32:=by
 obtain⟨s8,s16,s24⟩:=shr_c b.C2
 have u8:U (ishr .u32 b.C2 8):=Qtu hg _
 have u16:U (ishr .u32 b.C2 16):=Qtu hg _
 have e:Qc6 b=Q5t b.C2:=rfl
 rw[e,qK,xJ,zj hg,m255 u8,m255 u16,m255 hg,s8,s16,s24]
 obtain⟨g0,g1⟩:=hg
 have p0:=pt_le (a:=b.C2%256) (by omega) (by omega)
 have p1:=pt_le (a:=b.C2/256%256) (by omega) (by omega)
 have p2:=pt_le (a:=b.C2/65536%256) (by omega) (by omega)
 have p3:=pt_le (a:=b.C2/16777216) (by omega) (by omega)
 have w8: ∀x,IntKind.wrap .u8 x=x%256:=λx=>IntKind.wrap_u8 x
 rw[w8,w8,w8,IntKind.wrap_i64]
 omega
theorem Zaz{b:Q07}(h:okB b):Q6n b=Q3m b:=by
 obtain⟨e,l0,l1⟩:=Z5z h.2
 obtain⟨t0,t1⟩:=h.1
 simp only[Q6n,Q52,Q3m,Q9a,Tree.m,letv,e]
 rw[IntKind.wrap_u32,IntKind.wrap_u64,IntKind.wrap_u64,Int.emod_eq_of_lt l0 (by omega),Int.emod_eq_of_lt l0 (by omega),Int.emod_eq_of_lt t0 (by omega)]
theorem Zkn{b:Q07}(h:okB b)(port:Int):Qoi b port=Q4z b port:=by
 simp only[Qoi,Qb9,Q4z,Q5p,Tree.m,letv,(Z5z h.2).1]
theorem qai(g:Int)(z:Nat):g%2^(z+1)=g%2^z+2^z*(g/2^z%2):=by
 have hp:(0:Int)<2^z:=Int.pow_pos (by decide)
 have h1:=Int.mul_ediv_add_emod g (2^z)
 have h2:=Int.mul_ediv_add_emod (g/2^z) 2
 have h3:(g/2^z)/2=g/2^(z+1):=by rw[Int.pow_succ,Int.ediv_ediv_of_nonneg (Int.le_of_lt hp)]
 have h4:=Int.mul_ediv_add_emod g (2^(z+1))
 rw[h3]at h2
 have h5:(2:Int)^(z+1)*(g/2^(z+1))=2^z*(2*(g/2^(z+1))):=by rw[Int.pow_succ,Int.mul_assoc]
 have h6:(2:Int)^z*(g/2^z)=2^z*(2*(g/2^(z+1)))+2^z*(g/2^z%2):=by rw[<-Int.mul_add,h2]
 omega
theorem qaF{b:Q07}(hg:U b.C2){P:Nat}(hP:P<=32):(Q51 b P).w (λr=>r=decide (b.C2<2^P)):=by
 unfold Q51
 have fin: ∀v:Int,0<=v->v<=32->IntKind.wrap .u64 v=(v.toNat:Int):=λv h0 h1=>by rw[IntKind.wrap_u64];omega
 refine w_lp (inv:=λz:Int=>0<=z/\z<=32/\b.C2%2^z.toNat<2^P) (μ:=Q5v b P) ⟨by decide,by decide,by have:(0:Int)<2^P:=Int.pow_pos (by decide);simpa using this⟩ (Nat.lt_succ_self _) λz ⟨z0,z1,z2⟩=> ?_
 refine w_br (λhb=> ?_) (λhb=> ?_)
 . have hb:=of_decide_eq_true hb
   have ew:IntKind.i64.wrap (z+1)=z+1:=w64 (by omega) (by omega)
   have bt:iand .u32 (ishr .u32 b.C2 (IntKind.wrap .u64 z)) 1=b.C2/2^z.toNat%2:=by
     rw[fin z z0 z1,and1 (Qtu hg _),Qpo _ (by omega)]
   have bp:=qai b.C2 z.toNat
   have zt:(z+1).toNat=z.toNat+1:=by omega
   refine w_cn (decide_eq_true (by rw[IntKind.wrap_u64];omega)) ?_
   rw[bt]
   refine w_br (λe=>w_br (λhp=> ?_) (λhp=>w_nx ?_)) (λe=>w_nx ?_)
   . have e:=eq_of_beq e
     have hp:=of_decide_eq_true hp
     show false=_
     refine(decide_eq_false λhlt=> ?_).symm
     have hle:(2:Int)^P<=2^z.toNat:=by exact_mod_cast Nat.pow_le_pow_right (show 0<2 by decide) (show P<=z.toNat by omega)
     have:b.C2/2^z.toNat=0:=Int.ediv_eq_zero_of_lt hg.1 (by omega)
     rw[this]at e;cases e
   . have e:=eq_of_beq e
     have hp:=of_decide_eq_false hp
     show(0<=IntKind.i64.wrap (z+1)/\IntKind.i64.wrap (z+1)<=32/\b.C2%2^(IntKind.i64.wrap (z+1)).toNat<2^P)/\(32-IntKind.i64.wrap (z+1)).toNat<(32-z).toNat
     rw[ew,zt]
     have hle:(2:Int)^(z.toNat+1)<=2^P:=by exact_mod_cast Nat.pow_le_pow_right (show 0<2 by decide) (show z.toNat+1<=P by omega)
     have:=Int.emod_lt_of_pos b.C2 (show(0:Int)<2^(z.toNat+1) from Int.pow_pos (by decide))
     exact⟨⟨by omega,by omega,by omega⟩,by omega⟩
   . have e: ¬b.C2/2^z.toNat%2=1:=by simpa using e
     have e:b.C2/2^z.toNat%2=0:=by omega
     rw[e]at bp
     show(0<=IntKind.i64.wrap (z+1)/\IntKind.i64.wrap (z+1)<=32/\b.C2%2^(IntKind.i64.wrap (z+1)).toNat<2^P)/\(32-IntKind.i64.wrap (z+1)).toNat<(32-z).toNat
     rw[ew,zt,bp]
     exact⟨⟨by omega,by omega,by omega⟩,by omega⟩
 . have hb:=of_decide_eq_false hb
   have:z=32:=by omega
   subst this
   show true=_
   refine(decide_eq_true ?_).symm
   have h2:b.C2%2^(32:Int).toNat=b.C2:=Int.emod_eq_of_lt hg.1 hg.2
   rwa [h2]at z2
theorem Zf4{b:Q07}(hg:U b.C2){P:Nat}(hP:P<=32):Q2e b P=Q9f b P:=by
 have r:=(Tree.pp (qaF hg hP)).2
 change Q9f b P=_ at r
 rw[r,Bool.eq_iff_iff,Qz2 hg,decide_eq_true_eq]
theorem zeros:strings_Repeat [(0:UInt8)] 128=List.replicate 128 0:=by kernel_rfl
theorem zaF{P:Nat}{m:List Int}(hm:Q1 P m){b:Q07}{port:Int}{v:Int}(hv:U v)(hp:v<P)(h10:port=10)(hb:(iand .u32 (ishr .u32 b.C2 v) 1==0)=true):(Q4j b m port v).w (λr=>r.1={D0:=b.D0,C2:=ior .u32 b.C2 (ishl .u32 1 v)}/\Q1 P r.2/\ ∀k:Nat,byt r.2 k=if v*128<=k/\(k:Int)<v*128+128 then 0 else byt m k):=by
 have hv0:decide (0<=v)=true:=decide_eq_true hv.1
 have h2:=hm.p2
 have pg:Q1y m v=true:=by rw[Qkl hm hv];exact decide_eq_true hp
 obtain⟨v1,v2⟩:=hv
 subst h10
 unfold Q4j
 refine w_br (λ_=>w_lv λx0 hx=>w_br (λ_=>w_cn hv0 (w_br (λ_=>w_cn hv0 ?_) (λh=>by rw[hb]at h;cases h))) (λh=>by rw[hx,pg]at h;cases h)) (λh=>by cases h)
 refine w_lp (inv:=λz=>0<=z.1/\z.1<=32/\Q1 P z.2/\ ∀k:Nat,byt z.2 k=if v*128<=k/\(k:Int)<v*128+4*z.1 then 0 else byt m k) (μ:=Qhs b m 10 v) ⟨show(0:Int)<=0 by decide,show(0:Int)<=32 by decide,hm,λk=>by rw[if_neg];show¬(_/\_<_+4*(0:Int));omega⟩ (Nat.lt_succ_self _) (λz hz=> ?_)
 obtain⟨z1,z2,z3,z4⟩:=hz
 have hl:=z3.len
 refine w_br (λh=> ?_) (λh=>⟨rfl,z3,λk=> ?_⟩)
 . have h:=of_decide_eq_true h
   have e:IntKind.wrap IntKind.i64 (IntKind.wrap IntKind.i64 (IntKind.wrap IntKind.i64 v*32)+z.1)=v*32+z.1:=by rw[IntKind.wrap_i64,IntKind.wrap_i64,IntKind.wrap_i64];omega
   refine w_cn (by rw[e];simp [Nat.blt];omega) (w_nx ?_)
   have ew:IntKind.i64.wrap (z.1+1)=z.1+1:=by rw[IntKind.wrap_i64];omega
   show(0<=IntKind.i64.wrap (z.1+1)/\IntKind.i64.wrap (z.1+1)<=32/\Q1 P (List.set _ _ _)/\ ∀k:Nat,byt (List.set z.2 (Int.toNat (IntKind.wrap IntKind.i64 (IntKind.wrap IntKind.i64 (IntKind.wrap IntKind.i64 v*32)+z.1))) 0) k=if v*128<=(k:Int)/\(k:Int)<v*128+4*IntKind.i64.wrap (z.1+1) then 0 else _)/\(32-IntKind.i64.wrap (z.1+1)).toNat<(32-z.1).toNat
   rw[ew,e]
   refine⟨⟨by omega,by omega,⟨by simp [hl],z3.p1,z3.p2,Z3q z3.u U_0 _⟩,λk=> ?_⟩,by omega⟩
   rw[Zf0 (by omega)]
   by_cases hc:k/4=(v*32+z.1).toNat
   . rw[if_pos hc,if_pos (by omega)]
     have:k%4=0\/k%4=1\/k%4=2\/k%4=3:=by omega
     rcases this with h|h|h|h<;>rw[h]<;>rfl
   . rw[if_neg hc,z4 k]
     by_cases hd:v*128<=(k:Int)/\(k:Int)<v*128+4*z.1
     . rw[if_pos hd,if_pos (by omega)]
     . rw[if_neg hd,if_neg (by omega)]
 . have h:=of_decide_eq_false h
   show byt z.2 k=_
   rw[z4 k,show z.1=32 by omega];rfl
theorem bitv{g v:Int}(hg:U g)(v0:0<=v)(v1:v<32):(iand .u32 g (ishl .u32 1 v)==0)=(iand .u32 (ishr .u32 g v) 1==0):=by
 obtain⟨z,rfl⟩: ∃z:Nat,v=z:=⟨v.toNat,by omega⟩
 obtain⟨n,rfl⟩: ∃n:Nat,g=n:=⟨g.toNat,by have:=hg.1;omega⟩
 have hz:z<32:=by omega
 have hlt:(2:Nat)^z<4294967296:=by have:=Nat.pow_lt_pow_right (show 1<2 by omega) hz;simpa using this
 rw[and1 (Qtu hg _),Qpo z (by omega),yf v0 v1,Int.toNat_natCast]
 have hc:((2:Int)^z)=((2^z:Nat):Int):=by simp
 generalize hq:2^z=q at*
 rw[hc,Zfi hg ⟨by omega,by omega⟩,Int.toNat_natCast,Int.toNat_natCast,<-hq]
 have e1:(n&&&2^z)=0↔n/2^z%2=0:=by
   have t:n.testBit z=decide (n/2^z%2=1):=Nat.testBit_eq_decide_div_mod_eq
   constructor
   . intro h
     have h2:(n&&&2^z).testBit z=false:=by rw[h];exact Nat.zero_testBit z
     rw[Nat.testBit_and,Nat.testBit_two_pow_self,Bool.and_true,t]at h2
     have:=of_decide_eq_false h2
     omega
   . intro h
     have t0:n.testBit z=false:=by rw[t];exact decide_eq_false (by omega)
     apply Nat.eq_of_testBit_eq
     intro i
     rw[Nat.testBit_and,Nat.testBit_two_pow,Nat.zero_testBit]
     by_cases hi:z=i
     . subst hi;rw[t0];rfl
     . rw[decide_eq_false hi,Bool.and_false]
 rw[Bool.eq_iff_iff,beq_iff_eq,beq_iff_eq]
 constructor
 . intro h;have:=e1.1 (by omega);omega
 . intro h;have:=e1.2 (by omega);omega
theorem Zgt{P:Nat}{m:List Int}(h:Q1 P m){b:Q07}(hb:okB b)(port:Int){v:Int}(hv:U v):Q7e b m port v=Q5w b m port v:=by
  have hcl:Q03 m=m:=rfl
  have hp:=Q3a h
  have h2:=h.p2
  have ew:IntKind.i64.wrap v=v:=w64 (by have:=hv.1;omega) (by have:=hv.2;omega)
  have pe:=Qkl h hv
  by_cases h32:v<32
  . have bv :=bitv hb.2 hv.1 h32
    by_cases h10:port=10
    . by_cases hP:v<P
      . cases hz:iand .u32 (ishr .u32 b.C2 v) 1==0
        . simp only[Q7e,Q3p,Q5w,Q4j,Tree.m,letv,hcl,hp,ew,pe,bv,hz,h10,decide_eq_true hP,decide_eq_false (show¬v>=32 by omega)]
          rfl
        . obtain⟨g1,g2,g3⟩:=(Tree.pp (zaF h hv hP h10 hz)).2
          change(Q5w b m port v).1=_ at g1
          change Q1 P (Q5w b m port v).2 at g2
          change∀k:Nat,byt (Q5w b m port v).2 k=_ at g3
          obtain⟨s1,s2,s3⟩:=(Tree.pp (Qzw h hv.1 hP (s:=List.replicate 128 0) (by simp))).2
          have em:(Q2j m v (List.replicate 128 0)).1=(Q5w b m port v).2:=by
            refine Zea (s2.len.trans g2.len.symm) s2.u g2.u λk=> ?_
            rw[g3 k]
            refine(s3 k).trans ?_
            by_cases hk:v*128<=(k:Int)/\(k:Int)<v*128+128
            . rw[if_pos hk,if_pos hk]
              have:(List.replicate 128 (0:UInt8)).getD ((k:Int)-v*128).toNat 0=0:=by
                rw[List.getD_eq_getElem?_getD,List.getElem?_replicate]
                split<;>rfl
              rw[this];rfl
            . rw[if_neg hk,if_neg hk]
          have el:Q7e b m port v=({D0:=b.D0,C2:=ior .u32 b.C2 (ishl .u32 1 v)},(Q2j m v (List.replicate 128 0)).1):=by
            simp only[Q7e,Q3p,Tree.m,letv,hcl,hp,ew,bv,hz,h10,decide_eq_true hP,decide_eq_false (show¬v>=32 by omega),zeros]
            rfl
          rw[el,em,<-g1]
      . simp only[Q7e,Q3p,Q5w,Q4j,Tree.m,letv,hcl,hp,ew,pe,h10,decide_eq_false hP,decide_eq_false (show¬v>=32 by omega)]
        rfl
    . simp only[Q7e,Q3p,Q5w,Q4j,Tree.m,letv,hcl,decide_eq_true h32,decide_eq_false (show¬v>=32 by omega),show(port==10)=false by simpa using h10]
      cases port==11<;>rfl
  . simp only[Q7e,Q3p,Q5w,Q4j,Tree.m,letv,hcl,pe,decide_eq_false h32,decide_eq_true (show v>=32 by omega),decide_eq_false (show¬v<P by omega)]
    cases port==10<;>cases port==11<;>rfl
structure okV(m:Q00):Prop where
 cpu:Q2b m.B2
 mem: ∀w∈m.Mem,U w
 disk:Q8j m.B1
 nic:Qie m.C5
 bal:okB m.A2
 cnt:0<=m.A1
theorem Qn0(m:List Int)(hm: ∀w∈m,U w):Q0v m=Q3i m/\(Q0v m=0\/ ∃P:Nat,1<=P/\Q1 P m):=by
 refine⟨rfl,?_⟩
 simp only[Q0v,Q7z,Tree.m]
 cases h1:Int.tmod (m.length:Int) 32 !=0
 . cases h2:decide ((m.length:Int)>1024)
   . have h1:Int.tmod (m.length:Int) 32=0:=by simpa using h1
     have h2:=of_decide_eq_false h2
     rw[Int.tmod_eq_emod_of_nonneg (by omega)]at h1
     by_cases h0:m.length=0
     . left;rw[h0];rfl
     . right;exact⟨m.length/32,by omega,⟨by omega,by omega,by omega,hm⟩⟩
   . left;rfl
 . left;rfl
theorem rcnd{a x:Bool}:(bif !a then false else x)=true↔a=true/\x=true:=by cases a<;>simp
theorem xK(m:Q00):Q7b m=true↔ ¬(Q3i m.Mem<1)/\Q5j m.B2/\Qhq m.A3=true/\Qc5 m.B0=true/\Qeh m.B1 (Q3i m.Mem)=true/\Qgq m.C5 (Q3i m.Mem)=true/\Q9f m.A2 (Q3i m.Mem)=true/\m.A1<=1152921504606846976/\ ¬(m.A4=true/\m.A7=true):=by
 simp only[Q7b,Quy,Tree.m,letv]
 rw[cnd2,cnd2,cnd2,cnd2,cnd2,cnd2,rcnd,rcnd,rcnd,rcnd,rcnd]
 simp only[decide_eq_false_iff_not,Int.not_lt,bne_eq_false_iff_eq,gt_iff_lt]
 have l:((bif decide (m.A1<=1152921504606846976) then(bif m.A4 then !m.A7 else true) else false)=true)↔m.A1<=1152921504606846976/\ ¬(m.A4=true/\m.A7=true):=by
   by_cases hc:m.A1<=1152921504606846976
   . rw[decide_eq_true hc]
     cases m.A4<;>cases m.A7<;>simp [hc]
   . rw[decide_eq_false hc];simp [hc]
 rw[l]
 constructor
 . rintro⟨a1,a2,a3,a4,a5,a6,a7⟩
   exact⟨by omega,⟨a2,a3,a4,a5,a6⟩,a7⟩
 . rintro⟨a1,⟨a2,a3,a4,a5,a6⟩,a7⟩
   exact⟨by omega,a2,a3,a4,a5,a6,a7⟩
theorem Z79{m:Q00}(h:okV m):Q1a m=Q7b m:=by
 rw[Bool.eq_iff_iff,Qjd,xK,qf]
 obtain⟨e,c⟩:=Qn0 m.Mem h.mem
 simp only[Bool.and_eq_true,<-e]
 rcases c with c|⟨P,hP,hm⟩
 . constructor
   . rintro⟨a,_⟩;exact absurd c a
   . rintro⟨a,_⟩;omega
 . rw[Q3a hm,Z2o,Z7m,Zd9,Zf4 h.bal.2 hm.p2]
   constructor
   . rintro⟨a1,a2,a3,a4,a5,a6,a7,a8,a9⟩;exact⟨by omega,a2,a5,a6,a7,a8,a9,a3,a4⟩
   . rintro⟨a1,a2,a5,a6,a7,a8,a9,a3,a4⟩;exact⟨by omega,a2,a3,a4,a5,a6,a7,a8,a9⟩
def Z7s(a b c d e:Bool):Int:=ior .u32 (ior .u32 (ior .u32 (ior .u32 (Q99 a 0) (Q99 b 1)) (Q99 c 2)) (Q99 d 3)) (Q99 e 4)
theorem mlines(m:Q00):Qbk m=Z7s (Qfq m.B0) (Q98 m.A3) (Q9i m.B1) (Qkz m.C5) (Q6n m.A2):=by
 unfold Qbk Q6j
 simp only[Tree.m,letv]
 generalize Qfq m.B0=a
 generalize Q98 m.A3=b
 generalize Q9i m.B1=c
 generalize Qkz m.C5=d
 generalize Q6n m.A2=e
 cases a<;>cases b<;>cases c<;>cases d<;>cases e<;>kernel_rfl
theorem Zk9(a b c d e:Bool):0<=Z7s a b c d e/\Z7s a b c d e<32:=by
 cases a<;>cases b<;>cases c<;>cases d<;>cases e<;>decide
theorem rlines(m:Q00):Qgb m=Z7s (Qa2 m.B0) (Q58 m.A3) (Qao m.B1) (Qcd m.C5) (Q3m m.A2):=rfl
section
variable {m:Q00} (h:okV m)
include h
theorem Zje:Qbk m=Qgb m:=by
 rw[mlines,rlines,yJ,Zaz h.bal];rfl
theorem Qws:Q5a m=Q2q m:=by
 have e:=Zje h
 simp only[Q5a,Q2p,Q2q,Q84,Tree.m,letv,e]
theorem Zck:Q37 m=Qc8 m:=by
 have e:=Qws h
 simp only[Q37,Q2u,Qc8,Qcu,Tree.m,letv,e]
theorem Qr9:Q25 m=!Q0y m:=by
 have e1:=Z79 h
 have e2:=Zck h
 have e3:decide (m.A1>=1152921504606846976)=!decide (m.A1<1152921504606846976):=xj
 simp only[Q25,Q3r,Q0y,Q71,Tree.m,letv,e1,e2,e3]
 cases Q7b m<;>cases m.A7<;>cases Qc8 m<;>cases decide (m.A1<1152921504606846976)<;>rfl
theorem Z5g:0<=Q2q m/\Q2q m<32:=by
 have e:Q2q m=iand .u32 (Qgb m) m.B2.B6.a7:=rfl
 have l:=Zk9 (Qa2 m.B0) (Q58 m.A3) (Qao m.B1) (Qcd m.C5) (Q3m m.A2)
 rw[<-rlines]at l
 rw[e,Zfi ⟨l.1,by omega⟩ h.cpu.a7]
 have:=Nat.and_le_left (n:=(Qgb m).toNat) (m:=m.B2.B6.a7.toNat)
 omega
def low(l:Int):Int:=if l%2=1 then 0 else if l/2%2=1 then 1 else if l/4%2=1 then 2 else if l/8%2=1 then 3 else 4
end
theorem cases32{l:Int}(h0:0<=l)(h1:l<32):l=0\/l=1\/l=2\/l=3\/l=4\/l=5\/l=6\/l=7\/l=8\/l=9\/l=10\/l=11\/l=12\/l=13\/l=14\/l=15\/l=16\/l=17\/l=18\/l=19\/l=20\/l=21\/l=22\/l=23\/l=24\/l=25\/l=26\/l=27\/l=28\/l=29\/l=30\/l=31:=by omega
def intr(m:Q00)(l:Int):Q04:=bif iand .u32 m.B2.B6.a0 2==0 then m.B2 else bif l==0 then m.B2 else Q2m m.B2 (IntKind.wrap .i64 (16+low l)) 0
theorem rintr{m:Q00}(h:okV m):Q0l m=intr m (Q2q m):=by
 obtain⟨l0,l1⟩:=Z5g h
 unfold Q0l Q47
 simp only[Tree.m,letv]
 revert l0 l1
 generalize Q2q m=l
 intro l0 l1
 unfold intr
 cases iand .u32 m.B2.B6.a0 2==0
 . rcases cases32 l0 l1 with rfl|rfl|rfl|rfl|rfl|rfl|rfl|rfl|rfl|rfl|rfl|rfl|rfl|rfl|rfl|rfl|rfl|rfl|rfl|rfl|rfl|rfl|rfl|rfl|rfl|rfl|rfl|rfl|rfl|rfl|rfl|rfl<;>kernel_rfl
 . rfl
def beg(m:Q00)(c:Q04):Q00:={B2:=c,Mem:=m.Mem,A3:=m.A3,B0:=m.B0,B1:=m.B1,C5:=m.C5,A2:=m.A2,A1:=m.A1,A4:=false,A7:=m.A7}
theorem Qua{m:Q00}(h:okV m)(hst:m.B2.B6.a0<=31):Q0p m=beg m (Q0l m):=by
 obtain⟨l0,l1⟩:=Z5g h
 have tr: ∀k b,Q48 m.B2 k b=Q2m m.B2 k b:=Qnm h.cpu.a0.1 hst
 have e:Q5a (beg m m.B2)=Q2q m:=Qws (m:=beg m m.B2) ⟨h.cpu,h.mem,h.disk,h.nic,h.bal,h.cnt⟩
 rw[rintr h]
 unfold Q0p Q2l
 simp only[Tree.m,letv]
 rw[show Q5a {B2:=m.B2,Mem:=m.Mem,A3:=m.A3,B0:=m.B0,B1:=m.B1,C5:=m.C5,A2:=m.A2,A1:=m.A1,A4:=false,A7:=m.A7}=Q2q m from e]
 revert l0 l1
 generalize Q2q m=l
 intro l0 l1
 unfold intr
 simp only[<-tr]
 cases iand .u32 m.B2.B6.a0 2==0
 . rcases cases32 l0 l1 with rfl|rfl|rfl|rfl|rfl|rfl|rfl|rfl|rfl|rfl|rfl|rfl|rfl|rfl|rfl|rfl|rfl|rfl|rfl|rfl|rfl|rfl|rfl|rfl|rfl|rfl|rfl|rfl|rfl|rfl|rfl|rfl<;>(show _=_;kernel_rfl)
 . rfl
theorem ports{p:Int}:p=0\/p=1\/p=2\/p=3\/p=4\/p=5\/p=6\/p=7\/p=8\/p=9\/p=10\/p=11\/p<0\/12<=p:=by omega
theorem zai{m:Q00}(hb:okB m.A2)(port clock:Int):Q10 m port clock=((Qbt m port clock).2,(Qbt m port clock).1):=by
 have e1:=Zl4 m.A3
 have e2: ∀p,Qtj m.B1 p=Qgk m.B1 p:=λ_=>rfl
 have e3:=Zkt m.C5
 have e4:=Zkn hb
 have e5:Qyb m.B0=Qe5 m.B0:=rfl
 simp only[Q10,Q3,Qbt,Qk6,Tree.m,letv,e1,e2,e3,e4,e5]
 rcases ports (p:=port) with rfl|rfl|rfl|rfl|rfl|rfl|rfl|rfl|rfl|rfl|rfl|rfl|h|h
 all_goals first|rfl|skip
 . have n: ∀k:Int,0<=k->(port==k)=false:=λk hk=>beq_eq_false_iff_ne.2 (by omega)
   have c:Q4x m.A3 port=(m.A3,0):=by
     simp only[Q4x,Q36,Tree.m,n 0 (by decide),n 1 (by decide),cond_false]
   simp only[n 0 (by decide),n 1 (by decide),n 2 (by decide),n 3 (by decide),n 4 (by decide),n 5 (by decide),n 6 (by decide),n 7 (by decide),n 8 (by decide),n 9 (by decide),n 10 (by decide),n 11 (by decide),cond_false,decide_eq_true (show port<=1 by omega),cond_true,c]
 . have n: ∀k:Int,k<12->(port==k)=false:=λk hk=>beq_eq_false_iff_ne.2 (by omega)
   have c:Q4z m.A2 port=0:=by
     simp only[Q4z,Q5p,Tree.m,n 10 (by decide),n 11 (by decide),cond_false]
   simp only[n 0 (by decide),n 1 (by decide),n 2 (by decide),n 3 (by decide),n 4 (by decide),n 5 (by decide),n 6 (by decide),n 7 (by decide),n 8 (by decide),n 9 (by decide),n 10 (by decide),n 11 (by decide),cond_false,decide_eq_false (show¬port<=1 by omega),decide_eq_false (show¬port<=6 by omega),decide_eq_false (show¬port<=9 by omega),c]
theorem zK{P:Nat}{m:Q00}(hm:Q1 P m.Mem)(hb:okB m.A2)(port:Int){v:Int}(hv:U v):Q2a m port v m.A1=((Q9l m port v).2,(Q9l m port v).1):=by
 have e1:=Zbu hm m.B1
 have e2:=Zgi hm m.C5
 have e3:=Zgt hm hb port hv
 have e4:=vJ m.B0 v
 simp only[Q2a,Q3l,Q9l,Qd9,Tree.m,letv,e1,e2,e3,e4]
 rcases ports (p:=port) with rfl|rfl|rfl|rfl|rfl|rfl|rfl|rfl|rfl|rfl|rfl|rfl|h|h
 all_goals first|rfl|skip
 . have n: ∀k:Int,0<=k->(port==k)=false:=λk hk=>beq_eq_false_iff_ne.2 (by omega)
   simp only[n 0 (by decide),n 1 (by decide),n 2 (by decide),n 3 (by decide),n 4 (by decide),n 5 (by decide),n 6 (by decide),n 7 (by decide),n 8 (by decide),n 9 (by decide),n 10 (by decide),n 11 (by decide),cond_false,decide_eq_true (show port<=2 by omega),cond_true]
 . have n: ∀k:Int,k<12->(port==k)=false:=λk hk=>beq_eq_false_iff_ne.2 (by omega)
   have c:Q5w m.A2 m.Mem port v=(m.A2,m.Mem):=by
     simp only[Q5w,Q4j,Tree.m,n 10 (by decide),n 11 (by decide),cond_false]
   simp only[n 0 (by decide),n 1 (by decide),n 2 (by decide),n 3 (by decide),n 4 (by decide),n 5 (by decide),n 6 (by decide),n 7 (by decide),n 8 (by decide),n 9 (by decide),n 10 (by decide),n 11 (by decide),cond_false,decide_eq_false (show¬port<=2 by omega),decide_eq_false (show¬port<=6 by omega),decide_eq_false (show¬port<=9 by omega),c]
def tick(n:Q00)(c:Q04)(w h:Bool):Q00:={B2:=c,Mem:=n.Mem,A3:=n.A3,B0:=n.B0,B1:=n.B1,C5:=n.C5,A2:=n.A2,A1:=IntKind.wrap .u64 (n.A1+1),A4:=w,A7:=h}
def withX(m:Q00)(c:Q04)(mem:List Int):Q00:={B2:=c,Mem:=mem,A3:=m.A3,B0:=m.B0,B1:=m.B1,C5:=m.C5,A2:=m.A2,A1:=m.A1,A4:=false,A7:=m.A7}
def finP(n:Q00)(e:Q11)(clock at0:Int):Q00×List Q02:=
 bif e.B5==1 then
   (bif e.E0 !=0 then(tick (Q10 n e.D1 clock).1 {X:=A16.of 0 (List.set (A16.l (Q10 n e.D1 clock).1.B2.X) e.E0.toNat (Q10 n e.D1 clock).2),Pc:=(Q10 n e.D1 clock).1.B2.Pc,B6:=(Q10 n e.D1 clock).1.B2.B6} (Q10 n e.D1 clock).1.A4 (Q10 n e.D1 clock).1.A7,[])
   else(tick (Q10 n e.D1 clock).1 (Q10 n e.D1 clock).1.B2 (Q10 n e.D1 clock).1.A4 (Q10 n e.D1 clock).1.A7,[]))
 else bif e.B5==2 then(tick (Q2a n e.D1 e.Value at0).1 (Q2a n e.D1 e.Value at0).1.B2 (Q2a n e.D1 e.Value at0).1.A4 (Q2a n e.D1 e.Value at0).1.A7,(Q2a n e.D1 e.Value at0).2)
 else bif e.B5==3 then(tick n n.B2 true n.A7,[]) else bif e.B5==4 then(tick n n.B2 n.A4 true,[]) else(tick n n.B2 n.A4 n.A7,[])
def finR(n:Q00)(e:Q11)(clock:Int):List Q02×Q00:=
 bif e.B5==1 then([],tick (Qbt n e.D1 clock).2 (Q1q (Qbt n e.D1 clock).2.B2 e.E0 (Qbt n e.D1 clock).1) (Qbt n e.D1 clock).2.A4 (Qbt n e.D1 clock).2.A7)
 else bif e.B5==2 then((Q9l n e.D1 e.Value).1,tick (Q9l n e.D1 e.Value).2 (Q9l n e.D1 e.Value).2.B2 (Q9l n e.D1 e.Value).2.A4 (Q9l n e.D1 e.Value).2.A7)
 else bif e.B5==3 then([],tick n n.B2 true n.A7) else bif e.B5==4 then([],tick n n.B2 n.A4 true) else([],tick n n.B2 n.A4 n.A7)
theorem xW(m:Q00)(clock:Int):Q0a m clock=finR (withX m (Q6k (Q0l m) m.Mem).1 (Q6k (Q0l m) m.Mem).2.2) (Q6k (Q0l m) m.Mem).2.1 clock:=by kernel_rfl
theorem Zj(m:Q00)(clock:Int):Q27 m clock=bif !Q25 m then(m,[]) else finP {B2:=(Q4u (Q0p m).B2 (Q0p m).Mem).1,Mem:=(Q4u (Q0p m).B2 (Q0p m).Mem).2.1,A3:=(Q0p m).A3,B0:=(Q0p m).B0,B1:=(Q0p m).B1,C5:=(Q0p m).C5,A2:=(Q0p m).A2,A1:=(Q0p m).A1,A4:=(Q0p m).A4,A7:=(Q0p m).A7} (Q4u (Q0p m).B2 (Q0p m).Mem).2.2 clock m.A1:=by kernel_rfl
theorem xai(m:List Int):Qt8 m=m:=by
 simp [Qt8,Qd5,Tree.m]
theorem Z50(m:Q00):Qlg m=m:=by
 simp only[Qlg,Qb8,Tree.m,letv,xai]
def Zcf(m:Q00)(clock:Int):Q00×List Q02:=bif Q0y m then(m,[]) else((Q0a m clock).2,(Q0a m clock).1)
def Qis(m:Q00)(e:Q0f):Tree (Q00×Bool):=
 .an (Qef m) (.lv (Qlg m) λ(x0:Q00)=> .lv (Q7b x0) λ(x1:Bool)=> .br (!x1) (.lf (x0,false)) (.an (Qp4 x0 e) (.lv (Q0o x0 e) λ(x2:Bool×Q00)=> .lf (x2.2,x2.1))))
def Qjg(m:Q00)(e:Q0f):Q00×Bool:=(Qis m e).m
theorem Z6c(m:Q00)(clock:Int):Zcf m clock=bif Q0y m then(m,[]) else((Q0a m clock).2,(Q0a m clock).1):=rfl
theorem yK{P:Nat}{n:Q00}(hm:Q1 P n.Mem)(hb:okB n.A2){e:Q11}(hr:0<=e.E0/\e.E0<16)(hv:U e.Value)(clock:Int):finP n e clock n.A1=((finR n e clock).2,(finR n e clock).1):=by
 unfold finP finR
 rw[zai hb e.D1 clock,zK hm hb e.D1 hv]
 cases e.B5==1
 . cases e.B5==2
   . cases e.B5==3
     . cases e.B5==4<;>rfl
     . rfl
   . rfl
 . generalize Qbt n e.D1 clock=r
   have s:=Qy4 r.2.B2 hr r.1
   show(bif e.E0 !=0 then _ else _)=(tick r.2 (Q1q r.2.B2 e.E0 r.1) r.2.A4 r.2.A7,[])
   rw[<-s]
   simp only[Qa8,Qbi,Tree.m]
   cases e.E0 !=0<;>rfl
theorem Zdv{m:Q00}(h:okV m)(clock:Int):Q27 m clock=Zcf m clock:=by
 rw[Zj,Z6c,Qr9 h]
 cases hs:Q0y m
 . have hr:Q25 m=true:=by rw[Qr9 h,hs];rfl
   obtain⟨hm,hh,hct⟩:=Qyd hr
   obtain⟨g1,g2,g3,g4,g5⟩:=(Qjd m).1 hm
   rcases(Qn0 m.Mem h.mem).2 with c|⟨P,hP,hmem⟩
   . exact absurd c g1
   have okm:okS P m:=⟨h.cpu,hmem,h.disk,h.nic,h.bal.1,h.bal.2⟩
   obtain⟨b1,b2,b3,_⟩:=(Tree.pp (Qt3 okm g2)).2
   change Q5j (Q0p m).B2 at b1
   change okS P (Q0p m) at b2
   change(Q0p m).Mem=m.Mem at b3
   have be:=Qua h g2.st
   have b1':Q5j (Q0l m):=by have:=b1;rw[be]at this;exact this
   have b2':Q2b (Q0l m):=by have:=b2.cpu;rw[be]at this;exact this
   have ex:=Za3 hmem b2' b1'.st
   have er:=(Tree.pp (Zhn b2' hmem)).2
   change 0<=(Q4u (Q0l m) m.Mem).2.2.E0/\(Q4u (Q0l m) m.Mem).2.2.E0<16 at er
   obtain⟨d1,d2,d3⟩:=(Tree.pp (do_w b2' hmem)).2
   change U (Q6k (Q0l m) m.Mem).2.1.Value at d2
   change Q1 P (Q6k (Q0l m) m.Mem).2.2 at d3
   rw[ex]at er
   rw[xW,be]
   show finP {B2:=(Q4u (Q0l m) m.Mem).1,Mem:=(Q4u (Q0l m) m.Mem).2.1,A3:=m.A3,B0:=m.B0,B1:=m.B1,C5:=m.C5,A2:=m.A2,A1:=m.A1,A4:=false,A7:=m.A7} (Q4u (Q0l m) m.Mem).2.2 clock m.A1=_
   rw[ex]
   exact yK (n:=withX m (Q6k (Q0l m) m.Mem).1 (Q6k (Q0l m) m.Mem).2.2) d3 h.bal er d2 clock
 . rfl
theorem Z4f{m:Q00}(h:okV m)(e:Q0f):Q7j m e=Qjg m e:=by
 have hcl:Q03 m.Mem=m.Mem:=rfl
 have mm:=Z79 h
 have t1:Qk1 m.B0=Q67 m.B0:=rfl
 have t2: ∀b,Qml m.A3 b=Qjm m.A3 b:=λ_=>rfl
 simp only[Q7j,Q3x,Qjg,Qis,Q0o,Q42,Tree.m,letv,Z50,hcl,t1,t2]
 rw[show Q1a {B2:=m.B2,Mem:=m.Mem,A3:=m.A3,B0:=m.B0,B1:=m.B1,C5:=m.C5,A2:=m.A2,A1:=m.A1,A4:=m.A4,A7:=m.A7}=Q7b m from mm]
 cases hM:Q7b m
 . rfl
 have hM':Q1a m=true:=mm.trans hM
 rcases(Qn0 m.Mem h.mem).2 with c|⟨P,hP,hmem⟩
 . exact absurd c ((Qjd m).1 hM').1
 have cs:=Z8u hmem h.disk e
 have rs:=Z9o hmem h.nic e.C8
 clear mm hM hM' hcl h
 obtain⟨c,mem,con,ti,d,n,b,ct,w,hl⟩:=m
 cases hl
 . by_cases k2:e.B5=2
   . rw[k2];cases e.N==0<;>cases decide (e.C8=[])<;>rfl
   by_cases k3:e.B5=3
   . rw[k3];cases decide (e.N<=255)<;>cases decide (e.C8=[])<;>rfl
   by_cases k4:e.B5=4
   . rw[k4,cs];rfl
   by_cases k5:e.B5=5
   . rw[k5,rs];cases e.N==0<;>rfl
   by_cases k6:e.B5=6
   . rw[k6];cases decide (e.C8=[])<;>rfl
   . rw[show(e.B5==2)=false by simpa using k2,show(e.B5==3)=false by simpa using k3,show(e.B5==4)=false by simpa using k4,show(e.B5==5)=false by simpa using k5,show(e.B5==6)=false by simpa using k6]
     rfl
 . rfl
theorem qaj{l acts:List Int}{x0:Bool}(hx0:x0=Qr2 l acts)(hb:(!x0)=false):l.length<=40/\acts.length<=30:=by
 have hb:x0=true:=by simpa using hb
 rw[hb]at hx0
 simp only[Qr2,Qtb,Tree.m]at hx0
 cases h1:decide ((l.length:Int)<=40)<;>rw[h1]at hx0
 . cases hx0
 . have:=of_decide_eq_true hx0.symm
   have:=of_decide_eq_true h1
   omega
section
variable {m:Q00} (h:okV m) (hl:m.Mem.length<=1024)
include h
theorem may_P(hm:Q1a m=true): ∃P,okS P m/\okM P m:=by
 rcases(Qn0 m.Mem h.mem).2 with c|⟨P,hP,hmem⟩
 . exact absurd c ((Qjd m).1 hm).1
 . exact⟨P,⟨h.cpu,hmem,h.disk,h.nic,h.bal.1,h.bal.2⟩,⟨h.cpu,hmem,h.disk,h.nic,h.bal,h.cnt⟩⟩
include hl
theorem yj{clock:Int}(hk:U clock):Q7p m clock/\(Q27 m clock).2.length<=1/\(Q27 m clock).1.Mem.length<=1024:=by
 cases hr:Q25 m
 . have e:Q27 m clock=(m,[]):=by rw[Zj,hr];rfl
   rw[e]
   refine⟨?_,Nat.zero_le _,hl⟩
   have hcl:Q03 m.Mem=m.Mem:=rfl
   show(Q2k m clock).p
   unfold Tree.p Q2k
   refine w_an (by show m.Mem.length<=35184372088832;omega) (w_lv λl hl=> ?_)
   rw[hcl]at hl;subst hl
   refine w_an (Tree.pp (Ze7 (m:=⟨_,_,_,_,_,_,m.A2,_,_,_⟩) h.bal.2)).1 (w_lv λx1 hx1=>w_br (λ_=>trivial) (λhb=> ?_))
   have:x1=false:=hx1.trans hr
   rw[this]at hb;cases hb
 . obtain⟨P,s,_⟩:=may_P h (Qyd hr).1
   have g:=Tree.pp (xg s h.cnt hk)
   have ml:=g.2.2.ok.mem.len
   have mp:=g.2.2.ok.mem.p2
   exact⟨g.1,g.2.1,by show(Q2k m clock).m.1.Mem.length<=1024;omega⟩
omit h hl in
theorem vK{P:Nat}(h:okM P m){e:Q0f}(he:U e.N):(Q42 m e).w (λx=>okM P x.2):=by
 have k:=h
 obtain⟨h1,h2,h3,h4,h5,h7⟩:=h
 unfold Q42
 repeat'(first
   |exact k
   |exact⟨h1,h2,h3,h4,⟨he,h5.2⟩,h7⟩
   |exact w_lv λ_ _=>⟨h1,h2,h3,h4,h5,h7⟩
   |exact Q0d (vY _ _) λ_ _=>⟨h1,h2,h3,h4,h5,h7⟩
   |exact Q0d (Ziz h2 h3 _) λx hx=>⟨h1,hx.2,hx.1,h4,h5,h7⟩
   |exact Q0d (Zhy h2 h4 _) λx hx=>⟨h1,hx.2,h3,hx.1,h5,h7⟩
   |refine w_br (λ_=> ?_) (λ_=> ?_))
theorem Zlg{e:Q0f}(he:U e.N):Qd0 m e:=by
 cases hm:Q1a m
 . have hcl:Q03 m.Mem=m.Mem:=rfl
   show(Q3x m e).p
   unfold Tree.p Q3x
   refine w_an (by show m.Mem.length<=35184372088832;omega) (w_lv λl hl=> ?_)
   rw[hcl]at hl;subst hl
   refine w_an (Tree.pp (Zhb (m:=⟨_,_,_,_,_,_,m.A2,_,_,_⟩) h.bal.2)).1 (w_lv λx1 hx1=>w_br (λ_=>trivial) (λhb=> ?_))
   have:x1=false:=hx1.trans hm
   rw[this]at hb;cases hb
 . obtain⟨P,s,o⟩:=may_P h hm
   exact(Tree.pp (Zit o he)).1
end
theorem zaj(a:Q00)(ha:a.Mem.length<=1000000000000):(Qh6 a a).w (λb=>b=true):=by
 unfold Qh6
 repeat'(first
   |refine w_br (λ_=> ?_) (λh=>absurd h (by simp [eqs,eq1];done))
   |exact w_an ha (w_lv λx hx=>by rw[hx];exact Z5x _ ha)
   |refine w_an ha (w_lv λx hx=>w_br (λ_=> ?_) (λh=>by rw[hx,Z5x _ ha]at h;cases h))
   |exact rfl)
 all_goals(show(_==_)=true;simp)
theorem vj(a:List Q02)(ha:a.length<=1000000000000):(Q4c a a).w (λb=>b=true):=by
 unfold Q4c
 refine w_br (λh=>by simp at h) (λ_=> ?_)
 refine w_lp (inv:=λv:Int=>0<=v/\v<=a.length) (μ:=Q5f a a) ⟨by omega,by omega⟩ (Nat.lt_succ_self _) λv ⟨h1,h2⟩=> ?_
 refine w_br (λhb=> ?_) (λ_=>rfl)
 have hb:=of_decide_eq_true hb
 have e:IntKind.i64.wrap (v+1)=v+1:=by rw[IntKind.wrap_i64];omega
 refine w_cn (by simp [Nat.blt];omega) (w_cn (by simp [Nat.blt];omega) (w_br (λh=>by simp [eqs,eq1]at h) (λ_=>w_nx ?_)))
 show(_/\_)/\(_:Nat)<_
 exact⟨⟨by rw[e];omega,by rw[e];omega⟩,by show(a.length-IntKind.i64.wrap (v+1)).toNat<(a.length-v).toNat;rw[e];omega⟩
def Tree.V{β:Type}(t:Tree β)(W:β->Prop):Prop:=W t.m
section
variable {α β:Type} {W:β->Prop} {c:Bool} {t e:Tree β}
theorem v_lf{x:β}(h:W x):Tree.V (.lf x) W:=h
theorem v_nx{f:Prop}{x:β}{hf:f}(h:W x):Tree.V (.nx f x hf) W:=h
theorem v_br(h:c=true->Tree.V t W)(g:c=false->Tree.V e W):Tree.V (.br c t e) W:=by
 cases c
 . exact g rfl
 . exact h rfl
theorem v_cn(g:Tree.V t W):Tree.V (.cn c t) W:=g
theorem v_an{p:Prop}(g:Tree.V t W):Tree.V (.an p t) W:=g
theorem v_lv{x:α}{k:α->Tree β}(h: ∀y,y=x->Tree.V (k y) W):Tree.V (.lv x k) W:=h x rfl
theorem v_lp{d:Inhabited β}{n:Nat}{f:Prop}{x:α}{k:α->Tree (α⊕β)}{hf:f}{inv:α->Prop}{μ:α->Nat}(h:inv x)(hn:μ x<n)(g: ∀y,inv y->Tree.V (k y) (Sum.elim (λz=>inv z/\μ z<μ y) W)):Tree.V (.lp d n f x k hf) W:=by
 refine xy (P:=inv) (R:=W) (μ:=μ) (λa ha=> ?_) n x h hn
 have:=g a ha
 unfold Tree.V at this
 revert this
 cases(k a).m with
 |inl z=>exact λh=>h
 |inr b=>exact λh=>h
end
def Z3g(r:Q01)(m:Q00):Q01:={A0:=m,A9:=r.A9,C4:=r.C4,A6:=r.A6}
theorem xaF(r:Q01)(port clock:Int):Qra r port clock=((Qbt r.A0 port clock).1,Z3g r (Qbt r.A0 port clock).2):=by
 simp only[Qra,Qha,Qbt,Qk6,Tree.m,letv]
 cases decide (port<=1)<;>cases port==2<;>cases port==3<;>cases decide (port<=6)<;>cases decide (port<=9)<;>rfl
theorem xaj(r:Q01)(port v:Int):Qop r port v=((Q9l r.A0 port v).1,Z3g r (Q9l r.A0 port v).2):=by
 simp only[Qop,Qbe,Q9l,Qd9,Tree.m,letv]
 cases port==0<;>cases decide (port<=2)<;>cases port==3<;>cases decide (port<=6)<;>cases decide (port<=9)<;>rfl
theorem qaG{r:Q01}{c:Bool}{x y:Bool×Q01}{x' y':Bool×Q00}(hx:x=(x'.1,Z3g r x'.2))(hy:y=(y'.1,Z3g r y'.2)):cond c x y=((cond c x' y').1,Z3g r (cond c x' y').2):=by cases c<;>assumption
theorem xk(r:Q01)(e:Q0f):Qiy r e=((Q0o r.A0 e).1,Z3g r (Q0o r.A0 e).2):=by
 simp only[Qiy,Q8a,Q0o,Q42,Tree.m,letv]
 repeat'(first|rfl|refine qaG ?_ ?_)
theorem Z73(r:Q01)(clock:Int):Q6b r clock=((Q0a r.A0 clock).1,Z3g r (Q0a r.A0 clock).2):=by
 simp only[Q6b,Q5o,Q0a,Q81,Tree.m,letv,xaF,xaj,Z3g]
 cases(Q6k (Q0l r.A0) r.A0.Mem).2.1.B5==1<;>cases(Q6k (Q0l r.A0) r.A0.Mem).2.1.B5==2<;>cases(Q6k (Q0l r.A0) r.A0.Mem).2.1.B5==3<;>cases(Q6k (Q0l r.A0) r.A0.Mem).2.1.B5==4<;>rfl
def Q1t(r:Q01)(e:Q0f):Q01:=
 bif(Q0o r.A0 e).1 then{A0:=(Q0o r.A0 e).2,A9:=r.A9,C4:=r.C4++[{At:=(Q0o r.A0 e).2.A1,C6:=e}],A6:=r.A6} else Z3g r (Q0o r.A0 e).2
theorem Zj6(r:Q01)(e:Q0f):Qhj r e=Q1t r e:=by
 have a:Qfr r e=((Q0o r.A0 e).1,Z3g r (Q0o r.A0 e).2):=by
   simp only[Qfr,Q6o,Tree.m,letv,xk]
 simp only[Qhj,Qa,Tree.m,letv,a,Q1t]
 cases(Q0o r.A0 e).1<;>rfl
def Q40(r:Q01):Q01:=bif Q7i r.A0.B0 r.A9 then Q1t r {B5:=2,N:=0,C8:=[]} else r
def Z6z(r:Q01):Q01:=bif Q0t r.A0 then{A0:=r.A0,A9:=r.A9,C4:=r.C4++[{At:=r.A0.A1,C6:={B5:=1,N:=r.A9,C8:=[]}}],A6:=r.A6} else r
def Qif(r:Q01):Q01:={A0:=(Q0a r.A0 r.A9).2,A9:=IntKind.wrap .u32 (r.A9+1),C4:=(Z6z r).C4,A6:=r.A6}
def recF:Nat->Q01->List Q02->Q01×List Q02
 |0,r,o=>(r,o)
 |n+1,r,o=>bif Q0y (Q40 r).A0 then(Q40 r,o) else recF n (Qif (Q40 r)) (o++(Q0a (Q40 r).A0 (Q40 r).A9).1)
def noQ(r:Q01):Q01:={A0:=r.A0,A9:=r.A9,C4:=r.C4,A6:=[]}
def advF(r:Q01)(steps clock:Int):Q01×List Q02:=
 bif !Q7b r.A0 then(r,[]) else recF (Q13 steps).toNat (noQ (r.A6.foldl Q1t {A0:=r.A0,A9:=if clock>r.A9 then clock else r.A9,C4:=r.C4,A6:=r.A6})) []
theorem Qnk(r:Q01)(e:Q0f):(Q1t r e).A6=r.A6:=by
 unfold Q1t;cases(Q0o r.A0 e).1<;>rfl
theorem Ziy(r:Q01):Qnh r=r:=by
 simp only[Qnh,Qd8,Tree.m,letv,Z50]
theorem Qr1(r:Q01)(steps clock:Int)(hq:r.A6.length<=1000000):Qbo r steps clock=advF r steps clock:=by
  show Tree.V (Q54 r steps clock) (λx=>x=advF r steps clock)
  obtain⟨lim0,lim⟩:=Qs2 steps
  unfold Q54
  refine v_an (v_lv λx0 e0=>v_lv λx1 e1=> ?_)
  rw[Ziy]at e0
  subst e0
  refine v_br (λhb=>v_lf ?_) λhb=> ?_
  . unfold advF;rw[<-e1,hb];rfl
  generalize hr0:({A0:=x0.A0,A9:=if clock>x0.A9 then clock else x0.A9,C4:=x0.C4,A6:=x0.A6}:Q01)=r0
  have hA:advF x0 steps clock=recF (Q13 steps).toNat (noQ (x0.A6.foldl Q1t r0)) []:=by
    unfold advF;rw[<-e1,hb,hr0];rfl
  have hQ:r0.A6=x0.A6:=by rw[<-hr0]
  refine v_lp (inv:=λz:Int×Q01=>0<=z.1/\z.1<=x0.A6.length/\z.2.A6=x0.A6/\(x0.A6.drop z.1.toNat).foldl Q1t z.2=x0.A6.foldl Q1t r0) (μ:=Qar x0 steps clock) ⟨Int.le_refl 0,by show(0:Int)<=_;omega,hQ,rfl⟩ (Nat.lt_succ_self _) λz ⟨z0,z1,z2,z3⟩=> ?_
  refine v_br (λhb=> ?_) (λhb=> ?_)
  . have hb:=of_decide_eq_true hb
    rw[z2]at hb
    refine v_cn (v_an (v_lv λx2 e2=>v_nx ?_))
    have ew:IntKind.i64.wrap (z.1+1)=z.1+1:=by rw[IntKind.wrap_i64];omega
    rw[Zj6]at e2
    have q2:x2.A6=x0.A6:=by rw[e2,Qnk,z2]
    have hlt:z.1.toNat<x0.A6.length:=by omega
    have ed:z.2.A6.getD z.1.toNat (RK.dflt RK.apiEvent)=x0.A6[z.1.toNat]:=by rw[z2,List.getD_eq_getElem?_getD,List.getElem?_eq_getElem hlt];rfl
    show(0<=IntKind.i64.wrap (z.1+1)/\IntKind.i64.wrap (z.1+1)<=x0.A6.length/\x2.A6=x0.A6/\(x0.A6.drop (IntKind.i64.wrap (z.1+1)).toNat).foldl Q1t x2=_)/\(x2.A6.length-IntKind.i64.wrap (z.1+1)).toNat<(z.2.A6.length-z.1).toNat
    rw[ew,q2,z2]
    refine⟨⟨by omega,by omega,rfl,?_⟩,by omega⟩
    rw[<-z3,List.drop_eq_getElem_cons hlt,List.foldl_cons,show(z.1+1).toNat=z.1.toNat+1 by omega,e2,ed]
  . have hb:=of_decide_eq_false hb
    rw[z2]at hb
    obtain⟨zi,zr⟩:=z
    have hb: ¬zi<x0.A6.length:=hb
    have ze:zr=x0.A6.foldl Q1t r0:=by
      rw[<-z3,List.drop_eq_nil_of_le (by show x0.A6.length<=zi.toNat;omega)];rfl
    rw[<-ze]at hA
    refine v_lp (inv:=λy:Int×Q01×List Q02=>0<=y.1/\y.1<=Q13 steps/\recF (Q13 steps-y.1).toNat y.2.1 y.2.2=advF x0 steps clock) (μ:=Q59 x0 steps clock (zi,zr)) ⟨Int.le_refl 0,by show(0:Int)<=_;omega,by rw[hA];show recF (Q13 steps-0).toNat _ _=_;rw[Int.sub_zero];rfl⟩ (Nat.lt_succ_self _) λy ⟨y0,y1,y2⟩=> ?_
    obtain⟨yi,yr,yo⟩:=y
    have mu: ∀q,yi<4000->Q59 x0 steps clock (zi,zr) (IntKind.wrap .i64 (yi+1),q)<Q59 x0 steps clock (zi,zr) (yi,yr,yo):=λq h=>by
      show(4000-IntKind.wrap .i64 (yi+1)).toNat<(4000-yi).toNat
      have y0:0<=yi:=y0
      rw[IntKind.wrap_i64];omega
    have y0:0<=yi:=y0
    refine v_lv λx3 e3=>v_br (λhb=> ?_) (λhb=> ?_)
    . have hb:yi<x3:=of_decide_eq_true hb
      rw[e3]at hb
      have mu:=λq=>mu q (by omega)
      have ew:IntKind.i64.wrap (yi+1)=yi+1:=by rw[IntKind.wrap_i64];omega
      have en:(Q13 steps-yi).toNat=(Q13 steps-(yi+1)).toNat+1:=by omega
      change recF (Q13 steps-yi).toNat yr yo=_ at y2
      rw[en]at y2
      refine v_lv λx4 e4=>v_br (λhd=>v_an (v_lv λx5 e5=> ?_)) (λhd=> ?_)
      . have e5:x5=Q40 yr:=by rw[e5,Zj6];unfold Q40;rw[<-e4,hd];rfl
        refine v_an (v_lv λx6 e6=>v_br (λhs=>v_lf ?_) λhs=>v_an (v_lv λx7 e7=>v_br (λhr=>v_cn (v_an (v_lv λx8 e8=>v_cn (v_nx ?_)))) λhr=>v_an (v_lv λx9 e9=>v_cn (v_nx ?_))))
        . show(_,yo)=_
          rw[<-y2];unfold recF
          rw[<-e5,<-e6,hs];rfl
        . rw[Z73]at e8
          refine⟨⟨by show 0<=IntKind.wrap .i64 (yi+1);rw[ew];omega,by show IntKind.wrap .i64 (yi+1)<=_;rw[ew];omega,?_⟩,mu _⟩
          show recF (Q13 steps-IntKind.wrap .i64 (yi+1)).toNat _ _=_
          rw[ew,<-y2,e8]
          conv=>rhs;unfold recF
          rw[<-e5,<-e6,hs]
          unfold Qif Z6z
          rw[<-e7,hr];rfl
        . rw[Z73]at e9
          refine⟨⟨by show 0<=IntKind.wrap .i64 (yi+1);rw[ew];omega,by show IntKind.wrap .i64 (yi+1)<=_;rw[ew];omega,?_⟩,mu _⟩
          show recF (Q13 steps-IntKind.wrap .i64 (yi+1)).toNat _ _=_
          rw[ew,<-y2,e9]
          conv=>rhs;unfold recF
          rw[<-e5,<-e6,hs]
          unfold Qif Z6z
          rw[<-e7,hr];rfl
      . have e5:yr=Q40 yr:=by
          have e4:x4=Q7i yr.A0.B0 yr.A9:=e4
          unfold Q40;rw[<-e4,hd];rfl
        refine v_an (v_lv λx6 e6=>v_br (λhs=>v_lf ?_) λhs=>v_an (v_lv λx7 e7=>v_br (λhr=>v_cn (v_an (v_lv λx8 e8=>v_cn (v_nx ?_)))) λhr=>v_an (v_lv λx9 e9=>v_cn (v_nx ?_))))
        . show(_,yo)=_
          rw[<-y2];unfold recF
          rw[<-e5,<-e6,hs];rfl
        . rw[Z73]at e8
          refine⟨⟨by show 0<=IntKind.wrap .i64 (yi+1);rw[ew];omega,by show IntKind.wrap .i64 (yi+1)<=_;rw[ew];omega,?_⟩,mu _⟩
          show recF (Q13 steps-IntKind.wrap .i64 (yi+1)).toNat _ _=_
          rw[ew,<-y2,e8]
          conv=>rhs;unfold recF
          rw[<-e5,<-e6,hs]
          unfold Qif Z6z
          rw[<-e7,hr];rfl
        . rw[Z73]at e9
          refine⟨⟨by show 0<=IntKind.wrap .i64 (yi+1);rw[ew];omega,by show IntKind.wrap .i64 (yi+1)<=_;rw[ew];omega,?_⟩,mu _⟩
          show recF (Q13 steps-IntKind.wrap .i64 (yi+1)).toNat _ _=_
          rw[ew,<-y2,e9]
          conv=>rhs;unfold recF
          rw[<-e5,<-e6,hs]
          unfold Qif Z6z
          rw[<-e7,hr];rfl
    . have hb: ¬yi<x3:=of_decide_eq_false hb
      rw[e3]at hb
      refine v_lf ?_
      show(yr,yo)=_
      change recF (Q13 steps-yi).toNat yr yo=_ at y2
      rw[<-y2,show(Q13 steps-yi).toNat=0 by omega];rfl
structure good(P:Nat)(m:Q00):Prop where
 ok:okM P m
 may:Q1a m=true
section
variable {P:Nat} {m:Q00} (h:good P m)
include h
theorem good.v:okV m:=⟨h.ok.cpu,h.ok.mem.u,h.ok.disk,h.ok.nic,h.ok.target,h.ok.cnt⟩
theorem good.s:okS P m:=⟨h.ok.cpu,h.ok.mem,h.ok.disk,h.ok.nic,h.ok.target.1,h.ok.target.2⟩
theorem good.rmay:Q7b m=true:=(Z79 h.v).symm.trans h.may
theorem Qiv{e:Q0f}(he:U e.N):good P (Q0o m e).2/\(Q0o m e).2.A1=m.A1:=by
 have o:okM P (Q0o m e).2:=Tree.post _ (vK h.ok he)
 have a:=(Tree.pp (Zit h.ok he)).2
 change(Q1a m=true->Q1a (Q7j m e).1=true)/\(Q7j m e).1.A1=m.A1/\_ at a
 have e1:Qjg m e=((Q0o m e).2,(Q0o m e).1):=by
   simp only[Qjg,Qis,Tree.m,letv,Z50,h.rmay];rfl
 rw[Z4f h.v e,e1]at a
 exact⟨⟨o,a.1 h.may⟩,a.2.1⟩
theorem Zcp:Q0y m=false↔m.A7=false/\Qc8 m=false/\m.A1<1152921504606846976:=by
 simp only[Q0y,Q71,Tree.m,letv,h.rmay]
 cases m.A7<;>cases Qc8 m<;>simp
theorem Q8i(hs:Q0y m=false){clock:Int}(hc:U clock):good P (Q0a m clock).2/\(Q0a m clock).2.A1=m.A1+1/\(Q0a m clock).1.length<=1:=by
 have o:=Tree.post _ (Z5i h.ok hc)
 change(Q0a m clock).1.length<=1/\okM P (Q0a m clock).2/\(Q0a m clock).2.A1=IntKind.wrap .u64 (m.A1+1) at o
 have s:=(Tree.pp (xg h.s h.ok.cnt hc)).2
 change _/\Good P m (Q27 m clock).1 at s
 have e:Q27 m clock=((Q0a m clock).2,(Q0a m clock).1):=by rw[Zdv h.v,Z6c,hs];rfl
 rw[e]at s
 have hct:=((Zcp h).1 hs).2.2
 have h0:=h.ok.cnt
 refine⟨⟨o.2.1,s.2.may h.may⟩,?_,o.1⟩
 rw[o.2.2,IntKind.wrap_u64];omega
end
structure Q8k(P:Nat)(k:Int)(r:Q01):Prop where
 m:good P r.A0
 clock:U r.A9
 cnt:r.A0.A1<=k
theorem Ql5{P:Nat}{k:Int}{r:Q01}(h:Q8k P k r){e:Q0f}(he:U e.N):Q8k P k (Q1t r e)/\(Q1t r e).A0.A1=r.A0.A1:=by
 obtain⟨a,b⟩:=Qiv h.m he
 have hc:=h.cnt
 unfold Q1t
 cases(Q0o r.A0 e).1
 . exact⟨⟨a,h.clock,by show(Q0o r.A0 e).2.A1<=k;omega⟩,b⟩
 . exact⟨⟨a,h.clock,by show(Q0o r.A0 e).2.A1<=k;omega⟩,b⟩
theorem Qof{P:Nat}{k:Int}{r:Q01}(h:Q8k P k r):Q8k P k (Q40 r)/\(Q40 r).A0.A1=r.A0.A1:=by
 unfold Q40
 cases Q7i r.A0.B0 r.A9
 . exact⟨h,rfl⟩
 . exact Ql5 h U_0
theorem Qon{P:Nat}{k:Int}{r:Q01}(h:Q8k P k r)(hs:Q0y r.A0=false):Q8k P (k+1) (Qif r):=by
 obtain⟨a,b,_⟩:=Q8i h.m hs h.clock
 have hc:=h.cnt
 exact⟨a,Q0s _,by show(Q0a r.A0 r.A9).2.A1<=k+1;omega⟩
theorem Zco{P:Nat}(n:Nat): ∀{k:Int} {r:Q01} {o:List Q02},Q8k P k r->Q8k P (k+n) (recF n r o).1:=by
 induction n with
 |zero=>intro k r o h;exact⟨h.m,h.clock,by have:=h.cnt;show r.A0.A1<=k+(0:Nat);omega⟩
 | succ n ih=>
   intro k r o h
   obtain⟨f,fc⟩:=Qof h
   unfold recF
   cases hs:Q0y (Q40 r).A0
   . have t:=ih (o:=o++(Q0a (Q40 r).A0 (Q40 r).A9).1) (Qon f hs)
     exact⟨t.m,t.clock,by have:=t.cnt;show(recF n _ _).1.A0.A1<=_;omega⟩
   . exact⟨f.m,f.clock,by have:=f.cnt;show(Q40 r).A0.A1<=_;omega⟩
theorem Z5f{P:Nat}{k:Int}(l:List Q0f): ∀{r:Q01},Q8k P k r->(∀q∈l,U q.N)->Q8k P k (l.foldl Q1t r)/\(l.foldl Q1t r).A6=r.A6:=by
 induction l with
 |nil=>intro r h _;exact⟨h,rfl⟩
 | cons e l ih=>
   intro r h hu
   obtain⟨a,b⟩:=ih (Ql5 h (hu e (by simp))).1 (λq hq=>hu q (by simp [hq]))
   exact⟨a,b.trans (Qnk r e)⟩
theorem Z48(n:Nat): ∀(r:Q01) (o:List Q02),(recF n r o).1.A6=r.A6:=by
 induction n with
 |zero=>intro r o;rfl
 | succ n ih=>
   intro r o
   have f:(Q40 r).A6=r.A6:=by
     unfold Q40;cases Q7i r.A0.B0 r.A9
     . rfl
     . exact Qnk _ _
   unfold recF
   cases Q0y (Q40 r).A0
   . exact(ih _ _).trans f
   . exact f
def okQ(l:List Q0f):Prop:=l.length<=16/\ ∀q∈l,U q.N
theorem zk{P:Nat}{k:Int}{r:Q01}(h:Q8k P k r)(hq:okQ r.A6)(steps:Int){clock:Int}(hc:U clock):Q8k P (k+4000) (advF r steps clock).1/\okQ (advF r steps clock).1.A6:=by
 obtain⟨l0,l1⟩:=Qs2 steps
 unfold advF
 rw[h.m.rmay]
 have hcl:U (if clock>r.A9 then clock else r.A9):=by split<;>first|exact hc|exact h.clock
 obtain⟨a,b⟩:=Z5f r.A6 (r:={A0:=r.A0,A9:=if clock>r.A9 then clock else r.A9,C4:=r.C4,A6:=r.A6}) ⟨h.m,hcl,h.cnt⟩ hq.2
 have c:=Zco (Q13 steps).toNat (o:=[]) (r:=noQ (r.A6.foldl Q1t {A0:=r.A0,A9:=if clock>r.A9 then clock else r.A9,C4:=r.C4,A6:=r.A6})) ⟨a.m,a.clock,a.cnt⟩
 refine⟨⟨c.m,c.clock,?_⟩,?_⟩
 . have:=c.cnt
   show(recF _ _ _).1.A0.A1<=_
   omega
 . show okQ (recF _ _ _).1.A6
   rw[Z48];exact⟨Nat.zero_le _,λq hq=>by cases hq⟩
theorem yk(n:Int):U (Q44 n).N:=Tree.post _ (zw n)
theorem Qkg(r:Q01)(e:Q0f):Q2g r e=bif !Q2n e then(r,false) else bif e.B5==1 then(r,false) else bif decide ((r.A6.length:Int)>=16) then(r,false) else({A0:=r.A0,A9:=r.A9,C4:=r.C4,A6:=r.A6++[e]},true):=by
 simp only[Q2g,Q89,Tree.m,letv,Ziy]
theorem Zft{P:Nat}{k:Int}{r:Q01}(h:Q8k P k r)(hq:okQ r.A6){e:Q0f}(he:U e.N):Q8k P k (Q2g r e).1/\okQ (Q2g r e).1.A6:=by
  rw[Qkg]
  cases Q2n e
  . exact⟨h,hq⟩
  . cases e.B5==1
    . cases hl:decide ((r.A6.length:Int)>=16)
      . have hl:=of_decide_eq_false hl
        refine⟨⟨h.m,h.clock,h.cnt⟩,?_,λq hm=> ?_⟩
        . show(r.A6++[e]).length<=16
          rw[List.length_append,List.length_singleton];omega
        . have hm:q∈r.A6++[e]:=hm
          rcases List.mem_append.1 hm with hm|hm
          . exact hq.2 q hm
          . rw[List.mem_singleton.1 hm];exact he
      . exact⟨h,hq⟩
    . exact⟨h,hq⟩
theorem Qrg{r:Q01}{n:Int}(h:(Int.tmod (Q2y n 3) 3==0)=true):Q3b r n=((Q2g r (Q44 n)).1,[]):=by
 show Tree.V (Q7n r n) (λx=>x=((Q2g r (Q44 n)).1,[]))
 unfold Q7n
 refine v_lv λx0 e0=>v_br (λ_=>v_an (v_lv λx1 e1=>v_an (v_lv λx2 e2=>v_lf ?_))) (λhb=> ?_)
 . rw[e2,e1]
 . rw[e0,h]at hb;cases hb
theorem Qrj{r:Q01}{n:Int}(h:(Int.tmod (Q2y n 3) 3==0)=false):Q3b r n=Qbo r (Q46 (ishr .i64 (Q2y n 3) 4) 12) (IntKind.wrap .u32 (iand .i64 (ishr .i64 (Q2y n 3) 12) 255)):=by
 show Tree.V (Q7n r n) (λx=>x=Qbo r (Q46 (ishr .i64 (Q2y n 3) 4) 12) (IntKind.wrap .u32 (iand .i64 (ishr .i64 (Q2y n 3) 12) 255)))
 unfold Q7n
 refine v_lv λx0 e0=>v_br (λhb=> ?_) (λ_=>v_an (v_lv λx1 e1=>v_an (v_lv λx2 e2=>v_lf ?_)))
 . rw[e0,h]at hb;cases hb
 . rw[e2,e1,e0]
def Qj7(s:Q01×List Q02)(n:Int):Q01×List Q02:=((Q3b s.1 n).1,s.2++(Q3b s.1 n).2)
theorem qak(m:Q00)(l:List Int)(hl:l.length<=1000000):Qr5 m l=l.foldl Qj7 (Q3g m,[]):=by
 show Tree.V (Qb2 m l) (λx=>x=l.foldl Qj7 (Q3g m,[]))
 unfold Qb2
 refine v_an (v_lv λx0 e0=> ?_)
 subst e0
 refine v_lp (inv:=λz:Int×Q01×List Q02=>0<=z.1/\z.1<=l.length/\(l.drop z.1.toNat).foldl Qj7 z.2=l.foldl Qj7 (Q3g m,[])) (μ:=Qhd m l) ⟨Int.le_refl 0,by show(0:Int)<=_;omega,rfl⟩ (Nat.lt_succ_self _) λz ⟨z0,z1,z2⟩=> ?_
 obtain⟨i,r,o⟩:=z
 have z0:0<=i:=z0
 have z1:i<=l.length:=z1
 refine v_br (λhb=>v_cn (v_an (v_lv λx1 e1=>v_cn (v_nx ?_)))) (λhb=>v_lf ?_)
 . have hb:i<l.length:=of_decide_eq_true hb
   have ew:IntKind.i64.wrap (i+1)=i+1:=by rw[IntKind.wrap_i64];omega
   have hlt:i.toNat<l.length:=by omega
   show(0<=IntKind.i64.wrap (i+1)/\IntKind.i64.wrap (i+1)<=l.length/\(l.drop (IntKind.i64.wrap (i+1)).toNat).foldl Qj7 (x1.1,o++x1.2)=_)/\(l.length-IntKind.i64.wrap (i+1)).toNat<(l.length-i).toNat
   rw[ew]
   refine⟨⟨by omega,by omega,?_⟩,by omega⟩
   rw[<-z2]
   show _=(l.drop i.toNat).foldl Qj7 (r,o)
   rw[List.drop_eq_getElem_cons hlt,List.foldl_cons,show(i+1).toNat=i.toNat+1 by omega,e1]
   have ed:l.getD i.toNat 0=l[i.toNat]:=by rw[List.getD_eq_getElem?_getD,List.getElem?_eq_getElem hlt];rfl
   rw[show Qj7 (r,o) l[i.toNat]=((Q3b r l[i.toNat]).1,o++(Q3b r l[i.toNat]).2) from by unfold Qj7;rfl,<-ed]
 . have hb: ¬i<l.length:=of_decide_eq_false hb
   show(r,o)=_
   rw[<-z2]
   show _=(l.drop i.toNat).foldl Qj7 (r,o)
   rw[List.drop_eq_nil_of_le (by omega)];rfl
theorem Za(s:Q01×List Q02)(n:Int):Qj7 s n=((Q3b s.1 n).1,s.2++(Q3b s.1 n).2):=by unfold Qj7;rfl
theorem vk{σ:Type}{f:σ->Int->σ}{I:Int->σ->Prop}(hf: ∀k s n,I k s->I (k+4000) (f s n))(l:List Int): ∀k s,I k s->I (k+4000*l.length) (l.foldl f s):=by
 induction l with
 |nil=>intro k s h;simpa using h
 | cons n l ih=>
   intro k s h
   have:=ih _ _ (hf k s n h)
   rw[List.foldl_cons,List.length_cons]
   rwa [show k+4000*((l.length+1:Nat):Int)=k+4000+4000*l.length by omega]
theorem ql(m:Q00):Q3g m={A0:=m,A9:=0,C4:=[],A6:=[]}:=by
 simp only[Q3g,Q3d,Tree.m,letv,Z50]
theorem Zi0{i:List Int}(hu: ∀w∈i,U w)(hl:i.length<=256):good 8 (Q1p 8 4 i).1/\(Q1p 8 4 i).1.A1=0:=by
 obtain⟨a,b⟩:=(Tree.pp (new_w i hu hl)).2
 change okM 8 (Q1p 8 4 i).1 at a
 refine⟨⟨a,?_⟩,b⟩
 have e:(Q1p 8 4 i).2=true:=by
   have w:IntKind.i64.wrap (8*32)=256:=by decide
   simp only[Q1p,Q88,Tree.m,w,letv,decide_eq_false (show¬((i.length:Int)>256) by omega)]
   rfl
 obtain⟨a1,a2,a3,a4,a5,a6⟩:=qaN 8 4 i e
 exact(zaN _ 8 4 a1 a2 a3 a4 a5 _ a6).1
theorem xl{m:Q00}(h:good 8 m)(hc:m.A1<=87):Tree.V (Q93 m [] 87) (λx=>x.2.2.2=0->good 8 x.1/\x.1.A1<=87):=by
 have z: ∀{k:Int} {p:Prop},k≠0->k=0->p:=λa b=>absurd b a
 unfold Q93
 refine v_lv λx0 _=>v_br (λ_=>v_lf (z (by decide))) λ_=>v_br (λ_=>v_lf (z (by decide))) λ_=>v_br (λ_=>v_lf (z (by decide))) λ_=>v_an (v_lv λx1 _=>v_br (λ_=>v_lf (z (by decide))) λ_=>v_an (v_lv λx2 hx=> ?_))
 rw[Z50]at hx
 refine v_lp (inv:=λv:Q00×List Q02=>good 8 v.1/\v.1.A1<=87) (μ:=Qey m [] 87) ⟨by rw[hx];exact h,by rw[hx];exact hc⟩ (Nat.lt_succ_self _) λv0 ⟨a1,a3⟩=> ?_
 have a2:=a1.ok.cnt
 refine v_br (λhb=>v_br (λhm=> ?_) (λ_=>v_lf λ_=>⟨a1,a3⟩)) (λ_=>v_lf λ_=>⟨a1,a3⟩)
 have hb:=of_decide_eq_true hb
 have hm:=of_decide_eq_true hm
 refine v_lp (inv:=λ_=>True) (μ:=Qf3 m [] 87 v0) trivial (Nat.lt_succ_self _) λv1 _=> ?_
 refine v_br (λ_=>v_lf λ_=>⟨a1,a3⟩) λhh=>v_an (v_lv λx3 h3=>v_br (λ_=>v_lf λ_=>⟨a1,a3⟩) λhi=>v_an (v_lv λx4 _=>v_br (λ_=>v_lf (z (by decide))) λ_=>v_an (v_lv λx5 h5=>v_cn (v_nx ?_))))
 obtain⟨b1,b2,_⟩:=Q8i a1 ((Zcp a1).2 ⟨hh,h3.symm.trans hi,hm⟩) (clock:=0) U_0
 rw[<-h5]at b1 b2
 show(good 8 x5.2/\x5.2.A1<=87)/\(87-x5.2.A1).toNat<(87-v0.1.A1).toNat
 exact⟨⟨b1,by omega⟩,by omega⟩
theorem Zd2(kind:Int)(l:List Int)(hl:l.length*8<=reachBytes)(h40:l.length<=40):good 8 (Qbg kind l)/\(Qbg kind l).A1<=87:=by
  show Tree.V (Q6a kind l) (λm=>good 8 m/\m.A1<=87)
  have code:=(Tree.pp (qd l hl)).2
  change((Qnt l).length:Int)=l.length/\ ∀w∈Qnt l,U w at code
  obtain⟨b1,b2⟩:=code
  unfold Q6a
  refine v_an (v_lv λx0 hx0=>v_br (λ_=>v_an (v_lv λx1 e1=> ?_)) (λhk=> ?_))
  . have eb:x1.1=boot:=by rw[e1];rfl
    obtain⟨q1,q2⟩:boot.length<=160/\ ∀w∈boot,U w:=qe
    refine v_lp (inv:=λv:List Int=>v.length<=160/\v=boot++List.replicate (v.length-boot.length) 0) (μ:=Qbq kind l) ⟨by rw[eb];exact q1,by rw[eb];simp⟩ (Nat.lt_succ_self _) λv0 ⟨a1,a2⟩=> ?_
    have a3:boot.length<=v0.length:=by rw[a2,List.length_append];omega
    refine v_br (λhb=> ?_) (λhb=> ?_)
    . have hb:=of_decide_eq_true hb
      refine v_cn (v_nx ?_)
      show(_/\_)/\(_:Nat)<_
      refine⟨⟨by rw[List.length_append,List.length_singleton];omega,?_⟩,by show 160-(v0++[0]).length<160-v0.length;rw[List.length_append,List.length_singleton];omega⟩
      show v0++[0]=boot++List.replicate ((v0++[0]).length-boot.length) 0
      rw[List.length_append,List.length_singleton,show v0.length+1-boot.length=(v0.length-boot.length)+1 by omega,List.replicate_succ',<-List.append_assoc,<-a2]
    . have hb:=of_decide_eq_false hb
      have hv:v0=Qj0:=by
        unfold Qj0
        rw[show(160:Nat)=v0.length by omega]
        exact a2
      subst hv
      have hp:=zac
      have hu0: ∀w∈Qj0,U w:=λw hw=>(List.mem_append.1 hw).elim (q2 w) (U_all _ w)
      refine v_an (v_lv λx2 e2=>v_cn ?_)
      rw[<-e2]at b1 b2
      have hu: ∀w∈Qj0++x2,U w:=λw hw=>(List.mem_append.1 hw).elim (hu0 w) (b2 w)
      have hlen:(Qj0++x2).length<=256:=by rw[List.length_append];omega
      refine v_br (λhb=> ?_) (λhb=> ?_)
      . have hb:=of_decide_eq_true hb;omega
      . obtain⟨c1,c2⟩:=Zi0 hu hlen
        refine v_an (v_lv λx3 h3=> ?_)
        rw[<-h3]at c1 c2
        have rn:=xl c1 (by omega)
        refine v_br (λ_=>v_an (v_lv λx4 hx=>v_lf ?_)) (λ_=>v_lf ⟨c1,by omega⟩)
        have e:x3=Q1p 8 4 (Qj0++(x2++List.replicate (96-x2.length) 0)):=by
          rw[h3]
          have hl2:(x2++List.replicate (96-x2.length) (0:Int)).length=96:=by rw[List.length_append,List.length_replicate];omega
          refine qac _ _ hlen (by rw[List.length_append,hl2];omega) ?_
          rw[List.length_append,List.length_append,hl2,hp,List.append_assoc,List.append_assoc,List.append_assoc,show 256-(160+96)=0 by omega,show 256-(160+x2.length)=96-x2.length by omega]
          simp
        have h0:x4.2.2.2=0:=by
          rw[hx,e]
          exact qaB _ (by rw[List.length_append,List.length_replicate];omega)
        exact(by rw[hx];exact rn:x4.2.2.2=0->good 8 x4.1/\x4.1.A1<=87) h0
  . have hk:=of_decide_eq_false hk
    refine v_an (v_lv λx2 e2=>v_cn ?_)
    rw[<-e2]at b1 b2
    refine v_br (λhb=> ?_) (λhb=> ?_)
    . have hb:=of_decide_eq_true hb;omega
    . obtain⟨c1,c2⟩:=Zi0 b2 (by omega)
      refine v_an (v_lv λx3 h3=> ?_)
      rw[<-h3]at c1 c2
      exact v_br (λh=>absurd (eq_of_beq h) (by omega)) (λ_=>v_lf ⟨c1,by omega⟩)
theorem Zkd(w:Int):IntKind.wrap .i64 (Q1s w).1.Imm=(Q1s w).1.Imm:=by
 show Tree.V (Q66 w) (λr=>IntKind.wrap .i64 r.1.Imm=r.1.Imm)
 have e: ∀x,IntKind.wrap .i64 (IntKind.wrap .i32 x)=IntKind.wrap .i32 x:=λx=>by rw[IntKind.wrap_i64,IntKind.wrap_i32];omega
 unfold Q66
 refine v_lv λx0 _=> ?_
 have l: ∀i:Q0i,IntKind.wrap .i64 i.Imm=i.Imm->Tree.V (Tree.lv (Q6l i) λx=> .br (!x) (.lf ((⟨0,0,0,0,0⟩:Q0i),false)) (.lf (i,true))) (λr=>IntKind.wrap .i64 r.1.Imm=r.1.Imm):=λi hi=>v_lv λx hx=>v_br (λ_=>v_lf rfl) (λhb=>v_lf hi)
 exact v_br (λ_=>v_lf rfl) (λ_=>v_br (λ_=>l _ rfl) (λ_=>v_br (λ_=>l _ (e _)) (λ_=>v_br (λ_=>l _ (e _)) (λ_=>l _ (e _)))))
def ioP(e:Q11):Bool:=bif e.B5==1 then e.D1==2 else false
def readsC(c:Q04)(m:List Int):Bool:=
 bif iand .u32 c.B6.a0 1==0 then false else bif(Q16 m c.Pc 4).2 then bif(Q1s (Q16 m c.Pc 4).1).2 then bif(Q1s (Q16 m c.Pc 4).1).1.Op==60 then(Q1s (Q16 m c.Pc 4).1).1.Imm==2 else false else false else false
theorem Zbt(m:Q00):Qcv m=readsC (Q0l m) m.Mem:=rfl
theorem zaG(c:Q04)(i:Q0i):ioP (Qh1 c i).2=(bif i.Op==60 then IntKind.wrap .i64 i.Imm==2 else false):=by
 show Tree.V (Q7h c i) (λr=>ioP r.2=_)
 have no: ∀{k:Int},i.Op=k->k≠60-> ∀e:Q11,e.B5≠1->ioP e=(bif i.Op==60 then IntKind.wrap .i64 i.Imm==2 else false):=λh g e he=>by
   unfold ioP
   rw[h,show(_==(60:Int))=false from beq_false_of_ne g,show(e.B5==1)=false from beq_false_of_ne he];rfl
 have eq: ∀{k:Int},(i.Op==k)=true->i.Op=k:=λh=>eq_of_beq h
 unfold Q7h
 refine v_br (λh=>v_lv λ_ _=>v_lf (no (eq h) (by decide) _ (show(0:Int)≠1 by decide))) λ_=>v_br (λh=>v_lv λ_ _=>v_lf (no (eq h) (by decide) _ (show(0:Int)≠1 by decide))) λ_=>v_br (λh=>v_cn (v_an (v_lv λ_ _=>v_lf (no (eq h) (by decide) _ (show(0:Int)≠1 by decide))))) λ_=>v_br (λh=>v_cn (v_an (v_lv λ_ _=>v_lf (no (eq h) (by decide) _ (show(0:Int)≠1 by decide))))) λ_=>v_br (λh=>v_lf ?_) λh60=> ?_
 . show(bif(1:Int)==1 then IntKind.wrap .i64 i.Imm==2 else false)=_
   rw[h];rfl
 . have n60:i.Op≠60:=λe=>by rw[e]at h60;cases h60
   refine v_br (λh=>v_cn (v_lf (no (eq h) (by decide) _ (by show(2:Int)≠1;decide)))) λ_=>v_br (λh=>v_lf (no (eq h) (by decide) _ (show(3:Int)≠1 by decide))) λ_=>v_br (λh=>v_lf (no (eq h) (by decide) _ (show(5:Int)≠1 by decide))) λ_=>v_br (λh=>v_lf (no (eq h) (by decide) _ (show(4:Int)≠1 by decide))) λ_=>v_lf (no rfl n60 _ (show(0:Int)≠1 by decide))
theorem zl(c:Q04)(m:List Int)(i:Q0i):ioP (Qid c m i).2.1=(bif i.Op==60 then IntKind.wrap .i64 i.Imm==2 else false):=by
 unfold Qid
 cases h:decide (i.Op>=56)
 . have h:=of_decide_eq_false h
   rw[show(i.Op==60)=false from beq_false_of_ne (by omega)]
   cases decide (i.Op>=40)<;>cases decide (i.Op>=32)<;>cases i.Op==24<;>cases decide (i.Op<=13)<;>rfl
 . exact zaG c i
theorem Zir{P:Nat}{m:List Int}(h:Q1 P m){c:Q04}(hc:Q2b c)(hst:c.B6.a0<=31):ioP (Q6k c m).2.1=readsC c m:=by
  rw[do_eq]
  unfold readsC
  cases hk:iand .u32 c.B6.a0 1==0
  . have hp:Qkc c=false:=by
      rw[Z65 hc.a0.1 hst,show Q9q c=true from by show(iand .u32 c.B6.a0 1 !=0)=true;rw[bne,hk];rfl]
      rfl
    have wi:=Qga h hc.pc (size:=4) (.inr rfl)
    have kn:Qda 1=true:=rfl
    have p0:=hc.pc.1
    have tm:Int.tmod c.Pc (IntKind.wrap .u32 4)=c.Pc%4:=by
      rw[show IntKind.wrap .u32 4=4 from rfl,Int.tmod_eq_emod_of_nonneg p0]
    have rc:Q12 c m c.Pc 4 1=bif c.Pc%4 !=0 then(0,3,m) else bif !Q1w m c.Pc 4 then(0,Q1v 1,m) else(c.Pc,0,m):=by
      simp only[Q12,Q72,Tree.m,letv,kn,hp,tm]
      rfl
    rw[rc]
    cases h4:(c.Pc%4 !=0)
    . cases hw:Q1w m c.Pc 4
      . have l2:(Q16 m c.Pc 4).2=false:=by
          simp only[Q16,Q3h,Tree.m,letv,hw];rfl
        rw[l2]
        show ioP (doR c (0,Q1v 1,m) _ _).2.1=false
        unfold doR
        rw[show((0,Q1v 1,m):Int×Int×List Int).2.1=Q1v 1 from rfl,show(Q1v 1 !=0)=true by decide]
        rfl
      . have l2:(Q16 m c.Pc 4).2=true:=by
          simp only[Q16,Q3h,Tree.m,letv,hw];rfl
        rw[l2]
        show ioP (doR c (c.Pc,0,m) (Q16 m c.Pc 4).1 (Q1s (Q16 m c.Pc 4).1)).2.1=_
        have im:=Zkd (Q16 m c.Pc 4).1
        generalize Q16 m c.Pc 4=x at*
        generalize Q1s x.1=d at*
        unfold doR
        cases d.2
        . rfl
        . rw[hk]
          have:=zl c m d.1
          rw[im]at this
          cases Q2w d.1.Op<;>exact this
    . have hw:Q1w m c.Pc 4=false:=by
        rw[wi]
        refine decide_eq_false λe=> ?_
        rw[e.1]at h4;cases h4
      have l2:(Q16 m c.Pc 4).2=false:=by
        simp only[Q16,Q3h,Tree.m,letv,hw];rfl
      rw[l2];rfl
  . have us : ∀x w d,ioP (doR c x w d).2.1=false:=λx w d=>by
      unfold doR
      cases x.2.1 !=0
      . cases d.2
        . rfl
        . cases hp:Q2w d.1.Op
          . have:=zl c x.2.2 d.1
            rw[show(d.1.Op==60)=false from beq_false_of_ne λe=>by rw[e]at hp;cases hp]at this
            exact this
          . rw[hk];rfl
      . rfl
    exact us _ _ _
theorem Qud{m:Q00}(h:okV m):Q21 m=Q0t m:=by
 have rd:Q0t m=bif Q0y m then false else Qcv m:=rfl
 have pd:Q21 m=bif !Q25 m then false else ioP (Q4u (Q0p m).B2 (Q0p m).Mem).2.2:=rfl
 rw[rd,pd,Qr9 h]
 cases hs:Q0y m
 . have hr:Q25 m=true:=by rw[Qr9 h,hs];rfl
   obtain⟨hm,hh,hct⟩:=Qyd hr
   obtain⟨g1,g2,g3,g4,g5⟩:=(Qjd m).1 hm
   rcases(Qn0 m.Mem h.mem).2 with c|⟨P,hP,hmem⟩
   . exact absurd c g1
   have okm:okS P m:=⟨h.cpu,hmem,h.disk,h.nic,h.bal.1,h.bal.2⟩
   obtain⟨b1,b2,b3,_⟩:=(Tree.pp (Qt3 okm g2)).2
   change Q5j (Q0p m).B2 at b1
   change okS P (Q0p m) at b2
   have be:=Qua h g2.st
   have b1':Q5j (Q0l m):=by have:=b1;rw[be]at this;exact this
   have b2':Q2b (Q0l m):=by have:=b2.cpu;rw[be]at this;exact this
   have ex:=Za3 hmem b2' b1'.st
   rw[be,Zbt,<-Zir hmem b2' b1'.st]
   show ioP (Q4u (Q0l m) m.Mem).2.2=_
   rw[ex];rfl
 . rfl
theorem xaG(d:Q0e)(m:List Int)(e:Q0f):(Q75 d m e).2.1=false->Q75 d m e=(d,false,m):=by
 show Tree.V (Q5u d m e) (λr=>r.2.1=false->r=(d,false,m))
 have no: ∀{p:Prop},true=false->p:=λh=>by cases h
 unfold Q5u
 repeat'(first
   |exact v_lf λ_=>rfl
   |exact v_lf no
   |exact v_an (v_lv λ_ _=>v_lf no)
   |refine v_lv λ_ _=> ?_
   |refine v_an ?_
   |refine v_br (λ_=> ?_) (λ_=> ?_))
theorem qaH(n:Q0q)(m:List Int)(s:List UInt8):(Q76 n m s).2.1=false->Q76 n m s=(n,false,m):=by
 show Tree.V (Q5y n m s) (λr=>r.2.1=false->r=(n,false,m))
 have no: ∀{p:Prop},true=false->p:=λh=>by cases h
 unfold Q5y
 repeat'(first
   |exact v_lf λ_=>rfl
   |exact v_an (v_lv λ_ _=>v_lf no)
   |refine v_lv λ_ _=> ?_
   |refine v_br (λ_=> ?_) (λ_=> ?_))
theorem zak(t:Q0g):(Q67 t).2=false->(Q67 t).1=t:=by
 show Tree.V (Q9d t) (λr=>r.2=false->r.1=t)
 have no: ∀{p:Prop},true=false->p:=λh=>by cases h
 unfold Q9d
 repeat'(first
   |exact v_lf λ_=>rfl
   |exact v_lf no
   |refine v_br (λ_=> ?_) (λ_=> ?_))
theorem xak(c:Q0b)(b:Int):(Qjm c b).2=false->(Qjm c b).1=c:=by
 show Tree.V (Qas c b) (λr=>r.2=false->r.1=c)
 have no: ∀{p:Prop},true=false->p:=λh=>by cases h
 unfold Qas
 exact v_br (λ_=>v_lf λ_=>rfl) (λ_=>v_cn (v_lf no))
theorem zaH(m:Q00)(e:Q0f):(Q0o m e).1=false->(Q0o m e).2=m:=by
 show Tree.V (Q42 m e) (λr=>r.1=false->r.2=m)
 have no: ∀{p:Prop},true=false->p:=λh=>by cases h
 unfold Q42
 repeat'(first
   |exact v_lf λ_=>rfl
   |exact v_lf no
   |exact v_lv λx hx=>v_lf λh=>by rw[hx]at h⊢;rw[zak _ h]
   |exact v_an (v_lv λx hx=>v_lf λh=>by rw[hx]at h⊢;rw[xaG _ _ _ h])
   |exact v_an (v_lv λx hx=>v_lf λh=>by rw[hx]at h⊢;rw[qaH _ _ _ h])
   |exact v_an (v_lv λx hx=>v_lf λh=>by rw[hx]at h⊢;rw[xak _ _ h])
   |refine v_br (λ_=> ?_) (λ_=> ?_))
theorem qal{m:Q00}(h:U m.A2.C2):Q5q m:=by
 show(Q2u m).p
 unfold Tree.p Q2u
 refine w_br (λ_=>w_an ?_ (w_lv λ_ _=>trivial)) (λ_=>trivial)
 show(Q2p m).p
 unfold Tree.p Q2p
 exact Q0d (Zi8 h) λ_ _=>trivial
theorem qL{P:Nat}{m:Q00}(h:okS P m):(Q20 m).w (λ_=>True):=by
 unfold Q20
 exact Q0d (Ze7 h.given) λ_ _=>w_br (λ_=>trivial) (λ_=>Q0d (xS h) λx1 h1=>Q0d (xv h1.cpu h1.mem) λx2 _=>w_br (λ_=>trivial) (λ_=>trivial))
section
variable {P:Nat} {m:Q00} (h:good P m)
include h
theorem good.len:m.Mem.length<=1024:=by have:=h.ok.mem.len;have:=h.ok.mem.p2;omega
theorem good.app(e:Q0f):Q7j m e=((Q0o m e).2,(Q0o m e).1):=by
 rw[Z4f h.v]
 simp only[Qjg,Qis,Tree.m,letv,Z50,h.rmay];rfl
theorem good.step(hs:Q0y m=false)(clock:Int):Q27 m clock=((Q0a m clock).2,(Q0a m clock).1):=by
 rw[Zdv h.v,Z6c,hs];rfl
theorem good.idle:Q37 m=Qc8 m:=Zck h.v
end
theorem Qo1(r:Q01)(e:Q0f):(Q1t r e).C4.length<=r.C4.length+1:=by
 unfold Q1t
 cases(Q0o r.A0 e).1
 . exact Nat.le_succ _
 . show(r.C4++[_]).length<=_
   rw[List.length_append,List.length_singleton];omega
theorem yl(r:Q01):(Q40 r).C4.length<=r.C4.length+1:=by
 unfold Q40
 cases Q7i r.A0.B0 r.A9
 . exact Nat.le_succ _
 . exact Qo1 _ _
theorem vl(r:Q01):(Z6z r).C4.length<=r.C4.length+1:=by
 unfold Z6z
 cases Q0t r.A0
 . exact Nat.le_succ _
 . show(r.C4++[_]).length<=_
   rw[List.length_append,List.length_singleton];omega
theorem Zk0{P:Nat}{m:Q00}(h:good P m):Q0y m=bif m.A7 then true else bif Q37 m then true else m.A1==1152921504606846976:=by
 have hc:=((Qjd m).1 h.may).2.2.1
 have e:decide (m.A1>=1152921504606846976)=(m.A1==1152921504606846976):=by
   by_cases g:m.A1=1152921504606846976
   . rw[g];rfl
   . rw[show(m.A1==1152921504606846976)=false from beq_false_of_ne g,decide_eq_false (by omega)]
 rw[h.idle,<-e]
 simp only[Q0y,Q71,Tree.m,letv,h.rmay];rfl
theorem Qys{r:Q01}(hr:Q0t r.A0=true):Qif r={A0:=(Q0a r.A0 r.A9).2,A9:=IntKind.wrap .u32 (r.A9+1),C4:=r.C4++[{At:=r.A0.A1,C6:={B5:=1,N:=r.A9,C8:=[]}}],A6:=r.A6}:=by
 unfold Qif Z6z;rw[hr];rfl
theorem Zgf{r:Q01}(hr:Q0t r.A0=false):Qif r={A0:=(Q0a r.A0 r.A9).2,A9:=IntKind.wrap .u32 (r.A9+1),C4:=r.C4,A6:=r.A6}:=by
 unfold Qif Z6z;rw[hr];rfl
theorem Zdn(r:Q01):(Qif r).C4.length<=r.C4.length+1:=vl r
def Qpm:Q0f:={B5:=2,N:=0,C8:=[]}
theorem Zfn(m:Q00):Q0o m Qpm=bif m.A7 then(false,m) else((Q67 m.B0).2,{B2:=m.B2,Mem:=m.Mem,A3:=m.A3,B0:=(Q67 m.B0).1,B1:=m.B1,C5:=m.C5,A2:=m.A2,A1:=m.A1,A4:=m.A4,A7:=m.A7}):=rfl
theorem qm(t:Q0g):(Q67 t).2=true->(Q67 t).1.D2=false:=by
 show Tree.V (Q9d t) (λr=>r.2=true->r.1.D2=false)
 unfold Q9d
 exact v_br (λ_=>v_lf λh=>by cases h) (λ_=>v_lf λ_=>rfl)
theorem xm{t:Q0g}{c:Int}(h:t.D2=false):Q7i t c=false:=by
 simp only[Q7i,Qvh,Tree.m,h];rfl
theorem Z07{r:Q01}{e:Q0f}(h:(Q0o r.A0 e).1=false):Q1t r e=r:=by
 unfold Q1t;rw[h,zaH _ _ h];rfl
theorem Qmp(r:Q01):Q40 r=bif Q7i r.A0.B0 r.A9 then Q1t r Qpm else r:=rfl
theorem zm{r:Q01}(h:Q7i r.A0.B0 r.A9=false):Q40 r=r:=by rw[Qmp,h];rfl
theorem Zbf(r:Q01)(o:List Q02):recF 0 r o=(r,o):=rfl
theorem Qul{n:Nat}{r:Q01}{o:List Q02}(hs:Q0y (Q40 r).A0=true):recF (n+1) r o=(Q40 r,o):=by
 conv=>lhs;unfold recF
 rw[hs];rfl
theorem Qti{n:Nat}{r:Q01}{o:List Q02}(hs:Q0y (Q40 r).A0=false):recF (n+1) r o=recF n (Qif (Q40 r)) (o++(Q0a (Q40 r).A0 (Q40 r).A9).1):=by
 conv=>lhs;unfold recF
 rw[hs];rfl
theorem xL(n:Nat): ∀(r:Q01) (o:List Q02),recF n r o=((recF n r []).1,o++(recF n r []).2):=by
 induction n with
 |zero=>intro r o;rw[Zbf,Zbf,List.append_nil]
 | succ n ih=>
   intro r o
   cases hs:Q0y (Q40 r).A0
   . rw[Qti hs,Qti hs,ih,ih (Qif (Q40 r)) ([]++_),List.nil_append,List.append_assoc]
   . rw[Qul hs,Qul hs,List.append_nil]
theorem Z08{r:Q01}(h:Q7b r.A0=true)(steps clock:Int):advF r steps clock=recF (Q13 steps).toNat (noQ (r.A6.foldl Q1t {A0:=r.A0,A9:=if clock>r.A9 then clock else r.A9,C4:=r.C4,A6:=r.A6})) []:=by
 unfold advF;rw[h];rfl
theorem Qvb{s:Int}(h0:0<=s)(h1:s<=4000):Q13 s=s:=by
 have:Q13 s=(if 4000<(if 0>s then 0 else s) then 4000 else(if 0>s then 0 else s)):=rfl
 rw[this,if_neg (show¬0>s by omega),if_neg (show¬4000<s by omega)]
set_option synthInstance.maxHeartbeats 2000000
set_option synthInstance.maxSize 100000
noncomputable section
instance Qx7 (s:(List Int)):Ck (Q06 s):=let d:Decidable (Q06 s):=(by delta Q06;infer_instance);⟨@decide _ d,@of_decide_eq_true _ d⟩
instance Zlq (m:(List Int)) (addr:Int) (size:Int):Ck (Q9j m addr size):=ckT (t:=Q2x m addr size) (by delta Q2x;infer_instance)
instance zW (n:Int):Ck (Qfn n):=ckT (t:=Qat n) (by delta Qat;infer_instance)
instance zL (w:Int) (low:Int) (n:Int):Ck (Q5 w low n):=ckT (t:=Q96 w low n) (by delta Q96;infer_instance)
instance yL (w:Int):Ck (Qj2 w):=ckT (t:=Q6y w) (by delta Q6y;infer_instance)
instance yC (m:(List Int)) (addr:Int) (size:Int):Ck (Q2v m addr size):=ckT (t:=Q63 m addr size) (by delta Q63;infer_instance)
instance vC (c:Q04) (m:(List Int)) (va:Int) (size:Int) (access:Int):Ck (Q9b c m va size access):=ckT (t:=Q5x c m va size access) (by delta Q5x;infer_instance)
instance yW (c:Q04) (m:(List Int)):Ck (Qks c m):=ckT (t:=Qaq c m) (by delta Qaq;infer_instance)
instance zal (c:Q04) (m:(List Int)):Ck (Qik c m):=ckT (t:=Q6w c m) (by delta Q6w;infer_instance)
instance Zhe (x:Int):Ck (Qb x):=ckT (t:=Q1n x) (by delta Q1n;infer_instance)
instance qD (b:Q07) (pages:Int):Ck (Qbm b pages):=ckT (t:=Q3n b pages) (by delta Q3n;infer_instance)
instance Zac (m:Q00):Ck (Q2h m):=ckT (t:=Q1k m) (by delta Q1k;infer_instance)
instance xD (m:Q00):Ck (Q56 m):=ckT (t:=Q4t m) (by delta Q4t;infer_instance)
instance ym (m:Q00):Ck (Q5q m):=ckT (t:=Q2u m) (by delta Q2u;infer_instance)
instance vm (m:Q00):Ck (Qam m):=ckT (t:=Q3r m) (by delta Q3r;infer_instance)
instance Zlr (m:Q00):Ck (Q9x m):=ckT (t:=Q2l m) (by delta Q2l;infer_instance)
instance qn (m:Q00) (clock:Int):Ck (Q7p m clock):=ckT (t:=Q2k m clock) (by delta Q2k;infer_instance)
instance xal (pages:Int):Ck (Qed pages):=ckT (t:=Qdj pages) (by delta Qdj;infer_instance)
instance qam (pages:Int) (blocks:Int) (image:(List Int)):Ck (Q9 pages blocks image):=ckT (t:=Q88 pages blocks image) (by delta Q88;infer_instance)
instance Z9q (m:Q00):Ck (Q39 m):=ckT (t:=Q20 m) (by delta Q20;infer_instance)
instance xn (script:(List Q0m)):Ck (Q35 script):=let d:Decidable (Q35 script):=(by delta Q35;infer_instance);⟨@decide _ d,@of_decide_eq_true _ d⟩
instance vL (m:Q00) (script:(List Q0m)) (until0:Int):Ck (Qjb m script until0):=ckT (t:=Q8x m script until0) (by delta Q8x;infer_instance)
instance zam (m:Q00) (script:(List Q0m)) (until0:Int):Ck (Q94 m script until0):=ckT (t:=Qbf m script until0) (by delta Qbf;infer_instance)
instance Qwc (b:(List Int)) (s:(List UInt8)):Ck (Q3f b s):=ckT (t:=Q2 b s) (by delta Q2;infer_instance)
instance Qwx (s:(List (List UInt8))):Ck (Q19 s):=let d:Decidable (Q19 s):=(by delta Q19;infer_instance);⟨@decide _ d,@of_decide_eq_true _ d⟩
instance xam (disk:(List (List UInt8))) (l:(List Q02)):Ck (Qmi disk l):=ckT (t:=Qju disk l) (by delta Qju;infer_instance)
theorem zn:Q6u:=ck (ckT (t:=Qce) (by delta Qce;infer_instance)) (by kernel_rfl)
theorem Zkx:Qd=true:=by kernel_rfl
theorem aw13{W:Bool->Prop}(h:W true):(Tree.an Q6u (.lv Qd λx=> .lf x)).w W:=w_an zn (w_lv λx e=>by show W x;rw[e,Zkx];exact h)
end
structure Qm4(P:Nat)(k:Int)(r:Q01):Prop where
 g:Q8k P k r
 q:okQ r.A6
 l:(r.C4.length:Int)<=3*k
theorem qM(n:Nat): ∀(r:Q01) (o:List Q02),(recF n r o).1.C4.length<=r.C4.length+2*n:=by
 induction n with
 |zero=>intro r o;exact Nat.le_refl _
 | succ n ih=>
   intro r o
   have f:=yl r
   cases hs:Q0y (Q40 r).A0
   . rw[Qti hs]
     have:=ih (Qif (Q40 r)) (o++(Q0a (Q40 r).A0 (Q40 r).A9).1)
     have:=Zdn (Q40 r)
     omega
   . rw[Qul hs]
     show(Q40 r).C4.length<=_
     omega
theorem yn(l:List Q0f): ∀r:Q01,(l.foldl Q1t r).C4.length<=r.C4.length+l.length:=by
 induction l with
 |nil=>intro r;exact Nat.le_refl _
 | cons e l ih=>
   intro r
   have:=ih (Q1t r e)
   have:=Qo1 r e
   rw[List.foldl_cons,List.length_cons];omega
theorem xM(r:Q01)(steps clock:Int):(advF r steps clock).1.C4.length<=r.C4.length+r.A6.length+8000:=by
 obtain⟨l0,l1⟩:=Qs2 steps
 cases hm:Q7b r.A0
 . unfold advF;rw[hm]
   show r.C4.length<=_
   omega
 . rw[Z08 hm]
   have a:=qM (Q13 steps).toNat (noQ (r.A6.foldl Q1t {A0:=r.A0,A9:=if clock>r.A9 then clock else r.A9,C4:=r.C4,A6:=r.A6})) []
   have b:=yn r.A6 {A0:=r.A0,A9:=if clock>r.A9 then clock else r.A9,C4:=r.C4,A6:=r.A6}
   have b:(noQ (r.A6.foldl Q1t {A0:=r.A0,A9:=if clock>r.A9 then clock else r.A9,C4:=r.C4,A6:=r.A6})).C4.length<=r.C4.length+r.A6.length:=b
   omega
theorem Zev{P:Nat}{k:Int}{r:Q01}(h:Q8k P k r)(hu: ∀q∈r.A6,U q.N){clock:Int}(hc:U clock):Q8k P k (noQ (r.A6.foldl Q1t {A0:=r.A0,A9:=if clock>r.A9 then clock else r.A9,C4:=r.C4,A6:=r.A6})):=by
 have hcl:U (if clock>r.A9 then clock else r.A9):=by split<;>first|exact hc|exact h.clock
 obtain⟨a,b⟩:=Z5f r.A6 (r:={A0:=r.A0,A9:=if clock>r.A9 then clock else r.A9,C4:=r.C4,A6:=r.A6}) ⟨h.m,hcl,h.cnt⟩ hu
 exact⟨a.m,a.clock,a.cnt⟩
theorem Qur{P:Nat}{k:Int}{r:Q01}(h:Q8k P k r)(hq:okQ r.A6){clock:Int}(hc:U clock):Q8k P k (noQ (r.A6.foldl Q1t {A0:=r.A0,A9:=if clock>r.A9 then clock else r.A9,C4:=r.C4,A6:=r.A6})):=Zev h hq.2 hc
theorem advP{P:Nat}{k:Int}{r:Q01}(h:Qm4 P k r)(steps:Int){clock:Int}(hc:U clock):Qm4 P (k+4000) (advF r steps clock).1:=by
 obtain⟨a,b⟩:=zk h.g h.q steps hc
 have c:=xM r steps clock
 have d:=h.q.1
 have e:=h.l
 exact⟨a,b,by omega⟩
theorem arriveP{P:Nat}{k:Int}{r:Q01}(h:Qm4 P k r){e:Q0f}(he:U e.N):Qm4 P k (Q2g r e).1:=by
 obtain⟨a,b⟩:=Zft h.g h.q he
 refine⟨a,b,?_⟩
 have:=h.l
 rw[Qkg]
 cases Q2n e<;>cases e.B5==1<;>cases decide ((r.A6.length:Int)>=16)<;>exact this
theorem Qm4.more{P:Nat}{k j:Int}{r:Q01}(h:Qm4 P k r)(hj:k<=j):Qm4 P j r:=
 ⟨⟨h.g.m,h.g.clock,by have:=h.g.cnt;omega⟩,h.q,by have:=h.l;omega⟩
theorem xaH{P:Nat}{k:Int}{A:Q01×Bool}(h:Qm4 P k A.1):Qm4 P (k+4000) (A.1,([]:List Q02)).1:=h.more (by omega)
theorem mstepP{P:Nat}{k:Int}{r:Q01}(h:Qm4 P k r)(n:Int):Qm4 P (k+4000) (Q3b r n).1:=by
 cases hm:Int.tmod (Q2y n 3) 3==0
 . rw[Qrj hm,Qr1 _ _ _ (by have:=h.q.1;omega)]
   exact advP h _ (Q0s _)
 . rw[Qrg hm]
   exact xaH (arriveP h (yk n))
theorem qaI{α β:Type}(a:α)(b:β):(a,b).1=a:=rfl
theorem Qn8(s:Q01×List Q02)(n:Int):(Qj7 s n).1=(Q3b s.1 n).1:=(congrArg Prod.fst (Za s n)).trans (qaI _ _)
theorem playP{P:Nat}(l:List Int){k:Int}{s:Q01×List Q02}(h:Qm4 P k s.1):Qm4 P (k+4000*l.length) (l.foldl Qj7 s).1:=
 vk (f:=Qj7) (I:=λk s=>Qm4 P k s.1) (λk s n h=>by rw[Qn8];exact mstepP h n) l k s h
theorem newP{P:Nat}{m:Q00}(h:good P m)(hc:m.A1<=87):Qm4 P 87 {A0:=m,A9:=0,C4:=[],A6:=[]}:=
 ⟨⟨h,U_0,hc⟩,⟨Nat.zero_le _,λq hq=>by cases hq⟩,by show((0:Nat):Int)<=_;omega⟩
theorem yM{l acts:List Int}{x0:Bool}(hx0:x0=Qr2 l acts)(hb:(!x0)=false):l.length<=40/\acts.length<=30:=qaj hx0 hb
theorem qan{kind:Int}{l acts:List Int}(hl:l.length*8<=reachBytes)(h40:l.length<=40)(h30:acts.length<=30){β:Type}{W:β->Prop}{k:Q00->Q01×List Q02->Tree β}
   (g: ∀m x,m=Qbg kind l->good 8 m->m.A1<=87->x=acts.foldl Qj7 ({A0:=m,A9:=0,C4:=[],A6:=[]},[])->Qm4 8 121000 x.1->(k m x).w W):
   (Tree.an (Qf2 kind l) (.lv (Qbg kind l) λm=> .an (Qlj m acts) (.lv (Qr5 m acts) λx=>k m x))).w W:=by
 obtain⟨a,b⟩:=Zd2 kind l hl h40
 refine w_an (Tree.pp (xe kind l hl)).1 (w_lv λm hm=> ?_)
 rw[<-hm]at a b
 refine w_an (Tree.pp (xaA a.ok acts h30)).1 (w_lv λx hx=> ?_)
 rw[qak _ _ (by omega),ql]at hx
 refine g m x hm a b hx ?_
 have:=playP acts (s:=({A0:=m,A9:=0,C4:=[],A6:=[]},[])) (newP a b)
 rw[hx]
 exact this.more (by omega)
theorem and255i(a:Int):0<=iand .i64 a 255/\iand .i64 a 255<=255:=by
 unfold iand
 rw[IntKind.wrap_i64]
 have:(BitVec.ofInt IntKind.i64.bits a&&&BitVec.ofInt IntKind.i64.bits 255).toNat<=255:=by
   show(BitVec.ofInt 64 a&&&BitVec.ofInt 64 255).toNat<=255
   rw[BitVec.toNat_and]
   exact Nat.le_trans Nat.and_le_right (by decide)
 omega
theorem Zei(a:Int):0<=IntKind.wrap .u32 (iand .i64 a 255)/\IntKind.wrap .u32 (iand .i64 a 255)<=255:=by
 have:=and255i a
 rw[IntKind.wrap_u32];omega
theorem Zj0(n k:Int)(h0:0<=k)(h1:k<=1000):(Qsz n k).length=k.toNat:=by
 show Tree.V (Qd7 n k) (λs=>s.length=k.toNat)
 unfold Qd7
 refine v_lp (inv:=λv:Int×List Int=>0<=v.1/\v.1<=k/\v.2.length=v.1.toNat) (μ:=Qc1 n k) ⟨Int.le_refl 0,h0,rfl⟩ (Nat.lt_succ_self _) λv ⟨a,b,c⟩=> ?_
 refine v_br (λhb=> ?_) (λhb=> ?_)
 . have hb:=of_decide_eq_true hb
   have e:IntKind.i64.wrap (v.1+1)=v.1+1:=by rw[IntKind.wrap_i64];omega
   refine v_lv λx _=>v_cn (v_nx ?_)
   show(0<=IntKind.i64.wrap (v.1+1)/\IntKind.i64.wrap (v.1+1)<=k/\(v.2++[_]).length=(IntKind.i64.wrap (v.1+1)).toNat)/\(k-IntKind.i64.wrap (v.1+1)).toNat<(k-v.1).toNat
   rw[e,List.length_append,List.length_singleton]
   exact⟨⟨by omega,by omega,by omega⟩,by omega⟩
 . have hb:=of_decide_eq_false hb
   refine v_lf ?_
   show(bytesOf v.2).length=_
   unfold bytesOf
   rw[List.length_map,c];omega
theorem zan(n k:Int):0<=Q2y n k:=by
 show Tree.V (Qoh n k) (λx=>0<=x)
 unfold Qoh
 refine v_lv λx hx=>v_lf ?_
 have r:0<=x.1/\x.1<18446744073709551616:=by
   rw[hx]
   show 0<=IntKind.wrap .u64 _/\IntKind.wrap .u64 _<_
   rw[IntKind.wrap_u64];omega
 show 0<=IntKind.wrap .i64 (x.1.fdiv 2)
 rw[Int.fdiv_eq_ediv_of_nonneg _ (by decide),IntKind.wrap_i64];omega
def evOK(e:Q0f):Prop:=Q2n e=true/\e.B5≠1
theorem Z4b:evOK Qpm:=⟨rfl,by decide⟩
theorem Zb0{n:Int}(h:n<=255):Q2n {B5:=3,N:=n,C8:=[]}=true:=by
 show(bif decide (n<=255) then decide (([]:List UInt8)=[]) else false)=true
 rw[decide_eq_true h];rfl
theorem Zk7{s:List UInt8}(h:s.length=128):Q2n {B5:=4,N:=1,C8:=s}=true:=by
 show(bif decide (s=[]) then true else(s.length:Int)==128)=true
 rw[h];cases decide (s=[])<;>rfl
theorem vn{s:List UInt8}(h1:1<=s.length)(h2:s.length<=128):Q2n {B5:=5,N:=0,C8:=s}=true:=by
 show(bif decide ((s.length:Int)>=1) then decide ((s.length:Int)<=128) else false)=true
 rw[decide_eq_true (show(s.length:Int)>=1 by omega),decide_eq_true (show(s.length:Int)<=128 by omega)];rfl
theorem vM(n:Int):evOK (Q44 n):=by
 show Tree.V (Q8u n) evOK
 unfold Q8u
 refine v_lv λx hx=> ?_
 have x0:0<=x:=by rw[hx];exact zan n 2
 have i2: ∀k:Int,k≠1-> ¬k=1:=λ_ h=>h
 refine v_br (λ_=>v_lf ⟨rfl,by decide⟩) λ_=>v_br (λ_=>v_lf ⟨Zb0 (Zei _).2,by show(3:Int)≠1;decide⟩) λ_=>v_br (λ_=>v_lf ⟨Zb0 (Zei _).2,by show(3:Int)≠1;decide⟩) λ_=>v_br (λ_=>v_lf ⟨rfl,by decide⟩) λ_=>v_br (λ_=>v_an (v_lv λy hy=>v_lf ⟨Zk7 ?_,by show(4:Int)≠1;decide⟩)) λ_=>v_br (λ_=>v_an (v_lv λy hy=>v_lf ⟨?_,by show(5:Int)≠1;decide⟩)) λ_=>v_br (λ_=>v_lf ⟨rfl,by decide⟩) λ_=>v_lf ⟨rfl,by show(6:Int)≠1;decide⟩
 . rw[hy,Zj0 _ _ (by decide) (by decide)];rfl
 . have s0:0<=ishr .i64 x 8:=by
     unfold ishr
     exact Int.fdiv_nonneg x0 (Int.le_of_lt (Int.pow_pos (by decide)))
   have t1:=Int.tmod_lt_of_pos (ishr .i64 x 8) (b:=40) (by decide)
   have t0:=Int.tmod_nonneg 40 s0
   have e:IntKind.i64.wrap (1+Int.tmod (ishr .i64 x 8) 40)=1+Int.tmod (ishr .i64 x 8) 40:=by rw[IntKind.wrap_i64];omega
   rw[e]at hy
   have:=Zj0 x (1+Int.tmod (ishr .i64 x 8) 40) (by omega) (by omega)
   rw[<-hy]at this
   exact vn (by omega) (by omega)
structure Qjr(c0:Int)(r:Q01):Prop where
 pw:r.C4.Pairwise λa b=>a.At<=b.At/\(a.C6.B5=1->a.At<b.At/\(b.C6.B5=1->a.C6.N<=b.C6.N))
 all: ∀e∈r.C4,c0<=e.At/\e.At<=r.A0.A1/\Q2n e.C6=true/\(e.C6.B5=1->e.At<r.A0.A1/\e.C6.N<r.A9/\0<=e.C6.N)
 q: ∀e∈r.A6,evOK e
 c:c0<=r.A0.A1
theorem Qjr.with{c0:Int}{r x:Q01}(h:Qjr c0 r)(hl:x.C4=r.C4)(hm:x.A0.A1=r.A0.A1)(hc:r.A9<=x.A9)(hq: ∀e∈x.A6,evOK e):Qjr c0 x:=
 ⟨by rw[hl];exact h.pw,by
   rw[hl,hm]
   exact λe he=>⟨(h.all e he).1,(h.all e he).2.1,(h.all e he).2.2.1,λk=>⟨((h.all e he).2.2.2 k).1,by have:=((h.all e he).2.2.2 k).2.1;omega,((h.all e he).2.2.2 k).2.2⟩⟩,hq,by rw[hm];exact h.c⟩
theorem Zdc{P:Nat}{k c0:Int}{r:Q01}(h:Qjr c0 r)(g:Q8k P k r){e:Q0f}(he:evOK e)(hu:U e.N):Qjr c0 (Q1t r e):=by
  obtain⟨a,b⟩:=Qiv g.m hu
  unfold Q1t
  cases(Q0o r.A0 e).1
  . exact h.with rfl b (Int.le_refl _) h.q
  . show Qjr c0 {A0:=(Q0o r.A0 e).2,A9:=r.A9,C4:=r.C4++[{At:=(Q0o r.A0 e).2.A1,C6:=e}],A6:=r.A6}
    rw[b]
    refine⟨List.pairwise_append.2 ⟨h.pw,List.pairwise_singleton _ _,λx hx y hy=> ?_⟩,λx hx=> ?_,h.q,by show c0<=(Q0o r.A0 e).2.A1;rw[b];exact h.c⟩
    . rw[List.mem_singleton.1 hy]
      obtain⟨p1,p2,p3,p4⟩:=h.all x hx
      exact⟨p2,λkx=>⟨(p4 kx).1,λke=>absurd ke he.2⟩⟩
    . show c0<=x.At/\x.At<=(Q0o r.A0 e).2.A1/\_/\(_->x.At<(Q0o r.A0 e).2.A1/\_)
      rw[b]
      rcases List.mem_append.1 hx with hx|hx
      . exact h.all x hx
      . rw[List.mem_singleton.1 hx]
        exact⟨h.c,Int.le_refl _,he.1,λke=>absurd ke he.2⟩
theorem qN{P:Nat}{k c0:Int}{r:Q01}(h:Qjr c0 r)(g:Q8k P k r):Qjr c0 (Q40 r):=by
 rw[Qmp]
 cases Q7i r.A0.B0 r.A9
 . exact h
 . exact Zdc h g Z4b U_0
theorem xN{P:Nat}{k c0:Int}{r:Q01}(h:Qjr c0 r)(g:Q8k P k r)(hs:Q0y r.A0=false)(hc:r.A9<4294967295):Qjr c0 (Qif r)/\(Qif r).A9=r.A9+1:=by
  obtain⟨_,b,_⟩:=Q8i g.m hs g.clock
  have c0':=g.clock.1
  have ec:IntKind.wrap .u32 (r.A9+1)=r.A9+1:=by rw[IntKind.wrap_u32];omega
  have old: ∀x∈r.C4,c0<=x.At/\x.At<=r.A0.A1+1/\Q2n x.C6=true/\(x.C6.B5=1->x.At<r.A0.A1+1/\x.C6.N<r.A9+1/\0<=x.C6.N):=λx hx=>by
    obtain⟨p1,p2,p3,p4⟩:=h.all x hx
    exact⟨p1,by omega,p3,λkx=>⟨by have:=(p4 kx).1;omega,by have:=(p4 kx).2.1;omega,(p4 kx).2.2⟩⟩
  have hcc:=h.c
  cases hr:Q0t r.A0
  . rw[Zgf hr,ec]
    refine⟨⟨h.pw,?_,h.q,by show c0<=(Q0a r.A0 r.A9).2.A1;omega⟩,rfl⟩
    show∀x∈r.C4,c0<=x.At/\x.At<=(Q0a r.A0 r.A9).2.A1/\_/\(_->x.At<(Q0a r.A0 r.A9).2.A1/\_)
    rw[b];exact old
  . rw [Qys hr,ec]
    refine⟨⟨List.pairwise_append.2 ⟨h.pw,List.pairwise_singleton _ _,λx hx y hy=> ?_⟩,?_,h.q,by show c0<=(Q0a r.A0 r.A9).2.A1;omega⟩,rfl⟩
    . rw[List.mem_singleton.1 hy]
      obtain⟨p1,p2,p3,p4⟩:=h.all x hx
      exact⟨p2,λkx=>⟨(p4 kx).1,λ_=>Int.le_of_lt (p4 kx).2.1⟩⟩
    . show∀x∈r.C4++[_],c0<=x.At/\x.At<=(Q0a r.A0 r.A9).2.A1/\_/\(_->x.At<(Q0a r.A0 r.A9).2.A1/\_)
      rw[b]
      intro x hx
      rcases List.mem_append.1 hx with hx|hx
      . exact old x hx
      . rw[List.mem_singleton.1 hx]
        exact⟨h.c,by show r.A0.A1<=_;omega,rfl,λ_=>⟨by show r.A0.A1<_;omega,by show r.A9<r.A9+1;omega,c0'⟩⟩
theorem Zh7(r:Q01):(Q40 r).A9=r.A9:=by
 rw[Qmp]
 cases Q7i r.A0.B0 r.A9
 . rfl
 . show(Q1t r Qpm).A9=r.A9
   unfold Q1t;cases(Q0o r.A0 Qpm).1<;>rfl
theorem Zaw(r:Q01)(e:Q0f):(Q1t r e).A9=r.A9:=by
 unfold Q1t;cases(Q0o r.A0 e).1<;>rfl
theorem xan{P:Nat}{c0:Int}(n:Nat): ∀{k B:Int} {r:Q01} {o:List Q02},Qjr c0 r->Q8k P k r->r.A9<=B->B+n<4294967295->Qjr c0 (recF n r o).1/\(recF n r o).1.A9<=B+n:=by
 induction n with
 |zero=>intro k B r o h g hb _;exact⟨h,by show r.A9<=B+(0:Nat);omega⟩
 | succ n ih=>
   intro k B r o h g hb hn
   have f:=qN h g
   obtain⟨gf,_⟩:=Qof g
   have fc:=Zh7 r
   cases hs:Q0y (Q40 r).A0
   . rw[Qti hs]
     obtain⟨t1,t2⟩:=xN f gf hs (by omega)
     have:=ih (o:=o++(Q0a (Q40 r).A0 (Q40 r).A9).1) t1 (Qon gf hs) (B:=B+1) (by omega) (by omega)
     exact⟨this.1,by have:=this.2;omega⟩
   . rw[Qul hs]
     exact⟨f,by show(Q40 r).A9<=_;omega⟩
theorem zN{P:Nat}{k c0:Int}(l:List Q0f): ∀{r:Q01},Qjr c0 r->Q8k P k r->(∀e∈l,evOK e/\U e.N)->Qjr c0 (l.foldl Q1t r)/\(l.foldl Q1t r).A9=r.A9/\Q8k P k (l.foldl Q1t r):=by
 induction l with
 |nil=>intro r h g _;exact⟨h,rfl,g⟩
 | cons e l ih=>
   intro r h g hu
   obtain⟨a,b⟩:=hu e (by simp)
   obtain⟨p,q,s⟩:=ih (Zdc h g a b) (Ql5 g b).1 (λq hq=>hu q (by simp [hq]))
   exact⟨p,q.trans (Zaw r e),s⟩
theorem qao{P:Nat}{k c0 B:Int}{r:Q01}(h:Qjr c0 r)(g:Q8k P k r)(hq:okQ r.A6){steps clock:Int}(hb:r.A9<=B)(hc0:0<=clock)(hc:clock<=B)(hs:0<=steps/\steps<12)(hB:B<1000000000):Qjr c0 (advF r steps clock).1/\(advF r steps clock).1.A9<=B+12:=by
 rw[Z08 g.m.rmay,Qvb hs.1 (by omega)]
 have m0:r.A9<=(if clock>r.A9 then clock else r.A9)/\(if clock>r.A9 then clock else r.A9)<=B:=by split<;>omega
 generalize(if clock>r.A9 then clock else r.A9)=cl at*
 have u:U cl:=by have:=g.clock;unfold U at*;omega
 obtain⟨a,b,c⟩:=zN r.A6 (r:={A0:=r.A0,A9:=cl,C4:=r.C4,A6:=r.A6}) (h.with rfl rfl m0.1 h.q) ⟨g.m,u,g.cnt⟩ (λe he=>⟨h.q e he,hq.2 e he⟩)
 have b:(r.A6.foldl Q1t {A0:=r.A0,A9:=cl,C4:=r.C4,A6:=r.A6}).A9=cl:=b
 generalize r.A6.foldl Q1t {A0:=r.A0,A9:=cl,C4:=r.C4,A6:=r.A6}=y at*
 have:=xan steps.toNat (o:=[]) (r:=noQ y) (B:=B) (a.with rfl rfl (Int.le_refl _) (λe he=>by cases he)) (k:=k) ⟨c.m,c.clock,c.cnt⟩ (by show y.A9<=B;omega) (by omega)
 exact⟨this.1,by have:=this.2;omega⟩
theorem zao{c0:Int}{r:Q01}(h:Qjr c0 r){e:Q0f}(he:evOK e):Qjr c0 (Q2g r e).1/\(Q2g r e).1.A9=r.A9:=by
  rw[Qkg]
  cases Q2n e
  . exact⟨h,rfl⟩
  . cases e.B5==1
    . cases decide ((r.A6.length:Int)>=16)
      . refine⟨h.with rfl rfl (Int.le_refl _) λq hq=> ?_,rfl⟩
        have hq:q∈r.A6++[e]:=hq
        rcases List.mem_append.1 hq with hq|hq
        . exact h.q q hq
        . rw[List.mem_singleton.1 hq];exact he
      . exact⟨h,rfl⟩
    . exact⟨h,rfl⟩
structure logP(c0 k B:Int)(r:Q01):Prop where
 p:Qm4 8 k r
 l:Qjr c0 r
 b:r.A9<=B
theorem yN{c0 k B:Int}{A:Q01×Bool}(p:Qm4 8 k A.1)(a:Qjr c0 A.1)(b:A.1.A9<=B):logP c0 k B (A.1,([]:List Q02)).1:=⟨p,a,b⟩
theorem Qo3{c0 k B:Int}{r:Q01}(h:logP c0 k B r)(h255:255<=B)(hB:B<1000000000)(n:Int):logP c0 (k+4000) (B+12) (Q3b r n).1:=by
 have p:=mstepP h.p n
 have hb:=h.b
 cases hm:Int.tmod (Q2y n 3) 3==0
 . have rr:=Qld (n:=ishr .i64 (Q2y n 3) 4) (k:=12) (by decide) (by decide)
   have w:=Zei (ishr .i64 (Q2y n 3) 12)
   rw[Qrj hm,Qr1 _ _ _ (by have:=h.p.q.1;omega)]at p⊢
   obtain⟨a,b⟩:=qao h.l h.p.g h.p.q (steps:=Q46 (ishr .i64 (Q2y n 3) 4) 12) (clock:=IntKind.wrap .u32 (iand .i64 (ishr .i64 (Q2y n 3) 12) 255)) hb w.1 (by omega) rr hB
   exact⟨p,a,b⟩
 . have hb':r.A9<=B+12:=by omega
   obtain⟨a,b⟩:=zao h.l (vM n)
   rw[Qrg hm]
   exact yN (A:=Q2g r (Q44 n)) ((arriveP h.p (yk n)).more (Int.le_add_of_nonneg_right (by decide))) a (Int.le_trans (Int.le_of_eq b) hb')
theorem qo{c0:Int}(l:List Int): ∀{k B:Int} {s:Q01×List Q02},logP c0 k B s.1->255<=B->B+12*l.length<1000000000->logP c0 (k+4000*l.length) (B+12*l.length) (l.foldl Qj7 s).1:=by
 induction l with
 |nil=>intro k B s h _ _;simpa using h
 | cons n l ih=>
   intro k B s h h1 h2
   have e:((n::l).length:Int)=l.length+1:=by rw[List.length_cons];omega
   rw[e]at h2⊢
   have a:=Qo3 h h1 (by omega) n
   rw[<-Qn8]at a
   have:=ih a (by omega) (by omega)
   rw[List.foldl_cons,show k+4000*((l.length:Int)+1)=k+4000+4000*l.length by omega,show B+12*((l.length:Int)+1)=B+12+12*l.length by omega]
   exact this
theorem vN{m:Q00}(h:good 8 m)(hc:m.A1<=87):logP m.A1 87 255 {A0:=m,A9:=0,C4:=[],A6:=[]}:=
 ⟨newP h hc,⟨List.Pairwise.nil,(λe he=>by cases he),(λe he=>by cases he),Int.le_refl _⟩,by show(0:Int)<=255;decide⟩
inductive Q7r:Q00->List Q0m->List Q02->Q00->Prop
 |nil {m:Q00}:Q7r m [] [] m
 |ev {m n:Q00} {e:Q0f} {L:List Q0m} {o:List Q02}:True->e.B5≠1->U e.N->Q7r (Q0o m e).2 L o n->Q7r m ({At:=m.A1,C6:=e}::L) o n
 |rd {m n:Q00} {c:Int} {L:List Q0m} {o:List Q02}:Q0y m=false->Q0t m=true->U c->Q7r (Q0a m c).2 L o n->Q7r m ({At:=m.A1,C6:={B5:=1,N:=c,C8:=[]}}::L) ((Q0a m c).1++o) n
 |st {m n:Q00} {c:Int} {L:List Q0m} {o:List Q02}:Q0y m=false->Q0t m=false->U c->Q7r (Q0a m c).2 L o n->Q7r m L ((Q0a m c).1++o) n
theorem Q7r.trans{a b c:Q00}{L M:List Q0m}{o p:List Q02}(h:Q7r a L o b)(g:Q7r b M p c):Q7r a (L++M) (o++p) c:=by
 induction h with
 |nil=>exact g
 |ev h1 h2 h3 _ ih=>exact .ev h1 h2 h3 (ih g)
 |rd h1 h2 h3 _ ih=>rw[List.append_assoc];exact .rd h1 h2 h3 (ih g)
 |st h1 h2 h3 _ ih=>rw[List.append_assoc];exact .st h1 h2 h3 (ih g)
theorem Q7r.good{P:Nat}{a b:Q00}{L:List Q0m}{o:List Q02}(h:Q7r a L o b):good P a->good P b/\a.A1<=b.A1/\ ∀e∈L,a.A1<=e.At:=by
 induction h with
 |nil=>exact λg=>⟨g,Int.le_refl _,λe he=>by cases he⟩
 | ev h1 h2 h3 _ ih=>
   intro g
   obtain⟨g1,c1⟩:=Qiv g h3
   obtain⟨p,q,r⟩:=ih g1
   rw[c1]at q r
   exact⟨p,q,λe he=>(List.mem_cons.1 he).elim (λh=>by rw[h];exact Int.le_refl _) (λh=>r e h)⟩
 | rd h1 h2 h3 _ ih=>
   intro g
   obtain⟨g1,c1,_⟩:=Q8i g h1 h3
   obtain⟨p,q,r⟩:=ih g1
   rw[c1]at q r
   exact⟨p,by omega,λe he=>(List.mem_cons.1 he).elim (λh=>by rw[h];exact Int.le_refl _) (λh=>by have:=r e h;omega)⟩
 | st h1 h2 h3 _ ih=>
   intro g
   obtain⟨g1,c1,_⟩:=Q8i g h1 h3
   obtain⟨p,q,r⟩:=ih g1
   rw[c1]at q r
   exact⟨p,by omega,λe he=>by have:=r e he;omega⟩
def Q6d(r x:Q01)(o:List Q02):Prop:= ∃L,x.C4=r.C4++L/\Q7r r.A0 L o x.A0
theorem Q6d.rfl{r:Q01}:Q6d r r []:=⟨[],(List.append_nil _).symm, .nil⟩
theorem Q6d.trans{a b c:Q01}{o p:List Q02}(h:Q6d a b o)(g:Q6d b c p):Q6d a c (o++p):=by
 obtain⟨L,l1,l2⟩:=h
 obtain⟨M,m1,m2⟩:=g
 exact⟨L++M,by rw[m1,l1,List.append_assoc],l2.trans m2⟩
theorem Q6d.trans0{a b c:Q01}{p:List Q02}(h:Q6d a b [])(g:Q6d b c p):Q6d a c p:=h.trans g
theorem Zil{P:Nat}{k:Int}{r:Q01}(g:Q8k P k r){e:Q0f}(he:evOK e)(hu:U e.N):Q6d r (Q1t r e) []:=by
 obtain⟨_,b⟩:=Qiv g.m hu
 cases ha:(Q0o r.A0 e).1
 . rw[Z07 ha];exact Q6d.rfl
 . unfold Q1t
   rw[ha]
   refine⟨[{At:=r.A0.A1,C6:=e}],?_, .ev trivial he.2 hu .nil⟩
   show r.C4++[{At:=(Q0o r.A0 e).2.A1,C6:=e}]=_
   rw[b]
theorem xao{P:Nat}{k:Int}{r:Q01}(g:Q8k P k r):Q6d r (Q40 r) []:=by
 rw[Qmp]
 cases Q7i r.A0.B0 r.A9
 . exact Q6d.rfl
 . exact Zil g Z4b U_0
theorem qap{P:Nat}{k:Int}{r:Q01}(g:Q8k P k r)(hs:Q0y r.A0=false):Q6d r (Qif r) (Q0a r.A0 r.A9).1:=by
 cases hr:Q0t r.A0
 . rw[Zgf hr]
   refine⟨[],(List.append_nil _).symm,?_⟩
   have:=Q7r.st (L:=[]) (o:=[]) hs hr g.clock .nil
   rw[List.append_nil]at this;exact this
 . rw[Qys hr]
   refine⟨[{At:=r.A0.A1,C6:={B5:=1,N:=r.A9,C8:=[]}}],_root_.rfl,?_⟩
   have:=Q7r.rd (L:=[]) (o:=[]) hs hr g.clock .nil
   rw[List.append_nil]at this;exact this
theorem zaI{P:Nat}(n:Nat): ∀{k:Int} {r:Q01},Q8k P k r->Q6d r (recF n r []).1 (recF n r []).2:=by
 induction n with
 |zero=>intro k r _;exact Q6d.rfl
 | succ n ih=>
   intro k r g
   obtain⟨gf,_⟩:=Qof g
   have f:=xao g
   cases hs:Q0y (Q40 r).A0
   . rw[Qti hs,xL,List.nil_append]
     exact f.trans0 ((qap gf hs).trans (ih (Qon gf hs)))
   . rw[Qul hs];exact f
theorem zap{P:Nat}{k:Int}(l:List Q0f): ∀{r:Q01},Q8k P k r->(∀e∈l,evOK e/\U e.N)->Q6d r (l.foldl Q1t r) []:=by
 induction l with
 |nil=>intro r _ _;exact Q6d.rfl
 | cons e l ih=>
   intro r g hu
   obtain⟨a,b⟩:=hu e (by simp)
   exact(Zil g a b).trans0 (ih (Ql5 g b).1 (λq hq=>hu q (by simp [hq])))
theorem xaI{P:Nat}{k:Int}{r:Q01}(g:Q8k P k r)(hq:okQ r.A6)(he: ∀e∈r.A6,evOK e)(steps:Int){clock:Int}(hc:U clock):Q6d r (advF r steps clock).1 (advF r steps clock).2:=by
 rw[Z08 g.m.rmay]
 have s:=Qur g hq hc
 have u:U (if clock>r.A9 then clock else r.A9):=by split<;>first|exact hc|exact g.clock
 have f:=zap r.A6 (r:={A0:=r.A0,A9:=if clock>r.A9 then clock else r.A9,C4:=r.C4,A6:=r.A6}) (k:=k) ⟨g.m,u,g.cnt⟩ (λe h=>⟨he e h,hq.2 e h⟩)
 generalize r.A6.foldl Q1t {A0:=r.A0,A9:=if clock>r.A9 then clock else r.A9,C4:=r.C4,A6:=r.A6}=y at*
 have f:Q6d r (noQ y) []:=f
 exact f.trans0 (zaI _ s)
theorem qaJ(r:Q01)(e:Q0f):Q6d r (Q2g r e).1 []:=by
 rw[Qkg]
 cases Q2n e<;>cases e.B5==1<;>cases decide ((r.A6.length:Int)>=16)<;>exact Q6d.rfl
theorem ev_on{r:Q01}{A:Q01×Bool}(h:Q6d r A.1 []):Q6d r (A.1,([]:List Q02)).1 (A.1,([]:List Q02)).2:=h
theorem qO{c0 k B:Int}{r:Q01}(h:logP c0 k B r)(n:Int):Q6d r (Q3b r n).1 (Q3b r n).2:=by
 cases hm:Int.tmod (Q2y n 3) 3==0
 . rw[Qrj hm,Qr1 _ _ _ (by have:=h.p.q.1;omega)]
   exact xaI h.p.g h.p.q h.l.q _ (Q0s _)
 . rw[Qrg hm]
   exact ev_on (A:=Q2g r (Q44 n)) (qaJ _ _)
theorem xap{c0:Int}(l:List Int): ∀{k B:Int} {s:Q01×List Q02},logP c0 k B s.1->255<=B->B+12*l.length<1000000000-> ∃o,(l.foldl Qj7 s).2=s.2++o/\Q6d s.1 (l.foldl Qj7 s).1 o:=by
 induction l with
 |nil=>intro k B s _ _ _;exact⟨[],(List.append_nil _).symm,Q6d.rfl⟩
 | cons n l ih=>
   intro k B s h h1 h2
   rw[List.length_cons]at h2
   have a:=Qo3 h h1 (by omega) n
   have b:=qO h n
   rw[<-Qn8]at a b
   obtain⟨o,o1,o2⟩:=ih a (by omega) (by omega)
   refine⟨(Q3b s.1 n).2++o,?_,b.trans o2⟩
   rw[List.foldl_cons,o1,Za,List.append_assoc]
def arm(r:Q01):Nat:=if r.A0.B0.D2 then 1 else 0
theorem vW(r:Q01):arm r<=1:=by unfold arm;split<;>omega
theorem Zfa(m:Q00)(e:Q0f):(Q0o m e).2.B0=m.B0\/(Q0o m e).2.B0=(Q67 m.B0).1:=by
 show Tree.V (Q42 m e) (λx=>x.2.B0=m.B0\/x.2.B0=(Q67 m.B0).1)
 unfold Q42
 repeat'(first
   |exact v_lf (.inl rfl)
   |exact v_lv λx hx=>v_lf (.inr (by rw[hx]))
   |exact v_lv λx hx=>v_lf (.inl rfl)
   |exact v_an (v_lv λx hx=>v_lf (.inl rfl))
   |refine v_br (λ_=> ?_) (λ_=> ?_))
theorem xO(t:Q0g):(Q67 t).1.D2=true->t.D2=true:=by
 show Tree.V (Q9d t) (λr=>r.1.D2=true->t.D2=true)
 unfold Q9d
 exact v_br (λ_=>v_lf λh=>h) (λ_=>v_lf λh=>by cases h)
theorem xo(r:Q01)(e:Q0f):(Q1t r e).C4.length+arm (Q1t r e)<=r.C4.length+arm r+1:=by
  have l:=Qo1 r e
  cases ha:(Q0o r.A0 e).1
  . rw[Z07 ha];omega
  . have h:arm (Q1t r e)<=arm r:=by
      unfold arm Q1t
      rw[ha]
      show(if(Q0o r.A0 e).2.B0.D2=true then 1 else 0)<=_
      rcases Zfa r.A0 e with t|t
      . rw[t];exact Nat.le_refl _
      . rw[t]
        split
        . rename_i q;rw[if_pos (xO _ q)];exact Nat.le_refl _
        . exact Nat.zero_le _
    omega
theorem zO(r:Q01):(Q40 r).C4.length+arm (Q40 r)<=r.C4.length+arm r:=by
  cases hd:Q7i r.A0.B0 r.A9
  . rw[zm hd];exact Nat.le_refl _
  . have e:Q40 r=Q1t r Qpm:=by rw[Qmp,hd];rfl
    rw[e]
    cases ha:(Q0o r.A0 Qpm).1
    . rw[Z07 ha];exact Nat.le_refl _
    . have a1:arm r=1:=by
        unfold arm
        refine if_pos ?_
        cases h:r.A0.B0.D2
        . rw[xm h]at hd;cases hd
        . rfl
      have l:=Qo1 r Qpm
      have a0:arm (Q1t r Qpm)=0:=by
        unfold arm Q1t
        rw[ha]
        refine if_neg ?_
        show¬(Q0o r.A0 Qpm).2.B0.D2=true
        rw[Zfn]at ha⊢
        cases hh:r.A0.A7
        . rw[hh]at ha
          have:=qm _ ha
          show¬(Q67 r.A0.B0).1.D2=true
          rw[this];decide
        . rw[hh]at ha;cases ha
      omega
theorem Zf1{P:Nat}{m:Q00}(g:good P m)(hr:Q0t m=true)(clock:Int):(Q0a m clock).2.B0=m.B0:=by
 have rd:Q0t m=bif Q0y m then false else Qcv m:=rfl
 rw[rd]at hr
 cases hs:Q0y m
 . rw[hs]at hr
   have hr:Qcv m=true:=hr
   obtain⟨g1,g2,g3,g4,g5⟩:=(Qjd m).1 g.may
   obtain⟨b1,b2,b3,_⟩:=(Tree.pp (Qt3 g.s g2)).2
   change Q5j (Q0p m).B2 at b1
   change okS P (Q0p m) at b2
   have be:=Qua g.v g2.st
   have b1':Q5j (Q0l m):=by have:=b1;rw[be]at this;exact this
   have b2':Q2b (Q0l m):=by have:=b2.cpu;rw[be]at this;exact this
   rw[Zbt,<-Zir g.ok.mem b2' b1'.st]at hr
   rw[xW]
   generalize Q6k (Q0l m) m.Mem=D at*
   unfold ioP at hr
   unfold finR
   cases hk:D.2.1.B5==1
   . rw[hk]at hr;cases hr
   . rw[hk]at hr
     have hp:D.2.1.D1=2:=eq_of_beq hr
     rw[hp];rfl
 . rw[hs]at hr;cases hr
theorem yO{P:Nat}{k:Int}{r:Q01}(g:Q8k P k r):(Qif r).C4.length+arm (Qif r)<=r.C4.length+arm r+1:=by
 cases hr:Q0t r.A0
 . have:=vW (Qif r)
   have e:(Qif r).C4=r.C4:=by rw[Zgf hr]
   rw[e];omega
 . have l:=Zdn r
   have e:arm (Qif r)=arm r:=by
     unfold arm
     rw[Qys hr]
     show(if(Q0a r.A0 r.A9).2.B0.D2=true then 1 else 0)=_
     rw[Zf1 g.m hr]
   omega
theorem qaq{P:Nat}(n:Nat): ∀{k:Int} {r:Q01} {o:List Q02},Q8k P k r->(recF n r o).1.C4.length+arm (recF n r o).1<=r.C4.length+arm r+n:=by
 induction n with
 |zero=>intro k r o _;exact Nat.le_refl _
 | succ n ih=>
   intro k r o g
   obtain⟨gf,_⟩:=Qof g
   have f:=zO r
   cases hs:Q0y (Q40 r).A0
   . rw[Qti hs]
     have a:=ih (o:=o++(Q0a (Q40 r).A0 (Q40 r).A9).1) (Qon gf hs)
     have b:=yO gf
     omega
   . rw[Qul hs]
     show(Q40 r).C4.length+arm (Q40 r)<=_
     omega
theorem vO(l:List Q0f): ∀r:Q01,(l.foldl Q1t r).C4.length+arm (l.foldl Q1t r)<=r.C4.length+arm r+l.length:=by
 induction l with
 |nil=>intro r;exact Nat.le_refl _
 | cons e l ih=>
   intro r
   have a:=ih (Q1t r e)
   have b:=xo r e
   rw[List.foldl_cons,List.length_cons];omega
def cntR(r:Q01):Nat:=r.C4.length+arm r+r.A6.length
theorem zaq{P:Nat}{k:Int}{r:Q01}(g:Q8k P k r)(hq:okQ r.A6){steps clock:Int}(hc:U clock)(hs:0<=steps/\steps<12):cntR (advF r steps clock).1<=cntR r+11:=by
 have s:=Qur g hq hc
 have f:=vO r.A6 {A0:=r.A0,A9:=if clock>r.A9 then clock else r.A9,C4:=r.C4,A6:=r.A6}
 rw[Z08 g.m.rmay,Qvb hs.1 (by omega)]
 generalize r.A6.foldl Q1t {A0:=r.A0,A9:=if clock>r.A9 then clock else r.A9,C4:=r.C4,A6:=r.A6}=y at*
 have q:(recF steps.toNat (noQ y) []).1.A6=[]:=Z48 _ _ _
 have c:=qaq steps.toNat (o:=[]) s
 have e:arm (noQ y)=arm y:=rfl
 have e1:(noQ y).C4=y.C4:=rfl
 have e2:arm {A0:=r.A0,A9:=if clock>r.A9 then clock else r.A9,C4:=r.C4,A6:=r.A6}=arm r:=rfl
 rw[e,e1]at c
 rw[e2]at f
 have f:y.C4.length+arm y<=r.C4.length+arm r+r.A6.length:=f
 unfold cntR
 rw[q]
 show _+_+0<=_
 omega
theorem zo{P:Nat}{k:Int}{r:Q01}(g:Q8k P k r)(hq:okQ r.A6){steps clock:Int}(hc:U clock)(hs:0<=steps/\steps<12):(advF r steps clock).1.A0.A1<=r.A0.A1+11:=by
 have s:=Qur (k:=r.A0.A1) ⟨g.m,g.clock,Int.le_refl _⟩ hq hc
 rw[Z08 g.m.rmay,Qvb hs.1 (by omega)]
 have:=(Zco steps.toNat (o:=[]) s).cnt
 omega
theorem Zeg{c0 k B:Int}{r:Q01}(h:logP c0 k B r)(n:Int):(Q3b r n).1.A0.A1<=r.A0.A1+11:=by
 cases hm:Int.tmod (Q2y n 3) 3==0
 . rw[Qrj hm,Qr1 _ _ _ (by have:=h.p.q.1;omega)]
   exact zo h.p.g h.p.q (Q0s _) (Qld (n:=ishr .i64 (Q2y n 3) 4) (k:=12) (by decide) (by decide))
 . rw[Qrg hm,Qkg]
   have z:r.A0.A1<=r.A0.A1+11:=by omega
   cases Q2n (Q44 n)<;>cases(Q44 n).B5==1<;>cases decide ((r.A6.length:Int)>=16)<;>exact z
theorem Zlb{c0:Int}(l:List Int): ∀{k B:Int} {s:Q01×List Q02},logP c0 k B s.1->255<=B->B+12*l.length<1000000000->(l.foldl Qj7 s).1.A0.A1<=s.1.A0.A1+11*l.length:=by
 induction l with
 |nil=>intro k B s _ _ _;show s.1.A0.A1<=s.1.A0.A1+11*((0:Nat):Int);omega
 | cons n l ih=>
   intro k B s h h1 h2
   rw[List.length_cons]at h2
   have a:=Qo3 h h1 (by omega) n
   have b:=Zeg h n
   rw[<-Qn8]at a b
   have:=ih a (by omega) (by omega)
   rw[List.foldl_cons,List.length_cons];omega
theorem vo{c0 k B:Int}{r:Q01}(h:logP c0 k B r)(n:Int):cntR (Q3b r n).1<=cntR r+11:=by
 cases hm:Int.tmod (Q2y n 3) 3==0
 . rw[Qrj hm,Qr1 _ _ _ (by have:=h.p.q.1;omega)]
   exact zaq h.p.g h.p.q (Q0s _) (Qld (n:=ishr .i64 (Q2y n 3) 4) (k:=12) (by decide) (by decide))
 . rw[Qrg hm,Qkg]
   have:cntR {A0:=r.A0,A9:=r.A9,C4:=r.C4,A6:=r.A6++[Q44 n]}=cntR r+1:=by
     show r.C4.length+arm r+(r.A6++[_]).length=r.C4.length+arm r+r.A6.length+1
     rw[List.length_append,List.length_singleton];omega
   cases Q2n (Q44 n)<;>cases(Q44 n).B5==1<;>cases decide ((r.A6.length:Int)>=16)<;>first|exact Nat.le_add_right _ _|(show cntR {A0:=r.A0,A9:=r.A9,C4:=r.C4,A6:=r.A6++[Q44 n]}<=_;omega)
theorem qP{c0:Int}(l:List Int): ∀{k B:Int} {s:Q01×List Q02},logP c0 k B s.1->255<=B->B+12*l.length<1000000000->cntR (l.foldl Qj7 s).1<=cntR s.1+11*l.length:=by
 induction l with
 |nil=>intro k B s _ _ _;exact Nat.le_refl _
 | cons n l ih=>
   intro k B s h h1 h2
   rw[List.length_cons]at h2
   have a:=Qo3 h h1 (by omega) n
   have b:=vo h n
   rw[<-Qn8]at a b
   have:=ih a (by omega) (by omega)
   rw[List.foldl_cons,List.length_cons];omega
theorem Qrd{l:List Q0m}{i:Nat}(h:i<l.length):l.getD i (RK.dflt RK.apiEntry)=l[i]:=by
 rw[List.getD_eq_getElem?_getD,List.getElem?_eq_getElem h];rfl
theorem qp{s:List Q0m}(hl:s.length<=1000000)(hp:s.Pairwise λa b=>a.At<=b.At/\(a.C6.B5=1->a.At<b.At/\(b.C6.B5=1->a.C6.N<=b.C6.N))):(Q87 s).w (λb=>b=true):=by
 unfold Q87
 refine w_lp (inv:=λz:Int=>1<=z/\(z<=s.length\/z=1)) (μ:=Q4a s) ⟨Int.le_refl 1, .inr rfl⟩ (Nat.lt_succ_self _) λi ⟨a,b⟩=> ?_
 refine w_br (λhb=> ?_) (λ_=>rfl)
 have hb:=of_decide_eq_true hb
 have ew:IntKind.i64.wrap (i+1)=i+1:=by rw[IntKind.wrap_i64];omega
 have em:IntKind.i64.wrap (i-1)=i-1:=by rw[IntKind.wrap_i64];omega
 have hlt:i.toNat<s.length:=by omega
 have hlt':(i-1).toNat<s.length:=by omega
 have q:=List.pairwise_iff_getElem.1 hp (i-1).toNat i.toNat hlt' hlt (by omega)
 rw[<-Qrd hlt,<-Qrd hlt']at q
 have nx:(1<=IntKind.i64.wrap (i+1)/\(IntKind.i64.wrap (i+1)<=s.length\/IntKind.i64.wrap (i+1)=1))/\Q4a s (IntKind.i64.wrap (i+1))<Q4a s i:=by
   show _/\(s.length-IntKind.i64.wrap (i+1)).toNat<(s.length-i).toNat
   rw[ew];omega
 refine w_cn (by rw[em];simp [Nat.blt];omega) (w_cn (by simp [Nat.blt];omega) (w_br (λh=> ?_) λ_=>w_br (λh1=>w_br (λh2=> ?_) λ_=>w_nx nx) λ_=>w_nx nx))
 . have h:=of_decide_eq_true h
   rw[em]at h
   have:=q.1;omega
 . rw[em]at h1 h2
   have h1:=eq_of_beq h1
   have:=(q.2 (eq_of_beq h2)).1;omega
theorem xp{l:List Q0m}{i:Nat}{e:Q0m}{L:List Q0m}(h:l.drop i=e::L):i<l.length/\l.getD i (RK.dflt RK.apiEntry)=e/\l.drop (i+1)=L:=by
 have hlt:i<l.length:=by
   by_cases g:i<l.length
   . exact g
   . rw[List.drop_eq_nil_of_le (by omega)]at h;cases h
 rw[List.drop_eq_getElem_cons hlt]at h
 injection h with h1 h2
 exact⟨hlt,by rw[Qrd hlt,h1],h2⟩
theorem Zjy{P:Nat}{a b:Q00}{L:List Q0m}{o:List Q02}(h:Q7r a L o b)(g:good P a)(hc:a.A1<b.A1):
   (∃e M,L={At:=a.A1,C6:=e}::M/\e.B5≠1/\U e.N/\True/\Q7r (Q0o a e).2 M o b)\/
   (∃c M p,L={At:=a.A1,C6:={B5:=1,N:=c,C8:=[]}}::M/\Q0y a=false/\Q0t a=true/\U c/\o=(Q0a a c).1++p/\Q7r (Q0a a c).2 M p b)\/
   (∃p,Q0y a=false/\Q0t a=false/\(∀e∈L,a.A1<e.At)/\o=(Q0a a 0).1++p/\Q7r (Q0a a 0).2 L p b):=by
 cases h with
 |nil=>omega
 |ev h1 h2 h3 h4=>exact .inl ⟨_,_,rfl,h2,h3,h1,h4⟩
 |rd h1 h2 h3 h4=>exact .inr (.inl ⟨_,_,_,rfl,h1,h2,h3,rfl,h4⟩)
 | @st _ _ c _ _ h1 h2 h3 h4=>
   refine .inr (.inr ?_)
   have e:Q0a a c=Q0a a 0:=by
     have s1:=g.step h1 c
     have s0:=g.step h1 0
     have:=Z45 (m:=a) (by rw[Qud g.v];exact h2) c 0
     rw[s1,s0]at this
     injection this with p q
     exact Prod.ext q p
   obtain⟨g1,c1,_⟩:=Q8i g h1 h3
   have r:=(h4.good g1).2.2
   rw[c1]at r
   rw[e]at h4
   exact⟨_,h1,h2,λe he=>by have:=r e he;omega,by rw[e],h4⟩
theorem xaq{P:Nat}{m:Q00}(g:good P m){s:List Q0m}(hs:s.length<=400){until0:Int}(h1:m.A1<=until0)(h2:until0<=m.A1+4000)
   (hp:s.Pairwise λa b=>a.At<=b.At/\(a.C6.B5=1->a.At<b.At/\(b.C6.B5=1->a.C6.N<=b.C6.N))) (ha: ∀e∈s,m.A1<=e.At):(Q8x m s until0).w (λx=>x=0):=by
 have c0:=g.ok.cnt
 have ord:Qio s=true:=Tree.post _ (qp (by omega) hp)
 unfold Q8x
 refine w_an (Tree.pp (Zhb g.ok.target.2)).1 (w_lv λx0 e0=>w_br (λh=>by rw[e0,g.may]at h;cases h) λ_=>w_br (λh=>absurd (of_decide_eq_true h) (by omega)) λ_=>w_br (λh=> ?_) λ_=>w_br (λh=>absurd (of_decide_eq_true h) (by omega)) λ_=>w_an (show s.length<=1000000000000 by omega) (w_lv λx1 e1=>w_br (λh=>by rw[e1,ord]at h;cases h) λ_=> ?_))
 . have h:=of_decide_eq_true h
   rw[IntKind.wrap_u64]at h;omega
 . refine w_lp (inv:=λi:Int=>0<=i/\i<=s.length) (μ:=Qll m s until0) ⟨Int.le_refl 0,by omega⟩ (Nat.lt_succ_self _) λi ⟨v1,v2⟩=> ?_
   refine w_br (λhb=> ?_) (λhb=>rfl)
   have hb:=of_decide_eq_true hb
   have hlt:i.toNat<s.length:=by omega
   have ew:IntKind.i64.wrap (i+1)=i+1:=by rw[IntKind.wrap_i64];omega
   have hin:=ha (s.getD i.toNat (RK.dflt RK.apiEntry)) (by rw[Qrd hlt];exact List.getElem_mem hlt)
   refine w_cn (by simp [Nat.blt];omega) (w_br (λh=>absurd (of_decide_eq_true h) (by omega)) λ_=>w_nx ?_)
   show(0<=IntKind.i64.wrap (i+1)/\IntKind.i64.wrap (i+1)<=s.length)/\(s.length-IntKind.i64.wrap (i+1)).toNat<(s.length-i).toNat
   rw[ew];omega
def evF:Q00->List Q0m->Q00×List Q0m
 |m,[]=>(m,[])
 |m,e::L=>bif e.At==m.A1 then(bif e.C6.B5 !=1 then evF (Q0o m e.C6).2 L else(m,e::L)) else(m,e::L)
def stepF(p:Q00×List Q0m)(out:List Q02):Q00×List Q0m×List Q02:=
 bif Q0t p.1 then((Q0a p.1 (p.2.headD (RK.dflt RK.apiEntry)).C6.N).2,p.2.tail,out++(Q0a p.1 (p.2.headD (RK.dflt RK.apiEntry)).C6.N).1) else((Q0a p.1 0).2,p.2,out++(Q0a p.1 0).1)
def Qij(s:Q00×List Q0m×List Q02):Q00×List Q0m×List Q02:=stepF (evF s.1 s.2.1) s.2.2
theorem Qo0(m:Q00)(L:List Q0m)(out:List Q02):Qij (m,L,out)=stepF (evF m L) out:=rfl
def Q7k:Nat->Q00×List Q0m×List Q02->Q00×List Q0m×List Q02
 |0,s=>s
 |n+1,s=>Q7k n (Qij s)
theorem Zfd(a b:Nat): ∀s,Q7k (a+b) s=Q7k b (Q7k a s):=by
 induction a with
 |zero=>intro s;rw[Nat.zero_add];rfl
 |succ a ih=>intro s;rw[show a+1+b=(a+b)+1 by omega];exact ih _
theorem zaJ{m:Q00}{e:Q0f}{L:List Q0m}(hk:e.B5≠1):evF m ({At:=m.A1,C6:=e}::L)=evF (Q0o m e).2 L:=by
 conv=>lhs;unfold evF
 rw[show(m.A1==m.A1)=true from beq_self_eq_true _,show(e.B5 !=1)=true by simpa using hk];rfl
theorem xaJ{m:Q00}{c:Int}{L:List Q0m}:evF m ({At:=m.A1,C6:={B5:=1,N:=c,C8:=[]}}::L)=(m,{At:=m.A1,C6:={B5:=1,N:=c,C8:=[]}}::L):=by
 conv=>lhs;unfold evF
 rw[show(m.A1==m.A1)=true from beq_self_eq_true _];rfl
theorem qaK{m:Q00}{L:List Q0m}(h: ∀e∈L,m.A1<e.At):evF m L=(m,L):=by
 cases L with
 |nil=>rfl
 | cons e L=>
   unfold evF
   rw[show(e.At==m.A1)=false from beq_false_of_ne (by have:=h e (by simp);omega)];rfl
theorem Zht{m:Q00}{c:Int}{L:List Q0m}{out:List Q02}(h:Q0t m=true):Qij (m,{At:=m.A1,C6:={B5:=1,N:=c,C8:=[]}}::L,out)=((Q0a m c).2,L,out++(Q0a m c).1):=by
 rw[Qo0,xaJ]
 unfold stepF
 rw[show Q0t (m,({At:=m.A1,C6:={B5:=1,N:=c,C8:=[]}}::L:List Q0m)).1=true from h];rfl
theorem Zig{m:Q00}{L:List Q0m}{out:List Q02}(h:Q0t m=false)(hl: ∀e∈L,m.A1<e.At):Qij (m,L,out)=((Q0a m 0).2,L,out++(Q0a m 0).1):=by
 rw[Qo0,qaK hl]
 unfold stepF
 rw[show Q0t (m,L).1=false from h];rfl
theorem Zj4{m:Q00}{e:Q0f}{L:List Q0m}{out:List Q02}(hk:e.B5≠1):Qij (m,{At:=m.A1,C6:=e}::L,out)=Qij ((Q0o m e).2,L,out):=by
 rw[Qo0,zaJ hk,Qo0]
theorem Zbj(n:Nat)(s:Q00×List Q0m×List Q02):Q7k (n+1) s=Qij (Q7k n s):=by
 rw[Zfd];rfl
theorem zaK{P:Nat}{m n:Q00}(g:good P m){s:List Q0m}(hs:s.length<=400){O:List Q02}(tr:Q7r m s O n)(hO:O.length<=1000000)(k:Nat)(hk:k<=4000){until0:Int}(hu:until0=m.A1+k)(hn:until0<=n.A1)
    (hp:s.Pairwise λa b=>a.At<=b.At/\(a.C6.B5=1->a.At<b.At/\(b.C6.B5=1->a.C6.N<=b.C6.N))):
    (Qbf m s until0).w (λx=>x.2.2.2=0/\(x.1,s.drop x.2.2.1.toNat,x.2.1)=Q7k k (m,s,[])/\0<=x.2.2.1/\x.2.2.1<=s.length):=by
  obtain⟨gn,cn0,ha⟩:=tr.good g
  have n60:n.A1<=1152921504606846976:=((Qjd n).1 gn.may).2.2.1
  unfold Qbf
  refine Q0d (xaq g hs (by omega) (by omega) hp ha) λx0 e0=>w_br (λh=>by rw[e0]at h;cases h) λ_=>w_an (Q8c g.ok.mem) (w_lv λx1 e1=> ?_)
  have hcl:Q03 m.Mem=m.Mem:=rfl
  rw[hcl]at e1
  subst e1
  refine w_lp (inv:=λv:Int×Q00×List Q02=>0<=v.1/\v.1<=s.length/\good P v.2.1/\(∃o,O=v.2.2++o/\Q7r v.2.1 (s.drop v.1.toNat) o n)/\ ∃q:Nat,q<=k/\v.2.1.A1=m.A1+q/\(v.2.1,s.drop v.1.toNat,v.2.2)=Q7k q (m,s,[])) (μ:=Qpb m s until0) ⟨Int.le_refl 0,by show(0:Int)<=_;omega,g,⟨O,rfl,tr⟩,0,Nat.zero_le _,by show m.A1=m.A1+((0:Nat):Int);omega,rfl⟩ (Nat.lt_succ_self _) λv ⟨a1,a2,a3,⟨o,a4,a5⟩,q,b0,bc,bq⟩=> ?_
  obtain⟨u,x,out⟩:=v
  have a1:0<=u:=a1
  have a2:u<=s.length:=a2
  have a3:good P x:=a3
  have a4:O=out++o:=a4
  have a5:Q7r x (s.drop u.toNat) o n:=a5
  have bc:x.A1=m.A1+q:=bc
  have bq:(x,s.drop u.toNat,out)=Q7k q (m,s,[]):=bq
  have lO:O.length=out.length+o.length:=by rw[a4,List.length_append]
  refine w_br (λhb=>w_br (λ_=> ?_) (λh=>absurd (of_decide_eq_false h) (by have hb:x.A1<until0:=of_decide_eq_true hb;show¬ ¬x.A1<_;omega))) (λhb=> ?_)
  . have hb:x.A1<until0:=of_decide_eq_true hb
    refine w_lp (inv:=λw:Int×Q00=>0<=w.1/\w.1<=s.length/\good P w.2/\w.2.A1=x.A1/\Q7r w.2 (s.drop w.1.toNat) o n/\Qij (w.2,s.drop w.1.toNat,out)=Q7k (q+1) (m,s,[])) (μ:=Qpr m s until0 (u,x,out)) ⟨a1,a2,a3,rfl,a5,by rw[Zbj,<-bq]⟩ (Nat.lt_succ_self _) λw ⟨b1,b2,b3,b4,b5,b6⟩=> ?_
    obtain⟨i,y⟩:=w
    have b1:0<=i:=b1
    have b2:i<=s.length:=b2
    have b3:good P y:=b3
    have b4:y.A1=x.A1:=b4
    have b5:Q7r y (s.drop i.toNat) o n:=b5
    have b6:Qij (y,s.drop i.toNat,out)=Q7k (q+1) (m,s,[]):=b6
    have y0:=b3.ok.cnt
    have cq:y.A1+1=m.A1+((q+1:Nat):Int):=by omega
    have ip:Q5q y:=qal b3.ok.target.2
    have rp:Q39 y:=(Tree.pp (qL b3.s)).1
    have sp:=λ(c:Int) (hc:U c)=>(yj b3.v b3.len (clock:=c) hc).1
    have sg:=Zk0 b3
    have rs:=Qud b3.v
    have ew:IntKind.i64.wrap (i+1)=i+1:=by rw[IntKind.wrap_i64];omega
    have cc:i<s.length-> ∀k:Nat,(Nat.beq 4 4&&Nat.blt 0 4&&decide (0<=i/\i<((s.length:Nat):Int)))=true:=λh k=>by simp [Nat.blt];omega
    rcases Zjy b5 b3 (by omega) with⟨e,M,l1,l2,l3,l4,l5⟩|⟨c,M,p,l1,l2,l3,l4,l5,l6⟩|⟨p,l1,l2,l3,l4,l5⟩
    . obtain⟨d1,d2,d3⟩:=xp l1
      have hi:i<s.length:=by omega
      obtain⟨g1,c1⟩:=Qiv b3 l3
      refine w_br (λ_=>w_cn (cc hi 0) (w_br (λ_=>w_cn (cc hi 0) (w_br (λ_=>w_cn (cc hi 0) (w_an ?_ (w_lv λx2 e2=>w_nx ?_))) (λh=> ?_))) (λh=> ?_))) (λh=>absurd (of_decide_eq_false h) (λz=>z hi))
      . rw[d2];exact Zlg b3.v b3.len l3
      . rw[d2,b3.app]at e2
        show(0<=IntKind.i64.wrap (i+1)/\IntKind.i64.wrap (i+1)<=s.length/\good P x2.1/\x2.1.A1=x.A1/\Q7r x2.1 (s.drop (IntKind.i64.wrap (i+1)).toNat) o n/\Qij (x2.1,s.drop (IntKind.i64.wrap (i+1)).toNat,out)=Q7k (q+1) (m,s,[]))/\(s.length-IntKind.i64.wrap (i+1)).toNat<(s.length-i).toNat
        rw[ew,show(i+1).toNat=i.toNat+1 by omega,d3,e2]
        rw[l1,Zj4 l2]at b6
        exact⟨⟨by omega,by omega,g1,by show(Q0o y e).2.A1=_;omega,l5,b6⟩,by omega⟩
      . rw[d2]at h
        have h:e.B5=1:=by simpa using h
        exact absurd h l2
      . rw[d2]at h;simp at h
    . obtain⟨d1,d2,d3⟩:=xp l1
      have hi:i<s.length:=by omega
      obtain⟨g1,c1,o1⟩:=Q8i b3 l2 l4
      have ms:=b3.step l2 c
      rw[l2]at sg
      have hh:y.A7=false:=by
        cases hh:y.A7
        . rfl
        . rw[hh]at sg;cases sg
      have hid:Q37 y=false:=by
        cases hid:Q37 y
        . rfl
        . rw[hh,hid]at sg;cases sg
      have hr:Q21 y=true:=rs.trans l3
      have lo:o.length=(Q0a y c).1.length+p.length:=by rw[l5,List.length_append]
      refine w_br (λ_=>w_cn (cc hi 0) (w_br (λ_=>w_cn (cc hi 0) (w_br (λh=> ?_) (λ_=> ?_))) (λh=> ?_))) (λh=>absurd (of_decide_eq_false h) (λz=>z hi))
      . rw[d2]at h;cases h
      . refine w_br (λh=>by rw[hh]at h;cases h) λ_=>w_an ip (w_lv λx3 e3=>w_br (λh=>by rw[e3,hid]at h;cases h) λ_=>w_br (λ_=>w_cn (cc hi 0) (w_an rp (w_lv λx4 e4=>w_br (λh=> ?_) λ_=>w_br (λ_=>w_cn (cc hi 0) (w_an ?_ (w_lv λx5 e5=> ?_))) λh=> ?_))) λh=>absurd (of_decide_eq_false h) (λz=>z hi))
        . rw[e4,hr,d2]at h;simp at h
        . rw[d2];exact sp c l4
        . rw[d2]at e5
          have e5:x5=((Q0a y c).2,(Q0a y c).1):=e5.trans ms
          refine w_cn (decide_eq_true (by rw[e5];show 40*(out.length+(Q0a y c).1.length)<=_;omega)) (w_nx ?_)
          show(0<=IntKind.i64.wrap (i+1)/\IntKind.i64.wrap (i+1)<=s.length/\good P x5.1/\(∃o',O=(out++x5.2)++o'/\Q7r x5.1 (s.drop (IntKind.i64.wrap (i+1)).toNat) o' n)/\ ∃q:Nat,q<=k/\x5.1.A1=m.A1+q/\(x5.1,s.drop (IntKind.i64.wrap (i+1)).toNat,out++x5.2)=Q7k q (m,s,[]))/\(until0-x5.1.A1).toNat<(until0-x.A1).toNat
          rw[ew,show(i+1).toNat=i.toNat+1 by omega,d3,e5]
          rw[l1,Zht l3]at b6
          exact⟨⟨by omega,by omega,g1,⟨p,by rw[a4,l5,List.append_assoc],l6⟩,q+1,by omega,by show(Q0a y c).2.A1=_;omega,b6⟩,by show(until0-(Q0a y c).2.A1).toNat<_;omega⟩
        . rw[d2]at h;simp at h
      . rw[d2]at h;simp at h
    . obtain⟨g1,c1,o1⟩:=Q8i b3 l1 U_0
      have ms:=b3.step l1 0
      rw[l1]at sg
      have hh:y.A7=false:=by
        cases hh:y.A7
        . rfl
        . rw[hh]at sg;cases sg
      have hid:Q37 y=false:=by
        cases hid:Q37 y
        . rfl
        . rw[hh,hid]at sg;cases sg
      have hr:Q21 y=false:=rs.trans l2
      have lo:o.length=(Q0a y 0).1.length+p.length:=by rw[l4,List.length_append]
      have ne:i<s.length->((s.getD i.toNat (RK.dflt RK.apiEntry)).At==y.A1)=false:=λhi=>by
        have hlt:i.toNat<s.length:=by omega
        refine beq_false_of_ne λq=> ?_
        have:=l3 (s.getD i.toNat (RK.dflt RK.apiEntry)) (by rw[Qrd hlt,List.drop_eq_getElem_cons hlt];exact List.mem_cons_self)
        omega
      have fin: ∀x5:Q00×List Q02,x5=Q27 y 0->decide (40*(out.length+x5.2.length)<=140737488355328)=true/\((0<=i/\i<=s.length/\good P x5.1/\(∃o',O=(out++x5.2)++o'/\Q7r x5.1 (s.drop i.toNat) o' n)/\ ∃q:Nat,q<=k/\x5.1.A1=m.A1+q/\(x5.1,s.drop i.toNat,out++x5.2)=Q7k q (m,s,[]))/\(until0-x5.1.A1).toNat<(until0-x.A1).toNat):=λx5 e5=>by
        have e5:x5=((Q0a y 0).2,(Q0a y 0).1):=e5.trans ms
        rw[e5]
        exact⟨decide_eq_true (by show 40*(out.length+(Q0a y 0).1.length)<=_;omega),⟨b1,b2,g1,⟨p,by rw[a4,l4,List.append_assoc],l5⟩,q+1,by omega,by show(Q0a y 0).2.A1=_;omega,by rw[Zig l2 l3]at b6;exact b6⟩,by show(until0-(Q0a y 0).2.A1).toNat<_;omega⟩
      refine w_br (λhi=>w_cn (cc (of_decide_eq_true hi) 0) (w_br (λh=>by rw[ne (of_decide_eq_true hi)]at h;cases h) λ_=> ?_)) (λhi=> ?_)
      . have hi:i<s.length:=of_decide_eq_true hi
        refine w_br (λh=>by rw[hh]at h;cases h) λ_=>w_an ip (w_lv λx3 e3=>w_br (λh=>by rw[e3,hid]at h;cases h) λ_=>w_br (λ_=>w_cn (cc hi 0) (w_an rp (w_lv λx4 e4=>w_br (λh=>by rw[e4,hr,ne hi]at h;cases h) λ_=>w_br (λh=>by rw[ne hi]at h;cases h) λ_=>w_an (sp 0 U_0) (w_lv λx6 e6=>w_cn (fin x6 e6).1 (w_nx (fin x6 e6).2))))) λh=>absurd (of_decide_eq_false h) (λz=>z hi))
      . have hi: ¬i<s.length:=of_decide_eq_false hi
        refine w_br (λh=>by rw[hh]at h;cases h) λ_=>w_an ip (w_lv λx3 e3=>w_br (λh=>by rw[e3,hid]at h;cases h) λ_=>w_br (λh=>absurd (of_decide_eq_true h) hi) λ_=>w_an rp (w_lv λx4 e4=>w_br (λh=>by rw[e4,hr]at h;cases h) λ_=>w_an (sp 0 U_0) (w_lv λx6 e6=>w_cn (fin x6 e6).1 (w_nx (fin x6 e6).2))))
  . have hb: ¬x.A1<until0:=of_decide_eq_false hb
    have qk:q=k:=by omega
    rw[qk]at bq
    exact⟨rfl,bq,a1,a2⟩
theorem xaK{P:Nat}{m:Q00}(g:good P m)(h1:Q0y m=false)(h2:Q0t m=false)(c:Int):Q0a m c=Q0a m 0:=by
 have s1:=g.step h1 c
 have s0:=g.step h1 0
 have:=Z45 (m:=m) (by rw[Qud g.v];exact h2) c 0
 rw[s1,s0]at this
 injection this with p q
 exact Prod.ext q p
theorem Zc9{P:Nat}{a b:Q00}{L:List Q0m}{o:List Q02}(h:Q7r a L o b):good P a-> ∀c:Int,a.A1<=c->c<=b.A1->
   ∃L1 L2 o1 o2 x,L=L1++L2/\o=o1++o2/\Q7r a L1 o1 x/\Q7r x L2 o2 b/\x.A1=c/\ ∀e∈L1,e.At<c:=by
 induction h with
 | @nil m=>exact λ_ c h1 h2=>⟨[],[],[],[],m,rfl,rfl, .nil, .nil,Int.le_antisymm h1 h2,λe he=>by cases he⟩
 | @ev m n e L o h1 h2 h3 h4 ih=>
   intro g c k1 k2
   by_cases hc:m.A1=c
   . exact⟨[],_,[],_,m,rfl,rfl, .nil, .ev h1 h2 h3 h4,hc,λe he=>by cases he⟩
   . obtain⟨g1,c1⟩:=Qiv g h3
     obtain⟨L1,L2,o1,o2,x,q1,q2,q3,q4,q5,q6⟩:=ih g1 c (by omega) k2
     refine⟨{At:=m.A1,C6:=e}::L1,L2,o1,o2,x,by rw[q1];rfl,q2, .ev h1 h2 h3 q3,q4,q5,λe' he=> ?_⟩
     rcases List.mem_cons.1 he with rfl|he
     . show m.A1<c;omega
     . exact q6 e' he
 | @rd m n c0 L o h1 h2 h3 h4 ih=>
   intro g c k1 k2
   by_cases hc:m.A1=c
   . exact⟨[],_,[],_,m,rfl,rfl, .nil, .rd h1 h2 h3 h4,hc,λe he=>by cases he⟩
   . obtain⟨g1,c1,_⟩:=Q8i g h1 h3
     obtain⟨L1,L2,o1,o2,x,q1,q2,q3,q4,q5,q6⟩:=ih g1 c (by omega) k2
     refine⟨{At:=m.A1,C6:={B5:=1,N:=c0,C8:=[]}}::L1,L2,(Q0a m c0).1++o1,o2,x,by rw[q1];rfl,by rw[q2,List.append_assoc], .rd h1 h2 h3 q3,q4,q5,λe' he=> ?_⟩
     rcases List.mem_cons.1 he with rfl|he
     . show m.A1<c;omega
     . exact q6 e' he
 | @st m n c0 L o h1 h2 h3 h4 ih=>
   intro g c k1 k2
   by_cases hc:m.A1=c
   . exact⟨[],_,[],_,m,rfl,rfl, .nil, .st h1 h2 h3 h4,hc,λe he=>by cases he⟩
   . obtain⟨g1,c1,_⟩:=Q8i g h1 h3
     obtain⟨L1,L2,o1,o2,x,q1,q2,q3,q4,q5,q6⟩:=ih g1 c (by omega) k2
     exact⟨L1,L2,(Q0a m c0).1++o1,o2,x,q1,by rw[q2,List.append_assoc], .st h1 h2 h3 q3,q4,q5,q6⟩
theorem Zlj{P:Nat}{a b:Q00}{L:List Q0m}{o:List Q02}(h:Q7r a L o b):good P a-> ∀{M:List Q0m} (out:List Q02),(∀e∈L,e.At<b.A1)->(∀e∈M,b.A1<=e.At)->
   Q7k (b.A1-a.A1).toNat (a,L++M,out)=(b,M,out++o):=by
 induction h with
 | nil=>
   intro g M out _ _
   rw[show∀x:Int,(x-x).toNat=0 from λx=>by omega]
   show(_,[]++M,out)=(_,M,out++[]);rw[List.append_nil];rfl
 | @ev m n e L o h1 h2 h3 h4 ih=>
   intro g M out k1 k2
   obtain⟨g1,c1⟩:=Qiv g h3
   have hc:m.A1<n.A1:=k1 {At:=m.A1,C6:=e} (by simp)
   have:=ih g1 (M:=M) out (λe' he=>k1 e' (by simp [he])) k2
   rw[c1]at this
   rw[<-this]
   obtain⟨k,hk⟩: ∃k,(n.A1-m.A1).toNat=k+1:=⟨(n.A1-m.A1).toNat-1,by omega⟩
   rw[hk]
   show Q7k k (Qij (m,{At:=m.A1,C6:=e}::(L++M),out))=Q7k k (Qij ((Q0o m e).2,L++M,out))
   rw[Zj4 h2]
 | @rd m n c L o h1 h2 h3 h4 ih=>
   intro g M out k1 k2
   obtain⟨g1,c1,_⟩:=Q8i g h1 h3
   obtain⟨_,cc,_⟩:=h4.good g1
   have:=ih g1 (M:=M) (out++(Q0a m c).1) (λe' he=>k1 e' (by simp [he])) k2
   rw[c1,List.append_assoc]at this
   rw[<-this]
   rw[c1]at cc
   have hk:(n.A1-m.A1).toNat=(n.A1-(m.A1+1)).toNat+1:=by omega
   rw[hk]
   show Q7k _ (Qij (m,{At:=m.A1,C6:={B5:=1,N:=c,C8:=[]}}::(L++M),out))=_
   rw[Zht h2]
 | @st m n c L o h1 h2 h3 h4 ih=>
   intro g M out k1 k2
   obtain⟨g1,c1,_⟩:=Q8i g h1 h3
   obtain⟨_,cc,ca⟩:=h4.good g1
   have:=ih g1 (M:=M) (out++(Q0a m c).1) (λe' he=>k1 e' he) k2
   rw[c1,List.append_assoc]at this
   rw[<-this]
   rw[c1]at cc ca
   have hk:(n.A1-m.A1).toNat=(n.A1-(m.A1+1)).toNat+1:=by omega
   rw[hk]
   show Q7k _ (Qij (m,L++M,out))=_
   rw[Zig h2 (λe he=> ?_),xaK g h1 h2 c]
   rcases List.mem_append.1 he with he|he
   . have:=ca e he;omega
   . have:=k2 e he;omega
theorem cut_w{P:Nat}{a n x:Q00}{s L1 L2:List Q0m}{O o1 o2:List Q02}(g:good P a)(hs:s.length<=400)(tr:Q7r a s O n)(hO:O.length<=1000000)(e:s=L1++L2)(t1:Q7r a L1 o1 x)(t2:Q7r x L2 o2 n){until0:Int}(hx:x.A1=until0)(hL: ∀e∈L1,e.At<until0)(hk:until0<=a.A1+4000)
   (hp:s.Pairwise λa b=>a.At<=b.At/\(a.C6.B5=1->a.At<b.At/\(b.C6.B5=1->a.C6.N<=b.C6.N))):
   (Qbf a s until0).w (λr=>r=(x,o1,(L1.length:Int),0)):=by
 obtain⟨gx,c1,_⟩:=t1.good g
 obtain⟨gn,c2,a2⟩:=t2.good gx
 have w:=zaK g hs tr hO (until0-a.A1).toNat (by omega) (until0:=until0) (by omega) (by omega) hp
 refine Tree.mono _ (λr hr=> ?_) w
 obtain⟨q1,q2,q3,q4⟩:=hr
 have rc:=Zlj t1 g (M:=L2) [] (λe he=>by rw[hx];exact hL e he) a2
 rw[hx]at rc
 rw[e,rc,<-e]at q2
 obtain⟨m,o,i,f⟩:=r
 simp only[Prod.mk.injEq,List.nil_append]at q1 q2 q3 q4
 obtain⟨r1,r2,r3⟩:=q2
 have hl:(s.drop i.toNat).length=L2.length:=by rw[r2]
 rw[List.length_drop,e,List.length_append]at hl
 rw[e,List.length_append]at q4
 have hi:i=L1.length:=by omega
 rw[r1,r3,hi,q1]
theorem zp{P:Nat}{a b:Q00}{L:List Q0m}{o:List Q02}(h:Q7r a L o b):good P a->(o.length:Int)<=b.A1-a.A1:=by
 induction h with
 |nil=>intro _;show((0:Nat):Int)<=_;omega
 | ev h1 h2 h3 h4 ih=>
   intro g
   obtain⟨g1,c1⟩:=Qiv g h3
   have:=ih g1
   omega
 | rd h1 h2 h3 h4 ih=>
   intro g
   obtain⟨g1,c1,o1⟩:=Q8i g h1 h3
   have:=ih g1
   rw[List.length_append];omega
 | st h1 h2 h3 h4 ih=>
   intro g
   obtain⟨g1,c1,o1⟩:=Q8i g h1 h3
   have:=ih g1
   rw[List.length_append];omega
structure recOf(m:Q00)(x:Q01×List Q02):Prop where
 len:x.1.C4.length<=400
 tr:Q7r m x.1.C4 x.2 x.1.A0
 outs:x.2.length<=330
 lo:m.A1<=x.1.A0.A1
 hi:x.1.A0.A1<=m.A1+330
 pw:x.1.C4.Pairwise λa b=>a.At<=b.At/\(a.C6.B5=1->a.At<b.At/\(b.C6.B5=1->a.C6.N<=b.C6.N))
 good:good 8 x.1.A0
theorem recorded{m:Q00}{acts:List Int}{x:Q01×List Q02}(a:good 8 m)(b:m.A1<=87)(f2:acts.length<=30)(hx:x=acts.foldl Qj7 ({A0:=m,A9:=0,C4:=[],A6:=[]},[])):recOf m x:=by
 have s0:=vN a b
 have lp:=qo acts (s:=({A0:=m,A9:=0,C4:=[],A6:=[]},[])) s0 (Int.le_refl _) (by omega)
 have ct:=qP acts (s:=({A0:=m,A9:=0,C4:=[],A6:=[]},[])) s0 (Int.le_refl _) (by omega)
 obtain⟨o,on1,L,on2,on3⟩:=xap acts (s:=({A0:=m,A9:=0,C4:=[],A6:=[]},[])) s0 (Int.le_refl _) (by omega)
 have sp:=Zlb acts (s:=({A0:=m,A9:=0,C4:=[],A6:=[]},[])) s0 (Int.le_refl _) (by omega)
 rw[<-hx]at lp ct on1 on2 on3 sp
 have on1:x.2=o:=on1
 have on2:x.1.C4=L:=on2
 have on3:Q7r m L o x.1.A0:=on3
 rw[<-on1,<-on2]at on3
 have sp:x.1.A0.A1<=m.A1+11*acts.length:=sp
 have hlen:x.1.C4.length<=400:=by
   have c0:cntR ({A0:=m,A9:=0,C4:=[],A6:=[]}:Q01)<=1:=by
     have:=vW {A0:=m,A9:=0,C4:=[],A6:=[]}
     show 0+arm {A0:=m,A9:=0,C4:=[],A6:=[]}+0<=1
     omega
   have ct:cntR x.1<=cntR ({A0:=m,A9:=0,C4:=[],A6:=[]}:Q01)+11*acts.length:=ct
   unfold cntR at ct c0
   omega
 have ol:=zp on3 a
 obtain⟨gb,cb,_⟩:=on3.good a
 exact⟨hlen,on3,by omega,cb,by omega,lp.l.pw,gb⟩
theorem splits(kind:Int)(l acts:List Int)(at0:Int)(hat:0<=at0)(hl:l.length*8<=reachBytes):Qfk kind l acts at0/\Qfh kind l acts at0=true:=by
 have aw:(Tree.an Q6u (.lv Qd λx=> .lf x)).w (λr=>r=true):=aw13 rfl
 refine Tree.pp (W:=λr=>r=true) ?_
 unfold Q8g
 refine w_lv λx0 h0=>w_br (λ_=>aw) λhb=> ?_
 obtain⟨f1,f2⟩:=yM h0 hb
 refine qan hl f1 f2 λm x hm g gc hx _=> ?_
 have R:=recorded g gc f2 hx
 have c0:=g.ok.cnt
 have lo:=R.lo
 have hi:=R.hi
 have w1:IntKind.wrap .u64 (x.1.A0.A1-m.A1)=x.1.A0.A1-m.A1:=by rw[IntKind.wrap_u64];omega
 have w2:IntKind.wrap .u64 (x.1.A0.A1-m.A1+1)=x.1.A0.A1-m.A1+1:=by rw[IntKind.wrap_u64];omega
 rw[w1]
 dsimp only
 rw[w2]
 have t0:=Int.tmod_nonneg (x.1.A0.A1-m.A1+1) hat
 have t1:=Int.tmod_lt_of_pos at0 (b:=x.1.A0.A1-m.A1+1) (by omega)
 have w3:IntKind.wrap .u64 (m.A1+Int.tmod at0 (x.1.A0.A1-m.A1+1))=m.A1+Int.tmod at0 (x.1.A0.A1-m.A1+1):=by rw[IntKind.wrap_u64];omega
 rw[w3]
 generalize Int.tmod at0 (x.1.A0.A1-m.A1+1)=d at*
 obtain⟨L1,L2,o1,o2,y,q1,q2,q3,q4,q5,q6⟩:=Zc9 R.tr g (m.A1+d) (by omega) (by omega)
 have gy:=(q3.good g).1
 obtain⟨M1,M2,p1,p2,z,r1,r2,r3,r4,r5,r6⟩:=Zc9 q4 gy x.1.A0.A1 (by omega) (Int.le_refl _)
 have gz:=(r3.good gy).1
 have ll:=R.len
 have hl1:x.1.C4.length=L1.length+L2.length:=by rw[q1,List.length_append]
 have hl2:L2.length=M1.length+M2.length:=by rw[r1,List.length_append]
 have ol:=R.outs
 rw[q2,List.length_append,r2,List.length_append]at ol
 refine w_cn (decide_eq_true (by omega)) ?_
 refine Q0d (cut_w g R.len R.tr (by have:=R.outs;omega) q1 q3 q4 q5 q6 (by omega) R.pw) λx4 e4=> ?_
 rw[e4]
 have dr:List.take (((x.1.C4.length:Nat):Int).toNat-((L1.length:Nat):Int).toNat) (List.drop ((L1.length:Nat):Int).toNat x.1.C4)=L2:=by
   rw[q1,Int.toNat_natCast,Int.toNat_natCast,List.drop_left,List.take_of_length_le];rw[List.length_append];omega
 refine w_br (λh=>by simp at h) λ_=>w_br (λh=> ?_) λ_=>w_br (λh=>absurd (of_decide_eq_true h) (by show¬((L1.length:Nat):Int)>_;omega)) λ_=>w_cn (by simp [Nat.blt];omega) ?_
 . have: ¬y.A1=m.A1+d:=by simpa using h
   exact absurd q5 this
 show(Tree.an (Q94 y (List.take (((x.1.C4.length:Nat):Int).toNat-((L1.length:Nat):Int).toNat) (List.drop ((L1.length:Nat):Int).toNat x.1.C4)) x.1.A0.A1) _).w _
 rw[dr]
 have pw2:L2.Pairwise λa b=>a.At<=b.At/\(a.C6.B5=1->a.At<b.At/\(b.C6.B5=1->a.C6.N<=b.C6.N)):=by
   have:=R.pw
   rw[q1]at this
   exact(List.pairwise_append.1 this).2.1
 refine Q0d (cut_w gy (by omega) q4 (by rw[r2,List.length_append];omega) r1 r3 r4 r5 r6 (by omega) pw2) λx5 e5=> ?_
 have q6': ∀e∈L1++M1,e.At<x.1.A0.A1:=by
   intro e he
   rcases List.mem_append.1 he with he|he
   . have:=q6 e he;omega
   . exact r6 e he
 refine Q0d (cut_w g R.len R.tr (by have:=R.outs;omega) (by rw[q1,r1,List.append_assoc]) (q3.trans r3) r4 r5 q6' (by omega) R.pw) λx6 e6=> ?_
 rw[e5,e6]
 have so:Qfa (o1++p1) (o1++p1)=true:=Tree.post _ (vj (o1++p1) (by rw[List.length_append];omega))
 refine w_br (λ_=>w_br (λ_=>Q0d (zaj z (by have:=gz.len;omega)) λx7 e7=>w_br (λ_=>w_cn (decide_eq_true (by show 40*(0+o1.length)<=_;omega)) (w_cn (decide_eq_true (by show 40*(o1.length+p1.length)<=_;omega)) (w_an (show(o1++p1).length<=1000000000000 by rw[List.length_append];omega) (w_lv λx8 e8=>w_br (λ_=>w_br (λ_=>aw) λh=> ?_) λh=>by rw[e8]at h;exact absurd (so.symm.trans h) (by decide))))) λh=>by rw[e7]at h;cases h) λh=>by simp at h) λh=>by simp at h
 have h: ¬IntKind.i64.wrap (((L1.length:Nat):Int)+((M1.length:Nat):Int))=(((L1++M1).length:Nat):Int):=by simpa using h
 rw[List.length_append,IntKind.wrap_i64]at h
 omega
end Go.Proofs.YtjaifpiopmhmlaaGreat

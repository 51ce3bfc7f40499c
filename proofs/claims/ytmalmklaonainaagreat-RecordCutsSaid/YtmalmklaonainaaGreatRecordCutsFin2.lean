import Derived.Test.YtmalmklaonainaaGreatRecordCutsLaws2
import Derived.Test.YtmalmklaonainaaGreatRecordCutsNewsB
import Derived.Test.YtmalmklaonainaaGreatRecordCutsZg
import Derived.Test.YtmalmklaonainaaGreatRecordCutsZt
import Derived.Test.YtmalmklaonainaaGreatRecordCutsCk
set_option maxRecDepth 100000
set_option linter.all false
namespace Go.Proofs.YtmalmklaonainaaGreat
open Go Go.GD
theorem zF(i:Q0i):U (Q1h i).1:=by
 refine Tree.post (Qgf i) (W:=λr=>U r.1) ?_
 unfold Qgf
 exact w_lv λ_ _=>w_br (λ_=>U_0) (λ_=>U_or _ _)
theorem yc(l:List Int)(hl:l.length*8<=reachBytes):(Qbv l).w (λr=>(r.length:Int)=l.length/\ ∀w∈r,U w):=by
 have hl':l.length*8<=140737488351232:=hl
 have app: ∀{r:List Int} {x:Int},(∀w∈r,U w)->U x-> ∀w∈r++[x],U w:=λhr hx w hw=>by
   rw[List.mem_append]at hw
   rcases hw with hw|hw
   . exact hr w hw
   . rw[List.mem_singleton.1 hw];exact hx
 unfold Qbv
 refine w_lp (inv:=λz=>Qpf l z/\ ∀w∈z.2,U w) (μ:=Qd6 l) ⟨⟨by omega,by simp,by simp⟩,by simp⟩ (Nat.lt_succ_self _) (λv0 hv=> ?_)
 obtain⟨⟨h1,h2,h3⟩,h4⟩:=hv
 refine w_br (λh=> ?_) (λh=> ?_)
 . have h:=of_decide_eq_true h
   have next: ∀x:Int,U x->(Qpf l (IntKind.wrap IntKind.i64 (v0.1+1),v0.2++[x])/\ ∀w∈v0.2++[x],U w)/\Qd6 l (IntKind.wrap IntKind.i64 (v0.1+1),v0.2++[x])<Qd6 l v0:=λx hx=>by
     have hw:IntKind.i64.wrap (v0.1+1)=v0.1+1:=by rw[IntKind.wrap_i64];omega
     rw[hw]
     refine⟨⟨⟨?_,?_,?_⟩,app h4 hx⟩,?_⟩
     . show 0<=v0.1+1;omega
     . show v0.1+1<=l.length;omega
     . show((v0.2++[x]).length:Int)=v0.1+1;simp;omega
     . show(l.length-(v0.1+1)).toNat<(l.length-v0.1).toNat;omega
   have hb:(Nat.beq 1 1&&Nat.blt 0 1&&decide (0<=v0.1/\v0.1<(l.length:Int)))=true:=by simp [Nat.blt];omega
   have hc:decide (4*(v0.2.length+1)<=140737488355328)=true:=decide_eq_true (by omega)
   exact w_cn hb (w_br (λ_=>w_cn hb (w_cn hc (next _ (Q0o _)))) (λ_=>w_cn hb (w_an (xT _) (w_lv λx0 _=>w_lv λx1 hx=>w_cn hc (next _ (by rw[hx];exact zF _))))))
 . have h:=of_decide_eq_false h
   exact⟨by show(v0.2.length:Int)=l.length;omega,h4⟩
theorem Qrw(steps:Int):0<=Q0z steps/\Q0z steps<=4000:=by
 refine Tree.post (Qd steps) (W:=λr=>0<=r/\r<=4000) ?_
 unfold Qd
 refine w_lf ?_
 constructor<;>(repeat' split)<;>omega
theorem Zab{P:Nat}{r:Q00}(h:okR P r)(steps:Int){clock:Int}(hc:U clock)(hl:r.B9.length<=900000)(hq:r.A2.length<=1000)(hu: ∀q∈r.A2,U q.N):
    (Q5h r steps clock).w (λx=>okR P x.1/\x.1.B9.length<=r.B9.length+r.A2.length+8000/\(x.1.A2=r.A2\/x.1.A2=[])/\x.2.length<=4000):=by
  unfold Q5h
  refine Q0e (own_w h (by omega) (by omega)) λx0 hx=> ?_
  obtain⟨k1,k2,k3⟩:=hx
  refine w_lv λx1 _=>w_br (λ_=>⟨k1,by rw[k2];omega, .inl k3,Nat.zero_le _⟩) (λ_=> ?_)
  have hcl:U (if clock>x0.A7 then clock else x0.A7):=by split<;>first|exact hc|exact k1.clock
  refine w_lp (inv:=λz=>0<=z.1/\z.1<=r.A2.length/\okR P z.2/\(z.2.B9.length:Int)<=r.B9.length+z.1/\z.2.A2=r.A2) (μ:=Qbq r steps clock) ⟨by omega,by omega,⟨k1.m,hcl⟩,by rw[k2];omega,k3⟩ (Nat.lt_succ_self _) (λz hz=> ?_)
  obtain⟨z1,z2,z3,z4,z5⟩:=hz
  refine w_br (λhb=> ?_) (λhb=> ?_)
  . have hb:=of_decide_eq_true hb
    rw[z5]at hb
    have hm:(z.2.A2.getD z.1.toNat (RK.dflt RK.apiEvent))∈r.A2:=by
      rw[z5]
      have hlt:z.1.toNat<r.A2.length:=by omega
      rw[List.getD_eq_getElem?_getD,List.getElem?_eq_getElem hlt]
      exact List.getElem_mem hlt
    refine w_cn (by rw[z5];simp [Nat.blt];omega) (Q0e (xv z3 (hu _ hm) (by omega)) λx hx=>w_nx ?_)
    obtain⟨a1,a2,a3⟩:=hx
    show(0<=IntKind.i64.wrap (z.1+1)/\IntKind.i64.wrap (z.1+1)<=r.A2.length/\okR P x/\(x.B9.length:Int)<=r.B9.length+IntKind.i64.wrap (z.1+1)/\x.A2=r.A2)/\(x.A2.length-IntKind.i64.wrap (z.1+1)).toNat<(z.2.A2.length-z.1).toNat
    have ew:IntKind.i64.wrap (z.1+1)=z.1+1:=by rw[IntKind.wrap_i64];omega
    rw[ew,a3,z5]
    exact⟨⟨by omega,by omega,a1,by omega,rfl⟩,by omega⟩
  . refine w_lp (inv:=λy=>0<=y.1/\y.1<=4000/\okR P y.2.1/\(y.2.1.B9.length:Int)<=r.B9.length+r.A2.length+2*y.1/\y.2.1.A2=[]/\(y.2.2.length:Int)<=y.1) (μ:=Q5d r steps clock z) ⟨by omega,by omega,⟨z3.m,z3.clock⟩,by simp;omega,rfl,by simp⟩ (Nat.lt_succ_self _) (λy hy=> ?_)
    obtain⟨y1,y2,y3,y4,y5,y6⟩:=hy
    have ew:IntKind.i64.wrap (y.1+1)=y.1+1:=by rw[IntKind.wrap_i64];omega
    refine w_lv λx3 hx3=>w_br (λhb=> ?_) (λ_=>⟨y3,by show y.2.1.B9.length<=_;omega, .inr y5,by show y.2.2.length<=_;omega⟩)
    have hb:=of_decide_eq_true hb
    have lim:=(Qrw steps).2
    rw[<-hx3]at lim
    refine w_lv λx4 _=>w_br (λ_=>Q0e (xv (e:=⟨_,_,_⟩) y3 U_0 (by omega)) λx5 h5=> ?_) (λ_=> ?_)
    . obtain⟨q1,q2,q3⟩:=h5
      have q3:=q3.trans y5
      refine Q0e (Zf3 _) λs1 _=>w_br (λ_=>⟨q1,by show x5.B9.length<=_;omega, .inr q3,by show y.2.2.length<=_;omega⟩) (λ_=>Q0e (Qvo q1.m.cpu q1.m.mem) λs2 _=>w_br (λ_=>w_cn (decide_eq_true (by omega)) (Q0e (Qsm (r:=⟨x5.A0,x5.A7,x5.B9++[_],x5.A2⟩) ⟨q1.m,q1.clock⟩ q1.clock) λo ho=> ?_)) (λ_=>Q0e (Qsm q1 q1.clock) λo ho=> ?_))
      . obtain⟨a1,⟨⟨a2,a3⟩,a4,a5⟩⟩:=ho
        have e4:o.2.B9.length=x5.B9.length+1:=by rw[a4];simp
        have a5:o.2.A2=[]:=a5.trans q3
        refine w_cn (decide_eq_true (by omega)) (w_nx ?_)
        show(0<=IntKind.i64.wrap (y.1+1)/\IntKind.i64.wrap (y.1+1)<=4000/\okR P _/\(o.2.B9.length:Int)<=r.B9.length+r.A2.length+2*IntKind.i64.wrap (y.1+1)/\o.2.A2=[]/\((y.2.2++o.1).length:Int)<=IntKind.i64.wrap (y.1+1))/\(4000-IntKind.i64.wrap (y.1+1)).toNat<(4000-y.1).toNat
        rw[ew,a5,List.length_append]
        exact⟨⟨by omega,by omega,⟨a2,Q0o _⟩,by omega,rfl,by omega⟩,by omega⟩
      . obtain⟨a1,⟨⟨a2,a3⟩,a4,a5⟩⟩:=ho
        have e4:o.2.B9.length=x5.B9.length:=by rw[a4]
        have a5:o.2.A2=[]:=a5.trans q3
        refine w_cn (decide_eq_true (by omega)) (w_nx ?_)
        show(0<=IntKind.i64.wrap (y.1+1)/\IntKind.i64.wrap (y.1+1)<=4000/\okR P _/\(o.2.B9.length:Int)<=r.B9.length+r.A2.length+2*IntKind.i64.wrap (y.1+1)/\o.2.A2=[]/\((y.2.2++o.1).length:Int)<=IntKind.i64.wrap (y.1+1))/\(4000-IntKind.i64.wrap (y.1+1)).toNat<(4000-y.1).toNat
        rw[ew,a5,List.length_append]
        exact⟨⟨by omega,by omega,⟨a2,Q0o _⟩,by omega,rfl,by omega⟩,by omega⟩
    . refine Q0e (Zf3 _) λs1 _=>w_br (λ_=>⟨y3,by show y.2.1.B9.length<=_;omega, .inr y5,by show y.2.2.length<=_;omega⟩) (λ_=>Q0e (Qvo y3.m.cpu y3.m.mem) λs2 _=>w_br (λ_=>w_cn (decide_eq_true (by omega)) (Q0e (Qsm (r:=⟨y.2.1.A0,y.2.1.A7,y.2.1.B9++[_],y.2.1.A2⟩) ⟨y3.m,y3.clock⟩ y3.clock) λo ho=> ?_)) (λ_=>Q0e (Qsm y3 y3.clock) λo ho=> ?_))
      . obtain⟨a1,⟨⟨a2,a3⟩,a4,a5⟩⟩:=ho
        have e4:o.2.B9.length=y.2.1.B9.length+1:=by rw[a4];simp
        have a5:o.2.A2=[]:=a5.trans y5
        refine w_cn (decide_eq_true (by omega)) (w_nx ?_)
        show(0<=IntKind.i64.wrap (y.1+1)/\IntKind.i64.wrap (y.1+1)<=4000/\okR P _/\(o.2.B9.length:Int)<=r.B9.length+r.A2.length+2*IntKind.i64.wrap (y.1+1)/\o.2.A2=[]/\((y.2.2++o.1).length:Int)<=IntKind.i64.wrap (y.1+1))/\(4000-IntKind.i64.wrap (y.1+1)).toNat<(4000-y.1).toNat
        rw[ew,a5,List.length_append]
        exact⟨⟨by omega,by omega,⟨a2,Q0o _⟩,by omega,rfl,by omega⟩,by omega⟩
      . obtain⟨a1,⟨⟨a2,a3⟩,a4,a5⟩⟩:=ho
        have e4:o.2.B9.length=y.2.1.B9.length:=by rw[a4]
        have a5:o.2.A2=[]:=a5.trans y5
        refine w_cn (decide_eq_true (by omega)) (w_nx ?_)
        show(0<=IntKind.i64.wrap (y.1+1)/\IntKind.i64.wrap (y.1+1)<=4000/\okR P _/\(o.2.B9.length:Int)<=r.B9.length+r.A2.length+2*IntKind.i64.wrap (y.1+1)/\o.2.A2=[]/\((y.2.2++o.1).length:Int)<=IntKind.i64.wrap (y.1+1))/\(4000-IntKind.i64.wrap (y.1+1)).toNat<(4000-y.1).toNat
        rw[ew,a5,List.length_append]
        exact⟨⟨by omega,by omega,⟨a2,Q0o _⟩,by omega,rfl,by omega⟩,by omega⟩
section
variable {P:Nat} {m:Q01} (h:okM P m)
include h
theorem min_w(port:Int){clock:Int}(hc:U clock):(Qkc m port clock).w (λx=>U x.1/\okM P x.2/\x.2.A3=m.A3):=by
 have k:=(⟨h,rfl⟩:okM P m/\m.A3=m.A3)
 obtain⟨h1,h2,h3,h4,h5,h7⟩:=h
 unfold Qkc
 exact w_br (λ_=>w_lv λx hx=>⟨hx▸Qz8 _ _,⟨⟨h1,h2,h3,h4,h5,h7⟩,rfl⟩⟩) (λ_=>w_br (λ_=>⟨hc,k⟩) (λ_=>w_br (λ_=>w_lv λx hx=>⟨hx▸Zc5 _,k⟩) (λ_=>w_br (λ_=>w_lv λx hx=>⟨hx▸Zhy h3 _,k⟩) (λ_=>w_br (λ_=>w_lv λx hx=>⟨hx▸qv h4 _,k⟩) (λ_=>w_lv λx hx=>⟨hx▸Qyq h5.1 _,k⟩)))))
theorem xaB(port:Int){v:Int}(hv:U v):(Qee m port v).w (λx=>x.1.length<=1/\okM P x.2/\x.2.A3=m.A3):=by
 have k:=(⟨h,rfl⟩:okM P m/\m.A3=m.A3)
 obtain⟨h1,h2,h3,h4,h5,h7⟩:=h
 unfold Qee
 exact w_br (λ_=>⟨Nat.le_refl _,k⟩) (λ_=>w_br (λ_=>⟨Nat.zero_le _,k⟩) (λ_=>w_br (λ_=>w_lv λ_ _=>⟨Nat.zero_le _,⟨⟨h1,h2,h3,h4,h5,h7⟩,rfl⟩⟩) (λ_=>w_br (λ_=>Q0e (Zau h2 h3 _ hv _) λx hx=>⟨hx.2,⟨⟨h1,h2,hx.1,h4,h5,h7⟩,rfl⟩⟩) (λ_=>w_br (λ_=>Q0e (Zi h2 h4 _ hv _) λx hx=>⟨hx.2,⟨⟨h1,h2,h3,hx.1,h5,h7⟩,rfl⟩⟩) (λ_=>Q0e (z6 h2 h5 _ hv) λx hx=>⟨Nat.zero_le _,⟨⟨h1,hx.2,h3,h4,hx.1,h7⟩,rfl⟩⟩)))))
theorem Z5g{clock:Int}(hc:U clock):(Q87 m clock).w (λx=>x.1.length<=1/\okM P x.2/\x.2.A3=IntKind.wrap .u64 (m.A3+1)):=by
 obtain⟨h1,h2,h3,h4,h5,h7⟩:=h
 unfold Q87
 refine Q0e (Qkw h1) λx0 c0=>Q0e (do_w c0 h2) λx1 hx=> ?_
 obtain⟨c1,v1,m1⟩:=hx
 refine w_br (λ_=>Zdg (min_w (m:=⟨_,_,_,_,_,_,_,_,_,_⟩) ⟨c1,m1,h3,h4,h5,h7⟩ _ hc) λx2 hx=> ?_) (λ_=>w_br (λ_=>Q0e (xaB (m:=⟨_,_,_,_,_,_,_,_,_,_⟩) ⟨c1,m1,h3,h4,h5,h7⟩ _ v1) λx4 hx=> ?_) (λ_=> ?_))
 . obtain⟨u,⟨k1,k2,k3,k4,k5,k7⟩,k6⟩:=hx
   exact Q0e (Z39 k1 _ u) λx3 h3=>⟨Nat.zero_le _,⟨h3,k2,k3,k4,k5,w0 _⟩,congrArg (λn=>IntKind.wrap .u64 (n+1)) k6⟩
 . obtain⟨u,⟨k1,k2,k3,k4,k5,k7⟩,k6⟩:=hx
   exact⟨u,⟨k1,k2,k3,k4,k5,w0 _⟩,congrArg (λn=>IntKind.wrap .u64 (n+1)) k6⟩
 . repeat'(first
     |exact⟨Nat.zero_le _,⟨c1,m1,h3,h4,h5,w0 _⟩,rfl⟩
     |refine w_br (λ_=> ?_) (λ_=> ?_))
theorem zU:(Qca m).w (λx=>okM P x/\x.A3=m.A3):=by
 obtain⟨h1,h2,h3,h4,h5,h7⟩:=h
 unfold Qca
 exact Q0e (qZ h2) λx hx=>⟨⟨h1,by rw[hx];exact h2,h3,h4,h5,h7⟩,rfl⟩
end
theorem U_all(n:Nat): ∀w∈List.replicate n (0:Int),U w:=λw hw=>by rw[(List.mem_replicate.1 hw).2];exact U_0
theorem zac:okM 0 ⟨⟨⟨0,0,0,0,0,0,0,0,0,0,0,0,0,0,0,0⟩,0,⟨0,0,0,0,0,0,0,0⟩⟩,[],⟨[]⟩,⟨false,0,false⟩,⟨0,0,0,0,0,0,0,[]⟩,⟨0,0,false,0,false,0⟩,⟨0,0⟩,0,false,false⟩:=
 ⟨⟨U_all 16,U_0,U_all 8⟩,⟨rfl,by omega,by omega,λw hw=>by cases hw⟩,⟨U_0,U_0,U_0,U_0⟩,⟨U_0,U_0,U_0,U_0⟩,⟨U_0,U_0⟩,by decide⟩
theorem Zi9{P:Nat}{m:Q01}(h:okM P m)(hc:0<=m.A3):(Q9k m [] 87).w (λx=> ∃Q,okM Q x.1):=by
 have z: ∃Q,okM Q _:=⟨0,zac⟩
 unfold Q9k
 refine w_lv λx0 _=>w_br (λ_=>z) λ_=>w_br (λ_=>z) λ_=>w_br (λ_=>z) λ_=>w_an (show Q7w [] by show([]:List Q0j).length<=1000000000000;decide) (w_lv λx1 _=>w_br (λ_=>z) λ_=>Q0e (zU h) λx2 hx=> ?_)
 refine w_lp (inv:=λv:Q01×List Q09=>okM P v.1/\0<=v.1.A3/\v.2.length+(87-v.1.A3).toNat<=87) (μ:=Qfl m [] 87) ⟨hx.1,by rw[hx.2];exact hc,by rw[hx.2];show 0+_<=87;omega⟩ (Nat.lt_succ_self _) λv0 ⟨a1,a2,a3⟩=> ?_
 refine w_br (λhb=>w_br (λ_=> ?_) (λ_=>⟨P,a1⟩)) (λ_=>⟨P,a1⟩)
 have hb:=of_decide_eq_true hb
 refine w_lp (inv:=λ_=>True) (μ:=Qfy m [] 87 v0) trivial (Nat.lt_succ_self _) λv1 _=> ?_
 refine w_br (λ_=>⟨P,a1⟩) λ_=>Q0e (yZ _) λx3 _=>w_br (λ_=>⟨P,a1⟩) λ_=>Q0e (vu a1.cpu a1.mem) λx4 _=>w_br (λ_=>z) λ_=>Q0e (Z5g a1 U_0) λx5 h5=> ?_
 obtain⟨b1,b2,b3⟩:=h5
 refine w_cn (decide_eq_true (by omega)) (w_nx ?_)
 have e:x5.2.A3=v0.1.A3+1:=by rw[b3,IntKind.wrap_u64];omega
 show(_/\_/\_)/\(_:Nat)<_
 refine⟨⟨b2,by show 0<=x5.2.A3;omega,by show(v0.2++x5.1).length+(87-x5.2.A3).toNat<=87;rw[List.length_append];omega⟩,by show(87-x5.2.A3).toNat<(87-v0.1.A3).toNat;omega⟩
set_option synthInstance.maxHeartbeats 2000000
set_option synthInstance.maxSize 100000
noncomputable section
instance yF (src:(List UInt8)):Ck (Qj7 src):=ckT (t:=Qfj src) (by delta Qfj;infer_instance)
instance xA (s:(List UInt8)):Ck (Qh0 s):=ckT (t:=Qcn s) (by delta Qcn;infer_instance)
instance zA (n:Int):Ck (Q33 n):=let d:Decidable (Q33 n):=(by delta Q33;infer_instance);⟨@decide _ d,@of_decide_eq_true _ d⟩
instance vc (n:Int):Ck (Qft n):=ckT (t:=Q6m n) (by delta Q6m;infer_instance)
instance xac (r:Int):Ck (Qmu r):=ckT (t:=Qdw r) (by delta Qdw;infer_instance)
instance yU (s:(List UInt8)):Ck (Qg8 s):=ckT (t:=Qhy s) (by delta Qhy;infer_instance)
instance Zm7 (op:Int):Ck (Qe0 op):=ckT (t:=Q8u op) (by delta Q8u;infer_instance)
instance Zkx (s:(List UInt8)):Ck (Q34 s):=ckT (t:=Q7x s) (by delta Q7x;infer_instance)
instance qd (what:(List UInt8)):Ck (Q5u what):=ckT (t:=Qb6 what) (by delta Qb6;infer_instance)
instance yA (s:(List UInt8)):Ck (Qi5 s):=ckT (t:=Qcx s) (by delta Qcx;infer_instance)
instance xd (l:(List Q0g)) (p:(List UInt8)):Ck (Q5s l p):=ckT (t:=Qb l p) (by delta Qb;infer_instance)
instance vA (s:(List UInt8)):Ck (Qi2 s):=ckT (t:=Qd2 s) (by delta Qd2;infer_instance)
instance zd (l:(List Q2)) (label:(List UInt8)):Ck (Q3a l label):=let d:Decidable (Q3a l label):=(by delta Q3a;infer_instance);⟨@decide _ d,@of_decide_eq_true _ d⟩
instance vU (src:(List UInt8)):Ck (Qkm src):=ckT (t:=Qho src) (by delta Qho;infer_instance)
instance xV (st:Q0a) (v:Int):Ck (Qa4 st v):=ckT (t:=Qhb st v) (by delta Qhb;infer_instance)
instance Zmb (src:(List UInt8)):Ck (Qad src):=ckT (t:=Q8o src) (by delta Q8o;infer_instance)
theorem qad:Qad ((108:UInt8)::(tblZe0++Z4p++(Z54++Z6j)++(Z51++Z4u++(Z5c++Z5v))++(Z4w++Z6i++(Quz++Quo)++(Qv5++Qtd++(Qtg++Qv2))))):=ck inferInstance (by kernel_rfl)
def inU(x:Int):Bool:=decide (0<=x)&&decide (x<4294967296)
theorem zad(l:List Int)(h:(Nat.ble l.length 160&&List.all l inU)=true):l.length<=160/\ ∀w∈l,U w:=by
 rw[Bool.and_eq_true]at h
 refine⟨Nat.le_of_ble_eq_true h.1,λw hw=> ?_⟩
 have:=List.all_eq_true.1 h.2 w hw
 simp only[inU,Bool.and_eq_true,decide_eq_true_eq]at this
 exact this
theorem yd:(Q1p (List.append (List.append (List.append (List.append Z7q Z4p) (List.append Z54 Z6j)) (List.append (List.append Z51 Z4u) (List.append Z5c Z5v))) (List.append (List.append (List.append Z4w Z6i) (List.append Quz Quo)) (List.append (List.append Qv5 Qtd) (List.append Qtg Qv2))))).1.length<=160/\ ∀w∈(Q1p (List.append (List.append (List.append (List.append Z7q Z4p) (List.append Z54 Z6j)) (List.append (List.append Z51 Z4u) (List.append Z5c Z5v))) (List.append (List.append (List.append Z4w Z6i) (List.append Quz Quo)) (List.append (List.append Qv5 Qtd) (List.append Qtg Qv2))))).1,U w:=zad _ (by kernel_rfl)
end
theorem new_w(i:List Int)(hu: ∀w∈i,U w)(hl:i.length<=256):(Q83 8 4 i).w (λx=>okM 8 x.1/\x.1.A3=0):=by
 unfold Q83
 refine w_br (λh=>absurd h (by decide)) λ_=>w_br (λh=>absurd h (by decide)) λ_=>w_br (λh=>absurd h (by decide)) λ_=>w_br (λh=>absurd h (by decide)) λ_=>w_br (λh=> ?_) λ_=>w_lv λx0 e0=>w_an (Zag _) (w_lv λx1 e1=> ?_)
 . have h:=of_decide_eq_true h
   rw[show IntKind.i64.wrap (8*32)=256 by decide]at h
   omega
 have hx:x1=List.replicate 256 0:=by rw[e1];kernel_rfl
 have c0:Q2i x0:=by rw[e0];exact⟨by
   intro w hw
   simp only[Qnv,Qim,Tree.m,A16.l,List.mem_cons,List.not_mem_nil,or_false,or_self]at hw
   rw[hw];exact U_0,U_0,by
   intro w hw
   simp only[Qnv,Qim,Tree.m,A8.l,List.mem_cons,List.not_mem_nil,or_false,or_self]at hw
   rcases hw with rfl|rfl
   . exact⟨by omega,by omega⟩
   . exact U_0⟩
 have hz: ∀w∈x1,U w:=by rw[hx];exact U_all 256
 have hn:x1.length=256:=by rw[hx,List.length_replicate]
 refine⟨⟨c0,⟨?_,by omega,by omega,λw hw=> ?_⟩,⟨U_0,U_0,U_0,U_0⟩,⟨U_0,U_0,U_0,U_0⟩,⟨U_0,U_0⟩,Int.le_refl _⟩,rfl⟩
 . simp only[List.length_append,List.length_take,List.length_drop,hn];omega
 . rcases List.mem_append.1 hw with h1|h1
   . exact hu w (List.mem_of_mem_take h1)
   . exact hz w (List.mem_of_mem_drop h1)
theorem vd(kind:Int)(l:List Int)(hl:l.length*8<=reachBytes):(Q6j kind l).w (λx=> ∃Q,okM Q x):=by
  have hl':l.length*8<=140737488351232:=hl
  unfold Q6j
  refine w_an (Qhv (by decide)) (w_lv λx0 _=>w_br (λ_=>w_an qad (w_lv λx1 e1=> ?_)) (λ_=> ?_))
  . obtain⟨q1,q2⟩:x1.1.length<=160/\ ∀w∈x1.1,U w:=by rw[e1];exact yd
    refine w_lp (inv:=λv:List Int=>v.length<=160/\ ∀w∈v,U w) (μ:=Qcl kind l) ⟨q1,q2⟩ (Nat.lt_succ_self _) λv0 ⟨a1,a2⟩=> ?_
    refine w_br (λhb=> ?_) (λ_=> ?_)
    . have hb:=of_decide_eq_true hb
      refine w_cn (decide_eq_true (by omega)) (w_nx ?_)
      show(_/\_)/\(_:Nat)<_
      refine⟨⟨by rw[List.length_append,List.length_singleton];omega,λw hw=> ?_⟩,by show 160-(v0++[0]).length<160-v0.length;rw[List.length_append,List.length_singleton];omega⟩
      rcases List.mem_append.1 hw with h1|h1
      . exact a2 w h1
      . rw[List.mem_singleton.1 h1];exact U_0
    . refine Q0e (yc l hl) λx2 ⟨b1,b2⟩=>w_cn (decide_eq_true (by omega)) ?_
      have hu: ∀w∈v0++x2,U w:=λw hw=>(List.mem_append.1 hw).elim (a2 w) (b2 w)
      refine w_br (λhb=> ?_) (λhb=> ?_)
      . have hb:=of_decide_eq_true hb
        refine w_cn (by simp [Nat.blt];rw[List.length_append]at hb;omega) (Q0e (new_w _ (λw hw=>hu w (List.mem_of_mem_drop (List.mem_of_mem_take hw))) (by rw[List.length_take];exact Nat.le_trans (Nat.min_le_left _ _) (by decide))) λx3 ⟨c1,c2⟩=>w_br (λ_=>Q0e (Zi9 c1 (by omega)) λx4 hx=>hx) (λ_=>⟨8,c1⟩))
      . have hb:=of_decide_eq_false hb
        exact Q0e (new_w _ hu (by omega)) λx3 ⟨c1,c2⟩=>w_br (λ_=>Q0e (Zi9 c1 (by omega)) λx4 hx=>hx) (λ_=>⟨8,c1⟩)
  . refine Q0e (yc l hl) λx2 ⟨b1,b2⟩=>w_cn (decide_eq_true (by omega)) ?_
    refine w_br (λhb=> ?_) (λhb=> ?_)
    . have hb:=of_decide_eq_true hb
      refine w_cn (by simp [Nat.blt];omega) (Q0e (new_w _ (λw hw=>b2 w (List.mem_of_mem_drop (List.mem_of_mem_take hw))) (by rw[List.length_take];exact Nat.le_trans (Nat.min_le_left _ _) (by decide))) λx3 ⟨c1,c2⟩=>w_br (λ_=>Q0e (Zi9 c1 (by omega)) λx4 hx=>hx) (λ_=>⟨8,c1⟩))
    . have hb:=of_decide_eq_false hb
      exact Q0e (new_w _ b2 (by omega)) λx3 ⟨c1,c2⟩=>w_br (λ_=>Q0e (Zi9 c1 (by omega)) λx4 hx=>hx) (λ_=>⟨8,c1⟩)
theorem zV{P:Nat}{r:Q00}(h:okR P r)(n:Int)(hl:r.B9.length<=900000)(hq:r.A2.length<=16)(hu: ∀q∈r.A2,U q.N):
   (Q7o r n).w (λx=>okR P x.1/\x.1.B9.length<=r.B9.length+8016/\(x.1.A2.length<=16/\ ∀q∈x.1.A2,U q.N)/\x.2.length<=4000):=by
 unfold Q7o
 refine w_lv λx0 _=>w_br (λ_=>Q0e (zv n) λe he=>Q0e (yS h e (by omega) hq hu he) λx hx=> ?_) (λ_=>w_an (Qhv (by decide)) (w_lv λx3 _=>Q0e (Zab h _ (Q0o _) hl (by omega) hu) λx hx=> ?_))
 . obtain⟨a1,a2,a3,a4⟩:=hx
   exact⟨a1,by rw[a2];omega,⟨a3,a4⟩,Nat.zero_le _⟩
 . obtain⟨a1,a2,a3,a4⟩:=hx
   refine⟨a1,by show x.1.B9.length<=_;omega,?_,a4⟩
   rcases a3 with a3|a3
   . rw[a3];exact⟨hq,hu⟩
   . rw[a3];exact⟨Nat.zero_le _,λq hq=>by cases hq⟩
theorem qaC{P:Nat}{m:Q01}(h:okM P m)(l:List Int)(hl:l.length<=30):(Qbz m l).w (λx=>okR P x.1):=by
 unfold Qbz
 have nr:(Q3k m).w (λx=>okR P x/\x.B9=[]/\x.A2=[]):=by
   unfold Q3k
   exact Q0e (zU h) λx hx=>⟨⟨hx.1,U_0⟩,rfl,rfl⟩
 refine Q0e nr λx0 ⟨n1,n2,n3⟩=> ?_
 refine w_lp (inv:=λv:Int×Q00×List Q09=>0<=v.1/\v.1<=l.length/\okR P v.2.1/\(v.2.1.B9.length:Int)<=8016*v.1/\(v.2.1.A2.length<=16/\ ∀q∈v.2.1.A2,U q.N)/\(v.2.2.length:Int)<=4000*v.1) (μ:=Qhh m l) ⟨Int.le_refl _,by show(0:Int)<=l.length;omega,n1,by rw[n2];exact Int.le_refl _,by rw[n3];exact⟨Nat.zero_le _,λq hq=>by cases hq⟩,Int.le_refl _⟩ (Nat.lt_succ_self _) λv0 ⟨a1,a2,a3,a4,⟨a5,a6⟩,a7⟩=> ?_
 refine w_br (λhb=> ?_) (λ_=>a3)
 have hb:=of_decide_eq_true hb
 refine w_cn (by simp [Nat.blt];omega) (Q0e (zV a3 _ (by omega) a5 a6) λx1 ⟨b1,b2,b3,b4⟩=>w_cn (decide_eq_true (by omega)) (w_nx ?_))
 have e:IntKind.i64.wrap (v0.1+1)=v0.1+1:=by rw[IntKind.wrap_i64];omega
 show(_/\_/\_/\_/\_/\_)/\(_:Nat)<_
 refine⟨⟨by rw[e];omega,by rw[e];omega,b1,by rw[e];show(x1.1.B9.length:Int)<=_;omega,b3,by rw[e,List.length_append];omega⟩,by show(l.length-IntKind.i64.wrap (v0.1+1)).toNat<(l.length-v0.1).toNat;rw[e];omega⟩
noncomputable section
def boot:List Int:=(Q1p (List.append (List.append (List.append (List.append Z7q Z4p) (List.append Z54 Z6j)) (List.append (List.append Z51 Z4u) (List.append Z5c Z5v))) (List.append (List.append (List.append Z4w Z6i) (List.append Quz Quo)) (List.append (List.append Qv5 Qtd) (List.append Qtg Qv2))))).1
def Qj2:List Int:=boot++List.replicate (160-boot.length) 0
theorem run87(t0 t1 t2 t3 t4 t5 t6 t7 t8 t9 t10 t11 t12 t13 t14 t15 t16 t17 t18 t19 t20 t21 t22 t23 t24 t25 t26 t27 t28 t29 t30 t31 t32 t33 t34 t35 t36 t37 t38 t39 t40 t41 t42 t43 t44 t45 t46 t47 t48 t49 t50 t51 t52 t53 t54 t55 t56 t57 t58 t59 t60 t61 t62 t63 t64 t65 t66 t67 t68 t69 t70 t71 t72 t73 t74 t75 t76 t77 t78 t79 t80 t81 t82 t83 t84 t85 t86 t87 t88 t89 t90 t91 t92 t93 t94 t95:Int):(Qed (Q1r 8 4 (Qj2++[t0,t1,t2,t3,t4,t5,t6,t7,t8,t9,t10,t11,t12,t13,t14,t15,t16,t17,t18,t19,t20,t21,t22,t23,t24,t25,t26,t27,t28,t29,t30,t31,t32,t33,t34,t35,t36,t37,t38,t39,t40,t41,t42,t43,t44,t45,t46,t47,t48,t49,t50,t51,t52,t53,t54,t55,t56,t57,t58,t59,t60,t61,t62,t63,t64,t65,t66,t67,t68,t69,t70,t71,t72,t73,t74,t75,t76,t77,t78,t79,t80,t81,t82,t83,t84,t85,t86,t87,t88,t89,t90,t91,t92,t93,t94,t95])).1 [] 87).2.2.2=0:=by kernel_rfl
end
attribute [local irreducible] Q1p
theorem xad(i j:List Int)(hi:i.length<=256)(hj:j.length<=256)(e:i++List.replicate (256-i.length) 0=j++List.replicate (256-j.length) 0):Q1r 8 4 i=Q1r 8 4 j:=by
 have w:IntKind.i64.wrap (8*32)=256:=by decide
 have m:Qr8 8=List.replicate 256 0:=by kernel_rfl
 have d: ∀k:List Int,k.length<=256->decide ((k.length:Int)>256)=false:=λk h=>decide_eq_false (by omega)
 have mem: ∀k:List Int,k.length<=256->List.take (min k.length (List.replicate 256 (0:Int)).length) k++List.drop (min k.length (List.replicate 256 (0:Int)).length) (List.replicate 256 0)=k++List.replicate (256-k.length) 0:=λk h=>by
   rw[List.length_replicate,Nat.min_eq_left h,List.take_length,List.drop_replicate]
 have r:Qr8 8=List.replicate 256 0:=by kernel_rfl
 simp only[Q1r,Q83,Tree.m,w,letv,r,d i hi,d j hj]
 simp only[mem i hi,mem j hj,e]
theorem list96(t:List Int)(ht:t.length=96):t=[t.getD 0 0,t.getD 1 0,t.getD 2 0,t.getD 3 0,t.getD 4 0,t.getD 5 0,t.getD 6 0,t.getD 7 0,t.getD 8 0,t.getD 9 0,t.getD 10 0,t.getD 11 0,t.getD 12 0,t.getD 13 0,t.getD 14 0,t.getD 15 0,t.getD 16 0,t.getD 17 0,t.getD 18 0,t.getD 19 0,t.getD 20 0,t.getD 21 0,t.getD 22 0,t.getD 23 0,t.getD 24 0,t.getD 25 0,t.getD 26 0,t.getD 27 0,t.getD 28 0,t.getD 29 0,t.getD 30 0,t.getD 31 0,t.getD 32 0,t.getD 33 0,t.getD 34 0,t.getD 35 0,t.getD 36 0,t.getD 37 0,t.getD 38 0,t.getD 39 0,t.getD 40 0,t.getD 41 0,t.getD 42 0,t.getD 43 0,t.getD 44 0,t.getD 45 0,t.getD 46 0,t.getD 47 0,t.getD 48 0,t.getD 49 0,t.getD 50 0,t.getD 51 0,t.getD 52 0,t.getD 53 0,t.getD 54 0,t.getD 55 0,t.getD 56 0,t.getD 57 0,t.getD 58 0,t.getD 59 0,t.getD 60 0,t.getD 61 0,t.getD 62 0,t.getD 63 0,t.getD 64 0,t.getD 65 0,t.getD 66 0,t.getD 67 0,t.getD 68 0,t.getD 69 0,t.getD 70 0,t.getD 71 0,t.getD 72 0,t.getD 73 0,t.getD 74 0,t.getD 75 0,t.getD 76 0,t.getD 77 0,t.getD 78 0,t.getD 79 0,t.getD 80 0,t.getD 81 0,t.getD 82 0,t.getD 83 0,t.getD 84 0,t.getD 85 0,t.getD 86 0,t.getD 87 0,t.getD 88 0,t.getD 89 0,t.getD 90 0,t.getD 91 0,t.getD 92 0,t.getD 93 0,t.getD 94 0,t.getD 95 0]:=by
 apply List.ext_getElem
 . rw[ht];rfl
 . intro i h1 h2
   have e: ∀j (hj:j<96),[t.getD 0 0,t.getD 1 0,t.getD 2 0,t.getD 3 0,t.getD 4 0,t.getD 5 0,t.getD 6 0,t.getD 7 0,t.getD 8 0,t.getD 9 0,t.getD 10 0,t.getD 11 0,t.getD 12 0,t.getD 13 0,t.getD 14 0,t.getD 15 0,t.getD 16 0,t.getD 17 0,t.getD 18 0,t.getD 19 0,t.getD 20 0,t.getD 21 0,t.getD 22 0,t.getD 23 0,t.getD 24 0,t.getD 25 0,t.getD 26 0,t.getD 27 0,t.getD 28 0,t.getD 29 0,t.getD 30 0,t.getD 31 0,t.getD 32 0,t.getD 33 0,t.getD 34 0,t.getD 35 0,t.getD 36 0,t.getD 37 0,t.getD 38 0,t.getD 39 0,t.getD 40 0,t.getD 41 0,t.getD 42 0,t.getD 43 0,t.getD 44 0,t.getD 45 0,t.getD 46 0,t.getD 47 0,t.getD 48 0,t.getD 49 0,t.getD 50 0,t.getD 51 0,t.getD 52 0,t.getD 53 0,t.getD 54 0,t.getD 55 0,t.getD 56 0,t.getD 57 0,t.getD 58 0,t.getD 59 0,t.getD 60 0,t.getD 61 0,t.getD 62 0,t.getD 63 0,t.getD 64 0,t.getD 65 0,t.getD 66 0,t.getD 67 0,t.getD 68 0,t.getD 69 0,t.getD 70 0,t.getD 71 0,t.getD 72 0,t.getD 73 0,t.getD 74 0,t.getD 75 0,t.getD 76 0,t.getD 77 0,t.getD 78 0,t.getD 79 0,t.getD 80 0,t.getD 81 0,t.getD 82 0,t.getD 83 0,t.getD 84 0,t.getD 85 0,t.getD 86 0,t.getD 87 0,t.getD 88 0,t.getD 89 0,t.getD 90 0,t.getD 91 0,t.getD 92 0,t.getD 93 0,t.getD 94 0,t.getD 95 0][j]'hj=t.getD j 0:=by
     intro j hj
     have:[t.getD 0 0,t.getD 1 0,t.getD 2 0,t.getD 3 0,t.getD 4 0,t.getD 5 0,t.getD 6 0,t.getD 7 0,t.getD 8 0,t.getD 9 0,t.getD 10 0,t.getD 11 0,t.getD 12 0,t.getD 13 0,t.getD 14 0,t.getD 15 0,t.getD 16 0,t.getD 17 0,t.getD 18 0,t.getD 19 0,t.getD 20 0,t.getD 21 0,t.getD 22 0,t.getD 23 0,t.getD 24 0,t.getD 25 0,t.getD 26 0,t.getD 27 0,t.getD 28 0,t.getD 29 0,t.getD 30 0,t.getD 31 0,t.getD 32 0,t.getD 33 0,t.getD 34 0,t.getD 35 0,t.getD 36 0,t.getD 37 0,t.getD 38 0,t.getD 39 0,t.getD 40 0,t.getD 41 0,t.getD 42 0,t.getD 43 0,t.getD 44 0,t.getD 45 0,t.getD 46 0,t.getD 47 0,t.getD 48 0,t.getD 49 0,t.getD 50 0,t.getD 51 0,t.getD 52 0,t.getD 53 0,t.getD 54 0,t.getD 55 0,t.getD 56 0,t.getD 57 0,t.getD 58 0,t.getD 59 0,t.getD 60 0,t.getD 61 0,t.getD 62 0,t.getD 63 0,t.getD 64 0,t.getD 65 0,t.getD 66 0,t.getD 67 0,t.getD 68 0,t.getD 69 0,t.getD 70 0,t.getD 71 0,t.getD 72 0,t.getD 73 0,t.getD 74 0,t.getD 75 0,t.getD 76 0,t.getD 77 0,t.getD 78 0,t.getD 79 0,t.getD 80 0,t.getD 81 0,t.getD 82 0,t.getD 83 0,t.getD 84 0,t.getD 85 0,t.getD 86 0,t.getD 87 0,t.getD 88 0,t.getD 89 0,t.getD 90 0,t.getD 91 0,t.getD 92 0,t.getD 93 0,t.getD 94 0,t.getD 95 0]=(List.range 96).map (λk=>t.getD k 0):=rfl
     simp only[this,List.getElem_map,List.getElem_range]
   rw[e i (by omega),List.getD_eq_getElem?_getD,List.getElem?_eq_getElem h1]
   rfl
theorem zaC(t:List Int)(ht:t.length=96):(Qed (Q1r 8 4 (Qj2++t)).1 [] 87).2.2.2=0:=by
 rw[list96 t ht]
 exact run87 _ _ _ _ _ _ _ _ _ _ _ _ _ _ _ _ _ _ _ _ _ _ _ _ _ _ _ _ _ _ _ _ _ _ _ _ _ _ _ _ _ _ _ _ _ _ _ _ _ _ _ _ _ _ _ _ _ _ _ _ _ _ _ _ _ _ _ _ _ _ _ _ _ _ _ _ _ _ _ _ _ _ _ _ _ _ _ _ _ _ _ _ _ _ _ _
theorem qae:Qj2.length=160:=by
 have h:boot.length<=160:=yd.1
 unfold Qj2
 rw[List.length_append,List.length_replicate];omega
def out(f:Int)(m m':List Int):Prop:= ∀j:Nat,¬(f*32<=j/\(j:Int)<f*32+32)->m'.getD j 0=m.getD j 0
theorem Qnt(f:Int)(m:List Int):out f m m:=λ_ _=>rfl
theorem getDset(l:List Int)(i j:Nat)(v:Int)(h:i≠j):(l.set i v).getD j 0=l.getD j 0:=by
 simp only[List.getD_eq_getElem?_getD,List.getElem?_set_ne h]
theorem Q3d{P:Nat}{m:List Int}(h:Q0y P m):Q0q m=P:=by
 obtain⟨h1,h2,h3,_⟩:=h
 simp only[Q0q,Q89,Tree.m]
 have e:(m.length:Int)=32*P:=by omega
 rw[e]
 have e1:(Int.tmod (32*(P:Int)) 32 !=0)=false:=by simp [Int.mul_tmod_right]
 have e2:decide ((32*(P:Int))>1024)=false:=decide_eq_false (by omega)
 rw[e1,e2]
 simp only[cond_false]
 rw[Int.mul_tdiv_cancel_left _ (by decide),IntKind.wrap_i64];omega
theorem yV{P:Nat}{m:List Int}(h:Q0y P m)(f:Int):Q5 m f=true->0<=f/\f<P:=by
 have hp:=Q3d h
 simp only[Q5,Q8,Tree.m,letv,hp]
 cases h1:decide (f>=0)
 . intro h;cases h
 . intro h;exact⟨of_decide_eq_true h1,of_decide_eq_true h⟩
theorem Z0{P:Nat}{m:List Int}(h:Q0y P m)(f:Int)(s:List UInt8):(Q28 m f s).w (λr=>Q0y P r.1/\out f m r.1/\(r.2=false->r.1=m)):=by
 have hcl:Q03 m=m:=rfl
 have h2:=h.p2
 unfold Q28
 refine w_an (Q94 h) (w_lv λx0 hx0=>w_lv λx1 hx1=> ?_)
 rw[hcl]at hx0;subst hx0
 refine w_br (λ_=>⟨h,Qnt _ _,λ_=>rfl⟩) λhb=>w_br (λ_=>⟨h,Qnt _ _,λ_=>rfl⟩) λhs=> ?_
 have hb:x1=true:=by simpa using hb
 obtain⟨f0,f1⟩:=yV h f (hx1.symm.trans hb)
 have hs:(s.length:Int)=128:=by simpa using hs
 refine w_lp (inv:=λz:Int×List Int=>0<=z.1/\z.1<=32/\Q0y P z.2/\out f x0 z.2) (μ:=Qaq x0 f s) ⟨show(0:Int)<=0 by decide,show(0:Int)<=32 by decide,h,Qnt _ _⟩ (Nat.lt_succ_self _) λz ⟨z1,z2,z3,z4⟩=> ?_
 refine w_br (λhb=> ?_) (λ_=>⟨z3,z4,λh=>by cases h⟩)
 have hb:=of_decide_eq_true hb
 have e1:IntKind.i64.wrap (4*z.1)=4*z.1:=by rw[IntKind.wrap_i64];omega
 have e2:IntKind.i64.wrap (IntKind.i64.wrap (4*z.1)+4)=4*z.1+4:=by rw[IntKind.wrap_i64,IntKind.wrap_i64];omega
 have e3:IntKind.i64.wrap (IntKind.i64.wrap (f*32)+z.1)=f*32+z.1:=by rw[IntKind.wrap_i64,IntKind.wrap_i64];omega
 have hl:=z3.len
 have hlen:(List.take (Int.toNat (IntKind.i64.wrap (IntKind.i64.wrap (4*z.1)+4))-Int.toNat (IntKind.i64.wrap (4*z.1))) (List.drop (Int.toNat (IntKind.i64.wrap (4*z.1))) s)).length=4:=by
   rw[e2,e1,List.length_take,List.length_drop];omega
 refine w_cn (decide_eq_true (by rw[e2,e1];omega)) ?_
 refine w_cn (decide_eq_true (by rw[hlen];decide)) (w_cn (decide_eq_true (by rw[hlen];decide)) (w_cn (decide_eq_true (by rw[hlen];decide)) (w_cn (decide_eq_true (by rw[hlen];decide)) (w_cn (by rw[e3];simp [Nat.blt];omega) (w_nx ?_)))))
 show(_/\_/\Q0y P (List.set _ _ _)/\out f x0 (List.set _ _ _))/\(_:Nat)<_
 have ew:IntKind.i64.wrap (z.1+1)=z.1+1:=by rw[IntKind.wrap_i64];omega
 rw[e3]
 refine⟨⟨by rw[ew];omega,by rw[ew];omega,⟨by rw[List.length_set];exact hl,z3.p1,z3.p2,Z2y z3.u (U_or _ _) _⟩,λj hj=> ?_⟩,by show(32-IntKind.i64.wrap (z.1+1)).toNat<(32-z.1).toNat;rw[ew];omega⟩
 rw[getDset _ _ _ _ (by omega)]
 exact z4 j hj
theorem xaC(w:List Int)(h:w.length<=32):(Q4l w).w (λr=>r.length=4*w.length):=by
 have e0:IntKind.i64.wrap (4*(w.length:Int))=4*w.length:=by rw[IntKind.wrap_i64];omega
 unfold Q4l
 refine w_cn (by rw[e0];simp [Nat.blt,D.plain];omega) ?_
 refine w_lp (inv:=λz:Int×List Int=>0<=z.1/\z.1<=w.length/\(z.2.length:Int)=4*z.1) (μ:=Q7 w) ⟨by decide,by show(0:Int)<=w.length;omega,rfl⟩ (Nat.lt_succ_self _) λz ⟨z1,z2,z3⟩=> ?_
 refine w_br (λhb=> ?_) (λhb=> ?_)
 . have hb:=of_decide_eq_true hb
   have ew:IntKind.i64.wrap (z.1+1)=z.1+1:=by rw[IntKind.wrap_i64];omega
   refine w_cn (by simp [Nat.blt];omega) (w_cn (decide_eq_true (by omega)) (w_nx ?_))
   show(_/\_/\_)/\(_:Nat)<_
   refine⟨⟨by rw[ew];omega,by rw[ew];omega,by rw[ew,List.length_append];simp only[List.length_cons,List.length_nil];omega⟩,by show(w.length-IntKind.i64.wrap (z.1+1)).toNat<(w.length-z.1).toNat;rw[ew];omega⟩
 . have hb:=of_decide_eq_false hb
   show(bytesOf z.2).length=_
   rw[Qgu];omega
theorem Zh6{P:Nat}{m:List Int}(h:Q0y P m)(f:Int):(Q3r m f).w (λr=>0<=f->f<P->r.1.length=128):=by
 have hl:=h.len
 have h2:=h.p2
 unfold Q3r
 refine w_lv λx0 hx0=>w_br (λhb=>λf0 f1=> ?_) (λhb=> ?_)
 . have hp:=Q3d h
   have hb:x0=false:=by simpa using hb
   rw[hb]at hx0
   simp only[Q5,Q8,Tree.m,letv,hp]at hx0
   rw[decide_eq_true f0]at hx0
   exact absurd f1 (of_decide_eq_false hx0.symm)
 . have hb:x0=true:=by simpa using hb
   obtain⟨f0,f1⟩:=yV h f (hx0.symm.trans hb)
   have e1:IntKind.i64.wrap (f*32)=f*32:=by rw[IntKind.wrap_i64];omega
   have e2:IntKind.i64.wrap (IntKind.i64.wrap (f*32)+32)=f*32+32:=by rw[IntKind.wrap_i64,IntKind.wrap_i64];omega
   have hlen:(List.take (Int.toNat (IntKind.i64.wrap (IntKind.i64.wrap (f*32)+32))-Int.toNat (IntKind.i64.wrap (f*32))) (List.drop (Int.toNat (IntKind.i64.wrap (f*32))) m)).length=32:=by
     rw[e2,e1,List.length_take,List.length_drop];omega
   refine w_cn (by rw[e2,e1];simp [Nat.blt];omega) ?_
   refine w_an (by show List.length _<=1000000000000;rw[hlen];decide) (w_lv λx1 h1=> ?_)
   have h1:x1.length=4*(List.take (Int.toNat (IntKind.i64.wrap (IntKind.i64.wrap (f*32)+32))-Int.toNat (IntKind.i64.wrap (f*32))) (List.drop (Int.toNat (IntKind.i64.wrap (f*32))) m)).length:=by rw[h1];exact(Tree.pp (xaC _ (Nat.le_of_eq hlen))).2
   intro _ _
   show x1.length=128
   rw[h1,hlen]
theorem Zj5{f:Int}(hf:U f){P:Nat}(hP:P<=32)(h:decide (IntKind.u64.wrap f<IntKind.u64.wrap (P:Int))=true):0<=f/\f<P:=by
 have h:=of_decide_eq_true h
 obtain⟨h1,h2⟩:=hf
 rw[IntKind.wrap_u64,IntKind.wrap_u64,Int.emod_eq_of_lt h1 (by omega),Int.emod_eq_of_lt (by omega) (by omega)]at h
 exact⟨h1,h⟩
theorem Zjj{P:Nat}{m:List Int}(h:Q0y P m){d:Q0d}(hd:Q8j d)(e:Q08):(Q44 d m e).w (λr=>Q8j r.1/\Q0y P r.2.1/\out d.B3 m r.2.1/\(r.2.2=false->r.2.1=m)/\(∀p,Q1d d p=true->Q1d r.1 p=true)):=by
 have hcl:Q03 m=m:=rfl
 have keep: ∀b:Bool,Q8j d/\Q0y P m/\out d.B3 m m/\(b=false->m=m)/\(∀p,Q1d d p=true->Q1d d p=true):=λb=>⟨hd,h,Qnt _ _,λ_=>rfl,λ_ h=>h⟩
 have blk: ∀{p:Int},Q1d d p=true->decide (d.Blocks>64)=false:=fun{p} hm=>by
   cases hb:decide (d.Blocks>64)
   . rfl
   . have:Q1d d p=false:=by simp only[Q1d,Q5r,Tree.m];rw[hb];rfl
     rw[this]at hm;cases hm
 have m2: ∀p,Q1d d p=true->Q1d {Blocks:=d.Blocks,C1:=d.C1,Frame:=d.Frame,C0:=2,D7:=0,B5:=0,B3:=0,C3:=[]} p=true:=λp hm=>by
   simp only[Q1d,Q5r,Tree.m];rw[blk hm];rfl
 have m3: ∀p,Q1d d p=true->Q1d {Blocks:=d.Blocks,C1:=d.C1,Frame:=d.Frame,C0:=3,D7:=0,B5:=0,B3:=0,C3:=[]} p=true:=λp hm=>by
   simp only[Q1d,Q5r,Tree.m];rw[blk hm];rfl
 unfold Q44
 refine w_br (λ_=>w_an (Q94 h) (w_lv λx hx=>by rw[hcl]at hx;subst hx;exact keep _)) λ_=>w_br (λ_=>w_an (Q94 h) (w_lv λx hx=>by rw[hcl]at hx;subst hx;exact keep _)) λ_=>w_br (λ_=>w_an (Q94 h) (w_lv λx hx=>by rw[hcl]at hx;subst hx;exact keep _)) λ_=>w_an (Q94 h) (w_lv λx3 hx3=> ?_)
 rw[hcl]at hx3;subst hx3
 have fin: ∀{m':List Int},Q0y P m'->out d.B3 x3 m'->(Tree.br (e.N==1) (.lf (({Blocks:=d.Blocks,C1:=d.C1,Frame:=d.Frame,C0:=2,D7:=0,B5:=0,B3:=0,C3:=[]}:Q0d),m',true)) (.lf (({Blocks:=d.Blocks,C1:=d.C1,Frame:=d.Frame,C0:=3,D7:=0,B5:=0,B3:=0,C3:=[]}:Q0d),m',true))).w (λr=>Q8j r.1/\Q0y P r.2.1/\out d.B3 x3 r.2.1/\(r.2.2=false->r.2.1=x3)/\(∀p,Q1d d p=true->Q1d r.1 p=true)):=λhm ho=>
   w_br (λ_=>⟨⟨hd.block,hd.frame,U_0,U_0⟩,hm,ho,(λh=>by cases h),m2⟩) (λ_=>⟨⟨hd.block,hd.frame,U_0,U_0⟩,hm,ho,(λh=>by cases h),m3⟩)
 have nod:(Tree.br (!decide (e.C6=[])) (.lf (d,x3,false)) (Tree.br (e.N==1) (.lf (({Blocks:=d.Blocks,C1:=d.C1,Frame:=d.Frame,C0:=2,D7:=0,B5:=0,B3:=0,C3:=[]}:Q0d),x3,true)) (.lf (({Blocks:=d.Blocks,C1:=d.C1,Frame:=d.Frame,C0:=3,D7:=0,B5:=0,B3:=0,C3:=[]}:Q0d),x3,true)))).w (λr=>Q8j r.1/\Q0y P r.2.1/\out d.B3 x3 r.2.1/\(r.2.2=false->r.2.1=x3)/\(∀p,Q1d d p=true->Q1d r.1 p=true)):=
   w_br (λ_=>keep _) (λ_=>fin h (Qnt _ _))
 refine w_br (λ_=>w_br (λ_=>w_lv λx4 hx4=>w_br (λ_=>keep _) λhb=> ?_) (λ_=>nod)) (λ_=>nod)
 have hp:=Q3d h
 have hb:x4=true:=by simpa using hb
 rw[hb]at hx4
 simp only[Q8t,Qcg,Tree.m,letv,hp]at hx4
 obtain⟨f0,f1⟩:=Zj5 hd.opFrame h.p2 hx4.symm
 have ef:IntKind.i64.wrap d.B3=d.B3:=by have:=h.p2;rw[IntKind.wrap_i64];omega
 refine Q0e (Z0 h _ _) λx5 ⟨h5,o5,k5⟩=> ?_
 rw[ef]at o5
 exact w_br (λhf=>⟨hd,h5,o5,λ_=>k5 (by simpa using hf),λ_ h=>h⟩) (λ_=>fin h5 o5)
theorem qe{P:Nat}{m:List Int}(h:Q0y P m){n:Q0l}(hn:Qih n)(frame:List UInt8):(Q5z n m frame).w (λr=>Qih r.1/\Q0y P r.2.1/\out n.B8 m r.2.1/\(r.2.2=false->r.2.1=m)/\(∀p,Q5p n p=true->Q5p r.1 p=true)):=by
 have hcl:Q03 m=m:=rfl
 have keep:Qih n/\Q0y P m/\out n.B8 m m/\(false=false->m=m)/\(∀p,Q5p n p=true->Q5p n p=true):=⟨hn,h,Qnt _ _,λ_=>rfl,λ_ h=>h⟩
 unfold Q5z
 refine w_br (λ_=>w_an (Q94 h) (w_lv λx hx=>by rw[hcl]at hx;subst hx;exact keep)) λhpo=>w_br (λ_=>w_an (Q94 h) (w_lv λx hx=>by rw[hcl]at hx;subst hx;exact keep)) λl1=>w_br (λ_=>w_an (Q94 h) (w_lv λx hx=>by rw[hcl]at hx;subst hx;exact keep)) λl2=>w_lv λx3 hx3=>w_br (λ_=>w_an (Q94 h) (w_lv λx hx=>by rw[hcl]at hx;subst hx;exact keep)) λhb=> ?_
 have l1:=of_decide_eq_false l1
 have l2:=of_decide_eq_false l2
 have hp:=Q3d h
 have hb:x3=true:=by simpa using hb
 rw[hb]at hx3
 simp only[Q9t,Qfd,Tree.m,letv,hp]at hx3
 obtain⟨f0,f1⟩:=Zj5 hn.buffer h.p2 hx3.symm
 have ef:IntKind.i64.wrap n.B8=n.B8:=by have:=h.p2;rw[IntKind.wrap_i64];omega
 refine Q0e (Zh6 h _) λx5 h5=> ?_
 rw[ef]at h5
 have h5:=h5 f0 f1
 have hmax:(maxLen:Nat)=9223372036854775807:=rfl
 refine w_cn (decide_eq_true (by omega)) (w_cn (decide_eq_true (by simp only[List.length_take,List.length_drop,hmax];omega)) (Q0e (Z0 h _ _) λx6 ⟨h6,o6,_⟩=> ?_))
 rw[ef]at o6
 have hg:IntKind.u32.wrap (frame.length:Int)=frame.length:=by rw[IntKind.wrap_u32];omega
 refine⟨⟨hn.frame,hn.len,U_0,Q0o _⟩,h6,o6,(λh=>by cases h),λp _=> ?_⟩
 simp only[Q5p,Qk3,Tree.m]
 rw[hg,decide_eq_true (show(frame.length:Int)>=1 by omega),decide_eq_true (show(frame.length:Int)<=128 by omega)]
 rfl
theorem zae(c:Q0b)(b:Int):(Q6k c b).w (λr=>Q27 c=true->Q27 r.1=true):=by
 have hmax:(maxLen:Nat)=9223372036854775807:=rfl
 unfold Q6k
 refine w_br (λ_=>λh=>h) (λhb=> ?_)
 have hb:=of_decide_eq_false hb
 refine w_cn (decide_eq_true (by rw[hmax];omega)) ?_
 intro _
 show decide (((c.D0++[_]).length:Int)<=16)=true
 rw[List.length_append,List.length_singleton]
 exact decide_eq_true (by omega)
theorem vF(t:Q0f)(h:Q41 t=true):Q41 (Qjq t).1=true:=by
 simp only[Qjq,Qn6,Tree.m]
 cases ha:t.D3
 . exact h
 . rfl
theorem xe(m:Q01):Q0t m=(Q27 m.A4&&(Q41 m.B0&&(Q1d m.B1 (Q0q m.Mem)&&(Q5p m.C4 (Q0q m.Mem)&&Q2d m.A1 (Q0q m.Mem))))):=by
 simp only[Q0t,Q1m,Tree.m,letv]
 cases Q27 m.A4<;>cases Q41 m.B0<;>cases Q1d m.B1 (Q0q m.Mem)<;>cases Q5p m.C4 (Q0q m.Mem)<;>rfl
theorem qaD{b c:Q05}(h:c.C2=b.C2)(p:Int):Q2d c p=Q2d b p:=by
 simp only[Q2d,Q3s,Tree.m,h]
theorem cnd{a x y:Bool}(h:x=true->y=true):(bif a then false else x)=true->(bif a then false else y)=true:=by cases a<;>simp_all
def chain(b1 b2 b3 b4 b5 b6 b7 w h dev:Bool):Bool:=bif b1 then false else bif b2 then false else bif b3 then false else bif b4 then false else bif b5 then false else bif b6 then false else bif b7 then false else bif w then(bif h then false else dev) else dev
theorem Zla{b1 b2 b3 b4 b5 b6 b7 w h d d':Bool}(hd:d=true->d'=true):chain b1 b2 b3 b4 b5 b6 b7 w h d=true->chain b1 b2 b3 b4 b5 b6 b7 w h d'=true:=by
 refine cnd (cnd (cnd (cnd (cnd (cnd (cnd ?_))))))
 cases w
 . exact hd
 . cases h
   . exact hd
   . exact λh=>h
def mayC(p:Int)(c:Q02)(ct:Int)(w h dev:Bool):Bool:=chain (p==0) (c.X.a0 !=0) (decide (c.B4.a0>31)) (decide (c.B4.a7>31)) (decide (c.B4.a6>255)) (Int.tmod c.B4.a1 4 !=0) (decide (ct>1152921504606846976)) w h dev
theorem ye{p:Int}{c:Q02}{ct:Int}{w h d d':Bool}(hd:d=true->d'=true)(g:mayC p c ct w h d=true):mayC p c ct w h d'=true:=Zla hd g
theorem vV(m:Q01):Q1c m=mayC (Q0q m.Mem) m.B2 m.A3 m.A6 m.A9 (Q0t m):=rfl
theorem Qs9{m n:Q01}(hp:Q0q n.Mem=Q0q m.Mem)(hcpu:n.B2=m.B2)(hct:n.A3=m.A3)(hw:n.A6=m.A6)(hh:n.A9=m.A9)
   (hc:Q27 m.A4=true->Q27 n.A4=true) (ht:Q41 m.B0=true->Q41 n.B0=true) (hd: ∀p,Q1d m.B1 p=true->Q1d n.B1 p=true) (hn: ∀p,Q5p m.C4 p=true->Q5p n.C4 p=true) (hb:n.A1.C2=m.A1.C2) (h:Q1c m=true):Q1c n=true:=by
 have dev:Q0t m=true->Q0t n=true:=λh=>by
   rw[xe]at h⊢
   simp only[Bool.and_eq_true]at h⊢
   rw[hp,qaD hb]
   exact⟨hc h.1,ht h.2.1,hd _ h.2.2.1,hn _ h.2.2.2.1,h.2.2.2.2⟩
 rw[vV]at h⊢
 rw[hp,hcpu,hct,hw,hh]
 exact ye dev h
section
variable {P:Nat} {m:List Int} (h:Q0y P m)
include h
theorem dpage{f:Int}(hf:U f){b:Bool}(hx:b=Q8t m f)(hb:b=true):0<=f/\f<P:=by
 have hp:=Q3d h
 rw[hb]at hx
 simp only[Q8t,Qcg,Tree.m,letv,hp]at hx
 exact Zj5 hf h.p2 hx.symm
theorem npage{f:Int}(hf:U f){b:Bool}(hx:b=Q9t m f)(hb:b=true):0<=f/\f<P:=by
 have hp:=Q3d h
 rw[hb]at hx
 simp only[Q9t,Qfd,Tree.m,letv,hp]at hx
 exact Zj5 hf h.p2 hx.symm
def keepD(P:Nat)(d d':Q0d):Prop:=Q8j d'/\(Q1d d P=true->Q1d d' P=true)
theorem qf{d:Q0d}(hd:Q8j d){cmd:Int}(hc:cmd=1\/cmd=2)(at0:Int):(Q7c d m cmd at0).w (λr=>keepD P d r.1/\r.2.length<=1):=by
 have h2:=h.p2
 have st3:(d.C0 !=0)=false->keepD P d {Blocks:=d.Blocks,C1:=d.C1,Frame:=d.Frame,C0:=3,D7:=d.D7,B5:=d.B5,B3:=d.B3,C3:=d.C3}:=λhs=>by
   have hs:d.C0=0:=by simpa using hs
   refine⟨⟨hd.block,hd.frame,hd.opBlock,hd.opFrame⟩,λhm=> ?_⟩
   simp only[Q1d,Q5r,Tree.m,hs]at hm⊢
   exact hm
 have blk:Q1d d P=true->decide (d.Blocks>64)=false:=λhm=>by
   cases hb:decide (d.Blocks>64)
   . rfl
   . have:Q1d d P=false:=by simp only[Q1d,Q5r,Tree.m];rw[hb];rfl
     rw[this]at hm;cases hm
 unfold Q7c
 refine w_br (λ_=>⟨⟨hd,λh=>h⟩,Nat.zero_le _⟩) λhs=>w_br (λ_=>⟨st3 hs,Nat.zero_le _⟩) λhb=>w_lv λx0 hx=>w_br (λ_=>⟨st3 hs,Nat.zero_le _⟩) λhp=> ?_
 have hb:=of_decide_eq_false hb
 obtain⟨f0,f1⟩:=dpage h hd.frame hx (by simpa using hp)
 have ef:IntKind.i64.wrap d.Frame=d.Frame:=by rw[IntKind.wrap_i64];omega
 have e1:decide (d.C1<d.Blocks)=true:=decide_eq_true (by omega)
 have e2:decide (IntKind.i64.wrap d.Frame<(P:Int))=true:=by rw[ef];exact decide_eq_true f1
 refine w_br (λhcm=>Q0e (Zh6 h _) λx1 h1=> ?_) (λhcm=> ?_)
 . rw[ef]at h1
   have h1:=h1 f0 f1
   have hcm:=eq_of_beq hcm
   subst hcm
   refine w_lv λx2 _=>⟨⟨⟨hd.block,hd.frame,hd.block,hd.frame⟩,λhm=> ?_⟩,Nat.le_refl _⟩
   simp only[Q1d,Q5r,Q8y,Q77,Tree.m,letv,blk hm,e1,e2,h1]
   rfl
 . have hc:cmd=1:=by
     rcases hc with h|h
     . exact h
     . rw[h]at hcm;exact absurd hcm (by decide)
   subst hc
   refine w_lv λx2 _=>⟨⟨⟨hd.block,hd.frame,hd.block,hd.frame⟩,λhm=> ?_⟩,Nat.le_refl _⟩
   simp only[Q1d,Q5r,Q8y,Q77,Tree.m,letv,blk hm,e1,e2]
   rfl
theorem xae{d:Q0d}(hd:Q8j d)(port:Int){v:Int}(hv:U v)(at0:Int):(Qc2 d m port v at0).w (λr=>keepD P d r.1/\r.2.length<=1):=by
 have keep:keepD P d d:=⟨hd,λh=>h⟩
 have e1: ∀{k:Int},(v==k)=true->IntKind.i64.wrap v=k:=λhk=>by
   have:=eq_of_beq hk
   obtain⟨a,b⟩:=hv
   rw[IntKind.wrap_i64];omega
 unfold Qc2
 refine w_br (λ_=>⟨⟨⟨hv,hd.frame,hd.opBlock,hd.opFrame⟩,λh=>h⟩,Nat.zero_le _⟩) λ_=>w_br (λ_=>⟨⟨⟨hd.block,hv,hd.opBlock,hd.opFrame⟩,λh=>h⟩,Nat.zero_le _⟩) λ_=>w_br (λ_=>w_br (λhk=>Q0e (qf h hd (.inl (e1 hk)) _) λx hx=>hx) λ_=>w_br (λhk=>Q0e (qf h hd (.inr (e1 hk)) _) λx hx=>hx) λ_=>w_br (λ_=>w_lv λx hx=>w_br (λhb=> ?_) (λ_=>⟨keep,Nat.zero_le _⟩)) (λ_=>⟨keep,Nat.zero_le _⟩)) (λ_=>⟨keep,Nat.zero_le _⟩)
 refine⟨⟨⟨hd.block,hd.frame,hd.opBlock,hd.opFrame⟩,λhm=> ?_⟩,Nat.zero_le _⟩
 rw[hb]at hx
 simp only[Q97,Qj9,Tree.m]at hx
 cases h2:d.C0==2
 . rw[h2]at hx
   have h3:d.C0=3:=eq_of_beq hx.symm
   simp only[Q1d,Q5r,Tree.m,h3]at hm⊢
   exact hm
 . have h3:d.C0=2:=eq_of_beq h2
   simp only[Q1d,Q5r,Tree.m,h3]at hm⊢
   exact hm
def keepN(P:Nat)(n n':Q0l):Prop:=Qih n'/\(Q5p n P=true->Q5p n' P=true)
theorem zaD{n:Q0l}(hn:Qih n)(at0:Int):(Qcb n m at0).w (λr=>r.length<=1):=by
 have h2:=h.p2
 unfold Qcb
 refine w_br (λ_=>Nat.zero_le _) λl1=>w_br (λ_=>Nat.zero_le _) λl2=>w_lv λx0 hx=>w_br (λ_=>Nat.zero_le _) λhp=>Q0e (Zh6 h _) λx1 h1=> ?_
 have l1:=of_decide_eq_false l1
 have l2:=of_decide_eq_false l2
 obtain⟨f0,f1⟩:=npage h hn.frame hx (by simpa using hp)
 have ef:IntKind.i64.wrap n.Frame=n.Frame:=by rw[IntKind.wrap_i64];omega
 rw[ef]at h1
 have h1:=h1 f0 f1
 exact w_cn (decide_eq_true (by omega)) (Nat.le_refl _)
theorem xaD{n:Q0l}(hn:Qih n)(port:Int){v:Int}(hv:U v)(at0:Int):(Qf8 n m port v at0).w (λr=>keepN P n r.1/\r.2.length<=1):=by
 have h2:=h.p2
 have keep:keepN P n n:=⟨hn,λh=>h⟩
 unfold Qf8
 refine w_br (λ_=>⟨⟨⟨hv,hn.len,hn.buffer,hn.got⟩,λh=>h⟩,Nat.zero_le _⟩) λ_=>w_br (λ_=>⟨⟨⟨hn.frame,hv,hn.buffer,hn.got⟩,λh=>h⟩,Nat.zero_le _⟩) λ_=>w_br (λ_=>w_br (λ_=>Q0e (zaD h hn _) λx hx=>⟨keep,hx⟩) λ_=>w_br (λ_=>w_lv λx hx=>w_br (λhb=>w_br (λnp=>w_br (λnr=> ?_) (λ_=>⟨keep,Nat.zero_le _⟩)) (λ_=>⟨keep,Nat.zero_le _⟩)) (λ_=>⟨keep,Nat.zero_le _⟩)) λ_=>w_br (λ_=> ?_) (λ_=>⟨keep,Nat.zero_le _⟩)) (λ_=>⟨keep,Nat.zero_le _⟩)
 . obtain⟨f0,f1⟩:=npage h hn.frame hx hb
   have np:n.C5=false:=by simpa using np
   have nr:n.B6=false:=by simpa using nr
   have e2:decide (IntKind.i64.wrap n.Frame>=(P:Int))=false:=decide_eq_false (by rw[IntKind.wrap_i64];omega)
   refine⟨⟨⟨hn.frame,hn.len,hn.frame,hn.got⟩,λhm=> ?_⟩,Nat.zero_le _⟩
   simp only[Q5p,Qk3,Tree.m,np,nr,e2]at hm⊢
   cases hb:(n.B8 !=0)
   . rw[hb]at hm;exact hm
   . rw[hb]at hm;cases hm
 . refine⟨⟨⟨hn.frame,hn.len,hn.buffer,U_0⟩,λhm=> ?_⟩,Nat.zero_le _⟩
   simp only[Q5p,Qk3,Tree.m]at hm⊢
   revert hm
   cases n.C5<;>cases n.B6<;>cases decide (IntKind.i64.wrap n.B8>=(P:Int))<;>cases(n.B8 !=0)<;>simp
end
theorem qaf(t:Q0f)(v:Int):Q41 (Qk6 t v)=true:=by
 simp only[Qk6,Ql8,Q41,Qlg,Tree.m]
 cases h:(v !=0)
 . have:v=0:=by simpa using h
   subst this;rfl
 . rfl
theorem Qp{a:Int}(k:Nat)(hk:k<=32):ishr .u32 a k=a/2^k:=by
 unfold ishr
 have e:min (k:Int).toNat IntKind.u32.bits=k:=by show min (k:Int).toNat 32=k;omega
 have hp:(0:Int)<2^k:=Int.pow_pos (by decide)
 rw[e,Int.fdiv_eq_ediv_of_nonneg _ (Int.le_of_lt hp)]
def Zli(x:Int)(n:Nat):Prop:=x<2^n/\(n=0\/(2:Int)^(n-1)<=x)
theorem Z7g{x q:Int}{n k:Nat}(hq:q=x/2^k)(h0:0<q)(h:Zli q n):Zli x (n+k):=by
 have hp:(0:Int)<2^k:=Int.pow_pos (by decide)
 obtain⟨h1,h2⟩:=h
 have hn:n≠0:=λe=>by subst e;simp at h1;omega
 refine⟨?_, .inr ?_⟩
 . rw[Int.pow_add]
   have:x<(x/2^k+1)*2^k:=Int.lt_ediv_add_one_mul_self x hp
   have h3:(x/2^k+1)*2^k<=2^n*2^k:=Int.mul_le_mul_of_nonneg_right (by omega) (Int.le_of_lt hp)
   omega
 . have h2:=h2.resolve_left hn
   have e:n+k-1=(n-1)+k:=by omega
   rw[e,Int.pow_add]
   have h3:(2:Int)^(n-1)*2^k<=q*2^k:=Int.mul_le_mul_of_nonneg_right h2 (Int.le_of_lt hp)
   have h4:q*2^k<=x:=by rw[hq];exact Int.ediv_mul_le x (Int.ne_of_gt hp)
   omega
theorem qG{x:Int}{n p:Nat}(h:Zli x n)(hx:x<2^p):n<=p:=by
  obtain⟨h1,h2⟩:=h
  rcases h2 with h2|h2
  . omega
  . rcases Nat.lt_or_ge p n with hlt|hge
    . have:(2:Int)^p<=2^(n-1):=by
        have:=Nat.pow_le_pow_right (show 0<2 by omega) (show p<=n-1 by omega)
        exact_mod_cast this
      omega
    . exact hge
theorem Zf6{x:Int}{n p:Nat}(h:Zli x n)(hn:n<=p):x<2^p:=by
 have:(2:Int)^n<=2^p:=by
   have:=Nat.pow_le_pow_right (show 0<2 by omega) hn
   exact_mod_cast this
 exact Int.lt_of_lt_of_le h.1 this
def lenChk(i:Nat):Bool:=match(Q1g (i:Int)) with
 | .ofNat n=>decide ((i:Int)<2^n)&&(Nat.beq n 0||decide ((2:Int)^(n-1)<=i))&&decide (n<=8)
 |_=>false
theorem Qrp{q:Int}(h0:0<=q)(h1:q<256): ∃n:Nat,Q1g q=n/\Zli q n/\n<=8:=by
 have all:List.all (List.range 256) lenChk=true:=by kernel_rfl
 have:=List.all_eq_true.1 all q.toNat (List.mem_range.2 (by omega))
 have hq:((q.toNat:Nat):Int)=q:=by omega
 unfold lenChk at this
 rw[hq]at this
 split at this
 . rename_i n hn
   simp only[Bool.and_eq_true,Bool.or_eq_true,decide_eq_true_eq]at this
   refine⟨n,hn,⟨this.1.1,?_⟩,this.2⟩
   rcases this.1.2 with h|h
   . exact .inl (Nat.eq_of_beq_eq_true h)
   . exact .inr h
 . cases this
theorem qaE{x:Int}(h:U x)(hx:16777216<=x):Q1g x=24+Q1g (x/16777216):=by
 obtain⟨h0,h1⟩:=h
 have s16:ishr .u32 x 16=x/65536:=Qp 16 (by omega)
 have s24:ishr .u32 (x/65536) 8=x/16777216:=by rw[show((8:Int))=((8:Nat):Int) from rfl,Qp 8 (by omega)];omega
 have d1:decide (x>=65536)=true:=decide_eq_true (by omega)
 have d2:decide (x/65536>=256)=true:=decide_eq_true (by omega)
 have d3:decide (x/16777216>=65536)=false:=decide_eq_false (by omega)
 have d4:decide (x/16777216>=256)=false:=decide_eq_false (by omega)
 have u:IntKind.u8.wrap (x/16777216)=x/16777216:=by rw[IntKind.wrap_u8];omega
 simp only[Q1g,Q1o,Tree.m,s16,s24,d1,d2,d3,d4,u,cond_true,cond_false]
 generalize(List.getD _ (Int.toNat (x/16777216)) (0:UInt8))=b
 have hb:=UInt8.toNat_lt b
 rw[IntKind.wrap_i64,IntKind.wrap_i64,IntKind.wrap_i64,IntKind.wrap_i64]
 omega
theorem zaE{x:Int}(h0:65536<=x)(h1:x<16777216):Q1g x=16+Q1g (x/65536):=by
 have s16:ishr .u32 x 16=x/65536:=Qp 16 (by omega)
 have d1:decide (x>=65536)=true:=decide_eq_true (by omega)
 have d2:decide (x/65536>=256)=false:=decide_eq_false (by omega)
 have d3:decide (x/65536>=65536)=false:=decide_eq_false (by omega)
 have u:IntKind.u8.wrap (x/65536)=x/65536:=by rw[IntKind.wrap_u8];omega
 simp only[Q1g,Q1o,Tree.m,s16,d1,d2,d3,u,cond_true,cond_false]
 generalize(List.getD _ (Int.toNat (x/65536)) (0:UInt8))=b
 have hb:=UInt8.toNat_lt b
 rw[IntKind.wrap_i64,IntKind.wrap_i64,IntKind.wrap_i64]
 omega
theorem len_8{x:Int}(h0:256<=x)(h1:x<65536):Q1g x=8+Q1g (x/256):=by
 have s8:ishr .u32 x 8=x/256:=Qp 8 (by omega)
 have d1:decide (x>=65536)=false:=decide_eq_false (by omega)
 have d2:decide (x>=256)=true:=decide_eq_true (by omega)
 have d3:decide (x/256>=65536)=false:=decide_eq_false (by omega)
 have d4:decide (x/256>=256)=false:=decide_eq_false (by omega)
 have u:IntKind.u8.wrap (x/256)=x/256:=by rw[IntKind.wrap_u8];omega
 simp only[Q1g,Q1o,Tree.m,s8,d1,d2,d3,d4,u,cond_true,cond_false]
 generalize(List.getD _ (Int.toNat (x/256)) (0:UInt8))=b
 have hb:=UInt8.toNat_lt b
 rw[IntKind.wrap_i64,IntKind.wrap_i64,IntKind.wrap_i64,IntKind.wrap_i64]
 omega
theorem Zkr{x:Int}(h:U x): ∃n:Nat,Q1g x=n/\Zli x n:=by
  obtain⟨h0,h1⟩:=h
  rcases Int.lt_or_le x 256 with a|a
  . obtain⟨n,e,l,_⟩:=Qrp h0 a
    exact⟨n,e,l⟩
  . rcases Int.lt_or_le x 65536 with b|b
    . obtain⟨n,e,l,_⟩:=Qrp (q:=x/256) (by omega) (by omega)
      exact⟨n+8,by rw[len_8 a b,e];omega,Z7g (k:=8) rfl (by omega) l⟩
    . rcases Int.lt_or_le x 16777216 with c|c
      . obtain⟨n,e,l,_⟩:=Qrp (q:=x/65536) (by omega) (by omega)
        exact⟨n+16,by rw[zaE b c,e];omega,Z7g (k:=16) rfl (by omega) l⟩
      . obtain⟨n,e,l,_⟩:=Qrp (q:=x/16777216) (by omega) (by omega)
        exact⟨n+24,by rw[qaE ⟨h0,h1⟩ c,e];omega,Z7g (k:=24) rfl (by omega) l⟩
theorem Qzj{b:Q05}(h:U b.C2){P:Nat}:Q2d b P=true↔b.C2<2^P:=by
 obtain⟨n,e,l⟩:=Zkr h
 have hp:(if(0:Int)>(P:Int) then(0:Int) else P)=P:=by rw[if_neg (by omega)]
 simp only[Q2d,Q3s,Tree.m,letv,e,hp,decide_eq_true_eq]
 constructor
 . intro h;exact Zf6 l (by omega)
 . intro h;have:=qG l h;omega
theorem Z81{a:Int}(h:U a){P:Nat}(h1:a<2^P):(BitVec.ofInt 32 a).toNat<2^P:=by
 obtain⟨a0,a1⟩:=h
 rw[BitVec.toNat_ofInt,Int.emod_eq_of_lt a0 (by omega)]
 have:((2^P:Nat):Int)=(2:Int)^P:=by exact_mod_cast rfl
 omega
theorem or_lt{a b:Int}(ha:U a)(hb:U b){P:Nat}(hP:P<=32)(h1:a<2^P)(h2:b<2^P):ior .u32 a b<2^P:=by
 have e:(BitVec.ofInt 32 a|||BitVec.ofInt 32 b).toNat<2^P:=by
   rw[BitVec.toNat_or]
   exact Nat.or_lt_two_pow (Z81 ha h1) (Z81 hb h2)
 have hc:((2^P:Nat):Int)=(2:Int)^P:=by exact_mod_cast rfl
 have l:=(BitVec.ofInt 32 a|||BitVec.ofInt 32 b).isLt
 show IntKind.wrap .u32 ((BitVec.ofInt 32 a|||BitVec.ofInt 32 b).toNat:Int)<2^P
 rw[IntKind.wrap_u32]
 omega
theorem zaf{a b:Int}(ha:U a){P:Nat}(h1:a<2^P):Qg7 .u32 a b<2^P:=by
 have e:(BitVec.ofInt 32 a&&&~~~BitVec.ofInt 32 b).toNat<2^P:=by
   rw[BitVec.toNat_and]
   exact Nat.lt_of_le_of_lt Nat.and_le_left (Z81 ha h1)
 have hc:((2^P:Nat):Int)=(2:Int)^P:=by exact_mod_cast rfl
 have l:=(BitVec.ofInt 32 a&&&~~~BitVec.ofInt 32 b).isLt
 show IntKind.wrap .u32 ((BitVec.ofInt 32 a&&&~~~BitVec.ofInt 32 b).toNat:Int)<2^P
 rw[IntKind.wrap_u32]
 omega
theorem xf{v:Int}(h0:0<=v)(h1:v<32):ishl .u32 1 v=2^v.toNat:=by
 have e:min v.toNat IntKind.u32.bits=v.toNat:=by show min v.toNat 32=v.toNat;omega
 obtain⟨n,rfl⟩: ∃n:Nat,v=n:=⟨v.toNat,by omega⟩
 have hn:n<32:=by omega
 have hlt:(2:Nat)^n<4294967296:=by
   have:=Nat.pow_lt_pow_right (show 1<2 by omega) hn
   simpa using this
 have hc:((2^n:Nat):Int)=(2:Int)^n:=by exact_mod_cast rfl
 unfold ishl
 rw[e,IntKind.wrap_u32,Int.one_mul,Int.toNat_natCast,<-hc]
 clear hc e
 generalize(2:Nat)^n=z at*
 omega
def keepB(P:Nat)(b b':Q05):Prop:=okB b'/\(Q2d b P=true->Q2d b' P=true)
theorem Zkt{P:Nat}{m:List Int}(h:Q0y P m){b:Q05}(hb:okB b)(port:Int){v:Int}(hv:U v):(Q2o b m port v).w (λr=>keepB P b r.1/\Q0y P r.2):=by
 have hcl:Q03 m=m:=rfl
 have h2:=h.p2
 have hp:=Q3d h
 have keep:(Tree.an (Q07 m) (.lv (Q03 m) λx=> .lf (b,x))).w (λr=>keepB P b r.1/\Q0y P r.2):=w_an (Q94 h) (w_lv λx hx=>by rw[hcl]at hx;subst hx;exact⟨⟨hb,λh=>h⟩,h⟩)
 unfold Q2o
 refine w_br (λ_=>keep) λhlt=>w_cn (decide_eq_true hv.1) (w_br (λ_=>w_lv λx1 hx=>w_br (λhpg=>w_br (λ_=>w_an ⟨by decide,by decide,by decide⟩ (w_lv λx2 _=>Q0e (Z0 h _ _) λx3 ⟨h3,_⟩=> ?_)) (λ_=>keep)) (λ_=>keep)) (λ_=>w_br (λ_=>w_an (Q94 h) (w_lv λx hx=> ?_)) (λ_=>keep)))
 . have hlt:=of_decide_eq_false hlt
   have hpg:=of_decide_eq_true hpg
   rw[hx,hp]at hpg
   obtain⟨v0,v1⟩:=hv
   have ev:IntKind.i64.wrap v=v:=by rw[IntKind.wrap_i64];omega
   rw[ev]at hpg
   refine⟨⟨⟨hb.1,Q0o _⟩,λhm=> ?_⟩,h3⟩
   rw[Qzj hb.2]at hm
   rw[Qzj (Q0o _)]
   have hs:ishl .u32 1 v<2^P:=by
     rw[xf v0 (by omega)]
     have:=Nat.pow_lt_pow_right (show 1<2 by omega) (show v.toNat<P by omega)
     exact_mod_cast this
   exact or_lt hb.2 (Q0o _) h2 hm hs
 . rw[hcl]at hx;subst hx
   refine⟨⟨⟨hb.1,Q0o _⟩,λhm=> ?_⟩,h⟩
   rw[Qzj hb.2]at hm
   rw[Qzj (Q0o _)]
   exact zaf hb.2 hm
structure kept(P:Nat)(m n:Q01):Prop where
 ok:okS P n
 dev:Q0t m=true->Q0t n=true
 cpu:n.B2=m.B2
 cnt:n.A3=m.A3
 wait:n.A6=m.A6
 halt:n.A9=m.A9
theorem Zbx{P:Nat}{m:Q01}(h:okS P m):kept P m m:=⟨h,λh=>h,rfl,rfl,rfl,rfl⟩
theorem Qo1{P:Nat}{m n:Q01}(hm:Q0y P m.Mem)(hn:Q0y P n.Mem)(hc:Q27 m.A4=true->Q27 n.A4=true)(ht:Q41 m.B0=true->Q41 n.B0=true)
   (hd:Q1d m.B1 P=true->Q1d n.B1 P=true) (hk:Q5p m.C4 P=true->Q5p n.C4 P=true) (hb:Q2d m.A1 P=true->Q2d n.A1 P=true) (h:Q0t m=true):Q0t n=true:=by
 rw[xe]at h⊢
 rw[Q3d hm]at h
 rw[Q3d hn]
 simp only[Bool.and_eq_true]at h⊢
 exact⟨hc h.1,ht h.2.1,hd h.2.2.1,hk h.2.2.2.1,hb h.2.2.2.2⟩
theorem Zgv{P:Nat}{m:Q01}(h:okS P m)(port:Int){v:Int}(hv:U v)(at0:Int):(Q22 m port v at0).w (λr=>kept P m r.1/\r.2.length<=1):=by
 have k:=Zbx h
 obtain⟨h1,h2,h3,h4,h5,h6⟩:=h
 have id: ∀{p:Prop},p->p:=λh=>h
 have D: ∀(x:Q0d×List Q09),(keepD P m.B1 x.1/\x.2.length<=1)->kept P m {B2:=m.B2,Mem:=m.Mem,A4:=m.A4,B0:=m.B0,B1:=x.1,C4:=m.C4,A1:=m.A1,A3:=m.A3,A6:=m.A6,A9:=m.A9}/\x.2.length<=1:=λx hx=>
   ⟨⟨⟨h1,h2,hx.1.1,h4,h5,h6⟩,Qo1 h2 h2 id id hx.1.2 id id,rfl,rfl,rfl,rfl⟩,hx.2⟩
 have N: ∀(x:Q0l×List Q09),(keepN P m.C4 x.1/\x.2.length<=1)->kept P m {B2:=m.B2,Mem:=m.Mem,A4:=m.A4,B0:=m.B0,B1:=m.B1,C4:=x.1,A1:=m.A1,A3:=m.A3,A6:=m.A6,A9:=m.A9}/\x.2.length<=1:=λx hx=>
   ⟨⟨⟨h1,h2,h3,hx.1.1,h5,h6⟩,Qo1 h2 h2 id id id hx.1.2 id,rfl,rfl,rfl,rfl⟩,hx.2⟩
 have B: ∀(x:Q05×List Int),(keepB P m.A1 x.1/\Q0y P x.2)->kept P m {B2:=m.B2,Mem:=x.2,A4:=m.A4,B0:=m.B0,B1:=m.B1,C4:=m.C4,A1:=x.1,A3:=m.A3,A6:=m.A6,A9:=m.A9}/\([]:List Q09).length<=1:=λx hx=>
   ⟨⟨⟨h1,hx.2,h3,h4,hx.1.1.1,hx.1.1.2⟩,Qo1 h2 hx.2 id id id id hx.1.2,rfl,rfl,rfl,rfl⟩,Nat.zero_le _⟩
 unfold Q22
 repeat'(first
   |exact⟨k,Nat.le_refl _⟩
   |exact⟨k,Nat.zero_le _⟩
   |exact w_lv λx hx=>⟨⟨⟨h1,h2,h3,h4,h5,h6⟩,Qo1 h2 h2 id (λ_=>by rw[hx];exact qaf _ _) id id id,rfl,rfl,rfl,rfl⟩,Nat.zero_le _⟩
   |exact Q0e (xae h2 h3 _ hv _) λx hx=>D x hx
   |exact Q0e (xaD h2 h4 _ hv _) λx hx=>N x hx
   |exact Q0e (Zkt h2 ⟨h5,h6⟩ _ hv) λx hx=>B x hx
   |refine w_br (λ_=> ?_) (λ_=> ?_))
theorem Z63(c:Q0b)(port:Int):(Q8v c port).w (λr=>U r.2/\(Q27 c=true->Q27 r.1=true)):=by
 have u1:U 4294967295:=⟨by omega,by omega⟩
 unfold Q8v
 refine w_br (λ_=>w_br (λ_=>⟨u1,λh=>h⟩) (λhb=>w_cn ?_ (w_cn ?_ ⟨Q0o _,λhm=> ?_⟩))) (λ_=>w_br (λ_=>⟨Q0o _,λh=>h⟩) (λ_=>⟨U_0,λh=>h⟩))
 . have hb:=of_decide_eq_false hb
   have:0<c.D0.length:=List.length_pos_iff.2 hb
   simp [Nat.blt];omega
 . have hb:=of_decide_eq_false hb
   have:0<c.D0.length:=List.length_pos_iff.2 hb
   exact decide_eq_true (by omega)
 . have hm:decide ((c.D0.length:Int)<=16)=true:=hm
   have hm:=of_decide_eq_true hm
   show decide (((List.take _ (List.drop _ c.D0)).length:Int)<=16)=true
   refine decide_eq_true ?_
   rw[List.length_take,List.length_drop];omega
theorem Zk8{P:Nat}{m:Q01}(h:okS P m)(port:Int){clock:Int}(hc:U clock):(Q2h m port clock).w (λr=>kept P m r.1/\U r.2):=by
 have k:=Zbx h
 obtain⟨h1,h2,h3,h4,h5,h6⟩:=h
 have id: ∀{p:Prop},p->p:=λh=>h
 have ti: ∀t,U (Qyi t):=λt=>by
   refine Tree.post (Qoj t) (W:=U) ?_
   unfold Qoj
   exact w_br (λ_=>⟨by omega,by omega⟩) (λ_=>U_0)
 have di: ∀p,U (Qu0 m.B1 p):=λp=>by
   refine Tree.post (Qr7 m.B1 p) (W:=U) ?_
   unfold Qr7
   exact w_br (λ_=>h3.block) (λ_=>w_br (λ_=>h3.frame) (λ_=>w_br (λ_=>Q0o _) (λ_=>U_0)))
 have ni: ∀p,U (Z1s m.C4 p):=λp=>by
   refine Tree.post (Qs8 m.C4 p) (W:=U) ?_
   unfold Qs8
   exact w_br (λ_=>h4.frame) (λ_=>w_br (λ_=>h4.got) (λ_=>w_br (λ_=>w_br (λ_=>w_br (λ_=>Q0o _) (λ_=>Q0o _)) (λ_=>w_br (λ_=>Q0o _) (λ_=>U_0))) (λ_=>U_0)))
 have bi: ∀p,(Q7a m.A1 p).w U:=λp=>by
   unfold Q7a
   exact w_br (λ_=>h5) (λ_=>w_br (λ_=>Q0e (Zhw h6) λ_ _=>Q0o _) (λ_=>U_0))
 have C: ∀(x:Q0b×Int),(U x.2/\(Q27 m.A4=true->Q27 x.1=true))->kept P m {B2:=m.B2,Mem:=m.Mem,A4:=x.1,B0:=m.B0,B1:=m.B1,C4:=m.C4,A1:=m.A1,A3:=m.A3,A6:=m.A6,A9:=m.A9}/\U x.2:=λx hx=>
   ⟨⟨⟨h1,h2,h3,h4,h5,h6⟩,Qo1 h2 h2 hx.2 id id id id,rfl,rfl,rfl,rfl⟩,hx.1⟩
 unfold Q2h
 repeat'(first
   |exact⟨k,hc⟩
   |exact⟨k,U_0⟩
   |exact Q0e (Z63 _ _) λx hx=>C x hx
   |exact Zdg (Z63 _ _) λx hx=>C x hx
   |exact w_lv λx hx=>⟨k,by rw[hx];exact ti _⟩
   |exact w_lv λx hx=>⟨k,by rw[hx];exact di _⟩
   |exact w_lv λx hx=>⟨k,by rw[hx];exact ni _⟩
   |exact Q0e (bi _) λx hx=>⟨k,hx⟩
   |refine w_br (λ_=> ?_) (λ_=> ?_))
structure Q7b(c:Q02):Prop where
 x0:c.X.a0=0
 st:c.B4.a0<=31
 en:c.B4.a7<=31
 rt:c.B4.a6<=255
 ve:Int.tmod c.B4.a1 4=0
theorem Q7b.pc{c:Q02}(h:Q7b c)(p:Int):Q7b {X:=c.X,Pc:=p,B4:=c.B4}:=⟨h.x0,h.st,h.en,h.rt,h.ve⟩
theorem and31(a:Int):iand .u32 a 31<=31:=by
 have e:(BitVec.ofInt 32 a&&&BitVec.ofInt 32 31).toNat<=31:=by
   rw[BitVec.toNat_and]
   exact Nat.le_trans Nat.and_le_right (by decide)
 show IntKind.wrap .u32 ((BitVec.ofInt 32 a&&&BitVec.ofInt 32 31).toNat:Int)<=31
 rw[IntKind.wrap_u32];omega
theorem and255'(a:Int):iand .u32 a 255<=255:=by have:=and255 a;omega
theorem andn3(a:Int):Int.tmod (Qg7 .u32 a 3) 4=0:=by
 have e:(BitVec.ofInt 32 a&&&~~~BitVec.ofInt 32 3).toNat%4=0:=by
   rw[BitVec.toNat_and,show(~~~BitVec.ofInt 32 3).toNat=4294967292 by decide]
   have:=Nat.and_mod_two_pow (a:=(BitVec.ofInt 32 a).toNat) (b:=4294967292) (n:=2)
   simpa using this
 have l:=(BitVec.ofInt 32 a&&&~~~BitVec.ofInt 32 3).isLt
 show Int.tmod (IntKind.wrap .u32 ((BitVec.ofInt 32 a&&&~~~BitVec.ofInt 32 3).toNat:Int)) 4=0
 rw[IntKind.wrap_u32,Int.tmod_eq_emod_of_nonneg (by omega)]
 omega
theorem fin32{f:Int->Int}(h:(List.range 32).all (λn=>decide (f n<=31))=true){s:Int}(h0:0<=s)(h1:s<=31):f s<=31:=by
 have:=List.all_eq_true.1 h s.toNat (List.mem_range.2 (by omega))
 have e:((s.toNat:Nat):Int)=s:=by omega
 rw[e]at this
 exact of_decide_eq_true this
theorem Qlj{c:Q02}(h:Q2i c)(m:Q7b c)(k b:Int):Q7b (Q47 c k b):=
 ⟨m.x0,fin32 (f:=λs=>Qg7 .u32 (ior .u32 (Q8l (Q8l s 1 8) 2 16) 1) 2) (by kernel_rfl) h.a0.1 m.st,m.en,m.rt,m.ve⟩
theorem Zka{c:Q02}(h:Q2i c)(m:Q7b c):Q7b (Qdx c):=
 ⟨m.x0,fin32 (f:=λs=>Q8l (Q8l s 8 1) 16 2) (by kernel_rfl) h.a0.1 m.st,m.en,m.rt,m.ve⟩
theorem Qui{c:Q02}(m:Q7b c){r:Int}(hr:0<=r/\r<16)(v:Int):(Q8r c r v).w Q7b:=by
 unfold Q8r
 refine w_br (λhn=>w_cn (rc hr) ?_) (λ_=>m)
 have hn:r≠0:=by simpa using hn
 obtain⟨n,e⟩: ∃n:Nat,r.toNat=n+1:=⟨r.toNat-1,by omega⟩
 refine⟨?_,m.st,m.en,m.rt,m.ve⟩
 show(A16.of 0 (List.set (A16.l c.X) r.toNat v)).a0=0
 rw[e]
 exact m.x0
theorem zf{c:Q02}(m:Q7b c)(k v:Int):(Q7u c k v).w Q7b:=by
 unfold Q7u
 refine w_br (λhk=>w_cn (by rw[eq_of_beq hk];decide) ?_) λ_=>w_br (λhk=>w_cn (by rw[eq_of_beq hk];decide) ?_) λ_=>w_br (λhk=>w_cn (by rw[eq_of_beq hk];decide) ?_) λ_=>w_br (λhk=>w_cn (by rw[eq_of_beq hk];decide) ?_) λ_=>w_br (λhk=>w_cn (by rw[eq_of_beq hk];decide) ?_) λ_=>w_br (λhk=>w_cn (by rw[eq_of_beq hk];decide) ?_) λ_=>w_br (λhk=>w_cn (by rw[eq_of_beq hk];decide) ?_) λ_=>w_br (λhk=>w_cn (by rw[eq_of_beq hk];decide) ?_) (λ_=>m)
 all_goals(have hk:=eq_of_beq hk;subst hk)
 . exact⟨m.x0,and31 _,m.en,m.rt,m.ve⟩
 . exact⟨m.x0,m.st,and31 _,m.rt,m.ve⟩
 . exact⟨m.x0,m.st,m.en,and255' _,m.ve⟩
 . exact⟨m.x0,m.st,m.en,m.rt,andn3 _⟩
 . exact⟨m.x0,m.st,m.en,m.rt,m.ve⟩
 . exact⟨m.x0,m.st,m.en,m.rt,m.ve⟩
 . exact⟨m.x0,m.st,m.en,m.rt,m.ve⟩
 . exact⟨m.x0,m.st,m.en,m.rt,m.ve⟩
section
variable {c:Q02} (h:Q2i c) (m:Q7b c) {i:Q0i} (hi:Qex i)
include h m hi
theorem Zfw:(Q35 c i).w (λr=>Q7b r.1):=by
 unfold Q35
 refine w_cn (rc hi.a) (w_cn (rc hi.b) ?_)
 repeat'(first
   |refine w_br (λ_=> ?_) (λ_=> ?_)
   |exact Q0e (Qui m hi.a _) λx hx=>hx.pc _
   |exact w_lv λx _=>w_br (λ_=>m.pc _) (λ_=>m.pc _)
   |exact w_lv λx hx=>by rw[hx];exact Qlj h m _ _
   |exact w_lv λx hx=>by rw[hx];exact Zka h m
   |exact w_cn (by have:=hi.csr (by simp_all);simp [Nat.blt];omega) (Q0e (Qui m hi.a _) λx hx=>hx.pc _)
   |exact Q0e (zf m _ _) λx hx=>hx.pc _
   |refine w_cn (rc hi.c) ?_
   |exact Q0e (Z66 _ (h.r _) (Q0o _)) λy hy=>Q0e (Qui m hi.a _) λx hx=>hx.pc _
   |exact Q0e (Z66 _ (h.r _) (h.r _)) λy hy=>Q0e (Qui m hi.a _) λx hx=>hx.pc _
   |refine w_lf ?_)
 all_goals exact m.pc _
theorem xG{P:Nat}{mem:List Int}(hm:Q0y P mem):(Qa1 c mem i).w (λr=>Q7b r.1):=by
 have w:=Z9b i.Op
 unfold Qa1
 refine w_cn (rc hi.b) (w_lv λx0 h0=> ?_)
 rw[<-h0]at w
 refine Q0e (Qkg hm (Q0o _) w 2) λx1 h1=>w_br (λ_=>w_lv λy hy=>by rw[hy];exact Qlj h m _ _) (λ_=>w_lv λx3 h3=> ?_)
 rw[h0,<-h3]at w
 exact Q0e (Qpx h1.2 h1.1 w) λx4 h4=>w_br (λ_=>Q0e (Qte h4.1 8) λy hy=>Q0e (Qui m hi.a _) λx hx=>hx.pc _) (λ_=>Q0e (Qui m hi.a _) λx hx=>hx.pc _)
theorem yf{P:Nat}{mem:List Int}(hm:Q0y P mem):(Q7e c mem i).w (λr=>Q7b r.1):=by
 have w:=Z9b i.Op
 unfold Q7e
 refine w_cn (rc hi.b) (w_lv λx0 h0=> ?_)
 rw[<-h0]at w
 refine Q0e (Qkg hm (Q0o _) w 3) λx1 h1=>w_br (λ_=>w_lv λy hy=>by rw[hy];exact Qlj h m _ _) (λ_=>w_lv λx3 h3=>w_cn (rc hi.a) ?_)
 rw[h0,<-h3]at w
 exact Q0e (Qy9 h1.2 h1.1 w (h.r _)) λx hx=>m.pc _
end
theorem zG{c:Q02}(h:Q2i c)(m:Q7b c){P:Nat}{mem:List Int}(hm:Q0y P mem):(Q70 c mem).w (λr=>Q7b r.1):=by
 unfold Q70
 refine Q0e (Za hm h) λx0 h0=>w_br (λ_=>w_lv λy hy=>by rw[hy];exact Qlj h m _ _) (λ_=>Q0e (Z00 _) λx2 h2=>w_br (λ_=>w_lv λy hy=>by rw[hy];exact Qlj h m _ _) (λhb=> ?_))
 have hi:=h2 (by simpa using hb)
 refine w_lv λx4 _=> ?_
 repeat'(first
   |refine w_br (λ_=> ?_) (λ_=> ?_)
   |exact Q0e (xG h m hi h0.2) λx hx=>hx
   |exact Q0e (yf h m hi h0.2) λx hx=>hx
   |exact Q0e (Zfw h m hi) λx hx=>hx
   |exact w_lv λy hy=>by rw[hy];exact Qlj h m _ _
   |refine w_lv λ_ _=> ?_)
theorem Zfd{c:Q02}(h:Q2i c){i:Q0i}(hi:Qex i):(Q35 c i).w (λr=>0<=r.2.D8/\r.2.D8<16):=by
 have z:(0:Int)<=0/\(0:Int)<16:=⟨by decide,by decide⟩
 unfold Q35
 refine w_cn (rc hi.a) (w_cn (rc hi.b) ?_)
 repeat'(first
   |refine w_br (λ_=> ?_) (λ_=> ?_)
   |exact Q0e (Qp1 h hi.a (Q0o _)) λx hx=>z
   |exact w_lv λx _=>w_br (λ_=>z) (λ_=>z)
   |exact w_lv λx hx=>z
   |exact w_cn (by have:=hi.csr (by simp_all);simp [Nat.blt];omega) (Q0e (Qp1 h hi.a (h.a _)) λx hx=>z)
   |exact Q0e (Zj8 h _ (h.r _)) λx hx=>z
   |refine w_cn (rc hi.c) ?_
   |exact Q0e (Z66 _ (h.r _) (Q0o _)) λy hy=>Q0e (Qp1 h hi.a hy) λx hx=>z
   |exact Q0e (Z66 _ (h.r _) (h.r _)) λy hy=>Q0e (Qp1 h hi.a hy) λx hx=>z
   |refine w_lf ?_)
 all_goals first|exact z|exact hi.a
theorem Zhx{c:Q02}(h:Q2i c){P:Nat}{mem:List Int}(hm:Q0y P mem):(Q70 c mem).w (λr=>0<=r.2.2.D8/\r.2.2.D8<16):=by
 have z:(0:Int)<=0/\(0:Int)<16:=⟨by decide,by decide⟩
 unfold Q70
 refine Q0e (Za hm h) λx0 h0=>w_br (λ_=>w_lv λy hy=>z) (λ_=>Q0e (Z00 _) λx2 h2=>w_br (λ_=>w_lv λy hy=>z) (λhb=> ?_))
 have hi:=h2 (by simpa using hb)
 refine w_lv λx4 _=> ?_
 repeat'(first
   |refine w_br (λ_=> ?_) (λ_=> ?_)
   |exact Q0e (Z0m h hi h0.2) λx hx=>z
   |exact Q0e (Qvp h hi h0.2) λx hx=>z
   |exact Q0e (Zfd h hi) λx hx=>hx
   |exact w_lv λy hy=>z
   |refine w_lv λ_ _=> ?_)
theorem cnd2{a x:Bool}:(bif a then false else x)=true↔a=false/\x=true:=by cases a<;>simp
theorem Qzn(m:Q01):Q1c m=true↔Q0q m.Mem≠0/\Q7b m.B2/\m.A3<=1152921504606846976/\ ¬(m.A6=true/\m.A9=true)/\Q0t m=true:=by
  rw[vV]
  unfold mayC chain
  rw[cnd2,cnd2,cnd2,cnd2,cnd2,cnd2,cnd2]
  simp only[decide_eq_false_iff_not,Int.not_lt,beq_eq_false_iff_ne,bne_eq_false_iff_eq,gt_iff_lt]
  constructor
  . rintro⟨a1,a2,a3,a4,a5,a6,a7,a8⟩
    refine⟨a1,⟨a2,a3,a4,a5,a6⟩,a7,?_,?_⟩
    . rintro⟨w,h⟩;rw[w,h]at a8;cases a8
    . revert a8;cases m.A6
      . exact λh=>h
      . cases m.A9
        . exact λh=>h
        . intro h;cases h
  . rintro⟨a1,⟨a2,a3,a4,a5,a6⟩,a7,a8,a9⟩
    refine⟨a1,a2,a3,a4,a5,a6,a7,?_⟩
    rw[a9]
    cases hw:m.A6
    . rfl
    . cases hh:m.A9
      . rfl
      . exact absurd ⟨hw,hh⟩ a8
theorem Zif{m:Q01}(h:Q3w m=true):Q1c m=true/\m.A9=false/\m.A3<1152921504606846976:=by
  simp only[Q3w,Q3q,Tree.m,letv]at h
  cases h1:Q1c m
  . rw[h1]at h;cases h
  . cases h2:m.A9
    . rw[h1,h2]at h
      cases h3:Q99 m
      . rw[h3]at h
        have h:decide (m.A3<1152921504606846976)=true:=h
        exact⟨rfl,rfl,of_decide_eq_true h⟩
      . rw[h3]at h;cases h
    . rw[h1,h2]at h;cases h
theorem Zb6{P:Nat}{m:Q01}(h:okS P m)(g:Q7b m.B2):(Q3z m).w (λr=>Q7b r.B2/\okS P r/\r.Mem=m.Mem/\r.A6=false/\r.A9=m.A9/\r.A3=m.A3/\r.A4=m.A4/\r.B0=m.B0/\r.B1=m.B1/\r.C4=m.C4/\r.A1=m.A1):=by
 obtain⟨h1,h2,h3,h4,h5,h6⟩:=h
 unfold Q3z
 refine w_br (λ_=>⟨g,⟨h1,h2,h3,h4,h5,h6⟩,rfl,rfl,rfl,rfl,rfl,rfl,rfl,rfl,rfl⟩) (λ_=>Q0e (Z6f (m:=⟨_,_,_,_,_,_,m.A1,_,_,_⟩) h6) λx0 _=>w_lp (inv:=λz=>0<=z/\z<=5) (μ:=Qh m) ⟨by omega,by omega⟩ (Nat.lt_succ_self _) (λz hz=> ?_))
 obtain⟨z1,z2⟩:=hz
 refine w_br (λhb=>w_cn (decide_eq_true z1) (w_br (λ_=>w_lv λx1 hx=>⟨by rw[hx];exact Qlj h1 g _ _,⟨by rw[hx];exact Qqs h1 _ U_0,h2,h3,h4,h5,h6⟩,rfl,rfl,rfl,rfl,rfl,rfl,rfl,rfl,rfl⟩) (λ_=>w_nx ?_))) (λ_=>⟨g,⟨h1,h2,h3,h4,h5,h6⟩,rfl,rfl,rfl,rfl,rfl,rfl,rfl,rfl,rfl⟩)
 have hb:=of_decide_eq_true hb
 show(0<=IntKind.i64.wrap (z+1)/\IntKind.i64.wrap (z+1)<=5)/\(5-IntKind.i64.wrap (z+1)).toNat<(5-z).toNat
 have ew:IntKind.i64.wrap (z+1)=z+1:=by rw[IntKind.wrap_i64];omega
 rw[ew];omega
structure Good(P:Nat)(m r:Q01):Prop where
 ok:okS P r
 cnt:0<=r.A3
 may:Q1c m=true->Q1c r=true
 or:r=m\/r.A3=m.A3+1
theorem xaf{P:Nat}{m:Q01}(h:okS P m)(hc0:0<=m.A3){clock:Int}(hk:U clock):(Q6i m clock).w (λr=>r.2.length<=1/\Good P m r.1):=by
 have hcl:Q03 m.Mem=m.Mem:=rfl
 unfold Q6i
 refine w_an (Q94 h.mem) (w_lv λl hl=> ?_)
 rw[hcl]at hl;subst hl
 refine w_an (Tree.pp (qav (m:=⟨_,_,_,_,_,_,m.A1,_,_,_⟩) h.given)).1 (w_lv λx1 hx1=>w_br (λ_=>⟨Nat.zero_le _,h,hc0,λh=>h, .inl rfl⟩) (λhb=> ?_))
 have hr:Q3w m=true:=by rw[<-show x1=Q3w m from hx1];simpa using hb
 obtain⟨hm,hh,hct⟩:=Zif hr
 obtain⟨g1,g2,g3,g4,g5⟩:=(Qzn m).1 hm
 have hP:(P:Int)≠0:=by rw[<-Q3d h.mem];exact g1
 have fin: ∀(n:Q01),okS P n->Q7b n.B2->Q0t n=true->n.A3=m.A3-> ¬(n.A6=true/\n.A9=true)->Good P m {B2:=n.B2,Mem:=n.Mem,A4:=n.A4,B0:=n.B0,B1:=n.B1,C4:=n.C4,A1:=n.A1,A3:=IntKind.wrap .u64 (n.A3+1),A6:=n.A6,A9:=n.A9}:=λn a b c d e=>by
   have ec:IntKind.wrap .u64 (n.A3+1)=m.A3+1:=by rw[d,IntKind.wrap_u64];omega
   refine⟨⟨a.cpu,a.mem,a.disk,a.nic,a.target,a.given⟩,?_,λ_=>(Qzn _).2 ⟨?_,b,?_,e,c⟩, .inr ec⟩
   . show 0<=IntKind.wrap .u64 (n.A3+1);omega
   . show Q0q n.Mem≠0;rw[Q3d a.mem];exact hP
   . show IntKind.wrap .u64 (n.A3+1)<=_;omega
 refine Q0e (Zb6 (m:=⟨_,_,m.A4,m.B0,m.B1,m.C4,m.A1,m.A3,m.A6,m.A9⟩) ⟨h.cpu,h.mem,h.disk,h.nic,h.target,h.given⟩ g2) λx2 hx2=> ?_
 obtain⟨b1,b2,b3,b4,b5,b6,b7,b8,b9,b10,b11⟩:=hx2
 have ex:=Tree.pp (zau b2.cpu b2.mem)
 have em:=Tree.pp (zG b2.cpu b1 b2.mem)
 have er:=Tree.pp (Zhx b2.cpu b2.mem)
 refine w_an ex.1 (w_lv λx3 h3=> ?_)
 obtain⟨e1,e2,e3⟩:Q2i x3.1/\Q0y P x3.2.1/\U x3.2.2.Value:=by rw[h3];exact ex.2
 have f1:Q7b x3.1:=by rw[h3];exact em.2
 have r1:0<=x3.2.2.D8/\x3.2.2.D8<16:=by rw[h3];exact er.2
 have ok3:okS P ⟨x3.1,x3.2.1,x2.A4,x2.B0,x2.B1,x2.C4,x2.A1,x2.A3,x2.A6,x2.A9⟩:=⟨e1,e2,b2.disk,b2.nic,b2.target,b2.given⟩
 have dev: ∀(w h:Bool),Q0t ⟨x3.1,x3.2.1,x2.A4,x2.B0,x2.B1,x2.C4,x2.A1,x2.A3,w,h⟩=true:=λw hh=>by
   have id: ∀{p:Prop},p->p:=λh=>h
   refine Qo1 (m:=m) (P:=P) h.mem e2 ?_ ?_ ?_ ?_ ?_ g5
   . show _->Q27 x2.A4=true;rw[b7];exact id
   . show _->Q41 x2.B0=true;rw[b8];exact id
   . show _->Q1d x2.B1 P=true;rw[b9];exact id
   . show _->Q5p x2.C4 P=true;rw[b10];exact id
   . show _->Q2d x2.A1 P=true;rw[b11];exact id
 have hw:x2.A6=false:=b4
 have hh2:x2.A9=false:=b5.trans hh
 have hct2:x2.A3=m.A3:=b6
 refine w_br (λ_=> ?_) λ_=>w_br (λ_=> ?_) λ_=>w_br (λ_=> ?_) λ_=>w_br (λ_=> ?_) λ_=> ?_
 . refine Q0e (Zk8 ok3 _ hk) λx4 h4=> ?_
   obtain⟨k,u⟩:=h4
   have kc:x4.1.B2=x3.1:=k.cpu
   have kt:x4.1.A3=m.A3:=k.cnt.trans hct2
   have kw: ¬(x4.1.A6=true/\x4.1.A9=true):=λe=>by have:x4.1.A6=x2.A6:=k.wait;rw[this,hw]at e;cases e.1
   have km:Q7b x4.1.B2:=by rw[kc];exact f1
   refine w_br (λhn=>w_cn (rc r1) ⟨Nat.zero_le _,?_⟩) (λ_=>⟨Nat.zero_le _,fin x4.1 k.ok km (k.dev (dev _ _)) kt kw⟩)
   have hn:x3.2.2.D8≠0:=by simpa using hn
   obtain⟨q,e⟩: ∃q:Nat,x3.2.2.D8.toNat=q+1:=⟨x3.2.2.D8.toNat-1,by omega⟩
   refine fin ⟨⟨A16.of 0 (List.set (A16.l x4.1.B2.X) x3.2.2.D8.toNat x4.2),x4.1.B2.Pc,x4.1.B2.B4⟩,x4.1.Mem,x4.1.A4,x4.1.B0,x4.1.B1,x4.1.C4,x4.1.A1,x4.1.A3,x4.1.A6,x4.1.A9⟩ ⟨⟨Zfq k.ok.cpu.x u _,k.ok.cpu.pc,k.ok.cpu.csr⟩,k.ok.mem,k.ok.disk,k.ok.nic,k.ok.target,k.ok.given⟩ ⟨?_,km.st,km.en,km.rt,km.ve⟩ (k.dev (dev _ _)) kt kw
   show(A16.of 0 (List.set (A16.l x4.1.B2.X) x3.2.2.D8.toNat x4.2)).a0=0
   rw[e]
   exact km.x0
 . refine Q0e (Zgv ok3 _ e3 _) λx5 h5=> ?_
   obtain⟨k,u⟩:=h5
   have kc:x5.1.B2=x3.1:=k.cpu
   exact⟨u,fin x5.1 k.ok (by rw[kc];exact f1) (k.dev (dev _ _)) (k.cnt.trans hct2) (λe=>by have:x5.1.A6=x2.A6:=k.wait;rw[this,hw]at e;cases e.1)⟩
 . exact⟨Nat.zero_le _,fin ⟨x3.1,x3.2.1,x2.A4,x2.B0,x2.B1,x2.C4,x2.A1,x2.A3,true,x2.A9⟩ ⟨e1,e2,b2.disk,b2.nic,b2.target,b2.given⟩ f1 (dev _ _) hct2 (λe=>by have e2:x2.A9=true:=e.2;rw[hh2]at e2;cases e2)⟩
 . exact⟨Nat.zero_le _,fin ⟨x3.1,x3.2.1,x2.A4,x2.B0,x2.B1,x2.C4,x2.A1,x2.A3,x2.A6,true⟩ ⟨e1,e2,b2.disk,b2.nic,b2.target,b2.given⟩ f1 (dev _ _) hct2 (λe=>by have e2:x2.A6=true:=e.1;rw[hw]at e2;cases e2)⟩
 . exact⟨Nat.zero_le _,fin ⟨x3.1,x3.2.1,x2.A4,x2.B0,x2.B1,x2.C4,x2.A1,x2.A3,x2.A6,x2.A9⟩ ok3 f1 (dev _ _) hct2 (λe=>by have e2:x2.A6=true:=e.1;rw[hw]at e2;cases e2)⟩
theorem yG{P:Nat}{m:Q01}(h:okM P m){e:Q08}(he:U e.N):(Q3u m e).w (λr=>(Q1c m=true->Q1c r.1=true)/\r.1.A3=m.A3/\U r.1.A1.C2):=by
 obtain⟨h1,h2,h3,h4,h5,h7⟩:=h
 have hcl:Q03 m.Mem=m.Mem:=rfl
 have pg: ∀{m':List Int},Q0y P m'->Q0q m'=Q0q m.Mem:=λh=>by rw[Q3d h,Q3d h2]
 have keep:(Q1c m=true->Q1c m=true)/\m.A3=m.A3/\U m.A1.C2:=⟨λh=>h,rfl,h5.2⟩
 unfold Q3u
 refine w_an (Q94 h2) (w_lv λl hl=> ?_)
 rw[hcl]at hl;subst hl
 refine Q0e (vY (m:=⟨_,_,_,_,_,_,m.A1,_,_,_⟩) h5.2) λx1 _=>w_br (λ_=>keep) λ_=>w_br (λ_=>keep) λ_=> ?_
 refine w_br (λ_=>w_br (λ_=>w_br (λ_=>w_lv λx hx=> ?_) (λ_=>keep)) (λ_=>keep)) λ_=>w_br (λ_=>w_br (λ_=>w_br (λ_=>Q0e (zae _ _) λx hx=> ?_) (λ_=>keep)) (λ_=>keep)) λ_=>w_br (λhk=>Q0e (Zjj h2 h3 e) λx hx=> ?_) λ_=>w_br (λhk=>w_br (λ_=>Q0e (qe h2 h4 _) λx hx=> ?_) (λ_=>keep)) λ_=>w_br (λ_=>w_br (λ_=> ?_) (λ_=>keep)) (λ_=>keep)
 . exact⟨Qs9 rfl rfl rfl rfl rfl (λh=>h) (λh=>by rw[hx];exact vF _ h) (λ_ h=>h) (λ_ h=>h) rfl,rfl,h5.2⟩
 . exact⟨Qs9 rfl rfl rfl rfl rfl hx (λh=>h) (λ_ h=>h) (λ_ h=>h) rfl,rfl,h5.2⟩
 . obtain⟨a1,a2,a3,a4,a5⟩:=hx
   exact⟨Qs9 (pg a2) rfl rfl rfl rfl (λh=>h) (λh=>h) a5 (λ_ h=>h) rfl,rfl,h5.2⟩
 . obtain⟨a1,a2,a3,a4,a5⟩:=hx
   exact⟨Qs9 (pg a2) rfl rfl rfl rfl (λh=>h) (λh=>h) (λ_ h=>h) a5 rfl,rfl,h5.2⟩
 . exact⟨Qs9 rfl rfl rfl rfl rfl (λh=>h) (λh=>h) (λ_ h=>h) (λ_ h=>h) rfl,rfl,h5.2⟩
structure okW(m:Q01):Prop where
 cpu:Q2i m.B2
 u: ∀w∈m.Mem,U w
 len:m.Mem.length<=1024
 disk:Q8j m.B1
 nic:Qih m.C4
 bal:okB m.A1
 cnt:0<=m.A3
theorem Qto{a:Int}(h:U a):(BitVec.ofInt 32 a).toNat=a.toNat:=by
 obtain⟨h1,h2⟩:=h
 rw[BitVec.toNat_ofInt];omega
theorem Zgz{a b:Int}(ha:U a)(hb:U b):iand .u32 a b=((a.toNat&&&b.toNat:Nat):Int):=by
 have l:=(BitVec.ofInt 32 a&&&BitVec.ofInt 32 b).isLt
 have e:(BitVec.ofInt 32 a&&&BitVec.ofInt 32 b).toNat=a.toNat&&&b.toNat:=by rw[BitVec.toNat_and,Qto ha,Qto hb]
 show IntKind.wrap .u32 ((BitVec.ofInt 32 a&&&BitVec.ofInt 32 b).toNat:Int)=_
 rw[IntKind.wrap_u32,<-e];omega
theorem xaE{a b:Int}(ha:U a)(hb:U b):ior .u32 a b=((a.toNat|||b.toNat:Nat):Int):=by
 have l:=(BitVec.ofInt 32 a|||BitVec.ofInt 32 b).isLt
 have e:(BitVec.ofInt 32 a|||BitVec.ofInt 32 b).toNat=a.toNat|||b.toNat:=by rw[BitVec.toNat_or,Qto ha,Qto hb]
 show IntKind.wrap .u32 ((BitVec.ofInt 32 a|||BitVec.ofInt 32 b).toNat:Int)=_
 rw[IntKind.wrap_u32,<-e];omega
theorem Z6t{a:Int}(ha:U a)(k:Nat)(hk:k<=32){q:Int}(hq:q=((2^k-1:Nat):Int)):iand .u32 a q=a%2^k:=by
 have hp:2^k<=2^32:=Nat.pow_le_pow_right (by decide) hk
 have h1:(2:Nat)^32=4294967296:=by decide
 have hpos:=Nat.two_pow_pos k
 subst hq
 rw[Zgz ha ⟨by omega,by omega⟩,Int.toNat_natCast,Nat.and_two_pow_sub_one_eq_mod]
 have:=ha.1
 rw[Int.natCast_emod,Int.toNat_of_nonneg this]
 simp
theorem m15{a:Int}(ha:U a):iand .u32 a 15=a%16:=Z6t ha 4 (by decide) rfl
theorem m255{a:Int}(ha:U a):iand .u32 a 255=a%256:=Z6t ha 8 (by decide) rfl
theorem m65535{a:Int}(ha:U a):iand .u32 a 65535=a%65536:=Z6t ha 16 (by decide) rfl
theorem Qsz(p:Int->Bool)(N:Nat)(h:(List.range N).all (λn=>p n)=true){s:Int}(h0:0<=s)(h1:s<N):p s=true:=by
 have:=List.all_eq_true.1 h s.toNat (List.mem_range.2 (by omega))
 rwa [Int.toNat_of_nonneg h0]at this
theorem w64{x:Int}(h0: -9223372036854775808<=x)(h1:x<9223372036854775808):IntKind.wrap .i64 x=x:=by rw[IntKind.wrap_i64];omega
theorem shr0(a:Int):ishr .u32 a 0=a:=by have:=Qp (a:=a) 0 (by decide);simpa using this
theorem fld(w:Int):Q2t w 24 8=iand .u32 (ishr .u32 w 24) 255/\Q2t w 20 4=iand .u32 (ishr .u32 w 20) 15/\Q2t w 16 4=iand .u32 (ishr .u32 w 16) 15/\Q2t w 0 16=iand .u32 (ishr .u32 w 0) 65535/\Q2t w 8 8=iand .u32 (ishr .u32 w 8) 255:=
 ⟨by kernel_rfl,by kernel_rfl,by kernel_rfl,by kernel_rfl,by kernel_rfl⟩
def useOf(f:Int):Q8k×Bool:=
 bif f==1 then(⟨false,false,false,0,0⟩,true) else bif f==2 then(⟨true,true,true,0,0⟩,true) else bif f==3 then(⟨true,true,false,-32768,32767⟩,true)
 else bif f==4 then(⟨true,true,false,0,65535⟩,true) else bif f==5 then(⟨true,true,false,0,31⟩,true) else bif f==6 then(⟨true,false,false,0,65535⟩,true)
 else bif f==7 then(⟨true,false,false,-32768,32767⟩,true) else bif f==8 then(⟨true,false,false,0,7⟩,true) else bif f==9 then(⟨true,false,false,0,11⟩,true) else(⟨false,false,false,0,0⟩,false)
def sameU(x y:Q8k×Bool):Bool:=x.1.a==y.1.a&&x.1.b==y.1.b&&x.1.c==y.1.c&&x.1.low==y.1.low&&x.1.D5==y.1.D5&&x.2==y.2
theorem vG{x y:Q8k×Bool}(h:sameU x y=true):x=y:=by
 obtain⟨⟨a,b,c,d,e⟩,f⟩:=x
 obtain⟨⟨a',b',c',d',e'⟩,f'⟩:=y
 simp only[sameU,Bool.and_eq_true,beq_iff_eq]at h
 obtain⟨⟨⟨⟨⟨rfl,rfl⟩,rfl⟩,rfl⟩,rfl⟩,rfl⟩:=h
 rfl
theorem qW{op:Int}(h0:0<=op)(h1:op<256):Z0d op=useOf (Q26 op):=by
 exact vG (Qsz (λop=>sameU (Z0d op) (useOf (Q26 op))) 256 (by kernel_rfl) h0 h1)
theorem vf{op:Int}(h0:0<=op)(h1:op<256):Q26 op=0\/Q26 op=1\/Q26 op=2\/Q26 op=3\/Q26 op=4\/Q26 op=5\/Q26 op=6\/Q26 op=7\/Q26 op=8\/Q26 op=9:=by
 have:=of_decide_eq_true (Qsz (λop=>decide (0<=Q26 op/\Q26 op<=9)) 256 (by kernel_rfl) h0 h1)
 omega
theorem qag{op:Int}(h0:0<=op)(h1:op<256):Q8e op=Q5e op:=by
 exact eq_of_beq (Qsz (λop=>Q8e op==Q5e op) 256 (by kernel_rfl) h0 h1)
theorem qH{a x y:Bool}:(cond a x y=true)↔((a=true/\x=true)\/(a=false/\y=true)):=by cases a<;>simp
theorem Z8c{i:Q0i}(h0:0<=i.Op)(h1:i.Op<256)(hi:IntKind.wrap .i64 i.Imm=i.Imm):Qeu i=Q8b i:=by
 rw[Bool.eq_iff_iff]
 simp only[Qeu,Qh6,Tree.m,letv,Q8b,Qet,qW h0 h1,hi]
 rcases vf h0 h1 with h|h|h|h|h|h|h|h|h|h<;>rw[h]<;>
 simp [useOf,Q9,Qel,Q7t,Qcv,Qld,Qky,Tree.m,letv,qH]<;>omega
theorem sx16{x:Int}(h0:0<=x)(h1:x<65536):IntKind.wrap .i32 (Q25 x 16)=IntKind.wrap .i32 (IntKind.wrap .i16 x):=by
 have e:Q25 x 16=IntKind.wrap .u32 (ishr .i32 (IntKind.wrap .i32 (ishl .u32 x 16)) 16):=by kernel_rfl
 have e2: ∀y,ishr .i32 y 16=y/65536:=λy=>by
   show Int.fdiv y 65536=_
   rw[Int.fdiv_eq_ediv_of_nonneg _ (by decide)]
 have e3:ishl .u32 x 16=IntKind.wrap .u32 (x*65536):=rfl
 have e4:IntKind.wrap .i16 x=(x+32768)%65536-32768:=by
   simp [IntKind.wrap,IntKind.bits,IntKind.signed]
   split<;>omega
 rw[e,e2,e3,e4]
 simp only[IntKind.wrap_i32,IntKind.wrap_u32]
 omega
theorem sx8{x:Int}(h0:0<=x)(h1:x<256):Q25 x 8=Q36 x 8:=by
 exact eq_of_beq (Qsz (λx=>Q25 x 8==Q36 x 8) 256 (by kernel_rfl) h0 h1)
theorem qg{w:Int}(hw:U w):Qgm w=Q3o w:=by
 obtain⟨f1,f2,f3,f4,_⟩:=fld w
 obtain⟨w0,w1⟩:=hw
 have s24:ishr .u32 w 24=w/16777216:=by have:=Qp (a:=w) 24 (by decide);simpa using this
 have s20:U (ishr .u32 w 20):=Qtl ⟨w0,w1⟩ _
 have s16:U (ishr .u32 w 16):=Qtl ⟨w0,w1⟩ _
 rw[m255 (Qtl ⟨w0,w1⟩ _),s24]at f1
 rw[m15 s20]at f2
 rw[m15 s16]at f3
 rw[shr0]at f4
 have g1:w/16777216%256=w/16777216:=by omega
 rw[g1]at f1
 have o0:0<=w/16777216:=by omega
 have o1:w/16777216<256:=by omega
 have eo:IntKind.wrap .i64 (w/16777216)=w/16777216:=w64 (by omega) (by omega)
 have i32: ∀x,IntKind.wrap .i64 (IntKind.wrap .i32 x)=IntKind.wrap .i32 x:=λx=>by rw[IntKind.wrap_i64,IntKind.wrap_i32];omega
 have l0:=m65535 ⟨w0,w1⟩
 have lx:=sx16 (x:=iand .u32 w 65535) (by omega) (by omega)
 simp only[Qgm,Q7d,Q3o,Q9q,Tree.m,letv,f1,f2,f3,f4,s24,eo,qW o0 o1,m15 s20,m15 s16,lx]
 generalize w/16777216=op at*
 generalize IntKind.wrap .i64 (ishr .u32 w 20%16)=a
 generalize IntKind.wrap .i64 (ishr .u32 w 16%16)=b
 generalize iand .u32 w 65535=l
 rw[Z8c (i:=⟨op,a,b,IntKind.wrap .i64 l,0⟩) o0 o1 rfl,Z8c (i:=⟨op,a,b,0,IntKind.wrap .i32 (IntKind.wrap .i16 l)⟩) o0 o1 (i32 _),Z8c (i:=⟨op,a,b,0,IntKind.wrap .i32 l⟩) o0 o1 (i32 _)]
 rcases vf o0 o1 with h|h|h|h|h|h|h|h|h|h<;>rw[h]<;>rfl
theorem zag(x v:BitVec 32)(s:Nat)(hs:s<=24):((x&&&~~~(255#32<<<s))|||((v&&&255#32)<<<s)).toNat=2^(s+8)*(x.toNat/2^(s+8))+(2^s*(v.toNat%256)+x.toNat%2^s):=by
  have hx:=x.isLt
  have h1:x.toNat%2^s<2^s:=Nat.mod_lt _ (Nat.two_pow_pos s)
  have h2:2^s*(v.toNat%256)+x.toNat%2^s<2^(s+8):=by
    have:v.toNat%256<256:=Nat.mod_lt _ (by decide)
    have h3:2^s*(v.toNat%256)<=2^s*255:=Nat.mul_le_mul_left _ (by omega)
    have:2^(s+8)=2^s*256:=by rw[Nat.pow_add]
    omega
  rw[Nat.two_pow_add_eq_or_of_lt h2,Nat.two_pow_add_eq_or_of_lt h1]
  apply Nat.eq_of_testBit_eq
  intro i
  rw[BitVec.testBit_toNat]
  simp only[BitVec.getLsbD_or,BitVec.getLsbD_and,BitVec.getLsbD_not,BitVec.getLsbD_shiftLeft,Nat.testBit_or,Nat.testBit_two_pow_mul,Nat.testBit_mod_two_pow,Nat.testBit_div_two_pow,BitVec.getLsbD_ofNat]
  have e255: ∀j,Nat.testBit 255 j=decide (j<8):=λj=>by
    rw[show 255=2^8-1 from rfl,Nat.testBit_two_pow_sub_one]
  have e256: ∀n j,Nat.testBit (n%256) j=(decide (j<8)&&Nat.testBit n j):=λn j=>by
    rw[show 256=2^8 from rfl,Nat.testBit_mod_two_pow]
  rw[e255,e256]
  by_cases hi:i<32
  . by_cases a1:i<s
    . have a2: ¬(s<=i):=by omega
      have a3: ¬(s+8<=i):=by omega
      simp [hi,a1,a2,a3,BitVec.getLsbD]
    . by_cases a4:s+8<=i
      . have a2: ¬(i-s<8):=by omega
        have a5:i-(s+8)+(s+8)=i:=by omega
        have a6:s<=i:=by omega
        simp [hi,a1,a2,a4,a5,a6,BitVec.getLsbD]
      . have a2:(i-s<8):=by omega
        have a6:s<=i:=by omega
        have a7:i-s<32:=by omega
        simp [hi,a1,a2,a4,a6,a7,BitVec.getLsbD]
  . have a0:x.toNat.testBit i=false:=Nat.testBit_lt_two_pow (Nat.lt_of_lt_of_le hx (Nat.pow_le_pow_right (by decide) (by omega)))
    have a1: ¬(i<s):=by omega
    have a2: ¬(i-s<8):=by omega
    have a4:s+8<=i:=by omega
    have a5:i-(s+8)+(s+8)=i:=by omega
    simp [hi,a0,a1,a2,a4,a5]
theorem Z5y(b:BitVec 32):BitVec.ofInt 32 (IntKind.wrap .u32 (b.toNat:Int))=b:=by
 have:=b.isLt
 rw[IntKind.wrap_u32]
 apply BitVec.eq_of_toNat_eq
 rw[BitVec.toNat_ofInt];omega
theorem Zlb(x:Int):BitVec.ofInt 32 (IntKind.wrap .u32 x)=BitVec.ofInt 32 x:=by
 apply BitVec.eq_of_toNat_eq
 rw[BitVec.toNat_ofInt,BitVec.toNat_ofInt,IntKind.wrap_u32]
 have:((2^32:Nat):Int)=4294967296:=by decide
 rw[this,Int.emod_emod_of_dvd _ (Int.dvd_refl _)]
theorem Zal{x:Int}(hx:U x)(s:Nat)(hs:s<=32):BitVec.ofInt 32 (ishl .u32 x s)=BitVec.ofInt 32 x<<<s:=by
 obtain⟨n,rfl⟩: ∃n:Nat,x=n:=⟨x.toNat,by have:=hx.1;omega⟩
 have e:min (Int.toNat (s:Int)) IntKind.u32.bits=s:=by show min (Int.toNat (s:Int)) 32=s;omega
 unfold ishl
 rw[e,Zlb]
 have e2:((n:Int)*2^s)=((n*2^s:Nat):Int):=by simp
 have:=hx.2
 rw[e2,BitVec.ofInt_natCast,BitVec.ofInt_natCast]
 apply BitVec.eq_of_toNat_eq
 rw[BitVec.toNat_shiftLeft,BitVec.toNat_ofNat,BitVec.toNat_ofNat,Nat.shiftLeft_eq,Nat.mod_mul_mod]
def putW(W v:Int)(s:Nat):Int:=ior .u32 (Qg7 .u32 W (ishl .u32 255 s)) (ishl .u32 (iand .u32 v 255) s)
theorem xag{W v:Int}(hW:U W)(hv:U v)(s:Nat)(hs:s<=24):putW W v s=2^(s+8)*(W/2^(s+8))+(2^s*(v%256)+W%2^s):=by
 have e:=zag (BitVec.ofInt 32 W) (BitVec.ofInt 32 v) s hs
 have l:=((BitVec.ofInt 32 W&&&~~~(255#32<<<s))|||((BitVec.ofInt 32 v&&&255#32)<<<s)).isLt
 have h1:BitVec.ofInt 32 (Qg7 .u32 W (ishl .u32 255 s))=BitVec.ofInt 32 W&&&~~~(255#32<<<s):=by
   show BitVec.ofInt 32 (IntKind.wrap .u32 (BitVec.ofInt 32 W&&&~~~BitVec.ofInt 32 (ishl .u32 255 s)).toNat)=_
   rw[Z5y,Zal ⟨by decide,by decide⟩ s (by omega)]
   rfl
 have h2:BitVec.ofInt 32 (ishl .u32 (iand .u32 v 255) s)=(BitVec.ofInt 32 v&&&255#32)<<<s:=by
   rw[Zal (Zfc _ _) s (by omega)]
   congr 1
   show BitVec.ofInt 32 (IntKind.wrap .u32 (BitVec.ofInt 32 v&&&BitVec.ofInt 32 255).toNat)=_
   rw[Z5y];rfl
 show IntKind.wrap .u32 ((BitVec.ofInt 32 (Qg7 .u32 W (ishl .u32 255 s))|||BitVec.ofInt 32 (ishl .u32 (iand .u32 v 255) s)).toNat:Int)=_
 rw[h1,h2]
 have lw:IntKind.wrap .u32 ((((BitVec.ofInt 32 W&&&~~~(255#32<<<s))|||((BitVec.ofInt 32 v&&&255#32)<<<s)).toNat:Nat):Int)=(((BitVec.ofInt 32 W&&&~~~(255#32<<<s))|||((BitVec.ofInt 32 v&&&255#32)<<<s)).toNat:Nat):=by rw[IntKind.wrap_u32];omega
 rw[lw,e,Qto hW,Qto hv]
 obtain⟨n,rfl⟩: ∃n:Nat,W=n:=⟨W.toNat,by have:=hW.1;omega⟩
 obtain⟨k,rfl⟩: ∃n:Nat,v=n:=⟨v.toNat,by have:=hv.1;omega⟩
 simp
def dig(w:Int)(k:Nat):Int:=if k=0 then w%256 else if k=1 then w/256%256 else if k=2 then w/65536%256 else w/16777216%256
def byt(m:List Int)(a:Nat):Int:=dig (m.getD (a/4) 0) (a%4)
theorem xg(w:Int)(k:Nat):0<=dig w k/\dig w k<256:=by
 unfold dig
 split
 . omega
 . split
   . omega
   . split<;>omega
theorem qah{w v:Int}(hw:U w)(hv:U v)(h: ∀k,k<4->dig w k=dig v k):w=v:=by
 have h0:=h 0 (by omega)
 have h1:=h 1 (by omega)
 have h2:=h 2 (by omega)
 have h3:=h 3 (by omega)
 simp [dig]at h0 h1 h2 h3
 obtain⟨a,b⟩:=hw
 obtain⟨c,d⟩:=hv
 omega
theorem Zf9{m n:List Int}(hl:m.length=n.length)(hm: ∀w∈m,U w)(hn: ∀w∈n,U w)(h: ∀a,byt m a=byt n a):m=n:=by
 refine List.ext_getElem hl λi h1 h2=> ?_
 have e1:m[i]=m.getD i 0:=by simp [List.getD,h1]
 have e2:n[i]=n.getD i 0:=by simp [List.getD,h2]
 rw[e1,e2]
 refine qah (Qjp hm i) (Qjp hn i) λk hk=> ?_
 have:=h (4*i+k)
 simp only[byt]at this
 rwa [show(4*i+k)/4=i by omega,show(4*i+k)%4=k by omega]at this
theorem Qs1{l:List Int}{i:Nat}(h:i<l.length)(v:Int):(l.set i v).getD i 0=v:=by
 simp [List.getD,h]
theorem Zh2{m:List Int}{i:Nat}(hi:i<m.length)(v:Int)(a:Nat):byt (m.set i v) a=if a/4=i then dig v (a%4) else byt m a:=by
 unfold byt
 split
 . rename_i h;rw[h,Qs1 hi]
 . rename_i h;rw[getDset _ _ _ _ (λe=>h e.symm)]
theorem zah{W v:Int}(hW:U W)(hv:U v){j:Nat}(hj:j<4){k:Nat}(hk:k<4):dig (putW W v (8*j)) k=if k=j then v%256 else dig W k:=by
 have h:=xag hW hv (8*j) (by omega)
 rw[h]
 obtain⟨w0,w1⟩:=hW
 have h0:0<=v%256:=by omega
 have h1:v%256<256:=by omega
 generalize v%256=b at*
 clear h
 have hj:j=0\/j=1\/j=2\/j=3:=by omega
 have hk:k=0\/k=1\/k=2\/k=3:=by omega
 rcases hj with rfl|rfl|rfl|rfl<;>rcases hk with rfl|rfl|rfl|rfl<;>simp [dig]<;>omega
theorem xah{m:List Int}{a v:Int}(ha:U a):Qag m a 1 v=m.set (a/4).toNat (putW (m.getD (a/4).toNat 0) v (8*(a%4).toNat)):=by
 obtain⟨a0,a1⟩:=ha
 have e1:IntKind.wrap .u32 (Int.tdiv a 4)=a/4:=by rw[IntKind.wrap_u32,Int.tdiv_eq_ediv_of_nonneg a0];omega
 have e2:IntKind.wrap .u32 (8*Int.tmod a 4)=((8*(a%4).toNat:Nat):Int):=by rw[IntKind.wrap_u32,Int.tmod_eq_emod_of_nonneg a0];omega
 have e3:((1:Int)==4)=false:=rfl
 simp only[Qag,Qe5,Tree.m,e1,e2,e3,cond_false]
 rfl
theorem zg{P:Nat}{m:List Int}(h:Q0y P m){a v:Int}(ha:U a)(hl:a<128*P)(hv:U v):Q0y P (Qag m a 1 v)/\ ∀b:Nat,byt (Qag m a 1 v) b=if(b:Int)=a then v%256 else byt m b:=by
 have hlen:=h.len
 have a0:=ha.1
 rw[xah ha]
 have hi:(a/4).toNat<m.length:=by omega
 refine⟨⟨by rw[List.length_set];exact hlen,h.p1,h.p2,Z2y h.u (U_or _ _) _⟩,λb=> ?_⟩
 rw[Zh2 hi]
 by_cases hb:b/4=(a/4).toNat
 . rw[if_pos hb,zah (Qjp h.u _) hv (by omega) (by omega)]
   by_cases hc:b%4=(a%4).toNat
   . rw[if_pos hc,if_pos (by omega)]
   . rw[if_neg hc,if_neg (by omega),byt,hb]
 . rw[if_neg hb,if_neg (by omega)]
theorem xW{P:Nat}{m:List Int}(h:Q0y P m){frame:Int}(f0:0<=frame)(f1:frame<P)(s:List UInt8):(Q9d m frame s).w (λr=>Q0y P r/\ ∀b:Nat,byt r b=if frame*128<=b/\(b:Int)<frame*128+min s.length 128 then((s.getD (b-frame*128).toNat 0).toNat:Int) else byt m b):=by
 unfold Q9d
 have h3:=h.p2
 refine w_lp (inv:=λz=>0<=z.1/\z.1<=min s.length 128/\Q0y P z.2/\ ∀b:Nat,byt z.2 b=if frame*128<=b/\(b:Int)<frame*128+z.1 then((s.getD (b-frame*128).toNat 0).toNat:Int) else byt m b) (μ:=Qhw m frame s) ⟨show(0:Int)<=0 by decide,by show(0:Int)<=_;omega,h,λb=>by rw[if_neg];show¬(_/\_<_+(0:Int));omega⟩ (Nat.lt_succ_self _) (λv0 hv0=> ?_)
 obtain⟨i,mm⟩:=v0
 obtain⟨i0,i1,hm,hy⟩:=hv0
 have i0:0<=i:=i0
 have i1:i<=min s.length 128:=i1
 have hm:Q0y P mm:=hm
 have fin: ∀r:List Int,r=mm->i=min s.length 128->Q0y P r/\ ∀b:Nat,byt r b=if frame*128<=b/\(b:Int)<frame*128+min s.length 128 then((s.getD (b-frame*128).toNat 0).toNat:Int) else byt m b:=λr hr hi=>by
   subst hr;refine⟨hm,λb=> ?_⟩
   rw[hy b];simp only[hi]
 refine w_br (λh1=>w_br (λh2=>w_cn ?_ ?_) (λh2=>fin mm rfl ?_)) (λh1=>fin mm rfl ?_)
 . have:=of_decide_eq_true h1
   simp [Nat.blt];omega
 . have h1:i<s.length:=of_decide_eq_true h1
   have h2:i<128:=of_decide_eq_true h2
   have e:IntKind.wrap IntKind.u32 (IntKind.wrap IntKind.i64 (IntKind.wrap IntKind.i64 (frame*128)+i))=frame*128+i:=by
     rw[IntKind.wrap_u32,IntKind.wrap_i64,IntKind.wrap_i64];omega
   show(Tree.an (Qep mm (IntKind.wrap IntKind.u32 (IntKind.wrap IntKind.i64 (IntKind.wrap IntKind.i64 (frame*128)+i))) 1 _) (Tree.lv _ _)).w _
   rw[e]
   have hu:U (frame*128+i):=⟨by omega,by omega⟩
   have hvU: ∀n:Nat,U (IntKind.wrap .u32 (n:Int)):=λn=>Q0o _
   obtain⟨g1,_⟩:=Tree.pp (put_w hm (size:=1) (addr:=frame*128+i) hu (by rw[hm.len];omega) (hvU (UInt8.toNat (s.getD i.toNat 0))))
   obtain⟨g2,g3⟩:=zg hm hu (by omega) (hvU (UInt8.toNat (s.getD i.toNat 0)))
   refine w_an g1 (w_lv λx0 hx0=> ?_)
   rw[hx0]
   have ew:IntKind.i64.wrap (i+1)=i+1:=by rw[IntKind.wrap_i64];omega
   refine w_nx ?_
   show(0<=IntKind.i64.wrap (i+1)/\IntKind.i64.wrap (i+1)<=min s.length 128/\Q0y P _/\ ∀b:Nat,byt _ b=if frame*128<=b/\(b:Int)<frame*128+IntKind.i64.wrap (i+1) then _ else _)/\(128-IntKind.i64.wrap (i+1)).toNat<(128-i).toNat
   rw[ew]
   refine⟨⟨by omega,by omega,g2,λb=> ?_⟩,by omega⟩
   rw[show Qag mm (frame*128+i) 1 _=_ from rfl,g3 b]
   by_cases hb:(b:Int)=frame*128+i
   . rw[if_pos hb,if_pos (by omega),IntKind.wrap_u32]
     have:=(s.getD i.toNat 0).toNat_lt
     rw[show(b-frame*128).toNat=i.toNat by omega];omega
   . rw[if_neg hb,hy b]
     show(if frame*128<=(b:Int)/\(b:Int)<frame*128+i then _ else _)=_
     by_cases hc:frame*128<=(b:Int)/\(b:Int)<frame*128+i
     . rw[if_pos hc,if_pos (by omega)]
     . rw[if_neg hc,if_neg (by omega)]
 . have h1:i<s.length:=of_decide_eq_true h1
   have h2: ¬i<128:=of_decide_eq_false h2
   omega
 . have h1: ¬i<s.length:=of_decide_eq_false h1
   omega
theorem yg{x y:Int}(hx:U x)(hy:U y)(k:Nat)(hk:x<2^k)(h:x+y*2^k<4294967296):ior .u32 x (y*2^k)=x+y*2^k:=by
 obtain⟨n,rfl⟩: ∃n:Nat,x=n:=⟨x.toNat,by have:=hx.1;omega⟩
 obtain⟨z,rfl⟩: ∃n:Nat,y=n:=⟨y.toNat,by have:=hy.1;omega⟩
 have e:((z:Int)*2^k)=((z*2^k:Nat):Int):=by simp
 rw[e]at h⊢
 have hn:n<2^k:=by exact_mod_cast hk
 rw[xaE hx ⟨by omega,by omega⟩,Int.toNat_natCast,Int.toNat_natCast,Nat.or_comm,Nat.mul_comm,<-Nat.two_pow_add_eq_or_of_lt hn]
 omega
theorem four{a b c d:Int}(ha:0<=a/\a<256)(hb:0<=b/\b<256)(hc:0<=c/\c<256)(hd:0<=d/\d<256):ior .u32 (ior .u32 (ior .u32 (IntKind.wrap .u32 a) (ishl .u32 (IntKind.wrap .u32 b) 8)) (ishl .u32 (IntKind.wrap .u32 c) 16)) (ishl .u32 (IntKind.wrap .u32 d) 24)=a+b*2^8+c*2^16+d*2^24:=by
 have w: ∀{x:Int},0<=x/\x<256->IntKind.wrap .u32 x=x:=λhx=>by rw[IntKind.wrap_u32];omega
 have s8: ∀{x:Int},0<=x/\x<256->ishl .u32 x 8=x*2^8:=fun{x} hx=>by show IntKind.wrap .u32 (x*2^8)=_;rw[IntKind.wrap_u32];omega
 have s16: ∀{x:Int},0<=x/\x<256->ishl .u32 x 16=x*2^16:=fun{x} hx=>by show IntKind.wrap .u32 (x*2^16)=_;rw[IntKind.wrap_u32];omega
 have s24: ∀{x:Int},0<=x/\x<256->ishl .u32 x 24=x*2^24:=fun{x} hx=>by show IntKind.wrap .u32 (x*2^24)=_;rw[IntKind.wrap_u32];omega
 rw[w ha,w hb,w hc,w hd,s8 hb,s16 hc,s24 hd]
 rw[yg ⟨by omega,by omega⟩ ⟨by omega,by omega⟩ 8 (by omega) (by omega),yg ⟨by omega,by omega⟩ ⟨by omega,by omega⟩ 16 (by omega) (by omega),yg ⟨by omega,by omega⟩ ⟨by omega,by omega⟩ 24 (by omega) (by omega)]
theorem xH{a b c d:Int}(ha:0<=a/\a<256)(hb:0<=b/\b<256)(hc:0<=c/\c<256)(hd:0<=d/\d<256)(k:Nat)(hk:k<4):dig (a+b*2^8+c*2^16+d*2^24) k=if k=0 then a else if k=1 then b else if k=2 then c else d:=by
 have hk:k=0\/k=1\/k=2\/k=3:=by omega
 rcases hk with rfl|rfl|rfl|rfl<;>simp [dig]<;>omega
theorem Z8x{P:Nat}{m:List Int}(h:Q0y P m)(f:Int):Q5 m f=decide (0<=f/\f<P):=by
 have hp:=Q3d h
 simp only[Q5,Q8,Tree.m,letv,hp]
 by_cases h1:0<=f
 . rw[decide_eq_true h1];simp [h1]
 . rw[decide_eq_false h1];simp [h1]
theorem zH(s:List UInt8)(a b k:Nat)(h:k<b):(List.take b (List.drop a s)).getD k 0=s.getD (a+k) 0:=by
 simp [List.getD_eq_getElem?_getD,List.getElem?_take,h]
theorem u8I(x:UInt8):0<=(x.toNat:Int)/\(x.toNat:Int)<256:=by have:=x.toNat_lt;omega
theorem Z1y{P:Nat}{m:List Int}(h:Q0y P m){f:Int}(f0:0<=f)(f1:f<P){s:List UInt8}(hs:s.length=128):(Q28 m f s).w (λr=>r.2=true/\Q0y P r.1/\ ∀b:Nat,byt r.1 b=if f*128<=b/\(b:Int)<f*128+128 then((s.getD (b-f*128).toNat 0).toNat:Int) else byt m b):=by
  have hcl:Q03 m=m:=rfl
  have h2:=h.p2
  unfold Q28
  refine w_an (Q94 h) (w_lv λx0 hx0=>w_lv λx1 hx1=> ?_)
  rw[hcl]at hx0;subst hx0
  rw[Z8x h,decide_eq_true ⟨f0,f1⟩]at hx1
  subst hx1
  refine w_br (λhb=>by cases hb) λ_=>w_br (λhb=>by simp [hs]at hb) λ_=> ?_
  refine w_lp (inv:=λz:Int×List Int=>0<=z.1/\z.1<=32/\Q0y P z.2/\ ∀b:Nat,byt z.2 b=if f*128<=b/\(b:Int)<f*128+4*z.1 then((s.getD (b-f*128).toNat 0).toNat:Int) else byt x0 b) (μ:=Qaq x0 f s) ⟨show(0:Int)<=0 by decide,show(0:Int)<=32 by decide,h,λb=>by rw[if_neg];show¬(_/\_<_+4*(0:Int));omega⟩ (Nat.lt_succ_self _) λz ⟨z1,z2,z3,z4⟩=> ?_
  refine w_br (λhb=> ?_) (λhb=>⟨rfl,z3,λb=> ?_⟩)
  . have hb:=of_decide_eq_true hb
    have e1:IntKind.i64.wrap (4*z.1)=4*z.1:=by rw[IntKind.wrap_i64];omega
    have e2:IntKind.i64.wrap (IntKind.i64.wrap (4*z.1)+4)=4*z.1+4:=by rw[IntKind.wrap_i64,IntKind.wrap_i64];omega
    have e3:IntKind.i64.wrap (IntKind.i64.wrap (f*32)+z.1)=f*32+z.1:=by rw[IntKind.wrap_i64,IntKind.wrap_i64];omega
    have hl:=z3.len
    have cut:Int.toNat (IntKind.i64.wrap (IntKind.i64.wrap (4*z.1)+4))-Int.toNat (IntKind.i64.wrap (4*z.1))=4:=by rw[e2,e1];omega
    have hlen:(List.take (Int.toNat (IntKind.i64.wrap (IntKind.i64.wrap (4*z.1)+4))-Int.toNat (IntKind.i64.wrap (4*z.1))) (List.drop (Int.toNat (IntKind.i64.wrap (4*z.1))) s)).length=4:=by
      rw[cut,e1,List.length_take,List.length_drop];omega
    refine w_cn (decide_eq_true (by rw[e2,e1];omega)) ?_
    refine w_cn (decide_eq_true (by rw[hlen];decide)) (w_cn (decide_eq_true (by rw[hlen];decide)) (w_cn (decide_eq_true (by rw[hlen];decide)) (w_cn (decide_eq_true (by rw[hlen];decide)) (w_cn (by rw[e3];simp [Nat.blt];omega) (w_nx ?_)))))
    have ew:IntKind.i64.wrap (z.1+1)=z.1+1:=by rw[IntKind.wrap_i64];omega
    rw[cut]
    refine⟨⟨by show 0<=IntKind.i64.wrap (z.1+1);rw[ew];omega,by show IntKind.i64.wrap (z.1+1)<=32;rw[ew];omega,?_,?_⟩,by show(32-IntKind.i64.wrap (z.1+1)).toNat<(32-z.1).toNat;rw[ew];omega⟩
    . show Q0y P (List.set _ _ _)
      exact⟨by rw[List.length_set];exact hl,z3.p1,z3.p2,Z2y z3.u (U_or _ _) _⟩
    . intro b
      show byt (List.set z.2 (Int.toNat (IntKind.i64.wrap (IntKind.i64.wrap (f*32)+z.1))) _) b=if f*128<=(b:Int)/\(b:Int)<f*128+4*IntKind.i64.wrap (z.1+1) then _ else _
      rw[e3,ew,four (u8I _) (u8I _) (u8I _) (u8I _),Zh2 (by omega)]
      have g: ∀k:Nat,k<4->(List.take 4 (List.drop (Int.toNat (IntKind.i64.wrap (4*z.1))) s)).getD k 0=s.getD ((4*z.1).toNat+k) 0:=λk hk=>by rw[e1];exact zH _ _ _ _ hk
      by_cases hc:b/4=(f*32+z.1).toNat
      . have hin:f*128<=(b:Int)/\(b:Int)<f*128+4*(z.1+1):=by omega
        rw[if_pos hc,xH (u8I _) (u8I _) (u8I _) (u8I _) _ (by omega),if_pos hin]
        have hb4:b%4=0\/b%4=1\/b%4=2\/b%4=3:=by omega
        have gi:(b-f*128).toNat=(4*z.1).toNat+b%4:=by omega
        rw[gi]
        rcases hb4 with h4|h4|h4|h4<;>rw[h4]
        . rw[if_pos rfl,<-g 0 (by omega)];rfl
        . rw[if_neg (by decide),if_pos rfl,<-g 1 (by omega)];rfl
        . rw[if_neg (by decide),if_neg (by decide),if_pos rfl,<-g 2 (by omega)];rfl
        . rw[if_neg (by decide),if_neg (by decide),if_neg (by decide),<-g 3 (by omega)];rfl
      . rw[if_neg hc,z4 b]
        by_cases hd:f*128<=(b:Int)/\(b:Int)<f*128+4*z.1
        . rw[if_pos hd,if_pos (by omega)]
        . rw[if_neg hd,if_neg (by omega)]
  . have hb:=of_decide_eq_false hb
    show byt z.2 b=_
    rw[z4 b,show z.1=32 by omega]
    rfl
theorem Z84{α:Type}(l l2:List α)(k:Nat)(z:α):(l++l2).getD k z=if k<l.length then l.getD k z else l2.getD (k-l.length) z:=by
 simp only[List.getD_eq_getElem?_getD,List.getElem?_append]
 split<;>rfl
theorem u8w{x:Int}:IntKind.wrap .u8 x=x%256:=IntKind.wrap_u8 x
theorem shr_c(W:Int):ishr .u32 W 8=W/256/\ishr .u32 W 16=W/65536/\ishr .u32 W 24=W/16777216:=by
 refine⟨?_,?_,?_⟩
 . show Int.fdiv W 256=_;rw[Int.fdiv_eq_ediv_of_nonneg _ (by decide)]
 . show Int.fdiv W 65536=_;rw[Int.fdiv_eq_ediv_of_nonneg _ (by decide)]
 . show Int.fdiv W 16777216=_;rw[Int.fdiv_eq_ediv_of_nonneg _ (by decide)]
theorem b4d(W:Int){k:Nat}(hk:k<4):[IntKind.wrap .u8 W,IntKind.wrap .u8 (ishr .u32 W 8),IntKind.wrap .u8 (ishr .u32 W 16),IntKind.wrap .u8 (ishr .u32 W 24)].getD k 0=dig W k:=by
 obtain⟨a,b,c⟩:=shr_c W
 have hk:k=0\/k=1\/k=2\/k=3:=by omega
 rcases hk with rfl|rfl|rfl|rfl<;>simp [dig,a,b,c,u8w]
theorem Qno(l:List Int)(k:Nat)(h:0<=l.getD k 0/\l.getD k 0<256)(hk:k<l.length):(((bytesOf l).getD k 0).toNat:Int)=l.getD k 0:=by
 have e:(bytesOf l).getD k 0=UInt8.ofNat (l.getD k 0).toNat:=by
   simp [bytesOf,List.getD_eq_getElem?_getD,hk]
 rw[e,UInt8.toNat_ofNat']
 omega
theorem Zey(l:List UInt8)(k:Nat)(hk:k<l.length):(Qb2 l).getD k 0=((l.getD k 0).toNat:Int):=by
 simp [Qb2,List.getD_eq_getElem?_getD,hk]
theorem qaF(w:List Int)(h:w.length<=32):(Q4l w).w (λr=>r.length=4*w.length/\ ∀k:Nat,k<4*w.length->((r.getD k 0).toNat:Int)=dig (w.getD (k/4) 0) (k%4)):=by
 have e0:IntKind.i64.wrap (4*(w.length:Int))=4*w.length:=by rw[IntKind.wrap_i64];omega
 unfold Q4l
 refine w_cn (by rw[e0];simp [Nat.blt,D.plain];omega) ?_
 refine w_lp (inv:=λz:Int×List Int=>0<=z.1/\z.1<=w.length/\(z.2.length:Int)=4*z.1/\ ∀k:Nat,(k:Int)<4*z.1->z.2.getD k 0=dig (w.getD (k/4) 0) (k%4)) (μ:=Q7 w) ⟨by decide,by show(0:Int)<=w.length;omega,rfl,λk hk=>by have hk:(k:Int)<4*0:=hk;omega⟩ (Nat.lt_succ_self _) λz ⟨z1,z2,z3,z4⟩=> ?_
 refine w_br (λhb=> ?_) (λhb=> ?_)
 . have hb:=of_decide_eq_true hb
   have ew:IntKind.i64.wrap (z.1+1)=z.1+1:=by rw[IntKind.wrap_i64];omega
   refine w_cn (by simp [Nat.blt];omega) (w_cn (decide_eq_true (by omega)) (w_nx ?_))
   show(_/\_/\_/\ ∀k:Nat,(k:Int)<4*IntKind.i64.wrap (z.1+1)->(z.2++_).getD k 0=_)/\(_:Nat)<_
   refine⟨⟨by rw[ew];omega,by rw[ew];omega,by rw[ew,List.length_append];simp only[List.length_cons,List.length_nil];omega,λk hk=> ?_⟩,by show(w.length-IntKind.i64.wrap (z.1+1)).toNat<(w.length-z.1).toNat;rw[ew];omega⟩
   rw[ew]at hk
   rw[Z84]
   split
   . exact z4 k (by omega)
   . rename_i hn
     rw[b4d _ (by omega),show z.1.toNat=k/4 by omega,show k-z.2.length=k%4 by omega]
 . have hb:=of_decide_eq_false hb
   show(bytesOf z.2).length=_/\ ∀k:Nat,_->(((bytesOf z.2).getD k 0).toNat:Int)=_
   refine⟨by rw[Qgu];omega,λk hk=> ?_⟩
   have e:=z4 k (by omega)
   have:=xg (w.getD (k/4) 0) (k%4)
   rw[Qno _ _ (by rw[e];exact this) (by omega),e]
def isPg(m:List Int)(f:Int)(r:List UInt8):Prop:=r.length=128/\ ∀k:Nat,k<128->((r.getD k 0).toNat:Int)=byt m ((f*128).toNat+k)
theorem zaF{m:List Int}{f:Int}{r s:List UInt8}(a:isPg m f r)(b:isPg m f s):r=s:=by
 obtain⟨a1,a2⟩:=a
 obtain⟨b1,b2⟩:=b
 refine List.ext_getElem (by omega) λi h1 h2=> ?_
 have e:=(a2 i (by omega)).trans (b2 i (by omega)).symm
 have e1:r[i]=r.getD i 0:=by simp [List.getD,h1]
 have e2:s[i]=s.getD i 0:=by simp [List.getD,h2]
 rw[e1,e2]
 exact UInt8.toNat_inj.1 (by omega)
theorem vg{P:Nat}{m:List Int}(h:Q0y P m){f:Int}(f0:0<=f)(f1:f<P):(Q3r m f).w (λr=>isPg m f r.1/\r.2=true):=by
 have hl:=h.len
 have h2:=h.p2
 unfold Q3r
 refine w_lv λx0 hx0=> ?_
 rw[Z8x h,decide_eq_true ⟨f0,f1⟩]at hx0
 subst hx0
 refine w_br (λhb=>by cases hb) (λhb=> ?_)
 have e1:IntKind.i64.wrap (f*32)=f*32:=by rw[IntKind.wrap_i64];omega
 have e2:IntKind.i64.wrap (IntKind.i64.wrap (f*32)+32)=f*32+32:=by rw[IntKind.wrap_i64,IntKind.wrap_i64];omega
 have cut:Int.toNat (IntKind.i64.wrap (IntKind.i64.wrap (f*32)+32))-Int.toNat (IntKind.i64.wrap (f*32))=32:=by rw[e2,e1];omega
 have hlen:(List.take 32 (List.drop (Int.toNat (IntKind.i64.wrap (f*32))) m)).length=32:=by
   rw[e1,List.length_take,List.length_drop];omega
 refine w_cn (by rw[e2,e1];simp [Nat.blt];omega) ?_
 rw[cut]
 refine w_an (by show List.length _<=1000000000000;rw[hlen];decide) (w_lv λx1 h1=> ?_)
 have t:=(Tree.pp (qaF _ (Nat.le_of_eq hlen))).2
 rw[hlen,show(Q4l (List.take 32 (List.drop (Int.toNat (IntKind.i64.wrap (f*32))) m))).m=x1 from h1.symm]at t
 refine⟨⟨t.1,λk hk=> ?_⟩,rfl⟩
 show((x1.getD k 0).toNat:Int)=_
 rw[t.2 k hk,byt,e1]
 have g:(List.take 32 (List.drop (Int.toNat (f*32)) m)).getD (k/4) 0=m.getD ((f*32).toNat+k/4) 0:=by
   simp [List.getD_eq_getElem?_getD,List.getElem?_take,show k/4<32 by omega]
 rw[g,show((f*128).toNat+k)/4=(f*32).toNat+k/4 by omega,show((f*128).toNat+k)%4=k%4 by omega]
theorem xaF(x:Int):Z9e x 4=bytesOf [IntKind.wrap .u8 (ishr .u32 x 0),IntKind.wrap .u8 (ishr .u32 x 8),IntKind.wrap .u8 (ishr .u32 x 16),IntKind.wrap .u8 (ishr .u32 x 24)]:=by kernel_rfl
theorem qai{P:Nat}{m:List Int}(hm:Q0y P m){frame:Int}(f0:0<=frame)(f1:frame<P):(Q9h m frame).w (λr=>isPg m frame r.1/\r.2=true):=by
 have hp:=Qeg hm
 have hl:=hm.len
 have h2:=hm.p2
 unfold Q9h
 refine w_br (λh=>by have:=of_decide_eq_true h;omega) (λh=>w_lv λx0 hx=>w_br (λh1=>by have:=of_decide_eq_true h1;rw[hx,hp]at this;omega) (λh1=> ?_))
 refine w_lp (inv:=λz:Int×List Int=>0<=z.1/\z.1<=32/\(z.2.length:Int)=4*z.1/\ ∀k:Nat,(k:Int)<4*z.1->z.2.getD k 0=byt m ((frame*128).toNat+k)) (μ:=Qhr m frame) ⟨by decide,by decide,rfl,λk hk=>by have hk:(k:Int)<4*0:=hk;omega⟩ (Nat.lt_succ_self _) (λz hz=> ?_)
 obtain⟨z1,z2,z3,z4⟩:=hz
 refine w_br (λhb=> ?_) (λhb=> ?_)
 . have hb:=of_decide_eq_true hb
   have e:IntKind.wrap IntKind.i64 (IntKind.wrap IntKind.i64 (frame*32)+z.1)=frame*32+z.1:=by rw[IntKind.wrap_i64,IntKind.wrap_i64];omega
   refine w_cn (by rw[e];simp [Nat.blt];omega) (w_an (show(4:Int)<=1000000000000 by decide) (w_lv λx1 h4=> ?_))
   rw[xaF,shr0,e]at h4
   have l4:x1.length=4:=by rw[h4];rfl
   refine w_cn (decide_eq_true (by rw[Qoe,l4];omega)) (w_nx ?_)
   show(0<=IntKind.i64.wrap (z.1+1)/\IntKind.i64.wrap (z.1+1)<=32/\((z.2++Qb2 x1).length:Int)=4*IntKind.i64.wrap (z.1+1)/\ ∀k:Nat,(k:Int)<4*IntKind.i64.wrap (z.1+1)->(z.2++Qb2 x1).getD k 0=_)/\(32-IntKind.i64.wrap (z.1+1)).toNat<(32-z.1).toNat
   have ew:IntKind.i64.wrap (z.1+1)=z.1+1:=by rw[IntKind.wrap_i64];omega
   rw[ew]
   refine⟨⟨by omega,by omega,by rw[List.length_append,Qoe,l4];omega,λk hk=> ?_⟩,by omega⟩
   rw[Z84]
   split
   . exact z4 k (by omega)
   . rename_i hn
     have hk4:k-z.2.length<4:=by omega
     rw[Zey _ _ (by omega),h4]
     have d:=b4d (m.getD (frame*32+z.1).toNat 0) hk4
     rw[Qno _ _ (by rw[d];exact xg _ _) (by simpa using hk4),d,byt]
     rw[show((frame*128).toNat+k)/4=(frame*32+z.1).toNat by omega,show((frame*128).toNat+k)%4=k-z.2.length by omega]
 . have hb:=of_decide_eq_false hb
   refine⟨⟨?_,λk hk=> ?_⟩,rfl⟩
   . show(bytesOf z.2).length=128
     rw[Qgu];omega
   . show(((bytesOf z.2).getD k 0).toNat:Int)=_
     have e:=z4 k (by omega)
     rw[Qno _ _ (by rw[e];exact xg _ _) (by omega),e]
theorem Zcm{P:Nat}{m:List Int}(h:Q0y P m)(f:Int):Q5a m f=Qhz m f:=by
 by_cases hf:0<=f/\f<P
 . have a:=(Tree.pp (vg h hf.1 hf.2)).2
   have b:=(Tree.pp (qai h hf.1 hf.2)).2
   exact Prod.ext (zaF a.1 b.1) (a.2.trans b.2.symm)
 . have hp:=Qeg h
   have e1:Q5a m f=([],false):=by
     simp only[Q5a,Q3r,Tree.m,letv,Z8x h,decide_eq_false hf];rfl
   have e2:Qhz m f=([],false):=by
     simp only[Qhz,Q9h,Tree.m,letv,hp]
     by_cases h0:f<0
     . rw[decide_eq_true h0];rfl
     . rw[decide_eq_false h0,decide_eq_true (show f>=P by omega)];rfl
   rw[e1,e2]
section
variable {P:Nat} {m:List Int} (h:Q0y P m)
include h
theorem Ze7{f:Int}(f0:0<=f)(f1:f<P){s:List UInt8}(hs:s.length=128):Q2l m f s=(Qjr m f s,true):=by
 have a:=(Tree.pp (Z1y h f0 f1 hs)).2
 have b:=(Tree.pp (xW h f0 f1 s)).2
 refine Prod.ext (Zf9 (a.2.1.len.trans b.1.len.symm) a.2.1.u b.1.u λk=> ?_) a.1
 have e:((min s.length 128:Nat):Int)=128:=by rw[hs];rfl
 have b2:=b.2 k
 have a2:=a.2.2 k
 rw[e]at b2
 exact a2.trans b2.symm
theorem Ze6{f:Int}(f0:0<=f)(f1:f<P){s r:List UInt8}(hs:s.length<=128)(hr:isPg m f r):Q2l m f (s++r.drop s.length)=(Qjr m f s,true):=by
  have hl:(s++r.drop s.length).length=128:=by have:=hr.1;simp;omega
  have a:=(Tree.pp (Z1y h f0 f1 hl)).2
  have b:=(Tree.pp (xW h f0 f1 s)).2
  refine Prod.ext (Zf9 (a.2.1.len.trans b.1.len.symm) a.2.1.u b.1.u λk=> ?_) a.1
  have b2:=b.2 k
  have a2:=a.2.2 k
  refine a2.trans (Eq.trans ?_ b2.symm)
  by_cases hc:f*128<=(k:Int)/\(k:Int)<f*128+128
  . rw [if_pos hc,Z84]
    by_cases hd:(k-f*128).toNat<s.length
    . rw[if_pos hd,if_pos (by omega)]
    . rw[if_neg hd,if_neg (by omega)]
      have e:(r.drop s.length).getD ((k-f*128).toNat-s.length) 0=r.getD (k-f*128).toNat 0:=by
        simp [List.getD_eq_getElem?_getD,show s.length+((k-f*128).toNat-s.length)=(k-f*128).toNat by omega]
      rw[e,hr.2 _ (by omega),show(f*128).toNat+(k-f*128).toNat=k by omega]
  . rw[if_neg hc,if_neg (by omega)]
theorem Qji{a:Int}(ha:U a){size:Int}(hs:size=1\/size=4):Q2f m a size=decide (a%size=0/\a<128*P):=by
 have hq:=Qeg h
 have h2:=h.p2
 have a0:=ha.1
 have e:IntKind.wrap IntKind.u32 size=size:=by rcases hs with rfl|rfl<;>decide
 have e0:decide (IntKind.wrap IntKind.u32 size≠0)=true:=by rcases hs with rfl|rfl<;>decide
 have t:Int.tmod a (IntKind.wrap IntKind.u32 size)=a%size:=by rw[e,Int.tmod_eq_emod_of_nonneg a0]
 have l: ∀x,x=Q3l m->a%size=0->decide (a<IntKind.wrap IntKind.u32 (IntKind.wrap IntKind.i64 (128*x)))=decide (a%size=0/\a<128*P):=λx hx hz=>by
   rw[hx,hq,IntKind.wrap_u32,IntKind.wrap_i64]
   exact decide_eq_decide.2 ⟨λh=>⟨hz,by omega⟩,λh=>by omega⟩
 refine Tree.post (Q7n m a size) (W:=λb=>b=decide (a%size=0/\a<128*P)) ?_
 unfold Q7n
 refine w_br (λh1=>w_br (λh4=> ?_) (λ_=> ?_)) (λ_=> ?_)
 . have h1: ¬size=1:=by simpa using h1
   have h4: ¬size=4:=by simpa using h4
   omega
 all_goals
   refine w_cn e0 (w_br (λhb=>w_lv λx hx=>l x hx ?_) (λhb=> ?_))
   . rw[t]at hb;exact eq_of_beq hb
   . rw[t]at hb
     exact(decide_eq_false (λh=>by rw[h.1]at hb;cases hb)).symm
theorem Z2{a:Int}(ha:U a){size:Int}(hs:size=1\/size=4):Qgc m a size=Q2f m a size:=by
 rw[Qji h ha hs]
 have hq:=Z0c h
 have h2:=h.p2
 have a0:=ha.1
 have a1:=ha.2
 have e:IntKind.wrap IntKind.u32 size=size:=by rcases hs with rfl|rfl<;>decide
 have e0:decide (IntKind.wrap IntKind.u32 size≠0)=true:=by rcases hs with rfl|rfl<;>decide
 have t:Int.tmod a (IntKind.wrap IntKind.u32 size)=a%size:=by rw[e,Int.tmod_eq_emod_of_nonneg a0]
 have l: ∀x,x=Q0q m->a%size=0->decide (IntKind.wrap IntKind.u64 (IntKind.wrap IntKind.u64 a+IntKind.wrap IntKind.u64 size)<=IntKind.wrap IntKind.u64 (IntKind.wrap IntKind.u64 x*128))=decide (a%size=0/\a<128*P):=λx hx hz=>by
   rw[hx,hq]
   simp only[IntKind.wrap_u64]
   refine decide_eq_decide.2 ⟨λh=>⟨hz,?_⟩,λh=> ?_⟩<;>rcases hs with rfl|rfl<;>omega
 refine Tree.post (Q30 m a size) (W:=λb=>b=decide (a%size=0/\a<128*P)) ?_
 unfold Q30
 refine w_br (λh1=>w_br (λh4=> ?_) (λ_=> ?_)) (λ_=> ?_)
 . have h1: ¬size=1:=by simpa using h1
   have h4: ¬size=4:=by simpa using h4
   omega
 all_goals
   refine w_cn e0 (w_br (λhb=> ?_) (λhb=>w_lv λx hx=>l x hx ?_))
   . rw[t]at hb
     exact(decide_eq_false (λh=>by rw[h.1]at hb;cases hb)).symm
   . rw[t]at hb;simpa using hb
end
theorem fldj(w:Int):Q2t w 0 8=iand .u32 (ishr .u32 w 0) 255/\Q2t w 8 8=iand .u32 (ishr .u32 w 8) 255/\Q2t w 16 8=iand .u32 (ishr .u32 w 16) 255/\Q2t w 24 8=iand .u32 (ishr .u32 w 24) 255:=
 ⟨by kernel_rfl,by kernel_rfl,by kernel_rfl,by kernel_rfl⟩
theorem setj(w v:Int):Q7k w 0 8 v=putW w v 0/\Q7k w 8 8 v=putW w v 8/\Q7k w 16 8 v=putW w v 16/\Q7k w 24 8 v=putW w v 24:=
 ⟨by kernel_rfl,by kernel_rfl,by kernel_rfl,by kernel_rfl⟩
theorem qh{a:Int}(ha:U a):IntKind.wrap .i64 (IntKind.wrap .i64 (Int.tmod a 4)*8)=8*(a%4)/\IntKind.wrap .u32 (8*Int.tmod a 4)=8*(a%4):=by
 obtain⟨a0,a1⟩:=ha
 rw[Int.tmod_eq_emod_of_nonneg a0]
 exact⟨by rw[IntKind.wrap_i64,IntKind.wrap_i64];omega,by rw[IntKind.wrap_u32];omega⟩
section
variable {P:Nat} {m:List Int} (h:Q0y P m)
include h
theorem Qng{a:Int}(ha:U a){size:Int}(hs:size=1\/size=4):Q4f m a size=Q23 m a size:=by
 have e:=Z2 h ha hs
 obtain⟨s1,s2⟩:=qh ha
 have f:Q2t (m.getD (Int.toNat (IntKind.wrap .u32 (Int.tdiv a 4))) 0) (8*(a%4)) 8=iand .u32 (ishr .u32 (m.getD (Int.toNat (IntKind.wrap .u32 (Int.tdiv a 4))) 0) (8*(a%4))) 255:=by
   obtain⟨f0,f1,f2,f3⟩:=fldj (m.getD (Int.toNat (IntKind.wrap .u32 (Int.tdiv a 4))) 0)
   have:a%4=0\/a%4=1\/a%4=2\/a%4=3:=by omega
   rcases this with h|h|h|h<;>rw[h]
   . exact f0
   . exact f1
   . exact f2
   . exact f3
 simp only[Q4f,Q6c,Q23,Q6l,Tree.m,letv,e,s1,s2,f]
omit h in
theorem Z9v(a:Int)(size:Int):(Q23 m a size).2=Q2f m a size:=by
 simp only[Q23,Q6l,Tree.m,letv]
 cases Q2f m a size
 . rfl
 . cases size==1<;>rfl
theorem Z59{a:Int}(ha:U a){size:Int}(hs:size=1\/size=4)(v:Int):Q8n m a size v=bif Q2f m a size then(Qag m a size v,true) else(m,false):=by
 have hcl:Q03 m=m:=rfl
 have e:=Z2 h ha hs
 obtain⟨s1,s2⟩:=qh ha
 have f: ∀w,Q7k w (8*(a%4)) 8 v=ior .u32 (Qg7 .u32 w (ishl .u32 255 (8*(a%4)))) (ishl .u32 (iand .u32 v 255) (8*(a%4))):=λw=>by
   obtain⟨f0,f1,f2,f3⟩:=setj w v
   have:a%4=0\/a%4=1\/a%4=2\/a%4=3:=by omega
   rcases this with h|h|h|h<;>rw[h]
   . exact f0
   . exact f1
   . exact f2
   . exact f3
 simp only[Q8n,Q4t,Qag,Qe5,Tree.m,letv,hcl,e,s1,s2,f]
 rcases hs with rfl|rfl<;>cases Q2f m a _<;>rfl
end
section
variable {P:Nat} {m:List Int} (h:Q0y P m)
include h
theorem xh{root va:Int}(hr:U root)(hv:U va){access:Int}(ha:access=1\/access=2\/access=3):Qic m root va access=Q6a m root va access:=by
 have hp:=Qeg h
 have h2:=h.p2
 have hlen:=h.len
 obtain⟨r1,r2⟩:=hr
 obtain⟨v1,v2⟩:=hv
 have hpg: ∀{f:Int},U f->Qa7 m f=decide (f<P):=λhf=>zR h hf
 have eP:IntKind.wrap .u32 (P:Int)=P:=by rw[IntKind.wrap_u32];omega
 have kn:Qgp access=true:=by rcases ha with rfl|rfl|rfl<;>rfl
 have ca:Qjb access=(Q39 access,true):=by rcases ha with rfl|rfl|rfl<;>rfl
 simp only[Qic,Q6,Q6a,Q9f,Tree.m,letv,hp,eP,kn,ca,hpg ⟨r1,r2⟩]
 by_cases c1:va>=4096
 . rw[decide_eq_true c1];rfl
 by_cases c2:root<P
 . have eE:IntKind.wrap IntKind.u32 (IntKind.wrap IntKind.u32 (root*128)+IntKind.wrap IntKind.u32 (4*IntKind.wrap IntKind.u32 (Int.tdiv va 128)))=root*128+4*(va/128):=by
     rw[Int.tdiv_eq_ediv_of_nonneg v1,IntKind.wrap_u32,IntKind.wrap_u32,IntKind.wrap_u32,IntKind.wrap_u32];omega
   have hE:U (root*128+4*(va/128)):=⟨by omega,by omega⟩
   have wi:Q2f m (root*128+4*(va/128)) 4=true:=by
     rw[Qji h hE (.inr rfl)];exact decide_eq_true ⟨by omega,by omega⟩
   rw[decide_eq_false c1,decide_eq_true c2,decide_eq_false (show¬root>=P by omega),eE,Qng h hE (.inr rfl),Z9v,wi]
   have ld:(Q23 m (root*128+4*(va/128)) 4).1=m.getD (Int.toNat (IntKind.wrap .u32 (Int.tdiv (root*128+4*(va/128)) 4))) 0:=by
     simp only[Q23,Q6l,Tree.m,letv,wi];rfl
   rw[ld]
   generalize m.getD (Int.toNat (IntKind.wrap .u32 (Int.tdiv (root*128+4*(va/128)) 4))) 0=w
   have fo:Qeo w=iand .u32 (ishr .u32 w 8) 255:=(fld w).2.2.2.2
   rw[fo,hpg (Zfc _ _)]
   have hge:decide (iand .u32 (ishr .u32 w 8) 255>=(P:Int))=!decide (iand .u32 (ishr .u32 w 8) 255<(P:Int)):=by
     by_cases hq:iand .u32 (ishr .u32 w 8) 255<(P:Int)
     . rw[decide_eq_true hq,decide_eq_false (by omega)];rfl
     . rw[decide_eq_false hq,decide_eq_true (by omega)];rfl
   rw[hge]
   generalize decide (iand .u32 (ishr .u32 w 8) 255<(P:Int))=d
   rcases ha with rfl|rfl|rfl
   . show _=(bif iand .u32 w 1==0 then _ else bif iand .u32 w 4==0 then _ else bif !d then _ else _)
     have:Qaz w 1=(bif iand .u32 w 1==0 then false else !(iand .u32 w 4==0)):=rfl
     rw[this]
     cases iand .u32 w 1==0<;>cases iand .u32 w 4==0<;>cases d<;>rfl
   . show _=(bif iand .u32 w 1==0 then _ else bif !d then _ else _)
     have:Qaz w 2=(bif iand .u32 w 1==0 then false else true):=rfl
     rw[this]
     cases iand .u32 w 1==0<;>cases d<;>rfl
   . show _=(bif iand .u32 w 1==0 then _ else bif iand .u32 w 2==0 then _ else bif !d then _ else _)
     have:Qaz w 3=(bif iand .u32 w 1==0 then false else !(iand .u32 w 2==0)):=rfl
     rw[this]
     cases iand .u32 w 1==0<;>cases iand .u32 w 2==0<;>cases d<;>rfl
 . rw[decide_eq_false c1,decide_eq_false c2,decide_eq_true (show root>=P by omega)];rfl
theorem Zm5{a:Int}(ha:U a)(access:Int):Qc4 m a access=Qme m a access:=by
 have hcl:Q03 m=m:=rfl
 have hl:=h.len
 have a0:=ha.1
 simp only[Qc4,Q4z,Qme,Qe9,Tree.m,letv,Qng h ha (.inr rfl),Z9v,Z59 h ha (.inr rfl),hcl]
 cases hw:Q2f m a 4
 . rfl
 . rw[Qji h ha (.inr rfl)]at hw
   have hw:=of_decide_eq_true hw
   have wi:Q2f m a 4=true:=by rw[Qji h ha (.inr rfl)];exact decide_eq_true hw
   have ld:(Q23 m a 4).1=m.getD (Int.toNat (IntKind.wrap .u32 (Int.tdiv a 4))) 0:=by
     simp only[Q23,Q6l,Tree.m,letv,wi];rfl
   have pu: ∀v,Qag m a 4 v=m.set (Int.toNat (IntKind.wrap .u32 (Int.tdiv a 4))) v:=λv=>rfl
   rw[ld,pu,pu]
   have hi:Int.toNat (IntKind.wrap .u32 (Int.tdiv a 4))<m.length:=by
     rw[Int.tdiv_eq_ediv_of_nonneg a0,IntKind.wrap_u32];omega
   generalize Int.toNat (IntKind.wrap .u32 (Int.tdiv a 4))=i at*
   rw[Qs1 hi,List.set_set]
   rfl
end
theorem Qmw{c:Q02}(h0:0<=c.B4.a0)(h:c.B4.a0<=31)(k b:Int):Q47 c k b=Q2m c k b:=by
 have e:=eq_of_beq (Qsz (λs=>Qg7 .u32 (ior .u32 (Q8l (Q8l s 1 8) 2 16) 1) 2==ior .u32 (Qg7 .u32 (ior .u32 (ior .u32 (Qg7 .u32 s 24) (IntKind.wrap .u32 (8*Qbd (iand .u32 s 1 !=0)))) (IntKind.wrap .u32 (16*Qbd (iand .u32 s 2 !=0)))) 2) 1) 32 (by kernel_rfl) h0 (by omega))
 simp only[Q47,Qjx,Q2m,Qhk,Tree.m,letv,e]
theorem Zfm{c:Q02}(h0:0<=c.B4.a0)(h:c.B4.a0<=31):Qdx c=Qhu c:=by
 have e:=eq_of_beq (Qsz (λs=>Q8l (Q8l s 8 1) 16 2==ior .u32 (ior .u32 (Qg7 .u32 s 3) (IntKind.wrap .u32 (1*Qbd (iand .u32 s 8 !=0)))) (IntKind.wrap .u32 (2*Qbd (iand .u32 s 16 !=0)))) 32 (by kernel_rfl) h0 (by omega))
 simp only[Qdx,Qf2,Qhu,Qd8,Tree.m,letv,e]
theorem Zl3{c:Q02}(h0:0<=c.B4.a0)(h:c.B4.a0<=31):Qnw c=(!Qc3 c&&(iand .u32 c.B4.a0 4 !=0)):=
 eq_of_beq (Qsz (λs=>(iand .u32 s 5==4)==(!(iand .u32 s 1 !=0)&&(iand .u32 s 4 !=0))) 32 (by kernel_rfl) h0 (by omega))
theorem Qyd(c:Q02){r:Int}(hr:0<=r/\r<16)(v:Int):Qao c r v=Q1q c r v:=by
 simp only[Qao,Q8r,Q1q,Qdp,Tree.m]
 by_cases h:r=0
 . subst h;rfl
 . rw[decide_eq_true (show r>0 by omega),decide_eq_true hr.2,show(r !=0)=true by simpa using h];rfl
theorem yH{a b:Int}(ha:U a)(hb:U b):Qbj a b=Qby a b:=by
  obtain⟨a0,a1⟩:=ha
  obtain⟨b0,b1⟩:=hb
  have i: ∀x,IntKind.wrap .i64 (IntKind.wrap .i32 x)=IntKind.wrap .i32 x:=λx=>by rw[IntKind.wrap_i64,IntKind.wrap_i32];omega
  have r32: ∀x,-2147483648<=IntKind.wrap .i32 x/\IntKind.wrap .i32 x<2147483648:=λx=>by rw[IntKind.wrap_i32];omega
  have q32: ∀x y:Int,-2147483648<=x/\x<2147483648-> -2147483648<=Int.tdiv x y/\Int.tdiv x y<=2147483648:=λx y hx=>by
    have h1:(Int.tdiv x y).natAbs<=x.natAbs:=by rw[Int.natAbs_tdiv];exact Nat.div_le_self _ _
    omega
  simp only[Qbj,Q62,Qby,Q9r,Tree.m,i]
  cases hb:b==0
  . have w: ∀z,IntKind.wrap .u32 (IntKind.wrap .i32 z)=IntKind.wrap .u32 z:=λz=>by rw[IntKind.wrap_i32,IntKind.wrap_u32,IntKind.wrap_u32];omega
    have w2:IntKind.wrap .i64 (Int.tdiv (IntKind.wrap .i32 a) (IntKind.wrap .i32 b))=Int.tdiv (IntKind.wrap .i32 a) (IntKind.wrap .i32 b):=by
      have:=q32 _ (IntKind.wrap .i32 b) (r32 a)
      rw[IntKind.wrap_i64];omega
    rw[w,w2]
    cases h1:a==2147483648
    . rfl
    . cases h2:b==4294967295
      . rfl
      . have h1:=eq_of_beq h1
        have h2:=eq_of_beq h2
        subst h1;subst h2
        rfl
  . rfl
theorem vH{op a b:Int}(h0:1<=op)(h1:op<=23)(ha:U a)(hb:U b):Q3y op a b=Qci op a b:=by
 have sub:IntKind.wrap .u32 (a+IntKind.wrap .u32 (0-b))=IntKind.wrap .u32 (a-b):=by
   rw[IntKind.wrap_u32,IntKind.wrap_u32,IntKind.wrap_u32];omega
 have hop:op=1\/op=2\/op=3\/op=4\/op=5\/op=6\/op=7\/op=8\/op=9\/op=10\/op=11\/op=12\/op=13\/op=14\/op=15\/op=16\/op=17\/op=18\/op=19\/op=20\/op=21\/op=22\/op=23:=by omega
 have d:=yH ha hb
 rcases hop with rfl|rfl|rfl|rfl|rfl|rfl|rfl|rfl|rfl|rfl|rfl|rfl|rfl|rfl|rfl|rfl|rfl|rfl|rfl|rfl|rfl|rfl|rfl
 . rfl
 . show(IntKind.wrap .u32 (a+IntKind.wrap .u32 (0-b)),true)=(IntKind.wrap .u32 (a-b),true)
   rw[sub]
 . rfl
 . rfl
 . rfl
 . rfl
 . rfl
 . rfl
 . rfl
 . show((Qbj a b).1,true)=((Qby a b).1,true)
   rw[d]
 . show((Qbj a b).2,true)=((Qby a b).2,true)
   rw[d]
 all_goals rfl
theorem Qnd{P:Nat}{m:List Int}(h:Q0y P m){c:Q02}(hc:Q2i c)(hst:c.B4.a0<=31){va:Int}(hv:U va){size:Int}(hs:size=1\/size=4){access:Int}(ha:access=1\/access=2\/access=3):Q1y c m va size access=((Q14 c m va size access).1,(Q14 c m va size access).2.2,(Q14 c m va size access).2.1):=by
 have hcl:Q03 m=m:=rfl
 have kn:Qgp access=true:=by rcases ha with rfl|rfl|rfl<;>rfl
 have ca:Qqt access=(Q39 access,true):=by rcases ha with rfl|rfl|rfl<;>rfl
 have pg:=Zl3 hc.a0.1 hst
 have wk:=xh h hc.a6 hv ha
 have tc:Qc4 m (Q6a m c.B4.a6 va access).F1 access=Qme m (Q6a m c.B4.a6 va access).F1 access:=Zm5 h (Tree.pp (zZ h hc.a6 hv access)).2.2.1 access
 have sz:(bif size !=1 then bif size !=4 then false else true else true)=true:=by rcases hs with rfl|rfl<;>rfl
 simp only[Q1y,Q67,Q14,Q8x,Tree.m,letv,hcl,kn,ca,pg,wk,tc,Qng h hv hs,Z9v]
 rcases hs with rfl|rfl<;>
 . show(bif _ then _ else _)=_
   cases Int.tmod va _ !=0<;>cases Qc3 c<;>cases iand .u32 c.B4.a0 4 !=0<;>cases(Q6a m c.B4.a6 va access).E0 !=0<;>cases Q2f m va _<;>rfl
theorem Z1z{α:Type}{Q:α->Prop}{c:Bool}{x y:α}(hx:Q x)(hy:Q y):Q (cond c x y):=by cases c<;>assumption
theorem zai(m:List Int)(root:Int){va:Int}(hv:U va)(access:Int):(Q6a m root va access).E0=0->(Q6a m root va access).Addr%4=va%4:=by
 have hc:Q39 access≠0:=by
   simp only[Q39,Q8a,Tree.m]
   cases access==1<;>cases access==3<;>simp
 have q :(λt:Q15=>t.E0=0->t.Addr%4=va%4) (Q6a m root va access):=by
   simp only[Q6a,Q9f,Tree.m,letv]
   repeat'(first
     |exact λe=>absurd e hc
     | (intro _
        show IntKind.wrap .u32 (IntKind.wrap .u32 (_*128)+Int.tmod va 128)%4=va%4
        rw[Int.tmod_eq_emod_of_nonneg hv.1,IntKind.wrap_u32,IntKind.wrap_u32];omega)
     |refine Z1z (Q:=λt:Q15=>t.E0=0->t.Addr%4=va%4) ?_ ?_)
 exact q
theorem qI{c:Q02}{m:List Int}{va:Int}(hv:U va){size:Int}(hs:size=1\/size=4){access:Int}(ha:access=1\/access=2\/access=3):(Q14 c m va size access).2.1=0->(Q14 c m va size access).1%size=0:=by
  have kn:Qgp access=true:=by rcases ha with rfl|rfl|rfl<;>rfl
  have hc:Q39 access≠0:=by
    simp only[Q39,Q8a,Tree.m]
    cases access==1<;>cases access==3<;>simp
  rcases hs with rfl|rfl
  . intro _;omega
  simp only[Q14,Q8x,Tree.m,letv,kn]
  show(bif Int.tmod va 4 !=0 then((0:Int),(3:Int),m) else _).2.1=0->(bif Int.tmod va 4 !=0 then((0:Int),(3:Int),m) else _).1%4=0
  rw[Int.tmod_eq_emod_of_nonneg hv.1]
  cases hz:va%4 !=0
  . have hz:va%4=0:=by simpa using hz
    have w:=zai m c.B4.a6 hv access
    cases hp:Qnw c
    . cases hw:Q2f m va 4
      . exact λe=>absurd e hc
      . exact λ_=>hz
    . cases hq:(Q6a m c.B4.a6 va access).E0 !=0
      . have hq:(Q6a m c.B4.a6 va access).E0=0:=by simpa using hq
        exact λ_=>(w hq).trans hz
      . have hq: ¬(Q6a m c.B4.a6 va access).E0=0:=by simpa using hq
        exact λe=>absurd e hq
  . intro e;cases e
def eff0:Q1:={B7:=0,C9:=0,D8:=0,Value:=0}
def Q58(c:Q02)(m:List Int)(i:Q0i):Q02×List Int×Q1:=
 bif i.Op==32 then((Q6e c m i).1,(Q6e c m i).2,eff0) else bif i.Op==33 then((Q6e c m i).1,(Q6e c m i).2,eff0) else bif i.Op==34 then((Q6e c m i).1,(Q6e c m i).2,eff0)
 else bif i.Op==35 then((Q7y c m i).1,(Q7y c m i).2,eff0) else bif i.Op==36 then((Q7y c m i).1,(Q7y c m i).2,eff0) else((Qlk c i).1,m,(Qlk c i).2)
def regX(c:Q02)(r:Int):Int:=List.getD (A16.l c.X) r.toNat 0
def Qjy(c:Q02)(m:List Int)(i:Q0i):Q02×Q1×List Int:=
 bif decide (i.Op>=56) then((Ql4 c i).1,(Ql4 c i).2,m) else bif decide (i.Op>=40) then(Qzv c i,eff0,m) else bif decide (i.Op>=32) then((Q4n c m i).1,eff0,(Q4n c m i).2)
 else bif i.Op==24 then({X:=(Q1q c i.A (ishl .u32 (IntKind.wrap .u32 i.Imm) 16)).X,Pc:=IntKind.wrap .u32 ((Q1q c i.A (ishl .u32 (IntKind.wrap .u32 i.Imm) 16)).Pc+4),B4:=(Q1q c i.A (ishl .u32 (IntKind.wrap .u32 i.Imm) 16)).B4},eff0,m)
 else bif decide (i.Op<=13) then
   ({X:=(Q1q c i.A (Qci i.Op (regX c i.B) (regX c i.C)).1).X,Pc:=IntKind.wrap .u32 ((Q1q c i.A (Qci i.Op (regX c i.B) (regX c i.C)).1).Pc+4),B4:=(Q1q c i.A (Qci i.Op (regX c i.B) (regX c i.C)).1).B4},eff0,m)
 else({X:=(Q1q c i.A (Qci i.Op (regX c i.B) (IntKind.wrap .u32 i.Imm)).1).X,Pc:=IntKind.wrap .u32 ((Q1q c i.A (Qci i.Op (regX c i.B) (IntKind.wrap .u32 i.Imm)).1).Pc+4),B4:=(Q1q c i.A (Qci i.Op (regX c i.B) (IntKind.wrap .u32 i.Imm)).1).B4},eff0,m)
def isOp(op:Int):Prop:=op=1\/op=2\/op=3\/op=4\/op=5\/op=6\/op=7\/op=8\/op=9\/op=10\/op=11\/op=12\/op=13\/op=16\/op=17\/op=18\/op=19\/op=20\/op=21\/op=22\/op=23\/op=24\/op=32\/op=33\/op=34\/op=35\/op=36\/op=40\/op=41\/op=42\/op=43\/op=44\/op=45\/op=48\/op=49\/op=56\/op=57\/op=58\/op=59\/op=60\/op=61\/op=62\/op=63\/op=64
theorem zW(c:Q02)(r v:Int):(Q1q c r v).Pc=c.Pc/\(Q1q c r v).B4=c.B4:=by
 simp only[Q1q,Qdp,Tree.m]
 cases decide (r>0)
 . exact⟨rfl,rfl⟩
 . cases decide (r<16)<;>exact⟨rfl,rfl⟩
def adv(c:Q02):Q02:={X:=c.X,Pc:=IntKind.wrap .u32 (c.Pc+4),B4:=c.B4}
def va(c:Q02)(B Imm:Int):Int:=IntKind.wrap .u32 (List.getD (A16.l c.X) B.toNat 0+IntKind.wrap .u32 Imm)
def ldP(c:Q02)(A v size:Int)(f:Int->Int)(y:Int×List Int×Int):Q02×List Int:=bif y.2.2 !=0 then(Q47 c y.2.2 v,y.2.1) else(adv (Qao c A (f (Q4f y.2.1 y.1 size).1)),y.2.1)
def ldR(c:Q02)(A v size:Int)(f:Int->Int)(x:Int×Int×List Int):Q02×List Int:=bif x.2.1 !=0 then(Q2m c x.2.1 v,x.2.2) else(adv (Q1q c A (f (Q23 x.2.2 x.1 size).1)),x.2.2)
def stP(c:Q02)(A v size:Int)(y:Int×List Int×Int):Q02×List Int:=bif y.2.2 !=0 then(Q47 c y.2.2 v,y.2.1) else(adv c,(Q8n y.2.1 y.1 size (List.getD (A16.l c.X) A.toNat 0)).1)
def stR(c:Q02)(A v size:Int)(x:Int×Int×List Int):Q02×List Int:=bif x.2.1 !=0 then(Q2m c x.2.1 v,x.2.2) else(adv c,Qag x.2.2 x.1 size (List.getD (A16.l c.X) A.toNat 0))
theorem ld_eq(c:Q02)(m:List Int)(A B C Imm:Int):
   (Q6e c m ⟨32,A,B,C,Imm⟩=ldP c A (va c B Imm) 4 (λv=>v) (Q1y c m (va c B Imm) 4 2)/\Q4n c m ⟨32,A,B,C,Imm⟩=ldR c A (va c B Imm) 4 (λv=>v) (Q14 c m (va c B Imm) 4 2))/\
   (Q6e c m ⟨33,A,B,C,Imm⟩=ldP c A (va c B Imm) 1 (λv=>Q25 v 8) (Q1y c m (va c B Imm) 1 2)/\Q4n c m ⟨33,A,B,C,Imm⟩=ldR c A (va c B Imm) 1 (λv=>Q36 v 8) (Q14 c m (va c B Imm) 1 2))/\
   (Q6e c m ⟨34,A,B,C,Imm⟩=ldP c A (va c B Imm) 1 (λv=>v) (Q1y c m (va c B Imm) 1 2)/\Q4n c m ⟨34,A,B,C,Imm⟩=ldR c A (va c B Imm) 1 (λv=>v) (Q14 c m (va c B Imm) 1 2))/\
   (Q7y c m ⟨35,A,B,C,Imm⟩=stP c A (va c B Imm) 4 (Q1y c m (va c B Imm) 4 3)/\Q4n c m ⟨35,A,B,C,Imm⟩=stR c A (va c B Imm) 4 (Q14 c m (va c B Imm) 4 3))/\
   (Q7y c m ⟨36,A,B,C,Imm⟩=stP c A (va c B Imm) 1 (Q1y c m (va c B Imm) 1 3)/\Q4n c m ⟨36,A,B,C,Imm⟩=stR c A (va c B Imm) 1 (Q14 c m (va c B Imm) 1 3)):=
 ⟨⟨by kernel_rfl,by kernel_rfl⟩,⟨by kernel_rfl,by kernel_rfl⟩,⟨by kernel_rfl,by kernel_rfl⟩,⟨by kernel_rfl,by kernel_rfl⟩,⟨by kernel_rfl,by kernel_rfl⟩⟩
theorem xai{P:Nat}{m:List Int}(h:Q0y P m)(a:Int):Q25 (Q23 m a 1).1 8=Q36 (Q23 m a 1).1 8:=by
 have: ∀x:Int×Bool,(∃w,U w/\x=(iand .u32 w 255,true))\/x=(0,false)->Q25 x.1 8=Q36 x.1 8:=λx hx=>by
   rcases hx with⟨w,hw,rfl⟩|rfl
   . have e:=m255 hw
     exact sx8 (by show 0<=iand .u32 w 255;omega) (by show iand .u32 w 255<256;omega)
   . rfl
 refine this _ ?_
 simp only[Q23,Q6l,Tree.m,letv]
 cases Q2f m a 1
 . exact .inr rfl
 . exact .inl ⟨_,Qtl (Qjp h.u _) _,rfl⟩
section
variable {P:Nat} {m:List Int} (h:Q0y P m) {c:Q02} (hc:Q2i c) (hst:c.B4.a0<=31)
include h hc hst
omit hst in
theorem Zh3{v:Int}(hv:U v){size:Int}(hs:size=1\/size=4)(access:Int):Q0y P (Q14 c m v size access).2.2/\U (Q14 c m v size access).1/\((Q14 c m v size access).2.1=0->(Q14 c m v size access).1<128*P):=(Tree.pp (Z7b h hc hv hs access)).2
theorem Zg5{A v:Int}(hA:0<=A/\A<16)(hv:U v){size:Int}(hs:size=1\/size=4){f g:Int->Int}(hf: ∀{m':List Int},Q0y P m'-> ∀a,f (Q23 m' a size).1=g (Q23 m' a size).1):ldP c A v size f (Q1y c m v size 2)=ldR c A v size g (Q14 c m v size 2):=by
 rw[Qnd h hc hst hv hs (.inr (.inl rfl))]
 obtain⟨k,u,_⟩:=Zh3 h hc hv hs 2
 generalize Q14 c m v size 2=x at*
 simp only[ldP,ldR,Qng k u hs,Qmw hc.a0.1 hst,Qyd c hA,hf k]
theorem zh{A v:Int}(hv:U v){size:Int}(hs:size=1\/size=4):stP c A v size (Q1y c m v size 3)=stR c A v size (Q14 c m v size 3):=by
 rw[Qnd h hc hst hv hs (.inr (.inr rfl))]
 obtain⟨k,u,b⟩:=Zh3 h hc hv hs 3
 have al:=qI (c:=c) (m:=m) hv hs (access:=3) (.inr (.inr rfl))
 generalize Q14 c m v size 3=x at*
 simp only[stP,stR,Z59 k u hs,Qmw hc.a0.1 hst,Qji k u hs]
 cases hq:x.2.1 !=0
 . have hq:x.2.1=0:=by simpa using hq
   rw[decide_eq_true ⟨al hq,b hq⟩];rfl
 . rfl
end
theorem xI(c:Q02)(k v:Int):(Qgk c k v).Pc=c.Pc:=by
 simp only[Qgk,Qc8,Tree.m]
 repeat'(first|rfl|refine Z1z (Q:=λx:Q02=>x.Pc=c.Pc) ?_ ?_)
def setP(c:Q02)(A v p:Int):Q02:={X:=(Qao c A v).X,Pc:=p,B4:=(Qao c A v).B4}
def setR(c:Q02)(A v p:Int):Q02:={X:=(Q1q c A v).X,Pc:=p,B4:=(Q1q c A v).B4}
def nxt(c:Q02):Int:=IntKind.wrap .u32 (c.Pc+4)
theorem Zei(c:Q02){A:Int}(hA:0<=A/\A<16)(v p:Int):setP c A v p=setR c A v p:=by
 unfold setP setR;rw[Qyd c hA]
theorem Zfj(c:Q02)(A v:Int):adv (Q1q c A v)=setR c A v (nxt c):=by
 unfold adv setR nxt;rw[(zW c A v).1]
theorem brc(t:Bool)(x y:Q02)(m:List Int):((bif t then(x,eff0) else(y,eff0)).1,m,(bif t then(x,eff0) else(y,eff0)).2)=((bif t then x else y),m,eff0):=by cases t<;>rfl
def isOpB(op:Int):Bool:=decide (op=1)||decide (op=2)||decide (op=3)||decide (op=4)||decide (op=5)||decide (op=6)||decide (op=7)||decide (op=8)||decide (op=9)||decide (op=10)||decide (op=11)||decide (op=12)||decide (op=13)||decide (op=16)||decide (op=17)||decide (op=18)||decide (op=19)||decide (op=20)||decide (op=21)||decide (op=22)||decide (op=23)||decide (op=24)||decide (op=32)||decide (op=33)||decide (op=34)||decide (op=35)||decide (op=36)||decide (op=40)||decide (op=41)||decide (op=42)||decide (op=43)||decide (op=44)||decide (op=45)||decide (op=48)||decide (op=49)||decide (op=56)||decide (op=57)||decide (op=58)||decide (op=59)||decide (op=60)||decide (op=61)||decide (op=62)||decide (op=63)||decide (op=64)
section
variable {P:Nat} {m:List Int} (h:Q0y P m) {c:Q02} (hc:Q2i c) (hst:c.B4.a0<=31) {A B C Imm:Int} (hA:0<=A/\A<16)
include h hc hst hA
theorem yh{op:Int}(hop:isOp op):Q58 c m ⟨op,A,B,C,Imm⟩=((Qjy c m ⟨op,A,B,C,Imm⟩).1,(Qjy c m ⟨op,A,B,C,Imm⟩).2.2,(Qjy c m ⟨op,A,B,C,Imm⟩).2.1):=by
 have alu: ∀{k y:Int},1<=k->k<=23->U y->((setP c A (Q3y k (regX c B) y).1 (nxt c),m,eff0):Q02×List Int×Q1)=(adv (Q1q c A (Qci k (regX c B) y).1),m,eff0):=λh1 h2 hy=>by
   rw[vH h1 h2 (show U (regX c B) from hc.r _) hy,Zfj,Zei c hA]
 have uC:U (regX c C):=hc.r _
 have uI:U (IntKind.wrap .u32 Imm):=Q0o _
 obtain⟨⟨l1,l2⟩,⟨l3,l4⟩,⟨l5,l6⟩,⟨l7,l8⟩,⟨l9,l10⟩⟩:=ld_eq c m A B C Imm
 have hva:U (va c B Imm):=Q0o _
 rcases hop with rfl|rfl|rfl|rfl|rfl|rfl|rfl|rfl|rfl|rfl|rfl|rfl|rfl|rfl|rfl|rfl|rfl|rfl|rfl|rfl|rfl|rfl|rfl|rfl|rfl|rfl|rfl|rfl|rfl|rfl|rfl|rfl|rfl|rfl|rfl|rfl|rfl|rfl|rfl|rfl|rfl|rfl|rfl|rfl
 . exact(show Q58 c m ⟨1,A,B,C,Imm⟩=(setP c A (Q3y 1 (regX c B) (regX c C)).1 (nxt c),m,eff0) by kernel_rfl).trans ((alu (by decide) (by decide) uC).trans (by kernel_rfl))
 . exact(show Q58 c m ⟨2,A,B,C,Imm⟩=(setP c A (Q3y 2 (regX c B) (regX c C)).1 (nxt c),m,eff0) by kernel_rfl).trans ((alu (by decide) (by decide) uC).trans (by kernel_rfl))
 . exact(show Q58 c m ⟨3,A,B,C,Imm⟩=(setP c A (Q3y 3 (regX c B) (regX c C)).1 (nxt c),m,eff0) by kernel_rfl).trans ((alu (by decide) (by decide) uC).trans (by kernel_rfl))
 . exact(show Q58 c m ⟨4,A,B,C,Imm⟩=(setP c A (Q3y 4 (regX c B) (regX c C)).1 (nxt c),m,eff0) by kernel_rfl).trans ((alu (by decide) (by decide) uC).trans (by kernel_rfl))
 . exact(show Q58 c m ⟨5,A,B,C,Imm⟩=(setP c A (Q3y 5 (regX c B) (regX c C)).1 (nxt c),m,eff0) by kernel_rfl).trans ((alu (by decide) (by decide) uC).trans (by kernel_rfl))
 . exact(show Q58 c m ⟨6,A,B,C,Imm⟩=(setP c A (Q3y 6 (regX c B) (regX c C)).1 (nxt c),m,eff0) by kernel_rfl).trans ((alu (by decide) (by decide) uC).trans (by kernel_rfl))
 . exact(show Q58 c m ⟨7,A,B,C,Imm⟩=(setP c A (Q3y 7 (regX c B) (regX c C)).1 (nxt c),m,eff0) by kernel_rfl).trans ((alu (by decide) (by decide) uC).trans (by kernel_rfl))
 . exact(show Q58 c m ⟨8,A,B,C,Imm⟩=(setP c A (Q3y 8 (regX c B) (regX c C)).1 (nxt c),m,eff0) by kernel_rfl).trans ((alu (by decide) (by decide) uC).trans (by kernel_rfl))
 . exact(show Q58 c m ⟨9,A,B,C,Imm⟩=(setP c A (Q3y 9 (regX c B) (regX c C)).1 (nxt c),m,eff0) by kernel_rfl).trans ((alu (by decide) (by decide) uC).trans (by kernel_rfl))
 . exact(show Q58 c m ⟨10,A,B,C,Imm⟩=(setP c A (Q3y 10 (regX c B) (regX c C)).1 (nxt c),m,eff0) by kernel_rfl).trans ((alu (by decide) (by decide) uC).trans (by kernel_rfl))
 . exact(show Q58 c m ⟨11,A,B,C,Imm⟩=(setP c A (Q3y 11 (regX c B) (regX c C)).1 (nxt c),m,eff0) by kernel_rfl).trans ((alu (by decide) (by decide) uC).trans (by kernel_rfl))
 . exact(show Q58 c m ⟨12,A,B,C,Imm⟩=(setP c A (Q3y 12 (regX c B) (regX c C)).1 (nxt c),m,eff0) by kernel_rfl).trans ((alu (by decide) (by decide) uC).trans (by kernel_rfl))
 . exact(show Q58 c m ⟨13,A,B,C,Imm⟩=(setP c A (Q3y 13 (regX c B) (regX c C)).1 (nxt c),m,eff0) by kernel_rfl).trans ((alu (by decide) (by decide) uC).trans (by kernel_rfl))
 . exact(show Q58 c m ⟨16,A,B,C,Imm⟩=(setP c A (Q3y 16 (regX c B) (IntKind.wrap .u32 Imm)).1 (nxt c),m,eff0) by kernel_rfl).trans ((alu (by decide) (by decide) uI).trans (by kernel_rfl))
 . exact(show Q58 c m ⟨17,A,B,C,Imm⟩=(setP c A (Q3y 17 (regX c B) (IntKind.wrap .u32 Imm)).1 (nxt c),m,eff0) by kernel_rfl).trans ((alu (by decide) (by decide) uI).trans (by kernel_rfl))
 . exact(show Q58 c m ⟨18,A,B,C,Imm⟩=(setP c A (Q3y 18 (regX c B) (IntKind.wrap .u32 Imm)).1 (nxt c),m,eff0) by kernel_rfl).trans ((alu (by decide) (by decide) uI).trans (by kernel_rfl))
 . exact(show Q58 c m ⟨19,A,B,C,Imm⟩=(setP c A (Q3y 19 (regX c B) (IntKind.wrap .u32 Imm)).1 (nxt c),m,eff0) by kernel_rfl).trans ((alu (by decide) (by decide) uI).trans (by kernel_rfl))
 . exact(show Q58 c m ⟨20,A,B,C,Imm⟩=(setP c A (Q3y 20 (regX c B) (IntKind.wrap .u32 Imm)).1 (nxt c),m,eff0) by kernel_rfl).trans ((alu (by decide) (by decide) uI).trans (by kernel_rfl))
 . exact(show Q58 c m ⟨21,A,B,C,Imm⟩=(setP c A (Q3y 21 (regX c B) (IntKind.wrap .u32 Imm)).1 (nxt c),m,eff0) by kernel_rfl).trans ((alu (by decide) (by decide) uI).trans (by kernel_rfl))
 . exact(show Q58 c m ⟨22,A,B,C,Imm⟩=(setP c A (Q3y 22 (regX c B) (IntKind.wrap .u32 Imm)).1 (nxt c),m,eff0) by kernel_rfl).trans ((alu (by decide) (by decide) uI).trans (by kernel_rfl))
 . exact(show Q58 c m ⟨23,A,B,C,Imm⟩=(setP c A (Q3y 23 (regX c B) (IntKind.wrap .u32 Imm)).1 (nxt c),m,eff0) by kernel_rfl).trans ((alu (by decide) (by decide) uI).trans (by kernel_rfl))
 . refine(show Q58 c m ⟨24,A,B,C,Imm⟩=(setP c A (ishl .u32 (IntKind.wrap .u32 Imm) 16) (nxt c),m,eff0) by kernel_rfl).trans ?_
   rw[Zei c hA,<-Zfj];kernel_rfl
 . have e:=Zg5 h hc hst hA hva (.inr rfl) (f:=λv=>v) (g:=λv=>v) (λ_ _=>rfl)
   rw[<-l1,<-l2]at e
   refine(show Q58 c m ⟨32,A,B,C,Imm⟩=((Q6e c m ⟨32,A,B,C,Imm⟩).1,(Q6e c m ⟨32,A,B,C,Imm⟩).2,eff0) by kernel_rfl).trans ?_
   rw[e];kernel_rfl
 . have e:=Zg5 h hc hst hA hva (.inl rfl) (f:=λv=>Q25 v 8) (g:=λv=>Q36 v 8) (λhm a=>xai hm a)
   rw[<-l3,<-l4]at e
   refine(show Q58 c m ⟨33,A,B,C,Imm⟩=((Q6e c m ⟨33,A,B,C,Imm⟩).1,(Q6e c m ⟨33,A,B,C,Imm⟩).2,eff0) by kernel_rfl).trans ?_
   rw[e];kernel_rfl
 . have e:=Zg5 h hc hst hA hva (.inl rfl) (f:=λv=>v) (g:=λv=>v) (λ_ _=>rfl)
   rw[<-l5,<-l6]at e
   refine(show Q58 c m ⟨34,A,B,C,Imm⟩=((Q6e c m ⟨34,A,B,C,Imm⟩).1,(Q6e c m ⟨34,A,B,C,Imm⟩).2,eff0) by kernel_rfl).trans ?_
   rw[e];kernel_rfl
 . have e:=zh h hc hst (A:=A) hva (.inr rfl)
   rw[<-l7,<-l8]at e
   refine(show Q58 c m ⟨35,A,B,C,Imm⟩=((Q7y c m ⟨35,A,B,C,Imm⟩).1,(Q7y c m ⟨35,A,B,C,Imm⟩).2,eff0) by kernel_rfl).trans ?_
   rw[e];kernel_rfl
 . have e:=zh h hc hst (A:=A) hva (.inl rfl)
   rw[<-l9,<-l10]at e
   refine(show Q58 c m ⟨36,A,B,C,Imm⟩=((Q7y c m ⟨36,A,B,C,Imm⟩).1,(Q7y c m ⟨36,A,B,C,Imm⟩).2,eff0) by kernel_rfl).trans ?_
   rw[e];kernel_rfl
 . exact(show Q58 c m ⟨40,A,B,C,Imm⟩=((bif(Q21 40 (regX c A) (regX c B)) then((⟨c.X,IntKind.wrap .u32 (c.Pc+IntKind.wrap .u32 (4*IntKind.wrap .u32 Imm)),c.B4⟩:Q02),eff0) else(⟨c.X,nxt c,c.B4⟩,eff0)).1,m,(bif(Q21 40 (regX c A) (regX c B)) then((⟨c.X,IntKind.wrap .u32 (c.Pc+IntKind.wrap .u32 (4*IntKind.wrap .u32 Imm)),c.B4⟩:Q02),eff0) else(⟨c.X,nxt c,c.B4⟩,eff0)).2) by kernel_rfl).trans ((brc (Q21 40 (regX c A) (regX c B)) ⟨c.X,IntKind.wrap .u32 (c.Pc+IntKind.wrap .u32 (4*IntKind.wrap .u32 Imm)),c.B4⟩ ⟨c.X,nxt c,c.B4⟩ m).trans (by kernel_rfl))
 . exact(show Q58 c m ⟨41,A,B,C,Imm⟩=((bif(Q21 41 (regX c A) (regX c B)) then((⟨c.X,IntKind.wrap .u32 (c.Pc+IntKind.wrap .u32 (4*IntKind.wrap .u32 Imm)),c.B4⟩:Q02),eff0) else(⟨c.X,nxt c,c.B4⟩,eff0)).1,m,(bif(Q21 41 (regX c A) (regX c B)) then((⟨c.X,IntKind.wrap .u32 (c.Pc+IntKind.wrap .u32 (4*IntKind.wrap .u32 Imm)),c.B4⟩:Q02),eff0) else(⟨c.X,nxt c,c.B4⟩,eff0)).2) by kernel_rfl).trans ((brc (Q21 41 (regX c A) (regX c B)) ⟨c.X,IntKind.wrap .u32 (c.Pc+IntKind.wrap .u32 (4*IntKind.wrap .u32 Imm)),c.B4⟩ ⟨c.X,nxt c,c.B4⟩ m).trans (by kernel_rfl))
 . exact(show Q58 c m ⟨42,A,B,C,Imm⟩=((bif(Q21 42 (regX c A) (regX c B)) then((⟨c.X,IntKind.wrap .u32 (c.Pc+IntKind.wrap .u32 (4*IntKind.wrap .u32 Imm)),c.B4⟩:Q02),eff0) else(⟨c.X,nxt c,c.B4⟩,eff0)).1,m,(bif(Q21 42 (regX c A) (regX c B)) then((⟨c.X,IntKind.wrap .u32 (c.Pc+IntKind.wrap .u32 (4*IntKind.wrap .u32 Imm)),c.B4⟩:Q02),eff0) else(⟨c.X,nxt c,c.B4⟩,eff0)).2) by kernel_rfl).trans ((brc (Q21 42 (regX c A) (regX c B)) ⟨c.X,IntKind.wrap .u32 (c.Pc+IntKind.wrap .u32 (4*IntKind.wrap .u32 Imm)),c.B4⟩ ⟨c.X,nxt c,c.B4⟩ m).trans (by kernel_rfl))
 . exact(show Q58 c m ⟨43,A,B,C,Imm⟩=((bif(Q21 43 (regX c A) (regX c B)) then((⟨c.X,IntKind.wrap .u32 (c.Pc+IntKind.wrap .u32 (4*IntKind.wrap .u32 Imm)),c.B4⟩:Q02),eff0) else(⟨c.X,nxt c,c.B4⟩,eff0)).1,m,(bif(Q21 43 (regX c A) (regX c B)) then((⟨c.X,IntKind.wrap .u32 (c.Pc+IntKind.wrap .u32 (4*IntKind.wrap .u32 Imm)),c.B4⟩:Q02),eff0) else(⟨c.X,nxt c,c.B4⟩,eff0)).2) by kernel_rfl).trans ((brc (Q21 43 (regX c A) (regX c B)) ⟨c.X,IntKind.wrap .u32 (c.Pc+IntKind.wrap .u32 (4*IntKind.wrap .u32 Imm)),c.B4⟩ ⟨c.X,nxt c,c.B4⟩ m).trans (by kernel_rfl))
 . exact(show Q58 c m ⟨44,A,B,C,Imm⟩=((bif(Q21 44 (regX c A) (regX c B)) then((⟨c.X,IntKind.wrap .u32 (c.Pc+IntKind.wrap .u32 (4*IntKind.wrap .u32 Imm)),c.B4⟩:Q02),eff0) else(⟨c.X,nxt c,c.B4⟩,eff0)).1,m,(bif(Q21 44 (regX c A) (regX c B)) then((⟨c.X,IntKind.wrap .u32 (c.Pc+IntKind.wrap .u32 (4*IntKind.wrap .u32 Imm)),c.B4⟩:Q02),eff0) else(⟨c.X,nxt c,c.B4⟩,eff0)).2) by kernel_rfl).trans ((brc (Q21 44 (regX c A) (regX c B)) ⟨c.X,IntKind.wrap .u32 (c.Pc+IntKind.wrap .u32 (4*IntKind.wrap .u32 Imm)),c.B4⟩ ⟨c.X,nxt c,c.B4⟩ m).trans (by kernel_rfl))
 . exact(show Q58 c m ⟨45,A,B,C,Imm⟩=((bif(Q21 45 (regX c A) (regX c B)) then((⟨c.X,IntKind.wrap .u32 (c.Pc+IntKind.wrap .u32 (4*IntKind.wrap .u32 Imm)),c.B4⟩:Q02),eff0) else(⟨c.X,nxt c,c.B4⟩,eff0)).1,m,(bif(Q21 45 (regX c A) (regX c B)) then((⟨c.X,IntKind.wrap .u32 (c.Pc+IntKind.wrap .u32 (4*IntKind.wrap .u32 Imm)),c.B4⟩:Q02),eff0) else(⟨c.X,nxt c,c.B4⟩,eff0)).2) by kernel_rfl).trans ((brc (Q21 45 (regX c A) (regX c B)) ⟨c.X,IntKind.wrap .u32 (c.Pc+IntKind.wrap .u32 (4*IntKind.wrap .u32 Imm)),c.B4⟩ ⟨c.X,nxt c,c.B4⟩ m).trans (by kernel_rfl))
 . refine(show Q58 c m ⟨48,A,B,C,Imm⟩=(setP c A (nxt c) (IntKind.wrap .u32 ((Qao c A (nxt c)).Pc+IntKind.wrap .u32 (4*IntKind.wrap .u32 Imm))),m,eff0) by kernel_rfl).trans ?_
   rw[Zei c hA,Qyd c hA,(zW c A (nxt c)).1];kernel_rfl
 . refine(show Q58 c m ⟨49,A,B,C,Imm⟩=(setP c A (nxt c) (va c B Imm),m,eff0) by kernel_rfl).trans ?_
   rw[Zei c hA];kernel_rfl
 . refine(show Q58 c m ⟨56,A,B,C,Imm⟩=(Q47 c 7 0,m,eff0) by kernel_rfl).trans ?_
   rw[Qmw hc.a0.1 hst];kernel_rfl
 . refine(show Q58 c m ⟨57,A,B,C,Imm⟩=(Qdx c,m,eff0) by kernel_rfl).trans ?_
   rw[Zfm hc.a0.1 hst];kernel_rfl
 . refine(show Q58 c m ⟨58,A,B,C,Imm⟩=(setP c A (List.getD (A8.l c.B4) Imm.toNat 0) (nxt c),m,eff0) by kernel_rfl).trans ?_
   rw[Zei c hA,<-Zfj];kernel_rfl
 . have e:=xI c (IntKind.wrap .i64 Imm) (regX c A)
   refine(show Q58 c m ⟨59,A,B,C,Imm⟩=((⟨(Qgk c (IntKind.wrap .i64 Imm) (regX c A)).X,IntKind.wrap .u32 (c.Pc+4),(Qgk c (IntKind.wrap .i64 Imm) (regX c A)).B4⟩:Q02),m,eff0) by kernel_rfl).trans ?_
   rw[<-e];kernel_rfl
 . exact(show Q58 c m ⟨60,A,B,C,Imm⟩=((Qjy c m ⟨60,A,B,C,Imm⟩).1,(Qjy c m ⟨60,A,B,C,Imm⟩).2.2,(Qjy c m ⟨60,A,B,C,Imm⟩).2.1) by kernel_rfl)
 . exact(show Q58 c m ⟨61,A,B,C,Imm⟩=((Qjy c m ⟨61,A,B,C,Imm⟩).1,(Qjy c m ⟨61,A,B,C,Imm⟩).2.2,(Qjy c m ⟨61,A,B,C,Imm⟩).2.1) by kernel_rfl)
 . exact(show Q58 c m ⟨62,A,B,C,Imm⟩=((Qjy c m ⟨62,A,B,C,Imm⟩).1,(Qjy c m ⟨62,A,B,C,Imm⟩).2.2,(Qjy c m ⟨62,A,B,C,Imm⟩).2.1) by kernel_rfl)
 . exact(show Q58 c m ⟨63,A,B,C,Imm⟩=((Qjy c m ⟨63,A,B,C,Imm⟩).1,(Qjy c m ⟨63,A,B,C,Imm⟩).2.2,(Qjy c m ⟨63,A,B,C,Imm⟩).2.1) by kernel_rfl)
 . exact(show Q58 c m ⟨64,A,B,C,Imm⟩=((Qjy c m ⟨64,A,B,C,Imm⟩).1,(Qjy c m ⟨64,A,B,C,Imm⟩).2.2,(Qjy c m ⟨64,A,B,C,Imm⟩).2.1) by kernel_rfl)
end
theorem qaj{op:Int}(h0:0<=op)(h1:op<256)(h:Q26 op≠0):isOp op:=by
 have e:=of_decide_eq_true (Qsz (λop=>decide (Q26 op=0\/isOpB op=true)) 256 (by kernel_rfl) h0 h1)
 rcases e with e|e
 . exact absurd e h
 . simpa only[isOpB,isOp,Bool.or_eq_true,decide_eq_true_eq,or_assoc] using e
theorem vh{op:Int}(o:isOp op):1<=op/\op<=64:=by
 unfold isOp at o
 rcases o with h|h|h|h|h|h|h|h|h|h|h|h|h|h|h|h|h|h|h|h|h|h|h|h|h|h|h|h|h|h|h|h|h|h|h|h|h|h|h|h|h|h|h|h<;>(rw[h];decide)
theorem qi{w:Int}(hw:U w):(Q3o w).2=true->isOp (Q3o w).1.Op:=by
  have s24:ishr .u32 w 24=w/16777216:=by have:=Qp (a:=w) 24 (by decide);simpa using this
  obtain⟨w0,w1⟩:=hw
  have eo:IntKind.wrap .i64 (w/16777216)=w/16777216:=w64 (by omega) (by omega)
  have q:(λr:Q0i×Bool=>r.2=true->isOp r.1.Op) (Q3o w):=by
    simp only[Q3o,Q9q,Tree.m,letv,s24,eo]
    cases hf:Q26 (w/16777216)==0
    . have g:isOp (w/16777216):=qaj (by omega) (by omega) (by simpa using hf)
      repeat'(first
        |exact λ_=>g
        |exact λe=>Bool.noConfusion (show false=true from e)
        |refine Z1z (Q:=λr:Q0i×Bool=>r.2=true->isOp r.1.Op) ?_ ?_)
    . exact λe=>Bool.noConfusion (show false=true from e)
  exact q
section
variable (c:Q02) (m:List Int)
def doR(x:Int×Int×List Int)(w:Int)(d:Q0i×Bool):Q02×Q1×List Int:=
 bif x.2.1 !=0 then(Q2m c x.2.1 c.Pc,eff0,x.2.2) else bif !d.2 then(Q2m c 1 w,eff0,x.2.2) else bif Q5e d.1.Op then(bif iand .u32 c.B4.a0 1==0 then(Q2m c 2 w,eff0,x.2.2) else Qjy c x.2.2 d.1) else Qjy c x.2.2 d.1
def doP(y:Int×List Int×Int)(d:Q0i×Bool):Q02×List Int×Q1:=
 bif y.2.2 !=0 then(Q47 c y.2.2 c.Pc,y.2.1,eff0) else bif !d.2 then(Q47 c 1 y.1,y.2.1,eff0) else bif Q8e d.1.Op then(bif !Qc3 c then(Q47 c 2 y.1,y.2.1,eff0) else Q58 c y.2.1 d.1) else Q58 c y.2.1 d.1
theorem do_eq:Q8g c m=doR c (Q14 c m c.Pc 4 1) (Q23 (Q14 c m c.Pc 4 1).2.2 (Q14 c m c.Pc 4 1).1 4).1 (Q3o (Q23 (Q14 c m c.Pc 4 1).2.2 (Q14 c m c.Pc 4 1).1 4).1):=by kernel_rfl
theorem zaj:Qa8 c m=doP c (Qnb c m) (Qgm (Qnb c m).1):=by kernel_rfl
theorem zI:Qnb c m=bif(Q1y c m c.Pc 4 1).2.2 !=0 then(0,(Q1y c m c.Pc 4 1).2.1,(Q1y c m c.Pc 4 1).2.2) else((Q4f (Q1y c m c.Pc 4 1).2.1 (Q1y c m c.Pc 4 1).1 4).1,(Q1y c m c.Pc 4 1).2.1,0):=by kernel_rfl
end
theorem xi{P:Nat}{m:List Int}(h:Q0y P m){c:Q02}(hc:Q2i c)(hst:c.B4.a0<=31):Qa8 c m=((Q8g c m).1,(Q8g c m).2.2,(Q8g c m).2.1):=by
  obtain⟨k,u,b⟩:=Zh3 h hc hc.pc (.inr rfl) 1
  have tr: ∀k b,Q47 c k b=Q2m c k b:=Qmw hc.a0.1 hst
  rw[zaj,do_eq,zI,Qnd h hc hst hc.pc (.inr rfl) (.inl rfl)]
  generalize Q14 c m c.Pc 4 1=x at*
  cases hx:x.2.1 !=0
  . rw [Qng k u (.inr rfl)]
    have hw:U (Q23 x.2.2 x.1 4).1:=(Tree.pp (Zay k u (.inr rfl))).2
    generalize(Q23 x.2.2 x.1 4).1=w at*
    show doP c (w,x.2.2,0) (Qgm w)=_
    rw[qg hw]
    have o:=qi hw
    have i:=Tree.post _ (Zhp w)
    change(Q3o w).2=true->Qex (Q3o w).1 at i
    generalize Q3o w=d at*
    obtain⟨⟨op,A,B,C,Imm⟩,ok⟩:=d
    cases ok
    . simp only[doP,doR,hx,tr];rfl
    . have o:isOp op:=o rfl
      have i:=i rfl
      have p:=yh (C:=C) (B:=B) (Imm:=Imm) k hc hst i.a o
      have pv:Q8e op=Q5e op:=qag (by have:=vh o;omega) (by have:=vh o;omega)
      have kn:(!Qc3 c)=(iand .u32 c.B4.a0 1==0):=by
        show(!(!(iand .u32 c.B4.a0 1==0)))=_
        exact Bool.not_not _
      simp only[doP,doR,hx,tr,pv,kn,p]
      cases Q5e op
      . rfl
      . cases iand .u32 c.B4.a0 1==0<;>rfl
  . simp only[doP,doR,hx,cond_true,tr]
theorem vi{a b:Int}:decide (a>=b)=!decide (a<b):=by
 by_cases h:a<b
 . rw[decide_eq_true h,decide_eq_false (by omega)];rfl
 . rw[decide_eq_false h,decide_eq_true (by omega)];rfl
def bits(g:Int)(l:List Nat)(s:Int):Int:=l.foldl (λ(a:Int) (i:Nat)=>IntKind.wrap .i64 (a+IntKind.wrap .i64 (iand .u32 (ishr .u32 g (i:Int)) 1))) s
theorem yI(b:Q05):Qdn b=bits b.C2 [0,1,2,3,4,5,6,7,8,9,10,11,12,13,14,15,16,17,18,19,20,21,22,23,24,25,26,27,28,29,30,31] 0:=by kernel_rfl
theorem qaG{g:Int}(hg:U g){i:Nat}(hi:i<=32):IntKind.wrap .i64 (iand .u32 (ishr .u32 g (i:Int)) 1)=g/2^i%2:=by
 rw[and1 (Qtl hg _),Qp i hi]
 have:0<=g/2^i%2/\g/2^i%2<2:=by omega
 exact w64 (by omega) (by omega)
theorem vI{g:Int}(hg:U g)(l:List Nat): ∀s:Int,(∀i∈l,i<=32)->0<=s->s+l.length<=1000->bits g l s=s+(l.map λi=>g/2^i%2).sum:=by
 induction l with
 |nil=>intro s _ _ _;simp [bits]
 | cons i l ih=>
   intro s hl h0 h1
   have h1:s+(l.length+1)<=1000:=by simpa using h1
   have hb:0<=g/2^i%2/\g/2^i%2<2:=by omega
   have e:bits g (i::l) s=bits g l (s+g/2^i%2):=by
     show bits g l (IntKind.wrap .i64 (s+IntKind.wrap .i64 (iand .u32 (ishr .u32 g (i:Int)) 1)))=_
     rw[qaG hg (hl i (by simp)),w64 (by omega) (by omega)]
   rw[e,ih _ (λj hj=>hl j (by simp [hj])) (by omega) (by omega)]
   simp;omega
theorem Zlz(n:Q0l)(port:Int):Z1s n port=Qgo n port:=by
 simp only[Z1s,Qs8,Qgo,Qfh,Tree.m]
 cases n.C5<;>cases n.B6<;>rfl
theorem Z36(t:Q0f):Q41 t=Qch t:=by
 simp only[Q41,Qlg,Qch,Qh3,Tree.m]
 cases t.D3<;>cases t.D2<;>rfl
theorem Zaq(n:Q0l)(p:Int):Q5p n p=Qh8 n p:=by
 simp only[Q5p,Qk3,Qh8,Ql,Tree.m]
 cases n.C5<;>cases n.B6<;>rfl
theorem Z7h(d:Q0d)(p:Int):Q1d d p=Qf4 d p:=by
  simp only[Q1d,Q5r,Q8y,Q77,Qf4,Qj5,Tree.m,letv,vi]
  cases decide (d.Blocks>64)
  . by_cases s:d.C0=0\/d.C0=1\/d.C0=2\/d.C0=3
    . rcases s with s|s|s|s<;>rw[s]
      . rfl
      . by_cases c1:d.D7=1
        . rw[c1];cases decide (d.B5<d.Blocks)<;>cases decide (IntKind.wrap .i64 d.B3<p)<;>cases decide (d.C3=[])<;>rfl
        . by_cases c2:d.D7=2
          . rw[c2];cases decide (d.B5<d.Blocks)<;>cases decide (IntKind.wrap .i64 d.B3<p)<;>cases(d.C3.length:Int)==128<;>rfl
          . rw[show(d.D7==1)=false by simpa using c1,show(d.D7==2)=false by simpa using c2]
            cases decide (d.B5<d.Blocks)<;>cases decide (IntKind.wrap .i64 d.B3<p)<;>rfl
      . rfl
      . rfl
    . rw[show(d.C0==0)=false by simp;omega,show(d.C0==1)=false by simp;omega,show(d.C0==2)=false by simp;omega,show(d.C0==3)=false by simp;omega]
      by_cases n:d.C0<0
      . rw[decide_eq_true n];rfl
      . rw[decide_eq_false n,decide_eq_true (show d.C0>3 by omega)];rfl
  . rfl
theorem qJ(c:Q0b):Q9i c=Q5b c:=by
 show(!decide (c.D0=[]))=decide ((c.D0.length:Int)>0)
 cases c.D0 with
 |nil=>rfl
 |cons a l=>rw[decide_eq_false (by simp),decide_eq_true (by simp)];rfl
theorem xaj(k:List UInt8):decide (k=[])=((k.length:Int)==0):=by
 cases k with
 |nil=>rfl
 | cons a l=>
   rw[decide_eq_false (by simp)]
   exact(beq_eq_false_iff_ne.2 (by simp;omega)).symm
theorem Zko(c:Q0b)(port:Int):Qnz c port=Q4y c port:=by
 simp only[Qnz,Q8v,Q4y,Q3b,Tree.m,xaj]
 cases port==0
 . rfl
 . cases(c.D0.length:Int)==0<;>rfl
theorem xJ(t:Q0f)(v:Int):Qk6 t v=Qsr v:=by
 simp only[Qk6,Ql8,Qsr,Qtf,Tree.m]
 cases h:v==0
 . rw[show(v !=0)=true by simp only[bne,h];rfl];rfl
 . rw[show(v !=0)=false by simp only[bne,h];rfl,eq_of_beq h];rfl
section
variable {P:Nat} {m:List Int} (h:Q0y P m)
include h
theorem Z5m(f:Int):Q8t m f=Q1z m f:=by
 have a:=Q3d h
 have b:=Qeg h
 simp only[Q8t,Qcg,Q1z,Qgx,Tree.m,letv,a,b]
theorem Z6e(f:Int):Q9t m f=Q1z m f:=by
 have a:=Q3d h
 have b:=Qeg h
 simp only[Q9t,Qfd,Q1z,Qgx,Tree.m,letv,a,b]
theorem Zdn(d:Q0d)(port:Int)(v:Int)(at0:Int):Qyc d m port v at0=Qev d m port v at0:=by
  have pg:=Z5m h
  have pa:=Zcm h
  have rq: ∀d a,Qir d a=Qiz d a:=λ_ _=>rfl
  simp only[Qyc,Qc2,Qtt,Q7c,Qev,Q8c,Tree.m,letv,pg,pa,rq]
  cases port==4
  . cases port==5
    . cases h6:port==6
      . rw[show(port !=6)=true by simp only[bne,h6];rfl];rfl
      . rw [show(port !=6)=false by simp only[bne,h6];rfl]
        by_cases v1:v=1
        . subst v1
          cases hs:d.C0==0
          . rw[show(d.C0 !=0)=true by simp only[bne,hs];rfl];rfl
          . rw[show(d.C0 !=0)=false by simp only[bne,hs];rfl];rfl
        . by_cases v2:v=2
          . subst v2
            cases hs:d.C0==0
            . rw[show(d.C0 !=0)=true by simp only[bne,hs];rfl];rfl
            . rw[show(d.C0 !=0)=false by simp only[bne,hs];rfl];rfl
          . rw[show(v==1)=false by simpa using v1,show(v==2)=false by simpa using v2]
            cases v==0
            . rfl
            . have:Q97 d=(bif d.C0==2 then true else d.C0==3):=rfl
              rw[this]
              cases d.C0==2<;>cases d.C0==3<;>rfl
    . rfl
  . rfl
theorem Zfx(n:Q0l)(port:Int)(v:Int)(at0:Int):Z72 n m port v at0=Qh7 n m port v at0:=by
  have pg:=Z6e h
  have pa:=Zcm h
  simp only[Z72,Qf8,Z8h,Qcb,Qh7,Qai,Tree.m,letv,pg,pa]
  have g1:decide (n.D9>=1)=!decide (n.D9<1):=vi
  have g2:decide (n.D9<=128)=!decide (n.D9>128):=by
    by_cases h:n.D9>128
    . rw[decide_eq_true h,decide_eq_false (by omega)];rfl
    . rw[decide_eq_false h,decide_eq_true (by omega)];rfl
  rw[g1,g2]
  cases port==7
  . cases port==8
    . cases h9:port==9
      . rw[show(port !=9)=true by simp only[bne,h9];rfl];rfl
      . rw [show(port !=9)=false by simp only[bne,h9];rfl]
        by_cases v1:v=1
        . subst v1
          cases decide (n.D9<1)<;>cases decide (n.D9>128)<;>cases Q1z m n.Frame<;>rfl
        . by_cases v2:v=2
          . subst v2;rfl
          . rw[show(v==1)=false by simpa using v1,show(v==2)=false by simpa using v2]
            cases v==0<;>rfl
    . rfl
  . rfl
theorem Z95{d:Q0d}(hd:Q8j d)(e:Q08):Qgi d m e=((Qbo d m e).1,(Qbo d m e).2.2,(Qbo d m e).2.1):=by
  have hcl:Q03 m=m:=rfl
  have pg:=Z5m h d.B3
  have lp:decide ((e.C6.length:Int)>0)=!decide (e.C6=[]):=by
    cases e.C6 with
    |nil=>rfl
    |cons a l=>rw[decide_eq_true (by simp),decide_eq_false (by simp)];rfl
  have bad:(e.C6.length:Int)≠128->Q1z m d.B3=true->Q2l m (IntKind.wrap .i64 d.B3) e.C6=(m,false):=λhl hp=>by
    rw[Qkt h hd.opFrame]at hp
    have hp:=of_decide_eq_true hp
    have h1:=hd.opFrame.1
    have h3:=h.p2
    have ew:IntKind.i64.wrap d.B3=d.B3:=w64 (by omega) (by omega)
    simp only[Q2l,Q28,Tree.m,letv,hcl,ew,Z8x h,decide_eq_true (⟨h1,hp⟩:0<=d.B3/\d.B3<P),show((e.C6.length:Int) !=128)=true by simpa using hl]
    rfl
  have good:(e.C6.length:Int)=128->Q1z m d.B3=true->Q2l m (IntKind.wrap .i64 d.B3) e.C6=(Qjr m (IntKind.wrap .i64 d.B3) e.C6,true):=λhl hp=>by
    rw[Qkt h hd.opFrame]at hp
    have hp:=of_decide_eq_true hp
    have h1:=hd.opFrame.1
    have h3:=h.p2
    have ew:IntKind.i64.wrap d.B3=d.B3:=w64 (by omega) (by omega)
    rw[ew];exact Ze7 h h1 hp (by omega)
  simp only[Qgi,Q44,Qbo,Qaa,Tree.m,letv,hcl,pg,lp]
  cases d.C0 !=1
  . cases e.B7 !=4
    . cases decide (e.N>1)
      . cases e.N==1
        . cases decide (e.C6=[])<;>rfl
        . cases hc:d.D7==1
          . cases decide (e.C6=[])<;>rfl
          . by_cases hl:(e.C6.length:Int)=128
            . rw[show((e.C6.length:Int) !=128)=false by simpa using hl]
              cases hp:Q1z m d.B3
              . rfl
              . rw[good hl hp];rfl
            . rw[show((e.C6.length:Int) !=128)=true by simpa using hl]
              cases hp:Q1z m d.B3
              . rfl
              . rw[bad hl hp];rfl
      . rfl
    . rfl
  . rfl
theorem Zaw{n:Q0l}(hn:Qih n)(frame:List UInt8):Ql1 n m frame=((Qbl n m frame).1,(Qbl n m frame).2.2,(Qbl n m frame).2.1):=by
  have hcl:Q03 m=m:=rfl
  have pg:=Z6e h n.B8
  simp only[Ql1,Q5z,Qbl,Qac,Tree.m,letv,hcl,pg]
  cases !n.C5
  . cases decide ((frame.length:Int)<1)
    . cases hf:decide ((frame.length:Int)>128)
      . cases hp:Q1z m n.B8
        . rfl
        . rw[Qkt h hn.buffer]at hp
          have hp:=of_decide_eq_true hp
          have h1:=hn.buffer.1
          have h3:=h.p2
          have ew:IntKind.i64.wrap n.B8=n.B8:=w64 (by omega) (by omega)
          have hf:=of_decide_eq_false hf
          obtain⟨b1,b2⟩:=(Tree.pp (vg h h1 hp)).2
          change isPg m n.B8 (Q5a m n.B8).1 at b1
          have tk:List.take (Int.toNat ((Q5a m n.B8).1.length:Int)-Int.toNat (frame.length:Int)) (List.drop (Int.toNat (frame.length:Int)) (Q5a m n.B8).1)=(Q5a m n.B8).1.drop frame.length:=by
            rw[Int.toNat_natCast,Int.toNat_natCast]
            exact List.take_of_length_le (by simp)
          rw[ew,tk,Ze6 h h1 hp (by omega) b1]
          rfl
      . rfl
    . rfl
  . rfl
end
def ptab:List UInt8:=(List.range 256).map λn=>UInt8.ofNat (n%2+n/2%2+n/4%2+n/8%2+n/16%2+n/32%2+n/64%2+n/128%2)
def pt(n:Int):Int:=((UInt8.toNat (ptab.getD n.toNat 0):Nat):Int)
theorem zJ(x:Int):Q6f x=IntKind.wrap .i64 (IntKind.wrap .u8 (IntKind.wrap .u8 (IntKind.wrap .u8 (pt (ishr .u32 x 24)+pt (iand .u32 (ishr .u32 x 16) 255))+pt (iand .u32 (ishr .u32 x 8) 255))+pt (iand .u32 x 255))):=by kernel_rfl
theorem pt8{a:Int}(h0:0<=a)(h1:a<256):pt a=a%2+a/2%2+a/4%2+a/8%2+a/16%2+a/32%2+a/64%2+a/128%2:=
 eq_of_beq (Qsz (λa=>pt a==a%2+a/2%2+a/4%2+a/8%2+a/16%2+a/32%2+a/64%2+a/128%2) 256 (by kernel_rfl) h0 h1)
theorem qj{g:Int}(hg:U g):bits g [0,1,2,3,4,5,6,7,8,9,10,11,12,13,14,15,16,17,18,19,20,21,22,23,24,25,26,27,28,29,30,31] 0=pt (g%256)+pt (g/256%256)+pt (g/65536%256)+pt (g/16777216):=by
 rw[vI hg _ 0 (by decide) (by decide) (by decide),pt8 (by omega) (by omega),pt8 (by omega) (by omega),pt8 (by omega) (by omega),pt8 (by have:=hg.1;omega) (by have:=hg.2;omega)]
 obtain⟨g0,g1⟩:=hg
 simp only[List.map_cons,List.map_nil,List.sum_cons,List.sum_nil]
 have e: ∀i j:Nat,∀k:Int,i<8->k=2^j->g/2^(i+j)%2=(g/k%256)/2^i%2:=λi j k hi hk=>by
   subst hk
   rw[Nat.add_comm,Int.pow_add,<-Int.ediv_ediv_of_nonneg (Int.le_of_lt (Int.pow_pos (by decide)))]
   generalize g/2^j=x
   have:i=0\/i=1\/i=2\/i=3\/i=4\/i=5\/i=6\/i=7:=by omega
   rcases this with rfl|rfl|rfl|rfl|rfl|rfl|rfl|rfl<;>simp<;>omega
 have e0: ∀i:Nat,i<8->g/2^i%2=(g%256)/2^i%2:=λi hi=>by have:=e i 0 1 hi rfl;simpa using this
 have e24:g/16777216%256=g/16777216:=by omega
 rw[e0 0 (by decide),e0 1 (by decide),e0 2 (by decide),e0 3 (by decide),e0 4 (by decide),e0 5 (by decide),e0 6 (by decide),e0 7 (by decide)]
 rw[e 0 8 256 (by decide) (by decide),e 1 8 256 (by decide) (by decide),e 2 8 256 (by decide) (by decide),e 3 8 256 (by decide) (by decide),e 4 8 256 (by decide) (by decide),e 5 8 256 (by decide) (by decide),e 6 8 256 (by decide) (by decide),e 7 8 256 (by decide) (by decide)]
 rw[e 0 16 65536 (by decide) (by decide),e 1 16 65536 (by decide) (by decide),e 2 16 65536 (by decide) (by decide),e 3 16 65536 (by decide) (by decide),e 4 16 65536 (by decide) (by decide),e 5 16 65536 (by decide) (by decide),e 6 16 65536 (by decide) (by decide),e 7 16 65536 (by decide) (by decide)]
 rw[e 0 24 16777216 (by decide) (by decide),e 1 24 16777216 (by decide) (by decide),e 2 24 16777216 (by decide) (by decide),e 3 24 16777216 (by decide) (by decide),e 4 24 16777216 (by decide) (by decide),e 5 24 16777216 (by decide) (by decide),e 6 24 16777216 (by decide) (by decide),e 7 24 16777216 (by decide) (by decide),e24]
 generalize g%256=a
 generalize g/256%256=b
 generalize g/65536%256=c
 generalize g/16777216=d
 simp only[show(2:Int)^0=1 from rfl,show(2:Int)^1=2 from rfl,show(2:Int)^2=4 from rfl,show(2:Int)^3=8 from rfl,show(2:Int)^4=16 from rfl,show(2:Int)^5=32 from rfl,show(2:Int)^6=64 from rfl,show(2:Int)^7=128 from rfl,Int.ediv_one]
 omega
theorem pt_le{a:Int}(h0:0<=a)(h1:a<256):0<=pt a/\pt a<=8:=by rw[pt8 h0 h1];omega
theorem Z4x{b:Q05}(hg:U b.C2):Qd0 b=Qdn b/\0<=Qdn b/\Qdn b<=32:=by
 obtain⟨s8,s16,s24⟩:=shr_c b.C2
 have u8:U (ishr .u32 b.C2 8):=Qtl hg _
 have u16:U (ishr .u32 b.C2 16):=Qtl hg _
 have e:Qd0 b=Q6f b.C2:=rfl
 rw[e,zJ,yI,qj hg,m255 u8,m255 u16,m255 hg,s8,s16,s24]
 obtain⟨g0,g1⟩:=hg
 have p0:=pt_le (a:=b.C2%256) (by omega) (by omega)
 have p1:=pt_le (a:=b.C2/256%256) (by omega) (by omega)
 have p2:=pt_le (a:=b.C2/65536%256) (by omega) (by omega)
 have p3:=pt_le (a:=b.C2/16777216) (by omega) (by omega)
 have w8: ∀x,IntKind.wrap .u8 x=x%256:=λx=>IntKind.wrap_u8 x
 rw[w8,w8,w8,IntKind.wrap_i64]
 omega
theorem Zdd{b:Q05}(h:okB b):Q71 b=Q3h b:=by
 obtain⟨e,l0,l1⟩:=Z4x h.2
 obtain⟨t0,t1⟩:=h.1
 simp only[Q71,Q2r,Q3h,Q8z,Tree.m,letv,e]
 rw[IntKind.wrap_u32,IntKind.wrap_u64,IntKind.wrap_u64,Int.emod_eq_of_lt l0 (by omega),Int.emod_eq_of_lt l0 (by omega),Int.emod_eq_of_lt t0 (by omega)]
theorem Zlg{b:Q05}(h:okB b)(port:Int):Qof b port=Q4q b port:=by
 simp only[Qof,Q7a,Q4q,Q5w,Tree.m,letv,(Z4x h.2).1]
theorem qak(g:Int)(z:Nat):g%2^(z+1)=g%2^z+2^z*(g/2^z%2):=by
 have hp:(0:Int)<2^z:=Int.pow_pos (by decide)
 have h1:=Int.mul_ediv_add_emod g (2^z)
 have h2:=Int.mul_ediv_add_emod (g/2^z) 2
 have h3:(g/2^z)/2=g/2^(z+1):=by rw[Int.pow_succ,Int.ediv_ediv_of_nonneg (Int.le_of_lt hp)]
 have h4:=Int.mul_ediv_add_emod g (2^(z+1))
 rw[h3]at h2
 have h5:(2:Int)^(z+1)*(g/2^(z+1))=2^z*(2*(g/2^(z+1))):=by rw[Int.pow_succ,Int.mul_assoc]
 have h6:(2:Int)^z*(g/2^z)=2^z*(2*(g/2^(z+1)))+2^z*(g/2^z%2):=by rw[<-Int.mul_add,h2]
 omega
theorem zaG{b:Q05}(hg:U b.C2){P:Nat}(hP:P<=32):(Q51 b P).w (λr=>r=decide (b.C2<2^P)):=by
 unfold Q51
 have fin: ∀v:Int,0<=v->v<=32->IntKind.wrap .u64 v=(v.toNat:Int):=λv h0 h1=>by rw[IntKind.wrap_u64];omega
 refine w_lp (inv:=λz:Int=>0<=z/\z<=32/\b.C2%2^z.toNat<2^P) (μ:=Q6b b P) ⟨by decide,by decide,by have:(0:Int)<2^P:=Int.pow_pos (by decide);simpa using this⟩ (Nat.lt_succ_self _) λz ⟨z0,z1,z2⟩=> ?_
 refine w_br (λhb=> ?_) (λhb=> ?_)
 . have hb:=of_decide_eq_true hb
   have ew:IntKind.i64.wrap (z+1)=z+1:=w64 (by omega) (by omega)
   have bt:iand .u32 (ishr .u32 b.C2 (IntKind.wrap .u64 z)) 1=b.C2/2^z.toNat%2:=by
     rw[fin z z0 z1,and1 (Qtl hg _),Qp _ (by omega)]
   have bp:=qak b.C2 z.toNat
   have zt:(z+1).toNat=z.toNat+1:=by omega
   refine w_cn (decide_eq_true (by rw[IntKind.wrap_u64];omega)) ?_
   rw[bt]
   refine w_br (λe=>w_br (λhp=> ?_) (λhp=>w_nx ?_)) (λe=>w_nx ?_)
   . have e:=eq_of_beq e
     have hp:=of_decide_eq_true hp
     show false=_
     refine(decide_eq_false λhlt=> ?_).symm
     have hle:(2:Int)^P<=2^z.toNat:=by exact_mod_cast Nat.pow_le_pow_right (show 0<2 by decide) (show P<=z.toNat by omega)
     have:b.C2/2^z.toNat=0:=Int.ediv_eq_zero_of_lt hg.1 (by omega)
     rw[this]at e;cases e
   . have e:=eq_of_beq e
     have hp:=of_decide_eq_false hp
     show(0<=IntKind.i64.wrap (z+1)/\IntKind.i64.wrap (z+1)<=32/\b.C2%2^(IntKind.i64.wrap (z+1)).toNat<2^P)/\(32-IntKind.i64.wrap (z+1)).toNat<(32-z).toNat
     rw[ew,zt]
     have hle:(2:Int)^(z.toNat+1)<=2^P:=by exact_mod_cast Nat.pow_le_pow_right (show 0<2 by decide) (show z.toNat+1<=P by omega)
     have:=Int.emod_lt_of_pos b.C2 (show(0:Int)<2^(z.toNat+1) from Int.pow_pos (by decide))
     exact⟨⟨by omega,by omega,by omega⟩,by omega⟩
   . have e: ¬b.C2/2^z.toNat%2=1:=by simpa using e
     have e:b.C2/2^z.toNat%2=0:=by omega
     rw[e]at bp
     show(0<=IntKind.i64.wrap (z+1)/\IntKind.i64.wrap (z+1)<=32/\b.C2%2^(IntKind.i64.wrap (z+1)).toNat<2^P)/\(32-IntKind.i64.wrap (z+1)).toNat<(32-z).toNat
     rw[ew,zt,bp]
     exact⟨⟨by omega,by omega,by omega⟩,by omega⟩
 . have hb:=of_decide_eq_false hb
   have:z=32:=by omega
   subst this
   show true=_
   refine(decide_eq_true ?_).symm
   have h2:b.C2%2^(32:Int).toNat=b.C2:=Int.emod_eq_of_lt hg.1 hg.2
   rwa [h2]at z2
theorem Zfa{b:Q05}(hg:U b.C2){P:Nat}(hP:P<=32):Q2d b P=Q92 b P:=by
 have r:=(Tree.pp (zaG hg hP)).2
 change Q92 b P=_ at r
 rw[r,Bool.eq_iff_iff,Qzj hg,decide_eq_true_eq]
theorem zeros:strings_Repeat [(0:UInt8)] 128=List.replicate 128 0:=by kernel_rfl
theorem xaG{P:Nat}{m:List Int}(hm:Q0y P m){b:Q05}{port:Int}{v:Int}(hv:U v)(hp:v<P)(h10:port=10)(hb:(iand .u32 (ishr .u32 b.C2 v) 1==0)=true):(Q4e b m port v).w (λr=>r.1={C8:=b.C8,C2:=ior .u32 b.C2 (ishl .u32 1 v)}/\Q0y P r.2/\ ∀k:Nat,byt r.2 k=if v*128<=k/\(k:Int)<v*128+128 then 0 else byt m k):=by
 have hv0:decide (0<=v)=true:=decide_eq_true hv.1
 have h2:=hm.p2
 have pg:Q1z m v=true:=by rw[Qkt hm hv];exact decide_eq_true hp
 obtain⟨v1,v2⟩:=hv
 subst h10
 unfold Q4e
 refine w_br (λ_=>w_lv λx0 hx=>w_br (λ_=>w_cn hv0 (w_br (λ_=>w_cn hv0 ?_) (λh=>by rw[hb]at h;cases h))) (λh=>by rw[hx,pg]at h;cases h)) (λh=>by cases h)
 refine w_lp (inv:=λz=>0<=z.1/\z.1<=32/\Q0y P z.2/\ ∀k:Nat,byt z.2 k=if v*128<=k/\(k:Int)<v*128+4*z.1 then 0 else byt m k) (μ:=Qi b m 10 v) ⟨show(0:Int)<=0 by decide,show(0:Int)<=32 by decide,hm,λk=>by rw[if_neg];show¬(_/\_<_+4*(0:Int));omega⟩ (Nat.lt_succ_self _) (λz hz=> ?_)
 obtain⟨z1,z2,z3,z4⟩:=hz
 have hl:=z3.len
 refine w_br (λh=> ?_) (λh=>⟨rfl,z3,λk=> ?_⟩)
 . have h:=of_decide_eq_true h
   have e:IntKind.wrap IntKind.i64 (IntKind.wrap IntKind.i64 (IntKind.wrap IntKind.i64 v*32)+z.1)=v*32+z.1:=by rw[IntKind.wrap_i64,IntKind.wrap_i64,IntKind.wrap_i64];omega
   refine w_cn (by rw[e];simp [Nat.blt];omega) (w_nx ?_)
   have ew:IntKind.i64.wrap (z.1+1)=z.1+1:=by rw[IntKind.wrap_i64];omega
   show(0<=IntKind.i64.wrap (z.1+1)/\IntKind.i64.wrap (z.1+1)<=32/\Q0y P (List.set _ _ _)/\ ∀k:Nat,byt (List.set z.2 (Int.toNat (IntKind.wrap IntKind.i64 (IntKind.wrap IntKind.i64 (IntKind.wrap IntKind.i64 v*32)+z.1))) 0) k=if v*128<=(k:Int)/\(k:Int)<v*128+4*IntKind.i64.wrap (z.1+1) then 0 else _)/\(32-IntKind.i64.wrap (z.1+1)).toNat<(32-z.1).toNat
   rw[ew,e]
   refine⟨⟨by omega,by omega,⟨by simp [hl],z3.p1,z3.p2,Z2y z3.u U_0 _⟩,λk=> ?_⟩,by omega⟩
   rw[Zh2 (by omega)]
   by_cases hc:k/4=(v*32+z.1).toNat
   . rw[if_pos hc,if_pos (by omega)]
     have:k%4=0\/k%4=1\/k%4=2\/k%4=3:=by omega
     rcases this with h|h|h|h<;>rw[h]<;>rfl
   . rw[if_neg hc,z4 k]
     by_cases hd:v*128<=(k:Int)/\(k:Int)<v*128+4*z.1
     . rw[if_pos hd,if_pos (by omega)]
     . rw[if_neg hd,if_neg (by omega)]
 . have h:=of_decide_eq_false h
   show byt z.2 k=_
   rw[z4 k,show z.1=32 by omega];rfl
theorem bitv{g v:Int}(hg:U g)(v0:0<=v)(v1:v<32):(iand .u32 g (ishl .u32 1 v)==0)=(iand .u32 (ishr .u32 g v) 1==0):=by
 obtain⟨z,rfl⟩: ∃z:Nat,v=z:=⟨v.toNat,by omega⟩
 obtain⟨n,rfl⟩: ∃n:Nat,g=n:=⟨g.toNat,by have:=hg.1;omega⟩
 have hz:z<32:=by omega
 have hlt:(2:Nat)^z<4294967296:=by have:=Nat.pow_lt_pow_right (show 1<2 by omega) hz;simpa using this
 rw[and1 (Qtl hg _),Qp z (by omega),xf v0 v1,Int.toNat_natCast]
 have hc:((2:Int)^z)=((2^z:Nat):Int):=by simp
 generalize hq:2^z=q at*
 rw[hc,Zgz hg ⟨by omega,by omega⟩,Int.toNat_natCast,Int.toNat_natCast,<-hq]
 have e1:(n&&&2^z)=0↔n/2^z%2=0:=by
   have t:n.testBit z=decide (n/2^z%2=1):=Nat.testBit_eq_decide_div_mod_eq
   constructor
   . intro h
     have h2:(n&&&2^z).testBit z=false:=by rw[h];exact Nat.zero_testBit z
     rw[Nat.testBit_and,Nat.testBit_two_pow_self,Bool.and_true,t]at h2
     have:=of_decide_eq_false h2
     omega
   . intro h
     have t0:n.testBit z=false:=by rw[t];exact decide_eq_false (by omega)
     apply Nat.eq_of_testBit_eq
     intro i
     rw[Nat.testBit_and,Nat.testBit_two_pow,Nat.zero_testBit]
     by_cases hi:z=i
     . subst hi;rw[t0];rfl
     . rw[decide_eq_false hi,Bool.and_false]
 rw[Bool.eq_iff_iff,beq_iff_eq,beq_iff_eq]
 constructor
 . intro h;have:=e1.1 (by omega);omega
 . intro h;have:=e1.2 (by omega);omega
theorem Zgo{P:Nat}{m:List Int}(h:Q0y P m){b:Q05}(hb:okB b)(port:Int){v:Int}(hv:U v):Q7l b m port v=Q60 b m port v:=by
  have hcl:Q03 m=m:=rfl
  have hp:=Q3d h
  have h2:=h.p2
  have ew:IntKind.i64.wrap v=v:=w64 (by have:=hv.1;omega) (by have:=hv.2;omega)
  have pe:=Qkt h hv
  by_cases h32:v<32
  . have bv :=bitv hb.2 hv.1 h32
    by_cases h10:port=10
    . by_cases hP:v<P
      . cases hz:iand .u32 (ishr .u32 b.C2 v) 1==0
        . simp only[Q7l,Q2o,Q60,Q4e,Tree.m,letv,hcl,hp,ew,pe,bv,hz,h10,decide_eq_true hP,decide_eq_false (show¬v>=32 by omega)]
          rfl
        . obtain⟨g1,g2,g3⟩:=(Tree.pp (xaG h hv hP h10 hz)).2
          change(Q60 b m port v).1=_ at g1
          change Q0y P (Q60 b m port v).2 at g2
          change∀k:Nat,byt (Q60 b m port v).2 k=_ at g3
          obtain⟨s1,s2,s3⟩:=(Tree.pp (Z1y h hv.1 hP (s:=List.replicate 128 0) (by simp))).2
          have em:(Q2l m v (List.replicate 128 0)).1=(Q60 b m port v).2:=by
            refine Zf9 (s2.len.trans g2.len.symm) s2.u g2.u λk=> ?_
            rw[g3 k]
            refine(s3 k).trans ?_
            by_cases hk:v*128<=(k:Int)/\(k:Int)<v*128+128
            . rw[if_pos hk,if_pos hk]
              have:(List.replicate 128 (0:UInt8)).getD ((k:Int)-v*128).toNat 0=0:=by
                rw[List.getD_eq_getElem?_getD,List.getElem?_replicate]
                split<;>rfl
              rw[this];rfl
            . rw[if_neg hk,if_neg hk]
          have el:Q7l b m port v=({C8:=b.C8,C2:=ior .u32 b.C2 (ishl .u32 1 v)},(Q2l m v (List.replicate 128 0)).1):=by
            simp only[Q7l,Q2o,Tree.m,letv,hcl,hp,ew,bv,hz,h10,decide_eq_true hP,decide_eq_false (show¬v>=32 by omega),zeros]
            rfl
          rw[el,em,<-g1]
      . simp only[Q7l,Q2o,Q60,Q4e,Tree.m,letv,hcl,hp,ew,pe,h10,decide_eq_false hP,decide_eq_false (show¬v>=32 by omega)]
        rfl
    . simp only[Q7l,Q2o,Q60,Q4e,Tree.m,letv,hcl,decide_eq_true h32,decide_eq_false (show¬v>=32 by omega),show(port==10)=false by simpa using h10]
      cases port==11<;>rfl
  . simp only[Q7l,Q2o,Q60,Q4e,Tree.m,letv,hcl,pe,decide_eq_false h32,decide_eq_true (show v>=32 by omega),decide_eq_false (show¬v<P by omega)]
    cases port==10<;>cases port==11<;>rfl
structure okV(m:Q01):Prop where
 cpu:Q2i m.B2
 mem: ∀w∈m.Mem,U w
 disk:Q8j m.B1
 nic:Qih m.C4
 bal:okB m.A1
 cnt:0<=m.A3
theorem Qzb(m:List Int)(hm: ∀w∈m,U w):Q0q m=Q3l m/\(Q0q m=0\/ ∃P:Nat,1<=P/\Q0y P m):=by
 refine⟨rfl,?_⟩
 simp only[Q0q,Q89,Tree.m]
 cases h1:Int.tmod (m.length:Int) 32 !=0
 . cases h2:decide ((m.length:Int)>1024)
   . have h1:Int.tmod (m.length:Int) 32=0:=by simpa using h1
     have h2:=of_decide_eq_false h2
     rw[Int.tmod_eq_emod_of_nonneg (by omega)]at h1
     by_cases h0:m.length=0
     . left;rw[h0];rfl
     . right;exact⟨m.length/32,by omega,⟨by omega,by omega,by omega,hm⟩⟩
   . left;rfl
 . left;rfl
theorem rcnd{a x:Bool}:(bif !a then false else x)=true↔a=true/\x=true:=by cases a<;>simp
theorem yJ(m:Q01):Q6d m=true↔ ¬(Q3l m.Mem<1)/\Q7b m.B2/\Qif m.A4=true/\Qch m.B0=true/\Qf4 m.B1 (Q3l m.Mem)=true/\Qh8 m.C4 (Q3l m.Mem)=true/\Q92 m.A1 (Q3l m.Mem)=true/\m.A3<=1152921504606846976/\ ¬(m.A6=true/\m.A9=true):=by
 simp only[Q6d,Qug,Tree.m,letv]
 rw[cnd2,cnd2,cnd2,cnd2,cnd2,cnd2,rcnd,rcnd,rcnd,rcnd,rcnd]
 simp only[decide_eq_false_iff_not,Int.not_lt,bne_eq_false_iff_eq,gt_iff_lt]
 have l:((bif decide (m.A3<=1152921504606846976) then(bif m.A6 then !m.A9 else true) else false)=true)↔m.A3<=1152921504606846976/\ ¬(m.A6=true/\m.A9=true):=by
   by_cases hc:m.A3<=1152921504606846976
   . rw[decide_eq_true hc]
     cases m.A6<;>cases m.A9<;>simp [hc]
   . rw[decide_eq_false hc];simp [hc]
 rw[l]
 constructor
 . rintro⟨a1,a2,a3,a4,a5,a6,a7⟩
   exact⟨by omega,⟨a2,a3,a4,a5,a6⟩,a7⟩
 . rintro⟨a1,⟨a2,a3,a4,a5,a6⟩,a7⟩
   exact⟨by omega,a2,a3,a4,a5,a6,a7⟩
theorem Z71{m:Q01}(h:okV m):Q1c m=Q6d m:=by
 rw[Bool.eq_iff_iff,Qzn,yJ,xe]
 obtain⟨e,c⟩:=Qzb m.Mem h.mem
 simp only[Bool.and_eq_true,<-e]
 rcases c with c|⟨P,hP,hm⟩
 . constructor
   . rintro⟨a,_⟩;exact absurd c a
   . rintro⟨a,_⟩;omega
 . rw[Q3d hm,Z36,Z7h,Zaq,Zfa h.bal.2 hm.p2]
   constructor
   . rintro⟨a1,a2,a3,a4,a5,a6,a7,a8,a9⟩;exact⟨by omega,a2,a5,a6,a7,a8,a9,a3,a4⟩
   . rintro⟨a1,a2,a5,a6,a7,a8,a9,a3,a4⟩;exact⟨by omega,a2,a3,a4,a5,a6,a7,a8,a9⟩
def Z80(a b c d e:Bool):Int:=ior .u32 (ior .u32 (ior .u32 (ior .u32 (Q9a a 0) (Q9a b 1)) (Q9a c 2)) (Q9a d 3)) (Q9a e 4)
theorem mlines(m:Q01):Qcs m=Z80 (Qgb m.B0) (Q9i m.A4) (Q97 m.B1) (Ql5 m.C4) (Q71 m.A1):=by
 unfold Qcs Q42
 simp only[Tree.m,letv]
 generalize Qgb m.B0=a
 generalize Q9i m.A4=b
 generalize Q97 m.B1=c
 generalize Ql5 m.C4=d
 generalize Q71 m.A1=e
 cases a<;>cases b<;>cases c<;>cases d<;>cases e<;>kernel_rfl
theorem Zl1(a b c d e:Bool):0<=Z80 a b c d e/\Z80 a b c d e<32:=by
 cases a<;>cases b<;>cases c<;>cases d<;>cases e<;>decide
theorem rlines(m:Q01):Qgl m=Z80 (Q9u m.B0) (Q5b m.A4) (Qbc m.B1) (Qck m.C4) (Q3h m.A1):=rfl
section
variable {m:Q01} (h:okV m)
include h
theorem Zjp:Qcs m=Qgl m:=by
 rw[mlines,rlines,qJ,Zdd h.bal];rfl
theorem Qvr:Q57 m=Q2v m:=by
 have e:=Zjp h
 simp only[Q57,Q2s,Q2v,Q84,Tree.m,letv,e]
theorem xj:Q99 m=Qf5 m:=by
 have e:=Qvr h
 simp only[Q99,Q4u,Qf5,Qds,Tree.m,letv,e]
theorem Zbi:Q3w m=!Q1u m:=by
 have e1:=Z71 h
 have e2:=xj h
 have e3:decide (m.A3>=1152921504606846976)=!decide (m.A3<1152921504606846976):=vi
 simp only[Q3w,Q3q,Q1u,Q93,Tree.m,letv,e1,e2,e3]
 cases Q6d m<;>cases m.A9<;>cases Qf5 m<;>cases decide (m.A3<1152921504606846976)<;>rfl
theorem Z67:0<=Q2v m/\Q2v m<32:=by
 have e:Q2v m=iand .u32 (Qgl m) m.B2.B4.a7:=rfl
 have l:=Zl1 (Q9u m.B0) (Q5b m.A4) (Qbc m.B1) (Qck m.C4) (Q3h m.A1)
 rw[<-rlines]at l
 rw[e,Zgz ⟨l.1,by omega⟩ h.cpu.a7]
 have:=Nat.and_le_left (n:=(Qgl m).toNat) (m:=m.B2.B4.a7.toNat)
 omega
def low(l:Int):Int:=if l%2=1 then 0 else if l/2%2=1 then 1 else if l/4%2=1 then 2 else if l/8%2=1 then 3 else 4
end
theorem cases32{l:Int}(h0:0<=l)(h1:l<32):l=0\/l=1\/l=2\/l=3\/l=4\/l=5\/l=6\/l=7\/l=8\/l=9\/l=10\/l=11\/l=12\/l=13\/l=14\/l=15\/l=16\/l=17\/l=18\/l=19\/l=20\/l=21\/l=22\/l=23\/l=24\/l=25\/l=26\/l=27\/l=28\/l=29\/l=30\/l=31:=by omega
def intr(m:Q01)(l:Int):Q02:=bif iand .u32 m.B2.B4.a0 2==0 then m.B2 else bif l==0 then m.B2 else Q2m m.B2 (IntKind.wrap .i64 (16+low l)) 0
theorem rintr{m:Q01}(h:okV m):Q0n m=intr m (Q2v m):=by
 obtain⟨l0,l1⟩:=Z67 h
 unfold Q0n Q49
 simp only[Tree.m,letv]
 revert l0 l1
 generalize Q2v m=l
 intro l0 l1
 unfold intr
 cases iand .u32 m.B2.B4.a0 2==0
 . rcases cases32 l0 l1 with rfl|rfl|rfl|rfl|rfl|rfl|rfl|rfl|rfl|rfl|rfl|rfl|rfl|rfl|rfl|rfl|rfl|rfl|rfl|rfl|rfl|rfl|rfl|rfl|rfl|rfl|rfl|rfl|rfl|rfl|rfl|rfl<;>kernel_rfl
 . rfl
def beg(m:Q01)(c:Q02):Q01:={B2:=c,Mem:=m.Mem,A4:=m.A4,B0:=m.B0,B1:=m.B1,C4:=m.C4,A1:=m.A1,A3:=m.A3,A6:=false,A9:=m.A9}
theorem Zki{m:Q01}(h:okV m)(hst:m.B2.B4.a0<=31):Q18 m=beg m (Q0n m):=by
 obtain⟨l0,l1⟩:=Z67 h
 have tr: ∀k b,Q47 m.B2 k b=Q2m m.B2 k b:=Qmw h.cpu.a0.1 hst
 have e:Q57 (beg m m.B2)=Q2v m:=Qvr (m:=beg m m.B2) ⟨h.cpu,h.mem,h.disk,h.nic,h.bal,h.cnt⟩
 rw[rintr h]
 unfold Q18 Q3z
 simp only[Tree.m,letv]
 rw[show Q57 {B2:=m.B2,Mem:=m.Mem,A4:=m.A4,B0:=m.B0,B1:=m.B1,C4:=m.C4,A1:=m.A1,A3:=m.A3,A6:=false,A9:=m.A9}=Q2v m from e]
 revert l0 l1
 generalize Q2v m=l
 intro l0 l1
 unfold intr
 simp only[<-tr]
 cases iand .u32 m.B2.B4.a0 2==0
 . rcases cases32 l0 l1 with rfl|rfl|rfl|rfl|rfl|rfl|rfl|rfl|rfl|rfl|rfl|rfl|rfl|rfl|rfl|rfl|rfl|rfl|rfl|rfl|rfl|rfl|rfl|rfl|rfl|rfl|rfl|rfl|rfl|rfl|rfl|rfl<;>(show _=_;kernel_rfl)
 . rfl
theorem ports{p:Int}:p=0\/p=1\/p=2\/p=3\/p=4\/p=5\/p=6\/p=7\/p=8\/p=9\/p=10\/p=11\/p<0\/12<=p:=by omega
theorem zak{m:Q01}(hb:okB m.A1)(port clock:Int):Q1b m port clock=((Qdb m port clock).2,(Qdb m port clock).1):=by
 have e1:=Zko m.A4
 have e2: ∀p,Qu0 m.B1 p=Qib m.B1 p:=λ_=>rfl
 have e3:=Zlz m.C4
 have e4:=Zlg hb
 have e5:Qyi m.B0=Qfb m.B0:=rfl
 simp only[Q1b,Q2h,Qdb,Qkc,Tree.m,letv,e1,e2,e3,e4,e5]
 rcases ports (p:=port) with rfl|rfl|rfl|rfl|rfl|rfl|rfl|rfl|rfl|rfl|rfl|rfl|h|h
 all_goals first|rfl|skip
 . have n: ∀k:Int,0<=k->(port==k)=false:=λk hk=>beq_eq_false_iff_ne.2 (by omega)
   have c:Q4y m.A4 port=(m.A4,0):=by
     simp only[Q4y,Q3b,Tree.m,n 0 (by decide),n 1 (by decide),cond_false]
   simp only[n 0 (by decide),n 1 (by decide),n 2 (by decide),n 3 (by decide),n 4 (by decide),n 5 (by decide),n 6 (by decide),n 7 (by decide),n 8 (by decide),n 9 (by decide),n 10 (by decide),n 11 (by decide),cond_false,decide_eq_true (show port<=1 by omega),cond_true,c]
 . have n: ∀k:Int,k<12->(port==k)=false:=λk hk=>beq_eq_false_iff_ne.2 (by omega)
   have c:Q4q m.A1 port=0:=by
     simp only[Q4q,Q5w,Tree.m,n 10 (by decide),n 11 (by decide),cond_false]
   simp only[n 0 (by decide),n 1 (by decide),n 2 (by decide),n 3 (by decide),n 4 (by decide),n 5 (by decide),n 6 (by decide),n 7 (by decide),n 8 (by decide),n 9 (by decide),n 10 (by decide),n 11 (by decide),cond_false,decide_eq_false (show¬port<=1 by omega),decide_eq_false (show¬port<=6 by omega),decide_eq_false (show¬port<=9 by omega),c]
theorem vJ{P:Nat}{m:Q01}(hm:Q0y P m.Mem)(hb:okB m.A1)(port:Int){v:Int}(hv:U v):Q29 m port v m.A3=((Q9v m port v).2,(Q9v m port v).1):=by
 have e1:=Zdn hm m.B1
 have e2:=Zfx hm m.C4
 have e3:=Zgo hm hb port hv
 have e4:=xJ m.B0 v
 simp only[Q29,Q22,Q9v,Qee,Tree.m,letv,e1,e2,e3,e4]
 rcases ports (p:=port) with rfl|rfl|rfl|rfl|rfl|rfl|rfl|rfl|rfl|rfl|rfl|rfl|h|h
 all_goals first|rfl|skip
 . have n: ∀k:Int,0<=k->(port==k)=false:=λk hk=>beq_eq_false_iff_ne.2 (by omega)
   simp only[n 0 (by decide),n 1 (by decide),n 2 (by decide),n 3 (by decide),n 4 (by decide),n 5 (by decide),n 6 (by decide),n 7 (by decide),n 8 (by decide),n 9 (by decide),n 10 (by decide),n 11 (by decide),cond_false,decide_eq_true (show port<=2 by omega),cond_true]
 . have n: ∀k:Int,k<12->(port==k)=false:=λk hk=>beq_eq_false_iff_ne.2 (by omega)
   have c:Q60 m.A1 m.Mem port v=(m.A1,m.Mem):=by
     simp only[Q60,Q4e,Tree.m,n 10 (by decide),n 11 (by decide),cond_false]
   simp only[n 0 (by decide),n 1 (by decide),n 2 (by decide),n 3 (by decide),n 4 (by decide),n 5 (by decide),n 6 (by decide),n 7 (by decide),n 8 (by decide),n 9 (by decide),n 10 (by decide),n 11 (by decide),cond_false,decide_eq_false (show¬port<=2 by omega),decide_eq_false (show¬port<=6 by omega),decide_eq_false (show¬port<=9 by omega),c]
def tick(n:Q01)(c:Q02)(w h:Bool):Q01:={B2:=c,Mem:=n.Mem,A4:=n.A4,B0:=n.B0,B1:=n.B1,C4:=n.C4,A1:=n.A1,A3:=IntKind.wrap .u64 (n.A3+1),A6:=w,A9:=h}
def withX(m:Q01)(c:Q02)(mem:List Int):Q01:={B2:=c,Mem:=mem,A4:=m.A4,B0:=m.B0,B1:=m.B1,C4:=m.C4,A1:=m.A1,A3:=m.A3,A6:=false,A9:=m.A9}
def finP(n:Q01)(e:Q1)(clock at0:Int):Q01×List Q09:=
 bif e.B7==1 then
   (bif e.D8 !=0 then(tick (Q1b n e.C9 clock).1 {X:=A16.of 0 (List.set (A16.l (Q1b n e.C9 clock).1.B2.X) e.D8.toNat (Q1b n e.C9 clock).2),Pc:=(Q1b n e.C9 clock).1.B2.Pc,B4:=(Q1b n e.C9 clock).1.B2.B4} (Q1b n e.C9 clock).1.A6 (Q1b n e.C9 clock).1.A9,[])
   else(tick (Q1b n e.C9 clock).1 (Q1b n e.C9 clock).1.B2 (Q1b n e.C9 clock).1.A6 (Q1b n e.C9 clock).1.A9,[]))
 else bif e.B7==2 then(tick (Q29 n e.C9 e.Value at0).1 (Q29 n e.C9 e.Value at0).1.B2 (Q29 n e.C9 e.Value at0).1.A6 (Q29 n e.C9 e.Value at0).1.A9,(Q29 n e.C9 e.Value at0).2)
 else bif e.B7==3 then(tick n n.B2 true n.A9,[]) else bif e.B7==4 then(tick n n.B2 n.A6 true,[]) else(tick n n.B2 n.A6 n.A9,[])
def finR(n:Q01)(e:Q1)(clock:Int):List Q09×Q01:=
 bif e.B7==1 then([],tick (Qdb n e.C9 clock).2 (Q1q (Qdb n e.C9 clock).2.B2 e.D8 (Qdb n e.C9 clock).1) (Qdb n e.C9 clock).2.A6 (Qdb n e.C9 clock).2.A9)
 else bif e.B7==2 then((Q9v n e.C9 e.Value).1,tick (Q9v n e.C9 e.Value).2 (Q9v n e.C9 e.Value).2.B2 (Q9v n e.C9 e.Value).2.A6 (Q9v n e.C9 e.Value).2.A9)
 else bif e.B7==3 then([],tick n n.B2 true n.A9) else bif e.B7==4 then([],tick n n.B2 n.A6 true) else([],tick n n.B2 n.A6 n.A9)
theorem qaH(m:Q01)(clock:Int):Q0p m clock=finR (withX m (Q8g (Q0n m) m.Mem).1 (Q8g (Q0n m) m.Mem).2.2) (Q8g (Q0n m) m.Mem).2.1 clock:=by kernel_rfl
theorem qK(m:Q01)(clock:Int):Q4r m clock=bif !Q3w m then(m,[]) else finP {B2:=(Qa8 (Q18 m).B2 (Q18 m).Mem).1,Mem:=(Qa8 (Q18 m).B2 (Q18 m).Mem).2.1,A4:=(Q18 m).A4,B0:=(Q18 m).B0,B1:=(Q18 m).B1,C4:=(Q18 m).C4,A1:=(Q18 m).A1,A3:=(Q18 m).A3,A6:=(Q18 m).A6,A9:=(Q18 m).A9} (Qa8 (Q18 m).B2 (Q18 m).Mem).2.2 clock m.A3:=by kernel_rfl
theorem xak(m:List Int):Qqz m=m:=by
 simp [Qqz,Qe,Tree.m]
theorem Z5i(m:Q01):Qlc m=m:=by
 simp only[Qlc,Qca,Tree.m,letv,xak]
def Za9(m:Q01)(clock:Int):Q01×List Q09:=bif Q1u m then(m,[]) else((Q0p m clock).2,(Q0p m clock).1)
def Qj0(m:Q01)(e:Q08):Tree (Q01×Bool):=
 .an (Qez m) (.lv (Qlc m) λ(x0:Q01)=> .lv (Q6d x0) λ(x1:Bool)=> .br (!x1) (.lf (x0,false)) (.an (Qpa x0 e) (.lv (Q0x x0 e) λ(x2:Bool×Q01)=> .lf (x2.2,x2.1))))
def Qk2(m:Q01)(e:Q08):Q01×Bool:=(Qj0 m e).m
theorem Z6s(m:Q01)(clock:Int):Za9 m clock=bif Q1u m then(m,[]) else((Q0p m clock).2,(Q0p m clock).1):=rfl
theorem xK{P:Nat}{n:Q01}(hm:Q0y P n.Mem)(hb:okB n.A1){e:Q1}(hr:0<=e.D8/\e.D8<16)(hv:U e.Value)(clock:Int):finP n e clock n.A3=((finR n e clock).2,(finR n e clock).1):=by
 unfold finP finR
 rw[zak hb e.C9 clock,vJ hm hb e.C9 hv]
 cases e.B7==1
 . cases e.B7==2
   . cases e.B7==3
     . cases e.B7==4<;>rfl
     . rfl
   . rfl
 . generalize Qdb n e.C9 clock=r
   have s:=Qyd r.2.B2 hr r.1
   show(bif e.D8 !=0 then _ else _)=(tick r.2 (Q1q r.2.B2 e.D8 r.1) r.2.A6 r.2.A9,[])
   rw[<-s]
   simp only[Qao,Q8r,Tree.m]
   cases e.D8 !=0<;>rfl
theorem Zds{m:Q01}(h:okV m)(clock:Int):Q4r m clock=Za9 m clock:=by
 rw[qK,Z6s,Zbi h]
 cases hs:Q1u m
 . have hr:Q3w m=true:=by rw[Zbi h,hs];rfl
   obtain⟨hm,hh,hct⟩:=Zif hr
   obtain⟨g1,g2,g3,g4,g5⟩:=(Qzn m).1 hm
   rcases(Qzb m.Mem h.mem).2 with c|⟨P,hP,hmem⟩
   . exact absurd c g1
   have okm:okS P m:=⟨h.cpu,hmem,h.disk,h.nic,h.bal.1,h.bal.2⟩
   obtain⟨b1,b2,b3,_⟩:=(Tree.pp (Zb6 okm g2)).2
   change Q7b (Q18 m).B2 at b1
   change okS P (Q18 m) at b2
   change(Q18 m).Mem=m.Mem at b3
   have be:=Zki h g2.st
   have b1':Q7b (Q0n m):=by have:=b1;rw[be]at this;exact this
   have b2':Q2i (Q0n m):=by have:=b2.cpu;rw[be]at this;exact this
   have ex:=xi hmem b2' b1'.st
   have er:=(Tree.pp (Zhx b2' hmem)).2
   change 0<=(Qa8 (Q0n m) m.Mem).2.2.D8/\(Qa8 (Q0n m) m.Mem).2.2.D8<16 at er
   obtain⟨d1,d2,d3⟩:=(Tree.pp (do_w b2' hmem)).2
   change U (Q8g (Q0n m) m.Mem).2.1.Value at d2
   change Q0y P (Q8g (Q0n m) m.Mem).2.2 at d3
   rw[ex]at er
   rw[qaH,be]
   show finP {B2:=(Qa8 (Q0n m) m.Mem).1,Mem:=(Qa8 (Q0n m) m.Mem).2.1,A4:=m.A4,B0:=m.B0,B1:=m.B1,C4:=m.C4,A1:=m.A1,A3:=m.A3,A6:=false,A9:=m.A9} (Qa8 (Q0n m) m.Mem).2.2 clock m.A3=_
   rw[ex]
   exact xK (n:=withX m (Q8g (Q0n m) m.Mem).1 (Q8g (Q0n m) m.Mem).2.2) d3 h.bal er d2 clock
 . rfl
theorem Z4n{m:Q01}(h:okV m)(e:Q08):Q7q m e=Qk2 m e:=by
 have hcl:Q03 m.Mem=m.Mem:=rfl
 have mm:=Z71 h
 have t1:Qjq m.B0=Qsl m.B0:=rfl
 have t2: ∀b,Qn3 m.A4 b=Qsh m.A4 b:=λ_=>rfl
 simp only[Q7q,Q3u,Qk2,Qj0,Q0x,Q9g,Tree.m,letv,Z5i,hcl,t1,t2]
 rw[show Q1c {B2:=m.B2,Mem:=m.Mem,A4:=m.A4,B0:=m.B0,B1:=m.B1,C4:=m.C4,A1:=m.A1,A3:=m.A3,A6:=m.A6,A9:=m.A9}=Q6d m from mm]
 cases hM:Q6d m
 . rfl
 have hM':Q1c m=true:=mm.trans hM
 rcases(Qzb m.Mem h.mem).2 with c|⟨P,hP,hmem⟩
 . exact absurd c ((Qzn m).1 hM').1
 have cs:=Z95 hmem h.disk e
 have rs:=Zaw hmem h.nic e.C6
 clear mm hM hM' hcl h
 obtain⟨c,mem,con,ti,d,n,b,ct,w,hl⟩:=m
 cases hl
 . by_cases k2:e.B7=2
   . rw[k2];cases e.N==0<;>cases decide (e.C6=[])<;>rfl
   by_cases k3:e.B7=3
   . rw[k3];cases decide (e.N<=255)<;>cases decide (e.C6=[])<;>rfl
   by_cases k4:e.B7=4
   . rw[k4,cs];rfl
   by_cases k5:e.B7=5
   . rw[k5,rs];cases e.N==0<;>rfl
   by_cases k6:e.B7=6
   . rw[k6];cases decide (e.C6=[])<;>rfl
   . rw[show(e.B7==2)=false by simpa using k2,show(e.B7==3)=false by simpa using k3,show(e.B7==4)=false by simpa using k4,show(e.B7==5)=false by simpa using k5,show(e.B7==6)=false by simpa using k6]
     rfl
 . rfl
theorem qal{l acts:List Int}{x0:Bool}(hx0:x0=Qt9 l acts)(hb:(!x0)=false):l.length<=40/\acts.length<=30:=by
 have hb:x0=true:=by simpa using hb
 rw[hb]at hx0
 simp only[Qt9,Qtr,Tree.m]at hx0
 cases h1:decide ((l.length:Int)<=40)<;>rw[h1]at hx0
 . cases hx0
 . have:=of_decide_eq_true hx0.symm
   have:=of_decide_eq_true h1
   omega
section
variable {m:Q01} (h:okV m) (hl:m.Mem.length<=1024)
include h
include hl
omit h hl in
theorem zK{P:Nat}(h:okM P m){e:Q08}(he:U e.N):(Q9g m e).w (λx=>okM P x.2):=by
 have k:=h
 obtain⟨h1,h2,h3,h4,h5,h7⟩:=h
 unfold Q9g
 repeat'(first
   |exact k
   |exact⟨h1,h2,h3,h4,⟨he,h5.2⟩,h7⟩
   |exact w_lv λ_ _=>⟨h1,h2,h3,h4,h5,h7⟩
   |exact Q0e (v6 _ _) λ_ _=>⟨h1,h2,h3,h4,h5,h7⟩
   |exact Q0e (Zil h2 h3 _) λx hx=>⟨h1,hx.2,hx.1,h4,h5,h7⟩
   |exact Q0e (Zie h2 h4 _) λx hx=>⟨h1,hx.2,h3,hx.1,h5,h7⟩
   |refine w_br (λ_=> ?_) (λ_=> ?_))
end
def Tree.V{β:Type}(t:Tree β)(W:β->Prop):Prop:=W t.m
section
variable {α β:Type} {W:β->Prop} {c:Bool} {t e:Tree β}
theorem v_lf{x:β}(h:W x):Tree.V (.lf x) W:=h
theorem v_nx{f:Prop}{x:β}{hf:f}(h:W x):Tree.V (.nx f x hf) W:=h
theorem v_br(h:c=true->Tree.V t W)(g:c=false->Tree.V e W):Tree.V (.br c t e) W:=by
 cases c
 . exact g rfl
 . exact h rfl
theorem v_cn(g:Tree.V t W):Tree.V (.cn c t) W:=g
theorem v_an{p:Prop}(g:Tree.V t W):Tree.V (.an p t) W:=g
theorem v_lv{x:α}{k:α->Tree β}(h: ∀y,y=x->Tree.V (k y) W):Tree.V (.lv x k) W:=h x rfl
theorem v_lp{d:Inhabited β}{n:Nat}{f:Prop}{x:α}{k:α->Tree (α⊕β)}{hf:f}{inv:α->Prop}{μ:α->Nat}(h:inv x)(hn:μ x<n)(g: ∀y,inv y->Tree.V (k y) (Sum.elim (λz=>inv z/\μ z<μ y) W)):Tree.V (.lp d n f x k hf) W:=by
 refine xax (P:=inv) (R:=W) (μ:=μ) (λa ha=> ?_) n x h hn
 have:=g a ha
 unfold Tree.V at this
 revert this
 cases(k a).m with
 |inl z=>exact λh=>h
 |inr b=>exact λh=>h
end
def Z3v(r:Q00)(m:Q01):Q00:={A0:=m,A7:=r.A7,B9:=r.B9,A2:=r.A2}
theorem zaH(r:Q00)(port clock:Int):Qr9 r port clock=((Qdb r.A0 port clock).1,Z3v r (Qdb r.A0 port clock).2):=by
 simp only[Qr9,Qht,Qdb,Qkc,Tree.m,letv]
 cases decide (port<=1)<;>cases port==2<;>cases port==3<;>cases decide (port<=6)<;>cases decide (port<=9)<;>rfl
theorem zal(r:Q00)(port v:Int):Qo0 r port v=((Q9v r.A0 port v).1,Z3v r (Q9v r.A0 port v).2):=by
 simp only[Qo0,Qc6,Q9v,Qee,Tree.m,letv]
 cases port==0<;>cases decide (port<=2)<;>cases port==3<;>cases decide (port<=6)<;>cases decide (port<=9)<;>rfl
theorem xaH{r:Q00}{c:Bool}{x y:Bool×Q00}{x' y':Bool×Q01}(hx:x=(x'.1,Z3v r x'.2))(hy:y=(y'.1,Z3v r y'.2)):cond c x y=((cond c x' y').1,Z3v r (cond c x' y').2):=by cases c<;>assumption
theorem zj(r:Q00)(e:Q08):Qip r e=((Q0x r.A0 e).1,Z3v r (Q0x r.A0 e).2):=by
 simp only[Qip,Q85,Q0x,Q9g,Tree.m,letv]
 repeat'(first|rfl|refine xaH ?_ ?_)
theorem Z9j(r:Q00)(clock:Int):Q6r r clock=((Q0p r.A0 clock).1,Z3v r (Q0p r.A0 clock).2):=by
 simp only[Q6r,Q5t,Q0p,Q87,Tree.m,letv,zaH,zal,Z3v]
 cases(Q8g (Q0n r.A0) r.A0.Mem).2.1.B7==1<;>cases(Q8g (Q0n r.A0) r.A0.Mem).2.1.B7==2<;>cases(Q8g (Q0n r.A0) r.A0.Mem).2.1.B7==3<;>cases(Q8g (Q0n r.A0) r.A0.Mem).2.1.B7==4<;>rfl
def Q2p(r:Q00)(e:Q08):Q00:=
 bif(Q0x r.A0 e).1 then{A0:=(Q0x r.A0 e).2,A7:=r.A7,B9:=r.B9++[{At:=(Q0x r.A0 e).2.A3,D4:=e}],A2:=r.A2} else Z3v r (Q0x r.A0 e).2
theorem Zik(r:Q00)(e:Q08):Qi4 r e=Q2p r e:=by
 have a:Qge r e=((Q0x r.A0 e).1,Z3v r (Q0x r.A0 e).2):=by
   simp only[Qge,Q78,Tree.m,letv,zj]
 simp only[Qi4,Qa2,Tree.m,letv,a,Q2p]
 cases(Q0x r.A0 e).1<;>rfl
def Q6p(r:Q00):Q00:=bif Qbb r.A0.B0 r.A7 then Q2p r {B7:=2,N:=0,C6:=[]} else r
def Qwt(r:Q00):Q00:=bif Q2n r.A0 then{A0:=r.A0,A7:=r.A7,B9:=r.B9++[{At:=r.A0.A3,D4:={B7:=1,N:=r.A7,C6:=[]}}],A2:=r.A2} else r
def Qm7(r:Q00):Q00:={A0:=(Q0p r.A0 r.A7).2,A7:=IntKind.wrap .u32 (r.A7+1),B9:=(Qwt r).B9,A2:=r.A2}
def recF:Nat->Q00->List Q09->Q00×List Q09
 |0,r,o=>(r,o)
 |n+1,r,o=>bif Q1u (Q6p r).A0 then(Q6p r,o) else recF n (Qm7 (Q6p r)) (o++(Q0p (Q6p r).A0 (Q6p r).A7).1)
def noQ(r:Q00):Q00:={A0:=r.A0,A7:=r.A7,B9:=r.B9,A2:=[]}
def advF(r:Q00)(steps clock:Int):Q00×List Q09:=
 bif !Q6d r.A0 then(r,[]) else recF (Q0z steps).toNat (noQ (r.A2.foldl Q2p {A0:=r.A0,A7:=if clock>r.A7 then clock else r.A7,B9:=r.B9,A2:=r.A2})) []
theorem Qmb(r:Q00)(e:Q08):(Q2p r e).A2=r.A2:=by
 unfold Q2p;cases(Q0x r.A0 e).1<;>rfl
theorem Zhi(r:Q00):Qn8 r=r:=by
 simp only[Qn8,Qec,Tree.m,letv,Z5i]
theorem Qyh(r:Q00)(steps clock:Int)(hq:r.A2.length<=1000000):Qda r steps clock=advF r steps clock:=by
  show Tree.V (Q5h r steps clock) (λx=>x=advF r steps clock)
  obtain⟨lim0,lim⟩:=Qrw steps
  unfold Q5h
  refine v_an (v_lv λx0 e0=>v_lv λx1 e1=> ?_)
  rw[Zhi]at e0
  subst e0
  refine v_br (λhb=>v_lf ?_) λhb=> ?_
  . unfold advF;rw[<-e1,hb];rfl
  generalize hr0:({A0:=x0.A0,A7:=if clock>x0.A7 then clock else x0.A7,B9:=x0.B9,A2:=x0.A2}:Q00)=r0
  have hA:advF x0 steps clock=recF (Q0z steps).toNat (noQ (x0.A2.foldl Q2p r0)) []:=by
    unfold advF;rw[<-e1,hb,hr0];rfl
  have hQ:r0.A2=x0.A2:=by rw[<-hr0]
  refine v_lp (inv:=λz:Int×Q00=>0<=z.1/\z.1<=x0.A2.length/\z.2.A2=x0.A2/\(x0.A2.drop z.1.toNat).foldl Q2p z.2=x0.A2.foldl Q2p r0) (μ:=Qbq x0 steps clock) ⟨Int.le_refl 0,by show(0:Int)<=_;omega,hQ,rfl⟩ (Nat.lt_succ_self _) λz ⟨z0,z1,z2,z3⟩=> ?_
  refine v_br (λhb=> ?_) (λhb=> ?_)
  . have hb:=of_decide_eq_true hb
    rw[z2]at hb
    refine v_cn (v_an (v_lv λx2 e2=>v_nx ?_))
    have ew:IntKind.i64.wrap (z.1+1)=z.1+1:=by rw[IntKind.wrap_i64];omega
    rw[Zik]at e2
    have q2:x2.A2=x0.A2:=by rw[e2,Qmb,z2]
    have hlt:z.1.toNat<x0.A2.length:=by omega
    have ed:z.2.A2.getD z.1.toNat (RK.dflt RK.apiEvent)=x0.A2[z.1.toNat]:=by rw[z2,List.getD_eq_getElem?_getD,List.getElem?_eq_getElem hlt];rfl
    show(0<=IntKind.i64.wrap (z.1+1)/\IntKind.i64.wrap (z.1+1)<=x0.A2.length/\x2.A2=x0.A2/\(x0.A2.drop (IntKind.i64.wrap (z.1+1)).toNat).foldl Q2p x2=_)/\(x2.A2.length-IntKind.i64.wrap (z.1+1)).toNat<(z.2.A2.length-z.1).toNat
    rw[ew,q2,z2]
    refine⟨⟨by omega,by omega,rfl,?_⟩,by omega⟩
    rw[<-z3,List.drop_eq_getElem_cons hlt,List.foldl_cons,show(z.1+1).toNat=z.1.toNat+1 by omega,e2,ed]
  . have hb:=of_decide_eq_false hb
    rw[z2]at hb
    obtain⟨zi,zr⟩:=z
    have hb: ¬zi<x0.A2.length:=hb
    have ze:zr=x0.A2.foldl Q2p r0:=by
      rw[<-z3,List.drop_eq_nil_of_le (by show x0.A2.length<=zi.toNat;omega)];rfl
    rw[<-ze]at hA
    refine v_lp (inv:=λy:Int×Q00×List Q09=>0<=y.1/\y.1<=Q0z steps/\recF (Q0z steps-y.1).toNat y.2.1 y.2.2=advF x0 steps clock) (μ:=Q5d x0 steps clock (zi,zr)) ⟨Int.le_refl 0,by show(0:Int)<=_;omega,by rw[hA];show recF (Q0z steps-0).toNat _ _=_;rw[Int.sub_zero];rfl⟩ (Nat.lt_succ_self _) λy ⟨y0,y1,y2⟩=> ?_
    obtain⟨yi,yr,yo⟩:=y
    have mu: ∀q,yi<4000->Q5d x0 steps clock (zi,zr) (IntKind.wrap .i64 (yi+1),q)<Q5d x0 steps clock (zi,zr) (yi,yr,yo):=λq h=>by
      show(4000-IntKind.wrap .i64 (yi+1)).toNat<(4000-yi).toNat
      have y0:0<=yi:=y0
      rw[IntKind.wrap_i64];omega
    have y0:0<=yi:=y0
    refine v_lv λx3 e3=>v_br (λhb=> ?_) (λhb=> ?_)
    . have hb:yi<x3:=of_decide_eq_true hb
      rw[e3]at hb
      have mu:=λq=>mu q (by omega)
      have ew:IntKind.i64.wrap (yi+1)=yi+1:=by rw[IntKind.wrap_i64];omega
      have en:(Q0z steps-yi).toNat=(Q0z steps-(yi+1)).toNat+1:=by omega
      change recF (Q0z steps-yi).toNat yr yo=_ at y2
      rw[en]at y2
      refine v_lv λx4 e4=>v_br (λhd=>v_an (v_lv λx5 e5=> ?_)) (λhd=> ?_)
      . have e5:x5=Q6p yr:=by rw[e5,Zik];unfold Q6p;rw[<-e4,hd];rfl
        refine v_an (v_lv λx6 e6=>v_br (λhs=>v_lf ?_) λhs=>v_an (v_lv λx7 e7=>v_br (λhr=>v_cn (v_an (v_lv λx8 e8=>v_cn (v_nx ?_)))) λhr=>v_an (v_lv λx9 e9=>v_cn (v_nx ?_))))
        . show(_,yo)=_
          rw[<-y2];unfold recF
          rw[<-e5,<-e6,hs];rfl
        . rw[Z9j]at e8
          refine⟨⟨by show 0<=IntKind.wrap .i64 (yi+1);rw[ew];omega,by show IntKind.wrap .i64 (yi+1)<=_;rw[ew];omega,?_⟩,mu _⟩
          show recF (Q0z steps-IntKind.wrap .i64 (yi+1)).toNat _ _=_
          rw[ew,<-y2,e8]
          conv=>rhs;unfold recF
          rw[<-e5,<-e6,hs]
          unfold Qm7 Qwt
          rw[<-e7,hr];rfl
        . rw[Z9j]at e9
          refine⟨⟨by show 0<=IntKind.wrap .i64 (yi+1);rw[ew];omega,by show IntKind.wrap .i64 (yi+1)<=_;rw[ew];omega,?_⟩,mu _⟩
          show recF (Q0z steps-IntKind.wrap .i64 (yi+1)).toNat _ _=_
          rw[ew,<-y2,e9]
          conv=>rhs;unfold recF
          rw[<-e5,<-e6,hs]
          unfold Qm7 Qwt
          rw[<-e7,hr];rfl
      . have e5:yr=Q6p yr:=by
          have e4:x4=Qbb yr.A0.B0 yr.A7:=e4
          unfold Q6p;rw[<-e4,hd];rfl
        refine v_an (v_lv λx6 e6=>v_br (λhs=>v_lf ?_) λhs=>v_an (v_lv λx7 e7=>v_br (λhr=>v_cn (v_an (v_lv λx8 e8=>v_cn (v_nx ?_)))) λhr=>v_an (v_lv λx9 e9=>v_cn (v_nx ?_))))
        . show(_,yo)=_
          rw[<-y2];unfold recF
          rw[<-e5,<-e6,hs];rfl
        . rw[Z9j]at e8
          refine⟨⟨by show 0<=IntKind.wrap .i64 (yi+1);rw[ew];omega,by show IntKind.wrap .i64 (yi+1)<=_;rw[ew];omega,?_⟩,mu _⟩
          show recF (Q0z steps-IntKind.wrap .i64 (yi+1)).toNat _ _=_
          rw[ew,<-y2,e8]
          conv=>rhs;unfold recF
          rw[<-e5,<-e6,hs]
          unfold Qm7 Qwt
          rw[<-e7,hr];rfl
        . rw[Z9j]at e9
          refine⟨⟨by show 0<=IntKind.wrap .i64 (yi+1);rw[ew];omega,by show IntKind.wrap .i64 (yi+1)<=_;rw[ew];omega,?_⟩,mu _⟩
          show recF (Q0z steps-IntKind.wrap .i64 (yi+1)).toNat _ _=_
          rw[ew,<-y2,e9]
          conv=>rhs;unfold recF
          rw[<-e5,<-e6,hs]
          unfold Qm7 Qwt
          rw[<-e7,hr];rfl
    . have hb: ¬yi<x3:=of_decide_eq_false hb
      rw[e3]at hb
      refine v_lf ?_
      show(yr,yo)=_
      change recF (Q0z steps-yi).toNat yr yo=_ at y2
      rw[<-y2,show(Q0z steps-yi).toNat=0 by omega];rfl
structure good(P:Nat)(m:Q01):Prop where
 ok:okM P m
 may:Q1c m=true
section
variable {P:Nat} {m:Q01} (h:good P m)
include h
theorem good.v:okV m:=⟨h.ok.cpu,h.ok.mem.u,h.ok.disk,h.ok.nic,h.ok.target,h.ok.cnt⟩
theorem good.s:okS P m:=⟨h.ok.cpu,h.ok.mem,h.ok.disk,h.ok.nic,h.ok.target.1,h.ok.target.2⟩
theorem good.rmay:Q6d m=true:=(Z71 h.v).symm.trans h.may
theorem Zhn{e:Q08}(he:U e.N):good P (Q0x m e).2/\(Q0x m e).2.A3=m.A3:=by
 have o:okM P (Q0x m e).2:=Tree.post _ (zK h.ok he)
 have a:=(Tree.pp (yG h.ok he)).2
 change(Q1c m=true->Q1c (Q7q m e).1=true)/\(Q7q m e).1.A3=m.A3/\_ at a
 have e1:Qk2 m e=((Q0x m e).2,(Q0x m e).1):=by
   simp only[Qk2,Qj0,Tree.m,letv,Z5i,h.rmay];rfl
 rw[Z4n h.v e,e1]at a
 exact⟨⟨o,a.1 h.may⟩,a.2.1⟩
theorem Zee:Q1u m=false↔m.A9=false/\Qf5 m=false/\m.A3<1152921504606846976:=by
 simp only[Q1u,Q93,Tree.m,letv,h.rmay]
 cases m.A9<;>cases Qf5 m<;>simp
theorem Z91(hs:Q1u m=false){clock:Int}(hc:U clock):good P (Q0p m clock).2/\(Q0p m clock).2.A3=m.A3+1/\(Q0p m clock).1.length<=1:=by
 have o:=Tree.post _ (Z5g h.ok hc)
 change(Q0p m clock).1.length<=1/\okM P (Q0p m clock).2/\(Q0p m clock).2.A3=IntKind.wrap .u64 (m.A3+1) at o
 have s:=(Tree.pp (xaf h.s h.ok.cnt hc)).2
 change _/\Good P m (Q4r m clock).1 at s
 have e:Q4r m clock=((Q0p m clock).2,(Q0p m clock).1):=by rw[Zds h.v,Z6s,hs];rfl
 rw[e]at s
 have hct:=((Zee h).1 hs).2.2
 have h0:=h.ok.cnt
 refine⟨⟨o.2.1,s.2.may h.may⟩,?_,o.1⟩
 rw[o.2.2,IntKind.wrap_u64];omega
end
structure Qii(P:Nat)(k:Int)(r:Q00):Prop where
 m:good P r.A0
 clock:U r.A7
 cnt:r.A0.A3<=k
theorem Qq3{P:Nat}{k:Int}{r:Q00}(h:Qii P k r){e:Q08}(he:U e.N):Qii P k (Q2p r e)/\(Q2p r e).A0.A3=r.A0.A3:=by
 obtain⟨a,b⟩:=Zhn h.m he
 have hc:=h.cnt
 unfold Q2p
 cases(Q0x r.A0 e).1
 . exact⟨⟨a,h.clock,by show(Q0x r.A0 e).2.A3<=k;omega⟩,b⟩
 . exact⟨⟨a,h.clock,by show(Q0x r.A0 e).2.A3<=k;omega⟩,b⟩
theorem Z4z{P:Nat}{k:Int}{r:Q00}(h:Qii P k r):Qii P k (Q6p r)/\(Q6p r).A0.A3=r.A0.A3:=by
 unfold Q6p
 cases Qbb r.A0.B0 r.A7
 . exact⟨h,rfl⟩
 . exact Qq3 h U_0
theorem Z5w{P:Nat}{k:Int}{r:Q00}(h:Qii P k r)(hs:Q1u r.A0=false):Qii P (k+1) (Qm7 r):=by
 obtain⟨a,b,_⟩:=Z91 h.m hs h.clock
 have hc:=h.cnt
 exact⟨a,Q0o _,by show(Q0p r.A0 r.A7).2.A3<=k+1;omega⟩
theorem yj{P:Nat}(n:Nat): ∀{k:Int} {r:Q00} {o:List Q09},Qii P k r->Qii P (k+n) (recF n r o).1:=by
 induction n with
 |zero=>intro k r o h;exact⟨h.m,h.clock,by have:=h.cnt;show r.A0.A3<=k+(0:Nat);omega⟩
 | succ n ih=>
   intro k r o h
   obtain⟨f,fc⟩:=Z4z h
   unfold recF
   cases hs:Q1u (Q6p r).A0
   . have t:=ih (o:=o++(Q0p (Q6p r).A0 (Q6p r).A7).1) (Z5w f hs)
     exact⟨t.m,t.clock,by have:=t.cnt;show(recF n _ _).1.A0.A3<=_;omega⟩
   . exact⟨f.m,f.clock,by have:=f.cnt;show(Q6p r).A0.A3<=_;omega⟩
theorem Zkb{P:Nat}{k:Int}(l:List Q08): ∀{r:Q00},Qii P k r->(∀q∈l,U q.N)->Qii P k (l.foldl Q2p r)/\(l.foldl Q2p r).A2=r.A2:=by
 induction l with
 |nil=>intro r h _;exact⟨h,rfl⟩
 | cons e l ih=>
   intro r h hu
   obtain⟨a,b⟩:=ih (Qq3 h (hu e (by simp))).1 (λq hq=>hu q (by simp [hq]))
   exact⟨a,b.trans (Qmb r e)⟩
theorem Zkf(n:Nat): ∀(r:Q00) (o:List Q09),(recF n r o).1.A2=r.A2:=by
 induction n with
 |zero=>intro r o;rfl
 | succ n ih=>
   intro r o
   have f:(Q6p r).A2=r.A2:=by
     unfold Q6p;cases Qbb r.A0.B0 r.A7
     . rfl
     . exact Qmb _ _
   unfold recF
   cases Q1u (Q6p r).A0
   . exact(ih _ _).trans f
   . exact f
def okQ(l:List Q08):Prop:=l.length<=16/\ ∀q∈l,U q.N
theorem vj{P:Nat}{k:Int}{r:Q00}(h:Qii P k r)(hq:okQ r.A2)(steps:Int){clock:Int}(hc:U clock):Qii P (k+4000) (advF r steps clock).1/\okQ (advF r steps clock).1.A2:=by
 obtain⟨l0,l1⟩:=Qrw steps
 unfold advF
 rw[h.m.rmay]
 have hcl:U (if clock>r.A7 then clock else r.A7):=by split<;>first|exact hc|exact h.clock
 obtain⟨a,b⟩:=Zkb r.A2 (r:={A0:=r.A0,A7:=if clock>r.A7 then clock else r.A7,B9:=r.B9,A2:=r.A2}) ⟨h.m,hcl,h.cnt⟩ hq.2
 have c:=yj (Q0z steps).toNat (o:=[]) (r:=noQ (r.A2.foldl Q2p {A0:=r.A0,A7:=if clock>r.A7 then clock else r.A7,B9:=r.B9,A2:=r.A2})) ⟨a.m,a.clock,a.cnt⟩
 refine⟨⟨c.m,c.clock,?_⟩,?_⟩
 . have:=c.cnt
   show(recF _ _ _).1.A0.A3<=_
   omega
 . show okQ (recF _ _ _).1.A2
   rw[Zkf];exact⟨Nat.zero_le _,λq hq=>by cases hq⟩
theorem qk(n:Int):U (Qab n).N:=Tree.post _ (zv n)
theorem Qmv(r:Q00)(e:Q08):Q1w r e=bif !Q3 e then(r,false) else bif e.B7==1 then(r,false) else bif decide ((r.A2.length:Int)>=16) then(r,false) else({A0:=r.A0,A7:=r.A7,B9:=r.B9,A2:=r.A2++[e]},true):=by
 simp only[Q1w,Q8d,Tree.m,letv,Zhi]
theorem Zfe{P:Nat}{k:Int}{r:Q00}(h:Qii P k r)(hq:okQ r.A2){e:Q08}(he:U e.N):Qii P k (Q1w r e).1/\okQ (Q1w r e).1.A2:=by
  rw[Qmv]
  cases Q3 e
  . exact⟨h,hq⟩
  . cases e.B7==1
    . cases hl:decide ((r.A2.length:Int)>=16)
      . have hl:=of_decide_eq_false hl
        refine⟨⟨h.m,h.clock,h.cnt⟩,?_,λq hm=> ?_⟩
        . show(r.A2++[e]).length<=16
          rw[List.length_append,List.length_singleton];omega
        . have hm:q∈r.A2++[e]:=hm
          rcases List.mem_append.1 hm with hm|hm
          . exact hq.2 q hm
          . rw[List.mem_singleton.1 hm];exact he
      . exact⟨h,hq⟩
    . exact⟨h,hq⟩
theorem Qy6{r:Q00}{n:Int}(h:(Int.tmod (Q4o n 3) 3==0)=true):Q1n r n=((Q1w r (Qab n)).1,[]):=by
 show Tree.V (Q7o r n) (λx=>x=((Q1w r (Qab n)).1,[]))
 unfold Q7o
 refine v_lv λx0 e0=>v_br (λ_=>v_an (v_lv λx1 e1=>v_an (v_lv λx2 e2=>v_lf ?_))) (λhb=> ?_)
 . rw[e2,e1]
 . rw[e0,h]at hb;cases hb
theorem Qym{r:Q00}{n:Int}(h:(Int.tmod (Q4o n 3) 3==0)=false):Q1n r n=Qda r (Q48 (ishr .i64 (Q4o n 3) 4) 12) (IntKind.wrap .u32 (iand .i64 (ishr .i64 (Q4o n 3) 12) 255)):=by
 show Tree.V (Q7o r n) (λx=>x=Qda r (Q48 (ishr .i64 (Q4o n 3) 4) 12) (IntKind.wrap .u32 (iand .i64 (ishr .i64 (Q4o n 3) 12) 255)))
 unfold Q7o
 refine v_lv λx0 e0=>v_br (λhb=> ?_) (λ_=>v_an (v_lv λx1 e1=>v_an (v_lv λx2 e2=>v_lf ?_)))
 . rw[e0,h]at hb;cases hb
 . rw[e2,e1,e0]
def Qkd(s:Q00×List Q09)(n:Int):Q00×List Q09:=((Q1n s.1 n).1,s.2++(Q1n s.1 n).2)
theorem xal(m:Q01)(l:List Int)(hl:l.length<=1000000):Z1g m l=l.foldl Qkd (Q3f m,[]):=by
 show Tree.V (Qbz m l) (λx=>x=l.foldl Qkd (Q3f m,[]))
 unfold Qbz
 refine v_an (v_lv λx0 e0=> ?_)
 subst e0
 refine v_lp (inv:=λz:Int×Q00×List Q09=>0<=z.1/\z.1<=l.length/\(l.drop z.1.toNat).foldl Qkd z.2=l.foldl Qkd (Q3f m,[])) (μ:=Qhh m l) ⟨Int.le_refl 0,by show(0:Int)<=_;omega,rfl⟩ (Nat.lt_succ_self _) λz ⟨z0,z1,z2⟩=> ?_
 obtain⟨i,r,o⟩:=z
 have z0:0<=i:=z0
 have z1:i<=l.length:=z1
 refine v_br (λhb=>v_cn (v_an (v_lv λx1 e1=>v_cn (v_nx ?_)))) (λhb=>v_lf ?_)
 . have hb:i<l.length:=of_decide_eq_true hb
   have ew:IntKind.i64.wrap (i+1)=i+1:=by rw[IntKind.wrap_i64];omega
   have hlt:i.toNat<l.length:=by omega
   show(0<=IntKind.i64.wrap (i+1)/\IntKind.i64.wrap (i+1)<=l.length/\(l.drop (IntKind.i64.wrap (i+1)).toNat).foldl Qkd (x1.1,o++x1.2)=_)/\(l.length-IntKind.i64.wrap (i+1)).toNat<(l.length-i).toNat
   rw[ew]
   refine⟨⟨by omega,by omega,?_⟩,by omega⟩
   rw[<-z2]
   show _=(l.drop i.toNat).foldl Qkd (r,o)
   rw[List.drop_eq_getElem_cons hlt,List.foldl_cons,show(i+1).toNat=i.toNat+1 by omega,e1]
   have ed:l.getD i.toNat 0=l[i.toNat]:=by rw[List.getD_eq_getElem?_getD,List.getElem?_eq_getElem hlt];rfl
   rw[show Qkd (r,o) l[i.toNat]=((Q1n r l[i.toNat]).1,o++(Q1n r l[i.toNat]).2) from by unfold Qkd;rfl,<-ed]
 . have hb: ¬i<l.length:=of_decide_eq_false hb
   show(r,o)=_
   rw[<-z2]
   show _=(l.drop i.toNat).foldl Qkd (r,o)
   rw[List.drop_eq_nil_of_le (by omega)];rfl
theorem xk(s:Q00×List Q09)(n:Int):Qkd s n=((Q1n s.1 n).1,s.2++(Q1n s.1 n).2):=by unfold Qkd;rfl
theorem zk(m:Q01):Q3f m={A0:=m,A7:=0,B9:=[],A2:=[]}:=by
 simp only[Q3f,Q3k,Tree.m,letv,Z5i]
theorem Zjd{i:List Int}(hu: ∀w∈i,U w)(hl:i.length<=256):good 8 (Q1r 8 4 i).1/\(Q1r 8 4 i).1.A3=0:=by
 obtain⟨a,b⟩:=(Tree.pp (new_w i hu hl)).2
 change okM 8 (Q1r 8 4 i).1 at a
 refine⟨⟨a,?_⟩,b⟩
 have e:(Q1r 8 4 i).2=true:=by
   have w:IntKind.i64.wrap (8*32)=256:=by decide
   simp only[Q1r,Q83,Tree.m,w,letv,decide_eq_false (show¬((i.length:Int)>256) by omega)]
   rfl
 obtain⟨a1,a2,a3,a4,a5,a6⟩:=xaL 8 4 i e
 exact(qaM _ 8 4 a1 a2 a3 a4 a5 _ a6).1
theorem yk{m:Q01}(h:good 8 m)(hc:m.A3<=87):Tree.V (Q9k m [] 87) (λx=>x.2.2.2=0->good 8 x.1/\x.1.A3<=87):=by
 have z: ∀{k:Int} {p:Prop},k≠0->k=0->p:=λa b=>absurd b a
 unfold Q9k
 refine v_lv λx0 _=>v_br (λ_=>v_lf (z (by decide))) λ_=>v_br (λ_=>v_lf (z (by decide))) λ_=>v_br (λ_=>v_lf (z (by decide))) λ_=>v_an (v_lv λx1 _=>v_br (λ_=>v_lf (z (by decide))) λ_=>v_an (v_lv λx2 hx=> ?_))
 rw[Z5i]at hx
 refine v_lp (inv:=λv:Q01×List Q09=>good 8 v.1/\v.1.A3<=87) (μ:=Qfl m [] 87) ⟨by rw[hx];exact h,by rw[hx];exact hc⟩ (Nat.lt_succ_self _) λv0 ⟨a1,a3⟩=> ?_
 have a2:=a1.ok.cnt
 refine v_br (λhb=>v_br (λhm=> ?_) (λ_=>v_lf λ_=>⟨a1,a3⟩)) (λ_=>v_lf λ_=>⟨a1,a3⟩)
 have hb:=of_decide_eq_true hb
 have hm:=of_decide_eq_true hm
 refine v_lp (inv:=λ_=>True) (μ:=Qfy m [] 87 v0) trivial (Nat.lt_succ_self _) λv1 _=> ?_
 refine v_br (λ_=>v_lf λ_=>⟨a1,a3⟩) λhh=>v_an (v_lv λx3 h3=>v_br (λ_=>v_lf λ_=>⟨a1,a3⟩) λhi=>v_an (v_lv λx4 _=>v_br (λ_=>v_lf (z (by decide))) λ_=>v_an (v_lv λx5 h5=>v_cn (v_nx ?_))))
 obtain⟨b1,b2,_⟩:=Z91 a1 ((Zee a1).2 ⟨hh,h3.symm.trans hi,hm⟩) (clock:=0) U_0
 rw[<-h5]at b1 b2
 show(good 8 x5.2/\x5.2.A3<=87)/\(87-x5.2.A3).toNat<(87-v0.1.A3).toNat
 exact⟨⟨b1,by omega⟩,by omega⟩
theorem Zed(kind:Int)(l:List Int)(hl:l.length*8<=reachBytes)(h40:l.length<=40):good 8 (Qiu kind l)/\(Qiu kind l).A3<=87:=by
  show Tree.V (Q6j kind l) (λm=>good 8 m/\m.A3<=87)
  have code:=(Tree.pp (yc l hl)).2
  change((Qmd l).length:Int)=l.length/\ ∀w∈Qmd l,U w at code
  obtain⟨b1,b2⟩:=code
  unfold Q6j
  refine v_an (v_lv λx0 hx0=>v_br (λ_=>v_an (v_lv λx1 e1=> ?_)) (λhk=> ?_))
  . have eb:x1.1=boot:=by rw[e1];rfl
    obtain⟨q1,q2⟩:boot.length<=160/\ ∀w∈boot,U w:=yd
    refine v_lp (inv:=λv:List Int=>v.length<=160/\v=boot++List.replicate (v.length-boot.length) 0) (μ:=Qcl kind l) ⟨by rw[eb];exact q1,by rw[eb];simp⟩ (Nat.lt_succ_self _) λv0 ⟨a1,a2⟩=> ?_
    have a3:boot.length<=v0.length:=by rw[a2,List.length_append];omega
    refine v_br (λhb=> ?_) (λhb=> ?_)
    . have hb:=of_decide_eq_true hb
      refine v_cn (v_nx ?_)
      show(_/\_)/\(_:Nat)<_
      refine⟨⟨by rw[List.length_append,List.length_singleton];omega,?_⟩,by show 160-(v0++[0]).length<160-v0.length;rw[List.length_append,List.length_singleton];omega⟩
      show v0++[0]=boot++List.replicate ((v0++[0]).length-boot.length) 0
      rw[List.length_append,List.length_singleton,show v0.length+1-boot.length=(v0.length-boot.length)+1 by omega,List.replicate_succ',<-List.append_assoc,<-a2]
    . have hb:=of_decide_eq_false hb
      have hv:v0=Qj2:=by
        unfold Qj2
        rw[show(160:Nat)=v0.length by omega]
        exact a2
      subst hv
      have hp:=qae
      have hu0: ∀w∈Qj2,U w:=λw hw=>(List.mem_append.1 hw).elim (q2 w) (U_all _ w)
      refine v_an (v_lv λx2 e2=>v_cn ?_)
      rw[<-e2]at b1 b2
      have hu: ∀w∈Qj2++x2,U w:=λw hw=>(List.mem_append.1 hw).elim (hu0 w) (b2 w)
      have hlen:(Qj2++x2).length<=256:=by rw[List.length_append];omega
      refine v_br (λhb=> ?_) (λhb=> ?_)
      . have hb:=of_decide_eq_true hb;omega
      . obtain⟨c1,c2⟩:=Zjd hu hlen
        refine v_an (v_lv λx3 h3=> ?_)
        rw[<-h3]at c1 c2
        have rn:=yk c1 (by omega)
        refine v_br (λ_=>v_an (v_lv λx4 hx=>v_lf ?_)) (λ_=>v_lf ⟨c1,by omega⟩)
        have e:x3=Q1r 8 4 (Qj2++(x2++List.replicate (96-x2.length) 0)):=by
          rw[h3]
          have hl2:(x2++List.replicate (96-x2.length) (0:Int)).length=96:=by rw[List.length_append,List.length_replicate];omega
          refine xad _ _ hlen (by rw[List.length_append,hl2];omega) ?_
          rw[List.length_append,List.length_append,hl2,hp,List.append_assoc,List.append_assoc,List.append_assoc,show 256-(160+96)=0 by omega,show 256-(160+x2.length)=96-x2.length by omega]
          simp
        have h0:x4.2.2.2=0:=by
          rw[hx,e]
          exact zaC _ (by rw[List.length_append,List.length_replicate];omega)
        exact(by rw[hx];exact rn:x4.2.2.2=0->good 8 x4.1/\x4.1.A3<=87) h0
  . have hk:=of_decide_eq_false hk
    refine v_an (v_lv λx2 e2=>v_cn ?_)
    rw[<-e2]at b1 b2
    refine v_br (λhb=> ?_) (λhb=> ?_)
    . have hb:=of_decide_eq_true hb;omega
    . obtain⟨c1,c2⟩:=Zjd b2 (by omega)
      refine v_an (v_lv λx3 h3=> ?_)
      rw[<-h3]at c1 c2
      exact v_br (λh=>absurd (eq_of_beq h) (by omega)) (λ_=>v_lf ⟨c1,by omega⟩)
set_option synthInstance.maxHeartbeats 2000000
set_option synthInstance.maxSize 100000
noncomputable section
instance Qxi (s:(List Int)):Ck (Q07 s):=let d:Decidable (Q07 s):=(by delta Q07;infer_instance);⟨@decide _ d,@of_decide_eq_true _ d⟩
instance Zmf (m:(List Int)) (addr:Int) (size:Int):Ck (Qa6 m addr size):=ckT (t:=Q30 m addr size) (by delta Q30;infer_instance)
instance yW (n:Int):Ck (Qga n):=ckT (t:=Qbw n) (by delta Qbw;infer_instance)
instance yK (w:Int) (low:Int) (n:Int):Ck (Q50 w low n):=ckT (t:=Q8p w low n) (by delta Q8p;infer_instance)
instance Zmg (w:Int) (low:Int) (n:Int) (v:Int):Ck (Qe1 w low n v):=ckT (t:=Q5c w low n v) (by delta Q5c;infer_instance)
instance vk (m:(List Int)) (addr:Int) (size:Int) (v:Int):Ck (Q7z m addr size v):=ckT (t:=Q4t m addr size v) (by delta Q4t;infer_instance)
instance Ziu (x:Int) (n:Int):Ck (Q7j x n):=ckT (t:=Q3e x n) (by delta Q3e;infer_instance)
instance vK (w:Int):Ck (Qjd w):=ckT (t:=Q7d w) (by delta Q7d;infer_instance)
instance qB (a:Int) (b:Int):Ck (Qdc a b):=ckT (t:=Q62 a b) (by delta Q62;infer_instance)
instance xaA (op:Int) (a:Int) (b:Int):Ck (Qks op a b):=ckT (t:=Qgv op a b) (by delta Qgv;infer_instance)
instance xB (m:(List Int)) (addr:Int) (size:Int):Ck (Q32 m addr size):=ckT (t:=Q6c m addr size) (by delta Q6c;infer_instance)
instance Zk (pte:Int):Ck (Q8h pte):=ckT (t:=Q4d pte) (by delta Q4d;infer_instance)
instance zB (m:(List Int)) (root:Int) (va:Int) (access:Int):Ck (Qde m root va access):=ckT (t:=Q6 m root va access) (by delta Q6;infer_instance)
instance ql (m:(List Int)) (entry:Int) (access:Int):Ck (Qba m entry access):=ckT (t:=Q4z m entry access) (by delta Q4z;infer_instance)
instance yB (c:Q02) (m:(List Int)) (va:Int) (size:Int) (access:Int):Ck (Q98 c m va size access):=ckT (t:=Q67 c m va size access) (by delta Q67;infer_instance)
instance vW (c:Q02) (m:(List Int)):Ck (Qlb c m):=ckT (t:=Qc1 c m) (by delta Qc1;infer_instance)
instance qaB (c:Q02) (register:Int) (v:Int):Ck (Q6s c register v):=ckT (t:=Q8r c register v) (by delta Q8r;infer_instance)
instance qam (c:Q02) (m:(List Int)) (i:Q0i):Ck (Qn0 c m i):=ckT (t:=Qa1 c m i) (by delta Qa1;infer_instance)
instance qX (c:Q02) (m:(List Int)) (i:Q0i):Ck (Ql7 c m i):=ckT (t:=Q7e c m i) (by delta Q7e;infer_instance)
instance xX (c:Q02) (csr:Int) (v:Int):Ck (Qko c csr v):=ckT (t:=Q7u c csr v) (by delta Q7u;infer_instance)
instance vB (c:Q02) (i:Q0i):Ck (Qhx c i):=ckT (t:=Q35 c i) (by delta Q35;infer_instance)
instance zam (c:Q02) (m:(List Int)):Ck (Qj1 c m):=ckT (t:=Q70 c m) (by delta Q70;infer_instance)
instance Zix (x:Int):Ck (Qbt x):=ckT (t:=Q1o x) (by delta Q1o;infer_instance)
instance qC (b:Q05) (pages:Int):Ck (Qd7 b pages):=ckT (t:=Q3s b pages) (by delta Q3s;infer_instance)
instance Zcp (m:Q01):Ck (Q2j m):=ckT (t:=Q1m m) (by delta Q1m;infer_instance)
instance xC (m:Q01):Ck (Q53 m):=ckT (t:=Q4m m) (by delta Q4m;infer_instance)
instance Z5q (x:Int):Ck (Q6n x):=ckT (t:=Q1x x) (by delta Q1x;infer_instance)
instance Zmc (b:Q05):Ck (Qa b):=ckT (t:=Q56 b) (by delta Q56;infer_instance)
instance Zj3 (b:Q05):Ck (Qbr b):=ckT (t:=Q2r b) (by delta Q2r;infer_instance)
instance Zma (m:Q01):Ck (Qe3 m):=ckT (t:=Q42 m) (by delta Q42;infer_instance)
instance Zhs (m:Q01):Ck (Q7v m):=ckT (t:=Q2s m) (by delta Q2s;infer_instance)
instance xl (m:Q01):Ck (Q80 m):=ckT (t:=Q4u m) (by delta Q4u;infer_instance)
instance zl (m:Q01):Ck (Qbe m):=ckT (t:=Q3q m) (by delta Q3q;infer_instance)
instance Zmh (m:Q01):Ck (Q9x m):=ckT (t:=Q3z m) (by delta Q3z;infer_instance)
instance qL (b:Q05) (port:Int):Ck (Qjc b port):=ckT (t:=Q7a b port) (by delta Q7a;infer_instance)
instance Zf0 (m:Q01) (port:Int) (clock:Int):Ck (Qau m port clock):=ckT (t:=Q2h m port clock) (by delta Q2h;infer_instance)
instance zC (words:(List Int)):Ck (Q5j words):=let d:Decidable (Q5j words):=(by delta Q5j;infer_instance);⟨@decide _ d,@of_decide_eq_true _ d⟩
instance yC (m:(List Int)) (frame:Int):Ck (Q9p m frame):=ckT (t:=Q3r m frame) (by delta Q3r;infer_instance)
instance xL (d0:Q0d) (m:(List Int)) (cmd:Int) (at0:Int):Ck (Qj8 d0 m cmd at0):=ckT (t:=Q7c d0 m cmd at0) (by delta Q7c;infer_instance)
instance xam (d0:Q0d) (m:(List Int)) (port:Int) (v:Int) (at0:Int):Ck (Qmc d0 m port v at0):=ckT (t:=Qc2 d0 m port v at0) (by delta Qc2;infer_instance)
instance qan (n:Q0l) (m:(List Int)) (at0:Int):Ck (Qn1 n m at0):=ckT (t:=Qcb n m at0) (by delta Qcb;infer_instance)
instance zaB (n:Q0l) (m:(List Int)) (port:Int) (v:Int) (at0:Int):Ck (Qq1 n m port v at0):=ckT (t:=Qf8 n m port v at0) (by delta Qf8;infer_instance)
instance Zlu (m:(List Int)) (frame:Int) (s:(List UInt8)):Ck (Q5y m frame s):=ckT (t:=Q28 m frame s) (by delta Q28;infer_instance)
instance Zlw (s:(List UInt8)) (count:Int):Ck (Q4a s count):=let d:Decidable (Q4a s count):=(by delta Q4a;infer_instance);⟨@decide _ d,@of_decide_eq_true _ d⟩
instance vC (b:Q05) (m:(List Int)) (port:Int) (v:Int):Ck (Qi3 b m port v):=ckT (t:=Q2o b m port v) (by delta Q2o;infer_instance)
instance Zek (m:Q01) (port:Int) (v:Int) (at0:Int):Ck (Q9j m port v at0):=ckT (t:=Q22 m port v at0) (by delta Q22;infer_instance)
instance yl (m:Q01) (clock:Int):Ck (Q5q m clock):=ckT (t:=Q6i m clock) (by delta Q6i;infer_instance)
instance zL (n:Int) (k:Int):Ck (Q2z n k):=ckT (t:=Qfi n k) (by delta Qfi;infer_instance)
instance zX (n:Int):Ck (Qcy n):=ckT (t:=Qdy n) (by delta Qdy;infer_instance)
instance yX (l:(List Int)):Ck (Qg9 l):=ckT (t:=Qbv l) (by delta Qbv;infer_instance)
instance zan (pages:Int):Ck (Qfc pages):=ckT (t:=Qdl pages) (by delta Qdl;infer_instance)
instance xan (pages:Int) (blocks:Int) (image:(List Int)):Ck (Q9c pages blocks image):=ckT (t:=Q83 pages blocks image) (by delta Q83;infer_instance)
instance Zjw (a:(List Int)) (b:(List Int)):Ck (Q8i a b):=let d:Decidable (Q8i a b):=(by delta Q8i;infer_instance);⟨@decide _ d,@of_decide_eq_true _ d⟩
instance vX (a:Q01) (b:Q01):Ck (Z88 a b):=ckT (t:=Qpr a b) (by delta Qpr;infer_instance)
instance Zbw (m:Q01):Ck (Q5l m):=ckT (t:=Q4g m) (by delta Q4g;infer_instance)
instance vl (c:Q0b) (b:Int):Ck (Qfn c b):=ckT (t:=Q6k c b) (by delta Q6k;infer_instance)
instance Zmd (d0:Q0d) (m:(List Int)) (e:Q08):Ck (Qea d0 m e):=ckT (t:=Q44 d0 m e) (by delta Q44;infer_instance)
instance qD (n:Q0l) (m:(List Int)) (frame:(List UInt8)):Ck (Qi7 n m frame):=ckT (t:=Q5z n m frame) (by delta Q5z;infer_instance)
instance Zm8 (m:Q01) (e:Q08):Ck (Qdt m e):=ckT (t:=Q3u m e) (by delta Q3u;infer_instance)
instance Qpq (s:(List Q0j)):Ck (Q0w s):=let d:Decidable (Q0w s):=(by delta Q0w;infer_instance);⟨@decide _ d,@of_decide_eq_true _ d⟩
instance Qqa (s:(List Q08)):Ck (Q0u s):=let d:Decidable (Q0u s):=(by delta Q0u;infer_instance);⟨@decide _ d,@of_decide_eq_true _ d⟩
instance Zm9 (r:Q00):Ck (Q3n r):=ckT (t:=Q54 r) (by delta Q54;infer_instance)
instance yL (m:Q01):Ck (Qeh m):=ckT (t:=Q8s m) (by delta Q8s;infer_instance)
instance Zme (r:Q00) (e:Q08):Ck (Qa9 r e):=ckT (t:=Q8w r e) (by delta Q8w;infer_instance)
instance vL (r:Q00):Ck (Qb0 r):=ckT (t:=Q91 r) (by delta Q91;infer_instance)
instance Zgt (e:Q08) (fr0:Q00):Ck (Q6z e fr0):=ckT (t:=Q6g e fr0) (by delta Q6g;infer_instance)
instance Zel (e:Q08) (fr0:Q00):Ck (Q9n e fr0):=ckT (t:=Q55 e fr0) (by delta Q55;infer_instance)
instance Zga (e:Q08) (fr0:Q00):Ck (Q6y e fr0):=ckT (t:=Q61 e fr0) (by delta Q61;infer_instance)
instance Zl5 (r:Q00) (steps:Int) (clock:Int):Ck (Qcj r steps clock):=ckT (t:=Q81 r steps clock) (by delta Q81;infer_instance)
theorem qm:Q74:=ck (ckT (t:=Qcz) (by delta Qcz;infer_instance)) (by kernel_rfl)
theorem Zld:Qdk=true:=by kernel_rfl
end
theorem Zdo(r:Q00):Qa3 r=r:=rfl
theorem Z4i{r:Q00}(hm:r.A0.Mem.length<=1024)(hl:r.B9.length<=1000000)(hq:r.A2.length<=1000000):Q3n r:=by
 show(Q54 r).p
 unfold Tree.p Q54
 exact w_an (by show r.A0.Mem.length<=35184372088832;omega) (w_lv λ_ _=>w_an (by show r.B9.length<=3518437208883;omega) (w_lv λ_ _=>w_an (by show r.A2.length<=3518437208883;omega) (w_lv λ_ _=>trivial)))
section
variable {P:Nat} {m:Q01} (h:good P m)
include h
theorem good.len:m.Mem.length<=1024:=by have:=h.ok.mem.len;have:=h.ok.mem.p2;omega
theorem good.app(e:Q08):Q7q m e=((Q0x m e).2,(Q0x m e).1):=by
 rw[Z4n h.v]
 simp only[Qk2,Qj0,Tree.m,letv,Z5i,h.rmay];rfl
theorem good.step(hs:Q1u m=false)(clock:Int):Q4r m clock=((Q0p m clock).2,(Q0p m clock).1):=by
 rw[Zds h.v,Z6s,hs];rfl
end
theorem Z6m(r:Q00)(e:Q08):(Q2p r e).B9.length<=r.B9.length+1:=by
 unfold Q2p
 cases(Q0x r.A0 e).1
 . exact Nat.le_succ _
 . show(r.B9++[_]).length<=_
   rw[List.length_append,List.length_singleton];omega
theorem xm(r:Q00):(Q6p r).B9.length<=r.B9.length+1:=by
 unfold Q6p
 cases Qbb r.A0.B0 r.A7
 . exact Nat.le_succ _
 . exact Z6m _ _
theorem zm(r:Q00):(Qwt r).B9.length<=r.B9.length+1:=by
 unfold Qwt
 cases Q2n r.A0
 . exact Nat.le_succ _
 . show(r.B9++[_]).length<=_
   rw[List.length_append,List.length_singleton];omega
theorem ym{r:Q00}(hr:Q2n r.A0=true):Qm7 r={A0:=(Q0p r.A0 r.A7).2,A7:=IntKind.wrap .u32 (r.A7+1),B9:=r.B9++[{At:=r.A0.A3,D4:={B7:=1,N:=r.A7,C6:=[]}}],A2:=r.A2}:=by
 unfold Qm7 Qwt;rw[hr];rfl
theorem qao{r:Q00}(hr:Q2n r.A0=false):Qm7 r={A0:=(Q0p r.A0 r.A7).2,A7:=IntKind.wrap .u32 (r.A7+1),B9:=r.B9,A2:=r.A2}:=by
 unfold Qm7 Qwt;rw[hr];rfl
theorem vm(r:Q00):(Qm7 r).B9.length<=r.B9.length+1:=zm r
def Zid:Q08:={B7:=2,N:=0,C6:=[]}
theorem Qs3(r:Q00):Q6p r=bif Qbb r.A0.B0 r.A7 then Q2p r Zid else r:=rfl
theorem Z9y{n:Nat}{r:Q00}{o:List Q09}(hs:Q1u (Q6p r).A0=true):recF (n+1) r o=(Q6p r,o):=by
 conv=>lhs;unfold recF
 rw[hs];rfl
theorem Z7j{n:Nat}{r:Q00}{o:List Q09}(hs:Q1u (Q6p r).A0=false):recF (n+1) r o=recF n (Qm7 (Q6p r)) (o++(Q0p (Q6p r).A0 (Q6p r).A7).1):=by
 conv=>lhs;unfold recF
 rw[hs];rfl
theorem qn{r:Q00}(h:Q6d r.A0=true)(steps clock:Int):advF r steps clock=recF (Q0z steps).toNat (noQ (r.A2.foldl Q2p {A0:=r.A0,A7:=if clock>r.A7 then clock else r.A7,B9:=r.B9,A2:=r.A2})) []:=by
 unfold advF;rw[h];rfl
theorem Zke{s:Int}(h0:0<=s)(h1:s<=4000):Q0z s=s:=by
 have:Q0z s=(if 4000<(if 0>s then 0 else s) then 4000 else(if 0>s then 0 else s)):=rfl
 rw[this,if_neg (show¬0>s by omega),if_neg (show¬4000<s by omega)]
def preL(L:List Q0j)(r:Q00):Q00:={A0:=r.A0,A7:=r.A7,B9:=L++r.B9,A2:=r.A2}
theorem Z69(L:List Q0j)(r:Q00)(e:Q08):Q2p (preL L r) e=preL L (Q2p r e):=by
 unfold Q2p
 show(bif(Q0x r.A0 e).1 then _ else _)=_
 cases(Q0x r.A0 e).1
 . rfl
 . show(⟨_,_,(L++r.B9)++_,_⟩:Q00)=⟨_,_,L++(r.B9++_),_⟩
   rw[List.append_assoc];rfl
theorem xn(L:List Q0j)(r:Q00):Q6p (preL L r)=preL L (Q6p r):=by
 rw[Qs3,Qs3]
 show(bif Qbb r.A0.B0 r.A7 then _ else _)=_
 cases Qbb r.A0.B0 r.A7
 . rfl
 . exact Z69 _ _ _
theorem zn(L:List Q0j)(r:Q00):(Qwt (preL L r)).B9=L++(Qwt r).B9:=by
 unfold Qwt
 show Q00.B9 (bif Q2n r.A0 then _ else _)=_
 cases Q2n r.A0
 . rfl
 . show(L++r.B9)++_=L++(r.B9++_)
   rw[List.append_assoc];rfl
theorem yn(L:List Q0j)(r:Q00):Qm7 (preL L r)=preL L (Qm7 r):=by
 unfold Qm7
 rw[zn];rfl
theorem qM(L:List Q0j)(n:Nat): ∀(r:Q00) (o:List Q09),recF n (preL L r) o=(preL L (recF n r o).1,(recF n r o).2):=by
 induction n with
 |zero=>intro r o;rfl
 | succ n ih=>
   intro r o
   have f:=xn L r
   cases hs:Q1u (Q6p r).A0
   . rw[Z7j hs,Z7j (by rw[f];exact hs),f,yn,ih];rfl
   . rw[Z9y hs,Z9y (by rw[f];exact hs),f]
theorem vn(L:List Q0j)(l:List Q08): ∀r,l.foldl Q2p (preL L r)=preL L (l.foldl Q2p r):=by
 induction l with
 |nil=>intro r;rfl
 |cons e l ih=>intro r;rw[List.foldl_cons,List.foldl_cons,Z69,ih]
theorem xM(L:List Q0j)(r:Q00)(steps clock:Int):advF (preL L r) steps clock=(preL L (advF r steps clock).1,(advF r steps clock).2):=by
 unfold advF
 show(bif !Q6d r.A0 then _ else recF _ (noQ (r.A2.foldl Q2p (preL L {A0:=r.A0,A7:=if clock>r.A7 then clock else r.A7,B9:=r.B9,A2:=r.A2}))) [])=_
 cases Q6d r.A0
 . rfl
 . rw[vn]
   exact qM L _ (noQ _) _
theorem Zjy(L:List Q0j)(r:Q00)(e:Q08):Q1w (preL L r) e=(preL L (Q1w r e).1,(Q1w r e).2):=by
 rw[Qmv,Qmv]
 show(bif !Q3 e then _ else bif e.B7==1 then _ else bif decide ((r.A2.length:Int)>=16) then _ else _)=_
 cases Q3 e<;>cases e.B7==1<;>cases decide ((r.A2.length:Int)>=16)<;>rfl
theorem Za1(a:List Q0j)(ha:a.length<=1000000000000):(Q64 a a).w (λb=>b=true):=by
 unfold Q64
 refine w_br (λh=>by simp at h) (λ_=> ?_)
 refine w_lp (inv:=λv:Int=>0<=v/\v<=a.length) (μ:=Qdj a a) ⟨by omega,by omega⟩ (Nat.lt_succ_self _) λv ⟨h1,h2⟩=> ?_
 refine w_br (λhb=> ?_) (λ_=>rfl)
 have hb:=of_decide_eq_true hb
 have e:IntKind.i64.wrap (v+1)=v+1:=by rw[IntKind.wrap_i64];omega
 refine w_cn (by simp [Nat.blt];omega) (w_cn (by simp [Nat.blt];omega) (w_br (λh=>by simp [eqs,eq1]at h) (λ_=>w_nx ?_)))
 show(_/\_)/\(_:Nat)<_
 exact⟨⟨by rw[e];omega,by rw[e];omega⟩,by show(a.length-IntKind.i64.wrap (v+1)).toNat<(a.length-v).toNat;rw[e];omega⟩
structure Qk(P:Nat)(k:Int)(r:Q00):Prop where
 g:Qii P k r
 q:okQ r.A2
 l:(r.B9.length:Int)<=3*k
theorem yM(n:Nat): ∀(r:Q00) (o:List Q09),(recF n r o).1.B9.length<=r.B9.length+2*n:=by
 induction n with
 |zero=>intro r o;exact Nat.le_refl _
 | succ n ih=>
   intro r o
   have f:=xm r
   cases hs:Q1u (Q6p r).A0
   . rw[Z7j hs]
     have:=ih (Qm7 (Q6p r)) (o++(Q0p (Q6p r).A0 (Q6p r).A7).1)
     have:=vm (Q6p r)
     omega
   . rw[Z9y hs]
     show(Q6p r).B9.length<=_
     omega
theorem qo(l:List Q08): ∀r:Q00,(l.foldl Q2p r).B9.length<=r.B9.length+l.length:=by
 induction l with
 |nil=>intro r;exact Nat.le_refl _
 | cons e l ih=>
   intro r
   have:=ih (Q2p r e)
   have:=Z6m r e
   rw[List.foldl_cons,List.length_cons];omega
theorem vM(r:Q00)(steps clock:Int):(advF r steps clock).1.B9.length<=r.B9.length+r.A2.length+8000:=by
 obtain⟨l0,l1⟩:=Qrw steps
 cases hm:Q6d r.A0
 . unfold advF;rw[hm]
   show r.B9.length<=_
   omega
 . rw[qn hm]
   have a:=yM (Q0z steps).toNat (noQ (r.A2.foldl Q2p {A0:=r.A0,A7:=if clock>r.A7 then clock else r.A7,B9:=r.B9,A2:=r.A2})) []
   have b:=qo r.A2 {A0:=r.A0,A7:=if clock>r.A7 then clock else r.A7,B9:=r.B9,A2:=r.A2}
   have b:(noQ (r.A2.foldl Q2p {A0:=r.A0,A7:=if clock>r.A7 then clock else r.A7,B9:=r.B9,A2:=r.A2})).B9.length<=r.B9.length+r.A2.length:=b
   omega
theorem advP{P:Nat}{k:Int}{r:Q00}(h:Qk P k r)(steps:Int){clock:Int}(hc:U clock):Qk P (k+4000) (advF r steps clock).1:=by
 obtain⟨a,b⟩:=vj h.g h.q steps hc
 have c:=vM r steps clock
 have d:=h.q.1
 have e:=h.l
 exact⟨a,b,by omega⟩
theorem arriveP{P:Nat}{k:Int}{r:Q00}(h:Qk P k r){e:Q08}(he:U e.N):Qk P k (Q1w r e).1:=by
 obtain⟨a,b⟩:=Zfe h.g h.q he
 refine⟨a,b,?_⟩
 have:=h.l
 rw[Qmv]
 cases Q3 e<;>cases e.B7==1<;>cases decide ((r.A2.length:Int)>=16)<;>exact this
theorem Qk.more{P:Nat}{k j:Int}{r:Q00}(h:Qk P k r)(hj:k<=j):Qk P j r:=
 ⟨⟨h.g.m,h.g.clock,by have:=h.g.cnt;omega⟩,h.q,by have:=h.l;omega⟩
theorem qaI{P:Nat}{k:Int}{A:Q00×Bool}(h:Qk P k A.1):Qk P (k+4000) (A.1,([]:List Q09)).1:=h.more (by omega)
theorem mstepP{P:Nat}{k:Int}{r:Q00}(h:Qk P k r)(n:Int):Qk P (k+4000) (Q1n r n).1:=by
 cases hm:Int.tmod (Q4o n 3) 3==0
 . rw[Qym hm,Qyh _ _ _ (by have:=h.q.1;omega)]
   exact advP h _ (Q0o _)
 . rw[Qy6 hm]
   exact qaI (arriveP h (qk n))
theorem newP{P:Nat}{m:Q01}(h:good P m)(hc:m.A3<=87):Qk P 87 {A0:=m,A7:=0,B9:=[],A2:=[]}:=
 ⟨⟨h,U_0,hc⟩,⟨Nat.zero_le _,λq hq=>by cases hq⟩,by show((0:Nat):Int)<=_;omega⟩
theorem qN{l acts:List Int}{x0:Bool}(hx0:x0=Qt9 l acts)(hb:(!x0)=false):l.length<=40/\acts.length<=30:=qal hx0 hb
theorem zaI{m:Q01}(h:m.Mem.length<=1024):(Q8s m).w (λx=>x={A0:=m,A7:=0,B9:=[],A2:=[]}):=by
 unfold Q8s
 refine w_an (Z4i (r:=⟨m,0,[],[]⟩) h (Nat.zero_le _) (Nat.zero_le _)) (w_lv λx hx=> ?_)
 show x=_
 rw[hx,Zdo]
theorem qY{r:Q00}(hm:r.A0.Mem.length<=1024)(hl:r.B9.length<=1000000)(hq:r.A2.length<=1000000):(Q91 r).w (λx=>x=({A0:=r.A0,A7:=r.A7,B9:=[],A2:=r.A2},r.B9,r.A0.A3)):=by
 unfold Q91
 refine w_an (Z4i hm hl hq) (w_lv λx0 h0=> ?_)
 rw[Zdo]at h0
 subst h0
 rfl
theorem aw21{W:Bool->Prop}(h:W true):(Tree.an Q74 (.lv Qdk λx=> .lf x)).w W:=w_an qm (w_lv λx e=>by show W x;rw[e,Zld];exact h)
theorem xaI{L:List Q0j}{r:Q00}{n:Int}{A B:Q00×Bool}(e1:Q1n (preL L r) n=(B.1,[]))(e2:Q1n r n=(A.1,[]))(h:B=(preL L A.1,A.2)):Q1n (preL L r) n=(preL L (Q1n r n).1,(Q1n r n).2):=by
 rw[e1,e2,h]
theorem qaJ{L:List Q0j}{r:Q00}{n:Int}{A B:Q00×List Q09}(e1:Q1n (preL L r) n=B)(e2:Q1n r n=A)(h:B=(preL L A.1,A.2)):Q1n (preL L r) n=(preL L (Q1n r n).1,(Q1n r n).2):=by
 rw[e1,e2,h]
theorem Zdl(L:List Q0j)(r:Q00)(hq:r.A2.length<=1000000)(n:Int):Q1n (preL L r) n=(preL L (Q1n r n).1,(Q1n r n).2):=by
 cases hm:Int.tmod (Q4o n 3) 3==0
 . exact qaJ ((Qym hm).trans (Qyh (preL L r) _ _ hq)) ((Qym hm).trans (Qyh r _ _ hq)) (xM L r _ _)
 . exact xaI (A:=Q1w r (Qab n)) (B:=Q1w (preL L r) (Qab n)) (Qy6 hm) (Qy6 hm) (Zjy L r _)
theorem and255i(a:Int):0<=iand .i64 a 255/\iand .i64 a 255<=255:=by
 unfold iand
 rw[IntKind.wrap_i64]
 have:(BitVec.ofInt IntKind.i64.bits a&&&BitVec.ofInt IntKind.i64.bits 255).toNat<=255:=by
   show(BitVec.ofInt 64 a&&&BitVec.ofInt 64 255).toNat<=255
   rw[BitVec.toNat_and]
   exact Nat.le_trans Nat.and_le_right (by decide)
 omega
theorem Zfk(a:Int):0<=IntKind.wrap .u32 (iand .i64 a 255)/\IntKind.wrap .u32 (iand .i64 a 255)<=255:=by
 have:=and255i a
 rw[IntKind.wrap_u32];omega
theorem Ziw(n k:Int)(h0:0<=k)(h1:k<=1000):(Qsf n k).length=k.toNat:=by
 show Tree.V (Qdr n k) (λs=>s.length=k.toNat)
 unfold Qdr
 refine v_lp (inv:=λv:Int×List Int=>0<=v.1/\v.1<=k/\v.2.length=v.1.toNat) (μ:=Qcu n k) ⟨Int.le_refl 0,h0,rfl⟩ (Nat.lt_succ_self _) λv ⟨a,b,c⟩=> ?_
 refine v_br (λhb=> ?_) (λhb=> ?_)
 . have hb:=of_decide_eq_true hb
   have e:IntKind.i64.wrap (v.1+1)=v.1+1:=by rw[IntKind.wrap_i64];omega
   refine v_lv λx _=>v_cn (v_nx ?_)
   show(0<=IntKind.i64.wrap (v.1+1)/\IntKind.i64.wrap (v.1+1)<=k/\(v.2++[_]).length=(IntKind.i64.wrap (v.1+1)).toNat)/\(k-IntKind.i64.wrap (v.1+1)).toNat<(k-v.1).toNat
   rw[e,List.length_append,List.length_singleton]
   exact⟨⟨by omega,by omega,by omega⟩,by omega⟩
 . have hb:=of_decide_eq_false hb
   refine v_lf ?_
   show(bytesOf v.2).length=_
   unfold bytesOf
   rw[List.length_map,c];omega
theorem zao(n k:Int):0<=Q4o n k:=by
 show Tree.V (Qod n k) (λx=>0<=x)
 unfold Qod
 refine v_lv λx hx=>v_lf ?_
 have r:0<=x.1/\x.1<18446744073709551616:=by
   rw[hx]
   show 0<=IntKind.wrap .u64 _/\IntKind.wrap .u64 _<_
   rw[IntKind.wrap_u64];omega
 show 0<=IntKind.wrap .i64 (x.1.fdiv 2)
 rw[Int.fdiv_eq_ediv_of_nonneg _ (by decide),IntKind.wrap_i64];omega
def evOK(e:Q08):Prop:=Q3 e=true/\e.B7≠1
theorem Zm:evOK Zid:=⟨rfl,by decide⟩
theorem Zbb{n:Int}(h:n<=255):Q3 {B7:=3,N:=n,C6:=[]}=true:=by
 show(bif decide (n<=255) then decide (([]:List UInt8)=[]) else false)=true
 rw[decide_eq_true h];rfl
theorem Zls{s:List UInt8}(h:s.length=128):Q3 {B7:=4,N:=1,C6:=s}=true:=by
 show(bif decide (s=[]) then true else(s.length:Int)==128)=true
 rw[h];cases decide (s=[])<;>rfl
theorem xo{s:List UInt8}(h1:1<=s.length)(h2:s.length<=128):Q3 {B7:=5,N:=0,C6:=s}=true:=by
 show(bif decide ((s.length:Int)>=1) then decide ((s.length:Int)<=128) else false)=true
 rw[decide_eq_true (show(s.length:Int)>=1 by omega),decide_eq_true (show(s.length:Int)<=128 by omega)];rfl
theorem xN(n:Int):evOK (Qab n):=by
 show Tree.V (Q9l n) evOK
 unfold Q9l
 refine v_lv λx hx=> ?_
 have x0:0<=x:=by rw[hx];exact zao n 2
 have i2: ∀k:Int,k≠1-> ¬k=1:=λ_ h=>h
 refine v_br (λ_=>v_lf ⟨rfl,by decide⟩) λ_=>v_br (λ_=>v_lf ⟨Zbb (Zfk _).2,by show(3:Int)≠1;decide⟩) λ_=>v_br (λ_=>v_lf ⟨Zbb (Zfk _).2,by show(3:Int)≠1;decide⟩) λ_=>v_br (λ_=>v_lf ⟨rfl,by decide⟩) λ_=>v_br (λ_=>v_an (v_lv λy hy=>v_lf ⟨Zls ?_,by show(4:Int)≠1;decide⟩)) λ_=>v_br (λ_=>v_an (v_lv λy hy=>v_lf ⟨?_,by show(5:Int)≠1;decide⟩)) λ_=>v_br (λ_=>v_lf ⟨rfl,by decide⟩) λ_=>v_lf ⟨rfl,by show(6:Int)≠1;decide⟩
 . rw[hy,Ziw _ _ (by decide) (by decide)];rfl
 . have s0:0<=ishr .i64 x 8:=by
     unfold ishr
     exact Int.fdiv_nonneg x0 (Int.le_of_lt (Int.pow_pos (by decide)))
   have t1:=Int.tmod_lt_of_pos (ishr .i64 x 8) (b:=40) (by decide)
   have t0:=Int.tmod_nonneg 40 s0
   have e:IntKind.i64.wrap (1+Int.tmod (ishr .i64 x 8) 40)=1+Int.tmod (ishr .i64 x 8) 40:=by rw[IntKind.wrap_i64];omega
   rw[e]at hy
   have:=Ziw x (1+Int.tmod (ishr .i64 x 8) 40) (by omega) (by omega)
   rw[<-hy]at this
   exact xo (by omega) (by omega)
structure Qjv(c0:Int)(r:Q00):Prop where
 pw:r.B9.Pairwise λa b=>a.At<=b.At/\(a.D4.B7=1->a.At<b.At/\(b.D4.B7=1->a.D4.N<=b.D4.N))
 all: ∀e∈r.B9,c0<=e.At/\e.At<=r.A0.A3/\Q3 e.D4=true/\(e.D4.B7=1->e.At<r.A0.A3/\e.D4.N<r.A7/\0<=e.D4.N)
 q: ∀e∈r.A2,evOK e
 c:c0<=r.A0.A3
theorem Qjv.with{c0:Int}{r x:Q00}(h:Qjv c0 r)(hl:x.B9=r.B9)(hm:x.A0.A3=r.A0.A3)(hc:r.A7<=x.A7)(hq: ∀e∈x.A2,evOK e):Qjv c0 x:=
 ⟨by rw[hl];exact h.pw,by
   rw[hl,hm]
   exact λe he=>⟨(h.all e he).1,(h.all e he).2.1,(h.all e he).2.2.1,λk=>⟨((h.all e he).2.2.2 k).1,by have:=((h.all e he).2.2.2 k).2.1;omega,((h.all e he).2.2.2 k).2.2⟩⟩,hq,by rw[hm];exact h.c⟩
theorem Ze3{P:Nat}{k c0:Int}{r:Q00}(h:Qjv c0 r)(g:Qii P k r){e:Q08}(he:evOK e)(hu:U e.N):Qjv c0 (Q2p r e):=by
  obtain⟨a,b⟩:=Zhn g.m hu
  unfold Q2p
  cases(Q0x r.A0 e).1
  . exact h.with rfl b (Int.le_refl _) h.q
  . show Qjv c0 {A0:=(Q0x r.A0 e).2,A7:=r.A7,B9:=r.B9++[{At:=(Q0x r.A0 e).2.A3,D4:=e}],A2:=r.A2}
    rw[b]
    refine⟨List.pairwise_append.2 ⟨h.pw,List.pairwise_singleton _ _,λx hx y hy=> ?_⟩,λx hx=> ?_,h.q,by show c0<=(Q0x r.A0 e).2.A3;rw[b];exact h.c⟩
    . rw[List.mem_singleton.1 hy]
      obtain⟨p1,p2,p3,p4⟩:=h.all x hx
      exact⟨p2,λkx=>⟨(p4 kx).1,λke=>absurd ke he.2⟩⟩
    . show c0<=x.At/\x.At<=(Q0x r.A0 e).2.A3/\_/\(_->x.At<(Q0x r.A0 e).2.A3/\_)
      rw[b]
      rcases List.mem_append.1 hx with hx|hx
      . exact h.all x hx
      . rw[List.mem_singleton.1 hx]
        exact⟨h.c,Int.le_refl _,he.1,λke=>absurd ke he.2⟩
theorem zN{P:Nat}{k c0:Int}{r:Q00}(h:Qjv c0 r)(g:Qii P k r):Qjv c0 (Q6p r):=by
 rw[Qs3]
 cases Qbb r.A0.B0 r.A7
 . exact h
 . exact Ze3 h g Zm U_0
theorem yN{P:Nat}{k c0:Int}{r:Q00}(h:Qjv c0 r)(g:Qii P k r)(hs:Q1u r.A0=false)(hc:r.A7<4294967295):Qjv c0 (Qm7 r)/\(Qm7 r).A7=r.A7+1:=by
  obtain⟨_,b,_⟩:=Z91 g.m hs g.clock
  have c0':=g.clock.1
  have ec:IntKind.wrap .u32 (r.A7+1)=r.A7+1:=by rw[IntKind.wrap_u32];omega
  have old: ∀x∈r.B9,c0<=x.At/\x.At<=r.A0.A3+1/\Q3 x.D4=true/\(x.D4.B7=1->x.At<r.A0.A3+1/\x.D4.N<r.A7+1/\0<=x.D4.N):=λx hx=>by
    obtain⟨p1,p2,p3,p4⟩:=h.all x hx
    exact⟨p1,by omega,p3,λkx=>⟨by have:=(p4 kx).1;omega,by have:=(p4 kx).2.1;omega,(p4 kx).2.2⟩⟩
  have hcc:=h.c
  cases hr:Q2n r.A0
  . rw[qao hr,ec]
    refine⟨⟨h.pw,?_,h.q,by show c0<=(Q0p r.A0 r.A7).2.A3;omega⟩,rfl⟩
    show∀x∈r.B9,c0<=x.At/\x.At<=(Q0p r.A0 r.A7).2.A3/\_/\(_->x.At<(Q0p r.A0 r.A7).2.A3/\_)
    rw[b];exact old
  . rw [ym hr,ec]
    refine⟨⟨List.pairwise_append.2 ⟨h.pw,List.pairwise_singleton _ _,λx hx y hy=> ?_⟩,?_,h.q,by show c0<=(Q0p r.A0 r.A7).2.A3;omega⟩,rfl⟩
    . rw[List.mem_singleton.1 hy]
      obtain⟨p1,p2,p3,p4⟩:=h.all x hx
      exact⟨p2,λkx=>⟨(p4 kx).1,λ_=>Int.le_of_lt (p4 kx).2.1⟩⟩
    . show∀x∈r.B9++[_],c0<=x.At/\x.At<=(Q0p r.A0 r.A7).2.A3/\_/\(_->x.At<(Q0p r.A0 r.A7).2.A3/\_)
      rw[b]
      intro x hx
      rcases List.mem_append.1 hx with hx|hx
      . exact old x hx
      . rw[List.mem_singleton.1 hx]
        exact⟨h.c,by show r.A0.A3<=_;omega,rfl,λ_=>⟨by show r.A0.A3<_;omega,by show r.A7<r.A7+1;omega,c0'⟩⟩
theorem Zfv(r:Q00):(Q6p r).A7=r.A7:=by
 rw[Qs3]
 cases Qbb r.A0.B0 r.A7
 . rfl
 . show(Q2p r Zid).A7=r.A7
   unfold Q2p;cases(Q0x r.A0 Zid).1<;>rfl
theorem Zc4(r:Q00)(e:Q08):(Q2p r e).A7=r.A7:=by
 unfold Q2p;cases(Q0x r.A0 e).1<;>rfl
theorem xao{P:Nat}{c0:Int}(n:Nat): ∀{k B:Int} {r:Q00} {o:List Q09},Qjv c0 r->Qii P k r->r.A7<=B->B+n<4294967295->Qjv c0 (recF n r o).1/\(recF n r o).1.A7<=B+n:=by
 induction n with
 |zero=>intro k B r o h g hb _;exact⟨h,by show r.A7<=B+(0:Nat);omega⟩
 | succ n ih=>
   intro k B r o h g hb hn
   have f:=zN h g
   obtain⟨gf,_⟩:=Z4z g
   have fc:=Zfv r
   cases hs:Q1u (Q6p r).A0
   . rw[Z7j hs]
     obtain⟨t1,t2⟩:=yN f gf hs (by omega)
     have:=ih (o:=o++(Q0p (Q6p r).A0 (Q6p r).A7).1) t1 (Z5w gf hs) (B:=B+1) (by omega) (by omega)
     exact⟨this.1,by have:=this.2;omega⟩
   . rw[Z9y hs]
     exact⟨f,by show(Q6p r).A7<=_;omega⟩
theorem vN{P:Nat}{k c0:Int}(l:List Q08): ∀{r:Q00},Qjv c0 r->Qii P k r->(∀e∈l,evOK e/\U e.N)->Qjv c0 (l.foldl Q2p r)/\(l.foldl Q2p r).A7=r.A7/\Qii P k (l.foldl Q2p r):=by
 induction l with
 |nil=>intro r h g _;exact⟨h,rfl,g⟩
 | cons e l ih=>
   intro r h g hu
   obtain⟨a,b⟩:=hu e (by simp)
   obtain⟨p,q,s⟩:=ih (Ze3 h g a b) (Qq3 g b).1 (λq hq=>hu q (by simp [hq]))
   exact⟨p,q.trans (Zc4 r e),s⟩
theorem qap{P:Nat}{k c0 B:Int}{r:Q00}(h:Qjv c0 r)(g:Qii P k r)(hq:okQ r.A2){steps clock:Int}(hb:r.A7<=B)(hc0:0<=clock)(hc:clock<=B)(hs:0<=steps/\steps<12)(hB:B<1000000000):Qjv c0 (advF r steps clock).1/\(advF r steps clock).1.A7<=B+12:=by
 rw[qn g.m.rmay,Zke hs.1 (by omega)]
 have m0:r.A7<=(if clock>r.A7 then clock else r.A7)/\(if clock>r.A7 then clock else r.A7)<=B:=by split<;>omega
 generalize(if clock>r.A7 then clock else r.A7)=cl at*
 have u:U cl:=by have:=g.clock;unfold U at*;omega
 obtain⟨a,b,c⟩:=vN r.A2 (r:={A0:=r.A0,A7:=cl,B9:=r.B9,A2:=r.A2}) (h.with rfl rfl m0.1 h.q) ⟨g.m,u,g.cnt⟩ (λe he=>⟨h.q e he,hq.2 e he⟩)
 have b:(r.A2.foldl Q2p {A0:=r.A0,A7:=cl,B9:=r.B9,A2:=r.A2}).A7=cl:=b
 generalize r.A2.foldl Q2p {A0:=r.A0,A7:=cl,B9:=r.B9,A2:=r.A2}=y at*
 have:=xao steps.toNat (o:=[]) (r:=noQ y) (B:=B) (a.with rfl rfl (Int.le_refl _) (λe he=>by cases he)) (k:=k) ⟨c.m,c.clock,c.cnt⟩ (by show y.A7<=B;omega) (by omega)
 exact⟨this.1,by have:=this.2;omega⟩
theorem zap{c0:Int}{r:Q00}(h:Qjv c0 r){e:Q08}(he:evOK e):Qjv c0 (Q1w r e).1/\(Q1w r e).1.A7=r.A7:=by
  rw[Qmv]
  cases Q3 e
  . exact⟨h,rfl⟩
  . cases e.B7==1
    . cases decide ((r.A2.length:Int)>=16)
      . refine⟨h.with rfl rfl (Int.le_refl _) λq hq=> ?_,rfl⟩
        have hq:q∈r.A2++[e]:=hq
        rcases List.mem_append.1 hq with hq|hq
        . exact h.q q hq
        . rw[List.mem_singleton.1 hq];exact he
      . exact⟨h,rfl⟩
    . exact⟨h,rfl⟩
structure logP(c0 k B:Int)(r:Q00):Prop where
 p:Qk 8 k r
 l:Qjv c0 r
 b:r.A7<=B
theorem qO{c0 k B:Int}{A:Q00×Bool}(p:Qk 8 k A.1)(a:Qjv c0 A.1)(b:A.1.A7<=B):logP c0 k B (A.1,([]:List Q09)).1:=⟨p,a,b⟩
theorem Zln{c0 k B:Int}{r:Q00}(h:logP c0 k B r)(h255:255<=B)(hB:B<1000000000)(n:Int):logP c0 (k+4000) (B+12) (Q1n r n).1:=by
 have p:=mstepP h.p n
 have hb:=h.b
 cases hm:Int.tmod (Q4o n 3) 3==0
 . have rr:=Z0q (n:=ishr .i64 (Q4o n 3) 4) (k:=12) (by decide) (by decide)
   have w:=Zfk (ishr .i64 (Q4o n 3) 12)
   rw[Qym hm,Qyh _ _ _ (by have:=h.p.q.1;omega)]at p⊢
   obtain⟨a,b⟩:=qap h.l h.p.g h.p.q (steps:=Q48 (ishr .i64 (Q4o n 3) 4) 12) (clock:=IntKind.wrap .u32 (iand .i64 (ishr .i64 (Q4o n 3) 12) 255)) hb w.1 (by omega) rr hB
   exact⟨p,a,b⟩
 . have hb':r.A7<=B+12:=by omega
   obtain⟨a,b⟩:=zap h.l (xN n)
   rw[Qy6 hm]
   exact qO (A:=Q1w r (Qab n)) ((arriveP h.p (qk n)).more (Int.le_add_of_nonneg_right (by decide))) a (Int.le_trans (Int.le_of_eq b) hb')
theorem xO{m:Q01}(h:good 8 m)(hc:m.A3<=87):logP m.A3 87 255 {A0:=m,A7:=0,B9:=[],A2:=[]}:=
 ⟨newP h hc,⟨List.Pairwise.nil,(λe he=>by cases he),(λe he=>by cases he),Int.le_refl _⟩,by show(0:Int)<=255;decide⟩
theorem zO(L:List Q0j)(r:Q00):preL (L++r.B9) {A0:=r.A0,A7:=r.A7,B9:=[],A2:=r.A2}=preL L r:=by
 unfold preL
 show(⟨_,_,(L++r.B9)++[],_⟩:Q00)=_
 rw[List.append_nil]
theorem Zjr{s:Q00×List Q09}{x:Q00}{p:List Q09}{n:Int}(e:Q1n s.1 n=(x,p)):Qkd s n=(x,s.2++p):=by rw[xk,e]
theorem zo(L:List Q0j)(r:Q00)(hq:r.A2.length<=1000000)(n:Int)(o:List Q09):Qkd (preL L r,o) n=(preL L (Q1n r n).1,o++(Q1n r n).2):=
 Zjr (s:=(preL L r,o)) (Zdl L r hq n)
theorem preP{L:List Q0j}{r x:Q00}{p:List Q09}{k:Int}{n:Int}(e:Q1n (preL L r) n=(x,p))(h:Qk 8 k (preL L r)):Qk 8 (k+4000) x:=by
 have:=mstepP h n
 rw[e]at this
 exact this
theorem yO{c0 k B:Int}{r:Q00}(h:logP c0 k B r):logP r.A0.A3 k B {A0:=r.A0,A7:=r.A7,B9:=[],A2:=r.A2}:=
 ⟨⟨⟨h.p.g.m,h.p.g.clock,h.p.g.cnt⟩,h.p.q,by have:=h.p.l;show((0:Nat):Int)<=_;omega⟩,⟨List.Pairwise.nil,(λe he=>by cases he),h.l.q,Int.le_refl _⟩,h.b⟩
theorem zaJ(kind:Int)(l acts:List Int)(cs:List Bool)(hl:l.length*8<=reachBytes):Qg0 kind l acts cs/\Qfk kind l acts cs=true:=by
 have aw:(Tree.an Q74 (.lv Qdk λx=> .lf x)).w (λr=>r=true):=aw21 rfl
 refine Tree.pp (W:=λr=>r=true) ?_
 unfold Q8m
 refine w_lv λx0 h0=>w_br (λ_=>aw) λhb=> ?_
 obtain⟨f1,f2⟩:=qN h0 hb
 obtain⟨a,b⟩:=Zed kind l hl f1
 refine w_an (Tree.pp (vd kind l hl)).1 (w_lv λm hm=> ?_)
 rw[<-hm]at a b
 refine Q0e (zaI a.len) λx3 e3=> ?_
 have p0:logP m.A3 87 255 x3:=by rw[e3];exact xO a b
 have q0:preL [] x3=x3:=by rw[e3];rfl
 refine w_lp (inv:=λv:Int×Int×Q00×List Q0j=>0<=v.2.1/\v.2.1<=acts.length/\logP v.1 (87+4000*v.2.1) (255+12*v.2.1) v.2.2.1/\Qk 8 (87+4000*v.2.1) (preL v.2.2.2 v.2.2.1)/\ ∃o,(acts.drop v.2.1.toNat).foldl Qkd (preL v.2.2.2 v.2.2.1,o)=acts.foldl Qkd (x3,[])) (μ:=Q2k kind l acts cs) ⟨Int.le_refl 0,by show(0:Int)<=acts.length;omega,p0,by show Qk 8 87 (preL [] x3);rw[q0];exact p0.p,[],by show acts.foldl Qkd (preL [] x3,[])=_;rw[q0]⟩ (Nat.lt_succ_self _) λv ⟨a1,a2,a3,a4,o,a5⟩=> ?_
 obtain⟨last,i,r,all⟩:=v
 have a1:0<=i:=a1
 have a2:i<=acts.length:=a2
 have a3:logP last (87+4000*i) (255+12*i) r:=a3
 have a4:Qk 8 (87+4000*i) (preL all r):=a4
 have a5:(acts.drop i.toNat).foldl Qkd (preL all r,o)=acts.foldl Qkd (x3,[]):=a5
 have hq1:=a3.p.q.1
 have hl1:=a3.p.l
 refine w_br (λhb=> ?_) (λhb=> ?_)
 . have hb:i<acts.length:=of_decide_eq_true hb
   have ew:IntKind.i64.wrap (i+1)=i+1:=by rw[IntKind.wrap_i64];omega
   have hlt:i.toNat<acts.length:=by omega
   have ed:acts.getD i.toNat 0=acts[i.toNat]:=by rw[List.getD_eq_getElem?_getD,List.getElem?_eq_getElem hlt];rfl
   have cn:(Nat.beq 1 1&&Nat.blt 0 1&&decide (0<=i/\i<((acts.length:Nat):Int)))=true:=by simp [Nat.blt];omega
   have mu: ∀q:Int×Q00×List Q0j,Q2k kind l acts cs (q.1,IntKind.wrap .i64 (i+1),q.2)<Q2k kind l acts cs (last,i,r,all):=λq=>by
     show(acts.length-IntKind.wrap .i64 (i+1)).toNat<(acts.length-i).toNat
     rw[ew];omega
   have st:=zV (P:=8) (r:=r) ⟨a3.p.g.m.ok,a3.p.g.clock⟩ (acts.getD i.toNat 0) (by omega) hq1 a3.p.q.2
   have g1:=Zln a3 (by omega) (by omega) (acts.getD i.toNat 0)
   have g2:=preP (Zdl all r (by omega) (acts.getD i.toNat 0)) a4
   rw[List.drop_eq_getElem_cons hlt,List.foldl_cons,<-ed,zo all r (by omega)]at a5
   refine w_cn cn (w_an (Tree.pp st).1 (w_lv λx4 e4=> ?_))
   rw[<-e4]at g1 g2 a5
   have gl:=g2.l
   have gl:(((all++x4.1.B9).length:Nat):Int)<=3*(87+4000*i+4000):=gl
   rw[List.length_append]at gl
   have nx: ∀(la:Int) (x:Q00) (al:List Q0j),logP la (87+4000*i+4000) (255+12*i+12) x->preL al x=preL all x4.1->(0<=IntKind.wrap .i64 (i+1)/\IntKind.wrap .i64 (i+1)<=acts.length/\logP la (87+4000*IntKind.wrap .i64 (i+1)) (255+12*IntKind.wrap .i64 (i+1)) x/\Qk 8 (87+4000*IntKind.wrap .i64 (i+1)) (preL al x)/\ ∃o,(acts.drop (IntKind.wrap .i64 (i+1)).toNat).foldl Qkd (preL al x,o)=acts.foldl Qkd (x3,[]))/\Q2k kind l acts cs (la,IntKind.wrap .i64 (i+1),x,al)<Q2k kind l acts cs (last,i,r,all):=λla x al hx he=>by
     refine⟨?_,mu (la,x,al)⟩
     rw[ew,he,show 87+4000*(i+1)=87+4000*i+4000 by omega,show 255+12*(i+1)=255+12*i+12 by omega,show(i+1).toNat=i.toNat+1 by omega]
     exact⟨by omega,by omega,hx,g2,o++x4.2,a5⟩
   refine w_br (λhc=> ?_) (λ_=>w_nx (nx _ _ _ g1 rfl))
   have hc:i<cs.length:=of_decide_eq_true hc
   refine w_cn (by simp [Nat.blt];omega) (w_br (λ_=> ?_) (λ_=>w_nx (nx _ _ _ g1 rfl)))
   have hq4:=g1.p.q.1
   have hl4:=g1.p.l
   have hc4:=g1.l.c
   refine Q0e (qY g1.p.g.m.len (by omega) (by omega)) λx5 e5=> ?_
   subst e5
   refine w_br (λh=>absurd (of_decide_eq_true h) (by show¬x4.1.A0.A3<last;omega)) λ_=>w_br (λh=> ?_) λ_=>w_br (λh=>absurd (of_decide_eq_true h) (by show¬((0:Nat):Int)>0;decide)) λ_=>w_cn (decide_eq_true ?_) (w_nx (nx _ _ _ (yO g1) (zO all x4.1)))
   . have h:(x4.1.A0.A3 !=x4.1.A0.A3)=true:=h
     rw[bne_self_eq_false]at h;cases h
   . show 40*(all.length+x4.1.B9.length)<=_
     omega
 . have hb: ¬i<acts.length:=of_decide_eq_false hb
   rw[List.drop_eq_nil_of_le (by omega),List.foldl_nil]at a5
   refine Q0e (qY (r:=r) a3.p.g.m.len (by omega) (by omega)) λx6 e6=>w_an (Tree.pp (qaC a.ok acts f2)).1 (w_lv λx7 e7=> ?_)
   rw[xal _ _ (by omega),zk,<-e3,<-a5]at e7
   subst e6 e7
   have gl:=a4.l
   have gl:(((all++r.B9).length:Nat):Int)<=3*(87+4000*i):=gl
   have gl':=gl
   rw[List.length_append]at gl'
   refine w_cn (decide_eq_true ?_) (Q0e (Za1 (all++r.B9) (by omega)) λx8 e8=>w_br (λ_=>aw) (λh=>by rw[e8]at h;cases h))
   show 40*(all.length+r.B9.length)<=_
   omega
end Go.Proofs.YtmalmklaonainaaGreat

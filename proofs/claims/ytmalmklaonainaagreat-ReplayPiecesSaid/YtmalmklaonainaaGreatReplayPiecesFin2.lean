import Derived.Test.YtmalmklaonainaaGreatReplayPiecesLaws2
import Derived.Test.YtmalmklaonainaaGreatReplayPiecesNewsB
import Derived.Test.YtmalmklaonainaaGreatReplayPiecesZt
set_option maxRecDepth 100000
set_option linter.all false
namespace Go.Proofs.YtmalmklaonainaaGreat
open Go Go.GD
open Go.IntKind(wrap i64 u32 u64 u8 wrap_i64 wrap_u32 wrap_u64 wrap_u8 wrap_i32)
theorem xG(i:Q0l):U (Q1p i).1:=by
 refine Tree.post (Qho i) (W:=λr=>U r.1) ?_
 unfold Qho
 exact w_lv λ_ _=>w_br (λ_=>U_0) (λ_=>U_or _ _)
theorem qd(l:List Int)(hl:l.length*8<=reachBytes):(Qjk l).w (λr=>(r.length:Int)=l.length/\ ∀w∈r,U w):=by
 have hl':l.length*8<=140737488351232:=hl
 have app: ∀{r:List Int} {x:Int},(∀w∈r,U w)->U x-> ∀w∈r++[x],U w:=λhr hx w hw=>by
   rw[List.mem_append]at hw
   rcases hw with hw|hw
   . exact hr w hw
   . rw[List.mem_singleton.1 hw];exact hx
 unfold Qjk
 refine w_lp (inv:=λz=>Qr5 l z/\ ∀w∈z.2,U w) (μ:=Qdq l) ⟨⟨by omega,by simp,by simp⟩,by simp⟩ (Nat.lt_succ_self _) (λv0 hv=> ?_)
 obtain⟨⟨h1,h2,h3⟩,h4⟩:=hv
 refine w_br (λh=> ?_) (λh=> ?_)
 . have h:=oY h
   have next: ∀x:Int,U x->(Qr5 l (wrap i64 (v0.1+1),v0.2++[x])/\ ∀w∈v0.2++[x],U w)/\Qdq l (wrap i64 (v0.1+1),v0.2++[x])<Qdq l v0:=λx hx=>by
     have hw:i64.wrap (v0.1+1)=v0.1+1:=by rw[wrap_i64];omega
     rw[hw]
     refine⟨⟨⟨?_,?_,?_⟩,app h4 hx⟩,?_⟩
     . show 0<=v0.1+1;omega
     . show v0.1+1<=l.length;omega
     . show((v0.2++[x]).length:Int)=v0.1+1;simp;omega
     . show(l.length-(v0.1+1)).toNat<(l.length-v0.1).toNat;omega
   have hb:(Nat.beq 1 1&&Nat.blt 0 1&&decide (0<=v0.1/\v0.1<(l.length:Int)))=true:=by simp [Nat.blt];omega
   have hc:decide (4*(v0.2.length+1)<=140737488355328)=true:=dY (by omega)
   exact w_cn hb (w_br (λ_=>w_cn hb (w_cn hc (next _ (Q0s _)))) (λ_=>w_cn hb (w_an (xV _) (w_lv λx0 _=>w_lv λx1 hx=>w_cn hc (next _ (by rw[hx];exact xG _))))))
 . have h:=oN h
   exact⟨by show(v0.2.length:Int)=l.length;omega,h4⟩
theorem Ql9(steps:Int):0<=Q0m steps/\Q0m steps<=4000:=by
 refine Tree.post (Qdf steps) (W:=λr=>0<=r/\r<=4000) ?_
 unfold Qdf
 refine w_lf ?_
 constructor<;>(repeat' split)<;>omega
theorem Zg5{P:Nat}{r:Q01}(h:okR P r)(steps:Int){clock:Int}(hc:U clock)(hl:r.B4.length<=900000)(hq:r.A6.length<=1000)(hu: ∀q∈r.A6,U q.N):
    (Q5z r steps clock).w (λx=>okR P x.1/\x.1.B4.length<=r.B4.length+r.A6.length+8000/\(x.1.A6=r.A6\/x.1.A6=[])/\x.2.length<=4000):=by
  unfold Q5z
  refine Q0e (own_w h (by omega) (by omega)) λx0 hx=> ?_
  obtain⟨k1,k2,k3⟩:=hx
  refine w_lv λx1 _=>w_br (λ_=>⟨k1,by rw[k2];omega, .inl k3,Nat.zero_le _⟩) (λ_=> ?_)
  have hcl:U (if clock>x0.A3 then clock else x0.A3):=by split<;>first|exact hc|exact k1.clock
  refine w_lp (inv:=λz=>0<=z.1/\z.1<=r.A6.length/\okR P z.2/\(z.2.B4.length:Int)<=r.B4.length+z.1/\z.2.A6=r.A6) (μ:=Qcr r steps clock) ⟨by omega,by omega,⟨k1.m,hcl⟩,by rw[k2];omega,k3⟩ (Nat.lt_succ_self _) (λz hz=> ?_)
  obtain⟨z1,z2,z3,z4,z5⟩:=hz
  refine w_br (λhb=> ?_) (λhb=> ?_)
  . have hb:=oY hb
    rw[z5]at hb
    have hm:(z.2.A6.getD z.1.toNat (RK.dflt RK.apiEvent))∈r.A6:=by
      rw[z5]
      have hlt:z.1.toNat<r.A6.length:=by omega
      rw[List.getD_eq_getElem?_getD,List.getElem?_eq_getElem hlt]
      exact List.getElem_mem hlt
    refine w_cn (by rw[z5];simp [Nat.blt];omega) (Q0e (zx z3 (hu _ hm) (by omega)) λx hx=>w_nx ?_)
    obtain⟨a1,a2,a3⟩:=hx
    show(0<=i64.wrap (z.1+1)/\i64.wrap (z.1+1)<=r.A6.length/\okR P x/\(x.B4.length:Int)<=r.B4.length+i64.wrap (z.1+1)/\x.A6=r.A6)/\(x.A6.length-i64.wrap (z.1+1)).toNat<(z.2.A6.length-z.1).toNat
    have ew:i64.wrap (z.1+1)=z.1+1:=by rw[wrap_i64];omega
    rw[ew,a3,z5]
    exact⟨⟨by omega,by omega,a1,by omega,rfl⟩,by omega⟩
  . refine w_lp (inv:=λy=>0<=y.1/\y.1<=4000/\okR P y.2.1/\(y.2.1.B4.length:Int)<=r.B4.length+r.A6.length+2*y.1/\y.2.1.A6=[]/\(y.2.2.length:Int)<=y.1) (μ:=Q5u r steps clock z) ⟨by omega,by omega,⟨z3.m,z3.clock⟩,by simp;omega,rfl,by simp⟩ (Nat.lt_succ_self _) (λy hy=> ?_)
    obtain⟨y1,y2,y3,y4,y5,y6⟩:=hy
    have ew:i64.wrap (y.1+1)=y.1+1:=by rw[wrap_i64];omega
    refine w_lv λx3 hx3=>w_br (λhb=> ?_) (λ_=>⟨y3,by show y.2.1.B4.length<=_;omega, .inr y5,by show y.2.2.length<=_;omega⟩)
    have hb:=oY hb
    have lim:=(Ql9 steps).2
    rw[<-hx3]at lim
    refine w_lv λx4 _=>w_br (λ_=>Q0e (zx (e:=⟨_,_,_⟩) y3 U_0 (by omega)) λx5 h5=> ?_) (λ_=> ?_)
    . obtain⟨q1,q2,q3⟩:=h5
      have q3:=q3.trans y5
      refine Q0e (Zjs _) λs1 _=>w_br (λ_=>⟨q1,by show x5.B4.length<=_;omega, .inr q3,by show y.2.2.length<=_;omega⟩) (λ_=>Q0e (Qyi q1.m.cpu q1.m.mem) λs2 _=>w_br (λ_=>w_cn (dY (by omega)) (Q0e (Quw (r:=⟨x5.A0,x5.A3,x5.B4++[_],x5.A6⟩) ⟨q1.m,q1.clock⟩ q1.clock) λo ho=> ?_)) (λ_=>Q0e (Quw q1 q1.clock) λo ho=> ?_))
      . obtain⟨a1,⟨⟨a2,a3⟩,a4,a5⟩⟩:=ho
        have e4:o.2.B4.length=x5.B4.length+1:=by rw[a4];simp
        have a5:o.2.A6=[]:=a5.trans q3
        refine w_cn (dY (by omega)) (w_nx ?_)
        show(0<=i64.wrap (y.1+1)/\i64.wrap (y.1+1)<=4000/\okR P _/\(o.2.B4.length:Int)<=r.B4.length+r.A6.length+2*i64.wrap (y.1+1)/\o.2.A6=[]/\((y.2.2++o.1).length:Int)<=i64.wrap (y.1+1))/\(4000-i64.wrap (y.1+1)).toNat<(4000-y.1).toNat
        rw[ew,a5,lA]
        exact⟨⟨by omega,by omega,⟨a2,Q0s _⟩,by omega,rfl,by omega⟩,by omega⟩
      . obtain⟨a1,⟨⟨a2,a3⟩,a4,a5⟩⟩:=ho
        have e4:o.2.B4.length=x5.B4.length:=by rw[a4]
        have a5:o.2.A6=[]:=a5.trans q3
        refine w_cn (dY (by omega)) (w_nx ?_)
        show(0<=i64.wrap (y.1+1)/\i64.wrap (y.1+1)<=4000/\okR P _/\(o.2.B4.length:Int)<=r.B4.length+r.A6.length+2*i64.wrap (y.1+1)/\o.2.A6=[]/\((y.2.2++o.1).length:Int)<=i64.wrap (y.1+1))/\(4000-i64.wrap (y.1+1)).toNat<(4000-y.1).toNat
        rw[ew,a5,lA]
        exact⟨⟨by omega,by omega,⟨a2,Q0s _⟩,by omega,rfl,by omega⟩,by omega⟩
    . refine Q0e (Zjs _) λs1 _=>w_br (λ_=>⟨y3,by show y.2.1.B4.length<=_;omega, .inr y5,by show y.2.2.length<=_;omega⟩) (λ_=>Q0e (Qyi y3.m.cpu y3.m.mem) λs2 _=>w_br (λ_=>w_cn (dY (by omega)) (Q0e (Quw (r:=⟨y.2.1.A0,y.2.1.A3,y.2.1.B4++[_],y.2.1.A6⟩) ⟨y3.m,y3.clock⟩ y3.clock) λo ho=> ?_)) (λ_=>Q0e (Quw y3 y3.clock) λo ho=> ?_))
      . obtain⟨a1,⟨⟨a2,a3⟩,a4,a5⟩⟩:=ho
        have e4:o.2.B4.length=y.2.1.B4.length+1:=by rw[a4];simp
        have a5:o.2.A6=[]:=a5.trans y5
        refine w_cn (dY (by omega)) (w_nx ?_)
        show(0<=i64.wrap (y.1+1)/\i64.wrap (y.1+1)<=4000/\okR P _/\(o.2.B4.length:Int)<=r.B4.length+r.A6.length+2*i64.wrap (y.1+1)/\o.2.A6=[]/\((y.2.2++o.1).length:Int)<=i64.wrap (y.1+1))/\(4000-i64.wrap (y.1+1)).toNat<(4000-y.1).toNat
        rw[ew,a5,lA]
        exact⟨⟨by omega,by omega,⟨a2,Q0s _⟩,by omega,rfl,by omega⟩,by omega⟩
      . obtain⟨a1,⟨⟨a2,a3⟩,a4,a5⟩⟩:=ho
        have e4:o.2.B4.length=y.2.1.B4.length:=by rw[a4]
        have a5:o.2.A6=[]:=a5.trans y5
        refine w_cn (dY (by omega)) (w_nx ?_)
        show(0<=i64.wrap (y.1+1)/\i64.wrap (y.1+1)<=4000/\okR P _/\(o.2.B4.length:Int)<=r.B4.length+r.A6.length+2*i64.wrap (y.1+1)/\o.2.A6=[]/\((y.2.2++o.1).length:Int)<=i64.wrap (y.1+1))/\(4000-i64.wrap (y.1+1)).toNat<(4000-y.1).toNat
        rw[ew,a5,lA]
        exact⟨⟨by omega,by omega,⟨a2,Q0s _⟩,by omega,rfl,by omega⟩,by omega⟩
section
variable {P:Nat} {m:Q00} (h:okM P m)
include h
theorem min_w(port:Int){clock:Int}(hc:U clock):(Qlj m port clock).w (λx=>U x.1/\okM P x.2/\x.2.A1=m.A1):=by
 have k:=(⟨h,rfl⟩:okM P m/\m.A1=m.A1)
 obtain⟨h1,h2,h3,h4,h5,h7⟩:=h
 unfold Qlj
 exact w_br (λ_=>w_lv λx hx=>⟨hx▸Z2b _ _,⟨⟨h1,h2,h3,h4,h5,h7⟩,rfl⟩⟩) (λ_=>w_br (λ_=>⟨hc,k⟩) (λ_=>w_br (λ_=>w_lv λx hx=>⟨hx▸Zel _,k⟩) (λ_=>w_br (λ_=>w_lv λx hx=>⟨hx▸Zm h3 _,k⟩) (λ_=>w_br (λ_=>w_lv λx hx=>⟨hx▸xx h4 _,k⟩) (λ_=>w_lv λx hx=>⟨hx▸Z1z h5.1 _,k⟩)))))
theorem qaC(port:Int){v:Int}(hv:U v):(Qf1 m port v).w (λx=>x.1.length<=1/\okM P x.2/\x.2.A1=m.A1):=by
 have k:=(⟨h,rfl⟩:okM P m/\m.A1=m.A1)
 obtain⟨h1,h2,h3,h4,h5,h7⟩:=h
 unfold Qf1
 exact w_br (λ_=>⟨Nat.le_refl _,k⟩) (λ_=>w_br (λ_=>⟨Nat.zero_le _,k⟩) (λ_=>w_br (λ_=>w_lv λ_ _=>⟨Nat.zero_le _,⟨⟨h1,h2,h3,h4,h5,h7⟩,rfl⟩⟩) (λ_=>w_br (λ_=>Q0e (Zgj h2 h3 _ hv _) λx hx=>⟨hx.2,⟨⟨h1,h2,hx.1,h4,h5,h7⟩,rfl⟩⟩) (λ_=>w_br (λ_=>Q0e (Zlz h2 h4 _ hv _) λx hx=>⟨hx.2,⟨⟨h1,h2,h3,hx.1,h5,h7⟩,rfl⟩⟩) (λ_=>Q0e (v8 h2 h5 _ hv) λx hx=>⟨Nat.zero_le _,⟨⟨h1,hx.2,h3,h4,hx.1,h7⟩,rfl⟩⟩)))))
theorem Z9h{clock:Int}(hc:U clock):(Q91 m clock).w (λx=>x.1.length<=1/\okM P x.2/\x.2.A1=wrap .u64 (m.A1+1)):=by
 obtain⟨h1,h2,h3,h4,h5,h7⟩:=h
 unfold Q91
 refine Q0e (Qmr h1) λx0 c0=>Q0e (do_w c0 h2) λx1 hx=> ?_
 obtain⟨c1,v1,m1⟩:=hx
 refine w_br (λ_=>Zh9 (min_w (m:=⟨_,_,_,_,_,_,_,_,_,_⟩) ⟨c1,m1,h3,h4,h5,h7⟩ _ hc) λx2 hx=> ?_) (λ_=>w_br (λ_=>Q0e (qaC (m:=⟨_,_,_,_,_,_,_,_,_,_⟩) ⟨c1,m1,h3,h4,h5,h7⟩ _ v1) λx4 hx=> ?_) (λ_=> ?_))
 . obtain⟨u,⟨k1,k2,k3,k4,k5,k7⟩,k6⟩:=hx
   exact Q0e (Z73 k1 _ u) λx3 h3=>⟨Nat.zero_le _,⟨h3,k2,k3,k4,k5,w0 _⟩,congrArg (λn=>wrap .u64 (n+1)) k6⟩
 . obtain⟨u,⟨k1,k2,k3,k4,k5,k7⟩,k6⟩:=hx
   exact⟨u,⟨k1,k2,k3,k4,k5,w0 _⟩,congrArg (λn=>wrap .u64 (n+1)) k6⟩
 . repeat'(first
     |exact⟨Nat.zero_le _,⟨c1,m1,h3,h4,h5,w0 _⟩,rfl⟩
     |refine w_br (λ_=> ?_) (λ_=> ?_))
theorem zW:(Qd5 m).w (λx=>okM P x/\x.A1=m.A1):=by
 obtain⟨h1,h2,h3,h4,h5,h7⟩:=h
 unfold Qd5
 exact Q0e (z7 h2) λx hx=>⟨⟨h1,by rw[hx];exact h2,h3,h4,h5,h7⟩,rfl⟩
end
theorem U_all(n:Nat): ∀w∈List.replicate n (0:Int),U w:=λw hw=>by rw[(List.mem_replicate.1 hw).2];exact U_0
theorem qae:okM 0 ⟨⟨⟨0,0,0,0,0,0,0,0,0,0,0,0,0,0,0,0⟩,0,⟨0,0,0,0,0,0,0,0⟩⟩,[],⟨[]⟩,⟨false,0,false⟩,⟨0,0,0,0,0,0,0,[]⟩,⟨0,0,false,0,false,0⟩,⟨0,0⟩,0,false,false⟩:=
 ⟨⟨U_all 16,U_0,U_all 8⟩,⟨rfl,by omega,by omega,λw hw=>by cases hw⟩,⟨U_0,U_0,U_0,U_0⟩,⟨U_0,U_0,U_0,U_0⟩,⟨U_0,U_0⟩,by decide⟩
theorem Zmw{P:Nat}{m:Q00}(h:okM P m)(hc:0<=m.A1):(Q9b m [] 87).w (λx=> ∃Q,okM Q x.1):=by
 have z: ∃Q,okM Q _:=⟨0,qae⟩
 unfold Q9b
 refine w_lv λx0 _=>w_br (λ_=>z) λ_=>w_br (λ_=>z) λ_=>w_br (λ_=>z) λ_=>w_an (show Q8m [] by show([]:List Q0g).length<=1000000000000;decide) (w_lv λx1 _=>w_br (λ_=>z) λ_=>Q0e (zW h) λx2 hx=> ?_)
 refine w_lp (inv:=λv:Q00×List Q04=>okM P v.1/\0<=v.1.A1/\v.2.length+(87-v.1.A1).toNat<=87) (μ:=Qh0 m [] 87) ⟨hx.1,by rw[hx.2];exact hc,by rw[hx.2];show 0+_<=87;omega⟩ (Nat.lt_succ_self _) λv0 ⟨a1,a2,a3⟩=> ?_
 refine w_br (λhb=>w_br (λ_=> ?_) (λ_=>⟨P,a1⟩)) (λ_=>⟨P,a1⟩)
 have hb:=oY hb
 refine w_lp (inv:=λ_=>True) (μ:=Qh8 m [] 87 v0) trivial (Nat.lt_succ_self _) λv1 _=> ?_
 refine w_br (λ_=>⟨P,a1⟩) λ_=>Q0e (z8 _) λx3 _=>w_br (λ_=>⟨P,a1⟩) λ_=>Q0e (qx a1.cpu a1.mem) λx4 _=>w_br (λ_=>z) λ_=>Q0e (Z9h a1 U_0) λx5 h5=> ?_
 obtain⟨b1,b2,b3⟩:=h5
 refine w_cn (dY (by omega)) (w_nx ?_)
 have e:x5.2.A1=v0.1.A1+1:=by rw[b3,wrap_u64];omega
 show(_/\_/\_)/\(_:Nat)<_
 refine⟨⟨b2,by show 0<=x5.2.A1;omega,by show(v0.2++x5.1).length+(87-x5.2.A1).toNat<=87;rw[lA];omega⟩,by show(87-x5.2.A1).toNat<(87-v0.1.A1).toNat;omega⟩
set_option synthInstance.maxHeartbeats 2000000
set_option synthInstance.maxSize 100000
noncomputable section
instance zG (src:(List UInt8)):Ck (Ql3 src):=ckT (t:=Qgj src) (by delta Qgj;infer_instance)
instance qC (s:(List UInt8)):Ck (Qip s):=ckT (t:=Qed s) (by delta Qed;infer_instance)
instance xC (n:Int):Ck (Q3e n):=let d:Decidable (Q3e n):=(by delta Q3e;infer_instance);⟨@decide _ d,@oY _ d⟩
instance xd (n:Int):Ck (Qh3 n):=ckT (t:=Q78 n) (by delta Q78;infer_instance)
instance zae (r:Int):Ck (Qow r):=ckT (t:=Qf r) (by delta Qf;infer_instance)
instance yW (s:(List UInt8)):Ck (Qhn s):=ckT (t:=Qj9 s) (by delta Qj9;infer_instance)
instance Zpy (op:Int):Ck (Qez op):=ckT (t:=Q9j op) (by delta Q9j;infer_instance)
instance Zog (s:(List UInt8)):Ck (Q3b s):=ckT (t:=Q8o s) (by delta Q8o;infer_instance)
instance zd (what:(List UInt8)):Ck (Q6g what):=ckT (t:=Qbn what) (by delta Qbn;infer_instance)
instance zC (s:(List UInt8)):Ck (Qij s):=ckT (t:=Qeb s) (by delta Qeb;infer_instance)
instance yd (l:(List Q0j)) (p:(List UInt8)):Ck (Q6e l p):=ckT (t:=Qc l p) (by delta Qc;infer_instance)
instance yC (s:(List UInt8)):Ck (Qj3 s):=ckT (t:=Qe4 s) (by delta Qe4;infer_instance)
instance vd (l:(List Q26)) (label:(List UInt8)):Ck (Q3k l label):=let d:Decidable (Q3k l label):=(by delta Q3k;infer_instance);⟨@decide _ d,@oY _ d⟩
instance vW (src:(List UInt8)):Ck (Qmk src):=ckT (t:=Qjl src) (by delta Qjl;infer_instance)
instance qX (st:Q0b) (v:Int):Ck (Qac st v):=ckT (t:=Qi8 st v) (by delta Qi8;infer_instance)
instance Zpu (src:(List UInt8)):Ck (Qak src):=ckT (t:=Q9s src) (by delta Q9s;infer_instance)
theorem xae:Qak ((108:UInt8)::(tblZe0++Z8d++(Z9q++Z7x)++(Z9d++Z82++(Z8i++Z7u))++(Z84++Z8w++(Qwj++Qxd)++(Qxi++Qx2++(Qwg++Qvu))))):=ck inferInstance (by kernel_rfl)
def inU(x:Int):Bool:=decide (0<=x)&&decide (x<4294967296)
theorem qaf(l:List Int)(h:(Nat.ble l.length 160&&List.all l inU)=true):l.length<=160/\ ∀w∈l,U w:=by
 rw[aE]at h
 refine⟨lE h.1,λw hw=> ?_⟩
 have:=List.all_eq_true.1 h.2 w hw
 simp only[inU,aE,decide_eq_true_eq]at this
 exact this
theorem qe:(Q1k (List.append (List.append (List.append (List.append Zaf Z8d) (List.append Z9q Z7x)) (List.append (List.append Z9d Z82) (List.append Z8i Z7u))) (List.append (List.append (List.append Z84 Z8w) (List.append Qwj Qxd)) (List.append (List.append Qxi Qx2) (List.append Qwg Qvu))))).1.length<=160/\ ∀w∈(Q1k (List.append (List.append (List.append (List.append Zaf Z8d) (List.append Z9q Z7x)) (List.append (List.append Z9d Z82) (List.append Z8i Z7u))) (List.append (List.append (List.append Z84 Z8w) (List.append Qwj Qxd)) (List.append (List.append Qxi Qx2) (List.append Qwg Qvu))))).1,U w:=qaf _ (by kernel_rfl)
end
theorem new_w(i:List Int)(hu: ∀w∈i,U w)(hl:i.length<=256):(Q8x 8 4 i).w (λx=>okM 8 x.1/\x.1.A1=0):=by
 unfold Q8x
 refine w_br (λh=>absurd h (by decide)) λ_=>w_br (λh=>absurd h (by decide)) λ_=>w_br (λh=>absurd h (by decide)) λ_=>w_br (λh=>absurd h (by decide)) λ_=>w_br (λh=> ?_) λ_=>w_lv λx0 e0=>w_an (Zgn _) (w_lv λx1 e1=> ?_)
 . have h:=oY h
   rw[show i64.wrap (8*32)=256 by decide]at h
   omega
 have hx:x1=List.replicate 256 0:=by rw[e1];kernel_rfl
 have c0:Q2g x0:=by rw[e0];exact⟨by
   intro w hw
   simp only[Qpz,Qkl,Tree.m,A16.l,List.mem_cons,List.not_mem_nil,or_false,or_self]at hw
   rw[hw];exact U_0,U_0,by
   intro w hw
   simp only[Qpz,Qkl,Tree.m,A8.l,List.mem_cons,List.not_mem_nil,or_false,or_self]at hw
   rcases hw with rfl|rfl
   . exact⟨by omega,by omega⟩
   . exact U_0⟩
 have hz: ∀w∈x1,U w:=by rw[hx];exact U_all 256
 have hn:x1.length=256:=by rw[hx,List.length_replicate]
 refine⟨⟨c0,⟨?_,by omega,by omega,λw hw=> ?_⟩,⟨U_0,U_0,U_0,U_0⟩,⟨U_0,U_0,U_0,U_0⟩,⟨U_0,U_0⟩,Int.le_refl _⟩,rfl⟩
 . simp only[lA,List.length_take,List.length_drop,hn];omega
 . rcases List.mem_append.1 hw with h1|h1
   . exact hu w (List.mem_of_mem_take h1)
   . exact hz w (List.mem_of_mem_drop h1)
theorem xe(kind:Int)(l:List Int)(hl:l.length*8<=reachBytes):(Q72 kind l).w (λx=> ∃Q,okM Q x):=by
  have hl':l.length*8<=140737488351232:=hl
  unfold Q72
  refine w_an (Qj1 (by decide)) (w_lv λx0 _=>w_br (λ_=>w_an xae (w_lv λx1 e1=> ?_)) (λ_=> ?_))
  . obtain⟨q1,q2⟩:x1.1.length<=160/\ ∀w∈x1.1,U w:=by rw[e1];exact qe
    refine w_lp (inv:=λv:List Int=>v.length<=160/\ ∀w∈v,U w) (μ:=Qee kind l) ⟨q1,q2⟩ (Nat.lt_succ_self _) λv0 ⟨a1,a2⟩=> ?_
    refine w_br (λhb=> ?_) (λ_=> ?_)
    . have hb:=oY hb
      refine w_cn (dY (by omega)) (w_nx ?_)
      show(_/\_)/\(_:Nat)<_
      refine⟨⟨by rw[lA,List.length_singleton];omega,λw hw=> ?_⟩,by show 160-(v0++[0]).length<160-v0.length;rw[lA,List.length_singleton];omega⟩
      rcases List.mem_append.1 hw with h1|h1
      . exact a2 w h1
      . rw[List.mem_singleton.1 h1];exact U_0
    . refine Q0e (qd l hl) λx2 ⟨b1,b2⟩=>w_cn (dY (by omega)) ?_
      have hu: ∀w∈v0++x2,U w:=λw hw=>(List.mem_append.1 hw).elim (a2 w) (b2 w)
      refine w_br (λhb=> ?_) (λhb=> ?_)
      . have hb:=oY hb
        refine w_cn (by simp [Nat.blt];rw[lA]at hb;omega) (Q0e (new_w _ (λw hw=>hu w (List.mem_of_mem_drop (List.mem_of_mem_take hw))) (by rw[List.length_take];exact Nat.le_trans (Nat.min_le_left _ _) (by decide))) λx3 ⟨c1,c2⟩=>w_br (λ_=>Q0e (Zmw c1 (by omega)) λx4 hx=>hx) (λ_=>⟨8,c1⟩))
      . have hb:=oN hb
        exact Q0e (new_w _ hu (by omega)) λx3 ⟨c1,c2⟩=>w_br (λ_=>Q0e (Zmw c1 (by omega)) λx4 hx=>hx) (λ_=>⟨8,c1⟩)
  . refine Q0e (qd l hl) λx2 ⟨b1,b2⟩=>w_cn (dY (by omega)) ?_
    refine w_br (λhb=> ?_) (λhb=> ?_)
    . have hb:=oY hb
      refine w_cn (by simp [Nat.blt];omega) (Q0e (new_w _ (λw hw=>b2 w (List.mem_of_mem_drop (List.mem_of_mem_take hw))) (by rw[List.length_take];exact Nat.le_trans (Nat.min_le_left _ _) (by decide))) λx3 ⟨c1,c2⟩=>w_br (λ_=>Q0e (Zmw c1 (by omega)) λx4 hx=>hx) (λ_=>⟨8,c1⟩))
    . have hb:=oN hb
      exact Q0e (new_w _ b2 (by omega)) λx3 ⟨c1,c2⟩=>w_br (λ_=>Q0e (Zmw c1 (by omega)) λx4 hx=>hx) (λ_=>⟨8,c1⟩)
theorem zaC{P:Nat}{r:Q01}(h:okR P r)(n:Int)(hl:r.B4.length<=900000)(hq:r.A6.length<=16)(hu: ∀q∈r.A6,U q.N):
   (Q88 r n).w (λx=>okR P x.1/\x.1.B4.length<=r.B4.length+8016/\(x.1.A6.length<=16/\ ∀q∈x.1.A6,U q.N)/\x.2.length<=4000):=by
 unfold Q88
 refine w_lv λx0 _=>w_br (λ_=>Q0e (yx n) λe he=>Q0e (vU h e (by omega) hq hu he) λx hx=> ?_) (λ_=>w_an (Qj1 (by decide)) (w_lv λx3 _=>Q0e (Zg5 h _ (Q0s _) hl (by omega) hu) λx hx=> ?_))
 . obtain⟨a1,a2,a3,a4⟩:=hx
   exact⟨a1,by rw[a2];omega,⟨a3,a4⟩,Nat.zero_le _⟩
 . obtain⟨a1,a2,a3,a4⟩:=hx
   refine⟨a1,by show x.1.B4.length<=_;omega,?_,a4⟩
   rcases a3 with a3|a3
   . rw[a3];exact⟨hq,hu⟩
   . rw[a3];exact⟨Nat.zero_le _,λq hq=>by cases hq⟩
theorem xaC{P:Nat}{m:Q00}(h:okM P m)(l:List Int)(hl:l.length<=30):(Qcj m l).w (λx=>okR P x.1):=by
 unfold Qcj
 have nr:(Q4 m).w (λx=>okR P x/\x.B4=[]/\x.A6=[]):=by
   unfold Q4
   exact Q0e (zW h) λx hx=>⟨⟨hx.1,U_0⟩,rfl,rfl⟩
 refine Q0e nr λx0 ⟨n1,n2,n3⟩=> ?_
 refine w_lp (inv:=λv:Int×Q01×List Q04=>0<=v.1/\v.1<=l.length/\okR P v.2.1/\(v.2.1.B4.length:Int)<=8016*v.1/\(v.2.1.A6.length<=16/\ ∀q∈v.2.1.A6,U q.N)/\(v.2.2.length:Int)<=4000*v.1) (μ:=Qi9 m l) ⟨Int.le_refl _,by show(0:Int)<=l.length;omega,n1,by rw[n2];exact Int.le_refl _,by rw[n3];exact⟨Nat.zero_le _,λq hq=>by cases hq⟩,Int.le_refl _⟩ (Nat.lt_succ_self _) λv0 ⟨a1,a2,a3,a4,⟨a5,a6⟩,a7⟩=> ?_
 refine w_br (λhb=> ?_) (λ_=>a3)
 have hb:=oY hb
 refine w_cn (by simp [Nat.blt];omega) (Q0e (zaC a3 _ (by omega) a5 a6) λx1 ⟨b1,b2,b3,b4⟩=>w_cn (dY (by omega)) (w_nx ?_))
 have e:i64.wrap (v0.1+1)=v0.1+1:=by rw[wrap_i64];omega
 show(_/\_/\_/\_/\_/\_)/\(_:Nat)<_
 refine⟨⟨by rw[e];omega,by rw[e];omega,b1,by rw[e];show(x1.1.B4.length:Int)<=_;omega,b3,by rw[e,lA];omega⟩,by show(l.length-i64.wrap (v0.1+1)).toNat<(l.length-v0.1).toNat;rw[e];omega⟩
noncomputable section
def boot:List Int:=(Q1k (List.append (List.append (List.append (List.append Zaf Z8d) (List.append Z9q Z7x)) (List.append (List.append Z9d Z82) (List.append Z8i Z7u))) (List.append (List.append (List.append Z84 Z8w) (List.append Qwj Qxd)) (List.append (List.append Qxi Qx2) (List.append Qwg Qvu))))).1
def Ql5:List Int:=boot++List.replicate (160-boot.length) 0
theorem run87(t0 t1 t2 t3 t4 t5 t6 t7 t8 t9 t10 t11 t12 t13 t14 t15 t16 t17 t18 t19 t20 t21 t22 t23 t24 t25 t26 t27 t28 t29 t30 t31 t32 t33 t34 t35 t36 t37 t38 t39 t40 t41 t42 t43 t44 t45 t46 t47 t48 t49 t50 t51 t52 t53 t54 t55 t56 t57 t58 t59 t60 t61 t62 t63 t64 t65 t66 t67 t68 t69 t70 t71 t72 t73 t74 t75 t76 t77 t78 t79 t80 t81 t82 t83 t84 t85 t86 t87 t88 t89 t90 t91 t92 t93 t94 t95:Int):(Qf3 (Q1y 8 4 (Ql5++[t0,t1,t2,t3,t4,t5,t6,t7,t8,t9,t10,t11,t12,t13,t14,t15,t16,t17,t18,t19,t20,t21,t22,t23,t24,t25,t26,t27,t28,t29,t30,t31,t32,t33,t34,t35,t36,t37,t38,t39,t40,t41,t42,t43,t44,t45,t46,t47,t48,t49,t50,t51,t52,t53,t54,t55,t56,t57,t58,t59,t60,t61,t62,t63,t64,t65,t66,t67,t68,t69,t70,t71,t72,t73,t74,t75,t76,t77,t78,t79,t80,t81,t82,t83,t84,t85,t86,t87,t88,t89,t90,t91,t92,t93,t94,t95])).1 [] 87).2.2.2=0:=by kernel_rfl
end
attribute [local irreducible] Q1k
theorem zaf(i j:List Int)(hi:i.length<=256)(hj:j.length<=256)(e:i++List.replicate (256-i.length) 0=j++List.replicate (256-j.length) 0):Q1y 8 4 i=Q1y 8 4 j:=by
 have w:i64.wrap (8*32)=256:=by decide
 have m:Qtz 8=List.replicate 256 0:=by kernel_rfl
 have d: ∀k:List Int,k.length<=256->decide ((k.length:Int)>256)=false:=λk h=>dN (by omega)
 have mem: ∀k:List Int,k.length<=256->List.take (min k.length (List.replicate 256 (0:Int)).length) k++List.drop (min k.length (List.replicate 256 (0:Int)).length) (List.replicate 256 0)=k++List.replicate (256-k.length) 0:=λk h=>by
   rw[List.length_replicate,Nat.min_eq_left h,List.take_length,List.drop_replicate]
 have r:Qtz 8=List.replicate 256 0:=by kernel_rfl
 simp only[Q1y,Q8x,Tree.m,w,letv,r,d i hi,d j hj]
 simp only[mem i hi,mem j hj,e]
theorem list96(t:List Int)(ht:t.length=96):t=[t.getD 0 0,t.getD 1 0,t.getD 2 0,t.getD 3 0,t.getD 4 0,t.getD 5 0,t.getD 6 0,t.getD 7 0,t.getD 8 0,t.getD 9 0,t.getD 10 0,t.getD 11 0,t.getD 12 0,t.getD 13 0,t.getD 14 0,t.getD 15 0,t.getD 16 0,t.getD 17 0,t.getD 18 0,t.getD 19 0,t.getD 20 0,t.getD 21 0,t.getD 22 0,t.getD 23 0,t.getD 24 0,t.getD 25 0,t.getD 26 0,t.getD 27 0,t.getD 28 0,t.getD 29 0,t.getD 30 0,t.getD 31 0,t.getD 32 0,t.getD 33 0,t.getD 34 0,t.getD 35 0,t.getD 36 0,t.getD 37 0,t.getD 38 0,t.getD 39 0,t.getD 40 0,t.getD 41 0,t.getD 42 0,t.getD 43 0,t.getD 44 0,t.getD 45 0,t.getD 46 0,t.getD 47 0,t.getD 48 0,t.getD 49 0,t.getD 50 0,t.getD 51 0,t.getD 52 0,t.getD 53 0,t.getD 54 0,t.getD 55 0,t.getD 56 0,t.getD 57 0,t.getD 58 0,t.getD 59 0,t.getD 60 0,t.getD 61 0,t.getD 62 0,t.getD 63 0,t.getD 64 0,t.getD 65 0,t.getD 66 0,t.getD 67 0,t.getD 68 0,t.getD 69 0,t.getD 70 0,t.getD 71 0,t.getD 72 0,t.getD 73 0,t.getD 74 0,t.getD 75 0,t.getD 76 0,t.getD 77 0,t.getD 78 0,t.getD 79 0,t.getD 80 0,t.getD 81 0,t.getD 82 0,t.getD 83 0,t.getD 84 0,t.getD 85 0,t.getD 86 0,t.getD 87 0,t.getD 88 0,t.getD 89 0,t.getD 90 0,t.getD 91 0,t.getD 92 0,t.getD 93 0,t.getD 94 0,t.getD 95 0]:=by
 apply List.ext_getElem
 . rw[ht];rfl
 . intro i h1 h2
   have e: ∀j (hj:j<96),[t.getD 0 0,t.getD 1 0,t.getD 2 0,t.getD 3 0,t.getD 4 0,t.getD 5 0,t.getD 6 0,t.getD 7 0,t.getD 8 0,t.getD 9 0,t.getD 10 0,t.getD 11 0,t.getD 12 0,t.getD 13 0,t.getD 14 0,t.getD 15 0,t.getD 16 0,t.getD 17 0,t.getD 18 0,t.getD 19 0,t.getD 20 0,t.getD 21 0,t.getD 22 0,t.getD 23 0,t.getD 24 0,t.getD 25 0,t.getD 26 0,t.getD 27 0,t.getD 28 0,t.getD 29 0,t.getD 30 0,t.getD 31 0,t.getD 32 0,t.getD 33 0,t.getD 34 0,t.getD 35 0,t.getD 36 0,t.getD 37 0,t.getD 38 0,t.getD 39 0,t.getD 40 0,t.getD 41 0,t.getD 42 0,t.getD 43 0,t.getD 44 0,t.getD 45 0,t.getD 46 0,t.getD 47 0,t.getD 48 0,t.getD 49 0,t.getD 50 0,t.getD 51 0,t.getD 52 0,t.getD 53 0,t.getD 54 0,t.getD 55 0,t.getD 56 0,t.getD 57 0,t.getD 58 0,t.getD 59 0,t.getD 60 0,t.getD 61 0,t.getD 62 0,t.getD 63 0,t.getD 64 0,t.getD 65 0,t.getD 66 0,t.getD 67 0,t.getD 68 0,t.getD 69 0,t.getD 70 0,t.getD 71 0,t.getD 72 0,t.getD 73 0,t.getD 74 0,t.getD 75 0,t.getD 76 0,t.getD 77 0,t.getD 78 0,t.getD 79 0,t.getD 80 0,t.getD 81 0,t.getD 82 0,t.getD 83 0,t.getD 84 0,t.getD 85 0,t.getD 86 0,t.getD 87 0,t.getD 88 0,t.getD 89 0,t.getD 90 0,t.getD 91 0,t.getD 92 0,t.getD 93 0,t.getD 94 0,t.getD 95 0][j]'hj=t.getD j 0:=by
     intro j hj
     have:[t.getD 0 0,t.getD 1 0,t.getD 2 0,t.getD 3 0,t.getD 4 0,t.getD 5 0,t.getD 6 0,t.getD 7 0,t.getD 8 0,t.getD 9 0,t.getD 10 0,t.getD 11 0,t.getD 12 0,t.getD 13 0,t.getD 14 0,t.getD 15 0,t.getD 16 0,t.getD 17 0,t.getD 18 0,t.getD 19 0,t.getD 20 0,t.getD 21 0,t.getD 22 0,t.getD 23 0,t.getD 24 0,t.getD 25 0,t.getD 26 0,t.getD 27 0,t.getD 28 0,t.getD 29 0,t.getD 30 0,t.getD 31 0,t.getD 32 0,t.getD 33 0,t.getD 34 0,t.getD 35 0,t.getD 36 0,t.getD 37 0,t.getD 38 0,t.getD 39 0,t.getD 40 0,t.getD 41 0,t.getD 42 0,t.getD 43 0,t.getD 44 0,t.getD 45 0,t.getD 46 0,t.getD 47 0,t.getD 48 0,t.getD 49 0,t.getD 50 0,t.getD 51 0,t.getD 52 0,t.getD 53 0,t.getD 54 0,t.getD 55 0,t.getD 56 0,t.getD 57 0,t.getD 58 0,t.getD 59 0,t.getD 60 0,t.getD 61 0,t.getD 62 0,t.getD 63 0,t.getD 64 0,t.getD 65 0,t.getD 66 0,t.getD 67 0,t.getD 68 0,t.getD 69 0,t.getD 70 0,t.getD 71 0,t.getD 72 0,t.getD 73 0,t.getD 74 0,t.getD 75 0,t.getD 76 0,t.getD 77 0,t.getD 78 0,t.getD 79 0,t.getD 80 0,t.getD 81 0,t.getD 82 0,t.getD 83 0,t.getD 84 0,t.getD 85 0,t.getD 86 0,t.getD 87 0,t.getD 88 0,t.getD 89 0,t.getD 90 0,t.getD 91 0,t.getD 92 0,t.getD 93 0,t.getD 94 0,t.getD 95 0]=(List.range 96).map (λk=>t.getD k 0):=rfl
     simp only[this,List.getElem_map,List.getElem_range]
   rw[e i (by omega),List.getD_eq_getElem?_getD,List.getElem?_eq_getElem h1]
   rfl
theorem qaD(t:List Int)(ht:t.length=96):(Qf3 (Q1y 8 4 (Ql5++t)).1 [] 87).2.2.2=0:=by
 rw[list96 t ht]
 exact run87 _ _ _ _ _ _ _ _ _ _ _ _ _ _ _ _ _ _ _ _ _ _ _ _ _ _ _ _ _ _ _ _ _ _ _ _ _ _ _ _ _ _ _ _ _ _ _ _ _ _ _ _ _ _ _ _ _ _ _ _ _ _ _ _ _ _ _ _ _ _ _ _ _ _ _ _ _ _ _ _ _ _ _ _ _ _ _ _ _ _ _ _ _ _ _ _
theorem xaf:Ql5.length=160:=by
 have h:boot.length<=160:=qe.1
 unfold Ql5
 rw[lA,List.length_replicate];omega
def out(f:Int)(m m':List Int):Prop:= ∀j:Nat,¬(f*32<=j/\(j:Int)<f*32+32)->m'.getD j 0=m.getD j 0
theorem Qqm(f:Int)(m:List Int):out f m m:=λ_ _=>rfl
theorem getDset(l:List Int)(i j:Nat)(v:Int)(h:i≠j):(l.set i v).getD j 0=l.getD j 0:=by
 simp only[List.getD_eq_getElem?_getD,List.getElem?_set_ne h]
theorem Q3q{P:Nat}{m:List Int}(h:Q15 P m):Q0x m=P:=by
 obtain⟨h1,h2,h3,_⟩:=h
 simp only[Q0x,Q8u,Tree.m]
 have e:(m.length:Int)=32*P:=by omega
 rw[e]
 have e1:(Int.tmod (32*(P:Int)) 32 !=0)=false:=by simp [Int.mul_tmod_right]
 have e2:decide ((32*(P:Int))>1024)=false:=dN (by omega)
 rw[e1,e2]
 simp only[cond_false]
 rw[Int.mul_tdiv_cancel_left _ (by decide),wrap_i64];omega
theorem xX{P:Nat}{m:List Int}(h:Q15 P m)(f:Int):Q5g m f=true->0<=f/\f<P:=by
 have hp:=Q3q h
 simp only[Q5g,Q8j,Tree.m,letv,hp]
 cases h1:decide (f>=0)
 . intro h;cases h
 . intro h;exact⟨oY h1,oY h⟩
theorem Z3n{P:Nat}{m:List Int}(h:Q15 P m)(f:Int)(s:List UInt8):(Q3n m f s).w (λr=>Q15 P r.1/\out f m r.1/\(r.2=false->r.1=m)):=by
 have hcl:Q03 m=m:=rfl
 have h2:=h.p2
 unfold Q3n
 refine w_an (Q9e h) (w_lv λx0 hx0=>w_lv λx1 hx1=> ?_)
 rw[hcl]at hx0;subst hx0
 refine w_br (λ_=>⟨h,Qqm _ _,λ_=>rfl⟩) λhb=>w_br (λ_=>⟨h,Qqm _ _,λ_=>rfl⟩) λhs=> ?_
 have hb:x1=true:=by simpa using hb
 obtain⟨f0,f1⟩:=xX h f (hx1.symm.trans hb)
 have hs:(s.length:Int)=128:=by simpa using hs
 refine w_lp (inv:=λz:Int×List Int=>0<=z.1/\z.1<=32/\Q15 P z.2/\out f x0 z.2) (μ:=Qb9 x0 f s) ⟨show(0:Int)<=0 by decide,show(0:Int)<=32 by decide,h,Qqm _ _⟩ (Nat.lt_succ_self _) λz ⟨z1,z2,z3,z4⟩=> ?_
 refine w_br (λhb=> ?_) (λ_=>⟨z3,z4,λh=>by cases h⟩)
 have hb:=oY hb
 have e1:i64.wrap (4*z.1)=4*z.1:=by rw[wrap_i64];omega
 have e2:i64.wrap (i64.wrap (4*z.1)+4)=4*z.1+4:=by rw[wrap_i64,wrap_i64];omega
 have e3:i64.wrap (i64.wrap (f*32)+z.1)=f*32+z.1:=by rw[wrap_i64,wrap_i64];omega
 have hl:=z3.len
 have hlen:(List.take (Int.toNat (i64.wrap (i64.wrap (4*z.1)+4))-Int.toNat (i64.wrap (4*z.1))) (List.drop (Int.toNat (i64.wrap (4*z.1))) s)).length=4:=by
   rw[e2,e1,List.length_take,List.length_drop];omega
 refine w_cn (dY (by rw[e2,e1];omega)) ?_
 refine w_cn (dY (by rw[hlen];decide)) (w_cn (dY (by rw[hlen];decide)) (w_cn (dY (by rw[hlen];decide)) (w_cn (dY (by rw[hlen];decide)) (w_cn (by rw[e3];simp [Nat.blt];omega) (w_nx ?_)))))
 show(_/\_/\Q15 P (List.set _ _ _)/\out f x0 (List.set _ _ _))/\(_:Nat)<_
 have ew:i64.wrap (z.1+1)=z.1+1:=by rw[wrap_i64];omega
 rw[e3]
 refine⟨⟨by rw[ew];omega,by rw[ew];omega,⟨by rw[List.length_set];exact hl,z3.p1,z3.p2,Z6c z3.u (U_or _ _) _⟩,λj hj=> ?_⟩,by show(32-i64.wrap (z.1+1)).toNat<(32-z.1).toNat;rw[ew];omega⟩
 rw[getDset _ _ _ _ (by omega)]
 exact z4 j hj
theorem zaD(w:List Int)(h:w.length<=32):(Q59 w).w (λr=>r.length=4*w.length):=by
 have e0:i64.wrap (4*(w.length:Int))=4*w.length:=by rw[wrap_i64];omega
 unfold Q59
 refine w_cn (by rw[e0];simp [Nat.blt,D.plain];omega) ?_
 refine w_lp (inv:=λz:Int×List Int=>0<=z.1/\z.1<=w.length/\(z.2.length:Int)=4*z.1) (μ:=Q7u w) ⟨by decide,by show(0:Int)<=w.length;omega,rfl⟩ (Nat.lt_succ_self _) λz ⟨z1,z2,z3⟩=> ?_
 refine w_br (λhb=> ?_) (λhb=> ?_)
 . have hb:=oY hb
   have ew:i64.wrap (z.1+1)=z.1+1:=by rw[wrap_i64];omega
   refine w_cn (by simp [Nat.blt];omega) (w_cn (dY (by omega)) (w_nx ?_))
   show(_/\_/\_)/\(_:Nat)<_
   refine⟨⟨by rw[ew];omega,by rw[ew];omega,by rw[ew,lA];simp only[List.length_cons,List.length_nil];omega⟩,by show(w.length-i64.wrap (z.1+1)).toNat<(w.length-z.1).toNat;rw[ew];omega⟩
 . have hb:=oN hb
   show(bytesOf z.2).length=_
   rw[Qjr];omega
theorem Ziq{P:Nat}{m:List Int}(h:Q15 P m)(f:Int):(Q6z m f).w (λr=>0<=f->f<P->r.1.length=128):=by
 have hl:=h.len
 have h2:=h.p2
 unfold Q6z
 refine w_lv λx0 hx0=>w_br (λhb=>λf0 f1=> ?_) (λhb=> ?_)
 . have hp:=Q3q h
   have hb:x0=false:=by simpa using hb
   rw[hb]at hx0
   simp only[Q5g,Q8j,Tree.m,letv,hp]at hx0
   rw[dY f0]at hx0
   exact absurd f1 (oN hx0.symm)
 . have hb:x0=true:=by simpa using hb
   obtain⟨f0,f1⟩:=xX h f (hx0.symm.trans hb)
   have e1:i64.wrap (f*32)=f*32:=by rw[wrap_i64];omega
   have e2:i64.wrap (i64.wrap (f*32)+32)=f*32+32:=by rw[wrap_i64,wrap_i64];omega
   have hlen:(List.take (Int.toNat (i64.wrap (i64.wrap (f*32)+32))-Int.toNat (i64.wrap (f*32))) (List.drop (Int.toNat (i64.wrap (f*32))) m)).length=32:=by
     rw[e2,e1,List.length_take,List.length_drop];omega
   refine w_cn (by rw[e2,e1];simp [Nat.blt];omega) ?_
   refine w_an (by show List.length _<=1000000000000;rw[hlen];decide) (w_lv λx1 h1=> ?_)
   have h1:x1.length=4*(List.take (Int.toNat (i64.wrap (i64.wrap (f*32)+32))-Int.toNat (i64.wrap (f*32))) (List.drop (Int.toNat (i64.wrap (f*32))) m)).length:=by rw[h1];exact(Tree.pp (zaD _ (Nat.le_of_eq hlen))).2
   intro _ _
   show x1.length=128
   rw[h1,hlen]
theorem Zmj{f:Int}(hf:U f){P:Nat}(hP:P<=32)(h:decide (u64.wrap f<u64.wrap (P:Int))=true):0<=f/\f<P:=by
 have h:=oY h
 obtain⟨h1,h2⟩:=hf
 rw[wrap_u64,wrap_u64,Int.emod_eq_of_lt h1 (by omega),Int.emod_eq_of_lt (by omega) (by omega)]at h
 exact⟨h1,h⟩
theorem Zo7{P:Nat}{m:List Int}(h:Q15 P m){d:Q0f}(hd:Q95 d)(e:Q0a):(Q7j d m e).w (λr=>Q95 r.1/\Q15 P r.2.1/\out d.B3 m r.2.1/\(r.2.2=false->r.2.1=m)/\(∀p,Q1l d p=true->Q1l r.1 p=true)):=by
 have hcl:Q03 m=m:=rfl
 have keep: ∀b:Bool,Q95 d/\Q15 P m/\out d.B3 m m/\(b=false->m=m)/\(∀p,Q1l d p=true->Q1l d p=true):=λb=>⟨hd,h,Qqm _ _,λ_=>rfl,λ_ h=>h⟩
 have blk: ∀{p:Int},Q1l d p=true->decide (d.Blocks>64)=false:=fun{p} hm=>by
   cases hb:decide (d.Blocks>64)
   . rfl
   . have:Q1l d p=false:=by simp only[Q1l,Q6d,Tree.m];rw[hb];rfl
     rw[this]at hm;cases hm
 have m2: ∀p,Q1l d p=true->Q1l {Blocks:=d.Blocks,C0:=d.C0,Frame:=d.Frame,C1:=2,D8:=0,B7:=0,B3:=0,C3:=[]} p=true:=λp hm=>by
   simp only[Q1l,Q6d,Tree.m];rw[blk hm];rfl
 have m3: ∀p,Q1l d p=true->Q1l {Blocks:=d.Blocks,C0:=d.C0,Frame:=d.Frame,C1:=3,D8:=0,B7:=0,B3:=0,C3:=[]} p=true:=λp hm=>by
   simp only[Q1l,Q6d,Tree.m];rw[blk hm];rfl
 unfold Q7j
 refine w_br (λ_=>w_an (Q9e h) (w_lv λx hx=>by rw[hcl]at hx;subst hx;exact keep _)) λ_=>w_br (λ_=>w_an (Q9e h) (w_lv λx hx=>by rw[hcl]at hx;subst hx;exact keep _)) λ_=>w_br (λ_=>w_an (Q9e h) (w_lv λx hx=>by rw[hcl]at hx;subst hx;exact keep _)) λ_=>w_an (Q9e h) (w_lv λx3 hx3=> ?_)
 rw[hcl]at hx3;subst hx3
 have fin: ∀{m':List Int},Q15 P m'->out d.B3 x3 m'->(Tree.br (e.N==1) (.lf (({Blocks:=d.Blocks,C0:=d.C0,Frame:=d.Frame,C1:=2,D8:=0,B7:=0,B3:=0,C3:=[]}:Q0f),m',true)) (.lf (({Blocks:=d.Blocks,C0:=d.C0,Frame:=d.Frame,C1:=3,D8:=0,B7:=0,B3:=0,C3:=[]}:Q0f),m',true))).w (λr=>Q95 r.1/\Q15 P r.2.1/\out d.B3 x3 r.2.1/\(r.2.2=false->r.2.1=x3)/\(∀p,Q1l d p=true->Q1l r.1 p=true)):=λhm ho=>
   w_br (λ_=>⟨⟨hd.block,hd.frame,U_0,U_0⟩,hm,ho,(λh=>by cases h),m2⟩) (λ_=>⟨⟨hd.block,hd.frame,U_0,U_0⟩,hm,ho,(λh=>by cases h),m3⟩)
 have nod:(Tree.br (!decide (e.C8=[])) (.lf (d,x3,false)) (Tree.br (e.N==1) (.lf (({Blocks:=d.Blocks,C0:=d.C0,Frame:=d.Frame,C1:=2,D8:=0,B7:=0,B3:=0,C3:=[]}:Q0f),x3,true)) (.lf (({Blocks:=d.Blocks,C0:=d.C0,Frame:=d.Frame,C1:=3,D8:=0,B7:=0,B3:=0,C3:=[]}:Q0f),x3,true)))).w (λr=>Q95 r.1/\Q15 P r.2.1/\out d.B3 x3 r.2.1/\(r.2.2=false->r.2.1=x3)/\(∀p,Q1l d p=true->Q1l r.1 p=true)):=
   w_br (λ_=>keep _) (λ_=>fin h (Qqm _ _))
 refine w_br (λ_=>w_br (λ_=>w_lv λx4 hx4=>w_br (λ_=>keep _) λhb=> ?_) (λ_=>nod)) (λ_=>nod)
 have hp:=Q3q h
 have hb:x4=true:=by simpa using hb
 rw[hb]at hx4
 simp only[Q9p,Qe2,Tree.m,letv,hp]at hx4
 obtain⟨f0,f1⟩:=Zmj hd.opFrame h.p2 hx4.symm
 have ef:i64.wrap d.B3=d.B3:=by have:=h.p2;rw[wrap_i64];omega
 refine Q0e (Z3n h _ _) λx5 ⟨h5,o5,k5⟩=> ?_
 rw[ef]at o5
 exact w_br (λhf=>⟨hd,h5,o5,λ_=>k5 (by simpa using hf),λ_ h=>h⟩) (λ_=>fin h5 o5)
theorem ye{P:Nat}{m:List Int}(h:Q15 P m){n:Q0r}(hn:Qk2 n)(frame:List UInt8):(Qaf n m frame).w (λr=>Qk2 r.1/\Q15 P r.2.1/\out n.B9 m r.2.1/\(r.2.2=false->r.2.1=m)/\(∀p,Q68 n p=true->Q68 r.1 p=true)):=by
 have hcl:Q03 m=m:=rfl
 have keep:Qk2 n/\Q15 P m/\out n.B9 m m/\(false=false->m=m)/\(∀p,Q68 n p=true->Q68 n p=true):=⟨hn,h,Qqm _ _,λ_=>rfl,λ_ h=>h⟩
 unfold Qaf
 refine w_br (λ_=>w_an (Q9e h) (w_lv λx hx=>by rw[hcl]at hx;subst hx;exact keep)) λhpo=>w_br (λ_=>w_an (Q9e h) (w_lv λx hx=>by rw[hcl]at hx;subst hx;exact keep)) λl1=>w_br (λ_=>w_an (Q9e h) (w_lv λx hx=>by rw[hcl]at hx;subst hx;exact keep)) λl2=>w_lv λx3 hx3=>w_br (λ_=>w_an (Q9e h) (w_lv λx hx=>by rw[hcl]at hx;subst hx;exact keep)) λhb=> ?_
 have l1:=oN l1
 have l2:=oN l2
 have hp:=Q3q h
 have hb:x3=true:=by simpa using hb
 rw[hb]at hx3
 simp only[Qan,Qgr,Tree.m,letv,hp]at hx3
 obtain⟨f0,f1⟩:=Zmj hn.buffer h.p2 hx3.symm
 have ef:i64.wrap n.B9=n.B9:=by have:=h.p2;rw[wrap_i64];omega
 refine Q0e (Ziq h _) λx5 h5=> ?_
 rw[ef]at h5
 have h5:=h5 f0 f1
 have hmax:(maxLen:Nat)=9223372036854775807:=rfl
 refine w_cn (dY (by omega)) (w_cn (dY (by simp only[List.length_take,List.length_drop,hmax];omega)) (Q0e (Z3n h _ _) λx6 ⟨h6,o6,_⟩=> ?_))
 rw[ef]at o6
 have hg:u32.wrap (frame.length:Int)=frame.length:=by rw[wrap_u32];omega
 refine⟨⟨hn.frame,hn.len,U_0,Q0s _⟩,h6,o6,(λh=>by cases h),λp _=> ?_⟩
 simp only[Q68,Qly,Tree.m]
 rw[hg,dY (show(frame.length:Int)>=1 by omega),dY (show(frame.length:Int)<=128 by omega)]
 rfl
theorem qag(c:Q0c)(b:Int):(Qbo c b).w (λr=>Q2c c=true->Q2c r.1=true):=by
 have hmax:(maxLen:Nat)=9223372036854775807:=rfl
 unfold Qbo
 refine w_br (λ_=>λh=>h) (λhb=> ?_)
 have hb:=oN hb
 refine w_cn (dY (by rw[hmax];omega)) ?_
 intro _
 show decide (((c.D3++[_]).length:Int)<=16)=true
 rw[lA,List.length_singleton]
 exact dY (by omega)
theorem yG(t:Q0i)(h:Q4h t=true):Q4h (Ql8 t).1=true:=by
 simp only[Ql8,Qpo,Tree.m]
 cases ha:t.D2
 . exact h
 . rfl
theorem qf(m:Q00):Q10 m=(Q2c m.A4&&(Q4h m.B0&&(Q1l m.B1 (Q0x m.Mem)&&(Q68 m.C4 (Q0x m.Mem)&&Q2o m.A2 (Q0x m.Mem))))):=by
 simp only[Q10,Q1u,Tree.m,letv]
 cases Q2c m.A4<;>cases Q4h m.B0<;>cases Q1l m.B1 (Q0x m.Mem)<;>cases Q68 m.C4 (Q0x m.Mem)<;>rfl
theorem xaD{b c:Q09}(h:c.C2=b.C2)(p:Int):Q2o c p=Q2o b p:=by
 simp only[Q2o,Q42,Tree.m,h]
theorem cnd{a x y:Bool}(h:x=true->y=true):(bif a then false else x)=true->(bif a then false else y)=true:=by cases a<;>simp_all
def chain(b1 b2 b3 b4 b5 b6 b7 w h dev:Bool):Bool:=bif b1 then false else bif b2 then false else bif b3 then false else bif b4 then false else bif b5 then false else bif b6 then false else bif b7 then false else bif w then(bif h then false else dev) else dev
theorem Zpp{b1 b2 b3 b4 b5 b6 b7 w h d d':Bool}(hd:d=true->d'=true):chain b1 b2 b3 b4 b5 b6 b7 w h d=true->chain b1 b2 b3 b4 b5 b6 b7 w h d'=true:=by
 refine cnd (cnd (cnd (cnd (cnd (cnd (cnd ?_))))))
 cases w
 . exact hd
 . cases h
   . exact hd
   . exact λh=>h
def mayC(p:Int)(c:Q05)(ct:Int)(w h dev:Bool):Bool:=chain (p==0) (c.X.a0 !=0) (decide (c.B5.a0>31)) (decide (c.B5.a7>31)) (decide (c.B5.a6>255)) (Int.tmod c.B5.a1 4 !=0) (decide (ct>1152921504606846976)) w h dev
theorem xf{p:Int}{c:Q05}{ct:Int}{w h d d':Bool}(hd:d=true->d'=true)(g:mayC p c ct w h d=true):mayC p c ct w h d'=true:=Zpp hd g
theorem zX(m:Q00):Q1f m=mayC (Q0x m.Mem) m.B2 m.A1 m.A7 m.A9 (Q10 m):=rfl
theorem Qu1{m n:Q00}(hp:Q0x n.Mem=Q0x m.Mem)(hcpu:n.B2=m.B2)(hct:n.A1=m.A1)(hw:n.A7=m.A7)(hh:n.A9=m.A9)
   (hc:Q2c m.A4=true->Q2c n.A4=true) (ht:Q4h m.B0=true->Q4h n.B0=true) (hd: ∀p,Q1l m.B1 p=true->Q1l n.B1 p=true) (hn: ∀p,Q68 m.C4 p=true->Q68 n.C4 p=true) (hb:n.A2.C2=m.A2.C2) (h:Q1f m=true):Q1f n=true:=by
 have dev:Q10 m=true->Q10 n=true:=λh=>by
   rw[qf]at h⊢
   simp only[aE]at h⊢
   rw[hp,xaD hb]
   exact⟨hc h.1,ht h.2.1,hd _ h.2.2.1,hn _ h.2.2.2.1,h.2.2.2.2⟩
 rw[zX]at h⊢
 rw[hp,hcpu,hct,hw,hh]
 exact xf dev h
section
variable {P:Nat} {m:List Int} (h:Q15 P m)
include h
theorem dpage{f:Int}(hf:U f){b:Bool}(hx:b=Q9p m f)(hb:b=true):0<=f/\f<P:=by
 have hp:=Q3q h
 rw[hb]at hx
 simp only[Q9p,Qe2,Tree.m,letv,hp]at hx
 exact Zmj hf h.p2 hx.symm
theorem npage{f:Int}(hf:U f){b:Bool}(hx:b=Qan m f)(hb:b=true):0<=f/\f<P:=by
 have hp:=Q3q h
 rw[hb]at hx
 simp only[Qan,Qgr,Tree.m,letv,hp]at hx
 exact Zmj hf h.p2 hx.symm
def keepD(P:Nat)(d d':Q0f):Prop:=Q95 d'/\(Q1l d P=true->Q1l d' P=true)
theorem zf{d:Q0f}(hd:Q95 d){cmd:Int}(hc:cmd=1\/cmd=2)(at0:Int):(Qcz d m cmd at0).w (λr=>keepD P d r.1/\r.2.length<=1):=by
 have h2:=h.p2
 have st3:(d.C1 !=0)=false->keepD P d {Blocks:=d.Blocks,C0:=d.C0,Frame:=d.Frame,C1:=3,D8:=d.D8,B7:=d.B7,B3:=d.B3,C3:=d.C3}:=λhs=>by
   have hs:d.C1=0:=by simpa using hs
   refine⟨⟨hd.block,hd.frame,hd.opBlock,hd.opFrame⟩,λhm=> ?_⟩
   simp only[Q1l,Q6d,Tree.m,hs]at hm⊢
   exact hm
 have blk:Q1l d P=true->decide (d.Blocks>64)=false:=λhm=>by
   cases hb:decide (d.Blocks>64)
   . rfl
   . have:Q1l d P=false:=by simp only[Q1l,Q6d,Tree.m];rw[hb];rfl
     rw[this]at hm;cases hm
 unfold Qcz
 refine w_br (λ_=>⟨⟨hd,λh=>h⟩,Nat.zero_le _⟩) λhs=>w_br (λ_=>⟨st3 hs,Nat.zero_le _⟩) λhb=>w_lv λx0 hx=>w_br (λ_=>⟨st3 hs,Nat.zero_le _⟩) λhp=> ?_
 have hb:=oN hb
 obtain⟨f0,f1⟩:=dpage h hd.frame hx (by simpa using hp)
 have ef:i64.wrap d.Frame=d.Frame:=by rw[wrap_i64];omega
 have e1:decide (d.C0<d.Blocks)=true:=dY (by omega)
 have e2:decide (i64.wrap d.Frame<(P:Int))=true:=by rw[ef];exact dY f1
 refine w_br (λhcm=>Q0e (Ziq h _) λx1 h1=> ?_) (λhcm=> ?_)
 . rw[ef]at h1
   have h1:=h1 f0 f1
   have hcm:=eq_of_beq hcm
   subst hcm
   refine w_lv λx2 _=>⟨⟨⟨hd.block,hd.frame,hd.block,hd.frame⟩,λhm=> ?_⟩,Nat.le_refl _⟩
   simp only[Q1l,Q6d,Q9f,Q7x,Tree.m,letv,blk hm,e1,e2,h1]
   rfl
 . have hc:cmd=1:=by
     rcases hc with h|h
     . exact h
     . rw[h]at hcm;exact absurd hcm (by decide)
   subst hc
   refine w_lv λx2 _=>⟨⟨⟨hd.block,hd.frame,hd.block,hd.frame⟩,λhm=> ?_⟩,Nat.le_refl _⟩
   simp only[Q1l,Q6d,Q9f,Q7x,Tree.m,letv,blk hm,e1,e2]
   rfl
theorem zag{d:Q0f}(hd:Q95 d)(port:Int){v:Int}(hv:U v)(at0:Int):(Qi2 d m port v at0).w (λr=>keepD P d r.1/\r.2.length<=1):=by
 have keep:keepD P d d:=⟨hd,λh=>h⟩
 have e1: ∀{k:Int},(v==k)=true->i64.wrap v=k:=λhk=>by
   have:=eq_of_beq hk
   obtain⟨a,b⟩:=hv
   rw[wrap_i64];omega
 unfold Qi2
 refine w_br (λ_=>⟨⟨⟨hv,hd.frame,hd.opBlock,hd.opFrame⟩,λh=>h⟩,Nat.zero_le _⟩) λ_=>w_br (λ_=>⟨⟨⟨hd.block,hv,hd.opBlock,hd.opFrame⟩,λh=>h⟩,Nat.zero_le _⟩) λ_=>w_br (λ_=>w_br (λhk=>Q0e (zf h hd (.inl (e1 hk)) _) λx hx=>hx) λ_=>w_br (λhk=>Q0e (zf h hd (.inr (e1 hk)) _) λx hx=>hx) λ_=>w_br (λ_=>w_lv λx hx=>w_br (λhb=> ?_) (λ_=>⟨keep,Nat.zero_le _⟩)) (λ_=>⟨keep,Nat.zero_le _⟩)) (λ_=>⟨keep,Nat.zero_le _⟩)
 refine⟨⟨⟨hd.block,hd.frame,hd.opBlock,hd.opFrame⟩,λhm=> ?_⟩,Nat.zero_le _⟩
 rw[hb]at hx
 simp only[Qa0,Qkw,Tree.m]at hx
 cases h2:d.C1==2
 . rw[h2]at hx
   have h3:d.C1=3:=eq_of_beq hx.symm
   simp only[Q1l,Q6d,Tree.m,h3]at hm⊢
   exact hm
 . have h3:d.C1=2:=eq_of_beq h2
   simp only[Q1l,Q6d,Tree.m,h3]at hm⊢
   exact hm
def keepN(P:Nat)(n n':Q0r):Prop:=Qk2 n'/\(Q68 n P=true->Q68 n' P=true)
theorem qaE{n:Q0r}(hn:Qk2 n)(at0:Int):(Qhv n m at0).w (λr=>r.length<=1):=by
 have h2:=h.p2
 unfold Qhv
 refine w_br (λ_=>Nat.zero_le _) λl1=>w_br (λ_=>Nat.zero_le _) λl2=>w_lv λx0 hx=>w_br (λ_=>Nat.zero_le _) λhp=>Q0e (Ziq h _) λx1 h1=> ?_
 have l1:=oN l1
 have l2:=oN l2
 obtain⟨f0,f1⟩:=npage h hn.frame hx (by simpa using hp)
 have ef:i64.wrap n.Frame=n.Frame:=by rw[wrap_i64];omega
 rw[ef]at h1
 have h1:=h1 f0 f1
 exact w_cn (dY (by omega)) (Nat.le_refl _)
theorem zaE{n:Q0r}(hn:Qk2 n)(port:Int){v:Int}(hv:U v)(at0:Int):(Ql6 n m port v at0).w (λr=>keepN P n r.1/\r.2.length<=1):=by
 have h2:=h.p2
 have keep:keepN P n n:=⟨hn,λh=>h⟩
 unfold Ql6
 refine w_br (λ_=>⟨⟨⟨hv,hn.len,hn.buffer,hn.got⟩,λh=>h⟩,Nat.zero_le _⟩) λ_=>w_br (λ_=>⟨⟨⟨hn.frame,hv,hn.buffer,hn.got⟩,λh=>h⟩,Nat.zero_le _⟩) λ_=>w_br (λ_=>w_br (λ_=>Q0e (qaE h hn _) λx hx=>⟨keep,hx⟩) λ_=>w_br (λ_=>w_lv λx hx=>w_br (λhb=>w_br (λnp=>w_br (λnr=> ?_) (λ_=>⟨keep,Nat.zero_le _⟩)) (λ_=>⟨keep,Nat.zero_le _⟩)) (λ_=>⟨keep,Nat.zero_le _⟩)) λ_=>w_br (λ_=> ?_) (λ_=>⟨keep,Nat.zero_le _⟩)) (λ_=>⟨keep,Nat.zero_le _⟩)
 . obtain⟨f0,f1⟩:=npage h hn.frame hx hb
   have np:n.C6=false:=by simpa using np
   have nr:n.B8=false:=by simpa using nr
   have e2:decide (i64.wrap n.Frame>=(P:Int))=false:=dN (by rw[wrap_i64];omega)
   refine⟨⟨⟨hn.frame,hn.len,hn.frame,hn.got⟩,λhm=> ?_⟩,Nat.zero_le _⟩
   simp only[Q68,Qly,Tree.m,np,nr,e2]at hm⊢
   cases hb:(n.B9 !=0)
   . rw[hb]at hm;exact hm
   . rw[hb]at hm;cases hm
 . refine⟨⟨⟨hn.frame,hn.len,hn.buffer,U_0⟩,λhm=> ?_⟩,Nat.zero_le _⟩
   simp only[Q68,Qly,Tree.m]at hm⊢
   revert hm
   cases n.C6<;>cases n.B8<;>cases decide (i64.wrap n.B9>=(P:Int))<;>cases(n.B9 !=0)<;>simp
end
theorem xag(t:Q0i)(v:Int):Q4h (Qm0 t v)=true:=by
 simp only[Qm0,Qn8,Q4h,Qmv,Tree.m]
 cases h:(v !=0)
 . have:v=0:=by simpa using h
   subst this;rfl
 . rfl
theorem Qr8{a:Int}(k:Nat)(hk:k<=32):ishr .u32 a k=a/2^k:=by
 unfold ishr
 have e:min (k:Int).toNat u32.bits=k:=by show min (k:Int).toNat 32=k;omega
 have hp:(0:Int)<2^k:=Int.pow_pos (by decide)
 rw[e,Int.fdiv_eq_ediv_of_nonneg _ (Int.le_of_lt hp)]
def Zpl(x:Int)(n:Nat):Prop:=x<2^n/\(n=0\/(2:Int)^(n-1)<=x)
theorem Zd2{x q:Int}{n k:Nat}(hq:q=x/2^k)(h0:0<q)(h:Zpl q n):Zpl x (n+k):=by
 have hp:(0:Int)<2^k:=Int.pow_pos (by decide)
 obtain⟨h1,h2⟩:=h
 have hn:n≠0:=λe=>by subst e;simp at h1;omega
 refine⟨?_, .inr ?_⟩
 . rw[Int.pow_add]
   have:x<(x/2^k+1)*2^k:=Int.lt_ediv_add_one_mul_self x hp
   have h3:(x/2^k+1)*2^k<=2^n*2^k:=Int.mul_le_mul_of_nonneg_right (by omega) (Int.le_of_lt hp)
   omega
 . have h2:=h2.resolve_left hn
   have e:n+k-1=(n-1)+k:=by omega
   rw[e,Int.pow_add]
   have h3:(2:Int)^(n-1)*2^k<=q*2^k:=Int.mul_le_mul_of_nonneg_right h2 (Int.le_of_lt hp)
   have h4:q*2^k<=x:=by rw[hq];exact Int.ediv_mul_le x (Int.ne_of_gt hp)
   omega
theorem vG{x:Int}{n p:Nat}(h:Zpl x n)(hx:x<2^p):n<=p:=by
  obtain⟨h1,h2⟩:=h
  rcases h2 with h2|h2
  . omega
  . rcases Nat.lt_or_ge p n with hlt|hge
    . have:(2:Int)^p<=2^(n-1):=by
        have:=Nat.pow_le_pow_right (show 0<2 by omega) (show p<=n-1 by omega)
        exact_mod_cast this
      omega
    . exact hge
theorem Zi6{x:Int}{n p:Nat}(h:Zpl x n)(hn:n<=p):x<2^p:=by
 have:(2:Int)^n<=2^p:=by
   have:=Nat.pow_le_pow_right (show 0<2 by omega) hn
   exact_mod_cast this
 exact Int.lt_of_lt_of_le h.1 this
def lenChk(i:Nat):Bool:=match(Q1n (i:Int)) with
 | .ofNat n=>decide ((i:Int)<2^n)&&(Nat.beq n 0||decide ((2:Int)^(n-1)<=i))&&decide (n<=8)
 |_=>false
theorem Qt2{q:Int}(h0:0<=q)(h1:q<256): ∃n:Nat,Q1n q=n/\Zpl q n/\n<=8:=by
 have all:List.all (List.range 256) lenChk=true:=by kernel_rfl
 have:=List.all_eq_true.1 all q.toNat (List.mem_range.2 (by omega))
 have hq:((q.toNat:Nat):Int)=q:=by omega
 unfold lenChk at this
 rw[hq]at this
 split at this
 . rename_i n hn
   simp only[aE,Bool.or_eq_true,decide_eq_true_eq]at this
   refine⟨n,hn,⟨this.1.1,?_⟩,this.2⟩
   rcases this.1.2 with h|h
   . exact .inl (bE h)
   . exact .inr h
 . cases this
theorem xaE{x:Int}(h:U x)(hx:16777216<=x):Q1n x=24+Q1n (x/16777216):=by
 obtain⟨h0,h1⟩:=h
 have s16:ishr .u32 x 16=x/65536:=Qr8 16 (by omega)
 have s24:ishr .u32 (x/65536) 8=x/16777216:=by rw[show((8:Int))=((8:Nat):Int) from rfl,Qr8 8 (by omega)];omega
 have d1:decide (x>=65536)=true:=dY (by omega)
 have d2:decide (x/65536>=256)=true:=dY (by omega)
 have d3:decide (x/16777216>=65536)=false:=dN (by omega)
 have d4:decide (x/16777216>=256)=false:=dN (by omega)
 have u:u8.wrap (x/16777216)=x/16777216:=by rw[wrap_u8];omega
 simp only[Q1n,Q1v,Tree.m,s16,s24,d1,d2,d3,d4,u,cond_true,cond_false]
 generalize(List.getD _ (Int.toNat (x/16777216)) (0:UInt8))=b
 have hb:=UInt8.toNat_lt b
 rw[wrap_i64,wrap_i64,wrap_i64,wrap_i64]
 omega
theorem qaF{x:Int}(h0:65536<=x)(h1:x<16777216):Q1n x=16+Q1n (x/65536):=by
 have s16:ishr .u32 x 16=x/65536:=Qr8 16 (by omega)
 have d1:decide (x>=65536)=true:=dY (by omega)
 have d2:decide (x/65536>=256)=false:=dN (by omega)
 have d3:decide (x/65536>=65536)=false:=dN (by omega)
 have u:u8.wrap (x/65536)=x/65536:=by rw[wrap_u8];omega
 simp only[Q1n,Q1v,Tree.m,s16,d1,d2,d3,u,cond_true,cond_false]
 generalize(List.getD _ (Int.toNat (x/65536)) (0:UInt8))=b
 have hb:=UInt8.toNat_lt b
 rw[wrap_i64,wrap_i64,wrap_i64]
 omega
theorem len_8{x:Int}(h0:256<=x)(h1:x<65536):Q1n x=8+Q1n (x/256):=by
 have s8:ishr .u32 x 8=x/256:=Qr8 8 (by omega)
 have d1:decide (x>=65536)=false:=dN (by omega)
 have d2:decide (x>=256)=true:=dY (by omega)
 have d3:decide (x/256>=65536)=false:=dN (by omega)
 have d4:decide (x/256>=256)=false:=dN (by omega)
 have u:u8.wrap (x/256)=x/256:=by rw[wrap_u8];omega
 simp only[Q1n,Q1v,Tree.m,s8,d1,d2,d3,d4,u,cond_true,cond_false]
 generalize(List.getD _ (Int.toNat (x/256)) (0:UInt8))=b
 have hb:=UInt8.toNat_lt b
 rw[wrap_i64,wrap_i64,wrap_i64,wrap_i64]
 omega
theorem Zow{x:Int}(h:U x): ∃n:Nat,Q1n x=n/\Zpl x n:=by
  obtain⟨h0,h1⟩:=h
  rcases Int.lt_or_le x 256 with a|a
  . obtain⟨n,e,l,_⟩:=Qt2 h0 a
    exact⟨n,e,l⟩
  . rcases Int.lt_or_le x 65536 with b|b
    . obtain⟨n,e,l,_⟩:=Qt2 (q:=x/256) (by omega) (by omega)
      exact⟨n+8,by rw[len_8 a b,e];omega,Zd2 (k:=8) rfl (by omega) l⟩
    . rcases Int.lt_or_le x 16777216 with c|c
      . obtain⟨n,e,l,_⟩:=Qt2 (q:=x/65536) (by omega) (by omega)
        exact⟨n+16,by rw[qaF b c,e];omega,Zd2 (k:=16) rfl (by omega) l⟩
      . obtain⟨n,e,l,_⟩:=Qt2 (q:=x/16777216) (by omega) (by omega)
        exact⟨n+24,by rw[xaE ⟨h0,h1⟩ c,e];omega,Zd2 (k:=24) rfl (by omega) l⟩
theorem Z4e{b:Q09}(h:U b.C2){P:Nat}:Q2o b P=true↔b.C2<2^P:=by
 obtain⟨n,e,l⟩:=Zow h
 have hp:(if(0:Int)>(P:Int) then(0:Int) else P)=P:=by rw[if_neg (by omega)]
 simp only[Q2o,Q42,Tree.m,letv,e,hp,decide_eq_true_eq]
 constructor
 . intro h;exact Zi6 l (by omega)
 . intro h;have:=vG l h;omega
theorem Zb2{a:Int}(h:U a){P:Nat}(h1:a<2^P):(BitVec.ofInt 32 a).toNat<2^P:=by
 obtain⟨a0,a1⟩:=h
 rw[BitVec.toNat_ofInt,Int.emod_eq_of_lt a0 (by omega)]
 have:((2^P:Nat):Int)=(2:Int)^P:=by exact_mod_cast rfl
 omega
theorem or_lt{a b:Int}(ha:U a)(hb:U b){P:Nat}(hP:P<=32)(h1:a<2^P)(h2:b<2^P):ior .u32 a b<2^P:=by
 have e:(BitVec.ofInt 32 a|||BitVec.ofInt 32 b).toNat<2^P:=by
   rw[BitVec.toNat_or]
   exact Nat.or_lt_two_pow (Zb2 ha h1) (Zb2 hb h2)
 have hc:((2^P:Nat):Int)=(2:Int)^P:=by exact_mod_cast rfl
 have l:=(BitVec.ofInt 32 a|||BitVec.ofInt 32 b).isLt
 show wrap .u32 ((BitVec.ofInt 32 a|||BitVec.ofInt 32 b).toNat:Int)<2^P
 rw[wrap_u32]
 omega
theorem qah{a b:Int}(ha:U a){P:Nat}(h1:a<2^P):Qhu .u32 a b<2^P:=by
 have e:(BitVec.ofInt 32 a&&&~~~BitVec.ofInt 32 b).toNat<2^P:=by
   rw[BitVec.toNat_and]
   exact Nat.lt_of_le_of_lt Nat.and_le_left (Zb2 ha h1)
 have hc:((2^P:Nat):Int)=(2:Int)^P:=by exact_mod_cast rfl
 have l:=(BitVec.ofInt 32 a&&&~~~BitVec.ofInt 32 b).isLt
 show wrap .u32 ((BitVec.ofInt 32 a&&&~~~BitVec.ofInt 32 b).toNat:Int)<2^P
 rw[wrap_u32]
 omega
theorem yf{v:Int}(h0:0<=v)(h1:v<32):ishl .u32 1 v=2^v.toNat:=by
 have e:min v.toNat u32.bits=v.toNat:=by show min v.toNat 32=v.toNat;omega
 obtain⟨n,rfl⟩: ∃n:Nat,v=n:=⟨v.toNat,by omega⟩
 have hn:n<32:=by omega
 have hlt:(2:Nat)^n<4294967296:=by
   have:=Nat.pow_lt_pow_right (show 1<2 by omega) hn
   simpa using this
 have hc:((2^n:Nat):Int)=(2:Int)^n:=by exact_mod_cast rfl
 unfold ishl
 rw[e,wrap_u32,Int.one_mul,Int.toNat_natCast,<-hc]
 clear hc e
 generalize(2:Nat)^n=z at*
 omega
def keepB(P:Nat)(b b':Q09):Prop:=okB b'/\(Q2o b P=true->Q2o b' P=true)
theorem Zns{P:Nat}{m:List Int}(h:Q15 P m){b:Q09}(hb:okB b)(port:Int){v:Int}(hv:U v):(Q45 b m port v).w (λr=>keepB P b r.1/\Q15 P r.2):=by
 have hcl:Q03 m=m:=rfl
 have h2:=h.p2
 have hp:=Q3q h
 have keep:(Tree.an (Q08 m) (.lv (Q03 m) λx=> .lf (b,x))).w (λr=>keepB P b r.1/\Q15 P r.2):=w_an (Q9e h) (w_lv λx hx=>by rw[hcl]at hx;subst hx;exact⟨⟨hb,λh=>h⟩,h⟩)
 unfold Q45
 refine w_br (λ_=>keep) λhlt=>w_cn (dY hv.1) (w_br (λ_=>w_lv λx1 hx=>w_br (λhpg=>w_br (λ_=>w_an ⟨by decide,by decide,by decide⟩ (w_lv λx2 _=>Q0e (Z3n h _ _) λx3 ⟨h3,_⟩=> ?_)) (λ_=>keep)) (λ_=>keep)) (λ_=>w_br (λ_=>w_an (Q9e h) (w_lv λx hx=> ?_)) (λ_=>keep)))
 . have hlt:=oN hlt
   have hpg:=oY hpg
   rw[hx,hp]at hpg
   obtain⟨v0,v1⟩:=hv
   have ev:i64.wrap v=v:=by rw[wrap_i64];omega
   rw[ev]at hpg
   refine⟨⟨⟨hb.1,Q0s _⟩,λhm=> ?_⟩,h3⟩
   rw[Z4e hb.2]at hm
   rw[Z4e (Q0s _)]
   have hs:ishl .u32 1 v<2^P:=by
     rw[yf v0 (by omega)]
     have:=Nat.pow_lt_pow_right (show 1<2 by omega) (show v.toNat<P by omega)
     exact_mod_cast this
   exact or_lt hb.2 (Q0s _) h2 hm hs
 . rw[hcl]at hx;subst hx
   refine⟨⟨⟨hb.1,Q0s _⟩,λhm=> ?_⟩,h⟩
   rw[Z4e hb.2]at hm
   rw[Z4e (Q0s _)]
   exact qah hb.2 hm
structure kept(P:Nat)(m n:Q00):Prop where
 ok:okS P n
 dev:Q10 m=true->Q10 n=true
 cpu:n.B2=m.B2
 cnt:n.A1=m.A1
 wait:n.A7=m.A7
 halt:n.A9=m.A9
theorem Zd9{P:Nat}{m:Q00}(h:okS P m):kept P m m:=⟨h,λh=>h,rfl,rfl,rfl,rfl⟩
theorem Qpy{P:Nat}{m n:Q00}(hm:Q15 P m.Mem)(hn:Q15 P n.Mem)(hc:Q2c m.A4=true->Q2c n.A4=true)(ht:Q4h m.B0=true->Q4h n.B0=true)
   (hd:Q1l m.B1 P=true->Q1l n.B1 P=true) (hk:Q68 m.C4 P=true->Q68 n.C4 P=true) (hb:Q2o m.A2 P=true->Q2o n.A2 P=true) (h:Q10 m=true):Q10 n=true:=by
 rw[qf]at h⊢
 rw[Q3q hm]at h
 rw[Q3q hn]
 simp only[aE]at h⊢
 exact⟨hc h.1,ht h.2.1,hd h.2.2.1,hk h.2.2.2.1,hb h.2.2.2.2⟩
theorem Zi3{P:Nat}{m:Q00}(h:okS P m)(port:Int){v:Int}(hv:U v)(at0:Int):(Q3z m port v at0).w (λr=>kept P m r.1/\r.2.length<=1):=by
 have k:=Zd9 h
 obtain⟨h1,h2,h3,h4,h5,h6⟩:=h
 have id: ∀{p:Prop},p->p:=λh=>h
 have D: ∀(x:Q0f×List Q04),(keepD P m.B1 x.1/\x.2.length<=1)->kept P m {B2:=m.B2,Mem:=m.Mem,A4:=m.A4,B0:=m.B0,B1:=x.1,C4:=m.C4,A2:=m.A2,A1:=m.A1,A7:=m.A7,A9:=m.A9}/\x.2.length<=1:=λx hx=>
   ⟨⟨⟨h1,h2,hx.1.1,h4,h5,h6⟩,Qpy h2 h2 id id hx.1.2 id id,rfl,rfl,rfl,rfl⟩,hx.2⟩
 have N: ∀(x:Q0r×List Q04),(keepN P m.C4 x.1/\x.2.length<=1)->kept P m {B2:=m.B2,Mem:=m.Mem,A4:=m.A4,B0:=m.B0,B1:=m.B1,C4:=x.1,A2:=m.A2,A1:=m.A1,A7:=m.A7,A9:=m.A9}/\x.2.length<=1:=λx hx=>
   ⟨⟨⟨h1,h2,h3,hx.1.1,h5,h6⟩,Qpy h2 h2 id id id hx.1.2 id,rfl,rfl,rfl,rfl⟩,hx.2⟩
 have B: ∀(x:Q09×List Int),(keepB P m.A2 x.1/\Q15 P x.2)->kept P m {B2:=m.B2,Mem:=x.2,A4:=m.A4,B0:=m.B0,B1:=m.B1,C4:=m.C4,A2:=x.1,A1:=m.A1,A7:=m.A7,A9:=m.A9}/\([]:List Q04).length<=1:=λx hx=>
   ⟨⟨⟨h1,hx.2,h3,h4,hx.1.1.1,hx.1.1.2⟩,Qpy h2 hx.2 id id id id hx.1.2,rfl,rfl,rfl,rfl⟩,Nat.zero_le _⟩
 unfold Q3z
 repeat'(first
   |exact⟨k,Nat.le_refl _⟩
   |exact⟨k,Nat.zero_le _⟩
   |exact w_lv λx hx=>⟨⟨⟨h1,h2,h3,h4,h5,h6⟩,Qpy h2 h2 id (λ_=>by rw[hx];exact xag _ _) id id id,rfl,rfl,rfl,rfl⟩,Nat.zero_le _⟩
   |exact Q0e (zag h2 h3 _ hv _) λx hx=>D x hx
   |exact Q0e (zaE h2 h4 _ hv _) λx hx=>N x hx
   |exact Q0e (Zns h2 ⟨h5,h6⟩ _ hv) λx hx=>B x hx
   |refine w_br (λ_=> ?_) (λ_=> ?_))
theorem Z85(c:Q0c)(port:Int):(Qa8 c port).w (λr=>U r.2/\(Q2c c=true->Q2c r.1=true)):=by
 have u1:U 4294967295:=⟨by omega,by omega⟩
 unfold Qa8
 refine w_br (λ_=>w_br (λ_=>⟨u1,λh=>h⟩) (λhb=>w_cn ?_ (w_cn ?_ ⟨Q0s _,λhm=> ?_⟩))) (λ_=>w_br (λ_=>⟨Q0s _,λh=>h⟩) (λ_=>⟨U_0,λh=>h⟩))
 . have hb:=oN hb
   have:0<c.D3.length:=List.length_pos_iff.2 hb
   simp [Nat.blt];omega
 . have hb:=oN hb
   have:0<c.D3.length:=List.length_pos_iff.2 hb
   exact dY (by omega)
 . have hm:decide ((c.D3.length:Int)<=16)=true:=hm
   have hm:=oY hm
   show decide (((List.take _ (List.drop _ c.D3)).length:Int)<=16)=true
   refine dY ?_
   rw[List.length_take,List.length_drop];omega
theorem Zp0{P:Nat}{m:Q00}(h:okS P m)(port:Int){clock:Int}(hc:U clock):(Q4r m port clock).w (λr=>kept P m r.1/\U r.2):=by
 have k:=Zd9 h
 obtain⟨h1,h2,h3,h4,h5,h6⟩:=h
 have id: ∀{p:Prop},p->p:=λh=>h
 have ti: ∀t,U (Z16 t):=λt=>by
   refine Tree.post (Qqo t) (W:=U) ?_
   unfold Qqo
   exact w_br (λ_=>⟨by omega,by omega⟩) (λ_=>U_0)
 have di: ∀p,U (Qwv m.B1 p):=λp=>by
   refine Tree.post (Qv3 m.B1 p) (W:=U) ?_
   unfold Qv3
   exact w_br (λ_=>h3.block) (λ_=>w_br (λ_=>h3.frame) (λ_=>w_br (λ_=>Q0s _) (λ_=>U_0)))
 have ni: ∀p,U (Z4v m.C4 p):=λp=>by
   refine Tree.post (Qv6 m.C4 p) (W:=U) ?_
   unfold Qv6
   exact w_br (λ_=>h4.frame) (λ_=>w_br (λ_=>h4.got) (λ_=>w_br (λ_=>w_br (λ_=>w_br (λ_=>Q0s _) (λ_=>Q0s _)) (λ_=>w_br (λ_=>Q0s _) (λ_=>U_0))) (λ_=>U_0)))
 have bi: ∀p,(Qd4 m.A2 p).w U:=λp=>by
   unfold Qd4
   exact w_br (λ_=>h5) (λ_=>w_br (λ_=>Q0e (Zm8 h6) λ_ _=>Q0s _) (λ_=>U_0))
 have C: ∀(x:Q0c×Int),(U x.2/\(Q2c m.A4=true->Q2c x.1=true))->kept P m {B2:=m.B2,Mem:=m.Mem,A4:=x.1,B0:=m.B0,B1:=m.B1,C4:=m.C4,A2:=m.A2,A1:=m.A1,A7:=m.A7,A9:=m.A9}/\U x.2:=λx hx=>
   ⟨⟨⟨h1,h2,h3,h4,h5,h6⟩,Qpy h2 h2 hx.2 id id id id,rfl,rfl,rfl,rfl⟩,hx.1⟩
 unfold Q4r
 repeat'(first
   |exact⟨k,hc⟩
   |exact⟨k,U_0⟩
   |exact Q0e (Z85 _ _) λx hx=>C x hx
   |exact Zh9 (Z85 _ _) λx hx=>C x hx
   |exact w_lv λx hx=>⟨k,by rw[hx];exact ti _⟩
   |exact w_lv λx hx=>⟨k,by rw[hx];exact di _⟩
   |exact w_lv λx hx=>⟨k,by rw[hx];exact ni _⟩
   |exact Q0e (bi _) λx hx=>⟨k,hx⟩
   |refine w_br (λ_=> ?_) (λ_=> ?_))
structure Q65(c:Q05):Prop where
 x0:c.X.a0=0
 st:c.B5.a0<=31
 en:c.B5.a7<=31
 rt:c.B5.a6<=255
 ve:Int.tmod c.B5.a1 4=0
theorem Q65.pc{c:Q05}(h:Q65 c)(p:Int):Q65 {X:=c.X,Pc:=p,B5:=c.B5}:=⟨h.x0,h.st,h.en,h.rt,h.ve⟩
theorem and31(a:Int):iand .u32 a 31<=31:=by
 have e:(BitVec.ofInt 32 a&&&BitVec.ofInt 32 31).toNat<=31:=by
   rw[BitVec.toNat_and]
   exact Nat.le_trans Nat.and_le_right (by decide)
 show wrap .u32 ((BitVec.ofInt 32 a&&&BitVec.ofInt 32 31).toNat:Int)<=31
 rw[wrap_u32];omega
theorem and255'(a:Int):iand .u32 a 255<=255:=by have:=and255 a;omega
theorem andn3(a:Int):Int.tmod (Qhu .u32 a 3) 4=0:=by
 have e:(BitVec.ofInt 32 a&&&~~~BitVec.ofInt 32 3).toNat%4=0:=by
   rw[BitVec.toNat_and,show(~~~BitVec.ofInt 32 3).toNat=4294967292 by decide]
   have:=Nat.and_mod_two_pow (a:=(BitVec.ofInt 32 a).toNat) (b:=4294967292) (n:=2)
   simpa using this
 have l:=(BitVec.ofInt 32 a&&&~~~BitVec.ofInt 32 3).isLt
 show Int.tmod (wrap .u32 ((BitVec.ofInt 32 a&&&~~~BitVec.ofInt 32 3).toNat:Int)) 4=0
 rw[wrap_u32,Int.tmod_eq_emod_of_nonneg (by omega)]
 omega
theorem fin32{f:Int->Int}(h:(List.range 32).all (λn=>decide (f n<=31))=true){s:Int}(h0:0<=s)(h1:s<=31):f s<=31:=by
 have:=List.all_eq_true.1 h s.toNat (List.mem_range.2 (by omega))
 have e:((s.toNat:Nat):Int)=s:=by omega
 rw[e]at this
 exact oY this
theorem Qn2{c:Q05}(h:Q2g c)(m:Q65 c)(k b:Int):Q65 (Q4p c k b):=
 ⟨m.x0,fin32 (f:=λs=>Qhu .u32 (ior .u32 (Q96 (Q96 s 1 8) 2 16) 1) 2) (by kernel_rfl) h.a0.1 m.st,m.en,m.rt,m.ve⟩
theorem Zoe{c:Q05}(h:Q2g c)(m:Q65 c):Q65 (Qf9 c):=
 ⟨m.x0,fin32 (f:=λs=>Q96 (Q96 s 8 1) 16 2) (by kernel_rfl) h.a0.1 m.st,m.en,m.rt,m.ve⟩
theorem Qxo{c:Q05}(m:Q65 c){r:Int}(hr:0<=r/\r<16)(v:Int):(Qe5 c r v).w Q65:=by
 unfold Qe5
 refine w_br (λhn=>w_cn (rc hr) ?_) (λ_=>m)
 have hn:r≠0:=by simpa using hn
 obtain⟨n,e⟩: ∃n:Nat,r.toNat=n+1:=⟨r.toNat-1,by omega⟩
 refine⟨?_,m.st,m.en,m.rt,m.ve⟩
 show(A16.of 0 (List.set (A16.l c.X) r.toNat v)).a0=0
 rw[e]
 exact m.x0
theorem vf{c:Q05}(m:Q65 c)(k v:Int):(Qc7 c k v).w Q65:=by
 unfold Qc7
 refine w_br (λhk=>w_cn (by rw[eq_of_beq hk];decide) ?_) λ_=>w_br (λhk=>w_cn (by rw[eq_of_beq hk];decide) ?_) λ_=>w_br (λhk=>w_cn (by rw[eq_of_beq hk];decide) ?_) λ_=>w_br (λhk=>w_cn (by rw[eq_of_beq hk];decide) ?_) λ_=>w_br (λhk=>w_cn (by rw[eq_of_beq hk];decide) ?_) λ_=>w_br (λhk=>w_cn (by rw[eq_of_beq hk];decide) ?_) λ_=>w_br (λhk=>w_cn (by rw[eq_of_beq hk];decide) ?_) λ_=>w_br (λhk=>w_cn (by rw[eq_of_beq hk];decide) ?_) (λ_=>m)
 all_goals(have hk:=eq_of_beq hk;subst hk)
 . exact⟨m.x0,and31 _,m.en,m.rt,m.ve⟩
 . exact⟨m.x0,m.st,and31 _,m.rt,m.ve⟩
 . exact⟨m.x0,m.st,m.en,and255' _,m.ve⟩
 . exact⟨m.x0,m.st,m.en,m.rt,andn3 _⟩
 . exact⟨m.x0,m.st,m.en,m.rt,m.ve⟩
 . exact⟨m.x0,m.st,m.en,m.rt,m.ve⟩
 . exact⟨m.x0,m.st,m.en,m.rt,m.ve⟩
 . exact⟨m.x0,m.st,m.en,m.rt,m.ve⟩
section
variable {c:Q05} (h:Q2g c) (m:Q65 c) {i:Q0l} (hi:Qgh i)
include h m hi
theorem Zjm:(Q58 c i).w (λr=>Q65 r.1):=by
 unfold Q58
 refine w_cn (rc hi.a) (w_cn (rc hi.b) ?_)
 repeat'(first
   |refine w_br (λ_=> ?_) (λ_=> ?_)
   |exact Q0e (Qxo m hi.a _) λx hx=>hx.pc _
   |exact w_lv λx _=>w_br (λ_=>m.pc _) (λ_=>m.pc _)
   |exact w_lv λx hx=>by rw[hx];exact Qn2 h m _ _
   |exact w_lv λx hx=>by rw[hx];exact Zoe h m
   |exact w_cn (by have:=hi.csr (by simp_all);simp [Nat.blt];omega) (Q0e (Qxo m hi.a _) λx hx=>hx.pc _)
   |exact Q0e (vf m _ _) λx hx=>hx.pc _
   |refine w_cn (rc hi.c) ?_
   |exact Q0e (Z8a _ (h.r _) (Q0s _)) λy hy=>Q0e (Qxo m hi.a _) λx hx=>hx.pc _
   |exact Q0e (Z8a _ (h.r _) (h.r _)) λy hy=>Q0e (Qxo m hi.a _) λx hx=>hx.pc _
   |refine w_lf ?_)
 all_goals exact m.pc _
theorem qH{P:Nat}{mem:List Int}(hm:Q15 P mem):(Qf6 c mem i).w (λr=>Q65 r.1):=by
 have w:=Za2 i.Op
 unfold Qf6
 refine w_cn (rc hi.b) (w_lv λx0 h0=> ?_)
 rw[<-h0]at w
 refine Q0e (Qm7 hm (Q0s _) w 2) λx1 h1=>w_br (λ_=>w_lv λy hy=>by rw[hy];exact Qn2 h m _ _) (λ_=>w_lv λx3 h3=> ?_)
 rw[h0,<-h3]at w
 exact Q0e (Qsu h1.2 h1.1 w) λx4 h4=>w_br (λ_=>Q0e (Qvx h4.1 8) λy hy=>Q0e (Qxo m hi.a _) λx hx=>hx.pc _) (λ_=>Q0e (Qxo m hi.a _) λx hx=>hx.pc _)
theorem qg{P:Nat}{mem:List Int}(hm:Q15 P mem):(Qci c mem i).w (λr=>Q65 r.1):=by
 have w:=Za2 i.Op
 unfold Qci
 refine w_cn (rc hi.b) (w_lv λx0 h0=> ?_)
 rw[<-h0]at w
 refine Q0e (Qm7 hm (Q0s _) w 3) λx1 h1=>w_br (λ_=>w_lv λy hy=>by rw[hy];exact Qn2 h m _ _) (λ_=>w_lv λx3 h3=>w_cn (rc hi.a) ?_)
 rw[h0,<-h3]at w
 exact Q0e (Z18 h1.2 h1.1 w (h.r _)) λx hx=>m.pc _
end
theorem xH{c:Q05}(h:Q2g c)(m:Q65 c){P:Nat}{mem:List Int}(hm:Q15 P mem):(Q7s c mem).w (λr=>Q65 r.1):=by
 unfold Q7s
 refine Q0e (Zb7 hm h) λx0 h0=>w_br (λ_=>w_lv λy hy=>by rw[hy];exact Qn2 h m _ _) (λ_=>Q0e (Z29 _) λx2 h2=>w_br (λ_=>w_lv λy hy=>by rw[hy];exact Qn2 h m _ _) (λhb=> ?_))
 have hi:=h2 (by simpa using hb)
 refine w_lv λx4 _=> ?_
 repeat'(first
   |refine w_br (λ_=> ?_) (λ_=> ?_)
   |exact Q0e (qH h m hi h0.2) λx hx=>hx
   |exact Q0e (qg h m hi h0.2) λx hx=>hx
   |exact Q0e (Zjm h m hi) λx hx=>hx
   |exact w_lv λy hy=>by rw[hy];exact Qn2 h m _ _
   |refine w_lv λ_ _=> ?_)
theorem Zil{c:Q05}(h:Q2g c){i:Q0l}(hi:Qgh i):(Q58 c i).w (λr=>0<=r.2.D9/\r.2.D9<16):=by
 have z:(0:Int)<=0/\(0:Int)<16:=⟨by decide,by decide⟩
 unfold Q58
 refine w_cn (rc hi.a) (w_cn (rc hi.b) ?_)
 repeat'(first
   |refine w_br (λ_=> ?_) (λ_=> ?_)
   |exact Q0e (Qrg h hi.a (Q0s _)) λx hx=>z
   |exact w_lv λx _=>w_br (λ_=>z) (λ_=>z)
   |exact w_lv λx hx=>z
   |exact w_cn (by have:=hi.csr (by simp_all);simp [Nat.blt];omega) (Q0e (Qrg h hi.a (h.a _)) λx hx=>z)
   |exact Q0e (Zmx h _ (h.r _)) λx hx=>z
   |refine w_cn (rc hi.c) ?_
   |exact Q0e (Z8a _ (h.r _) (Q0s _)) λy hy=>Q0e (Qrg h hi.a hy) λx hx=>z
   |exact Q0e (Z8a _ (h.r _) (h.r _)) λy hy=>Q0e (Qrg h hi.a hy) λx hx=>z
   |refine w_lf ?_)
 all_goals first|exact z|exact hi.a
theorem Zlp{c:Q05}(h:Q2g c){P:Nat}{mem:List Int}(hm:Q15 P mem):(Q7s c mem).w (λr=>0<=r.2.2.D9/\r.2.2.D9<16):=by
 have z:(0:Int)<=0/\(0:Int)<16:=⟨by decide,by decide⟩
 unfold Q7s
 refine Q0e (Zb7 hm h) λx0 h0=>w_br (λ_=>w_lv λy hy=>z) (λ_=>Q0e (Z29 _) λx2 h2=>w_br (λ_=>w_lv λy hy=>z) (λhb=> ?_))
 have hi:=h2 (by simpa using hb)
 refine w_lv λx4 _=> ?_
 repeat'(first
   |refine w_br (λ_=> ?_) (λ_=> ?_)
   |exact Q0e (Z1s h hi h0.2) λx hx=>z
   |exact Q0e (Qz9 h hi h0.2) λx hx=>z
   |exact Q0e (Zil h hi) λx hx=>hx
   |exact w_lv λy hy=>z
   |refine w_lv λ_ _=> ?_)
theorem cnd2{a x:Bool}:(bif a then false else x)=true↔a=false/\x=true:=by cases a<;>simp
theorem Qna(m:Q00):Q1f m=true↔Q0x m.Mem≠0/\Q65 m.B2/\m.A1<=1152921504606846976/\ ¬(m.A7=true/\m.A9=true)/\Q10 m=true:=by
  rw[zX]
  unfold mayC chain
  rw[cnd2,cnd2,cnd2,cnd2,cnd2,cnd2,cnd2]
  simp only[decide_eq_false_iff_not,Int.not_lt,beq_eq_false_iff_ne,bne_eq_false_iff_eq,gt_iff_lt]
  constructor
  . rintro⟨a1,a2,a3,a4,a5,a6,a7,a8⟩
    refine⟨a1,⟨a2,a3,a4,a5,a6⟩,a7,?_,?_⟩
    . rintro⟨w,h⟩;rw[w,h]at a8;cases a8
    . revert a8;cases m.A7
      . exact λh=>h
      . cases m.A9
        . exact λh=>h
        . intro h;cases h
  . rintro⟨a1,⟨a2,a3,a4,a5,a6⟩,a7,a8,a9⟩
    refine⟨a1,a2,a3,a4,a5,a6,a7,?_⟩
    rw[a9]
    cases hw:m.A7
    . rfl
    . cases hh:m.A9
      . rfl
      . exact absurd ⟨hw,hh⟩ a8
theorem Z10{m:Q00}(h:Q2q m=true):Q1f m=true/\m.A9=false/\m.A1<1152921504606846976:=by
  simp only[Q2q,Q44,Tree.m,letv]at h
  cases h1:Q1f m
  . rw[h1]at h;cases h
  . cases h2:m.A9
    . rw[h1,h2]at h
      cases h3:Q4a m
      . rw[h3]at h
        have h:decide (m.A1<1152921504606846976)=true:=h
        exact⟨rfl,rfl,oY h⟩
      . rw[h3]at h;cases h
    . rw[h1,h2]at h;cases h
theorem Qv7{P:Nat}{m:Q00}(h:okS P m)(g:Q65 m.B2):(Q2u m).w (λr=>Q65 r.B2/\okS P r/\r.Mem=m.Mem/\r.A7=false/\r.A9=m.A9/\r.A1=m.A1/\r.A4=m.A4/\r.B0=m.B0/\r.B1=m.B1/\r.C4=m.C4/\r.A2=m.A2):=by
 obtain⟨h1,h2,h3,h4,h5,h6⟩:=h
 unfold Q2u
 refine w_br (λ_=>⟨g,⟨h1,h2,h3,h4,h5,h6⟩,rfl,rfl,rfl,rfl,rfl,rfl,rfl,rfl,rfl⟩) (λ_=>Q0e (Qx9 (m:=⟨_,_,_,_,_,_,m.A2,_,_,_⟩) h6) λx0 _=>w_lp (inv:=λz=>0<=z/\z<=5) (μ:=Qct m) ⟨by omega,by omega⟩ (Nat.lt_succ_self _) (λz hz=> ?_))
 obtain⟨z1,z2⟩:=hz
 refine w_br (λhb=>w_cn (dY z1) (w_br (λ_=>w_lv λx1 hx=>⟨by rw[hx];exact Qn2 h1 g _ _,⟨by rw[hx];exact Qp4 h1 _ U_0,h2,h3,h4,h5,h6⟩,rfl,rfl,rfl,rfl,rfl,rfl,rfl,rfl,rfl⟩) (λ_=>w_nx ?_))) (λ_=>⟨g,⟨h1,h2,h3,h4,h5,h6⟩,rfl,rfl,rfl,rfl,rfl,rfl,rfl,rfl,rfl⟩)
 have hb:=oY hb
 show(0<=i64.wrap (z+1)/\i64.wrap (z+1)<=5)/\(5-i64.wrap (z+1)).toNat<(5-z).toNat
 have ew:i64.wrap (z+1)=z+1:=by rw[wrap_i64];omega
 rw[ew];omega
structure Good(P:Nat)(m r:Q00):Prop where
 ok:okS P r
 cnt:0<=r.A1
 may:Q1f m=true->Q1f r=true
 or:r=m\/r.A1=m.A1+1
theorem xg{P:Nat}{m:Q00}(h:okS P m)(hc0:0<=m.A1){clock:Int}(hk:U clock):(Q39 m clock).w (λr=>r.2.length<=1/\Good P m r.1):=by
 have hcl:Q03 m.Mem=m.Mem:=rfl
 unfold Q39
 refine w_an (Q9e h.mem) (w_lv λl hl=> ?_)
 rw[hcl]at hl;subst hl
 refine w_an (Tree.pp (Ziu (m:=⟨_,_,_,_,_,_,m.A2,_,_,_⟩) h.given)).1 (w_lv λx1 hx1=>w_br (λ_=>⟨Nat.zero_le _,h,hc0,λh=>h, .inl rfl⟩) (λhb=> ?_))
 have hr:Q2q m=true:=by rw[<-show x1=Q2q m from hx1];simpa using hb
 obtain⟨hm,hh,hct⟩:=Z10 hr
 obtain⟨g1,g2,g3,g4,g5⟩:=(Qna m).1 hm
 have hP:(P:Int)≠0:=by rw[<-Q3q h.mem];exact g1
 have fin: ∀(n:Q00),okS P n->Q65 n.B2->Q10 n=true->n.A1=m.A1-> ¬(n.A7=true/\n.A9=true)->Good P m {B2:=n.B2,Mem:=n.Mem,A4:=n.A4,B0:=n.B0,B1:=n.B1,C4:=n.C4,A2:=n.A2,A1:=wrap .u64 (n.A1+1),A7:=n.A7,A9:=n.A9}:=λn a b c d e=>by
   have ec:wrap .u64 (n.A1+1)=m.A1+1:=by rw[d,wrap_u64];omega
   refine⟨⟨a.cpu,a.mem,a.disk,a.nic,a.target,a.given⟩,?_,λ_=>(Qna _).2 ⟨?_,b,?_,e,c⟩, .inr ec⟩
   . show 0<=wrap .u64 (n.A1+1);omega
   . show Q0x n.Mem≠0;rw[Q3q a.mem];exact hP
   . show wrap .u64 (n.A1+1)<=_;omega
 refine Q0e (Qv7 (m:=⟨_,_,m.A4,m.B0,m.B1,m.C4,m.A2,m.A1,m.A7,m.A9⟩) ⟨h.cpu,h.mem,h.disk,h.nic,h.target,h.given⟩ g2) λx2 hx2=> ?_
 obtain⟨b1,b2,b3,b4,b5,b6,b7,b8,b9,b10,b11⟩:=hx2
 have ex:=Tree.pp (zw b2.cpu b2.mem)
 have em:=Tree.pp (xH b2.cpu b1 b2.mem)
 have er:=Tree.pp (Zlp b2.cpu b2.mem)
 refine w_an ex.1 (w_lv λx3 h3=> ?_)
 obtain⟨e1,e2,e3⟩:Q2g x3.1/\Q15 P x3.2.1/\U x3.2.2.Value:=by rw[h3];exact ex.2
 have f1:Q65 x3.1:=by rw[h3];exact em.2
 have r1:0<=x3.2.2.D9/\x3.2.2.D9<16:=by rw[h3];exact er.2
 have ok3:okS P ⟨x3.1,x3.2.1,x2.A4,x2.B0,x2.B1,x2.C4,x2.A2,x2.A1,x2.A7,x2.A9⟩:=⟨e1,e2,b2.disk,b2.nic,b2.target,b2.given⟩
 have dev: ∀(w h:Bool),Q10 ⟨x3.1,x3.2.1,x2.A4,x2.B0,x2.B1,x2.C4,x2.A2,x2.A1,w,h⟩=true:=λw hh=>by
   have id: ∀{p:Prop},p->p:=λh=>h
   refine Qpy (m:=m) (P:=P) h.mem e2 ?_ ?_ ?_ ?_ ?_ g5
   . show _->Q2c x2.A4=true;rw[b7];exact id
   . show _->Q4h x2.B0=true;rw[b8];exact id
   . show _->Q1l x2.B1 P=true;rw[b9];exact id
   . show _->Q68 x2.C4 P=true;rw[b10];exact id
   . show _->Q2o x2.A2 P=true;rw[b11];exact id
 have hw:x2.A7=false:=b4
 have hh2:x2.A9=false:=b5.trans hh
 have hct2:x2.A1=m.A1:=b6
 refine w_br (λ_=> ?_) λ_=>w_br (λ_=> ?_) λ_=>w_br (λ_=> ?_) λ_=>w_br (λ_=> ?_) λ_=> ?_
 . refine Q0e (Zp0 ok3 _ hk) λx4 h4=> ?_
   obtain⟨k,u⟩:=h4
   have kc:x4.1.B2=x3.1:=k.cpu
   have kt:x4.1.A1=m.A1:=k.cnt.trans hct2
   have kw: ¬(x4.1.A7=true/\x4.1.A9=true):=λe=>by have:x4.1.A7=x2.A7:=k.wait;rw[this,hw]at e;cases e.1
   have km:Q65 x4.1.B2:=by rw[kc];exact f1
   refine w_br (λhn=>w_cn (rc r1) ⟨Nat.zero_le _,?_⟩) (λ_=>⟨Nat.zero_le _,fin x4.1 k.ok km (k.dev (dev _ _)) kt kw⟩)
   have hn:x3.2.2.D9≠0:=by simpa using hn
   obtain⟨q,e⟩: ∃q:Nat,x3.2.2.D9.toNat=q+1:=⟨x3.2.2.D9.toNat-1,by omega⟩
   refine fin ⟨⟨A16.of 0 (List.set (A16.l x4.1.B2.X) x3.2.2.D9.toNat x4.2),x4.1.B2.Pc,x4.1.B2.B5⟩,x4.1.Mem,x4.1.A4,x4.1.B0,x4.1.B1,x4.1.C4,x4.1.A2,x4.1.A1,x4.1.A7,x4.1.A9⟩ ⟨⟨Zjd k.ok.cpu.x u _,k.ok.cpu.pc,k.ok.cpu.csr⟩,k.ok.mem,k.ok.disk,k.ok.nic,k.ok.target,k.ok.given⟩ ⟨?_,km.st,km.en,km.rt,km.ve⟩ (k.dev (dev _ _)) kt kw
   show(A16.of 0 (List.set (A16.l x4.1.B2.X) x3.2.2.D9.toNat x4.2)).a0=0
   rw[e]
   exact km.x0
 . refine Q0e (Zi3 ok3 _ e3 _) λx5 h5=> ?_
   obtain⟨k,u⟩:=h5
   have kc:x5.1.B2=x3.1:=k.cpu
   exact⟨u,fin x5.1 k.ok (by rw[kc];exact f1) (k.dev (dev _ _)) (k.cnt.trans hct2) (λe=>by have:x5.1.A7=x2.A7:=k.wait;rw[this,hw]at e;cases e.1)⟩
 . exact⟨Nat.zero_le _,fin ⟨x3.1,x3.2.1,x2.A4,x2.B0,x2.B1,x2.C4,x2.A2,x2.A1,true,x2.A9⟩ ⟨e1,e2,b2.disk,b2.nic,b2.target,b2.given⟩ f1 (dev _ _) hct2 (λe=>by have e2:x2.A9=true:=e.2;rw[hh2]at e2;cases e2)⟩
 . exact⟨Nat.zero_le _,fin ⟨x3.1,x3.2.1,x2.A4,x2.B0,x2.B1,x2.C4,x2.A2,x2.A1,x2.A7,true⟩ ⟨e1,e2,b2.disk,b2.nic,b2.target,b2.given⟩ f1 (dev _ _) hct2 (λe=>by have e2:x2.A7=true:=e.1;rw[hw]at e2;cases e2)⟩
 . exact⟨Nat.zero_le _,fin ⟨x3.1,x3.2.1,x2.A4,x2.B0,x2.B1,x2.C4,x2.A2,x2.A1,x2.A7,x2.A9⟩ ok3 f1 (dev _ _) hct2 (λe=>by have e2:x2.A7=true:=e.1;rw[hw]at e2;cases e2)⟩
theorem Zmn{P:Nat}{m:Q00}(h:okM P m){e:Q0a}(he:U e.N):(Q4b m e).w (λr=>(Q1f m=true->Q1f r.1=true)/\r.1.A1=m.A1/\U r.1.A2.C2):=by
 obtain⟨h1,h2,h3,h4,h5,h7⟩:=h
 have hcl:Q03 m.Mem=m.Mem:=rfl
 have pg: ∀{m':List Int},Q15 P m'->Q0x m'=Q0x m.Mem:=λh=>by rw[Q3q h,Q3q h2]
 have keep:(Q1f m=true->Q1f m=true)/\m.A1=m.A1/\U m.A2.C2:=⟨λh=>h,rfl,h5.2⟩
 unfold Q4b
 refine w_an (Q9e h2) (w_lv λl hl=> ?_)
 rw[hcl]at hl;subst hl
 refine Q0e (Zmt (m:=⟨_,_,_,_,_,_,m.A2,_,_,_⟩) h5.2) λx1 _=>w_br (λ_=>keep) λ_=>w_br (λ_=>keep) λ_=> ?_
 refine w_br (λ_=>w_br (λ_=>w_br (λ_=>w_lv λx hx=> ?_) (λ_=>keep)) (λ_=>keep)) λ_=>w_br (λ_=>w_br (λ_=>w_br (λ_=>Q0e (qag _ _) λx hx=> ?_) (λ_=>keep)) (λ_=>keep)) λ_=>w_br (λhk=>Q0e (Zo7 h2 h3 e) λx hx=> ?_) λ_=>w_br (λhk=>w_br (λ_=>Q0e (ye h2 h4 _) λx hx=> ?_) (λ_=>keep)) λ_=>w_br (λ_=>w_br (λ_=> ?_) (λ_=>keep)) (λ_=>keep)
 . exact⟨Qu1 rfl rfl rfl rfl rfl (λh=>h) (λh=>by rw[hx];exact yG _ h) (λ_ h=>h) (λ_ h=>h) rfl,rfl,h5.2⟩
 . exact⟨Qu1 rfl rfl rfl rfl rfl hx (λh=>h) (λ_ h=>h) (λ_ h=>h) rfl,rfl,h5.2⟩
 . obtain⟨a1,a2,a3,a4,a5⟩:=hx
   exact⟨Qu1 (pg a2) rfl rfl rfl rfl (λh=>h) (λh=>h) a5 (λ_ h=>h) rfl,rfl,h5.2⟩
 . obtain⟨a1,a2,a3,a4,a5⟩:=hx
   exact⟨Qu1 (pg a2) rfl rfl rfl rfl (λh=>h) (λh=>h) (λ_ h=>h) a5 rfl,rfl,h5.2⟩
 . exact⟨Qu1 rfl rfl rfl rfl rfl (λh=>h) (λh=>h) (λ_ h=>h) (λ_ h=>h) rfl,rfl,h5.2⟩
structure okW(m:Q00):Prop where
 cpu:Q2g m.B2
 u: ∀w∈m.Mem,U w
 len:m.Mem.length<=1024
 disk:Q95 m.B1
 nic:Qk2 m.C4
 bal:okB m.A2
 cnt:0<=m.A1
theorem Qxk{a:Int}(h:U a):(BitVec.ofInt 32 a).toNat=a.toNat:=by
 obtain⟨h1,h2⟩:=h
 rw[BitVec.toNat_ofInt];omega
theorem Zjx{a b:Int}(ha:U a)(hb:U b):iand .u32 a b=((a.toNat&&&b.toNat:Nat):Int):=by
 have l:=(BitVec.ofInt 32 a&&&BitVec.ofInt 32 b).isLt
 have e:(BitVec.ofInt 32 a&&&BitVec.ofInt 32 b).toNat=a.toNat&&&b.toNat:=by rw[BitVec.toNat_and,Qxk ha,Qxk hb]
 show wrap .u32 ((BitVec.ofInt 32 a&&&BitVec.ofInt 32 b).toNat:Int)=_
 rw[wrap_u32,<-e];omega
theorem zaF{a b:Int}(ha:U a)(hb:U b):ior .u32 a b=((a.toNat|||b.toNat:Nat):Int):=by
 have l:=(BitVec.ofInt 32 a|||BitVec.ofInt 32 b).isLt
 have e:(BitVec.ofInt 32 a|||BitVec.ofInt 32 b).toNat=a.toNat|||b.toNat:=by rw[BitVec.toNat_or,Qxk ha,Qxk hb]
 show wrap .u32 ((BitVec.ofInt 32 a|||BitVec.ofInt 32 b).toNat:Int)=_
 rw[wrap_u32,<-e];omega
theorem Zc8{a:Int}(ha:U a)(k:Nat)(hk:k<=32){q:Int}(hq:q=((2^k-1:Nat):Int)):iand .u32 a q=a%2^k:=by
 have hp:2^k<=2^32:=Nat.pow_le_pow_right (by decide) hk
 have h1:(2:Nat)^32=4294967296:=by decide
 have hpos:=Nat.two_pow_pos k
 subst hq
 rw[Zjx ha ⟨by omega,by omega⟩,Int.toNat_natCast,Nat.and_two_pow_sub_one_eq_mod]
 have:=ha.1
 rw[Int.natCast_emod,Int.toNat_of_nonneg this]
 simp
theorem m15{a:Int}(ha:U a):iand .u32 a 15=a%16:=Zc8 ha 4 (by decide) rfl
theorem m255{a:Int}(ha:U a):iand .u32 a 255=a%256:=Zc8 ha 8 (by decide) rfl
theorem m65535{a:Int}(ha:U a):iand .u32 a 65535=a%65536:=Zc8 ha 16 (by decide) rfl
theorem Qty(p:Int->Bool)(N:Nat)(h:(List.range N).all (λn=>p n)=true){s:Int}(h0:0<=s)(h1:s<N):p s=true:=by
 have:=List.all_eq_true.1 h s.toNat (List.mem_range.2 (by omega))
 rwa [Int.toNat_of_nonneg h0]at this
theorem w64{x:Int}(h0: -9223372036854775808<=x)(h1:x<9223372036854775808):wrap .i64 x=x:=by rw[wrap_i64];omega
theorem shr0(a:Int):ishr .u32 a 0=a:=by have:=Qr8 (a:=a) 0 (by decide);simpa using this
theorem fld(w:Int):Q30 w 24 8=iand .u32 (ishr .u32 w 24) 255/\Q30 w 20 4=iand .u32 (ishr .u32 w 20) 15/\Q30 w 16 4=iand .u32 (ishr .u32 w 16) 15/\Q30 w 0 16=iand .u32 (ishr .u32 w 0) 65535/\Q30 w 8 8=iand .u32 (ishr .u32 w 8) 255:=
 ⟨by kernel_rfl,by kernel_rfl,by kernel_rfl,by kernel_rfl,by kernel_rfl⟩
def useOf(f:Int):Q98×Bool:=
 bif f==1 then(⟨false,false,false,0,0⟩,true) else bif f==2 then(⟨true,true,true,0,0⟩,true) else bif f==3 then(⟨true,true,false,-32768,32767⟩,true)
 else bif f==4 then(⟨true,true,false,0,65535⟩,true) else bif f==5 then(⟨true,true,false,0,31⟩,true) else bif f==6 then(⟨true,false,false,0,65535⟩,true)
 else bif f==7 then(⟨true,false,false,-32768,32767⟩,true) else bif f==8 then(⟨true,false,false,0,7⟩,true) else bif f==9 then(⟨true,false,false,0,11⟩,true) else(⟨false,false,false,0,0⟩,false)
def sameU(x y:Q98×Bool):Bool:=x.1.a==y.1.a&&x.1.b==y.1.b&&x.1.c==y.1.c&&x.1.low==y.1.low&&x.1.D6==y.1.D6&&x.2==y.2
theorem zH{x y:Q98×Bool}(h:sameU x y=true):x=y:=by
 obtain⟨⟨a,b,c,d,e⟩,f⟩:=x
 obtain⟨⟨a',b',c',d',e'⟩,f'⟩:=y
 simp only[sameU,aE,beq_iff_eq]at h
 obtain⟨⟨⟨⟨⟨rfl,rfl⟩,rfl⟩,rfl⟩,rfl⟩,rfl⟩:=h
 rfl
theorem yX{op:Int}(h0:0<=op)(h1:op<256):Z4j op=useOf (Q2d op):=by
 exact zH (Qty (λop=>sameU (Z4j op) (useOf (Q2d op))) 256 (by kernel_rfl) h0 h1)
theorem zg{op:Int}(h0:0<=op)(h1:op<256):Q2d op=0\/Q2d op=1\/Q2d op=2\/Q2d op=3\/Q2d op=4\/Q2d op=5\/Q2d op=6\/Q2d op=7\/Q2d op=8\/Q2d op=9:=by
 have:=oY (Qty (λop=>decide (0<=Q2d op/\Q2d op<=9)) 256 (by kernel_rfl) h0 h1)
 omega
theorem zah{op:Int}(h0:0<=op)(h1:op<256):Q8y op=Q3g op:=by
 exact eq_of_beq (Qty (λop=>Q8y op==Q3g op) 256 (by kernel_rfl) h0 h1)
theorem yH{a x y:Bool}:(cond a x y=true)↔((a=true/\x=true)\/(a=false/\y=true)):=by cases a<;>simp
theorem Zcb{i:Q0l}(h0:0<=i.Op)(h1:i.Op<256)(hi:wrap .i64 i.Imm=i.Imm):Qgn i=Q7w i:=by
 rw[Bool.eq_iff_iff]
 simp only[Qgn,Qis,Tree.m,letv,Q7w,Qgm,yX h0 h1,hi]
 rcases zg h0 h1 with h|h|h|h|h|h|h|h|h|h<;>rw[h]<;>
 simp [useOf,Q9m,Qfr,Q8a,Qdo,Qmw,Qn3,Tree.m,letv,yH]<;>omega
theorem sx16{x:Int}(h0:0<=x)(h1:x<65536):wrap .i32 (Q2b x 16)=wrap .i32 (wrap .i16 x):=by
 have e:Q2b x 16=wrap .u32 (ishr .i32 (wrap .i32 (ishl .u32 x 16)) 16):=by kernel_rfl
 have e2: ∀y,ishr .i32 y 16=y/65536:=λy=>by
   show Int.fdiv y 65536=_
   rw[Int.fdiv_eq_ediv_of_nonneg _ (by decide)]
 have e3:ishl .u32 x 16=wrap .u32 (x*65536):=rfl
 have e4:wrap .i16 x=(x+32768)%65536-32768:=by
   simp [wrap,IntKind.bits,IntKind.signed]
   split<;>omega
 rw[e,e2,e3,e4]
 simp only[wrap_i32,wrap_u32]
 omega
theorem sx8{x:Int}(h0:0<=x)(h1:x<256):Q2b x 8=Q3d x 8:=by
 exact eq_of_beq (Qty (λx=>Q2b x 8==Q3d x 8) 256 (by kernel_rfl) h0 h1)
theorem yg{w:Int}(hw:U w):Qi5 w=Q20 w:=by
 obtain⟨f1,f2,f3,f4,_⟩:=fld w
 obtain⟨w0,w1⟩:=hw
 have s24:ishr .u32 w 24=w/16777216:=by have:=Qr8 (a:=w) 24 (by decide);simpa using this
 have s20:U (ishr .u32 w 20):=Qx3 ⟨w0,w1⟩ _
 have s16:U (ishr .u32 w 16):=Qx3 ⟨w0,w1⟩ _
 rw[m255 (Qx3 ⟨w0,w1⟩ _),s24]at f1
 rw[m15 s20]at f2
 rw[m15 s16]at f3
 rw[shr0]at f4
 have g1:w/16777216%256=w/16777216:=by omega
 rw[g1]at f1
 have o0:0<=w/16777216:=by omega
 have o1:w/16777216<256:=by omega
 have eo:wrap .i64 (w/16777216)=w/16777216:=w64 (by omega) (by omega)
 have i32: ∀x,wrap .i64 (wrap .i32 x)=wrap .i32 x:=λx=>by rw[wrap_i64,wrap_i32];omega
 have l0:=m65535 ⟨w0,w1⟩
 have lx:=sx16 (x:=iand .u32 w 65535) (by omega) (by omega)
 simp only[Qi5,Q8,Q20,Q6o,Tree.m,letv,f1,f2,f3,f4,s24,eo,yX o0 o1,m15 s20,m15 s16,lx]
 generalize w/16777216=op at*
 generalize wrap .i64 (ishr .u32 w 20%16)=a
 generalize wrap .i64 (ishr .u32 w 16%16)=b
 generalize iand .u32 w 65535=l
 rw[Zcb (i:=⟨op,a,b,wrap .i64 l,0⟩) o0 o1 rfl,Zcb (i:=⟨op,a,b,0,wrap .i32 (wrap .i16 l)⟩) o0 o1 (i32 _),Zcb (i:=⟨op,a,b,0,wrap .i32 l⟩) o0 o1 (i32 _)]
 rcases zg o0 o1 with h|h|h|h|h|h|h|h|h|h<;>rw[h]<;>rfl
theorem xah(x v:BitVec 32)(s:Nat)(hs:s<=24):((x&&&~~~(255#32<<<s))|||((v&&&255#32)<<<s)).toNat=2^(s+8)*(x.toNat/2^(s+8))+(2^s*(v.toNat%256)+x.toNat%2^s):=by
  have hx:=x.isLt
  have h1:x.toNat%2^s<2^s:=Nat.mod_lt _ (Nat.two_pow_pos s)
  have h2:2^s*(v.toNat%256)+x.toNat%2^s<2^(s+8):=by
    have:v.toNat%256<256:=Nat.mod_lt _ (by decide)
    have h3:2^s*(v.toNat%256)<=2^s*255:=Nat.mul_le_mul_left _ (by omega)
    have:2^(s+8)=2^s*256:=by rw[Nat.pow_add]
    omega
  rw[Nat.two_pow_add_eq_or_of_lt h2,Nat.two_pow_add_eq_or_of_lt h1]
  apply Nat.eq_of_testBit_eq
  intro i
  rw[BitVec.testBit_toNat]
  simp only[BitVec.getLsbD_or,BitVec.getLsbD_and,BitVec.getLsbD_not,BitVec.getLsbD_shiftLeft,Nat.testBit_or,Nat.testBit_two_pow_mul,Nat.testBit_mod_two_pow,Nat.testBit_div_two_pow,BitVec.getLsbD_ofNat]
  have e255: ∀j,Nat.testBit 255 j=decide (j<8):=λj=>by
    rw[show 255=2^8-1 from rfl,Nat.testBit_two_pow_sub_one]
  have e256: ∀n j,Nat.testBit (n%256) j=(decide (j<8)&&Nat.testBit n j):=λn j=>by
    rw[show 256=2^8 from rfl,Nat.testBit_mod_two_pow]
  rw[e255,e256]
  by_cases hi:i<32
  . by_cases a1:i<s
    . have a2: ¬(s<=i):=by omega
      have a3: ¬(s+8<=i):=by omega
      simp [hi,a1,a2,a3,BitVec.getLsbD]
    . by_cases a4:s+8<=i
      . have a2: ¬(i-s<8):=by omega
        have a5:i-(s+8)+(s+8)=i:=by omega
        have a6:s<=i:=by omega
        simp [hi,a1,a2,a4,a5,a6,BitVec.getLsbD]
      . have a2:(i-s<8):=by omega
        have a6:s<=i:=by omega
        have a7:i-s<32:=by omega
        simp [hi,a1,a2,a4,a6,a7,BitVec.getLsbD]
  . have a0:x.toNat.testBit i=false:=Nat.testBit_lt_two_pow (Nat.lt_of_lt_of_le hx (Nat.pow_le_pow_right (by decide) (by omega)))
    have a1: ¬(i<s):=by omega
    have a2: ¬(i-s<8):=by omega
    have a4:s+8<=i:=by omega
    have a5:i-(s+8)+(s+8)=i:=by omega
    simp [hi,a0,a1,a2,a4,a5]
theorem Z9b(b:BitVec 32):BitVec.ofInt 32 (wrap .u32 (b.toNat:Int))=b:=by
 have:=b.isLt
 rw[wrap_u32]
 apply BitVec.eq_of_toNat_eq
 rw[BitVec.toNat_ofInt];omega
theorem Znm(x:Int):BitVec.ofInt 32 (wrap .u32 x)=BitVec.ofInt 32 x:=by
 apply BitVec.eq_of_toNat_eq
 rw[BitVec.toNat_ofInt,BitVec.toNat_ofInt,wrap_u32]
 have:((2^32:Nat):Int)=4294967296:=by decide
 rw[this,Int.emod_emod_of_dvd _ (Int.dvd_refl _)]
theorem Ze5{x:Int}(hx:U x)(s:Nat)(hs:s<=32):BitVec.ofInt 32 (ishl .u32 x s)=BitVec.ofInt 32 x<<<s:=by
 obtain⟨n,rfl⟩: ∃n:Nat,x=n:=⟨x.toNat,by have:=hx.1;omega⟩
 have e:min (Int.toNat (s:Int)) u32.bits=s:=by show min (Int.toNat (s:Int)) 32=s;omega
 unfold ishl
 rw[e,Znm]
 have e2:((n:Int)*2^s)=((n*2^s:Nat):Int):=by simp
 have:=hx.2
 rw[e2,BitVec.ofInt_natCast,BitVec.ofInt_natCast]
 apply BitVec.eq_of_toNat_eq
 rw[BitVec.toNat_shiftLeft,BitVec.toNat_ofNat,BitVec.toNat_ofNat,Nat.shiftLeft_eq,Nat.mod_mul_mod]
def putW(W v:Int)(s:Nat):Int:=ior .u32 (Qhu .u32 W (ishl .u32 255 s)) (ishl .u32 (iand .u32 v 255) s)
theorem qai{W v:Int}(hW:U W)(hv:U v)(s:Nat)(hs:s<=24):putW W v s=2^(s+8)*(W/2^(s+8))+(2^s*(v%256)+W%2^s):=by
 have e:=xah (BitVec.ofInt 32 W) (BitVec.ofInt 32 v) s hs
 have l:=((BitVec.ofInt 32 W&&&~~~(255#32<<<s))|||((BitVec.ofInt 32 v&&&255#32)<<<s)).isLt
 have h1:BitVec.ofInt 32 (Qhu .u32 W (ishl .u32 255 s))=BitVec.ofInt 32 W&&&~~~(255#32<<<s):=by
   show BitVec.ofInt 32 (wrap .u32 (BitVec.ofInt 32 W&&&~~~BitVec.ofInt 32 (ishl .u32 255 s)).toNat)=_
   rw[Z9b,Ze5 ⟨by decide,by decide⟩ s (by omega)]
   rfl
 have h2:BitVec.ofInt 32 (ishl .u32 (iand .u32 v 255) s)=(BitVec.ofInt 32 v&&&255#32)<<<s:=by
   rw[Ze5 (Zkd _ _) s (by omega)]
   congr 1
   show BitVec.ofInt 32 (wrap .u32 (BitVec.ofInt 32 v&&&BitVec.ofInt 32 255).toNat)=_
   rw[Z9b];rfl
 show wrap .u32 ((BitVec.ofInt 32 (Qhu .u32 W (ishl .u32 255 s))|||BitVec.ofInt 32 (ishl .u32 (iand .u32 v 255) s)).toNat:Int)=_
 rw[h1,h2]
 have lw:wrap .u32 ((((BitVec.ofInt 32 W&&&~~~(255#32<<<s))|||((BitVec.ofInt 32 v&&&255#32)<<<s)).toNat:Nat):Int)=(((BitVec.ofInt 32 W&&&~~~(255#32<<<s))|||((BitVec.ofInt 32 v&&&255#32)<<<s)).toNat:Nat):=by rw[wrap_u32];omega
 rw[lw,e,Qxk hW,Qxk hv]
 obtain⟨n,rfl⟩: ∃n:Nat,W=n:=⟨W.toNat,by have:=hW.1;omega⟩
 obtain⟨k,rfl⟩: ∃n:Nat,v=n:=⟨v.toNat,by have:=hv.1;omega⟩
 simp
def dig(w:Int)(k:Nat):Int:=if k=0 then w%256 else if k=1 then w/256%256 else if k=2 then w/65536%256 else w/16777216%256
def byt(m:List Int)(a:Nat):Int:=dig (m.getD (a/4) 0) (a%4)
theorem vg(w:Int)(k:Nat):0<=dig w k/\dig w k<256:=by
 unfold dig
 split
 . omega
 . split
   . omega
   . split<;>omega
theorem zai{w v:Int}(hw:U w)(hv:U v)(h: ∀k,k<4->dig w k=dig v k):w=v:=by
 have h0:=h 0 (by omega)
 have h1:=h 1 (by omega)
 have h2:=h 2 (by omega)
 have h3:=h 3 (by omega)
 simp [dig]at h0 h1 h2 h3
 obtain⟨a,b⟩:=hw
 obtain⟨c,d⟩:=hv
 omega
theorem Zk3{m n:List Int}(hl:m.length=n.length)(hm: ∀w∈m,U w)(hn: ∀w∈n,U w)(h: ∀a,byt m a=byt n a):m=n:=by
 refine List.ext_getElem hl λi h1 h2=> ?_
 have e1:m[i]=m.getD i 0:=by simp [List.getD,h1]
 have e2:n[i]=n.getD i 0:=by simp [List.getD,h2]
 rw[e1,e2]
 refine zai (Ql7 hm i) (Ql7 hn i) λk hk=> ?_
 have:=h (4*i+k)
 simp only[byt]at this
 rwa [show(4*i+k)/4=i by omega,show(4*i+k)%4=k by omega]at this
theorem Qvc{l:List Int}{i:Nat}(h:i<l.length)(v:Int):(l.set i v).getD i 0=v:=by
 simp [List.getD,h]
theorem Zj2{m:List Int}{i:Nat}(hi:i<m.length)(v:Int)(a:Nat):byt (m.set i v) a=if a/4=i then dig v (a%4) else byt m a:=by
 unfold byt
 split
 . rename_i h;rw[h,Qvc hi]
 . rename_i h;rw[getDset _ _ _ _ (λe=>h e.symm)]
theorem xai{W v:Int}(hW:U W)(hv:U v){j:Nat}(hj:j<4){k:Nat}(hk:k<4):dig (putW W v (8*j)) k=if k=j then v%256 else dig W k:=by
 have h:=qai hW hv (8*j) (by omega)
 rw[h]
 obtain⟨w0,w1⟩:=hW
 have h0:0<=v%256:=by omega
 have h1:v%256<256:=by omega
 generalize v%256=b at*
 clear h
 have hj:j=0\/j=1\/j=2\/j=3:=by omega
 have hk:k=0\/k=1\/k=2\/k=3:=by omega
 rcases hj with rfl|rfl|rfl|rfl<;>rcases hk with rfl|rfl|rfl|rfl<;>simp [dig]<;>omega
theorem qaj{m:List Int}{a v:Int}(ha:U a):Qar m a 1 v=m.set (a/4).toNat (putW (m.getD (a/4).toNat 0) v (8*(a%4).toNat)):=by
 obtain⟨a0,a1⟩:=ha
 have e1:wrap .u32 (Int.tdiv a 4)=a/4:=by rw[wrap_u32,Int.tdiv_eq_ediv_of_nonneg a0];omega
 have e2:wrap .u32 (8*Int.tmod a 4)=((8*(a%4).toNat:Nat):Int):=by rw[wrap_u32,Int.tmod_eq_emod_of_nonneg a0];omega
 have e3:((1:Int)==4)=false:=rfl
 simp only[Qar,Qew,Tree.m,e1,e2,e3,cond_false]
 rfl
theorem qh{P:Nat}{m:List Int}(h:Q15 P m){a v:Int}(ha:U a)(hl:a<128*P)(hv:U v):Q15 P (Qar m a 1 v)/\ ∀b:Nat,byt (Qar m a 1 v) b=if(b:Int)=a then v%256 else byt m b:=by
 have hlen:=h.len
 have a0:=ha.1
 rw[qaj ha]
 have hi:(a/4).toNat<m.length:=by omega
 refine⟨⟨by rw[List.length_set];exact hlen,h.p1,h.p2,Z6c h.u (U_or _ _) _⟩,λb=> ?_⟩
 rw[Zj2 hi]
 by_cases hb:b/4=(a/4).toNat
 . rw[if_pos hb,xai (Ql7 h.u _) hv (by omega) (by omega)]
   by_cases hc:b%4=(a%4).toNat
   . rw[if_pos hc,if_pos (by omega)]
   . rw[if_neg hc,if_neg (by omega),byt,hb]
 . rw[if_neg hb,if_neg (by omega)]
theorem vX{P:Nat}{m:List Int}(h:Q15 P m){frame:Int}(f0:0<=frame)(f1:frame<P)(s:List UInt8):(Q9x m frame s).w (λr=>Q15 P r/\ ∀b:Nat,byt r b=if frame*128<=b/\(b:Int)<frame*128+min s.length 128 then((s.getD (b-frame*128).toNat 0).toNat:Int) else byt m b):=by
 unfold Q9x
 have h3:=h.p2
 refine w_lp (inv:=λz=>0<=z.1/\z.1<=min s.length 128/\Q15 P z.2/\ ∀b:Nat,byt z.2 b=if frame*128<=b/\(b:Int)<frame*128+z.1 then((s.getD (b-frame*128).toNat 0).toNat:Int) else byt m b) (μ:=Qjf m frame s) ⟨show(0:Int)<=0 by decide,by show(0:Int)<=_;omega,h,λb=>by rw[if_neg];show¬(_/\_<_+(0:Int));omega⟩ (Nat.lt_succ_self _) (λv0 hv0=> ?_)
 obtain⟨i,mm⟩:=v0
 obtain⟨i0,i1,hm,hy⟩:=hv0
 have i0:0<=i:=i0
 have i1:i<=min s.length 128:=i1
 have hm:Q15 P mm:=hm
 have fin: ∀r:List Int,r=mm->i=min s.length 128->Q15 P r/\ ∀b:Nat,byt r b=if frame*128<=b/\(b:Int)<frame*128+min s.length 128 then((s.getD (b-frame*128).toNat 0).toNat:Int) else byt m b:=λr hr hi=>by
   subst hr;refine⟨hm,λb=> ?_⟩
   rw[hy b];simp only[hi]
 refine w_br (λh1=>w_br (λh2=>w_cn ?_ ?_) (λh2=>fin mm rfl ?_)) (λh1=>fin mm rfl ?_)
 . have:=oY h1
   simp [Nat.blt];omega
 . have h1:i<s.length:=oY h1
   have h2:i<128:=oY h2
   have e:wrap u32 (wrap i64 (wrap i64 (frame*128)+i))=frame*128+i:=by
     rw[wrap_u32,wrap_i64,wrap_i64];omega
   show(Tree.an (Qg6 mm (wrap u32 (wrap i64 (wrap i64 (frame*128)+i))) 1 _) (Tree.lv _ _)).w _
   rw[e]
   have hu:U (frame*128+i):=⟨by omega,by omega⟩
   have hvU: ∀n:Nat,U (wrap .u32 (n:Int)):=λn=>Q0s _
   obtain⟨g1,_⟩:=Tree.pp (put_w hm (size:=1) (addr:=frame*128+i) hu (by rw[hm.len];omega) (hvU (UInt8.toNat (s.getD i.toNat 0))))
   obtain⟨g2,g3⟩:=qh hm hu (by omega) (hvU (UInt8.toNat (s.getD i.toNat 0)))
   refine w_an g1 (w_lv λx0 hx0=> ?_)
   rw[hx0]
   have ew:i64.wrap (i+1)=i+1:=by rw[wrap_i64];omega
   refine w_nx ?_
   show(0<=i64.wrap (i+1)/\i64.wrap (i+1)<=min s.length 128/\Q15 P _/\ ∀b:Nat,byt _ b=if frame*128<=b/\(b:Int)<frame*128+i64.wrap (i+1) then _ else _)/\(128-i64.wrap (i+1)).toNat<(128-i).toNat
   rw[ew]
   refine⟨⟨by omega,by omega,g2,λb=> ?_⟩,by omega⟩
   rw[show Qar mm (frame*128+i) 1 _=_ from rfl,g3 b]
   by_cases hb:(b:Int)=frame*128+i
   . rw[if_pos hb,if_pos (by omega),wrap_u32]
     have:=(s.getD i.toNat 0).toNat_lt
     rw[show(b-frame*128).toNat=i.toNat by omega];omega
   . rw[if_neg hb,hy b]
     show(if frame*128<=(b:Int)/\(b:Int)<frame*128+i then _ else _)=_
     by_cases hc:frame*128<=(b:Int)/\(b:Int)<frame*128+i
     . rw[if_pos hc,if_pos (by omega)]
     . rw[if_neg hc,if_neg (by omega)]
 . have h1:i<s.length:=oY h1
   have h2: ¬i<128:=oN h2
   omega
 . have h1: ¬i<s.length:=oN h1
   omega
theorem xh{x y:Int}(hx:U x)(hy:U y)(k:Nat)(hk:x<2^k)(h:x+y*2^k<4294967296):ior .u32 x (y*2^k)=x+y*2^k:=by
 obtain⟨n,rfl⟩: ∃n:Nat,x=n:=⟨x.toNat,by have:=hx.1;omega⟩
 obtain⟨z,rfl⟩: ∃n:Nat,y=n:=⟨y.toNat,by have:=hy.1;omega⟩
 have e:((z:Int)*2^k)=((z*2^k:Nat):Int):=by simp
 rw[e]at h⊢
 have hn:n<2^k:=by exact_mod_cast hk
 rw[zaF hx ⟨by omega,by omega⟩,Int.toNat_natCast,Int.toNat_natCast,Nat.or_comm,Nat.mul_comm,<-Nat.two_pow_add_eq_or_of_lt hn]
 omega
theorem four{a b c d:Int}(ha:0<=a/\a<256)(hb:0<=b/\b<256)(hc:0<=c/\c<256)(hd:0<=d/\d<256):ior .u32 (ior .u32 (ior .u32 (wrap .u32 a) (ishl .u32 (wrap .u32 b) 8)) (ishl .u32 (wrap .u32 c) 16)) (ishl .u32 (wrap .u32 d) 24)=a+b*2^8+c*2^16+d*2^24:=by
 have w: ∀{x:Int},0<=x/\x<256->wrap .u32 x=x:=λhx=>by rw[wrap_u32];omega
 have s8: ∀{x:Int},0<=x/\x<256->ishl .u32 x 8=x*2^8:=fun{x} hx=>by show wrap .u32 (x*2^8)=_;rw[wrap_u32];omega
 have s16: ∀{x:Int},0<=x/\x<256->ishl .u32 x 16=x*2^16:=fun{x} hx=>by show wrap .u32 (x*2^16)=_;rw[wrap_u32];omega
 have s24: ∀{x:Int},0<=x/\x<256->ishl .u32 x 24=x*2^24:=fun{x} hx=>by show wrap .u32 (x*2^24)=_;rw[wrap_u32];omega
 rw[w ha,w hb,w hc,w hd,s8 hb,s16 hc,s24 hd]
 rw[xh ⟨by omega,by omega⟩ ⟨by omega,by omega⟩ 8 (by omega) (by omega),xh ⟨by omega,by omega⟩ ⟨by omega,by omega⟩ 16 (by omega) (by omega),xh ⟨by omega,by omega⟩ ⟨by omega,by omega⟩ 24 (by omega) (by omega)]
theorem vH{a b c d:Int}(ha:0<=a/\a<256)(hb:0<=b/\b<256)(hc:0<=c/\c<256)(hd:0<=d/\d<256)(k:Nat)(hk:k<4):dig (a+b*2^8+c*2^16+d*2^24) k=if k=0 then a else if k=1 then b else if k=2 then c else d:=by
 have hk:k=0\/k=1\/k=2\/k=3:=by omega
 rcases hk with rfl|rfl|rfl|rfl<;>simp [dig]<;>omega
theorem Zbt{P:Nat}{m:List Int}(h:Q15 P m)(f:Int):Q5g m f=decide (0<=f/\f<P):=by
 have hp:=Q3q h
 simp only[Q5g,Q8j,Tree.m,letv,hp]
 by_cases h1:0<=f
 . rw[dY h1];simp [h1]
 . rw[dN h1];simp [h1]
theorem qI(s:List UInt8)(a b k:Nat)(h:k<b):(List.take b (List.drop a s)).getD k 0=s.getD (a+k) 0:=by
 simp [List.getD_eq_getElem?_getD,List.getElem?_take,h]
theorem u8I(x:UInt8):0<=(x.toNat:Int)/\(x.toNat:Int)<256:=by have:=x.toNat_lt;omega
theorem Z53{P:Nat}{m:List Int}(h:Q15 P m){f:Int}(f0:0<=f)(f1:f<P){s:List UInt8}(hs:s.length=128):(Q3n m f s).w (λr=>r.2=true/\Q15 P r.1/\ ∀b:Nat,byt r.1 b=if f*128<=b/\(b:Int)<f*128+128 then((s.getD (b-f*128).toNat 0).toNat:Int) else byt m b):=by
  have hcl:Q03 m=m:=rfl
  have h2:=h.p2
  unfold Q3n
  refine w_an (Q9e h) (w_lv λx0 hx0=>w_lv λx1 hx1=> ?_)
  rw[hcl]at hx0;subst hx0
  rw[Zbt h,dY ⟨f0,f1⟩]at hx1
  subst hx1
  refine w_br (λhb=>by cases hb) λ_=>w_br (λhb=>by simp [hs]at hb) λ_=> ?_
  refine w_lp (inv:=λz:Int×List Int=>0<=z.1/\z.1<=32/\Q15 P z.2/\ ∀b:Nat,byt z.2 b=if f*128<=b/\(b:Int)<f*128+4*z.1 then((s.getD (b-f*128).toNat 0).toNat:Int) else byt x0 b) (μ:=Qb9 x0 f s) ⟨show(0:Int)<=0 by decide,show(0:Int)<=32 by decide,h,λb=>by rw[if_neg];show¬(_/\_<_+4*(0:Int));omega⟩ (Nat.lt_succ_self _) λz ⟨z1,z2,z3,z4⟩=> ?_
  refine w_br (λhb=> ?_) (λhb=>⟨rfl,z3,λb=> ?_⟩)
  . have hb:=oY hb
    have e1:i64.wrap (4*z.1)=4*z.1:=by rw[wrap_i64];omega
    have e2:i64.wrap (i64.wrap (4*z.1)+4)=4*z.1+4:=by rw[wrap_i64,wrap_i64];omega
    have e3:i64.wrap (i64.wrap (f*32)+z.1)=f*32+z.1:=by rw[wrap_i64,wrap_i64];omega
    have hl:=z3.len
    have cut:Int.toNat (i64.wrap (i64.wrap (4*z.1)+4))-Int.toNat (i64.wrap (4*z.1))=4:=by rw[e2,e1];omega
    have hlen:(List.take (Int.toNat (i64.wrap (i64.wrap (4*z.1)+4))-Int.toNat (i64.wrap (4*z.1))) (List.drop (Int.toNat (i64.wrap (4*z.1))) s)).length=4:=by
      rw[cut,e1,List.length_take,List.length_drop];omega
    refine w_cn (dY (by rw[e2,e1];omega)) ?_
    refine w_cn (dY (by rw[hlen];decide)) (w_cn (dY (by rw[hlen];decide)) (w_cn (dY (by rw[hlen];decide)) (w_cn (dY (by rw[hlen];decide)) (w_cn (by rw[e3];simp [Nat.blt];omega) (w_nx ?_)))))
    have ew:i64.wrap (z.1+1)=z.1+1:=by rw[wrap_i64];omega
    rw[cut]
    refine⟨⟨by show 0<=i64.wrap (z.1+1);rw[ew];omega,by show i64.wrap (z.1+1)<=32;rw[ew];omega,?_,?_⟩,by show(32-i64.wrap (z.1+1)).toNat<(32-z.1).toNat;rw[ew];omega⟩
    . show Q15 P (List.set _ _ _)
      exact⟨by rw[List.length_set];exact hl,z3.p1,z3.p2,Z6c z3.u (U_or _ _) _⟩
    . intro b
      show byt (List.set z.2 (Int.toNat (i64.wrap (i64.wrap (f*32)+z.1))) _) b=if f*128<=(b:Int)/\(b:Int)<f*128+4*i64.wrap (z.1+1) then _ else _
      rw[e3,ew,four (u8I _) (u8I _) (u8I _) (u8I _),Zj2 (by omega)]
      have g: ∀k:Nat,k<4->(List.take 4 (List.drop (Int.toNat (i64.wrap (4*z.1))) s)).getD k 0=s.getD ((4*z.1).toNat+k) 0:=λk hk=>by rw[e1];exact qI _ _ _ _ hk
      by_cases hc:b/4=(f*32+z.1).toNat
      . have hin:f*128<=(b:Int)/\(b:Int)<f*128+4*(z.1+1):=by omega
        rw[if_pos hc,vH (u8I _) (u8I _) (u8I _) (u8I _) _ (by omega),if_pos hin]
        have hb4:b%4=0\/b%4=1\/b%4=2\/b%4=3:=by omega
        have gi:(b-f*128).toNat=(4*z.1).toNat+b%4:=by omega
        rw[gi]
        rcases hb4 with h4|h4|h4|h4<;>rw[h4]
        . rw[if_pos rfl,<-g 0 (by omega)];rfl
        . rw[if_neg (by decide),if_pos rfl,<-g 1 (by omega)];rfl
        . rw[if_neg (by decide),if_neg (by decide),if_pos rfl,<-g 2 (by omega)];rfl
        . rw[if_neg (by decide),if_neg (by decide),if_neg (by decide),<-g 3 (by omega)];rfl
      . rw[if_neg hc,z4 b]
        by_cases hd:f*128<=(b:Int)/\(b:Int)<f*128+4*z.1
        . rw[if_pos hd,if_pos (by omega)]
        . rw[if_neg hd,if_neg (by omega)]
  . have hb:=oN hb
    show byt z.2 b=_
    rw[z4 b,show z.1=32 by omega]
    rfl
theorem Zam{α:Type}(l l2:List α)(k:Nat)(z:α):(l++l2).getD k z=if k<l.length then l.getD k z else l2.getD (k-l.length) z:=by
 simp only[List.getD_eq_getElem?_getD,List.getElem?_append]
 split<;>rfl
theorem u8w{x:Int}:wrap .u8 x=x%256:=wrap_u8 x
theorem shr_c(W:Int):ishr .u32 W 8=W/256/\ishr .u32 W 16=W/65536/\ishr .u32 W 24=W/16777216:=by
 refine⟨?_,?_,?_⟩
 . show Int.fdiv W 256=_;rw[Int.fdiv_eq_ediv_of_nonneg _ (by decide)]
 . show Int.fdiv W 65536=_;rw[Int.fdiv_eq_ediv_of_nonneg _ (by decide)]
 . show Int.fdiv W 16777216=_;rw[Int.fdiv_eq_ediv_of_nonneg _ (by decide)]
theorem b4d(W:Int){k:Nat}(hk:k<4):[wrap .u8 W,wrap .u8 (ishr .u32 W 8),wrap .u8 (ishr .u32 W 16),wrap .u8 (ishr .u32 W 24)].getD k 0=dig W k:=by
 obtain⟨a,b,c⟩:=shr_c W
 have hk:k=0\/k=1\/k=2\/k=3:=by omega
 rcases hk with rfl|rfl|rfl|rfl<;>simp [dig,a,b,c,u8w]
theorem Qoo(l:List Int)(k:Nat)(h:0<=l.getD k 0/\l.getD k 0<256)(hk:k<l.length):(((bytesOf l).getD k 0).toNat:Int)=l.getD k 0:=by
 have e:(bytesOf l).getD k 0=UInt8.ofNat (l.getD k 0).toNat:=by
   simp [bytesOf,List.getD_eq_getElem?_getD,hk]
 rw[e,UInt8.toNat_ofNat']
 omega
theorem Zif(l:List UInt8)(k:Nat)(hk:k<l.length):(Qbr l).getD k 0=((l.getD k 0).toNat:Int):=by
 simp [Qbr,List.getD_eq_getElem?_getD,hk]
theorem xaF(w:List Int)(h:w.length<=32):(Q59 w).w (λr=>r.length=4*w.length/\ ∀k:Nat,k<4*w.length->((r.getD k 0).toNat:Int)=dig (w.getD (k/4) 0) (k%4)):=by
 have e0:i64.wrap (4*(w.length:Int))=4*w.length:=by rw[wrap_i64];omega
 unfold Q59
 refine w_cn (by rw[e0];simp [Nat.blt,D.plain];omega) ?_
 refine w_lp (inv:=λz:Int×List Int=>0<=z.1/\z.1<=w.length/\(z.2.length:Int)=4*z.1/\ ∀k:Nat,(k:Int)<4*z.1->z.2.getD k 0=dig (w.getD (k/4) 0) (k%4)) (μ:=Q7u w) ⟨by decide,by show(0:Int)<=w.length;omega,rfl,λk hk=>by have hk:(k:Int)<4*0:=hk;omega⟩ (Nat.lt_succ_self _) λz ⟨z1,z2,z3,z4⟩=> ?_
 refine w_br (λhb=> ?_) (λhb=> ?_)
 . have hb:=oY hb
   have ew:i64.wrap (z.1+1)=z.1+1:=by rw[wrap_i64];omega
   refine w_cn (by simp [Nat.blt];omega) (w_cn (dY (by omega)) (w_nx ?_))
   show(_/\_/\_/\ ∀k:Nat,(k:Int)<4*i64.wrap (z.1+1)->(z.2++_).getD k 0=_)/\(_:Nat)<_
   refine⟨⟨by rw[ew];omega,by rw[ew];omega,by rw[ew,lA];simp only[List.length_cons,List.length_nil];omega,λk hk=> ?_⟩,by show(w.length-i64.wrap (z.1+1)).toNat<(w.length-z.1).toNat;rw[ew];omega⟩
   rw[ew]at hk
   rw[Zam]
   split
   . exact z4 k (by omega)
   . rename_i hn
     rw[b4d _ (by omega),show z.1.toNat=k/4 by omega,show k-z.2.length=k%4 by omega]
 . have hb:=oN hb
   show(bytesOf z.2).length=_/\ ∀k:Nat,_->(((bytesOf z.2).getD k 0).toNat:Int)=_
   refine⟨by rw[Qjr];omega,λk hk=> ?_⟩
   have e:=z4 k (by omega)
   have:=vg (w.getD (k/4) 0) (k%4)
   rw[Qoo _ _ (by rw[e];exact this) (by omega),e]
def isPg(m:List Int)(f:Int)(r:List UInt8):Prop:=r.length=128/\ ∀k:Nat,k<128->((r.getD k 0).toNat:Int)=byt m ((f*128).toNat+k)
theorem qaG{m:List Int}{f:Int}{r s:List UInt8}(a:isPg m f r)(b:isPg m f s):r=s:=by
 obtain⟨a1,a2⟩:=a
 obtain⟨b1,b2⟩:=b
 refine List.ext_getElem (by omega) λi h1 h2=> ?_
 have e:=(a2 i (by omega)).trans (b2 i (by omega)).symm
 have e1:r[i]=r.getD i 0:=by simp [List.getD,h1]
 have e2:s[i]=s.getD i 0:=by simp [List.getD,h2]
 rw[e1,e2]
 exact UInt8.toNat_inj.1 (by omega)
theorem zh{P:Nat}{m:List Int}(h:Q15 P m){f:Int}(f0:0<=f)(f1:f<P):(Q6z m f).w (λr=>isPg m f r.1/\r.2=true):=by
 have hl:=h.len
 have h2:=h.p2
 unfold Q6z
 refine w_lv λx0 hx0=> ?_
 rw[Zbt h,dY ⟨f0,f1⟩]at hx0
 subst hx0
 refine w_br (λhb=>by cases hb) (λhb=> ?_)
 have e1:i64.wrap (f*32)=f*32:=by rw[wrap_i64];omega
 have e2:i64.wrap (i64.wrap (f*32)+32)=f*32+32:=by rw[wrap_i64,wrap_i64];omega
 have cut:Int.toNat (i64.wrap (i64.wrap (f*32)+32))-Int.toNat (i64.wrap (f*32))=32:=by rw[e2,e1];omega
 have hlen:(List.take 32 (List.drop (Int.toNat (i64.wrap (f*32))) m)).length=32:=by
   rw[e1,List.length_take,List.length_drop];omega
 refine w_cn (by rw[e2,e1];simp [Nat.blt];omega) ?_
 rw[cut]
 refine w_an (by show List.length _<=1000000000000;rw[hlen];decide) (w_lv λx1 h1=> ?_)
 have t:=(Tree.pp (xaF _ (Nat.le_of_eq hlen))).2
 rw[hlen,show(Q59 (List.take 32 (List.drop (Int.toNat (i64.wrap (f*32))) m))).m=x1 from h1.symm]at t
 refine⟨⟨t.1,λk hk=> ?_⟩,rfl⟩
 show((x1.getD k 0).toNat:Int)=_
 rw[t.2 k hk,byt,e1]
 have g:(List.take 32 (List.drop (Int.toNat (f*32)) m)).getD (k/4) 0=m.getD ((f*32).toNat+k/4) 0:=by
   simp [List.getD_eq_getElem?_getD,List.getElem?_take,show k/4<32 by omega]
 rw[g,show((f*128).toNat+k)/4=(f*32).toNat+k/4 by omega,show((f*128).toNat+k)%4=k%4 by omega]
theorem zaG(x:Int):Zbx x 4=bytesOf [wrap .u8 (ishr .u32 x 0),wrap .u8 (ishr .u32 x 8),wrap .u8 (ishr .u32 x 16),wrap .u8 (ishr .u32 x 24)]:=by kernel_rfl
theorem zaj{P:Nat}{m:List Int}(hm:Q15 P m){frame:Int}(f0:0<=frame)(f1:frame<P):(Q9y m frame).w (λr=>isPg m frame r.1/\r.2=true):=by
 have hp:=Qfl hm
 have hl:=hm.len
 have h2:=hm.p2
 unfold Q9y
 refine w_br (λh=>by have:=oY h;omega) (λh=>w_lv λx0 hx=>w_br (λh1=>by have:=oY h1;rw[hx,hp]at this;omega) (λh1=> ?_))
 refine w_lp (inv:=λz:Int×List Int=>0<=z.1/\z.1<=32/\(z.2.length:Int)=4*z.1/\ ∀k:Nat,(k:Int)<4*z.1->z.2.getD k 0=byt m ((frame*128).toNat+k)) (μ:=Qj4 m frame) ⟨by decide,by decide,rfl,λk hk=>by have hk:(k:Int)<4*0:=hk;omega⟩ (Nat.lt_succ_self _) (λz hz=> ?_)
 obtain⟨z1,z2,z3,z4⟩:=hz
 refine w_br (λhb=> ?_) (λhb=> ?_)
 . have hb:=oY hb
   have e:wrap i64 (wrap i64 (frame*32)+z.1)=frame*32+z.1:=by rw[wrap_i64,wrap_i64];omega
   refine w_cn (by rw[e];simp [Nat.blt];omega) (w_an (show(4:Int)<=1000000000000 by decide) (w_lv λx1 h4=> ?_))
   rw[zaG,shr0,e]at h4
   have l4:x1.length=4:=by rw[h4];rfl
   refine w_cn (dY (by rw[Qqp,l4];omega)) (w_nx ?_)
   show(0<=i64.wrap (z.1+1)/\i64.wrap (z.1+1)<=32/\((z.2++Qbr x1).length:Int)=4*i64.wrap (z.1+1)/\ ∀k:Nat,(k:Int)<4*i64.wrap (z.1+1)->(z.2++Qbr x1).getD k 0=_)/\(32-i64.wrap (z.1+1)).toNat<(32-z.1).toNat
   have ew:i64.wrap (z.1+1)=z.1+1:=by rw[wrap_i64];omega
   rw[ew]
   refine⟨⟨by omega,by omega,by rw[lA,Qqp,l4];omega,λk hk=> ?_⟩,by omega⟩
   rw[Zam]
   split
   . exact z4 k (by omega)
   . rename_i hn
     have hk4:k-z.2.length<4:=by omega
     rw[Zif _ _ (by omega),h4]
     have d:=b4d (m.getD (frame*32+z.1).toNat 0) hk4
     rw[Qoo _ _ (by rw[d];exact vg _ _) (by simpa using hk4),d,byt]
     rw[show((frame*128).toNat+k)/4=(frame*32+z.1).toNat by omega,show((frame*128).toNat+k)%4=k-z.2.length by omega]
 . have hb:=oN hb
   refine⟨⟨?_,λk hk=> ?_⟩,rfl⟩
   . show(bytesOf z.2).length=128
     rw[Qjr];omega
   . show(((bytesOf z.2).getD k 0).toNat:Int)=_
     have e:=z4 k (by omega)
     rw[Qoo _ _ (by rw[e];exact vg _ _) (by omega),e]
theorem Zdl{P:Nat}{m:List Int}(h:Q15 P m)(f:Int):Q5x m f=Qii m f:=by
 by_cases hf:0<=f/\f<P
 . have a:=(Tree.pp (zh h hf.1 hf.2)).2
   have b:=(Tree.pp (zaj h hf.1 hf.2)).2
   exact Prod.ext (qaG a.1 b.1) (a.2.trans b.2.symm)
 . have hp:=Qfl h
   have e1:Q5x m f=([],false):=by
     simp only[Q5x,Q6z,Tree.m,letv,Zbt h,dN hf];rfl
   have e2:Qii m f=([],false):=by
     simp only[Qii,Q9y,Tree.m,letv,hp]
     by_cases h0:f<0
     . rw[dY h0];rfl
     . rw[dN h0,dY (show f>=P by omega)];rfl
   rw[e1,e2]
section
variable {P:Nat} {m:List Int} (h:Q15 P m)
include h
theorem Zeu{f:Int}(f0:0<=f)(f1:f<P){s:List UInt8}(hs:s.length=128):Q2v m f s=(Qld m f s,true):=by
 have a:=(Tree.pp (Z53 h f0 f1 hs)).2
 have b:=(Tree.pp (vX h f0 f1 s)).2
 refine Prod.ext (Zk3 (a.2.1.len.trans b.1.len.symm) a.2.1.u b.1.u λk=> ?_) a.1
 have e:((min s.length 128:Nat):Int)=128:=by rw[hs];rfl
 have b2:=b.2 k
 have a2:=a.2.2 k
 rw[e]at b2
 exact a2.trans b2.symm
theorem Zf1{f:Int}(f0:0<=f)(f1:f<P){s r:List UInt8}(hs:s.length<=128)(hr:isPg m f r):Q2v m f (s++r.drop s.length)=(Qld m f s,true):=by
  have hl:(s++r.drop s.length).length=128:=by have:=hr.1;simp;omega
  have a:=(Tree.pp (Z53 h f0 f1 hl)).2
  have b:=(Tree.pp (vX h f0 f1 s)).2
  refine Prod.ext (Zk3 (a.2.1.len.trans b.1.len.symm) a.2.1.u b.1.u λk=> ?_) a.1
  have b2:=b.2 k
  have a2:=a.2.2 k
  refine a2.trans (Eq.trans ?_ b2.symm)
  by_cases hc:f*128<=(k:Int)/\(k:Int)<f*128+128
  . rw [if_pos hc,Zam]
    by_cases hd:(k-f*128).toNat<s.length
    . rw[if_pos hd,if_pos (by omega)]
    . rw[if_neg hd,if_neg (by omega)]
      have e:(r.drop s.length).getD ((k-f*128).toNat-s.length) 0=r.getD (k-f*128).toNat 0:=by
        simp [List.getD_eq_getElem?_getD,show s.length+((k-f*128).toNat-s.length)=(k-f*128).toNat by omega]
      rw[e,hr.2 _ (by omega),show(f*128).toNat+(k-f*128).toNat=k by omega]
  . rw[if_neg hc,if_neg (by omega)]
theorem Qi3{a:Int}(ha:U a){size:Int}(hs:size=1\/size=4):Q24 m a size=decide (a%size=0/\a<128*P):=by
 have hq:=Qfl h
 have h2:=h.p2
 have a0:=ha.1
 have e:wrap u32 size=size:=by rcases hs with rfl|rfl<;>decide
 have e0:decide (wrap u32 size≠0)=true:=by rcases hs with rfl|rfl<;>decide
 have t:Int.tmod a (wrap u32 size)=a%size:=by rw[e,Int.tmod_eq_emod_of_nonneg a0]
 have l: ∀x,x=Q40 m->a%size=0->decide (a<wrap u32 (wrap i64 (128*x)))=decide (a%size=0/\a<128*P):=λx hx hz=>by
   rw[hx,hq,wrap_u32,wrap_i64]
   exact decide_eq_decide.2 ⟨λh=>⟨hz,by omega⟩,λh=>by omega⟩
 refine Tree.post (Q8f m a size) (W:=λb=>b=decide (a%size=0/\a<128*P)) ?_
 unfold Q8f
 refine w_br (λh1=>w_br (λh4=> ?_) (λ_=> ?_)) (λ_=> ?_)
 . have h1: ¬size=1:=by simpa using h1
   have h4: ¬size=4:=by simpa using h4
   omega
 all_goals
   refine w_cn e0 (w_br (λhb=>w_lv λx hx=>l x hx ?_) (λhb=> ?_))
   . rw[t]at hb;exact eq_of_beq hb
   . rw[t]at hb
     exact(dN (λh=>by rw[h.1]at hb;cases hb)).symm
theorem Z57{a:Int}(ha:U a){size:Int}(hs:size=1\/size=4):Qhq m a size=Q24 m a size:=by
 rw[Qi3 h ha hs]
 have hq:=Z2m h
 have h2:=h.p2
 have a0:=ha.1
 have a1:=ha.2
 have e:wrap u32 size=size:=by rcases hs with rfl|rfl<;>decide
 have e0:decide (wrap u32 size≠0)=true:=by rcases hs with rfl|rfl<;>decide
 have t:Int.tmod a (wrap u32 size)=a%size:=by rw[e,Int.tmod_eq_emod_of_nonneg a0]
 have l: ∀x,x=Q0x m->a%size=0->decide (wrap u64 (wrap u64 a+wrap u64 size)<=wrap u64 (wrap u64 x*128))=decide (a%size=0/\a<128*P):=λx hx hz=>by
   rw[hx,hq]
   simp only[wrap_u64]
   refine decide_eq_decide.2 ⟨λh=>⟨hz,?_⟩,λh=> ?_⟩<;>rcases hs with rfl|rfl<;>omega
 refine Tree.post (Q3h m a size) (W:=λb=>b=decide (a%size=0/\a<128*P)) ?_
 unfold Q3h
 refine w_br (λh1=>w_br (λh4=> ?_) (λ_=> ?_)) (λ_=> ?_)
 . have h1: ¬size=1:=by simpa using h1
   have h4: ¬size=4:=by simpa using h4
   omega
 all_goals
   refine w_cn e0 (w_br (λhb=> ?_) (λhb=>w_lv λx hx=>l x hx ?_))
   . rw[t]at hb
     exact(dN (λh=>by rw[h.1]at hb;cases hb)).symm
   . rw[t]at hb;simpa using hb
end
theorem fldj(w:Int):Q30 w 0 8=iand .u32 (ishr .u32 w 0) 255/\Q30 w 8 8=iand .u32 (ishr .u32 w 8) 255/\Q30 w 16 8=iand .u32 (ishr .u32 w 16) 255/\Q30 w 24 8=iand .u32 (ishr .u32 w 24) 255:=
 ⟨by kernel_rfl,by kernel_rfl,by kernel_rfl,by kernel_rfl⟩
theorem setj(w v:Int):Q84 w 0 8 v=putW w v 0/\Q84 w 8 8 v=putW w v 8/\Q84 w 16 8 v=putW w v 16/\Q84 w 24 8 v=putW w v 24:=
 ⟨by kernel_rfl,by kernel_rfl,by kernel_rfl,by kernel_rfl⟩
theorem yh{a:Int}(ha:U a):wrap .i64 (wrap .i64 (Int.tmod a 4)*8)=8*(a%4)/\wrap .u32 (8*Int.tmod a 4)=8*(a%4):=by
 obtain⟨a0,a1⟩:=ha
 rw[Int.tmod_eq_emod_of_nonneg a0]
 exact⟨by rw[wrap_i64,wrap_i64];omega,by rw[wrap_u32];omega⟩
section
variable {P:Nat} {m:List Int} (h:Q15 P m)
include h
theorem Qpv{a:Int}(ha:U a){size:Int}(hs:size=1\/size=4):Q51 m a size=Q1e m a size:=by
 have e:=Z57 h ha hs
 obtain⟨s1,s2⟩:=yh ha
 have f:Q30 (m.getD (Int.toNat (wrap .u32 (Int.tdiv a 4))) 0) (8*(a%4)) 8=iand .u32 (ishr .u32 (m.getD (Int.toNat (wrap .u32 (Int.tdiv a 4))) 0) (8*(a%4))) 255:=by
   obtain⟨f0,f1,f2,f3⟩:=fldj (m.getD (Int.toNat (wrap .u32 (Int.tdiv a 4))) 0)
   have:a%4=0\/a%4=1\/a%4=2\/a%4=3:=by omega
   rcases this with h|h|h|h<;>rw[h]
   . exact f0
   . exact f1
   . exact f2
   . exact f3
 simp only[Q51,Q6s,Q1e,Q3t,Tree.m,letv,e,s1,s2,f]
omit h in
theorem Zc3(a:Int)(size:Int):(Q1e m a size).2=Q24 m a size:=by
 simp only[Q1e,Q3t,Tree.m,letv]
 cases Q24 m a size
 . rfl
 . cases size==1<;>rfl
theorem Z9i{a:Int}(ha:U a){size:Int}(hs:size=1\/size=4)(v:Int):Qa2 m a size v=bif Q24 m a size then(Qar m a size v,true) else(m,false):=by
 have hcl:Q03 m=m:=rfl
 have e:=Z57 h ha hs
 obtain⟨s1,s2⟩:=yh ha
 have f: ∀w,Q84 w (8*(a%4)) 8 v=ior .u32 (Qhu .u32 w (ishl .u32 255 (8*(a%4)))) (ishl .u32 (iand .u32 v 255) (8*(a%4))):=λw=>by
   obtain⟨f0,f1,f2,f3⟩:=setj w v
   have:a%4=0\/a%4=1\/a%4=2\/a%4=3:=by omega
   rcases this with h|h|h|h<;>rw[h]
   . exact f0
   . exact f1
   . exact f2
   . exact f3
 simp only[Qa2,Q90,Qar,Qew,Tree.m,letv,hcl,e,s1,s2,f]
 rcases hs with rfl|rfl<;>cases Q24 m a _<;>rfl
end
section
variable {P:Nat} {m:List Int} (h:Q15 P m)
include h
theorem vh{root va:Int}(hr:U root)(hv:U va){access:Int}(ha:access=1\/access=2\/access=3):Qjq m root va access=Q71 m root va access:=by
 have hp:=Qfl h
 have h2:=h.p2
 have hlen:=h.len
 obtain⟨r1,r2⟩:=hr
 obtain⟨v1,v2⟩:=hv
 have hpg: ∀{f:Int},U f->Qat m f=decide (f<P):=λhf=>yT h hf
 have eP:wrap .u32 (P:Int)=P:=by rw[wrap_u32];omega
 have kn:Qes access=true:=by rcases ha with rfl|rfl|rfl<;>rfl
 have ca:Ql access=(Q22 access,true):=by rcases ha with rfl|rfl|rfl<;>rfl
 simp only[Qjq,Qae,Q71,Qa,Tree.m,letv,hp,eP,kn,ca,hpg ⟨r1,r2⟩]
 by_cases c1:va>=4096
 . rw[dY c1];rfl
 by_cases c2:root<P
 . have eE:wrap u32 (wrap u32 (root*128)+wrap u32 (4*wrap u32 (Int.tdiv va 128)))=root*128+4*(va/128):=by
     rw[Int.tdiv_eq_ediv_of_nonneg v1,wrap_u32,wrap_u32,wrap_u32,wrap_u32];omega
   have hE:U (root*128+4*(va/128)):=⟨by omega,by omega⟩
   have wi:Q24 m (root*128+4*(va/128)) 4=true:=by
     rw[Qi3 h hE (.inr rfl)];exact dY ⟨by omega,by omega⟩
   rw[dN c1,dY c2,dN (show¬root>=P by omega),eE,Qpv h hE (.inr rfl),Zc3,wi]
   have ld:(Q1e m (root*128+4*(va/128)) 4).1=m.getD (Int.toNat (wrap .u32 (Int.tdiv (root*128+4*(va/128)) 4))) 0:=by
     simp only[Q1e,Q3t,Tree.m,letv,wi];rfl
   rw[ld]
   generalize m.getD (Int.toNat (wrap .u32 (Int.tdiv (root*128+4*(va/128)) 4))) 0=w
   have fo:Qfo w=iand .u32 (ishr .u32 w 8) 255:=(fld w).2.2.2.2
   rw[fo,hpg (Zkd _ _)]
   have hge:decide (iand .u32 (ishr .u32 w 8) 255>=(P:Int))=!decide (iand .u32 (ishr .u32 w 8) 255<(P:Int)):=by
     by_cases hq:iand .u32 (ishr .u32 w 8) 255<(P:Int)
     . rw[dY hq,dN (by omega)];rfl
     . rw[dN hq,dY (by omega)];rfl
   rw[hge]
   generalize decide (iand .u32 (ishr .u32 w 8) 255<(P:Int))=d
   rcases ha with rfl|rfl|rfl
   . show _=(bif iand .u32 w 1==0 then _ else bif iand .u32 w 4==0 then _ else bif !d then _ else _)
     have:Qbk w 1=(bif iand .u32 w 1==0 then false else !(iand .u32 w 4==0)):=rfl
     rw[this]
     cases iand .u32 w 1==0<;>cases iand .u32 w 4==0<;>cases d<;>rfl
   . show _=(bif iand .u32 w 1==0 then _ else bif !d then _ else _)
     have:Qbk w 2=(bif iand .u32 w 1==0 then false else true):=rfl
     rw[this]
     cases iand .u32 w 1==0<;>cases d<;>rfl
   . show _=(bif iand .u32 w 1==0 then _ else bif iand .u32 w 2==0 then _ else bif !d then _ else _)
     have:Qbk w 3=(bif iand .u32 w 1==0 then false else !(iand .u32 w 2==0)):=rfl
     rw[this]
     cases iand .u32 w 1==0<;>cases iand .u32 w 2==0<;>cases d<;>rfl
 . rw[dN c1,dN c2,dY (show root>=P by omega)];rfl
theorem Zn5{a:Int}(ha:U a)(access:Int):Qd m a access=Qoq m a access:=by
 have hcl:Q03 m=m:=rfl
 have hl:=h.len
 have a0:=ha.1
 simp only[Qd,Q93,Qoq,Qet,Tree.m,letv,Qpv h ha (.inr rfl),Zc3,Z9i h ha (.inr rfl),hcl]
 cases hw:Q24 m a 4
 . rfl
 . rw[Qi3 h ha (.inr rfl)]at hw
   have hw:=oY hw
   have wi:Q24 m a 4=true:=by rw[Qi3 h ha (.inr rfl)];exact dY hw
   have ld:(Q1e m a 4).1=m.getD (Int.toNat (wrap .u32 (Int.tdiv a 4))) 0:=by
     simp only[Q1e,Q3t,Tree.m,letv,wi];rfl
   have pu: ∀v,Qar m a 4 v=m.set (Int.toNat (wrap .u32 (Int.tdiv a 4))) v:=λv=>rfl
   rw[ld,pu,pu]
   have hi:Int.toNat (wrap .u32 (Int.tdiv a 4))<m.length:=by
     rw[Int.tdiv_eq_ediv_of_nonneg a0,wrap_u32];omega
   generalize Int.toNat (wrap .u32 (Int.tdiv a 4))=i at*
   rw[Qvc hi,List.set_set]
   rfl
end
theorem Qof{c:Q05}(h0:0<=c.B5.a0)(h:c.B5.a0<=31)(k b:Int):Q4p c k b=Q2w c k b:=by
 have e:=eq_of_beq (Qty (λs=>Qhu .u32 (ior .u32 (Q96 (Q96 s 1 8) 2 16) 1) 2==ior .u32 (Qhu .u32 (ior .u32 (ior .u32 (Qhu .u32 s 24) (wrap .u32 (8*Qc2 (iand .u32 s 1 !=0)))) (wrap .u32 (16*Qc2 (iand .u32 s 2 !=0)))) 2) 1) 32 (by kernel_rfl) h0 (by omega))
 simp only[Q4p,Qli,Q2w,Qjy,Tree.m,letv,e]
theorem Zik{c:Q05}(h0:0<=c.B5.a0)(h:c.B5.a0<=31):Qf9 c=Qia c:=by
 have e:=eq_of_beq (Qty (λs=>Q96 (Q96 s 8 1) 16 2==ior .u32 (ior .u32 (Qhu .u32 s 3) (wrap .u32 (1*Qc2 (iand .u32 s 8 !=0)))) (wrap .u32 (2*Qc2 (iand .u32 s 16 !=0)))) 32 (by kernel_rfl) h0 (by omega))
 simp only[Qf9,Qfy,Qia,Qdr,Tree.m,letv,e]
theorem Z8z{c:Q05}(h0:0<=c.B5.a0)(h:c.B5.a0<=31):Qm4 c=(!Qag c&&(iand .u32 c.B5.a0 4 !=0)):=
 eq_of_beq (Qty (λs=>(iand .u32 s 5==4)==(!(iand .u32 s 1 !=0)&&(iand .u32 s 4 !=0))) 32 (by kernel_rfl) h0 (by omega))
theorem Z11(c:Q05){r:Int}(hr:0<=r/\r<16)(v:Int):Qbd c r v=Q1x c r v:=by
 simp only[Qbd,Qe5,Q1x,Qf7,Tree.m]
 by_cases h:r=0
 . subst h;rfl
 . rw[dY (show r>0 by omega),dY hr.2,show(r !=0)=true by simpa using h];rfl
theorem xI{a b:Int}(ha:U a)(hb:U b):Qcn a b=Qcv a b:=by
  obtain⟨a0,a1⟩:=ha
  obtain⟨b0,b1⟩:=hb
  have i: ∀x,wrap .i64 (wrap .i32 x)=wrap .i32 x:=λx=>by rw[wrap_i64,wrap_i32];omega
  have r32: ∀x,-2147483648<=wrap .i32 x/\wrap .i32 x<2147483648:=λx=>by rw[wrap_i32];omega
  have q32: ∀x y:Int,-2147483648<=x/\x<2147483648-> -2147483648<=Int.tdiv x y/\Int.tdiv x y<=2147483648:=λx y hx=>by
    have h1:(Int.tdiv x y).natAbs<=x.natAbs:=by rw[Int.natAbs_tdiv];exact Nat.div_le_self _ _
    omega
  simp only[Qcn,Qaj,Qcv,Qaw,Tree.m,i]
  cases hb:b==0
  . have w: ∀z,wrap .u32 (wrap .i32 z)=wrap .u32 z:=λz=>by rw[wrap_i32,wrap_u32,wrap_u32];omega
    have w2:wrap .i64 (Int.tdiv (wrap .i32 a) (wrap .i32 b))=Int.tdiv (wrap .i32 a) (wrap .i32 b):=by
      have:=q32 _ (wrap .i32 b) (r32 a)
      rw[wrap_i64];omega
    rw[w,w2]
    cases h1:a==2147483648
    . rfl
    . cases h2:b==4294967295
      . rfl
      . have h1:=eq_of_beq h1
        have h2:=eq_of_beq h2
        subst h1;subst h2
        rfl
  . rfl
theorem zI{op a b:Int}(h0:1<=op)(h1:op<=23)(ha:U a)(hb:U b):Q4i op a b=Qdv op a b:=by
 have sub:wrap .u32 (a+wrap .u32 (0-b))=wrap .u32 (a-b):=by
   rw[wrap_u32,wrap_u32,wrap_u32];omega
 have hop:op=1\/op=2\/op=3\/op=4\/op=5\/op=6\/op=7\/op=8\/op=9\/op=10\/op=11\/op=12\/op=13\/op=14\/op=15\/op=16\/op=17\/op=18\/op=19\/op=20\/op=21\/op=22\/op=23:=by omega
 have d:=xI ha hb
 rcases hop with rfl|rfl|rfl|rfl|rfl|rfl|rfl|rfl|rfl|rfl|rfl|rfl|rfl|rfl|rfl|rfl|rfl|rfl|rfl|rfl|rfl|rfl|rfl
 . rfl
 . show(wrap .u32 (a+wrap .u32 (0-b)),true)=(wrap .u32 (a-b),true)
   rw[sub]
 . rfl
 . rfl
 . rfl
 . rfl
 . rfl
 . rfl
 . rfl
 . show((Qcn a b).1,true)=((Qcv a b).1,true)
   rw[d]
 . show((Qcn a b).2,true)=((Qcv a b).2,true)
   rw[d]
 all_goals rfl
theorem Qoa{P:Nat}{m:List Int}(h:Q15 P m){c:Q05}(hc:Q2g c)(hst:c.B5.a0<=31){va:Int}(hv:U va){size:Int}(hs:size=1\/size=4){access:Int}(ha:access=1\/access=2\/access=3):Q25 c m va size access=((Q17 c m va size access).1,(Q17 c m va size access).2.2,(Q17 c m va size access).2.1):=by
 have hcl:Q03 m=m:=rfl
 have kn:Qes access=true:=by rcases ha with rfl|rfl|rfl<;>rfl
 have ca:Qsc access=(Q22 access,true):=by rcases ha with rfl|rfl|rfl<;>rfl
 have pg:=Z8z hc.a0.1 hst
 have wk:=vh h hc.a6 hv ha
 have tc:Qd m (Q71 m c.B5.a6 va access).F2 access=Qoq m (Q71 m c.B5.a6 va access).F2 access:=Zn5 h (Tree.pp (v7 h hc.a6 hv access)).2.2.1 access
 have sz:(bif size !=1 then bif size !=4 then false else true else true)=true:=by rcases hs with rfl|rfl<;>rfl
 simp only[Q25,Q6t,Q17,Q7z,Tree.m,letv,hcl,kn,ca,pg,wk,tc,Qpv h hv hs,Zc3]
 rcases hs with rfl|rfl<;>
 . show(bif _ then _ else _)=_
   cases Int.tmod va _ !=0<;>cases Qag c<;>cases iand .u32 c.B5.a0 4 !=0<;>cases(Q71 m c.B5.a6 va access).F0 !=0<;>cases Q24 m va _<;>rfl
theorem Z3v{α:Type}{Q:α->Prop}{c:Bool}{x y:α}(hx:Q x)(hy:Q y):Q (cond c x y):=by cases c<;>assumption
theorem xaj(m:List Int)(root:Int){va:Int}(hv:U va)(access:Int):(Q71 m root va access).F0=0->(Q71 m root va access).Addr%4=va%4:=by
 have hc:Q22 access≠0:=by
   simp only[Q22,Q8w,Tree.m]
   cases access==1<;>cases access==3<;>simp
 have q :(λt:Q19=>t.F0=0->t.Addr%4=va%4) (Q71 m root va access):=by
   simp only[Q71,Qa,Tree.m,letv]
   repeat'(first
     |exact λe=>absurd e hc
     | (intro _
        show wrap .u32 (wrap .u32 (_*128)+Int.tmod va 128)%4=va%4
        rw[Int.tmod_eq_emod_of_nonneg hv.1,wrap_u32,wrap_u32];omega)
     |refine Z3v (Q:=λt:Q19=>t.F0=0->t.Addr%4=va%4) ?_ ?_)
 exact q
theorem yI{c:Q05}{m:List Int}{va:Int}(hv:U va){size:Int}(hs:size=1\/size=4){access:Int}(ha:access=1\/access=2\/access=3):(Q17 c m va size access).2.1=0->(Q17 c m va size access).1%size=0:=by
  have kn:Qes access=true:=by rcases ha with rfl|rfl|rfl<;>rfl
  have hc:Q22 access≠0:=by
    simp only[Q22,Q8w,Tree.m]
    cases access==1<;>cases access==3<;>simp
  rcases hs with rfl|rfl
  . intro _;omega
  simp only[Q17,Q7z,Tree.m,letv,kn]
  show(bif Int.tmod va 4 !=0 then((0:Int),(3:Int),m) else _).2.1=0->(bif Int.tmod va 4 !=0 then((0:Int),(3:Int),m) else _).1%4=0
  rw[Int.tmod_eq_emod_of_nonneg hv.1]
  cases hz:va%4 !=0
  . have hz:va%4=0:=by simpa using hz
    have w:=xaj m c.B5.a6 hv access
    cases hp:Qm4 c
    . cases hw:Q24 m va 4
      . exact λe=>absurd e hc
      . exact λ_=>hz
    . cases hq:(Q71 m c.B5.a6 va access).F0 !=0
      . have hq:(Q71 m c.B5.a6 va access).F0=0:=by simpa using hq
        exact λ_=>(w hq).trans hz
      . have hq: ¬(Q71 m c.B5.a6 va access).F0=0:=by simpa using hq
        exact λe=>absurd e hq
  . intro e;cases e
def eff0:Q16:={B6:=0,D1:=0,D9:=0,Value:=0}
def Q5y(c:Q05)(m:List Int)(i:Q0l):Q05×List Int×Q16:=
 bif i.Op==32 then((Q6w c m i).1,(Q6w c m i).2,eff0) else bif i.Op==33 then((Q6w c m i).1,(Q6w c m i).2,eff0) else bif i.Op==34 then((Q6w c m i).1,(Q6w c m i).2,eff0)
 else bif i.Op==35 then((Q8n c m i).1,(Q8n c m i).2,eff0) else bif i.Op==36 then((Q8n c m i).1,(Q8n c m i).2,eff0) else((Qn1 c i).1,m,(Qn1 c i).2)
def regX(c:Q05)(r:Int):Int:=List.getD (A16.l c.X) r.toNat 0
def Qk0(c:Q05)(m:List Int)(i:Q0l):Q05×Q16×List Int:=
 bif decide (i.Op>=56) then((Qj8 c i).1,(Qj8 c i).2,m) else bif decide (i.Op>=40) then(Z5e c i,eff0,m) else bif decide (i.Op>=32) then((Q5b c m i).1,eff0,(Q5b c m i).2)
 else bif i.Op==24 then({X:=(Q1x c i.A (ishl .u32 (wrap .u32 i.Imm) 16)).X,Pc:=wrap .u32 ((Q1x c i.A (ishl .u32 (wrap .u32 i.Imm) 16)).Pc+4),B5:=(Q1x c i.A (ishl .u32 (wrap .u32 i.Imm) 16)).B5},eff0,m)
 else bif decide (i.Op<=13) then
   ({X:=(Q1x c i.A (Qdv i.Op (regX c i.B) (regX c i.C)).1).X,Pc:=wrap .u32 ((Q1x c i.A (Qdv i.Op (regX c i.B) (regX c i.C)).1).Pc+4),B5:=(Q1x c i.A (Qdv i.Op (regX c i.B) (regX c i.C)).1).B5},eff0,m)
 else({X:=(Q1x c i.A (Qdv i.Op (regX c i.B) (wrap .u32 i.Imm)).1).X,Pc:=wrap .u32 ((Q1x c i.A (Qdv i.Op (regX c i.B) (wrap .u32 i.Imm)).1).Pc+4),B5:=(Q1x c i.A (Qdv i.Op (regX c i.B) (wrap .u32 i.Imm)).1).B5},eff0,m)
def isOp(op:Int):Prop:=op=1\/op=2\/op=3\/op=4\/op=5\/op=6\/op=7\/op=8\/op=9\/op=10\/op=11\/op=12\/op=13\/op=16\/op=17\/op=18\/op=19\/op=20\/op=21\/op=22\/op=23\/op=24\/op=32\/op=33\/op=34\/op=35\/op=36\/op=40\/op=41\/op=42\/op=43\/op=44\/op=45\/op=48\/op=49\/op=56\/op=57\/op=58\/op=59\/op=60\/op=61\/op=62\/op=63\/op=64
theorem qY(c:Q05)(r v:Int):(Q1x c r v).Pc=c.Pc/\(Q1x c r v).B5=c.B5:=by
 simp only[Q1x,Qf7,Tree.m]
 cases decide (r>0)
 . exact⟨rfl,rfl⟩
 . cases decide (r<16)<;>exact⟨rfl,rfl⟩
def adv(c:Q05):Q05:={X:=c.X,Pc:=wrap .u32 (c.Pc+4),B5:=c.B5}
def va(c:Q05)(B Imm:Int):Int:=wrap .u32 (List.getD (A16.l c.X) B.toNat 0+wrap .u32 Imm)
def ldP(c:Q05)(A v size:Int)(f:Int->Int)(y:Int×List Int×Int):Q05×List Int:=bif y.2.2 !=0 then(Q4p c y.2.2 v,y.2.1) else(adv (Qbd c A (f (Q51 y.2.1 y.1 size).1)),y.2.1)
def ldR(c:Q05)(A v size:Int)(f:Int->Int)(x:Int×Int×List Int):Q05×List Int:=bif x.2.1 !=0 then(Q2w c x.2.1 v,x.2.2) else(adv (Q1x c A (f (Q1e x.2.2 x.1 size).1)),x.2.2)
def stP(c:Q05)(A v size:Int)(y:Int×List Int×Int):Q05×List Int:=bif y.2.2 !=0 then(Q4p c y.2.2 v,y.2.1) else(adv c,(Qa2 y.2.1 y.1 size (List.getD (A16.l c.X) A.toNat 0)).1)
def stR(c:Q05)(A v size:Int)(x:Int×Int×List Int):Q05×List Int:=bif x.2.1 !=0 then(Q2w c x.2.1 v,x.2.2) else(adv c,Qar x.2.2 x.1 size (List.getD (A16.l c.X) A.toNat 0))
theorem ld_eq(c:Q05)(m:List Int)(A B C Imm:Int):
   (Q6w c m ⟨32,A,B,C,Imm⟩=ldP c A (va c B Imm) 4 (λv=>v) (Q25 c m (va c B Imm) 4 2)/\Q5b c m ⟨32,A,B,C,Imm⟩=ldR c A (va c B Imm) 4 (λv=>v) (Q17 c m (va c B Imm) 4 2))/\
   (Q6w c m ⟨33,A,B,C,Imm⟩=ldP c A (va c B Imm) 1 (λv=>Q2b v 8) (Q25 c m (va c B Imm) 1 2)/\Q5b c m ⟨33,A,B,C,Imm⟩=ldR c A (va c B Imm) 1 (λv=>Q3d v 8) (Q17 c m (va c B Imm) 1 2))/\
   (Q6w c m ⟨34,A,B,C,Imm⟩=ldP c A (va c B Imm) 1 (λv=>v) (Q25 c m (va c B Imm) 1 2)/\Q5b c m ⟨34,A,B,C,Imm⟩=ldR c A (va c B Imm) 1 (λv=>v) (Q17 c m (va c B Imm) 1 2))/\
   (Q8n c m ⟨35,A,B,C,Imm⟩=stP c A (va c B Imm) 4 (Q25 c m (va c B Imm) 4 3)/\Q5b c m ⟨35,A,B,C,Imm⟩=stR c A (va c B Imm) 4 (Q17 c m (va c B Imm) 4 3))/\
   (Q8n c m ⟨36,A,B,C,Imm⟩=stP c A (va c B Imm) 1 (Q25 c m (va c B Imm) 1 3)/\Q5b c m ⟨36,A,B,C,Imm⟩=stR c A (va c B Imm) 1 (Q17 c m (va c B Imm) 1 3)):=
 ⟨⟨by kernel_rfl,by kernel_rfl⟩,⟨by kernel_rfl,by kernel_rfl⟩,⟨by kernel_rfl,by kernel_rfl⟩,⟨by kernel_rfl,by kernel_rfl⟩,⟨by kernel_rfl,by kernel_rfl⟩⟩
theorem qak{P:Nat}{m:List Int}(h:Q15 P m)(a:Int):Q2b (Q1e m a 1).1 8=Q3d (Q1e m a 1).1 8:=by
 have: ∀x:Int×Bool,(∃w,U w/\x=(iand .u32 w 255,true))\/x=(0,false)->Q2b x.1 8=Q3d x.1 8:=λx hx=>by
   rcases hx with⟨w,hw,rfl⟩|rfl
   . have e:=m255 hw
     exact sx8 (by show 0<=iand .u32 w 255;omega) (by show iand .u32 w 255<256;omega)
   . rfl
 refine this _ ?_
 simp only[Q1e,Q3t,Tree.m,letv]
 cases Q24 m a 1
 . exact .inr rfl
 . exact .inl ⟨_,Qx3 (Ql7 h.u _) _,rfl⟩
section
variable {P:Nat} {m:List Int} (h:Q15 P m) {c:Q05} (hc:Q2g c) (hst:c.B5.a0<=31)
include h hc hst
omit hst in
theorem Zjp{v:Int}(hv:U v){size:Int}(hs:size=1\/size=4)(access:Int):Q15 P (Q17 c m v size access).2.2/\U (Q17 c m v size access).1/\((Q17 c m v size access).2.1=0->(Q17 c m v size access).1<128*P):=(Tree.pp (Z9z h hc hv hs access)).2
theorem Zj8{A v:Int}(hA:0<=A/\A<16)(hv:U v){size:Int}(hs:size=1\/size=4){f g:Int->Int}(hf: ∀{m':List Int},Q15 P m'-> ∀a,f (Q1e m' a size).1=g (Q1e m' a size).1):ldP c A v size f (Q25 c m v size 2)=ldR c A v size g (Q17 c m v size 2):=by
 rw[Qoa h hc hst hv hs (.inr (.inl rfl))]
 obtain⟨k,u,_⟩:=Zjp h hc hv hs 2
 generalize Q17 c m v size 2=x at*
 simp only[ldP,ldR,Qpv k u hs,Qof hc.a0.1 hst,Z11 c hA,hf k]
theorem qi{A v:Int}(hv:U v){size:Int}(hs:size=1\/size=4):stP c A v size (Q25 c m v size 3)=stR c A v size (Q17 c m v size 3):=by
 rw[Qoa h hc hst hv hs (.inr (.inr rfl))]
 obtain⟨k,u,b⟩:=Zjp h hc hv hs 3
 have al:=yI (c:=c) (m:=m) hv hs (access:=3) (.inr (.inr rfl))
 generalize Q17 c m v size 3=x at*
 simp only[stP,stR,Z9i k u hs,Qof hc.a0.1 hst,Qi3 k u hs]
 cases hq:x.2.1 !=0
 . have hq:x.2.1=0:=by simpa using hq
   rw[dY ⟨al hq,b hq⟩];rfl
 . rfl
end
theorem vI(c:Q05)(k v:Int):(Qi1 c k v).Pc=c.Pc:=by
 simp only[Qi1,Qcy,Tree.m]
 repeat'(first|rfl|refine Z3v (Q:=λx:Q05=>x.Pc=c.Pc) ?_ ?_)
def setP(c:Q05)(A v p:Int):Q05:={X:=(Qbd c A v).X,Pc:=p,B5:=(Qbd c A v).B5}
def setR(c:Q05)(A v p:Int):Q05:={X:=(Q1x c A v).X,Pc:=p,B5:=(Q1x c A v).B5}
def nxt(c:Q05):Int:=wrap .u32 (c.Pc+4)
theorem Ze8(c:Q05){A:Int}(hA:0<=A/\A<16)(v p:Int):setP c A v p=setR c A v p:=by
 unfold setP setR;rw[Z11 c hA]
theorem Zkr(c:Q05)(A v:Int):adv (Q1x c A v)=setR c A v (nxt c):=by
 unfold adv setR nxt;rw[(qY c A v).1]
theorem brc(t:Bool)(x y:Q05)(m:List Int):((bif t then(x,eff0) else(y,eff0)).1,m,(bif t then(x,eff0) else(y,eff0)).2)=((bif t then x else y),m,eff0):=by cases t<;>rfl
def isOpB(op:Int):Bool:=decide (op=1)||decide (op=2)||decide (op=3)||decide (op=4)||decide (op=5)||decide (op=6)||decide (op=7)||decide (op=8)||decide (op=9)||decide (op=10)||decide (op=11)||decide (op=12)||decide (op=13)||decide (op=16)||decide (op=17)||decide (op=18)||decide (op=19)||decide (op=20)||decide (op=21)||decide (op=22)||decide (op=23)||decide (op=24)||decide (op=32)||decide (op=33)||decide (op=34)||decide (op=35)||decide (op=36)||decide (op=40)||decide (op=41)||decide (op=42)||decide (op=43)||decide (op=44)||decide (op=45)||decide (op=48)||decide (op=49)||decide (op=56)||decide (op=57)||decide (op=58)||decide (op=59)||decide (op=60)||decide (op=61)||decide (op=62)||decide (op=63)||decide (op=64)
section
variable {P:Nat} {m:List Int} (h:Q15 P m) {c:Q05} (hc:Q2g c) (hst:c.B5.a0<=31) {A B C Imm:Int} (hA:0<=A/\A<16)
include h hc hst hA
theorem xi{op:Int}(hop:isOp op):Q5y c m ⟨op,A,B,C,Imm⟩=((Qk0 c m ⟨op,A,B,C,Imm⟩).1,(Qk0 c m ⟨op,A,B,C,Imm⟩).2.2,(Qk0 c m ⟨op,A,B,C,Imm⟩).2.1):=by
 have alu: ∀{k y:Int},1<=k->k<=23->U y->((setP c A (Q4i k (regX c B) y).1 (nxt c),m,eff0):Q05×List Int×Q16)=(adv (Q1x c A (Qdv k (regX c B) y).1),m,eff0):=λh1 h2 hy=>by
   rw[zI h1 h2 (show U (regX c B) from hc.r _) hy,Zkr,Ze8 c hA]
 have uC:U (regX c C):=hc.r _
 have uI:U (wrap .u32 Imm):=Q0s _
 obtain⟨⟨l1,l2⟩,⟨l3,l4⟩,⟨l5,l6⟩,⟨l7,l8⟩,⟨l9,l10⟩⟩:=ld_eq c m A B C Imm
 have hva:U (va c B Imm):=Q0s _
 rcases hop with rfl|rfl|rfl|rfl|rfl|rfl|rfl|rfl|rfl|rfl|rfl|rfl|rfl|rfl|rfl|rfl|rfl|rfl|rfl|rfl|rfl|rfl|rfl|rfl|rfl|rfl|rfl|rfl|rfl|rfl|rfl|rfl|rfl|rfl|rfl|rfl|rfl|rfl|rfl|rfl|rfl|rfl|rfl|rfl
 . exact(show Q5y c m ⟨1,A,B,C,Imm⟩=(setP c A (Q4i 1 (regX c B) (regX c C)).1 (nxt c),m,eff0) by kernel_rfl).trans ((alu (by decide) (by decide) uC).trans (by kernel_rfl))
 . exact(show Q5y c m ⟨2,A,B,C,Imm⟩=(setP c A (Q4i 2 (regX c B) (regX c C)).1 (nxt c),m,eff0) by kernel_rfl).trans ((alu (by decide) (by decide) uC).trans (by kernel_rfl))
 . exact(show Q5y c m ⟨3,A,B,C,Imm⟩=(setP c A (Q4i 3 (regX c B) (regX c C)).1 (nxt c),m,eff0) by kernel_rfl).trans ((alu (by decide) (by decide) uC).trans (by kernel_rfl))
 . exact(show Q5y c m ⟨4,A,B,C,Imm⟩=(setP c A (Q4i 4 (regX c B) (regX c C)).1 (nxt c),m,eff0) by kernel_rfl).trans ((alu (by decide) (by decide) uC).trans (by kernel_rfl))
 . exact(show Q5y c m ⟨5,A,B,C,Imm⟩=(setP c A (Q4i 5 (regX c B) (regX c C)).1 (nxt c),m,eff0) by kernel_rfl).trans ((alu (by decide) (by decide) uC).trans (by kernel_rfl))
 . exact(show Q5y c m ⟨6,A,B,C,Imm⟩=(setP c A (Q4i 6 (regX c B) (regX c C)).1 (nxt c),m,eff0) by kernel_rfl).trans ((alu (by decide) (by decide) uC).trans (by kernel_rfl))
 . exact(show Q5y c m ⟨7,A,B,C,Imm⟩=(setP c A (Q4i 7 (regX c B) (regX c C)).1 (nxt c),m,eff0) by kernel_rfl).trans ((alu (by decide) (by decide) uC).trans (by kernel_rfl))
 . exact(show Q5y c m ⟨8,A,B,C,Imm⟩=(setP c A (Q4i 8 (regX c B) (regX c C)).1 (nxt c),m,eff0) by kernel_rfl).trans ((alu (by decide) (by decide) uC).trans (by kernel_rfl))
 . exact(show Q5y c m ⟨9,A,B,C,Imm⟩=(setP c A (Q4i 9 (regX c B) (regX c C)).1 (nxt c),m,eff0) by kernel_rfl).trans ((alu (by decide) (by decide) uC).trans (by kernel_rfl))
 . exact(show Q5y c m ⟨10,A,B,C,Imm⟩=(setP c A (Q4i 10 (regX c B) (regX c C)).1 (nxt c),m,eff0) by kernel_rfl).trans ((alu (by decide) (by decide) uC).trans (by kernel_rfl))
 . exact(show Q5y c m ⟨11,A,B,C,Imm⟩=(setP c A (Q4i 11 (regX c B) (regX c C)).1 (nxt c),m,eff0) by kernel_rfl).trans ((alu (by decide) (by decide) uC).trans (by kernel_rfl))
 . exact(show Q5y c m ⟨12,A,B,C,Imm⟩=(setP c A (Q4i 12 (regX c B) (regX c C)).1 (nxt c),m,eff0) by kernel_rfl).trans ((alu (by decide) (by decide) uC).trans (by kernel_rfl))
 . exact(show Q5y c m ⟨13,A,B,C,Imm⟩=(setP c A (Q4i 13 (regX c B) (regX c C)).1 (nxt c),m,eff0) by kernel_rfl).trans ((alu (by decide) (by decide) uC).trans (by kernel_rfl))
 . exact(show Q5y c m ⟨16,A,B,C,Imm⟩=(setP c A (Q4i 16 (regX c B) (wrap .u32 Imm)).1 (nxt c),m,eff0) by kernel_rfl).trans ((alu (by decide) (by decide) uI).trans (by kernel_rfl))
 . exact(show Q5y c m ⟨17,A,B,C,Imm⟩=(setP c A (Q4i 17 (regX c B) (wrap .u32 Imm)).1 (nxt c),m,eff0) by kernel_rfl).trans ((alu (by decide) (by decide) uI).trans (by kernel_rfl))
 . exact(show Q5y c m ⟨18,A,B,C,Imm⟩=(setP c A (Q4i 18 (regX c B) (wrap .u32 Imm)).1 (nxt c),m,eff0) by kernel_rfl).trans ((alu (by decide) (by decide) uI).trans (by kernel_rfl))
 . exact(show Q5y c m ⟨19,A,B,C,Imm⟩=(setP c A (Q4i 19 (regX c B) (wrap .u32 Imm)).1 (nxt c),m,eff0) by kernel_rfl).trans ((alu (by decide) (by decide) uI).trans (by kernel_rfl))
 . exact(show Q5y c m ⟨20,A,B,C,Imm⟩=(setP c A (Q4i 20 (regX c B) (wrap .u32 Imm)).1 (nxt c),m,eff0) by kernel_rfl).trans ((alu (by decide) (by decide) uI).trans (by kernel_rfl))
 . exact(show Q5y c m ⟨21,A,B,C,Imm⟩=(setP c A (Q4i 21 (regX c B) (wrap .u32 Imm)).1 (nxt c),m,eff0) by kernel_rfl).trans ((alu (by decide) (by decide) uI).trans (by kernel_rfl))
 . exact(show Q5y c m ⟨22,A,B,C,Imm⟩=(setP c A (Q4i 22 (regX c B) (wrap .u32 Imm)).1 (nxt c),m,eff0) by kernel_rfl).trans ((alu (by decide) (by decide) uI).trans (by kernel_rfl))
 . exact(show Q5y c m ⟨23,A,B,C,Imm⟩=(setP c A (Q4i 23 (regX c B) (wrap .u32 Imm)).1 (nxt c),m,eff0) by kernel_rfl).trans ((alu (by decide) (by decide) uI).trans (by kernel_rfl))
 . refine(show Q5y c m ⟨24,A,B,C,Imm⟩=(setP c A (ishl .u32 (wrap .u32 Imm) 16) (nxt c),m,eff0) by kernel_rfl).trans ?_
   rw[Ze8 c hA,<-Zkr];kernel_rfl
 . have e:=Zj8 h hc hst hA hva (.inr rfl) (f:=λv=>v) (g:=λv=>v) (λ_ _=>rfl)
   rw[<-l1,<-l2]at e
   refine(show Q5y c m ⟨32,A,B,C,Imm⟩=((Q6w c m ⟨32,A,B,C,Imm⟩).1,(Q6w c m ⟨32,A,B,C,Imm⟩).2,eff0) by kernel_rfl).trans ?_
   rw[e];kernel_rfl
 . have e:=Zj8 h hc hst hA hva (.inl rfl) (f:=λv=>Q2b v 8) (g:=λv=>Q3d v 8) (λhm a=>qak hm a)
   rw[<-l3,<-l4]at e
   refine(show Q5y c m ⟨33,A,B,C,Imm⟩=((Q6w c m ⟨33,A,B,C,Imm⟩).1,(Q6w c m ⟨33,A,B,C,Imm⟩).2,eff0) by kernel_rfl).trans ?_
   rw[e];kernel_rfl
 . have e:=Zj8 h hc hst hA hva (.inl rfl) (f:=λv=>v) (g:=λv=>v) (λ_ _=>rfl)
   rw[<-l5,<-l6]at e
   refine(show Q5y c m ⟨34,A,B,C,Imm⟩=((Q6w c m ⟨34,A,B,C,Imm⟩).1,(Q6w c m ⟨34,A,B,C,Imm⟩).2,eff0) by kernel_rfl).trans ?_
   rw[e];kernel_rfl
 . have e:=qi h hc hst (A:=A) hva (.inr rfl)
   rw[<-l7,<-l8]at e
   refine(show Q5y c m ⟨35,A,B,C,Imm⟩=((Q8n c m ⟨35,A,B,C,Imm⟩).1,(Q8n c m ⟨35,A,B,C,Imm⟩).2,eff0) by kernel_rfl).trans ?_
   rw[e];kernel_rfl
 . have e:=qi h hc hst (A:=A) hva (.inl rfl)
   rw[<-l9,<-l10]at e
   refine(show Q5y c m ⟨36,A,B,C,Imm⟩=((Q8n c m ⟨36,A,B,C,Imm⟩).1,(Q8n c m ⟨36,A,B,C,Imm⟩).2,eff0) by kernel_rfl).trans ?_
   rw[e];kernel_rfl
 . exact(show Q5y c m ⟨40,A,B,C,Imm⟩=((bif(Q29 40 (regX c A) (regX c B)) then((⟨c.X,wrap .u32 (c.Pc+wrap .u32 (4*wrap .u32 Imm)),c.B5⟩:Q05),eff0) else(⟨c.X,nxt c,c.B5⟩,eff0)).1,m,(bif(Q29 40 (regX c A) (regX c B)) then((⟨c.X,wrap .u32 (c.Pc+wrap .u32 (4*wrap .u32 Imm)),c.B5⟩:Q05),eff0) else(⟨c.X,nxt c,c.B5⟩,eff0)).2) by kernel_rfl).trans ((brc (Q29 40 (regX c A) (regX c B)) ⟨c.X,wrap .u32 (c.Pc+wrap .u32 (4*wrap .u32 Imm)),c.B5⟩ ⟨c.X,nxt c,c.B5⟩ m).trans (by kernel_rfl))
 . exact(show Q5y c m ⟨41,A,B,C,Imm⟩=((bif(Q29 41 (regX c A) (regX c B)) then((⟨c.X,wrap .u32 (c.Pc+wrap .u32 (4*wrap .u32 Imm)),c.B5⟩:Q05),eff0) else(⟨c.X,nxt c,c.B5⟩,eff0)).1,m,(bif(Q29 41 (regX c A) (regX c B)) then((⟨c.X,wrap .u32 (c.Pc+wrap .u32 (4*wrap .u32 Imm)),c.B5⟩:Q05),eff0) else(⟨c.X,nxt c,c.B5⟩,eff0)).2) by kernel_rfl).trans ((brc (Q29 41 (regX c A) (regX c B)) ⟨c.X,wrap .u32 (c.Pc+wrap .u32 (4*wrap .u32 Imm)),c.B5⟩ ⟨c.X,nxt c,c.B5⟩ m).trans (by kernel_rfl))
 . exact(show Q5y c m ⟨42,A,B,C,Imm⟩=((bif(Q29 42 (regX c A) (regX c B)) then((⟨c.X,wrap .u32 (c.Pc+wrap .u32 (4*wrap .u32 Imm)),c.B5⟩:Q05),eff0) else(⟨c.X,nxt c,c.B5⟩,eff0)).1,m,(bif(Q29 42 (regX c A) (regX c B)) then((⟨c.X,wrap .u32 (c.Pc+wrap .u32 (4*wrap .u32 Imm)),c.B5⟩:Q05),eff0) else(⟨c.X,nxt c,c.B5⟩,eff0)).2) by kernel_rfl).trans ((brc (Q29 42 (regX c A) (regX c B)) ⟨c.X,wrap .u32 (c.Pc+wrap .u32 (4*wrap .u32 Imm)),c.B5⟩ ⟨c.X,nxt c,c.B5⟩ m).trans (by kernel_rfl))
 . exact(show Q5y c m ⟨43,A,B,C,Imm⟩=((bif(Q29 43 (regX c A) (regX c B)) then((⟨c.X,wrap .u32 (c.Pc+wrap .u32 (4*wrap .u32 Imm)),c.B5⟩:Q05),eff0) else(⟨c.X,nxt c,c.B5⟩,eff0)).1,m,(bif(Q29 43 (regX c A) (regX c B)) then((⟨c.X,wrap .u32 (c.Pc+wrap .u32 (4*wrap .u32 Imm)),c.B5⟩:Q05),eff0) else(⟨c.X,nxt c,c.B5⟩,eff0)).2) by kernel_rfl).trans ((brc (Q29 43 (regX c A) (regX c B)) ⟨c.X,wrap .u32 (c.Pc+wrap .u32 (4*wrap .u32 Imm)),c.B5⟩ ⟨c.X,nxt c,c.B5⟩ m).trans (by kernel_rfl))
 . exact(show Q5y c m ⟨44,A,B,C,Imm⟩=((bif(Q29 44 (regX c A) (regX c B)) then((⟨c.X,wrap .u32 (c.Pc+wrap .u32 (4*wrap .u32 Imm)),c.B5⟩:Q05),eff0) else(⟨c.X,nxt c,c.B5⟩,eff0)).1,m,(bif(Q29 44 (regX c A) (regX c B)) then((⟨c.X,wrap .u32 (c.Pc+wrap .u32 (4*wrap .u32 Imm)),c.B5⟩:Q05),eff0) else(⟨c.X,nxt c,c.B5⟩,eff0)).2) by kernel_rfl).trans ((brc (Q29 44 (regX c A) (regX c B)) ⟨c.X,wrap .u32 (c.Pc+wrap .u32 (4*wrap .u32 Imm)),c.B5⟩ ⟨c.X,nxt c,c.B5⟩ m).trans (by kernel_rfl))
 . exact(show Q5y c m ⟨45,A,B,C,Imm⟩=((bif(Q29 45 (regX c A) (regX c B)) then((⟨c.X,wrap .u32 (c.Pc+wrap .u32 (4*wrap .u32 Imm)),c.B5⟩:Q05),eff0) else(⟨c.X,nxt c,c.B5⟩,eff0)).1,m,(bif(Q29 45 (regX c A) (regX c B)) then((⟨c.X,wrap .u32 (c.Pc+wrap .u32 (4*wrap .u32 Imm)),c.B5⟩:Q05),eff0) else(⟨c.X,nxt c,c.B5⟩,eff0)).2) by kernel_rfl).trans ((brc (Q29 45 (regX c A) (regX c B)) ⟨c.X,wrap .u32 (c.Pc+wrap .u32 (4*wrap .u32 Imm)),c.B5⟩ ⟨c.X,nxt c,c.B5⟩ m).trans (by kernel_rfl))
 . refine(show Q5y c m ⟨48,A,B,C,Imm⟩=(setP c A (nxt c) (wrap .u32 ((Qbd c A (nxt c)).Pc+wrap .u32 (4*wrap .u32 Imm))),m,eff0) by kernel_rfl).trans ?_
   rw[Ze8 c hA,Z11 c hA,(qY c A (nxt c)).1];kernel_rfl
 . refine(show Q5y c m ⟨49,A,B,C,Imm⟩=(setP c A (nxt c) (va c B Imm),m,eff0) by kernel_rfl).trans ?_
   rw[Ze8 c hA];kernel_rfl
 . refine(show Q5y c m ⟨56,A,B,C,Imm⟩=(Q4p c 7 0,m,eff0) by kernel_rfl).trans ?_
   rw[Qof hc.a0.1 hst];kernel_rfl
 . refine(show Q5y c m ⟨57,A,B,C,Imm⟩=(Qf9 c,m,eff0) by kernel_rfl).trans ?_
   rw[Zik hc.a0.1 hst];kernel_rfl
 . refine(show Q5y c m ⟨58,A,B,C,Imm⟩=(setP c A (List.getD (A8.l c.B5) Imm.toNat 0) (nxt c),m,eff0) by kernel_rfl).trans ?_
   rw[Ze8 c hA,<-Zkr];kernel_rfl
 . have e:=vI c (wrap .i64 Imm) (regX c A)
   refine(show Q5y c m ⟨59,A,B,C,Imm⟩=((⟨(Qi1 c (wrap .i64 Imm) (regX c A)).X,wrap .u32 (c.Pc+4),(Qi1 c (wrap .i64 Imm) (regX c A)).B5⟩:Q05),m,eff0) by kernel_rfl).trans ?_
   rw[<-e];kernel_rfl
 . exact(show Q5y c m ⟨60,A,B,C,Imm⟩=((Qk0 c m ⟨60,A,B,C,Imm⟩).1,(Qk0 c m ⟨60,A,B,C,Imm⟩).2.2,(Qk0 c m ⟨60,A,B,C,Imm⟩).2.1) by kernel_rfl)
 . exact(show Q5y c m ⟨61,A,B,C,Imm⟩=((Qk0 c m ⟨61,A,B,C,Imm⟩).1,(Qk0 c m ⟨61,A,B,C,Imm⟩).2.2,(Qk0 c m ⟨61,A,B,C,Imm⟩).2.1) by kernel_rfl)
 . exact(show Q5y c m ⟨62,A,B,C,Imm⟩=((Qk0 c m ⟨62,A,B,C,Imm⟩).1,(Qk0 c m ⟨62,A,B,C,Imm⟩).2.2,(Qk0 c m ⟨62,A,B,C,Imm⟩).2.1) by kernel_rfl)
 . exact(show Q5y c m ⟨63,A,B,C,Imm⟩=((Qk0 c m ⟨63,A,B,C,Imm⟩).1,(Qk0 c m ⟨63,A,B,C,Imm⟩).2.2,(Qk0 c m ⟨63,A,B,C,Imm⟩).2.1) by kernel_rfl)
 . exact(show Q5y c m ⟨64,A,B,C,Imm⟩=((Qk0 c m ⟨64,A,B,C,Imm⟩).1,(Qk0 c m ⟨64,A,B,C,Imm⟩).2.2,(Qk0 c m ⟨64,A,B,C,Imm⟩).2.1) by kernel_rfl)
end
theorem zak{op:Int}(h0:0<=op)(h1:op<256)(h:Q2d op≠0):isOp op:=by
 have e:=oY (Qty (λop=>decide (Q2d op=0\/isOpB op=true)) 256 (by kernel_rfl) h0 h1)
 rcases e with e|e
 . exact absurd e h
 . simpa only[isOpB,isOp,Bool.or_eq_true,decide_eq_true_eq,or_assoc] using e
theorem vi{op:Int}(o:isOp op):1<=op/\op<=64:=by
 unfold isOp at o
 rcases o with h|h|h|h|h|h|h|h|h|h|h|h|h|h|h|h|h|h|h|h|h|h|h|h|h|h|h|h|h|h|h|h|h|h|h|h|h|h|h|h|h|h|h|h<;>(rw[h];decide)
theorem qj{w:Int}(hw:U w):(Q20 w).2=true->isOp (Q20 w).1.Op:=by
  have s24:ishr .u32 w 24=w/16777216:=by have:=Qr8 (a:=w) 24 (by decide);simpa using this
  obtain⟨w0,w1⟩:=hw
  have eo:wrap .i64 (w/16777216)=w/16777216:=w64 (by omega) (by omega)
  have q:(λr:Q0l×Bool=>r.2=true->isOp r.1.Op) (Q20 w):=by
    simp only[Q20,Q6o,Tree.m,letv,s24,eo]
    cases hf:Q2d (w/16777216)==0
    . have g:isOp (w/16777216):=zak (by omega) (by omega) (by simpa using hf)
      repeat'(first
        |exact λ_=>g
        |exact λe=>Bool.noConfusion (show false=true from e)
        |refine Z3v (Q:=λr:Q0l×Bool=>r.2=true->isOp r.1.Op) ?_ ?_)
    . exact λe=>Bool.noConfusion (show false=true from e)
  exact q
section
variable (c:Q05) (m:List Int)
def doR(x:Int×Int×List Int)(w:Int)(d:Q0l×Bool):Q05×Q16×List Int:=
 bif x.2.1 !=0 then(Q2w c x.2.1 c.Pc,eff0,x.2.2) else bif !d.2 then(Q2w c 1 w,eff0,x.2.2) else bif Q3g d.1.Op then(bif iand .u32 c.B5.a0 1==0 then(Q2w c 2 w,eff0,x.2.2) else Qk0 c x.2.2 d.1) else Qk0 c x.2.2 d.1
def doP(y:Int×List Int×Int)(d:Q0l×Bool):Q05×List Int×Q16:=
 bif y.2.2 !=0 then(Q4p c y.2.2 c.Pc,y.2.1,eff0) else bif !d.2 then(Q4p c 1 y.1,y.2.1,eff0) else bif Q8y d.1.Op then(bif !Qag c then(Q4p c 2 y.1,y.2.1,eff0) else Q5y c y.2.1 d.1) else Q5y c y.2.1 d.1
theorem do_eq:Q7q c m=doR c (Q17 c m c.Pc 4 1) (Q1e (Q17 c m c.Pc 4 1).2.2 (Q17 c m c.Pc 4 1).1 4).1 (Q20 (Q1e (Q17 c m c.Pc 4 1).2.2 (Q17 c m c.Pc 4 1).1 4).1):=by kernel_rfl
theorem xak:Q81 c m=doP c (Qp c m) (Qi5 (Qp c m).1):=by kernel_rfl
theorem qJ:Qp c m=bif(Q25 c m c.Pc 4 1).2.2 !=0 then(0,(Q25 c m c.Pc 4 1).2.1,(Q25 c m c.Pc 4 1).2.2) else((Q51 (Q25 c m c.Pc 4 1).2.1 (Q25 c m c.Pc 4 1).1 4).1,(Q25 c m c.Pc 4 1).2.1,0):=by kernel_rfl
end
theorem Zh6{P:Nat}{m:List Int}(h:Q15 P m){c:Q05}(hc:Q2g c)(hst:c.B5.a0<=31):Q81 c m=((Q7q c m).1,(Q7q c m).2.2,(Q7q c m).2.1):=by
  obtain⟨k,u,b⟩:=Zjp h hc hc.pc (.inr rfl) 1
  have tr: ∀k b,Q4p c k b=Q2w c k b:=Qof hc.a0.1 hst
  rw[xak,do_eq,qJ,Qoa h hc hst hc.pc (.inr rfl) (.inl rfl)]
  generalize Q17 c m c.Pc 4 1=x at*
  cases hx:x.2.1 !=0
  . rw [Qpv k u (.inr rfl)]
    have hw:U (Q1e x.2.2 x.1 4).1:=(Tree.pp (Zgv k u (.inr rfl))).2
    generalize(Q1e x.2.2 x.1 4).1=w at*
    show doP c (w,x.2.2,0) (Qi5 w)=_
    rw[yg hw]
    have o:=qj hw
    have i:=Tree.post _ (Zl7 w)
    change(Q20 w).2=true->Qgh (Q20 w).1 at i
    generalize Q20 w=d at*
    obtain⟨⟨op,A,B,C,Imm⟩,ok⟩:=d
    cases ok
    . simp only[doP,doR,hx,tr];rfl
    . have o:isOp op:=o rfl
      have i:=i rfl
      have p:=xi (C:=C) (B:=B) (Imm:=Imm) k hc hst i.a o
      have pv:Q8y op=Q3g op:=zah (by have:=vi o;omega) (by have:=vi o;omega)
      have kn:(!Qag c)=(iand .u32 c.B5.a0 1==0):=by
        show(!(!(iand .u32 c.B5.a0 1==0)))=_
        exact Bool.not_not _
      simp only[doP,doR,hx,tr,pv,kn,p]
      cases Q3g op
      . rfl
      . cases iand .u32 c.B5.a0 1==0<;>rfl
  . simp only[doP,doR,hx,cond_true,tr]
theorem xj{a b:Int}:decide (a>=b)=!decide (a<b):=by
 by_cases h:a<b
 . rw[dY h,dN (by omega)];rfl
 . rw[dN h,dY (by omega)];rfl
def bits(g:Int)(l:List Nat)(s:Int):Int:=l.foldl (λ(a:Int) (i:Nat)=>wrap .i64 (a+wrap .i64 (iand .u32 (ishr .u32 g (i:Int)) 1))) s
theorem xJ(b:Q09):Qfa b=bits b.C2 [0,1,2,3,4,5,6,7,8,9,10,11,12,13,14,15,16,17,18,19,20,21,22,23,24,25,26,27,28,29,30,31] 0:=by kernel_rfl
theorem xaG{g:Int}(hg:U g){i:Nat}(hi:i<=32):wrap .i64 (iand .u32 (ishr .u32 g (i:Int)) 1)=g/2^i%2:=by
 rw[and1 (Qx3 hg _),Qr8 i hi]
 have:0<=g/2^i%2/\g/2^i%2<2:=by omega
 exact w64 (by omega) (by omega)
theorem zJ{g:Int}(hg:U g)(l:List Nat): ∀s:Int,(∀i∈l,i<=32)->0<=s->s+l.length<=1000->bits g l s=s+(l.map λi=>g/2^i%2).sum:=by
 induction l with
 |nil=>intro s _ _ _;simp [bits]
 | cons i l ih=>
   intro s hl h0 h1
   have h1:s+(l.length+1)<=1000:=by simpa using h1
   have hb:0<=g/2^i%2/\g/2^i%2<2:=by omega
   have e:bits g (i::l) s=bits g l (s+g/2^i%2):=by
     show bits g l (wrap .i64 (s+wrap .i64 (iand .u32 (ishr .u32 g (i:Int)) 1)))=_
     rw[xaG hg (hl i (by simp)),w64 (by omega) (by omega)]
   rw[e,ih _ (λj hj=>hl j (by simp [hj])) (by omega) (by omega)]
   simp;omega
theorem Znw(n:Q0r)(port:Int):Z4v n port=Qi4 n port:=by
 simp only[Z4v,Qv6,Qi4,Qg3,Tree.m]
 cases n.C6<;>cases n.B8<;>rfl
theorem Z7h(t:Q0i):Q4h t=Qe0 t:=by
 simp only[Q4h,Qmv,Qe0,Qil,Tree.m]
 cases t.D2<;>cases t.D5<;>rfl
theorem Zfg(n:Q0r)(p:Int):Q68 n p=Qjz n p:=by
 simp only[Q68,Qly,Qjz,Qn0,Tree.m]
 cases n.C6<;>cases n.B8<;>rfl
theorem Zci(d:Q0f)(p:Int):Q1l d p=Qfx d p:=by
  simp only[Q1l,Q6d,Q9f,Q7x,Qfx,Qkz,Tree.m,letv,xj]
  cases decide (d.Blocks>64)
  . by_cases s:d.C1=0\/d.C1=1\/d.C1=2\/d.C1=3
    . rcases s with s|s|s|s<;>rw[s]
      . rfl
      . by_cases c1:d.D8=1
        . rw[c1];cases decide (d.B7<d.Blocks)<;>cases decide (wrap .i64 d.B3<p)<;>cases decide (d.C3=[])<;>rfl
        . by_cases c2:d.D8=2
          . rw[c2];cases decide (d.B7<d.Blocks)<;>cases decide (wrap .i64 d.B3<p)<;>cases(d.C3.length:Int)==128<;>rfl
          . rw[show(d.D8==1)=false by simpa using c1,show(d.D8==2)=false by simpa using c2]
            cases decide (d.B7<d.Blocks)<;>cases decide (wrap .i64 d.B3<p)<;>rfl
      . rfl
      . rfl
    . rw[show(d.C1==0)=false by simp;omega,show(d.C1==1)=false by simp;omega,show(d.C1==2)=false by simp;omega,show(d.C1==3)=false by simp;omega]
      by_cases n:d.C1<0
      . rw[dY n];rfl
      . rw[dN n,dY (show d.C1>3 by omega)];rfl
  . rfl
theorem yJ(c:Q0c):Q9g c=Q5v c:=by
 show(!decide (c.D3=[]))=decide ((c.D3.length:Int)>0)
 cases c.D3 with
 |nil=>rfl
 |cons a l=>rw[dN (by simp),dY (by simp)];rfl
theorem qal(k:List UInt8):decide (k=[])=((k.length:Int)==0):=by
 cases k with
 |nil=>rfl
 | cons a l=>
   rw[dN (by simp)]
   exact(beq_eq_false_iff_ne.2 (by simp;omega)).symm
theorem Zpa(c:Q0c)(port:Int):Qq8 c port=Q5n c port:=by
 simp only[Qq8,Qa8,Q5n,Q3l,Tree.m,qal]
 cases port==0
 . rfl
 . cases(c.D3.length:Int)==0<;>rfl
theorem vJ(t:Q0i)(v:Int):Qm0 t v=Qti v:=by
 simp only[Qm0,Qn8,Qti,Qy1,Tree.m]
 cases h:v==0
 . rw[show(v !=0)=true by simp only[bne,h];rfl];rfl
 . rw[show(v !=0)=false by simp only[bne,h];rfl,eq_of_beq h];rfl
section
variable {P:Nat} {m:List Int} (h:Q15 P m)
include h
theorem Z7l(f:Int):Q9p m f=Q27 m f:=by
 have a:=Q3q h
 have b:=Qfl h
 simp only[Q9p,Qe2,Q27,Qjm,Tree.m,letv,a,b]
theorem Z8j(f:Int):Qan m f=Q27 m f:=by
 have a:=Q3q h
 have b:=Qfl h
 simp only[Qan,Qgr,Q27,Qjm,Tree.m,letv,a,b]
theorem Zfi(d:Q0f)(port:Int)(v:Int)(at0:Int):Z1e d m port v at0=Qgd d m port v at0:=by
  have pg:=Z7l h
  have pa:=Zdl h
  have rq: ∀d a,Qki d a=Qkm d a:=λ_ _=>rfl
  simp only[Z1e,Qi2,Qvr,Qcz,Qgd,Q8z,Tree.m,letv,pg,pa,rq]
  cases port==4
  . cases port==5
    . cases h6:port==6
      . rw[show(port !=6)=true by simp only[bne,h6];rfl];rfl
      . rw [show(port !=6)=false by simp only[bne,h6];rfl]
        by_cases v1:v=1
        . subst v1
          cases hs:d.C1==0
          . rw[show(d.C1 !=0)=true by simp only[bne,hs];rfl];rfl
          . rw[show(d.C1 !=0)=false by simp only[bne,hs];rfl];rfl
        . by_cases v2:v=2
          . subst v2
            cases hs:d.C1==0
            . rw[show(d.C1 !=0)=true by simp only[bne,hs];rfl];rfl
            . rw[show(d.C1 !=0)=false by simp only[bne,hs];rfl];rfl
          . rw[show(v==1)=false by simpa using v1,show(v==2)=false by simpa using v2]
            cases v==0
            . rfl
            . have:Qa0 d=(bif d.C1==2 then true else d.C1==3):=rfl
              rw[this]
              cases d.C1==2<;>cases d.C1==3<;>rfl
    . rfl
  . rfl
theorem Zkc(n:Q0r)(port:Int)(v:Int)(at0:Int):Zaq n m port v at0=Qj5 n m port v at0:=by
  have pg:=Z8j h
  have pa:=Zdl h
  simp only[Zaq,Ql6,Zao,Qhv,Qj5,Qao,Tree.m,letv,pg,pa]
  have g1:decide (n.E0>=1)=!decide (n.E0<1):=xj
  have g2:decide (n.E0<=128)=!decide (n.E0>128):=by
    by_cases h:n.E0>128
    . rw[dY h,dN (by omega)];rfl
    . rw[dN h,dY (by omega)];rfl
  rw[g1,g2]
  cases port==7
  . cases port==8
    . cases h9:port==9
      . rw[show(port !=9)=true by simp only[bne,h9];rfl];rfl
      . rw [show(port !=9)=false by simp only[bne,h9];rfl]
        by_cases v1:v=1
        . subst v1
          cases decide (n.E0<1)<;>cases decide (n.E0>128)<;>cases Q27 m n.Frame<;>rfl
        . by_cases v2:v=2
          . subst v2;rfl
          . rw[show(v==1)=false by simpa using v1,show(v==2)=false by simpa using v2]
            cases v==0<;>rfl
    . rfl
  . rfl
theorem Zb8{d:Q0f}(hd:Q95 d)(e:Q0a):Qhs d m e=((Q8b d m e).1,(Q8b d m e).2.2,(Q8b d m e).2.1):=by
  have hcl:Q03 m=m:=rfl
  have pg:=Z7l h d.B3
  have lp:decide ((e.C8.length:Int)>0)=!decide (e.C8=[]):=by
    cases e.C8 with
    |nil=>rfl
    |cons a l=>rw[dY (by simp),dN (by simp)];rfl
  have bad:(e.C8.length:Int)≠128->Q27 m d.B3=true->Q2v m (wrap .i64 d.B3) e.C8=(m,false):=λhl hp=>by
    rw[Qmq h hd.opFrame]at hp
    have hp:=oY hp
    have h1:=hd.opFrame.1
    have h3:=h.p2
    have ew:i64.wrap d.B3=d.B3:=w64 (by omega) (by omega)
    simp only[Q2v,Q3n,Tree.m,letv,hcl,ew,Zbt h,dY (⟨h1,hp⟩:0<=d.B3/\d.B3<P),show((e.C8.length:Int) !=128)=true by simpa using hl]
    rfl
  have good:(e.C8.length:Int)=128->Q27 m d.B3=true->Q2v m (wrap .i64 d.B3) e.C8=(Qld m (wrap .i64 d.B3) e.C8,true):=λhl hp=>by
    rw[Qmq h hd.opFrame]at hp
    have hp:=oY hp
    have h1:=hd.opFrame.1
    have h3:=h.p2
    have ew:i64.wrap d.B3=d.B3:=w64 (by omega) (by omega)
    rw[ew];exact Zeu h h1 hp (by omega)
  simp only[Qhs,Q7j,Q8b,Q6h,Tree.m,letv,hcl,pg,lp]
  cases d.C1 !=1
  . cases e.B6 !=4
    . cases decide (e.N>1)
      . cases e.N==1
        . cases decide (e.C8=[])<;>rfl
        . cases hc:d.D8==1
          . cases decide (e.C8=[])<;>rfl
          . by_cases hl:(e.C8.length:Int)=128
            . rw[show((e.C8.length:Int) !=128)=false by simpa using hl]
              cases hp:Q27 m d.B3
              . rfl
              . rw[good hl hp];rfl
            . rw[show((e.C8.length:Int) !=128)=true by simpa using hl]
              cases hp:Q27 m d.B3
              . rfl
              . rw[bad hl hp];rfl
      . rfl
    . rfl
  . rfl
theorem Zef{n:Q0r}(hn:Qk2 n)(frame:List UInt8):Qmm n m frame=((Q8h n m frame).1,(Q8h n m frame).2.2,(Q8h n m frame).2.1):=by
  have hcl:Q03 m=m:=rfl
  have pg:=Z8j h n.B9
  simp only[Qmm,Qaf,Q8h,Q7,Tree.m,letv,hcl,pg]
  cases !n.C6
  . cases decide ((frame.length:Int)<1)
    . cases hf:decide ((frame.length:Int)>128)
      . cases hp:Q27 m n.B9
        . rfl
        . rw[Qmq h hn.buffer]at hp
          have hp:=oY hp
          have h1:=hn.buffer.1
          have h3:=h.p2
          have ew:i64.wrap n.B9=n.B9:=w64 (by omega) (by omega)
          have hf:=oN hf
          obtain⟨b1,b2⟩:=(Tree.pp (zh h h1 hp)).2
          change isPg m n.B9 (Q5x m n.B9).1 at b1
          have tk:List.take (Int.toNat ((Q5x m n.B9).1.length:Int)-Int.toNat (frame.length:Int)) (List.drop (Int.toNat (frame.length:Int)) (Q5x m n.B9).1)=(Q5x m n.B9).1.drop frame.length:=by
            rw[Int.toNat_natCast,Int.toNat_natCast]
            exact List.take_of_length_le (by simp)
          rw[ew,tk,Zf1 h h1 hp (by omega) b1]
          rfl
      . rfl
    . rfl
  . rfl
end
def ptab:List UInt8:=(List.range 256).map λn=>UInt8.ofNat (n%2+n/2%2+n/4%2+n/8%2+n/16%2+n/32%2+n/64%2+n/128%2)
def pt(n:Int):Int:=((UInt8.toNat (ptab.getD n.toNat 0):Nat):Int)
theorem qK(x:Int):Q6x x=wrap .i64 (wrap .u8 (wrap .u8 (wrap .u8 (pt (ishr .u32 x 24)+pt (iand .u32 (ishr .u32 x 16) 255))+pt (iand .u32 (ishr .u32 x 8) 255))+pt (iand .u32 x 255))):=by kernel_rfl
theorem pt8{a:Int}(h0:0<=a)(h1:a<256):pt a=a%2+a/2%2+a/4%2+a/8%2+a/16%2+a/32%2+a/64%2+a/128%2:=
 eq_of_beq (Qty (λa=>pt a==a%2+a/2%2+a/4%2+a/8%2+a/16%2+a/32%2+a/64%2+a/128%2) 256 (by kernel_rfl) h0 h1)
theorem zj{g:Int}(hg:U g):bits g [0,1,2,3,4,5,6,7,8,9,10,11,12,13,14,15,16,17,18,19,20,21,22,23,24,25,26,27,28,29,30,31] 0=pt (g%256)+pt (g/256%256)+pt (g/65536%256)+pt (g/16777216):=by
 rw[zJ hg _ 0 (by decide) (by decide) (by decide),pt8 (by omega) (by omega),pt8 (by omega) (by omega),pt8 (by omega) (by omega),pt8 (by have:=hg.1;omega) (by have:=hg.2;omega)]
 obtain⟨g0,g1⟩:=hg
 simp only[List.map_cons,List.map_nil,List.sum_cons,List.sum_nil]
 have e: ∀i j:Nat,∀k:Int,i<8->k=2^j->g/2^(i+j)%2=(g/k%256)/2^i%2:=λi j k hi hk=>by
   subst hk
   rw[Nat.add_comm,Int.pow_add,<-Int.ediv_ediv_of_nonneg (Int.le_of_lt (Int.pow_pos (by decide)))]
   generalize g/2^j=x
   have:i=0\/i=1\/i=2\/i=3\/i=4\/i=5\/i=6\/i=7:=by omega
   rcases this with rfl|rfl|rfl|rfl|rfl|rfl|rfl|rfl<;>simp<;>omega
 have e0: ∀i:Nat,i<8->g/2^i%2=(g%256)/2^i%2:=λi hi=>by have:=e i 0 1 hi rfl;simpa using this
 have e24:g/16777216%256=g/16777216:=by omega
 rw[e0 0 (by decide),e0 1 (by decide),e0 2 (by decide),e0 3 (by decide),e0 4 (by decide),e0 5 (by decide),e0 6 (by decide),e0 7 (by decide)]
 rw[e 0 8 256 (by decide) (by decide),e 1 8 256 (by decide) (by decide),e 2 8 256 (by decide) (by decide),e 3 8 256 (by decide) (by decide),e 4 8 256 (by decide) (by decide),e 5 8 256 (by decide) (by decide),e 6 8 256 (by decide) (by decide),e 7 8 256 (by decide) (by decide)]
 rw[e 0 16 65536 (by decide) (by decide),e 1 16 65536 (by decide) (by decide),e 2 16 65536 (by decide) (by decide),e 3 16 65536 (by decide) (by decide),e 4 16 65536 (by decide) (by decide),e 5 16 65536 (by decide) (by decide),e 6 16 65536 (by decide) (by decide),e 7 16 65536 (by decide) (by decide)]
 rw[e 0 24 16777216 (by decide) (by decide),e 1 24 16777216 (by decide) (by decide),e 2 24 16777216 (by decide) (by decide),e 3 24 16777216 (by decide) (by decide),e 4 24 16777216 (by decide) (by decide),e 5 24 16777216 (by decide) (by decide),e 6 24 16777216 (by decide) (by decide),e 7 24 16777216 (by decide) (by decide),e24]
 generalize g%256=a
 generalize g/256%256=b
 generalize g/65536%256=c
 generalize g/16777216=d
 simp only[show(2:Int)^0=1 from rfl,show(2:Int)^1=2 from rfl,show(2:Int)^2=4 from rfl,show(2:Int)^3=8 from rfl,show(2:Int)^4=16 from rfl,show(2:Int)^5=32 from rfl,show(2:Int)^6=64 from rfl,show(2:Int)^7=128 from rfl,Int.ediv_one]
 omega
theorem pt_le{a:Int}(h0:0<=a)(h1:a<256):0<=pt a/\pt a<=8:=by rw[pt8 h0 h1];omega
theorem Z9l{b:Q09}(hg:U b.C2):Qdz b=Qfa b/\0<=Qfa b/\Qfa b<=32:=by
 obtain⟨s8,s16,s24⟩:=shr_c b.C2
 have u8:U (ishr .u32 b.C2 8):=Qx3 hg _
 have u16:U (ishr .u32 b.C2 16):=Qx3 hg _
 have e:Qdz b=Q6x b.C2:=rfl
 rw[e,qK,xJ,zj hg,m255 u8,m255 u16,m255 hg,s8,s16,s24]
 obtain⟨g0,g1⟩:=hg
 have p0:=pt_le (a:=b.C2%256) (by omega) (by omega)
 have p1:=pt_le (a:=b.C2/256%256) (by omega) (by omega)
 have p2:=pt_le (a:=b.C2/65536%256) (by omega) (by omega)
 have p3:=pt_le (a:=b.C2/16777216) (by omega) (by omega)
 have w8: ∀x,wrap .u8 x=x%256:=λx=>wrap_u8 x
 rw[w8,w8,w8,wrap_i64]
 omega
theorem Zg0{b:Q09}(h:okB b):Q7n b=Q3w b:=by
 obtain⟨e,l0,l1⟩:=Z9l h.2
 obtain⟨t0,t1⟩:=h.1
 simp only[Q7n,Q5q,Q3w,Q9v,Tree.m,letv,e]
 rw[wrap_u32,wrap_u64,wrap_u64,Int.emod_eq_of_lt l0 (by omega),Int.emod_eq_of_lt l0 (by omega),Int.emod_eq_of_lt t0 (by omega)]
theorem Znl{b:Q09}(h:okB b)(port:Int):Qq b port=Q5m b port:=by
 simp only[Qq,Qd4,Q5m,Q6c,Tree.m,letv,(Z9l h.2).1]
theorem zal(g:Int)(z:Nat):g%2^(z+1)=g%2^z+2^z*(g/2^z%2):=by
 have hp:(0:Int)<2^z:=Int.pow_pos (by decide)
 have h1:=Int.mul_ediv_add_emod g (2^z)
 have h2:=Int.mul_ediv_add_emod (g/2^z) 2
 have h3:(g/2^z)/2=g/2^(z+1):=by rw[Int.pow_succ,Int.ediv_ediv_of_nonneg (Int.le_of_lt hp)]
 have h4:=Int.mul_ediv_add_emod g (2^(z+1))
 rw[h3]at h2
 have h5:(2:Int)^(z+1)*(g/2^(z+1))=2^z*(2*(g/2^(z+1))):=by rw[Int.pow_succ,Int.mul_assoc]
 have h6:(2:Int)^z*(g/2^z)=2^z*(2*(g/2^(z+1)))+2^z*(g/2^z%2):=by rw[<-Int.mul_add,h2]
 omega
theorem qaH{b:Q09}(hg:U b.C2){P:Nat}(hP:P<=32):(Q5r b P).w (λr=>r=decide (b.C2<2^P)):=by
 unfold Q5r
 have fin: ∀v:Int,0<=v->v<=32->wrap .u64 v=(v.toNat:Int):=λv h0 h1=>by rw[wrap_u64];omega
 refine w_lp (inv:=λz:Int=>0<=z/\z<=32/\b.C2%2^z.toNat<2^P) (μ:=Q6l b P) ⟨by decide,by decide,by have:(0:Int)<2^P:=Int.pow_pos (by decide);simpa using this⟩ (Nat.lt_succ_self _) λz ⟨z0,z1,z2⟩=> ?_
 refine w_br (λhb=> ?_) (λhb=> ?_)
 . have hb:=oY hb
   have ew:i64.wrap (z+1)=z+1:=w64 (by omega) (by omega)
   have bt:iand .u32 (ishr .u32 b.C2 (wrap .u64 z)) 1=b.C2/2^z.toNat%2:=by
     rw[fin z z0 z1,and1 (Qx3 hg _),Qr8 _ (by omega)]
   have bp:=zal b.C2 z.toNat
   have zt:(z+1).toNat=z.toNat+1:=by omega
   refine w_cn (dY (by rw[wrap_u64];omega)) ?_
   rw[bt]
   refine w_br (λe=>w_br (λhp=> ?_) (λhp=>w_nx ?_)) (λe=>w_nx ?_)
   . have e:=eq_of_beq e
     have hp:=oY hp
     show false=_
     refine(dN λhlt=> ?_).symm
     have hle:(2:Int)^P<=2^z.toNat:=by exact_mod_cast Nat.pow_le_pow_right (show 0<2 by decide) (show P<=z.toNat by omega)
     have:b.C2/2^z.toNat=0:=Int.ediv_eq_zero_of_lt hg.1 (by omega)
     rw[this]at e;cases e
   . have e:=eq_of_beq e
     have hp:=oN hp
     show(0<=i64.wrap (z+1)/\i64.wrap (z+1)<=32/\b.C2%2^(i64.wrap (z+1)).toNat<2^P)/\(32-i64.wrap (z+1)).toNat<(32-z).toNat
     rw[ew,zt]
     have hle:(2:Int)^(z.toNat+1)<=2^P:=by exact_mod_cast Nat.pow_le_pow_right (show 0<2 by decide) (show z.toNat+1<=P by omega)
     have:=Int.emod_lt_of_pos b.C2 (show(0:Int)<2^(z.toNat+1) from Int.pow_pos (by decide))
     exact⟨⟨by omega,by omega,by omega⟩,by omega⟩
   . have e: ¬b.C2/2^z.toNat%2=1:=by simpa using e
     have e:b.C2/2^z.toNat%2=0:=by omega
     rw[e]at bp
     show(0<=i64.wrap (z+1)/\i64.wrap (z+1)<=32/\b.C2%2^(i64.wrap (z+1)).toNat<2^P)/\(32-i64.wrap (z+1)).toNat<(32-z).toNat
     rw[ew,zt,bp]
     exact⟨⟨by omega,by omega,by omega⟩,by omega⟩
 . have hb:=oN hb
   have:z=32:=by omega
   subst this
   show true=_
   refine(dY ?_).symm
   have h2:b.C2%2^(32:Int).toNat=b.C2:=Int.emod_eq_of_lt hg.1 hg.2
   rwa [h2]at z2
theorem Zix{b:Q09}(hg:U b.C2){P:Nat}(hP:P<=32):Q2o b P=Q9c b P:=by
 have r:=(Tree.pp (qaH hg hP)).2
 change Q9c b P=_ at r
 rw[r,Bool.eq_iff_iff,Z4e hg,decide_eq_true_eq]
theorem zeros:strings_Repeat [(0:UInt8)] 128=List.replicate 128 0:=by kernel_rfl
theorem zaH{P:Nat}{m:List Int}(hm:Q15 P m){b:Q09}{port:Int}{v:Int}(hv:U v)(hp:v<P)(h10:port=10)(hb:(iand .u32 (ishr .u32 b.C2 v) 1==0)=true):(Q5 b m port v).w (λr=>r.1={D0:=b.D0,C2:=ior .u32 b.C2 (ishl .u32 1 v)}/\Q15 P r.2/\ ∀k:Nat,byt r.2 k=if v*128<=k/\(k:Int)<v*128+128 then 0 else byt m k):=by
 have hv0:decide (0<=v)=true:=dY hv.1
 have h2:=hm.p2
 have pg:Q27 m v=true:=by rw[Qmq hm hv];exact dY hp
 obtain⟨v1,v2⟩:=hv
 subst h10
 unfold Q5
 refine w_br (λ_=>w_lv λx0 hx=>w_br (λ_=>w_cn hv0 (w_br (λ_=>w_cn hv0 ?_) (λh=>by rw[hb]at h;cases h))) (λh=>by rw[hx,pg]at h;cases h)) (λh=>by cases h)
 refine w_lp (inv:=λz=>0<=z.1/\z.1<=32/\Q15 P z.2/\ ∀k:Nat,byt z.2 k=if v*128<=k/\(k:Int)<v*128+4*z.1 then 0 else byt m k) (μ:=Qj7 b m 10 v) ⟨show(0:Int)<=0 by decide,show(0:Int)<=32 by decide,hm,λk=>by rw[if_neg];show¬(_/\_<_+4*(0:Int));omega⟩ (Nat.lt_succ_self _) (λz hz=> ?_)
 obtain⟨z1,z2,z3,z4⟩:=hz
 have hl:=z3.len
 refine w_br (λh=> ?_) (λh=>⟨rfl,z3,λk=> ?_⟩)
 . have h:=oY h
   have e:wrap i64 (wrap i64 (wrap i64 v*32)+z.1)=v*32+z.1:=by rw[wrap_i64,wrap_i64,wrap_i64];omega
   refine w_cn (by rw[e];simp [Nat.blt];omega) (w_nx ?_)
   have ew:i64.wrap (z.1+1)=z.1+1:=by rw[wrap_i64];omega
   show(0<=i64.wrap (z.1+1)/\i64.wrap (z.1+1)<=32/\Q15 P (List.set _ _ _)/\ ∀k:Nat,byt (List.set z.2 (Int.toNat (wrap i64 (wrap i64 (wrap i64 v*32)+z.1))) 0) k=if v*128<=(k:Int)/\(k:Int)<v*128+4*i64.wrap (z.1+1) then 0 else _)/\(32-i64.wrap (z.1+1)).toNat<(32-z.1).toNat
   rw[ew,e]
   refine⟨⟨by omega,by omega,⟨by simp [hl],z3.p1,z3.p2,Z6c z3.u U_0 _⟩,λk=> ?_⟩,by omega⟩
   rw[Zj2 (by omega)]
   by_cases hc:k/4=(v*32+z.1).toNat
   . rw[if_pos hc,if_pos (by omega)]
     have:k%4=0\/k%4=1\/k%4=2\/k%4=3:=by omega
     rcases this with h|h|h|h<;>rw[h]<;>rfl
   . rw[if_neg hc,z4 k]
     by_cases hd:v*128<=(k:Int)/\(k:Int)<v*128+4*z.1
     . rw[if_pos hd,if_pos (by omega)]
     . rw[if_neg hd,if_neg (by omega)]
 . have h:=oN h
   show byt z.2 k=_
   rw[z4 k,show z.1=32 by omega];rfl
theorem bitv{g v:Int}(hg:U g)(v0:0<=v)(v1:v<32):(iand .u32 g (ishl .u32 1 v)==0)=(iand .u32 (ishr .u32 g v) 1==0):=by
 obtain⟨z,rfl⟩: ∃z:Nat,v=z:=⟨v.toNat,by omega⟩
 obtain⟨n,rfl⟩: ∃n:Nat,g=n:=⟨g.toNat,by have:=hg.1;omega⟩
 have hz:z<32:=by omega
 have hlt:(2:Nat)^z<4294967296:=by have:=Nat.pow_lt_pow_right (show 1<2 by omega) hz;simpa using this
 rw[and1 (Qx3 hg _),Qr8 z (by omega),yf v0 v1,Int.toNat_natCast]
 have hc:((2:Int)^z)=((2^z:Nat):Int):=by simp
 generalize hq:2^z=q at*
 rw[hc,Zjx hg ⟨by omega,by omega⟩,Int.toNat_natCast,Int.toNat_natCast,<-hq]
 have e1:(n&&&2^z)=0↔n/2^z%2=0:=by
   have t:n.testBit z=decide (n/2^z%2=1):=Nat.testBit_eq_decide_div_mod_eq
   constructor
   . intro h
     have h2:(n&&&2^z).testBit z=false:=by rw[h];exact Nat.zero_testBit z
     rw[Nat.testBit_and,Nat.testBit_two_pow_self,Bool.and_true,t]at h2
     have:=oN h2
     omega
   . intro h
     have t0:n.testBit z=false:=by rw[t];exact dN (by omega)
     apply Nat.eq_of_testBit_eq
     intro i
     rw[Nat.testBit_and,Nat.testBit_two_pow,Nat.zero_testBit]
     by_cases hi:z=i
     . subst hi;rw[t0];rfl
     . rw[dN hi,Bool.and_false]
 rw[Bool.eq_iff_iff,beq_iff_eq,beq_iff_eq]
 constructor
 . intro h;have:=e1.1 (by omega);omega
 . intro h;have:=e1.2 (by omega);omega
theorem Zku{P:Nat}{m:List Int}(h:Q15 P m){b:Q09}(hb:okB b)(port:Int){v:Int}(hv:U v):Q82 b m port v=Q6q b m port v:=by
  have hcl:Q03 m=m:=rfl
  have hp:=Q3q h
  have h2:=h.p2
  have ew:i64.wrap v=v:=w64 (by have:=hv.1;omega) (by have:=hv.2;omega)
  have pe:=Qmq h hv
  by_cases h32:v<32
  . have bv :=bitv hb.2 hv.1 h32
    by_cases h10:port=10
    . by_cases hP:v<P
      . cases hz:iand .u32 (ishr .u32 b.C2 v) 1==0
        . simp only[Q82,Q45,Q6q,Q5,Tree.m,letv,hcl,hp,ew,pe,bv,hz,h10,dY hP,dN (show¬v>=32 by omega)]
          rfl
        . obtain⟨g1,g2,g3⟩:=(Tree.pp (zaH h hv hP h10 hz)).2
          change(Q6q b m port v).1=_ at g1
          change Q15 P (Q6q b m port v).2 at g2
          change∀k:Nat,byt (Q6q b m port v).2 k=_ at g3
          obtain⟨s1,s2,s3⟩:=(Tree.pp (Z53 h hv.1 hP (s:=List.replicate 128 0) (by simp))).2
          have em:(Q2v m v (List.replicate 128 0)).1=(Q6q b m port v).2:=by
            refine Zk3 (s2.len.trans g2.len.symm) s2.u g2.u λk=> ?_
            rw[g3 k]
            refine(s3 k).trans ?_
            by_cases hk:v*128<=(k:Int)/\(k:Int)<v*128+128
            . rw[if_pos hk,if_pos hk]
              have:(List.replicate 128 (0:UInt8)).getD ((k:Int)-v*128).toNat 0=0:=by
                rw[List.getD_eq_getElem?_getD,List.getElem?_replicate]
                split<;>rfl
              rw[this];rfl
            . rw[if_neg hk,if_neg hk]
          have el:Q82 b m port v=({D0:=b.D0,C2:=ior .u32 b.C2 (ishl .u32 1 v)},(Q2v m v (List.replicate 128 0)).1):=by
            simp only[Q82,Q45,Tree.m,letv,hcl,hp,ew,bv,hz,h10,dY hP,dN (show¬v>=32 by omega),zeros]
            rfl
          rw[el,em,<-g1]
      . simp only[Q82,Q45,Q6q,Q5,Tree.m,letv,hcl,hp,ew,pe,h10,dN hP,dN (show¬v>=32 by omega)]
        rfl
    . simp only[Q82,Q45,Q6q,Q5,Tree.m,letv,hcl,dY h32,dN (show¬v>=32 by omega),show(port==10)=false by simpa using h10]
      cases port==11<;>rfl
  . simp only[Q82,Q45,Q6q,Q5,Tree.m,letv,hcl,pe,dN h32,dY (show v>=32 by omega),dN (show¬v<P by omega)]
    cases port==10<;>cases port==11<;>rfl
structure okV(m:Q00):Prop where
 cpu:Q2g m.B2
 mem: ∀w∈m.Mem,U w
 disk:Q95 m.B1
 nic:Qk2 m.C4
 bal:okB m.A2
 cnt:0<=m.A1
theorem Qp9(m:List Int)(hm: ∀w∈m,U w):Q0x m=Q40 m/\(Q0x m=0\/ ∃P:Nat,1<=P/\Q15 P m):=by
 refine⟨rfl,?_⟩
 simp only[Q0x,Q8u,Tree.m]
 cases h1:Int.tmod (m.length:Int) 32 !=0
 . cases h2:decide ((m.length:Int)>1024)
   . have h1:Int.tmod (m.length:Int) 32=0:=by simpa using h1
     have h2:=oN h2
     rw[Int.tmod_eq_emod_of_nonneg (by omega)]at h1
     by_cases h0:m.length=0
     . left;rw[h0];rfl
     . right;exact⟨m.length/32,by omega,⟨by omega,by omega,by omega,hm⟩⟩
   . left;rfl
 . left;rfl
theorem rcnd{a x:Bool}:(bif !a then false else x)=true↔a=true/\x=true:=by cases a<;>simp
theorem xK(m:Q00):Q6r m=true↔ ¬(Q40 m.Mem<1)/\Q65 m.B2/\Qi7 m.A4=true/\Qe0 m.B0=true/\Qfx m.B1 (Q40 m.Mem)=true/\Qjz m.C4 (Q40 m.Mem)=true/\Q9c m.A2 (Q40 m.Mem)=true/\m.A1<=1152921504606846976/\ ¬(m.A7=true/\m.A9=true):=by
 simp only[Q6r,Qx,Tree.m,letv]
 rw[cnd2,cnd2,cnd2,cnd2,cnd2,cnd2,rcnd,rcnd,rcnd,rcnd,rcnd]
 simp only[decide_eq_false_iff_not,Int.not_lt,bne_eq_false_iff_eq,gt_iff_lt]
 have l:((bif decide (m.A1<=1152921504606846976) then(bif m.A7 then !m.A9 else true) else false)=true)↔m.A1<=1152921504606846976/\ ¬(m.A7=true/\m.A9=true):=by
   by_cases hc:m.A1<=1152921504606846976
   . rw[dY hc]
     cases m.A7<;>cases m.A9<;>simp [hc]
   . rw[dN hc];simp [hc]
 rw[l]
 constructor
 . rintro⟨a1,a2,a3,a4,a5,a6,a7⟩
   exact⟨by omega,⟨a2,a3,a4,a5,a6⟩,a7⟩
 . rintro⟨a1,⟨a2,a3,a4,a5,a6⟩,a7⟩
   exact⟨by omega,a2,a3,a4,a5,a6,a7⟩
theorem Zcu{m:Q00}(h:okV m):Q1f m=Q6r m:=by
 rw[Bool.eq_iff_iff,Qna,xK,qf]
 obtain⟨e,c⟩:=Qp9 m.Mem h.mem
 simp only[aE,<-e]
 rcases c with c|⟨P,hP,hm⟩
 . constructor
   . rintro⟨a,_⟩;exact absurd c a
   . rintro⟨a,_⟩;omega
 . rw[Q3q hm,Z7h,Zci,Zfg,Zix h.bal.2 hm.p2]
   constructor
   . rintro⟨a1,a2,a3,a4,a5,a6,a7,a8,a9⟩;exact⟨by omega,a2,a5,a6,a7,a8,a9,a3,a4⟩
   . rintro⟨a1,a2,a5,a6,a7,a8,a9,a3,a4⟩;exact⟨by omega,a2,a3,a4,a5,a6,a7,a8,a9⟩
def Zb6(a b c d e:Bool):Int:=ior .u32 (ior .u32 (ior .u32 (ior .u32 (Q9u a 0) (Q9u b 1)) (Q9u c 2)) (Q9u d 3)) (Q9u e 4)
theorem mlines(m:Q00):Qe1 m=Zb6 (Qhf m.B0) (Q9g m.A4) (Qa0 m.B1) (Qn m.C4) (Q7n m.A2):=by
 unfold Qe1 Q7l
 simp only[Tree.m,letv]
 generalize Qhf m.B0=a
 generalize Q9g m.A4=b
 generalize Qa0 m.B1=c
 generalize Qn m.C4=d
 generalize Q7n m.A2=e
 cases a<;>cases b<;>cases c<;>cases d<;>cases e<;>kernel_rfl
theorem Zo1(a b c d e:Bool):0<=Zb6 a b c d e/\Zb6 a b c d e<32:=by
 cases a<;>cases b<;>cases c<;>cases d<;>cases e<;>decide
theorem rlines(m:Q00):Qhy m=Zb6 (Qap m.B0) (Q5v m.A4) (Qc5 m.B1) (Qdk m.C4) (Q3w m.A2):=rfl
section
variable {m:Q00} (h:okV m)
include h
theorem Zoo:Qe1 m=Qhy m:=by
 rw[mlines,rlines,yJ,Zg0 h.bal];rfl
theorem Qyg:Q63 m=Q33 m:=by
 have e:=Zoo h
 simp only[Q63,Q32,Q33,Q8s,Tree.m,letv,e]
theorem Zf7:Q4a m=Qds m:=by
 have e:=Qyg h
 simp only[Q4a,Q38,Qds,Qer,Tree.m,letv,e]
theorem Qu5:Q2q m=!Q0v m:=by
 have e1:=Zcu h
 have e2:=Zf7 h
 have e3:decide (m.A1>=1152921504606846976)=!decide (m.A1<1152921504606846976):=xj
 simp only[Q2q,Q44,Q0v,Q7y,Tree.m,letv,e1,e2,e3]
 cases Q6r m<;>cases m.A9<;>cases Qds m<;>cases decide (m.A1<1152921504606846976)<;>rfl
theorem Z89:0<=Q33 m/\Q33 m<32:=by
 have e:Q33 m=iand .u32 (Qhy m) m.B2.B5.a7:=rfl
 have l:=Zo1 (Qap m.B0) (Q5v m.A4) (Qc5 m.B1) (Qdk m.C4) (Q3w m.A2)
 rw[<-rlines]at l
 rw[e,Zjx ⟨l.1,by omega⟩ h.cpu.a7]
 have:=Nat.and_le_left (n:=(Qhy m).toNat) (m:=m.B2.B5.a7.toNat)
 omega
def low(l:Int):Int:=if l%2=1 then 0 else if l/2%2=1 then 1 else if l/4%2=1 then 2 else if l/8%2=1 then 3 else 4
end
theorem cases32{l:Int}(h0:0<=l)(h1:l<32):l=0\/l=1\/l=2\/l=3\/l=4\/l=5\/l=6\/l=7\/l=8\/l=9\/l=10\/l=11\/l=12\/l=13\/l=14\/l=15\/l=16\/l=17\/l=18\/l=19\/l=20\/l=21\/l=22\/l=23\/l=24\/l=25\/l=26\/l=27\/l=28\/l=29\/l=30\/l=31:=by omega
def intr(m:Q00)(l:Int):Q05:=bif iand .u32 m.B2.B5.a0 2==0 then m.B2 else bif l==0 then m.B2 else Q2w m.B2 (wrap .i64 (16+low l)) 0
theorem rintr{m:Q00}(h:okV m):Q0n m=intr m (Q33 m):=by
 obtain⟨l0,l1⟩:=Z89 h
 unfold Q0n Q4v
 simp only[Tree.m,letv]
 revert l0 l1
 generalize Q33 m=l
 intro l0 l1
 unfold intr
 cases iand .u32 m.B2.B5.a0 2==0
 . rcases cases32 l0 l1 with rfl|rfl|rfl|rfl|rfl|rfl|rfl|rfl|rfl|rfl|rfl|rfl|rfl|rfl|rfl|rfl|rfl|rfl|rfl|rfl|rfl|rfl|rfl|rfl|rfl|rfl|rfl|rfl|rfl|rfl|rfl|rfl<;>kernel_rfl
 . rfl
def beg(m:Q00)(c:Q05):Q00:={B2:=c,Mem:=m.Mem,A4:=m.A4,B0:=m.B0,B1:=m.B1,C4:=m.C4,A2:=m.A2,A1:=m.A1,A7:=false,A9:=m.A9}
theorem Qxe{m:Q00}(h:okV m)(hst:m.B2.B5.a0<=31):Q1 m=beg m (Q0n m):=by
 obtain⟨l0,l1⟩:=Z89 h
 have tr: ∀k b,Q4p m.B2 k b=Q2w m.B2 k b:=Qof h.cpu.a0.1 hst
 have e:Q63 (beg m m.B2)=Q33 m:=Qyg (m:=beg m m.B2) ⟨h.cpu,h.mem,h.disk,h.nic,h.bal,h.cnt⟩
 rw[rintr h]
 unfold Q1 Q2u
 simp only[Tree.m,letv]
 rw[show Q63 {B2:=m.B2,Mem:=m.Mem,A4:=m.A4,B0:=m.B0,B1:=m.B1,C4:=m.C4,A2:=m.A2,A1:=m.A1,A7:=false,A9:=m.A9}=Q33 m from e]
 revert l0 l1
 generalize Q33 m=l
 intro l0 l1
 unfold intr
 simp only[<-tr]
 cases iand .u32 m.B2.B5.a0 2==0
 . rcases cases32 l0 l1 with rfl|rfl|rfl|rfl|rfl|rfl|rfl|rfl|rfl|rfl|rfl|rfl|rfl|rfl|rfl|rfl|rfl|rfl|rfl|rfl|rfl|rfl|rfl|rfl|rfl|rfl|rfl|rfl|rfl|rfl|rfl|rfl<;>(show _=_;kernel_rfl)
 . rfl
theorem ports{p:Int}:p=0\/p=1\/p=2\/p=3\/p=4\/p=5\/p=6\/p=7\/p=8\/p=9\/p=10\/p=11\/p<0\/12<=p:=by omega
theorem xal{m:Q00}(hb:okB m.A2)(port clock:Int):Q1j m port clock=((Qdh m port clock).2,(Qdh m port clock).1):=by
 have e1:=Zpa m.A4
 have e2: ∀p,Qwv m.B1 p=Qjd m.B1 p:=λ_=>rfl
 have e3:=Znw m.C4
 have e4:=Znl hb
 have e5:Z16 m.B0=Qg4 m.B0:=rfl
 simp only[Q1j,Q4r,Qdh,Qlj,Tree.m,letv,e1,e2,e3,e4,e5]
 rcases ports (p:=port) with rfl|rfl|rfl|rfl|rfl|rfl|rfl|rfl|rfl|rfl|rfl|rfl|h|h
 all_goals first|rfl|skip
 . have n: ∀k:Int,0<=k->(port==k)=false:=λk hk=>beq_eq_false_iff_ne.2 (by omega)
   have c:Q5n m.A4 port=(m.A4,0):=by
     simp only[Q5n,Q3l,Tree.m,n 0 (by decide),n 1 (by decide),cond_false]
   simp only[n 0 (by decide),n 1 (by decide),n 2 (by decide),n 3 (by decide),n 4 (by decide),n 5 (by decide),n 6 (by decide),n 7 (by decide),n 8 (by decide),n 9 (by decide),n 10 (by decide),n 11 (by decide),cond_false,dY (show port<=1 by omega),cond_true,c]
 . have n: ∀k:Int,k<12->(port==k)=false:=λk hk=>beq_eq_false_iff_ne.2 (by omega)
   have c:Q5m m.A2 port=0:=by
     simp only[Q5m,Q6c,Tree.m,n 10 (by decide),n 11 (by decide),cond_false]
   simp only[n 0 (by decide),n 1 (by decide),n 2 (by decide),n 3 (by decide),n 4 (by decide),n 5 (by decide),n 6 (by decide),n 7 (by decide),n 8 (by decide),n 9 (by decide),n 10 (by decide),n 11 (by decide),cond_false,dN (show¬port<=1 by omega),dN (show¬port<=6 by omega),dN (show¬port<=9 by omega),c]
theorem zK{P:Nat}{m:Q00}(hm:Q15 P m.Mem)(hb:okB m.A2)(port:Int){v:Int}(hv:U v):Q2f m port v m.A1=((Qad m port v).2,(Qad m port v).1):=by
 have e1:=Zfi hm m.B1
 have e2:=Zkc hm m.C4
 have e3:=Zku hm hb port hv
 have e4:=vJ m.B0 v
 simp only[Q2f,Q3z,Qad,Qf1,Tree.m,letv,e1,e2,e3,e4]
 rcases ports (p:=port) with rfl|rfl|rfl|rfl|rfl|rfl|rfl|rfl|rfl|rfl|rfl|rfl|h|h
 all_goals first|rfl|skip
 . have n: ∀k:Int,0<=k->(port==k)=false:=λk hk=>beq_eq_false_iff_ne.2 (by omega)
   simp only[n 0 (by decide),n 1 (by decide),n 2 (by decide),n 3 (by decide),n 4 (by decide),n 5 (by decide),n 6 (by decide),n 7 (by decide),n 8 (by decide),n 9 (by decide),n 10 (by decide),n 11 (by decide),cond_false,dY (show port<=2 by omega),cond_true]
 . have n: ∀k:Int,k<12->(port==k)=false:=λk hk=>beq_eq_false_iff_ne.2 (by omega)
   have c:Q6q m.A2 m.Mem port v=(m.A2,m.Mem):=by
     simp only[Q6q,Q5,Tree.m,n 10 (by decide),n 11 (by decide),cond_false]
   simp only[n 0 (by decide),n 1 (by decide),n 2 (by decide),n 3 (by decide),n 4 (by decide),n 5 (by decide),n 6 (by decide),n 7 (by decide),n 8 (by decide),n 9 (by decide),n 10 (by decide),n 11 (by decide),cond_false,dN (show¬port<=2 by omega),dN (show¬port<=6 by omega),dN (show¬port<=9 by omega),c]
def tick(n:Q00)(c:Q05)(w h:Bool):Q00:={B2:=c,Mem:=n.Mem,A4:=n.A4,B0:=n.B0,B1:=n.B1,C4:=n.C4,A2:=n.A2,A1:=wrap .u64 (n.A1+1),A7:=w,A9:=h}
def withX(m:Q00)(c:Q05)(mem:List Int):Q00:={B2:=c,Mem:=mem,A4:=m.A4,B0:=m.B0,B1:=m.B1,C4:=m.C4,A2:=m.A2,A1:=m.A1,A7:=false,A9:=m.A9}
def finP(n:Q00)(e:Q16)(clock at0:Int):Q00×List Q04:=
 bif e.B6==1 then
   (bif e.D9 !=0 then(tick (Q1j n e.D1 clock).1 {X:=A16.of 0 (List.set (A16.l (Q1j n e.D1 clock).1.B2.X) e.D9.toNat (Q1j n e.D1 clock).2),Pc:=(Q1j n e.D1 clock).1.B2.Pc,B5:=(Q1j n e.D1 clock).1.B2.B5} (Q1j n e.D1 clock).1.A7 (Q1j n e.D1 clock).1.A9,[])
   else(tick (Q1j n e.D1 clock).1 (Q1j n e.D1 clock).1.B2 (Q1j n e.D1 clock).1.A7 (Q1j n e.D1 clock).1.A9,[]))
 else bif e.B6==2 then(tick (Q2f n e.D1 e.Value at0).1 (Q2f n e.D1 e.Value at0).1.B2 (Q2f n e.D1 e.Value at0).1.A7 (Q2f n e.D1 e.Value at0).1.A9,(Q2f n e.D1 e.Value at0).2)
 else bif e.B6==3 then(tick n n.B2 true n.A9,[]) else bif e.B6==4 then(tick n n.B2 n.A7 true,[]) else(tick n n.B2 n.A7 n.A9,[])
def finR(n:Q00)(e:Q16)(clock:Int):List Q04×Q00:=
 bif e.B6==1 then([],tick (Qdh n e.D1 clock).2 (Q1x (Qdh n e.D1 clock).2.B2 e.D9 (Qdh n e.D1 clock).1) (Qdh n e.D1 clock).2.A7 (Qdh n e.D1 clock).2.A9)
 else bif e.B6==2 then((Qad n e.D1 e.Value).1,tick (Qad n e.D1 e.Value).2 (Qad n e.D1 e.Value).2.B2 (Qad n e.D1 e.Value).2.A7 (Qad n e.D1 e.Value).2.A9)
 else bif e.B6==3 then([],tick n n.B2 true n.A9) else bif e.B6==4 then([],tick n n.B2 n.A7 true) else([],tick n n.B2 n.A7 n.A9)
theorem xY(m:Q00)(clock:Int):Q0o m clock=finR (withX m (Q7q (Q0n m) m.Mem).1 (Q7q (Q0n m) m.Mem).2.2) (Q7q (Q0n m) m.Mem).2.1 clock:=by kernel_rfl
theorem Zlr(m:Q00)(clock:Int):Q3m m clock=bif !Q2q m then(m,[]) else finP {B2:=(Q81 (Q1 m).B2 (Q1 m).Mem).1,Mem:=(Q81 (Q1 m).B2 (Q1 m).Mem).2.1,A4:=(Q1 m).A4,B0:=(Q1 m).B0,B1:=(Q1 m).B1,C4:=(Q1 m).C4,A2:=(Q1 m).A2,A1:=(Q1 m).A1,A7:=(Q1 m).A7,A9:=(Q1 m).A9} (Q81 (Q1 m).B2 (Q1 m).Mem).2.2 clock m.A1:=by kernel_rfl
theorem qam(m:List Int):Qtd m=m:=by
 simp [Qtd,Qf8,Tree.m]
theorem Z8e(m:Q00):Qmf m=m:=by
 simp only[Qmf,Qd5,Tree.m,letv,qam]
def Zf6(m:Q00)(clock:Int):Q00×List Q04:=bif Q0v m then(m,[]) else((Q0o m clock).2,(Q0o m clock).1)
def Qka(m:Q00)(e:Q0a):Tree (Q00×Bool):=
 .an (Qgc m) (.lv (Qmf m) λ(x0:Q00)=> .lv (Q6r x0) λ(x1:Bool)=> .br (!x1) (.lf (x0,false)) (.an (Qri x0 e) (.lv (Q0q x0 e) λ(x2:Bool×Q00)=> .lf (x2.2,x2.1))))
def Qlb(m:Q00)(e:Q0a):Q00×Bool:=(Qka m e).m
theorem Zcn(m:Q00)(clock:Int):Zf6 m clock=bif Q0v m then(m,[]) else((Q0o m clock).2,(Q0o m clock).1):=rfl
theorem yK{P:Nat}{n:Q00}(hm:Q15 P n.Mem)(hb:okB n.A2){e:Q16}(hr:0<=e.D9/\e.D9<16)(hv:U e.Value)(clock:Int):finP n e clock n.A1=((finR n e clock).2,(finR n e clock).1):=by
 unfold finP finR
 rw[xal hb e.D1 clock,zK hm hb e.D1 hv]
 cases e.B6==1
 . cases e.B6==2
   . cases e.B6==3
     . cases e.B6==4<;>rfl
     . rfl
   . rfl
 . generalize Qdh n e.D1 clock=r
   have s:=Z11 r.2.B2 hr r.1
   show(bif e.D9 !=0 then _ else _)=(tick r.2 (Q1x r.2.B2 e.D9 r.1) r.2.A7 r.2.A9,[])
   rw[<-s]
   simp only[Qbd,Qe5,Tree.m]
   cases e.D9 !=0<;>rfl
theorem Zdi{m:Q00}(h:okV m)(clock:Int):Q3m m clock=Zf6 m clock:=by
 rw[Zlr,Zcn,Qu5 h]
 cases hs:Q0v m
 . have hr:Q2q m=true:=by rw[Qu5 h,hs];rfl
   obtain⟨hm,hh,hct⟩:=Z10 hr
   obtain⟨g1,g2,g3,g4,g5⟩:=(Qna m).1 hm
   rcases(Qp9 m.Mem h.mem).2 with c|⟨P,hP,hmem⟩
   . exact absurd c g1
   have okm:okS P m:=⟨h.cpu,hmem,h.disk,h.nic,h.bal.1,h.bal.2⟩
   obtain⟨b1,b2,b3,_⟩:=(Tree.pp (Qv7 okm g2)).2
   change Q65 (Q1 m).B2 at b1
   change okS P (Q1 m) at b2
   change(Q1 m).Mem=m.Mem at b3
   have be:=Qxe h g2.st
   have b1':Q65 (Q0n m):=by have:=b1;rw[be]at this;exact this
   have b2':Q2g (Q0n m):=by have:=b2.cpu;rw[be]at this;exact this
   have ex:=Zh6 hmem b2' b1'.st
   have er:=(Tree.pp (Zlp b2' hmem)).2
   change 0<=(Q81 (Q0n m) m.Mem).2.2.D9/\(Q81 (Q0n m) m.Mem).2.2.D9<16 at er
   obtain⟨d1,d2,d3⟩:=(Tree.pp (do_w b2' hmem)).2
   change U (Q7q (Q0n m) m.Mem).2.1.Value at d2
   change Q15 P (Q7q (Q0n m) m.Mem).2.2 at d3
   rw[ex]at er
   rw[xY,be]
   show finP {B2:=(Q81 (Q0n m) m.Mem).1,Mem:=(Q81 (Q0n m) m.Mem).2.1,A4:=m.A4,B0:=m.B0,B1:=m.B1,C4:=m.C4,A2:=m.A2,A1:=m.A1,A7:=false,A9:=m.A9} (Q81 (Q0n m) m.Mem).2.2 clock m.A1=_
   rw[ex]
   exact yK (n:=withX m (Q7q (Q0n m) m.Mem).1 (Q7q (Q0n m) m.Mem).2.2) d3 h.bal er d2 clock
 . rfl
theorem Z98{m:Q00}(h:okV m)(e:Q0a):Q6u m e=Qlb m e:=by
 have hcl:Q03 m.Mem=m.Mem:=rfl
 have mm:=Zcu h
 have t1:Ql8 m.B0=Q70 m.B0:=rfl
 have t2: ∀b,Qp5 m.A4 b=Qlf m.A4 b:=λ_=>rfl
 simp only[Q6u,Q4b,Qlb,Qka,Q0q,Q4l,Tree.m,letv,Z8e,hcl,t1,t2]
 rw[show Q1f {B2:=m.B2,Mem:=m.Mem,A4:=m.A4,B0:=m.B0,B1:=m.B1,C4:=m.C4,A2:=m.A2,A1:=m.A1,A7:=m.A7,A9:=m.A9}=Q6r m from mm]
 cases hM:Q6r m
 . rfl
 have hM':Q1f m=true:=mm.trans hM
 rcases(Qp9 m.Mem h.mem).2 with c|⟨P,hP,hmem⟩
 . exact absurd c ((Qna m).1 hM').1
 have cs:=Zb8 hmem h.disk e
 have rs:=Zef hmem h.nic e.C8
 clear mm hM hM' hcl h
 obtain⟨c,mem,con,ti,d,n,b,ct,w,hl⟩:=m
 cases hl
 . by_cases k2:e.B6=2
   . rw[k2];cases e.N==0<;>cases decide (e.C8=[])<;>rfl
   by_cases k3:e.B6=3
   . rw[k3];cases decide (e.N<=255)<;>cases decide (e.C8=[])<;>rfl
   by_cases k4:e.B6=4
   . rw[k4,cs];rfl
   by_cases k5:e.B6=5
   . rw[k5,rs];cases e.N==0<;>rfl
   by_cases k6:e.B6=6
   . rw[k6];cases decide (e.C8=[])<;>rfl
   . rw[show(e.B6==2)=false by simpa using k2,show(e.B6==3)=false by simpa using k3,show(e.B6==4)=false by simpa using k4,show(e.B6==5)=false by simpa using k5,show(e.B6==6)=false by simpa using k6]
     rfl
 . rfl
theorem zam{l acts:List Int}{x0:Bool}(hx0:x0=Qul l acts)(hb:(!x0)=false):l.length<=40/\acts.length<=30:=by
 have hb:x0=true:=by simpa using hb
 rw[hb]at hx0
 simp only[Qul,Qwc,Tree.m]at hx0
 cases h1:decide ((l.length:Int)<=40)<;>rw[h1]at hx0
 . cases hx0
 . have:=oY hx0.symm
   have:=oY h1
   omega
section
variable {m:Q00} (h:okV m) (hl:m.Mem.length<=1024)
include h
theorem may_P(hm:Q1f m=true): ∃P,okS P m/\okM P m:=by
 rcases(Qp9 m.Mem h.mem).2 with c|⟨P,hP,hmem⟩
 . exact absurd c ((Qna m).1 hm).1
 . exact⟨P,⟨h.cpu,hmem,h.disk,h.nic,h.bal.1,h.bal.2⟩,⟨h.cpu,hmem,h.disk,h.nic,h.bal,h.cnt⟩⟩
include hl
theorem yj{clock:Int}(hk:U clock):Q6f m clock/\(Q3m m clock).2.length<=1/\(Q3m m clock).1.Mem.length<=1024:=by
 cases hr:Q2q m
 . have e:Q3m m clock=(m,[]):=by rw[Zlr,hr];rfl
   rw[e]
   refine⟨?_,Nat.zero_le _,hl⟩
   have hcl:Q03 m.Mem=m.Mem:=rfl
   show(Q39 m clock).p
   unfold Tree.p Q39
   refine w_an (by show m.Mem.length<=35184372088832;omega) (w_lv λl hl=> ?_)
   rw[hcl]at hl;subst hl
   refine w_an (Tree.pp (Ziu (m:=⟨_,_,_,_,_,_,m.A2,_,_,_⟩) h.bal.2)).1 (w_lv λx1 hx1=>w_br (λ_=>trivial) (λhb=> ?_))
   have:x1=false:=hx1.trans hr
   rw[this]at hb;cases hb
 . obtain⟨P,s,_⟩:=may_P h (Z10 hr).1
   have g:=Tree.pp (xg s h.cnt hk)
   have ml:=g.2.2.ok.mem.len
   have mp:=g.2.2.ok.mem.p2
   exact⟨g.1,g.2.1,by show(Q39 m clock).m.1.Mem.length<=1024;omega⟩
omit h hl in
theorem vK{P:Nat}(h:okM P m){e:Q0a}(he:U e.N):(Q4l m e).w (λx=>okM P x.2):=by
 have k:=h
 obtain⟨h1,h2,h3,h4,h5,h7⟩:=h
 unfold Q4l
 repeat'(first
   |exact k
   |exact⟨h1,h2,h3,h4,⟨he,h5.2⟩,h7⟩
   |exact w_lv λ_ _=>⟨h1,h2,h3,h4,h5,h7⟩
   |exact Q0e (y9 _ _) λ_ _=>⟨h1,h2,h3,h4,h5,h7⟩
   |exact Q0e (Zme h2 h3 _) λx hx=>⟨h1,hx.2,hx.1,h4,h5,h7⟩
   |exact Q0e (Zn4 h2 h4 _) λx hx=>⟨h1,hx.2,h3,hx.1,h5,h7⟩
   |refine w_br (λ_=> ?_) (λ_=> ?_))
theorem Zou{e:Q0a}(he:U e.N):Qas m e:=by
 cases hm:Q1f m
 . have hcl:Q03 m.Mem=m.Mem:=rfl
   show(Q4b m e).p
   unfold Tree.p Q4b
   refine w_an (by show m.Mem.length<=35184372088832;omega) (w_lv λl hl=> ?_)
   rw[hcl]at hl;subst hl
   refine w_an (Tree.pp (Zmt (m:=⟨_,_,_,_,_,_,m.A2,_,_,_⟩) h.bal.2)).1 (w_lv λx1 hx1=>w_br (λ_=>trivial) (λhb=> ?_))
   have:x1=false:=hx1.trans hm
   rw[this]at hb;cases hb
 . obtain⟨P,s,o⟩:=may_P h hm
   exact(Tree.pp (Zmn o he)).1
end
theorem xam(a:Q00)(ha:a.Mem.length<=1000000000000):(Qir a a).w (λb=>b=true):=by
 unfold Qir
 repeat'(first
   |refine w_br (λ_=> ?_) (λh=>absurd h (by simp [eqs,eq1];done))
   |exact w_an ha (w_lv λx hx=>by rw[hx];exact Z7i _ ha)
   |refine w_an ha (w_lv λx hx=>w_br (λ_=> ?_) (λh=>by rw[hx,Z7i _ ha]at h;cases h))
   |exact rfl)
 all_goals(show(_==_)=true;simp)
theorem vj(a:List Q04)(ha:a.length<=1000000000000):(Q4t a a).w (λb=>b=true):=by
 unfold Q4t
 refine w_br (λh=>by simp at h) (λ_=> ?_)
 refine w_lp (inv:=λv:Int=>0<=v/\v<=a.length) (μ:=Q64 a a) ⟨by omega,by omega⟩ (Nat.lt_succ_self _) λv ⟨h1,h2⟩=> ?_
 refine w_br (λhb=> ?_) (λ_=>rfl)
 have hb:=oY hb
 have e:i64.wrap (v+1)=v+1:=by rw[wrap_i64];omega
 refine w_cn (by simp [Nat.blt];omega) (w_cn (by simp [Nat.blt];omega) (w_br (λh=>by simp [eqs,eq1]at h) (λ_=>w_nx ?_)))
 show(_/\_)/\(_:Nat)<_
 exact⟨⟨by rw[e];omega,by rw[e];omega⟩,by show(a.length-i64.wrap (v+1)).toNat<(a.length-v).toNat;rw[e];omega⟩
def Tree.V{β:Type}(t:Tree β)(W:β->Prop):Prop:=W t.m
section
variable {α β:Type} {W:β->Prop} {c:Bool} {t e:Tree β}
theorem v_lf{x:β}(h:W x):Tree.V (.lf x) W:=h
theorem v_nx{f:Prop}{x:β}{hf:f}(h:W x):Tree.V (.nx f x hf) W:=h
theorem v_br(h:c=true->Tree.V t W)(g:c=false->Tree.V e W):Tree.V (.br c t e) W:=by
 cases c
 . exact g rfl
 . exact h rfl
theorem v_cn(g:Tree.V t W):Tree.V (.cn c t) W:=g
theorem v_an{p:Prop}(g:Tree.V t W):Tree.V (.an p t) W:=g
theorem v_lv{x:α}{k:α->Tree β}(h: ∀y,y=x->Tree.V (k y) W):Tree.V (.lv x k) W:=h x rfl
theorem v_lp{d:Inhabited β}{n:Nat}{f:Prop}{x:α}{k:α->Tree (α⊕β)}{hf:f}{inv:α->Prop}{μ:α->Nat}(h:inv x)(hn:μ x<n)(g: ∀y,inv y->Tree.V (k y) (Sum.elim (λz=>inv z/\μ z<μ y) W)):Tree.V (.lp d n f x k hf) W:=by
 refine qz (P:=inv) (R:=W) (μ:=μ) (λa ha=> ?_) n x h hn
 have:=g a ha
 unfold Tree.V at this
 revert this
 cases(k a).m with
 |inl z=>exact λh=>h
 |inr b=>exact λh=>h
end
def Z6l(r:Q01)(m:Q00):Q01:={A0:=m,A3:=r.A3,B4:=r.B4,A6:=r.A6}
theorem xaH(r:Q01)(port clock:Int):Qu9 r port clock=((Qdh r.A0 port clock).1,Z6l r (Qdh r.A0 port clock).2):=by
 simp only[Qu9,Qiu,Qdh,Qlj,Tree.m,letv]
 cases decide (port<=1)<;>cases port==2<;>cases port==3<;>cases decide (port<=6)<;>cases decide (port<=9)<;>rfl
theorem qan(r:Q01)(port v:Int):Qqg r port v=((Qad r.A0 port v).1,Z6l r (Qad r.A0 port v).2):=by
 simp only[Qqg,Qd1,Qad,Qf1,Tree.m,letv]
 cases port==0<;>cases decide (port<=2)<;>cases port==3<;>cases decide (port<=6)<;>cases decide (port<=9)<;>rfl
theorem qaI{r:Q01}{c:Bool}{x y:Bool×Q01}{x' y':Bool×Q00}(hx:x=(x'.1,Z6l r x'.2))(hy:y=(y'.1,Z6l r y'.2)):cond c x y=((cond c x' y').1,Z6l r (cond c x' y').2):=by cases c<;>assumption
theorem qk(r:Q01)(e:Q0a):Qkb r e=((Q0q r.A0 e).1,Z6l r (Q0q r.A0 e).2):=by
 simp only[Qkb,Q8t,Q0q,Q4l,Tree.m,letv]
 repeat'(first|rfl|refine qaI ?_ ?_)
theorem Zaa(r:Q01)(clock:Int):Q75 r clock=((Q0o r.A0 clock).1,Z6l r (Q0o r.A0 clock).2):=by
 simp only[Q75,Q6b,Q0o,Q91,Tree.m,letv,xaH,qan,Z6l]
 cases(Q7q (Q0n r.A0) r.A0.Mem).2.1.B6==1<;>cases(Q7q (Q0n r.A0) r.A0.Mem).2.1.B6==2<;>cases(Q7q (Q0n r.A0) r.A0.Mem).2.1.B6==3<;>cases(Q7q (Q0n r.A0) r.A0.Mem).2.1.B6==4<;>rfl
def Q21(r:Q01)(e:Q0a):Q01:=
 bif(Q0q r.A0 e).1 then{A0:=(Q0q r.A0 e).2,A3:=r.A3,B4:=r.B4++[{At:=(Q0q r.A0 e).2.A1,C5:=e}],A6:=r.A6} else Z6l r (Q0q r.A0 e).2
theorem Zli(r:Q01)(e:Q0a):Qim r e=Q21 r e:=by
 have a:Qhm r e=((Q0q r.A0 e).1,Z6l r (Q0q r.A0 e).2):=by
   simp only[Qhm,Q7m,Tree.m,letv,qk]
 simp only[Qim,Qab,Tree.m,letv,a,Q21]
 cases(Q0q r.A0 e).1<;>rfl
def Q4k(r:Q01):Q01:=bif Q8d r.A0.B0 r.A3 then Q21 r {B6:=2,N:=0,C8:=[]} else r
def Zac(r:Q01):Q01:=bif Q0h r.A0 then{A0:=r.A0,A3:=r.A3,B4:=r.B4++[{At:=r.A0.A1,C5:={B6:=1,N:=r.A3,C8:=[]}}],A6:=r.A6} else r
def Qk(r:Q01):Q01:={A0:=(Q0o r.A0 r.A3).2,A3:=wrap .u32 (r.A3+1),B4:=(Zac r).B4,A6:=r.A6}
def recF:Nat->Q01->List Q04->Q01×List Q04
 |0,r,o=>(r,o)
 |n+1,r,o=>bif Q0v (Q4k r).A0 then(Q4k r,o) else recF n (Qk (Q4k r)) (o++(Q0o (Q4k r).A0 (Q4k r).A3).1)
def noQ(r:Q01):Q01:={A0:=r.A0,A3:=r.A3,B4:=r.B4,A6:=[]}
def advF(r:Q01)(steps clock:Int):Q01×List Q04:=
 bif !Q6r r.A0 then(r,[]) else recF (Q0m steps).toNat (noQ (r.A6.foldl Q21 {A0:=r.A0,A3:=if clock>r.A3 then clock else r.A3,B4:=r.B4,A6:=r.A6})) []
theorem Qpf(r:Q01)(e:Q0a):(Q21 r e).A6=r.A6:=by
 unfold Q21;cases(Q0q r.A0 e).1<;>rfl
theorem Zn1(r:Q01):Qom r=r:=by
 simp only[Qom,Qf4,Tree.m,letv,Z8e]
theorem Qt8(r:Q01)(steps clock:Int)(hq:r.A6.length<=1000000):Qdu r steps clock=advF r steps clock:=by
  show Tree.V (Q5z r steps clock) (λx=>x=advF r steps clock)
  obtain⟨lim0,lim⟩:=Ql9 steps
  unfold Q5z
  refine v_an (v_lv λx0 e0=>v_lv λx1 e1=> ?_)
  rw[Zn1]at e0
  subst e0
  refine v_br (λhb=>v_lf ?_) λhb=> ?_
  . unfold advF;rw[<-e1,hb];rfl
  generalize hr0:({A0:=x0.A0,A3:=if clock>x0.A3 then clock else x0.A3,B4:=x0.B4,A6:=x0.A6}:Q01)=r0
  have hA:advF x0 steps clock=recF (Q0m steps).toNat (noQ (x0.A6.foldl Q21 r0)) []:=by
    unfold advF;rw[<-e1,hb,hr0];rfl
  have hQ:r0.A6=x0.A6:=by rw[<-hr0]
  refine v_lp (inv:=λz:Int×Q01=>0<=z.1/\z.1<=x0.A6.length/\z.2.A6=x0.A6/\(x0.A6.drop z.1.toNat).foldl Q21 z.2=x0.A6.foldl Q21 r0) (μ:=Qcr x0 steps clock) ⟨Int.le_refl 0,by show(0:Int)<=_;omega,hQ,rfl⟩ (Nat.lt_succ_self _) λz ⟨z0,z1,z2,z3⟩=> ?_
  refine v_br (λhb=> ?_) (λhb=> ?_)
  . have hb:=oY hb
    rw[z2]at hb
    refine v_cn (v_an (v_lv λx2 e2=>v_nx ?_))
    have ew:i64.wrap (z.1+1)=z.1+1:=by rw[wrap_i64];omega
    rw[Zli]at e2
    have q2:x2.A6=x0.A6:=by rw[e2,Qpf,z2]
    have hlt:z.1.toNat<x0.A6.length:=by omega
    have ed:z.2.A6.getD z.1.toNat (RK.dflt RK.apiEvent)=x0.A6[z.1.toNat]:=by rw[z2,List.getD_eq_getElem?_getD,List.getElem?_eq_getElem hlt];rfl
    show(0<=i64.wrap (z.1+1)/\i64.wrap (z.1+1)<=x0.A6.length/\x2.A6=x0.A6/\(x0.A6.drop (i64.wrap (z.1+1)).toNat).foldl Q21 x2=_)/\(x2.A6.length-i64.wrap (z.1+1)).toNat<(z.2.A6.length-z.1).toNat
    rw[ew,q2,z2]
    refine⟨⟨by omega,by omega,rfl,?_⟩,by omega⟩
    rw[<-z3,List.drop_eq_getElem_cons hlt,List.foldl_cons,show(z.1+1).toNat=z.1.toNat+1 by omega,e2,ed]
  . have hb:=oN hb
    rw[z2]at hb
    obtain⟨zi,zr⟩:=z
    have hb: ¬zi<x0.A6.length:=hb
    have ze:zr=x0.A6.foldl Q21 r0:=by
      rw[<-z3,List.drop_eq_nil_of_le (by show x0.A6.length<=zi.toNat;omega)];rfl
    rw[<-ze]at hA
    refine v_lp (inv:=λy:Int×Q01×List Q04=>0<=y.1/\y.1<=Q0m steps/\recF (Q0m steps-y.1).toNat y.2.1 y.2.2=advF x0 steps clock) (μ:=Q5u x0 steps clock (zi,zr)) ⟨Int.le_refl 0,by show(0:Int)<=_;omega,by rw[hA];show recF (Q0m steps-0).toNat _ _=_;rw[Int.sub_zero];rfl⟩ (Nat.lt_succ_self _) λy ⟨y0,y1,y2⟩=> ?_
    obtain⟨yi,yr,yo⟩:=y
    have mu: ∀q,yi<4000->Q5u x0 steps clock (zi,zr) (wrap .i64 (yi+1),q)<Q5u x0 steps clock (zi,zr) (yi,yr,yo):=λq h=>by
      show(4000-wrap .i64 (yi+1)).toNat<(4000-yi).toNat
      have y0:0<=yi:=y0
      rw[wrap_i64];omega
    have y0:0<=yi:=y0
    refine v_lv λx3 e3=>v_br (λhb=> ?_) (λhb=> ?_)
    . have hb:yi<x3:=oY hb
      rw[e3]at hb
      have mu:=λq=>mu q (by omega)
      have ew:i64.wrap (yi+1)=yi+1:=by rw[wrap_i64];omega
      have en:(Q0m steps-yi).toNat=(Q0m steps-(yi+1)).toNat+1:=by omega
      change recF (Q0m steps-yi).toNat yr yo=_ at y2
      rw[en]at y2
      refine v_lv λx4 e4=>v_br (λhd=>v_an (v_lv λx5 e5=> ?_)) (λhd=> ?_)
      . have e5:x5=Q4k yr:=by rw[e5,Zli];unfold Q4k;rw[<-e4,hd];rfl
        refine v_an (v_lv λx6 e6=>v_br (λhs=>v_lf ?_) λhs=>v_an (v_lv λx7 e7=>v_br (λhr=>v_cn (v_an (v_lv λx8 e8=>v_cn (v_nx ?_)))) λhr=>v_an (v_lv λx9 e9=>v_cn (v_nx ?_))))
        . show(_,yo)=_
          rw[<-y2];unfold recF
          rw[<-e5,<-e6,hs];rfl
        . rw[Zaa]at e8
          refine⟨⟨by show 0<=wrap .i64 (yi+1);rw[ew];omega,by show wrap .i64 (yi+1)<=_;rw[ew];omega,?_⟩,mu _⟩
          show recF (Q0m steps-wrap .i64 (yi+1)).toNat _ _=_
          rw[ew,<-y2,e8]
          conv=>rhs;unfold recF
          rw[<-e5,<-e6,hs]
          unfold Qk Zac
          rw[<-e7,hr];rfl
        . rw[Zaa]at e9
          refine⟨⟨by show 0<=wrap .i64 (yi+1);rw[ew];omega,by show wrap .i64 (yi+1)<=_;rw[ew];omega,?_⟩,mu _⟩
          show recF (Q0m steps-wrap .i64 (yi+1)).toNat _ _=_
          rw[ew,<-y2,e9]
          conv=>rhs;unfold recF
          rw[<-e5,<-e6,hs]
          unfold Qk Zac
          rw[<-e7,hr];rfl
      . have e5:yr=Q4k yr:=by
          have e4:x4=Q8d yr.A0.B0 yr.A3:=e4
          unfold Q4k;rw[<-e4,hd];rfl
        refine v_an (v_lv λx6 e6=>v_br (λhs=>v_lf ?_) λhs=>v_an (v_lv λx7 e7=>v_br (λhr=>v_cn (v_an (v_lv λx8 e8=>v_cn (v_nx ?_)))) λhr=>v_an (v_lv λx9 e9=>v_cn (v_nx ?_))))
        . show(_,yo)=_
          rw[<-y2];unfold recF
          rw[<-e5,<-e6,hs];rfl
        . rw[Zaa]at e8
          refine⟨⟨by show 0<=wrap .i64 (yi+1);rw[ew];omega,by show wrap .i64 (yi+1)<=_;rw[ew];omega,?_⟩,mu _⟩
          show recF (Q0m steps-wrap .i64 (yi+1)).toNat _ _=_
          rw[ew,<-y2,e8]
          conv=>rhs;unfold recF
          rw[<-e5,<-e6,hs]
          unfold Qk Zac
          rw[<-e7,hr];rfl
        . rw[Zaa]at e9
          refine⟨⟨by show 0<=wrap .i64 (yi+1);rw[ew];omega,by show wrap .i64 (yi+1)<=_;rw[ew];omega,?_⟩,mu _⟩
          show recF (Q0m steps-wrap .i64 (yi+1)).toNat _ _=_
          rw[ew,<-y2,e9]
          conv=>rhs;unfold recF
          rw[<-e5,<-e6,hs]
          unfold Qk Zac
          rw[<-e7,hr];rfl
    . have hb: ¬yi<x3:=oN hb
      rw[e3]at hb
      refine v_lf ?_
      show(yr,yo)=_
      change recF (Q0m steps-yi).toNat yr yo=_ at y2
      rw[<-y2,show(Q0m steps-yi).toNat=0 by omega];rfl
structure good(P:Nat)(m:Q00):Prop where
 ok:okM P m
 may:Q1f m=true
section
variable {P:Nat} {m:Q00} (h:good P m)
include h
theorem good.v:okV m:=⟨h.ok.cpu,h.ok.mem.u,h.ok.disk,h.ok.nic,h.ok.target,h.ok.cnt⟩
theorem good.s:okS P m:=⟨h.ok.cpu,h.ok.mem,h.ok.disk,h.ok.nic,h.ok.target.1,h.ok.target.2⟩
theorem good.rmay:Q6r m=true:=(Zcu h.v).symm.trans h.may
theorem Qn9{e:Q0a}(he:U e.N):good P (Q0q m e).2/\(Q0q m e).2.A1=m.A1:=by
 have o:okM P (Q0q m e).2:=Tree.post _ (vK h.ok he)
 have a:=(Tree.pp (Zmn h.ok he)).2
 change(Q1f m=true->Q1f (Q6u m e).1=true)/\(Q6u m e).1.A1=m.A1/\_ at a
 have e1:Qlb m e=((Q0q m e).2,(Q0q m e).1):=by
   simp only[Qlb,Qka,Tree.m,letv,Z8e,h.rmay];rfl
 rw[Z98 h.v e,e1]at a
 exact⟨⟨o,a.1 h.may⟩,a.2.1⟩
theorem Zec:Q0v m=false↔m.A9=false/\Qds m=false/\m.A1<1152921504606846976:=by
 simp only[Q0v,Q7y,Tree.m,letv,h.rmay]
 cases m.A9<;>cases Qds m<;>simp
theorem Qkq(hs:Q0v m=false){clock:Int}(hc:U clock):good P (Q0o m clock).2/\(Q0o m clock).2.A1=m.A1+1/\(Q0o m clock).1.length<=1:=by
 have o:=Tree.post _ (Z9h h.ok hc)
 change(Q0o m clock).1.length<=1/\okM P (Q0o m clock).2/\(Q0o m clock).2.A1=wrap .u64 (m.A1+1) at o
 have s:=(Tree.pp (xg h.s h.ok.cnt hc)).2
 change _/\Good P m (Q3m m clock).1 at s
 have e:Q3m m clock=((Q0o m clock).2,(Q0o m clock).1):=by rw[Zdi h.v,Zcn,hs];rfl
 rw[e]at s
 have hct:=((Zec h).1 hs).2.2
 have h0:=h.ok.cnt
 refine⟨⟨o.2.1,s.2.may h.may⟩,?_,o.1⟩
 rw[o.2.2,wrap_u64];omega
end
structure Q9a(P:Nat)(k:Int)(r:Q01):Prop where
 m:good P r.A0
 clock:U r.A3
 cnt:r.A0.A1<=k
theorem Qmo{P:Nat}{k:Int}{r:Q01}(h:Q9a P k r){e:Q0a}(he:U e.N):Q9a P k (Q21 r e)/\(Q21 r e).A0.A1=r.A0.A1:=by
 obtain⟨a,b⟩:=Qn9 h.m he
 have hc:=h.cnt
 unfold Q21
 cases(Q0q r.A0 e).1
 . exact⟨⟨a,h.clock,by show(Q0q r.A0 e).2.A1<=k;omega⟩,b⟩
 . exact⟨⟨a,h.clock,by show(Q0q r.A0 e).2.A1<=k;omega⟩,b⟩
theorem Qqn{P:Nat}{k:Int}{r:Q01}(h:Q9a P k r):Q9a P k (Q4k r)/\(Q4k r).A0.A1=r.A0.A1:=by
 unfold Q4k
 cases Q8d r.A0.B0 r.A3
 . exact⟨h,rfl⟩
 . exact Qmo h U_0
theorem Qq5{P:Nat}{k:Int}{r:Q01}(h:Q9a P k r)(hs:Q0v r.A0=false):Q9a P (k+1) (Qk r):=by
 obtain⟨a,b,_⟩:=Qkq h.m hs h.clock
 have hc:=h.cnt
 exact⟨a,Q0s _,by show(Q0o r.A0 r.A3).2.A1<=k+1;omega⟩
theorem Zdb{P:Nat}(n:Nat): ∀{k:Int} {r:Q01} {o:List Q04},Q9a P k r->Q9a P (k+n) (recF n r o).1:=by
 induction n with
 |zero=>intro k r o h;exact⟨h.m,h.clock,by have:=h.cnt;show r.A0.A1<=k+(0:Nat);omega⟩
 | succ n ih=>
   intro k r o h
   obtain⟨f,fc⟩:=Qqn h
   unfold recF
   cases hs:Q0v (Q4k r).A0
   . have t:=ih (o:=o++(Q0o (Q4k r).A0 (Q4k r).A3).1) (Qq5 f hs)
     exact⟨t.m,t.clock,by have:=t.cnt;show(recF n _ _).1.A0.A1<=_;omega⟩
   . exact⟨f.m,f.clock,by have:=f.cnt;show(Q4k r).A0.A1<=_;omega⟩
theorem Z87{P:Nat}{k:Int}(l:List Q0a): ∀{r:Q01},Q9a P k r->(∀q∈l,U q.N)->Q9a P k (l.foldl Q21 r)/\(l.foldl Q21 r).A6=r.A6:=by
 induction l with
 |nil=>intro r h _;exact⟨h,rfl⟩
 | cons e l ih=>
   intro r h hu
   obtain⟨a,b⟩:=ih (Qmo h (hu e (by simp))).1 (λq hq=>hu q (by simp [hq]))
   exact⟨a,b.trans (Qpf r e)⟩
theorem Z7j(n:Nat): ∀(r:Q01) (o:List Q04),(recF n r o).1.A6=r.A6:=by
 induction n with
 |zero=>intro r o;rfl
 | succ n ih=>
   intro r o
   have f:(Q4k r).A6=r.A6:=by
     unfold Q4k;cases Q8d r.A0.B0 r.A3
     . rfl
     . exact Qpf _ _
   unfold recF
   cases Q0v (Q4k r).A0
   . exact(ih _ _).trans f
   . exact f
def okQ(l:List Q0a):Prop:=l.length<=16/\ ∀q∈l,U q.N
theorem xk{P:Nat}{k:Int}{r:Q01}(h:Q9a P k r)(hq:okQ r.A6)(steps:Int){clock:Int}(hc:U clock):Q9a P (k+4000) (advF r steps clock).1/\okQ (advF r steps clock).1.A6:=by
 obtain⟨l0,l1⟩:=Ql9 steps
 unfold advF
 rw[h.m.rmay]
 have hcl:U (if clock>r.A3 then clock else r.A3):=by split<;>first|exact hc|exact h.clock
 obtain⟨a,b⟩:=Z87 r.A6 (r:={A0:=r.A0,A3:=if clock>r.A3 then clock else r.A3,B4:=r.B4,A6:=r.A6}) ⟨h.m,hcl,h.cnt⟩ hq.2
 have c:=Zdb (Q0m steps).toNat (o:=[]) (r:=noQ (r.A6.foldl Q21 {A0:=r.A0,A3:=if clock>r.A3 then clock else r.A3,B4:=r.B4,A6:=r.A6})) ⟨a.m,a.clock,a.cnt⟩
 refine⟨⟨c.m,c.clock,?_⟩,?_⟩
 . have:=c.cnt
   show(recF _ _ _).1.A0.A1<=_
   omega
 . show okQ (recF _ _ _).1.A6
   rw[Z7j];exact⟨Nat.zero_le _,λq hq=>by cases hq⟩
theorem zk(n:Int):U (Q4w n).N:=Tree.post _ (yx n)
theorem Qlu(r:Q01)(e:Q0a):Q2p r e=bif !Q1w e then(r,false) else bif e.B6==1 then(r,false) else bif decide ((r.A6.length:Int)>=16) then(r,false) else({A0:=r.A0,A3:=r.A3,B4:=r.B4,A6:=r.A6++[e]},true):=by
 simp only[Q2p,Q8r,Tree.m,letv,Zn1]
theorem Zke{P:Nat}{k:Int}{r:Q01}(h:Q9a P k r)(hq:okQ r.A6){e:Q0a}(he:U e.N):Q9a P k (Q2p r e).1/\okQ (Q2p r e).1.A6:=by
  rw[Qlu]
  cases Q1w e
  . exact⟨h,hq⟩
  . cases e.B6==1
    . cases hl:decide ((r.A6.length:Int)>=16)
      . have hl:=oN hl
        refine⟨⟨h.m,h.clock,h.cnt⟩,?_,λq hm=> ?_⟩
        . show(r.A6++[e]).length<=16
          rw[lA,List.length_singleton];omega
        . have hm:q∈r.A6++[e]:=hm
          rcases List.mem_append.1 hm with hm|hm
          . exact hq.2 q hm
          . rw[List.mem_singleton.1 hm];exact he
      . exact⟨h,hq⟩
    . exact⟨h,hq⟩
theorem Qte{r:Q01}{n:Int}(h:(Int.tmod (Q3f n 3) 3==0)=true):Q3s r n=((Q2p r (Q4w n)).1,[]):=by
 show Tree.V (Q88 r n) (λx=>x=((Q2p r (Q4w n)).1,[]))
 unfold Q88
 refine v_lv λx0 e0=>v_br (λ_=>v_an (v_lv λx1 e1=>v_an (v_lv λx2 e2=>v_lf ?_))) (λhb=> ?_)
 . rw[e2,e1]
 . rw[e0,h]at hb;cases hb
theorem Qu0{r:Q01}{n:Int}(h:(Int.tmod (Q3f n 3) 3==0)=false):Q3s r n=Qdu r (Q4n (ishr .i64 (Q3f n 3) 4) 12) (wrap .u32 (iand .i64 (ishr .i64 (Q3f n 3) 12) 255)):=by
 show Tree.V (Q88 r n) (λx=>x=Qdu r (Q4n (ishr .i64 (Q3f n 3) 4) 12) (wrap .u32 (iand .i64 (ishr .i64 (Q3f n 3) 12) 255)))
 unfold Q88
 refine v_lv λx0 e0=>v_br (λhb=> ?_) (λ_=>v_an (v_lv λx1 e1=>v_an (v_lv λx2 e2=>v_lf ?_)))
 . rw[e0,h]at hb;cases hb
 . rw[e2,e1,e0]
def Qo3(s:Q01×List Q04)(n:Int):Q01×List Q04:=((Q3s s.1 n).1,s.2++(Q3s s.1 n).2)
theorem zan(m:Q00)(l:List Int)(hl:l.length<=1000000):Z2y m l=l.foldl Qo3 (Q3x m,[]):=by
 show Tree.V (Qcj m l) (λx=>x=l.foldl Qo3 (Q3x m,[]))
 unfold Qcj
 refine v_an (v_lv λx0 e0=> ?_)
 subst e0
 refine v_lp (inv:=λz:Int×Q01×List Q04=>0<=z.1/\z.1<=l.length/\(l.drop z.1.toNat).foldl Qo3 z.2=l.foldl Qo3 (Q3x m,[])) (μ:=Qi9 m l) ⟨Int.le_refl 0,by show(0:Int)<=_;omega,rfl⟩ (Nat.lt_succ_self _) λz ⟨z0,z1,z2⟩=> ?_
 obtain⟨i,r,o⟩:=z
 have z0:0<=i:=z0
 have z1:i<=l.length:=z1
 refine v_br (λhb=>v_cn (v_an (v_lv λx1 e1=>v_cn (v_nx ?_)))) (λhb=>v_lf ?_)
 . have hb:i<l.length:=oY hb
   have ew:i64.wrap (i+1)=i+1:=by rw[wrap_i64];omega
   have hlt:i.toNat<l.length:=by omega
   show(0<=i64.wrap (i+1)/\i64.wrap (i+1)<=l.length/\(l.drop (i64.wrap (i+1)).toNat).foldl Qo3 (x1.1,o++x1.2)=_)/\(l.length-i64.wrap (i+1)).toNat<(l.length-i).toNat
   rw[ew]
   refine⟨⟨by omega,by omega,?_⟩,by omega⟩
   rw[<-z2]
   show _=(l.drop i.toNat).foldl Qo3 (r,o)
   rw[List.drop_eq_getElem_cons hlt,List.foldl_cons,show(i+1).toNat=i.toNat+1 by omega,e1]
   have ed:l.getD i.toNat 0=l[i.toNat]:=by rw[List.getD_eq_getElem?_getD,List.getElem?_eq_getElem hlt];rfl
   rw[show Qo3 (r,o) l[i.toNat]=((Q3s r l[i.toNat]).1,o++(Q3s r l[i.toNat]).2) from by unfold Qo3;rfl,<-ed]
 . have hb: ¬i<l.length:=oN hb
   show(r,o)=_
   rw[<-z2]
   show _=(l.drop i.toNat).foldl Qo3 (r,o)
   rw[List.drop_eq_nil_of_le (by omega)];rfl
theorem Zfo(s:Q01×List Q04)(n:Int):Qo3 s n=((Q3s s.1 n).1,s.2++(Q3s s.1 n).2):=by unfold Qo3;rfl
theorem yk(m:Q00):Q3x m={A0:=m,A3:=0,B4:=[],A6:=[]}:=by
 simp only[Q3x,Q4,Tree.m,letv,Z8e]
theorem Zms{i:List Int}(hu: ∀w∈i,U w)(hl:i.length<=256):good 8 (Q1y 8 4 i).1/\(Q1y 8 4 i).1.A1=0:=by
 obtain⟨a,b⟩:=(Tree.pp (new_w i hu hl)).2
 change okM 8 (Q1y 8 4 i).1 at a
 refine⟨⟨a,?_⟩,b⟩
 have e:(Q1y 8 4 i).2=true:=by
   have w:i64.wrap (8*32)=256:=by decide
   simp only[Q1y,Q8x,Tree.m,w,letv,dN (show¬((i.length:Int)>256) by omega)]
   rfl
 obtain⟨a1,a2,a3,a4,a5,a6⟩:=zaP 8 4 i e
 exact(xaP _ 8 4 a1 a2 a3 a4 a5 _ a6).1
theorem vk{m:Q00}(h:good 8 m)(hc:m.A1<=87):Tree.V (Q9b m [] 87) (λx=>x.2.2.2=0->good 8 x.1/\x.1.A1<=87):=by
 have z: ∀{k:Int} {p:Prop},k≠0->k=0->p:=λa b=>absurd b a
 unfold Q9b
 refine v_lv λx0 _=>v_br (λ_=>v_lf (z (by decide))) λ_=>v_br (λ_=>v_lf (z (by decide))) λ_=>v_br (λ_=>v_lf (z (by decide))) λ_=>v_an (v_lv λx1 _=>v_br (λ_=>v_lf (z (by decide))) λ_=>v_an (v_lv λx2 hx=> ?_))
 rw[Z8e]at hx
 refine v_lp (inv:=λv:Q00×List Q04=>good 8 v.1/\v.1.A1<=87) (μ:=Qh0 m [] 87) ⟨by rw[hx];exact h,by rw[hx];exact hc⟩ (Nat.lt_succ_self _) λv0 ⟨a1,a3⟩=> ?_
 have a2:=a1.ok.cnt
 refine v_br (λhb=>v_br (λhm=> ?_) (λ_=>v_lf λ_=>⟨a1,a3⟩)) (λ_=>v_lf λ_=>⟨a1,a3⟩)
 have hb:=oY hb
 have hm:=oY hm
 refine v_lp (inv:=λ_=>True) (μ:=Qh8 m [] 87 v0) trivial (Nat.lt_succ_self _) λv1 _=> ?_
 refine v_br (λ_=>v_lf λ_=>⟨a1,a3⟩) λhh=>v_an (v_lv λx3 h3=>v_br (λ_=>v_lf λ_=>⟨a1,a3⟩) λhi=>v_an (v_lv λx4 _=>v_br (λ_=>v_lf (z (by decide))) λ_=>v_an (v_lv λx5 h5=>v_cn (v_nx ?_))))
 obtain⟨b1,b2,_⟩:=Qkq a1 ((Zec a1).2 ⟨hh,h3.symm.trans hi,hm⟩) (clock:=0) U_0
 rw[<-h5]at b1 b2
 show(good 8 x5.2/\x5.2.A1<=87)/\(87-x5.2.A1).toNat<(87-v0.1.A1).toNat
 exact⟨⟨b1,by omega⟩,by omega⟩
theorem Zhg(kind:Int)(l:List Int)(hl:l.length*8<=reachBytes)(h40:l.length<=40):good 8 (Qk5 kind l)/\(Qk5 kind l).A1<=87:=by
  show Tree.V (Q72 kind l) (λm=>good 8 m/\m.A1<=87)
  have code:=(Tree.pp (qd l hl)).2
  change((Qph l).length:Int)=l.length/\ ∀w∈Qph l,U w at code
  obtain⟨b1,b2⟩:=code
  unfold Q72
  refine v_an (v_lv λx0 hx0=>v_br (λ_=>v_an (v_lv λx1 e1=> ?_)) (λhk=> ?_))
  . have eb:x1.1=boot:=by rw[e1];rfl
    obtain⟨q1,q2⟩:boot.length<=160/\ ∀w∈boot,U w:=qe
    refine v_lp (inv:=λv:List Int=>v.length<=160/\v=boot++List.replicate (v.length-boot.length) 0) (μ:=Qee kind l) ⟨by rw[eb];exact q1,by rw[eb];simp⟩ (Nat.lt_succ_self _) λv0 ⟨a1,a2⟩=> ?_
    have a3:boot.length<=v0.length:=by rw[a2,lA];omega
    refine v_br (λhb=> ?_) (λhb=> ?_)
    . have hb:=oY hb
      refine v_cn (v_nx ?_)
      show(_/\_)/\(_:Nat)<_
      refine⟨⟨by rw[lA,List.length_singleton];omega,?_⟩,by show 160-(v0++[0]).length<160-v0.length;rw[lA,List.length_singleton];omega⟩
      show v0++[0]=boot++List.replicate ((v0++[0]).length-boot.length) 0
      rw[lA,List.length_singleton,show v0.length+1-boot.length=(v0.length-boot.length)+1 by omega,List.replicate_succ',<-List.append_assoc,<-a2]
    . have hb:=oN hb
      have hv:v0=Ql5:=by
        unfold Ql5
        rw[show(160:Nat)=v0.length by omega]
        exact a2
      subst hv
      have hp:=xaf
      have hu0: ∀w∈Ql5,U w:=λw hw=>(List.mem_append.1 hw).elim (q2 w) (U_all _ w)
      refine v_an (v_lv λx2 e2=>v_cn ?_)
      rw[<-e2]at b1 b2
      have hu: ∀w∈Ql5++x2,U w:=λw hw=>(List.mem_append.1 hw).elim (hu0 w) (b2 w)
      have hlen:(Ql5++x2).length<=256:=by rw[lA];omega
      refine v_br (λhb=> ?_) (λhb=> ?_)
      . have hb:=oY hb;omega
      . obtain⟨c1,c2⟩:=Zms hu hlen
        refine v_an (v_lv λx3 h3=> ?_)
        rw[<-h3]at c1 c2
        have rn:=vk c1 (by omega)
        refine v_br (λ_=>v_an (v_lv λx4 hx=>v_lf ?_)) (λ_=>v_lf ⟨c1,by omega⟩)
        have e:x3=Q1y 8 4 (Ql5++(x2++List.replicate (96-x2.length) 0)):=by
          rw[h3]
          have hl2:(x2++List.replicate (96-x2.length) (0:Int)).length=96:=by rw[lA,List.length_replicate];omega
          refine zaf _ _ hlen (by rw[lA,hl2];omega) ?_
          rw[lA,lA,hl2,hp,List.append_assoc,List.append_assoc,List.append_assoc,show 256-(160+96)=0 by omega,show 256-(160+x2.length)=96-x2.length by omega]
          simp
        have h0:x4.2.2.2=0:=by
          rw[hx,e]
          exact qaD _ (by rw[lA,List.length_replicate];omega)
        exact(by rw[hx];exact rn:x4.2.2.2=0->good 8 x4.1/\x4.1.A1<=87) h0
  . have hk:=oN hk
    refine v_an (v_lv λx2 e2=>v_cn ?_)
    rw[<-e2]at b1 b2
    refine v_br (λhb=> ?_) (λhb=> ?_)
    . have hb:=oY hb;omega
    . obtain⟨c1,c2⟩:=Zms b2 (by omega)
      refine v_an (v_lv λx3 h3=> ?_)
      rw[<-h3]at c1 c2
      exact v_br (λh=>absurd (eq_of_beq h) (by omega)) (λ_=>v_lf ⟨c1,by omega⟩)
theorem Zpn(w:Int):wrap .i64 (Q20 w).1.Imm=(Q20 w).1.Imm:=by
 show Tree.V (Q6o w) (λr=>wrap .i64 r.1.Imm=r.1.Imm)
 have e: ∀x,wrap .i64 (wrap .i32 x)=wrap .i32 x:=λx=>by rw[wrap_i64,wrap_i32];omega
 unfold Q6o
 refine v_lv λx0 _=> ?_
 have l: ∀i:Q0l,wrap .i64 i.Imm=i.Imm->Tree.V (Tree.lv (Q7w i) λx=> .br (!x) (.lf ((⟨0,0,0,0,0⟩:Q0l),false)) (.lf (i,true))) (λr=>wrap .i64 r.1.Imm=r.1.Imm):=λi hi=>v_lv λx hx=>v_br (λ_=>v_lf rfl) (λhb=>v_lf hi)
 exact v_br (λ_=>v_lf rfl) (λ_=>v_br (λ_=>l _ rfl) (λ_=>v_br (λ_=>l _ (e _)) (λ_=>v_br (λ_=>l _ (e _)) (λ_=>l _ (e _)))))
def ioP(e:Q16):Bool:=bif e.B6==1 then e.D1==2 else false
def readsC(c:Q05)(m:List Int):Bool:=
 bif iand .u32 c.B5.a0 1==0 then false else bif(Q1e m c.Pc 4).2 then bif(Q20 (Q1e m c.Pc 4).1).2 then bif(Q20 (Q1e m c.Pc 4).1).1.Op==60 then(Q20 (Q1e m c.Pc 4).1).1.Imm==2 else false else false else false
theorem Zhx(m:Q00):Qfb m=readsC (Q0n m) m.Mem:=rfl
theorem zaI(c:Q05)(i:Q0l):ioP (Qj8 c i).2=(bif i.Op==60 then wrap .i64 i.Imm==2 else false):=by
 show Tree.V (Q8e c i) (λr=>ioP r.2=_)
 have no: ∀{k:Int},i.Op=k->k≠60-> ∀e:Q16,e.B6≠1->ioP e=(bif i.Op==60 then wrap .i64 i.Imm==2 else false):=λh g e he=>by
   unfold ioP
   rw[h,show(_==(60:Int))=false from beq_false_of_ne g,show(e.B6==1)=false from beq_false_of_ne he];rfl
 have eq: ∀{k:Int},(i.Op==k)=true->i.Op=k:=λh=>eq_of_beq h
 unfold Q8e
 refine v_br (λh=>v_lv λ_ _=>v_lf (no (eq h) (by decide) _ (show(0:Int)≠1 by decide))) λ_=>v_br (λh=>v_lv λ_ _=>v_lf (no (eq h) (by decide) _ (show(0:Int)≠1 by decide))) λ_=>v_br (λh=>v_cn (v_an (v_lv λ_ _=>v_lf (no (eq h) (by decide) _ (show(0:Int)≠1 by decide))))) λ_=>v_br (λh=>v_cn (v_an (v_lv λ_ _=>v_lf (no (eq h) (by decide) _ (show(0:Int)≠1 by decide))))) λ_=>v_br (λh=>v_lf ?_) λh60=> ?_
 . show(bif(1:Int)==1 then wrap .i64 i.Imm==2 else false)=_
   rw[h];rfl
 . have n60:i.Op≠60:=λe=>by rw[e]at h60;cases h60
   refine v_br (λh=>v_cn (v_lf (no (eq h) (by decide) _ (by show(2:Int)≠1;decide)))) λ_=>v_br (λh=>v_lf (no (eq h) (by decide) _ (show(3:Int)≠1 by decide))) λ_=>v_br (λh=>v_lf (no (eq h) (by decide) _ (show(5:Int)≠1 by decide))) λ_=>v_br (λh=>v_lf (no (eq h) (by decide) _ (show(4:Int)≠1 by decide))) λ_=>v_lf (no rfl n60 _ (show(0:Int)≠1 by decide))
theorem ql(c:Q05)(m:List Int)(i:Q0l):ioP (Qk0 c m i).2.1=(bif i.Op==60 then wrap .i64 i.Imm==2 else false):=by
 unfold Qk0
 cases h:decide (i.Op>=56)
 . have h:=oN h
   rw[show(i.Op==60)=false from beq_false_of_ne (by omega)]
   cases decide (i.Op>=40)<;>cases decide (i.Op>=32)<;>cases i.Op==24<;>cases decide (i.Op<=13)<;>rfl
 . exact zaI c i
theorem Zl8{P:Nat}{m:List Int}(h:Q15 P m){c:Q05}(hc:Q2g c)(hst:c.B5.a0<=31):ioP (Q7q c m).2.1=readsC c m:=by
  rw[do_eq]
  unfold readsC
  cases hk:iand .u32 c.B5.a0 1==0
  . have hp:Qm4 c=false:=by
      rw[Z8z hc.a0.1 hst,show Qag c=true from by show(iand .u32 c.B5.a0 1 !=0)=true;rw[bne,hk];rfl]
      rfl
    have wi:=Qi3 h hc.pc (size:=4) (.inr rfl)
    have kn:Qes 1=true:=rfl
    have p0:=hc.pc.1
    have tm:Int.tmod c.Pc (wrap .u32 4)=c.Pc%4:=by
      rw[show wrap .u32 4=4 from rfl,Int.tmod_eq_emod_of_nonneg p0]
    have rc:Q17 c m c.Pc 4 1=bif c.Pc%4 !=0 then(0,3,m) else bif !Q24 m c.Pc 4 then(0,Q22 1,m) else(c.Pc,0,m):=by
      simp only[Q17,Q7z,Tree.m,letv,kn,hp,tm]
      rfl
    rw[rc]
    cases h4:(c.Pc%4 !=0)
    . cases hw:Q24 m c.Pc 4
      . have l2:(Q1e m c.Pc 4).2=false:=by
          simp only[Q1e,Q3t,Tree.m,letv,hw];rfl
        rw[l2]
        show ioP (doR c (0,Q22 1,m) _ _).2.1=false
        unfold doR
        rw[show((0,Q22 1,m):Int×Int×List Int).2.1=Q22 1 from rfl,show(Q22 1 !=0)=true by decide]
        rfl
      . have l2:(Q1e m c.Pc 4).2=true:=by
          simp only[Q1e,Q3t,Tree.m,letv,hw];rfl
        rw[l2]
        show ioP (doR c (c.Pc,0,m) (Q1e m c.Pc 4).1 (Q20 (Q1e m c.Pc 4).1)).2.1=_
        have im:=Zpn (Q1e m c.Pc 4).1
        generalize Q1e m c.Pc 4=x at*
        generalize Q20 x.1=d at*
        unfold doR
        cases d.2
        . rfl
        . rw[hk]
          have:=ql c m d.1
          rw[im]at this
          cases Q3g d.1.Op<;>exact this
    . have hw:Q24 m c.Pc 4=false:=by
        rw[wi]
        refine dN λe=> ?_
        rw[e.1]at h4;cases h4
      have l2:(Q1e m c.Pc 4).2=false:=by
        simp only[Q1e,Q3t,Tree.m,letv,hw];rfl
      rw[l2];rfl
  . have us : ∀x w d,ioP (doR c x w d).2.1=false:=λx w d=>by
      unfold doR
      cases x.2.1 !=0
      . cases d.2
        . rfl
        . cases hp:Q3g d.1.Op
          . have:=ql c x.2.2 d.1
            rw[show(d.1.Op==60)=false from beq_false_of_ne λe=>by rw[e]at hp;cases hp]at this
            exact this
          . rw[hk];rfl
      . rfl
    exact us _ _ _
theorem Zor{m:Q00}(h:okV m):Q3c m=Q0h m:=by
 have rd:Q0h m=bif Q0v m then false else Qfb m:=rfl
 have pd:Q3c m=bif !Q2q m then false else ioP (Q81 (Q1 m).B2 (Q1 m).Mem).2.2:=rfl
 rw[rd,pd,Qu5 h]
 cases hs:Q0v m
 . have hr:Q2q m=true:=by rw[Qu5 h,hs];rfl
   obtain⟨hm,hh,hct⟩:=Z10 hr
   obtain⟨g1,g2,g3,g4,g5⟩:=(Qna m).1 hm
   rcases(Qp9 m.Mem h.mem).2 with c|⟨P,hP,hmem⟩
   . exact absurd c g1
   have okm:okS P m:=⟨h.cpu,hmem,h.disk,h.nic,h.bal.1,h.bal.2⟩
   obtain⟨b1,b2,b3,_⟩:=(Tree.pp (Qv7 okm g2)).2
   change Q65 (Q1 m).B2 at b1
   change okS P (Q1 m) at b2
   have be:=Qxe h g2.st
   have b1':Q65 (Q0n m):=by have:=b1;rw[be]at this;exact this
   have b2':Q2g (Q0n m):=by have:=b2.cpu;rw[be]at this;exact this
   have ex:=Zh6 hmem b2' b1'.st
   rw[be,Zhx,<-Zl8 hmem b2' b1'.st]
   show ioP (Q81 (Q0n m) m.Mem).2.2=_
   rw[ex];rfl
 . rfl
theorem xaI(d:Q0f)(m:List Int)(e:Q0a):(Q8b d m e).2.1=false->Q8b d m e=(d,false,m):=by
 show Tree.V (Q6h d m e) (λr=>r.2.1=false->r=(d,false,m))
 have no: ∀{p:Prop},true=false->p:=λh=>by cases h
 unfold Q6h
 repeat'(first
   |exact v_lf λ_=>rfl
   |exact v_lf no
   |exact v_an (v_lv λ_ _=>v_lf no)
   |refine v_lv λ_ _=> ?_
   |refine v_an ?_
   |refine v_br (λ_=> ?_) (λ_=> ?_))
theorem qaJ(n:Q0r)(m:List Int)(s:List UInt8):(Q8h n m s).2.1=false->Q8h n m s=(n,false,m):=by
 show Tree.V (Q7 n m s) (λr=>r.2.1=false->r=(n,false,m))
 have no: ∀{p:Prop},true=false->p:=λh=>by cases h
 unfold Q7
 repeat'(first
   |exact v_lf λ_=>rfl
   |exact v_an (v_lv λ_ _=>v_lf no)
   |refine v_lv λ_ _=> ?_
   |refine v_br (λ_=> ?_) (λ_=> ?_))
theorem xan(t:Q0i):(Q70 t).2=false->(Q70 t).1=t:=by
 show Tree.V (Qa5 t) (λr=>r.2=false->r.1=t)
 have no: ∀{p:Prop},true=false->p:=λh=>by cases h
 unfold Qa5
 repeat'(first
   |exact v_lf λ_=>rfl
   |exact v_lf no
   |refine v_br (λ_=> ?_) (λ_=> ?_))
theorem qao(c:Q0c)(b:Int):(Qlf c b).2=false->(Qlf c b).1=c:=by
 show Tree.V (Qc8 c b) (λr=>r.2=false->r.1=c)
 have no: ∀{p:Prop},true=false->p:=λh=>by cases h
 unfold Qc8
 exact v_br (λ_=>v_lf λ_=>rfl) (λ_=>v_cn (v_lf no))
theorem zaJ(m:Q00)(e:Q0a):(Q0q m e).1=false->(Q0q m e).2=m:=by
 show Tree.V (Q4l m e) (λr=>r.1=false->r.2=m)
 have no: ∀{p:Prop},true=false->p:=λh=>by cases h
 unfold Q4l
 repeat'(first
   |exact v_lf λ_=>rfl
   |exact v_lf no
   |exact v_lv λx hx=>v_lf λh=>by rw[hx]at h⊢;rw[xan _ h]
   |exact v_an (v_lv λx hx=>v_lf λh=>by rw[hx]at h⊢;rw[xaI _ _ _ h])
   |exact v_an (v_lv λx hx=>v_lf λh=>by rw[hx]at h⊢;rw[qaJ _ _ _ h])
   |exact v_an (v_lv λx hx=>v_lf λh=>by rw[hx]at h⊢;rw[qao _ _ h])
   |refine v_br (λ_=> ?_) (λ_=> ?_))
theorem zao{m:Q00}(h:U m.A2.C2):Q8k m:=by
 show(Q38 m).p
 unfold Tree.p Q38
 refine w_br (λ_=>w_an ?_ (w_lv λ_ _=>trivial)) (λ_=>trivial)
 show(Q32 m).p
 unfold Tree.p Q32
 exact Q0e (Zm7 h) λ_ _=>trivial
theorem qL{P:Nat}{m:Q00}(h:okS P m):(Q2j m).w (λ_=>True):=by
 unfold Q2j
 exact Q0e (Ziu h.given) λ_ _=>w_br (λ_=>trivial) (λ_=>Q0e (qU h) λx1 h1=>Q0e (zw h1.cpu h1.mem) λx2 _=>w_br (λ_=>trivial) (λ_=>trivial))
theorem Zoa{e:Q0a}(h:U e.N):Qfs e=Q1w e:=by
 obtain⟨h0,h1⟩:=h
 have d: ∀b:Bool,(bif e.N==1 then(bif decide (e.C8=[]) then true else b) else(bif e.N==0 then decide (e.C8=[]) else false))=(bif decide (e.N<=1) then(bif decide (e.C8=[]) then true else(bif e.N==1 then b else false)) else false):=λb=>by
   rcases(by omega:e.N=0\/e.N=1\/2<=e.N) with k|k|k
   . rw[k];cases decide (e.C8=[])<;>rfl
   . rw[k];cases decide (e.C8=[])<;>rfl
   . rw[show(e.N==1)=false from beq_false_of_ne (by omega),show(e.N==0)=false from beq_false_of_ne (by omega),dN (show¬e.N<=1 by omega)];rfl
 simp only[Qfs,Qgx,Q1w,Qn4,Tree.m,d]
section
variable {P:Nat} {m:Q00} (h:good P m)
include h
theorem good.len:m.Mem.length<=1024:=by have:=h.ok.mem.len;have:=h.ok.mem.p2;omega
theorem good.app(e:Q0a):Q6u m e=((Q0q m e).2,(Q0q m e).1):=by
 rw[Z98 h.v]
 simp only[Qlb,Qka,Tree.m,letv,Z8e,h.rmay];rfl
theorem good.step(hs:Q0v m=false)(clock:Int):Q3m m clock=((Q0o m clock).2,(Q0o m clock).1):=by
 rw[Zdi h.v,Zcn,hs];rfl
theorem good.idle:Q4a m=Qds m:=Zf7 h.v
end
theorem Qqe(r:Q01)(e:Q0a):(Q21 r e).B4.length<=r.B4.length+1:=by
 unfold Q21
 cases(Q0q r.A0 e).1
 . exact Nat.le_succ _
 . show(r.B4++[_]).length<=_
   rw[lA,List.length_singleton];omega
theorem xl(r:Q01):(Q4k r).B4.length<=r.B4.length+1:=by
 unfold Q4k
 cases Q8d r.A0.B0 r.A3
 . exact Nat.le_succ _
 . exact Qqe _ _
theorem zl(r:Q01):(Zac r).B4.length<=r.B4.length+1:=by
 unfold Zac
 cases Q0h r.A0
 . exact Nat.le_succ _
 . show(r.B4++[_]).length<=_
   rw[lA,List.length_singleton];omega
theorem Zo{P:Nat}{m:Q00}(h:good P m):Q0v m=bif m.A9 then true else bif Q4a m then true else m.A1==1152921504606846976:=by
 have hc:=((Qna m).1 h.may).2.2.1
 have e:decide (m.A1>=1152921504606846976)=(m.A1==1152921504606846976):=by
   by_cases g:m.A1=1152921504606846976
   . rw[g];rfl
   . rw[show(m.A1==1152921504606846976)=false from beq_false_of_ne g,dN (by omega)]
 rw[h.idle,<-e]
 simp only[Q0v,Q7y,Tree.m,letv,h.rmay];rfl
theorem Z5h{r:Q01}(hr:Q0h r.A0=true):Qk r={A0:=(Q0o r.A0 r.A3).2,A3:=wrap .u32 (r.A3+1),B4:=r.B4++[{At:=r.A0.A1,C5:={B6:=1,N:=r.A3,C8:=[]}}],A6:=r.A6}:=by
 unfold Qk Zac;rw[hr];rfl
theorem Zk6{r:Q01}(hr:Q0h r.A0=false):Qk r={A0:=(Q0o r.A0 r.A3).2,A3:=wrap .u32 (r.A3+1),B4:=r.B4,A6:=r.A6}:=by
 unfold Qk Zac;rw[hr];rfl
theorem Zeh(r:Q01):(Qk r).B4.length<=r.B4.length+1:=zl r
def Qrd:Q0a:={B6:=2,N:=0,C8:=[]}
theorem Zim(m:Q00):Q0q m Qrd=bif m.A9 then(false,m) else((Q70 m.B0).2,{B2:=m.B2,Mem:=m.Mem,A4:=m.A4,B0:=(Q70 m.B0).1,B1:=m.B1,C4:=m.C4,A2:=m.A2,A1:=m.A1,A7:=m.A7,A9:=m.A9}):=rfl
theorem yl(t:Q0i):(Q70 t).2=true->(Q70 t).1.D2=false:=by
 show Tree.V (Qa5 t) (λr=>r.2=true->r.1.D2=false)
 unfold Qa5
 exact v_br (λ_=>v_lf λh=>by cases h) (λ_=>v_lf λ_=>rfl)
theorem vl{t:Q0i}{c:Int}(h:t.D2=false):Q8d t c=false:=by
 simp only[Q8d,Qwn,Tree.m,h];rfl
theorem Z5c{r:Q01}{e:Q0a}(h:(Q0q r.A0 e).1=false):Q21 r e=r:=by
 unfold Q21;rw[h,zaJ _ _ h];rfl
theorem Qps(r:Q01):Q4k r=bif Q8d r.A0.B0 r.A3 then Q21 r Qrd else r:=rfl
theorem qm{r:Q01}(h:Q8d r.A0.B0 r.A3=false):Q4k r=r:=by rw[Qps,h];rfl
theorem Zfy(r:Q01)(o:List Q04):recF 0 r o=(r,o):=rfl
theorem Qx4{n:Nat}{r:Q01}{o:List Q04}(hs:Q0v (Q4k r).A0=true):recF (n+1) r o=(Q4k r,o):=by
 conv=>lhs;unfold recF
 rw[hs];rfl
theorem Qxu{n:Nat}{r:Q01}{o:List Q04}(hs:Q0v (Q4k r).A0=false):recF (n+1) r o=recF n (Qk (Q4k r)) (o++(Q0o (Q4k r).A0 (Q4k r).A3).1):=by
 conv=>lhs;unfold recF
 rw[hs];rfl
theorem xL(n:Nat): ∀(r:Q01) (o:List Q04),recF n r o=((recF n r []).1,o++(recF n r []).2):=by
 induction n with
 |zero=>intro r o;rw[Zfy,Zfy,List.append_nil]
 | succ n ih=>
   intro r o
   cases hs:Q0v (Q4k r).A0
   . rw[Qxu hs,Qxu hs,ih,ih (Qk (Q4k r)) ([]++_),List.nil_append,List.append_assoc]
   . rw[Qx4 hs,Qx4 hs,List.append_nil]
theorem Z20{r:Q01}(h:Q6r r.A0=true)(steps clock:Int):advF r steps clock=recF (Q0m steps).toNat (noQ (r.A6.foldl Q21 {A0:=r.A0,A3:=if clock>r.A3 then clock else r.A3,B4:=r.B4,A6:=r.A6})) []:=by
 unfold advF;rw[h];rfl
theorem Qi{s:Int}(h0:0<=s)(h1:s<=4000):Q0m s=s:=by
 have:Q0m s=(if 4000<(if 0>s then 0 else s) then 4000 else(if 0>s then 0 else s)):=rfl
 rw[this,if_neg (show¬0>s by omega),if_neg (show¬4000<s by omega)]
theorem Zg(a:List Q0g)(ha:a.length<=1000000000000):(Q6n a a).w (λb=>b=true):=by
 unfold Q6n
 refine w_br (λh=>by simp at h) (λ_=> ?_)
 refine w_lp (inv:=λv:Int=>0<=v/\v<=a.length) (μ:=Qem a a) ⟨by omega,by omega⟩ (Nat.lt_succ_self _) λv ⟨h1,h2⟩=> ?_
 refine w_br (λhb=> ?_) (λ_=>rfl)
 have hb:=oY hb
 have e:i64.wrap (v+1)=v+1:=by rw[wrap_i64];omega
 refine w_cn (by simp [Nat.blt];omega) (w_cn (by simp [Nat.blt];omega) (w_br (λh=>by simp [eqs,eq1]at h) (λ_=>w_nx ?_)))
 show(_/\_)/\(_:Nat)<_
 exact⟨⟨by rw[e];omega,by rw[e];omega⟩,by show(a.length-i64.wrap (v+1)).toNat<(a.length-v).toNat;rw[e];omega⟩
structure Qus(P:Nat)(k:Int)(r:Q01):Prop where
 g:Q9a P k r
 q:okQ r.A6
 l:(r.B4.length:Int)<=3*k
theorem zL(n:Nat): ∀(r:Q01) (o:List Q04),(recF n r o).1.B4.length<=r.B4.length+2*n:=by
 induction n with
 |zero=>intro r o;exact Nat.le_refl _
 | succ n ih=>
   intro r o
   have f:=xl r
   cases hs:Q0v (Q4k r).A0
   . rw[Qxu hs]
     have:=ih (Qk (Q4k r)) (o++(Q0o (Q4k r).A0 (Q4k r).A3).1)
     have:=Zeh (Q4k r)
     omega
   . rw[Qx4 hs]
     show(Q4k r).B4.length<=_
     omega
theorem xm(l:List Q0a): ∀r:Q01,(l.foldl Q21 r).B4.length<=r.B4.length+l.length:=by
 induction l with
 |nil=>intro r;exact Nat.le_refl _
 | cons e l ih=>
   intro r
   have:=ih (Q21 r e)
   have:=Qqe r e
   rw[List.foldl_cons,List.length_cons];omega
theorem yL(r:Q01)(steps clock:Int):(advF r steps clock).1.B4.length<=r.B4.length+r.A6.length+8000:=by
 obtain⟨l0,l1⟩:=Ql9 steps
 cases hm:Q6r r.A0
 . unfold advF;rw[hm]
   show r.B4.length<=_
   omega
 . rw[Z20 hm]
   have a:=zL (Q0m steps).toNat (noQ (r.A6.foldl Q21 {A0:=r.A0,A3:=if clock>r.A3 then clock else r.A3,B4:=r.B4,A6:=r.A6})) []
   have b:=xm r.A6 {A0:=r.A0,A3:=if clock>r.A3 then clock else r.A3,B4:=r.B4,A6:=r.A6}
   have b:(noQ (r.A6.foldl Q21 {A0:=r.A0,A3:=if clock>r.A3 then clock else r.A3,B4:=r.B4,A6:=r.A6})).B4.length<=r.B4.length+r.A6.length:=b
   omega
theorem Zkf{P:Nat}{k:Int}{r:Q01}(h:Q9a P k r)(hu: ∀q∈r.A6,U q.N){clock:Int}(hc:U clock):Q9a P k (noQ (r.A6.foldl Q21 {A0:=r.A0,A3:=if clock>r.A3 then clock else r.A3,B4:=r.B4,A6:=r.A6})):=by
 have hcl:U (if clock>r.A3 then clock else r.A3):=by split<;>first|exact hc|exact h.clock
 obtain⟨a,b⟩:=Z87 r.A6 (r:={A0:=r.A0,A3:=if clock>r.A3 then clock else r.A3,B4:=r.B4,A6:=r.A6}) ⟨h.m,hcl,h.cnt⟩ hu
 exact⟨a.m,a.clock,a.cnt⟩
theorem Qwh{P:Nat}{k:Int}{r:Q01}(h:Q9a P k r)(hq:okQ r.A6){clock:Int}(hc:U clock):Q9a P k (noQ (r.A6.foldl Q21 {A0:=r.A0,A3:=if clock>r.A3 then clock else r.A3,B4:=r.B4,A6:=r.A6})):=Zkf h hq.2 hc
theorem advP{P:Nat}{k:Int}{r:Q01}(h:Qus P k r)(steps:Int){clock:Int}(hc:U clock):Qus P (k+4000) (advF r steps clock).1:=by
 obtain⟨a,b⟩:=xk h.g h.q steps hc
 have c:=yL r steps clock
 have d:=h.q.1
 have e:=h.l
 exact⟨a,b,by omega⟩
theorem arriveP{P:Nat}{k:Int}{r:Q01}(h:Qus P k r){e:Q0a}(he:U e.N):Qus P k (Q2p r e).1:=by
 obtain⟨a,b⟩:=Zke h.g h.q he
 refine⟨a,b,?_⟩
 have:=h.l
 rw[Qlu]
 cases Q1w e<;>cases e.B6==1<;>cases decide ((r.A6.length:Int)>=16)<;>exact this
theorem Qus.more{P:Nat}{k j:Int}{r:Q01}(h:Qus P k r)(hj:k<=j):Qus P j r:=
 ⟨⟨h.g.m,h.g.clock,by have:=h.g.cnt;omega⟩,h.q,by have:=h.l;omega⟩
theorem xaJ{P:Nat}{k:Int}{A:Q01×Bool}(h:Qus P k A.1):Qus P (k+4000) (A.1,([]:List Q04)).1:=h.more (by omega)
theorem mstepP{P:Nat}{k:Int}{r:Q01}(h:Qus P k r)(n:Int):Qus P (k+4000) (Q3s r n).1:=by
 cases hm:Int.tmod (Q3f n 3) 3==0
 . rw[Qu0 hm,Qt8 _ _ _ (by have:=h.q.1;omega)]
   exact advP h _ (Q0s _)
 . rw[Qte hm]
   exact xaJ (arriveP h (zk n))
theorem qaK{α β:Type}(a:α)(b:β):(a,b).1=a:=rfl
theorem Qtt(s:Q01×List Q04)(n:Int):(Qo3 s n).1=(Q3s s.1 n).1:=(congrArg Prod.fst (Zfo s n)).trans (qaK _ _)
theorem newP{P:Nat}{m:Q00}(h:good P m)(hc:m.A1<=87):Qus P 87 {A0:=m,A3:=0,B4:=[],A6:=[]}:=
 ⟨⟨h,U_0,hc⟩,⟨Nat.zero_le _,λq hq=>by cases hq⟩,by show((0:Nat):Int)<=_;omega⟩
theorem vL{l acts:List Int}{x0:Bool}(hx0:x0=Qul l acts)(hb:(!x0)=false):l.length<=40/\acts.length<=30:=zam hx0 hb
theorem and255i(a:Int):0<=iand .i64 a 255/\iand .i64 a 255<=255:=by
 unfold iand
 rw[wrap_i64]
 have:(BitVec.ofInt i64.bits a&&&BitVec.ofInt i64.bits 255).toNat<=255:=by
   show(BitVec.ofInt 64 a&&&BitVec.ofInt 64 255).toNat<=255
   rw[BitVec.toNat_and]
   exact Nat.le_trans Nat.and_le_right (by decide)
 omega
theorem Zip(a:Int):0<=wrap .u32 (iand .i64 a 255)/\wrap .u32 (iand .i64 a 255)<=255:=by
 have:=and255i a
 rw[wrap_u32];omega
theorem Zm0(n k:Int)(h0:0<=k)(h1:k<=1000):(Qtl n k).length=k.toNat:=by
 show Tree.V (Qeq n k) (λs=>s.length=k.toNat)
 unfold Qeq
 refine v_lp (inv:=λv:Int×List Int=>0<=v.1/\v.1<=k/\v.2.length=v.1.toNat) (μ:=Qe6 n k) ⟨Int.le_refl 0,h0,rfl⟩ (Nat.lt_succ_self _) λv ⟨a,b,c⟩=> ?_
 refine v_br (λhb=> ?_) (λhb=> ?_)
 . have hb:=oY hb
   have e:i64.wrap (v.1+1)=v.1+1:=by rw[wrap_i64];omega
   refine v_lv λx _=>v_cn (v_nx ?_)
   show(0<=i64.wrap (v.1+1)/\i64.wrap (v.1+1)<=k/\(v.2++[_]).length=(i64.wrap (v.1+1)).toNat)/\(k-i64.wrap (v.1+1)).toNat<(k-v.1).toNat
   rw[e,lA,List.length_singleton]
   exact⟨⟨by omega,by omega,by omega⟩,by omega⟩
 . have hb:=oN hb
   refine v_lf ?_
   show(bytesOf v.2).length=_
   unfold bytesOf
   rw[List.length_map,c];omega
theorem xao(n k:Int):0<=Q3f n k:=by
 show Tree.V (Qqh n k) (λx=>0<=x)
 unfold Qqh
 refine v_lv λx hx=>v_lf ?_
 have r:0<=x.1/\x.1<18446744073709551616:=by
   rw[hx]
   show 0<=wrap .u64 _/\wrap .u64 _<_
   rw[wrap_u64];omega
 show 0<=wrap .i64 (x.1.fdiv 2)
 rw[Int.fdiv_eq_ediv_of_nonneg _ (by decide),wrap_i64];omega
def evOK(e:Q0a):Prop:=Q1w e=true/\e.B6≠1
theorem Z8:evOK Qrd:=⟨rfl,by decide⟩
theorem Zdo{n:Int}(h:n<=255):Q1w {B6:=3,N:=n,C8:=[]}=true:=by
 show(bif decide (n<=255) then decide (([]:List UInt8)=[]) else false)=true
 rw[dY h];rfl
theorem Znx{s:List UInt8}(h:s.length=128):Q1w {B6:=4,N:=1,C8:=s}=true:=by
 show(bif decide (s=[]) then true else(s.length:Int)==128)=true
 rw[h];cases decide (s=[])<;>rfl
theorem zm{s:List UInt8}(h1:1<=s.length)(h2:s.length<=128):Q1w {B6:=5,N:=0,C8:=s}=true:=by
 show(bif decide ((s.length:Int)>=1) then decide ((s.length:Int)<=128) else false)=true
 rw[dY (show(s.length:Int)>=1 by omega),dY (show(s.length:Int)<=128 by omega)];rfl
theorem qM(n:Int):evOK (Q4w n):=by
 show Tree.V (Q9h n) evOK
 unfold Q9h
 refine v_lv λx hx=> ?_
 have x0:0<=x:=by rw[hx];exact xao n 2
 have i2: ∀k:Int,k≠1-> ¬k=1:=λ_ h=>h
 refine v_br (λ_=>v_lf ⟨rfl,by decide⟩) λ_=>v_br (λ_=>v_lf ⟨Zdo (Zip _).2,by show(3:Int)≠1;decide⟩) λ_=>v_br (λ_=>v_lf ⟨Zdo (Zip _).2,by show(3:Int)≠1;decide⟩) λ_=>v_br (λ_=>v_lf ⟨rfl,by decide⟩) λ_=>v_br (λ_=>v_an (v_lv λy hy=>v_lf ⟨Znx ?_,by show(4:Int)≠1;decide⟩)) λ_=>v_br (λ_=>v_an (v_lv λy hy=>v_lf ⟨?_,by show(5:Int)≠1;decide⟩)) λ_=>v_br (λ_=>v_lf ⟨rfl,by decide⟩) λ_=>v_lf ⟨rfl,by show(6:Int)≠1;decide⟩
 . rw[hy,Zm0 _ _ (by decide) (by decide)];rfl
 . have s0:0<=ishr .i64 x 8:=by
     unfold ishr
     exact Int.fdiv_nonneg x0 (Int.le_of_lt (Int.pow_pos (by decide)))
   have t1:=Int.tmod_lt_of_pos (ishr .i64 x 8) (b:=40) (by decide)
   have t0:=Int.tmod_nonneg 40 s0
   have e:i64.wrap (1+Int.tmod (ishr .i64 x 8) 40)=1+Int.tmod (ishr .i64 x 8) 40:=by rw[wrap_i64];omega
   rw[e]at hy
   have:=Zm0 x (1+Int.tmod (ishr .i64 x 8) 40) (by omega) (by omega)
   rw[<-hy]at this
   exact zm (by omega) (by omega)
structure Qkt(c0:Int)(r:Q01):Prop where
 pw:r.B4.Pairwise λa b=>a.At<=b.At/\(a.C5.B6=1->a.At<b.At/\(b.C5.B6=1->a.C5.N<=b.C5.N))
 all: ∀e∈r.B4,c0<=e.At/\e.At<=r.A0.A1/\Q1w e.C5=true/\(e.C5.B6=1->e.At<r.A0.A1/\e.C5.N<r.A3/\0<=e.C5.N)
 q: ∀e∈r.A6,evOK e
 c:c0<=r.A0.A1
theorem Qkt.with{c0:Int}{r x:Q01}(h:Qkt c0 r)(hl:x.B4=r.B4)(hm:x.A0.A1=r.A0.A1)(hc:r.A3<=x.A3)(hq: ∀e∈x.A6,evOK e):Qkt c0 x:=
 ⟨by rw[hl];exact h.pw,by
   rw[hl,hm]
   exact λe he=>⟨(h.all e he).1,(h.all e he).2.1,(h.all e he).2.2.1,λk=>⟨((h.all e he).2.2.2 k).1,by have:=((h.all e he).2.2.2 k).2.1;omega,((h.all e he).2.2.2 k).2.2⟩⟩,hq,by rw[hm];exact h.c⟩
theorem Zdf{P:Nat}{k c0:Int}{r:Q01}(h:Qkt c0 r)(g:Q9a P k r){e:Q0a}(he:evOK e)(hu:U e.N):Qkt c0 (Q21 r e):=by
  obtain⟨a,b⟩:=Qn9 g.m hu
  unfold Q21
  cases(Q0q r.A0 e).1
  . exact h.with rfl b (Int.le_refl _) h.q
  . show Qkt c0 {A0:=(Q0q r.A0 e).2,A3:=r.A3,B4:=r.B4++[{At:=(Q0q r.A0 e).2.A1,C5:=e}],A6:=r.A6}
    rw[b]
    refine⟨List.pairwise_append.2 ⟨h.pw,List.pairwise_singleton _ _,λx hx y hy=> ?_⟩,λx hx=> ?_,h.q,by show c0<=(Q0q r.A0 e).2.A1;rw[b];exact h.c⟩
    . rw[List.mem_singleton.1 hy]
      obtain⟨p1,p2,p3,p4⟩:=h.all x hx
      exact⟨p2,λkx=>⟨(p4 kx).1,λke=>absurd ke he.2⟩⟩
    . show c0<=x.At/\x.At<=(Q0q r.A0 e).2.A1/\_/\(_->x.At<(Q0q r.A0 e).2.A1/\_)
      rw[b]
      rcases List.mem_append.1 hx with hx|hx
      . exact h.all x hx
      . rw[List.mem_singleton.1 hx]
        exact⟨h.c,Int.le_refl _,he.1,λke=>absurd ke he.2⟩
theorem xM{P:Nat}{k c0:Int}{r:Q01}(h:Qkt c0 r)(g:Q9a P k r):Qkt c0 (Q4k r):=by
 rw[Qps]
 cases Q8d r.A0.B0 r.A3
 . exact h
 . exact Zdf h g Z8 U_0
theorem yM{P:Nat}{k c0:Int}{r:Q01}(h:Qkt c0 r)(g:Q9a P k r)(hs:Q0v r.A0=false)(hc:r.A3<4294967295):Qkt c0 (Qk r)/\(Qk r).A3=r.A3+1:=by
  obtain⟨_,b,_⟩:=Qkq g.m hs g.clock
  have c0':=g.clock.1
  have ec:wrap .u32 (r.A3+1)=r.A3+1:=by rw[wrap_u32];omega
  have old: ∀x∈r.B4,c0<=x.At/\x.At<=r.A0.A1+1/\Q1w x.C5=true/\(x.C5.B6=1->x.At<r.A0.A1+1/\x.C5.N<r.A3+1/\0<=x.C5.N):=λx hx=>by
    obtain⟨p1,p2,p3,p4⟩:=h.all x hx
    exact⟨p1,by omega,p3,λkx=>⟨by have:=(p4 kx).1;omega,by have:=(p4 kx).2.1;omega,(p4 kx).2.2⟩⟩
  have hcc:=h.c
  cases hr:Q0h r.A0
  . rw[Zk6 hr,ec]
    refine⟨⟨h.pw,?_,h.q,by show c0<=(Q0o r.A0 r.A3).2.A1;omega⟩,rfl⟩
    show∀x∈r.B4,c0<=x.At/\x.At<=(Q0o r.A0 r.A3).2.A1/\_/\(_->x.At<(Q0o r.A0 r.A3).2.A1/\_)
    rw[b];exact old
  . rw [Z5h hr,ec]
    refine⟨⟨List.pairwise_append.2 ⟨h.pw,List.pairwise_singleton _ _,λx hx y hy=> ?_⟩,?_,h.q,by show c0<=(Q0o r.A0 r.A3).2.A1;omega⟩,rfl⟩
    . rw[List.mem_singleton.1 hy]
      obtain⟨p1,p2,p3,p4⟩:=h.all x hx
      exact⟨p2,λkx=>⟨(p4 kx).1,λ_=>Int.le_of_lt (p4 kx).2.1⟩⟩
    . show∀x∈r.B4++[_],c0<=x.At/\x.At<=(Q0o r.A0 r.A3).2.A1/\_/\(_->x.At<(Q0o r.A0 r.A3).2.A1/\_)
      rw[b]
      intro x hx
      rcases List.mem_append.1 hx with hx|hx
      . exact old x hx
      . rw[List.mem_singleton.1 hx]
        exact⟨h.c,by show r.A0.A1<=_;omega,rfl,λ_=>⟨by show r.A0.A1<_;omega,by show r.A3<r.A3+1;omega,c0'⟩⟩
theorem Zks(r:Q01):(Q4k r).A3=r.A3:=by
 rw[Qps]
 cases Q8d r.A0.B0 r.A3
 . rfl
 . show(Q21 r Qrd).A3=r.A3
   unfold Q21;cases(Q0q r.A0 Qrd).1<;>rfl
theorem Zf0(r:Q01)(e:Q0a):(Q21 r e).A3=r.A3:=by
 unfold Q21;cases(Q0q r.A0 e).1<;>rfl
theorem qap{P:Nat}{c0:Int}(n:Nat): ∀{k B:Int} {r:Q01} {o:List Q04},Qkt c0 r->Q9a P k r->r.A3<=B->B+n<4294967295->Qkt c0 (recF n r o).1/\(recF n r o).1.A3<=B+n:=by
 induction n with
 |zero=>intro k B r o h g hb _;exact⟨h,by show r.A3<=B+(0:Nat);omega⟩
 | succ n ih=>
   intro k B r o h g hb hn
   have f:=xM h g
   obtain⟨gf,_⟩:=Qqn g
   have fc:=Zks r
   cases hs:Q0v (Q4k r).A0
   . rw[Qxu hs]
     obtain⟨t1,t2⟩:=yM f gf hs (by omega)
     have:=ih (o:=o++(Q0o (Q4k r).A0 (Q4k r).A3).1) t1 (Qq5 gf hs) (B:=B+1) (by omega) (by omega)
     exact⟨this.1,by have:=this.2;omega⟩
   . rw[Qx4 hs]
     exact⟨f,by show(Q4k r).A3<=_;omega⟩
theorem vM{P:Nat}{k c0:Int}(l:List Q0a): ∀{r:Q01},Qkt c0 r->Q9a P k r->(∀e∈l,evOK e/\U e.N)->Qkt c0 (l.foldl Q21 r)/\(l.foldl Q21 r).A3=r.A3/\Q9a P k (l.foldl Q21 r):=by
 induction l with
 |nil=>intro r h g _;exact⟨h,rfl,g⟩
 | cons e l ih=>
   intro r h g hu
   obtain⟨a,b⟩:=hu e (by simp)
   obtain⟨p,q,s⟩:=ih (Zdf h g a b) (Qmo g b).1 (λq hq=>hu q (by simp [hq]))
   exact⟨p,q.trans (Zf0 r e),s⟩
theorem zap{P:Nat}{k c0 B:Int}{r:Q01}(h:Qkt c0 r)(g:Q9a P k r)(hq:okQ r.A6){steps clock:Int}(hb:r.A3<=B)(hc0:0<=clock)(hc:clock<=B)(hs:0<=steps/\steps<12)(hB:B<1000000000):Qkt c0 (advF r steps clock).1/\(advF r steps clock).1.A3<=B+12:=by
 rw[Z20 g.m.rmay,Qi hs.1 (by omega)]
 have m0:r.A3<=(if clock>r.A3 then clock else r.A3)/\(if clock>r.A3 then clock else r.A3)<=B:=by split<;>omega
 generalize(if clock>r.A3 then clock else r.A3)=cl at*
 have u:U cl:=by have:=g.clock;unfold U at*;omega
 obtain⟨a,b,c⟩:=vM r.A6 (r:={A0:=r.A0,A3:=cl,B4:=r.B4,A6:=r.A6}) (h.with rfl rfl m0.1 h.q) ⟨g.m,u,g.cnt⟩ (λe he=>⟨h.q e he,hq.2 e he⟩)
 have b:(r.A6.foldl Q21 {A0:=r.A0,A3:=cl,B4:=r.B4,A6:=r.A6}).A3=cl:=b
 generalize r.A6.foldl Q21 {A0:=r.A0,A3:=cl,B4:=r.B4,A6:=r.A6}=y at*
 have:=qap steps.toNat (o:=[]) (r:=noQ y) (B:=B) (a.with rfl rfl (Int.le_refl _) (λe he=>by cases he)) (k:=k) ⟨c.m,c.clock,c.cnt⟩ (by show y.A3<=B;omega) (by omega)
 exact⟨this.1,by have:=this.2;omega⟩
theorem xap{c0:Int}{r:Q01}(h:Qkt c0 r){e:Q0a}(he:evOK e):Qkt c0 (Q2p r e).1/\(Q2p r e).1.A3=r.A3:=by
  rw[Qlu]
  cases Q1w e
  . exact⟨h,rfl⟩
  . cases e.B6==1
    . cases decide ((r.A6.length:Int)>=16)
      . refine⟨h.with rfl rfl (Int.le_refl _) λq hq=> ?_,rfl⟩
        have hq:q∈r.A6++[e]:=hq
        rcases List.mem_append.1 hq with hq|hq
        . exact h.q q hq
        . rw[List.mem_singleton.1 hq];exact he
      . exact⟨h,rfl⟩
    . exact⟨h,rfl⟩
structure logP(c0 k B:Int)(r:Q01):Prop where
 p:Qus 8 k r
 l:Qkt c0 r
 b:r.A3<=B
theorem qN{c0 k B:Int}{A:Q01×Bool}(p:Qus 8 k A.1)(a:Qkt c0 A.1)(b:A.1.A3<=B):logP c0 k B (A.1,([]:List Q04)).1:=⟨p,a,b⟩
theorem Qq4{c0 k B:Int}{r:Q01}(h:logP c0 k B r)(h255:255<=B)(hB:B<1000000000)(n:Int):logP c0 (k+4000) (B+12) (Q3s r n).1:=by
 have p:=mstepP h.p n
 have hb:=h.b
 cases hm:Int.tmod (Q3f n 3) 3==0
 . have rr:=Qmb (n:=ishr .i64 (Q3f n 3) 4) (k:=12) (by decide) (by decide)
   have w:=Zip (ishr .i64 (Q3f n 3) 12)
   rw[Qu0 hm,Qt8 _ _ _ (by have:=h.p.q.1;omega)]at p⊢
   obtain⟨a,b⟩:=zap h.l h.p.g h.p.q (steps:=Q4n (ishr .i64 (Q3f n 3) 4) 12) (clock:=wrap .u32 (iand .i64 (ishr .i64 (Q3f n 3) 12) 255)) hb w.1 (by omega) rr hB
   exact⟨p,a,b⟩
 . have hb':r.A3<=B+12:=by omega
   obtain⟨a,b⟩:=xap h.l (qM n)
   rw[Qte hm]
   exact qN (A:=Q2p r (Q4w n)) ((arriveP h.p (zk n)).more (Int.le_add_of_nonneg_right (by decide))) a (Int.le_trans (Int.le_of_eq b) hb')
theorem ym{c0:Int}(l:List Int): ∀{k B:Int} {s:Q01×List Q04},logP c0 k B s.1->255<=B->B+12*l.length<1000000000->logP c0 (k+4000*l.length) (B+12*l.length) (l.foldl Qo3 s).1:=by
 induction l with
 |nil=>intro k B s h _ _;simpa using h
 | cons n l ih=>
   intro k B s h h1 h2
   have e:((n::l).length:Int)=l.length+1:=by rw[List.length_cons];omega
   rw[e]at h2⊢
   have a:=Qq4 h h1 (by omega) n
   rw[<-Qtt]at a
   have:=ih a (by omega) (by omega)
   rw[List.foldl_cons,show k+4000*((l.length:Int)+1)=k+4000+4000*l.length by omega,show B+12*((l.length:Int)+1)=B+12+12*l.length by omega]
   exact this
theorem xN{m:Q00}(h:good 8 m)(hc:m.A1<=87):logP m.A1 87 255 {A0:=m,A3:=0,B4:=[],A6:=[]}:=
 ⟨newP h hc,⟨List.Pairwise.nil,(λe he=>by cases he),(λe he=>by cases he),Int.le_refl _⟩,by show(0:Int)<=255;decide⟩
inductive Qm6:Q00->List Q0g->List Q04->Q00->Prop
 |nil {m:Q00}:Qm6 m [] [] m
 |ev {m n:Q00} {e:Q0a} {L:List Q0g} {o:List Q04}:(Q0q m e).1=true->e.B6≠1->U e.N->Qm6 (Q0q m e).2 L o n->Qm6 m ({At:=m.A1,C5:=e}::L) o n
 |rd {m n:Q00} {c:Int} {L:List Q0g} {o:List Q04}:Q0v m=false->Q0h m=true->U c->Qm6 (Q0o m c).2 L o n->Qm6 m ({At:=m.A1,C5:={B6:=1,N:=c,C8:=[]}}::L) ((Q0o m c).1++o) n
 |st {m n:Q00} {c:Int} {L:List Q0g} {o:List Q04}:Q0v m=false->Q0h m=false->U c->Qm6 (Q0o m c).2 L o n->Qm6 m L ((Q0o m c).1++o) n
theorem Qm6.trans{a b c:Q00}{L M:List Q0g}{o p:List Q04}(h:Qm6 a L o b)(g:Qm6 b M p c):Qm6 a (L++M) (o++p) c:=by
 induction h with
 |nil=>exact g
 |ev h1 h2 h3 _ ih=>exact .ev h1 h2 h3 (ih g)
 |rd h1 h2 h3 _ ih=>rw[List.append_assoc];exact .rd h1 h2 h3 (ih g)
 |st h1 h2 h3 _ ih=>rw[List.append_assoc];exact .st h1 h2 h3 (ih g)
theorem Qm6.good{P:Nat}{a b:Q00}{L:List Q0g}{o:List Q04}(h:Qm6 a L o b):good P a->good P b/\a.A1<=b.A1/\ ∀e∈L,a.A1<=e.At:=by
 induction h with
 |nil=>exact λg=>⟨g,Int.le_refl _,λe he=>by cases he⟩
 | ev h1 h2 h3 _ ih=>
   intro g
   obtain⟨g1,c1⟩:=Qn9 g h3
   obtain⟨p,q,r⟩:=ih g1
   rw[c1]at q r
   exact⟨p,q,λe he=>(List.mem_cons.1 he).elim (λh=>by rw[h];exact Int.le_refl _) (λh=>r e h)⟩
 | rd h1 h2 h3 _ ih=>
   intro g
   obtain⟨g1,c1,_⟩:=Qkq g h1 h3
   obtain⟨p,q,r⟩:=ih g1
   rw[c1]at q r
   exact⟨p,by omega,λe he=>(List.mem_cons.1 he).elim (λh=>by rw[h];exact Int.le_refl _) (λh=>by have:=r e h;omega)⟩
 | st h1 h2 h3 _ ih=>
   intro g
   obtain⟨g1,c1,_⟩:=Qkq g h1 h3
   obtain⟨p,q,r⟩:=ih g1
   rw[c1]at q r
   exact⟨p,by omega,λe he=>by have:=r e he;omega⟩
def Q7c(r x:Q01)(o:List Q04):Prop:= ∃L,x.B4=r.B4++L/\Qm6 r.A0 L o x.A0
theorem Q7c.rfl{r:Q01}:Q7c r r []:=⟨[],(List.append_nil _).symm, .nil⟩
theorem Q7c.trans{a b c:Q01}{o p:List Q04}(h:Q7c a b o)(g:Q7c b c p):Q7c a c (o++p):=by
 obtain⟨L,l1,l2⟩:=h
 obtain⟨M,m1,m2⟩:=g
 exact⟨L++M,by rw[m1,l1,List.append_assoc],l2.trans m2⟩
theorem Q7c.trans0{a b c:Q01}{p:List Q04}(h:Q7c a b [])(g:Q7c b c p):Q7c a c p:=h.trans g
theorem Zmu{P:Nat}{k:Int}{r:Q01}(g:Q9a P k r){e:Q0a}(he:evOK e)(hu:U e.N):Q7c r (Q21 r e) []:=by
 obtain⟨_,b⟩:=Qn9 g.m hu
 cases ha:(Q0q r.A0 e).1
 . rw[Z5c ha];exact Q7c.rfl
 . unfold Q21
   rw[ha]
   refine⟨[{At:=r.A0.A1,C5:=e}],?_, .ev ha he.2 hu .nil⟩
   show r.B4++[{At:=(Q0q r.A0 e).2.A1,C5:=e}]=_
   rw[b]
theorem qaq{P:Nat}{k:Int}{r:Q01}(g:Q9a P k r):Q7c r (Q4k r) []:=by
 rw[Qps]
 cases Q8d r.A0.B0 r.A3
 . exact Q7c.rfl
 . exact Zmu g Z8 U_0
theorem zaq{P:Nat}{k:Int}{r:Q01}(g:Q9a P k r)(hs:Q0v r.A0=false):Q7c r (Qk r) (Q0o r.A0 r.A3).1:=by
 cases hr:Q0h r.A0
 . rw[Zk6 hr]
   refine⟨[],(List.append_nil _).symm,?_⟩
   have:=Qm6.st (L:=[]) (o:=[]) hs hr g.clock .nil
   rw[List.append_nil]at this;exact this
 . rw[Z5h hr]
   refine⟨[{At:=r.A0.A1,C5:={B6:=1,N:=r.A3,C8:=[]}}],_root_.rfl,?_⟩
   have:=Qm6.rd (L:=[]) (o:=[]) hs hr g.clock .nil
   rw[List.append_nil]at this;exact this
theorem zaK{P:Nat}(n:Nat): ∀{k:Int} {r:Q01},Q9a P k r->Q7c r (recF n r []).1 (recF n r []).2:=by
 induction n with
 |zero=>intro k r _;exact Q7c.rfl
 | succ n ih=>
   intro k r g
   obtain⟨gf,_⟩:=Qqn g
   have f:=qaq g
   cases hs:Q0v (Q4k r).A0
   . rw[Qxu hs,xL,List.nil_append]
     exact f.trans0 ((zaq gf hs).trans (ih (Qq5 gf hs)))
   . rw[Qx4 hs];exact f
theorem xaq{P:Nat}{k:Int}(l:List Q0a): ∀{r:Q01},Q9a P k r->(∀e∈l,evOK e/\U e.N)->Q7c r (l.foldl Q21 r) []:=by
 induction l with
 |nil=>intro r _ _;exact Q7c.rfl
 | cons e l ih=>
   intro r g hu
   obtain⟨a,b⟩:=hu e (by simp)
   exact(Zmu g a b).trans0 (ih (Qmo g b).1 (λq hq=>hu q (by simp [hq])))
theorem xaK{P:Nat}{k:Int}{r:Q01}(g:Q9a P k r)(hq:okQ r.A6)(he: ∀e∈r.A6,evOK e)(steps:Int){clock:Int}(hc:U clock):Q7c r (advF r steps clock).1 (advF r steps clock).2:=by
 rw[Z20 g.m.rmay]
 have s:=Qwh g hq hc
 have u:U (if clock>r.A3 then clock else r.A3):=by split<;>first|exact hc|exact g.clock
 have f:=xaq r.A6 (r:={A0:=r.A0,A3:=if clock>r.A3 then clock else r.A3,B4:=r.B4,A6:=r.A6}) (k:=k) ⟨g.m,u,g.cnt⟩ (λe h=>⟨he e h,hq.2 e h⟩)
 generalize r.A6.foldl Q21 {A0:=r.A0,A3:=if clock>r.A3 then clock else r.A3,B4:=r.B4,A6:=r.A6}=y at*
 have f:Q7c r (noQ y) []:=f
 exact f.trans0 (zaK _ s)
theorem qaL(r:Q01)(e:Q0a):Q7c r (Q2p r e).1 []:=by
 rw[Qlu]
 cases Q1w e<;>cases e.B6==1<;>cases decide ((r.A6.length:Int)>=16)<;>exact Q7c.rfl
theorem ev_on{r:Q01}{A:Q01×Bool}(h:Q7c r A.1 []):Q7c r (A.1,([]:List Q04)).1 (A.1,([]:List Q04)).2:=h
theorem zN{c0 k B:Int}{r:Q01}(h:logP c0 k B r)(n:Int):Q7c r (Q3s r n).1 (Q3s r n).2:=by
 cases hm:Int.tmod (Q3f n 3) 3==0
 . rw[Qu0 hm,Qt8 _ _ _ (by have:=h.p.q.1;omega)]
   exact xaK h.p.g h.p.q h.l.q _ (Q0s _)
 . rw[Qte hm]
   exact ev_on (A:=Q2p r (Q4w n)) (qaL _ _)
theorem qar{c0:Int}(l:List Int): ∀{k B:Int} {s:Q01×List Q04},logP c0 k B s.1->255<=B->B+12*l.length<1000000000-> ∃o,(l.foldl Qo3 s).2=s.2++o/\Q7c s.1 (l.foldl Qo3 s).1 o:=by
 induction l with
 |nil=>intro k B s _ _ _;exact⟨[],(List.append_nil _).symm,Q7c.rfl⟩
 | cons n l ih=>
   intro k B s h h1 h2
   rw[List.length_cons]at h2
   have a:=Qq4 h h1 (by omega) n
   have b:=zN h n
   rw[<-Qtt]at a b
   obtain⟨o,o1,o2⟩:=ih a (by omega) (by omega)
   refine⟨(Q3s s.1 n).2++o,?_,b.trans o2⟩
   rw[List.foldl_cons,o1,Zfo,List.append_assoc]
def arm(r:Q01):Nat:=if r.A0.B0.D2 then 1 else 0
theorem zY(r:Q01):arm r<=1:=by unfold arm;split<;>omega
theorem Ziy(m:Q00)(e:Q0a):(Q0q m e).2.B0=m.B0\/(Q0q m e).2.B0=(Q70 m.B0).1:=by
 show Tree.V (Q4l m e) (λx=>x.2.B0=m.B0\/x.2.B0=(Q70 m.B0).1)
 unfold Q4l
 repeat'(first
   |exact v_lf (.inl rfl)
   |exact v_lv λx hx=>v_lf (.inr (by rw[hx]))
   |exact v_lv λx hx=>v_lf (.inl rfl)
   |exact v_an (v_lv λx hx=>v_lf (.inl rfl))
   |refine v_br (λ_=> ?_) (λ_=> ?_))
theorem yN(t:Q0i):(Q70 t).1.D2=true->t.D2=true:=by
 show Tree.V (Qa5 t) (λr=>r.1.D2=true->t.D2=true)
 unfold Qa5
 exact v_br (λ_=>v_lf λh=>h) (λ_=>v_lf λh=>by cases h)
theorem vm(r:Q01)(e:Q0a):(Q21 r e).B4.length+arm (Q21 r e)<=r.B4.length+arm r+1:=by
  have l:=Qqe r e
  cases ha:(Q0q r.A0 e).1
  . rw[Z5c ha];omega
  . have h:arm (Q21 r e)<=arm r:=by
      unfold arm Q21
      rw[ha]
      show(if(Q0q r.A0 e).2.B0.D2=true then 1 else 0)<=_
      rcases Ziy r.A0 e with t|t
      . rw[t];exact Nat.le_refl _
      . rw[t]
        split
        . rename_i q;rw[if_pos (yN _ q)];exact Nat.le_refl _
        . exact Nat.zero_le _
    omega
theorem vN(r:Q01):(Q4k r).B4.length+arm (Q4k r)<=r.B4.length+arm r:=by
  cases hd:Q8d r.A0.B0 r.A3
  . rw[qm hd];exact Nat.le_refl _
  . have e:Q4k r=Q21 r Qrd:=by rw[Qps,hd];rfl
    rw[e]
    cases ha:(Q0q r.A0 Qrd).1
    . rw[Z5c ha];exact Nat.le_refl _
    . have a1:arm r=1:=by
        unfold arm
        refine if_pos ?_
        cases h:r.A0.B0.D2
        . rw[vl h]at hd;cases hd
        . rfl
      have l:=Qqe r Qrd
      have a0:arm (Q21 r Qrd)=0:=by
        unfold arm Q21
        rw[ha]
        refine if_neg ?_
        show¬(Q0q r.A0 Qrd).2.B0.D2=true
        rw[Zim]at ha⊢
        cases hh:r.A0.A9
        . rw[hh]at ha
          have:=yl _ ha
          show¬(Q70 r.A0.B0).1.D2=true
          rw[this];decide
        . rw[hh]at ha;cases ha
      omega
theorem Zka{P:Nat}{m:Q00}(g:good P m)(hr:Q0h m=true)(clock:Int):(Q0o m clock).2.B0=m.B0:=by
 have rd:Q0h m=bif Q0v m then false else Qfb m:=rfl
 rw[rd]at hr
 cases hs:Q0v m
 . rw[hs]at hr
   have hr:Qfb m=true:=hr
   obtain⟨g1,g2,g3,g4,g5⟩:=(Qna m).1 g.may
   obtain⟨b1,b2,b3,_⟩:=(Tree.pp (Qv7 g.s g2)).2
   change Q65 (Q1 m).B2 at b1
   change okS P (Q1 m) at b2
   have be:=Qxe g.v g2.st
   have b1':Q65 (Q0n m):=by have:=b1;rw[be]at this;exact this
   have b2':Q2g (Q0n m):=by have:=b2.cpu;rw[be]at this;exact this
   rw[Zhx,<-Zl8 g.ok.mem b2' b1'.st]at hr
   rw[xY]
   generalize Q7q (Q0n m) m.Mem=D at*
   unfold ioP at hr
   unfold finR
   cases hk:D.2.1.B6==1
   . rw[hk]at hr;cases hr
   . rw[hk]at hr
     have hp:D.2.1.D1=2:=eq_of_beq hr
     rw[hp];rfl
 . rw[hs]at hr;cases hr
theorem qO{P:Nat}{k:Int}{r:Q01}(g:Q9a P k r):(Qk r).B4.length+arm (Qk r)<=r.B4.length+arm r+1:=by
 cases hr:Q0h r.A0
 . have:=zY (Qk r)
   have e:(Qk r).B4=r.B4:=by rw[Zk6 hr]
   rw[e];omega
 . have l:=Zeh r
   have e:arm (Qk r)=arm r:=by
     unfold arm
     rw[Z5h hr]
     show(if(Q0o r.A0 r.A3).2.B0.D2=true then 1 else 0)=_
     rw[Zka g.m hr]
   omega
theorem zar{P:Nat}(n:Nat): ∀{k:Int} {r:Q01} {o:List Q04},Q9a P k r->(recF n r o).1.B4.length+arm (recF n r o).1<=r.B4.length+arm r+n:=by
 induction n with
 |zero=>intro k r o _;exact Nat.le_refl _
 | succ n ih=>
   intro k r o g
   obtain⟨gf,_⟩:=Qqn g
   have f:=vN r
   cases hs:Q0v (Q4k r).A0
   . rw[Qxu hs]
     have a:=ih (o:=o++(Q0o (Q4k r).A0 (Q4k r).A3).1) (Qq5 gf hs)
     have b:=qO gf
     omega
   . rw[Qx4 hs]
     show(Q4k r).B4.length+arm (Q4k r)<=_
     omega
theorem xO(l:List Q0a): ∀r:Q01,(l.foldl Q21 r).B4.length+arm (l.foldl Q21 r)<=r.B4.length+arm r+l.length:=by
 induction l with
 |nil=>intro r;exact Nat.le_refl _
 | cons e l ih=>
   intro r
   have a:=ih (Q21 r e)
   have b:=vm r e
   rw[List.foldl_cons,List.length_cons];omega
def cntR(r:Q01):Nat:=r.B4.length+arm r+r.A6.length
theorem xar{P:Nat}{k:Int}{r:Q01}(g:Q9a P k r)(hq:okQ r.A6){steps clock:Int}(hc:U clock)(hs:0<=steps/\steps<12):cntR (advF r steps clock).1<=cntR r+11:=by
 have s:=Qwh g hq hc
 have f:=xO r.A6 {A0:=r.A0,A3:=if clock>r.A3 then clock else r.A3,B4:=r.B4,A6:=r.A6}
 rw[Z20 g.m.rmay,Qi hs.1 (by omega)]
 generalize r.A6.foldl Q21 {A0:=r.A0,A3:=if clock>r.A3 then clock else r.A3,B4:=r.B4,A6:=r.A6}=y at*
 have q:(recF steps.toNat (noQ y) []).1.A6=[]:=Z7j _ _ _
 have c:=zar steps.toNat (o:=[]) s
 have e:arm (noQ y)=arm y:=rfl
 have e1:(noQ y).B4=y.B4:=rfl
 have e2:arm {A0:=r.A0,A3:=if clock>r.A3 then clock else r.A3,B4:=r.B4,A6:=r.A6}=arm r:=rfl
 rw[e,e1]at c
 rw[e2]at f
 have f:y.B4.length+arm y<=r.B4.length+arm r+r.A6.length:=f
 unfold cntR
 rw[q]
 show _+_+0<=_
 omega
theorem qn{P:Nat}{k:Int}{r:Q01}(g:Q9a P k r)(hq:okQ r.A6){steps clock:Int}(hc:U clock)(hs:0<=steps/\steps<12):(advF r steps clock).1.A0.A1<=r.A0.A1+11:=by
 have s:=Qwh (k:=r.A0.A1) ⟨g.m,g.clock,Int.le_refl _⟩ hq hc
 rw[Z20 g.m.rmay,Qi hs.1 (by omega)]
 have:=(Zdb steps.toNat (o:=[]) s).cnt
 omega
theorem Zin{c0 k B:Int}{r:Q01}(h:logP c0 k B r)(n:Int):(Q3s r n).1.A0.A1<=r.A0.A1+11:=by
 cases hm:Int.tmod (Q3f n 3) 3==0
 . rw[Qu0 hm,Qt8 _ _ _ (by have:=h.p.q.1;omega)]
   exact qn h.p.g h.p.q (Q0s _) (Qmb (n:=ishr .i64 (Q3f n 3) 4) (k:=12) (by decide) (by decide))
 . rw[Qte hm,Qlu]
   have z:r.A0.A1<=r.A0.A1+11:=by omega
   cases Q1w (Q4w n)<;>cases(Q4w n).B6==1<;>cases decide ((r.A6.length:Int)>=16)<;>exact z
theorem Zpb{c0:Int}(l:List Int): ∀{k B:Int} {s:Q01×List Q04},logP c0 k B s.1->255<=B->B+12*l.length<1000000000->(l.foldl Qo3 s).1.A0.A1<=s.1.A0.A1+11*l.length:=by
 induction l with
 |nil=>intro k B s _ _ _;show s.1.A0.A1<=s.1.A0.A1+11*((0:Nat):Int);omega
 | cons n l ih=>
   intro k B s h h1 h2
   rw[List.length_cons]at h2
   have a:=Qq4 h h1 (by omega) n
   have b:=Zin h n
   rw[<-Qtt]at a b
   have:=ih a (by omega) (by omega)
   rw[List.foldl_cons,List.length_cons];omega
theorem xn{c0 k B:Int}{r:Q01}(h:logP c0 k B r)(n:Int):cntR (Q3s r n).1<=cntR r+11:=by
 cases hm:Int.tmod (Q3f n 3) 3==0
 . rw[Qu0 hm,Qt8 _ _ _ (by have:=h.p.q.1;omega)]
   exact xar h.p.g h.p.q (Q0s _) (Qmb (n:=ishr .i64 (Q3f n 3) 4) (k:=12) (by decide) (by decide))
 . rw[Qte hm,Qlu]
   have:cntR {A0:=r.A0,A3:=r.A3,B4:=r.B4,A6:=r.A6++[Q4w n]}=cntR r+1:=by
     show r.B4.length+arm r+(r.A6++[_]).length=r.B4.length+arm r+r.A6.length+1
     rw[lA,List.length_singleton];omega
   cases Q1w (Q4w n)<;>cases(Q4w n).B6==1<;>cases decide ((r.A6.length:Int)>=16)<;>first|exact Nat.le_add_right _ _|(show cntR {A0:=r.A0,A3:=r.A3,B4:=r.B4,A6:=r.A6++[Q4w n]}<=_;omega)
theorem zO{c0:Int}(l:List Int): ∀{k B:Int} {s:Q01×List Q04},logP c0 k B s.1->255<=B->B+12*l.length<1000000000->cntR (l.foldl Qo3 s).1<=cntR s.1+11*l.length:=by
 induction l with
 |nil=>intro k B s _ _ _;exact Nat.le_refl _
 | cons n l ih=>
   intro k B s h h1 h2
   rw[List.length_cons]at h2
   have a:=Qq4 h h1 (by omega) n
   have b:=xn h n
   rw[<-Qtt]at a b
   have:=ih a (by omega) (by omega)
   rw[List.foldl_cons,List.length_cons];omega
def dueF:List Q0g->Q00->Q00×List Q0g
 |[],m=>(m,[])
 |e::l,m=>bif decide (e.At<=m.A1) then(bif e.C5.B6 !=1 then dueF l (Q0q m e.C5).2 else(m,e::l)) else(m,e::l)
def setF(p:Q02):Q02:={A0:=(dueF p.B4 p.A0).1,B4:=(dueF p.B4 p.A0).2,C7:=p.C7,A3:=p.A3}
def Qye(p:Q02):Int:=match p.B4 with|[]=>0|e::_=>e.C5.N
def Qvt(p:Q02):Bool:=match p.B4 with
 |[]=>!Q0h p.A0
 |e::_=>bif Q0h p.A0 then(bif e.C5.B6==1 then e.At==p.A0.A1 else false) else !(bif e.C5.B6==1 then decide (e.At<=p.A0.A1) else false)
def Qg1(p:Q02):Int×List Q0g×Int:=bif Q0h p.A0 then(Qye p,p.B4.drop 1,wrap .u32 (Qye p+1)) else(0,p.B4,p.A3)
def goF(p:Q02):Q02:={A0:=(Q0o p.A0 (Qg1 p).1).2,B4:=(Qg1 p).2.1,C7:=p.C7,A3:=(Qg1 p).2.2}
def outF(p:Q02):List Q04:=(Q0o p.A0 (Qg1 p).1).1
def folF:Nat->Q02->List Q04->Q02×List Q04
 |0,p,o=>(p,o)
 |n+1,p,o=>bif decide (p.A0.A1>=p.C7) then(p,o) else bif Q0v (setF p).A0 then(setF p,o) else bif Qvt (setF p) then folF n (goF (setF p)) (o++outF (setF p)) else(setF p,o)
def folP(p:Q02)(steps:Int):Q02×List Q04:=bif Q6r p.A0 then folF (Q0m steps).toNat p [] else(p,[])
structure Qo1(P:Nat)(k:Int)(p:Q02):Prop where
 m:good P p.A0
 cnt:p.A0.A1<=k
 clock:U p.A3
 log:p.B4.length<=900000
 u: ∀e∈p.B4,U e.C5.N
theorem Zkt{e:Q0g}{l:List Q0g}{m:Q00}(h1:e.At<=m.A1)(h2:(e.C5.B6 !=1)=true):dueF (e::l) m=dueF l (Q0q m e.C5).2:=by
 conv=>lhs;unfold dueF
 rw[dY h1,h2];rfl
theorem Qtg{e:Q0g}{l:List Q0g}{m:Q00}(h1: ¬e.At<=m.A1):dueF (e::l) m=(m,e::l):=by
 conv=>lhs;unfold dueF
 rw[dN h1];rfl
theorem Qq6{e:Q0g}{l:List Q0g}{m:Q00}(h2:(e.C5.B6 !=1)=false):dueF (e::l) m=(m,e::l):=by
 conv=>lhs;unfold dueF
 rw[h2];cases decide (e.At<=m.A1)<;>rfl
theorem Zfu: ∀(l:List Q0g) (m:Q00),dueF (dueF l m).2 (dueF l m).1=dueF l m
 |[],m=>rfl
 | e ::l,m=>by
   by_cases h1:e.At<=m.A1
   . cases h2:e.C5.B6 !=1
     . rw[Qq6 h2,Qq6 h2]
     . rw[Zkt h1 h2];exact Zfu l _
   . rw[Qtg h1,Qtg h1]
theorem zn(p:Q02):setF (setF p)=setF p:=by
 have h:=Zfu p.B4 p.A0
 unfold setF
 rw[h]
theorem Zfq{P:Nat}: ∀{l:List Q0g} {m:Q00},good P m->(∀e∈l,U e.C5.N)->good P (dueF l m).1/\(dueF l m).1.A1=m.A1/\(dueF l m).2<:+l
  |[],m,h,_=>⟨h,rfl,List.suffix_refl _⟩
  | e ::l,m,h,hu=>by
    by_cases h1:e.At<=m.A1
    . cases h2:e.C5.B6 !=1
      . rw[Qq6 h2];exact⟨h,rfl,List.suffix_refl _⟩
      . rw[Zkt h1 h2]
        obtain⟨a,b⟩:=Qn9 h (hu e (by simp))
        obtain⟨c,d,s⟩:=Zfq (l:=l) a (λq hq=>hu q (by simp [hq]))
        exact⟨c,d.trans b,s.trans (List.suffix_cons e l)⟩
    . rw[Qtg h1];exact⟨h,rfl,List.suffix_refl _⟩
theorem Zgr{P:Nat}{k:Int}{p:Q02}(h:Qo1 P k p):Qo1 P k (setF p)/\(setF p).A0.A1=p.A0.A1/\(setF p).B4<:+p.B4:=by
 obtain⟨a,b,s⟩:=Zfq h.m h.u
 have hc:=h.cnt
 have hl:=h.log
 have sl:=s.length_le
 exact⟨⟨a,by show(dueF p.B4 p.A0).1.A1<=k;omega,h.clock,by show(dueF p.B4 p.A0).2.length<=_;omega,λe he=>h.u e (s.subset he)⟩,b,s⟩
theorem yO{P:Nat}{k:Int}{p:Q02}(h:Qo1 P k p):U (Qye p):=by
 unfold Qye
 split
 . exact U_0
 . rename_i e l he;exact h.u e (by rw[he];simp)
theorem yn{P:Nat}{k:Int}{p:Q02}(h:Qo1 P k p):U (Qg1 p).1/\U (Qg1 p).2.2/\(Qg1 p).2.1<:+p.B4:=by
 unfold Qg1
 cases Q0h p.A0
 . exact⟨U_0,h.clock,List.suffix_refl _⟩
 . exact⟨yO h,Q0s _,List.drop_suffix _ _⟩
theorem Zlv{P:Nat}{k:Int}{p:Q02}(h:Qo1 P k p)(hs:Q0v p.A0=false):Qo1 P (k+1) (goF p)/\(goF p).A0.A1=p.A0.A1+1/\(outF p).length<=1:=by
 obtain⟨t1,t2,t3⟩:=yn h
 obtain⟨a,b,c⟩:=Qkq h.m hs t1
 have hc:=h.cnt
 have hl:=h.log
 have sl:=t3.length_le
 exact⟨⟨a,by show(Q0o p.A0 (Qg1 p).1).2.A1<=k+1;omega,t2,by show(Qg1 p).2.1.length<=_;omega,λe he=>h.u e (t3.subset he)⟩,b,c⟩
theorem Z3r(p:Q02)(o:List Q04):folF 0 p o=(p,o):=rfl
theorem Qdn{n:Nat}{p:Q02}{o:List Q04}(h:p.C7<=p.A0.A1):folF n p o=(p,o):=by
 cases n with
 |zero=>rfl
 | succ n=>
   conv=>lhs;unfold folF
   rw[dY (show p.A0.A1>=p.C7 from h)];rfl
theorem Qf0{n:Nat}{p:Q02}{o:List Q04}(h: ¬p.C7<=p.A0.A1)(hs:Q0v (setF p).A0=true):folF (n+1) p o=(setF p,o):=by
 conv=>lhs;unfold folF
 rw[dN (show¬p.A0.A1>=p.C7 from h),hs];rfl
theorem Qiq{n:Nat}{p:Q02}{o:List Q04}(h: ¬p.C7<=p.A0.A1)(hs:Q0v (setF p).A0=false)(hp:Qvt (setF p)=false):folF (n+1) p o=(setF p,o):=by
 conv=>lhs;unfold folF
 rw[dN (show¬p.A0.A1>=p.C7 from h),hs,hp];rfl
theorem Qxl{n:Nat}{p:Q02}{o:List Q04}(h: ¬p.C7<=p.A0.A1)(hs:Q0v (setF p).A0=false)(hp:Qvt (setF p)=true):folF (n+1) p o=folF n (goF (setF p)) (o++outF (setF p)):=by
 conv=>lhs;unfold folF
 rw[dN (show¬p.A0.A1>=p.C7 from h),hs,hp];rfl
theorem Z40{p:Q02}(h:Q6r p.A0=true)(steps:Int):folP p steps=folF (Q0m steps).toNat p []:=by
 unfold folP;rw[h];rfl
theorem Zfl{P:Nat}: ∀(n:Nat) {k:Int} {p:Q02} (o:List Q04),Qo1 P k p->Qo1 P (k+n) (folF n p o).1/\(folF n p o).2.length<=o.length+n
  |0,k,p,o,h=>⟨⟨h.m,by have:=h.cnt;show p.A0.A1<=k+(0:Nat);omega,h.clock,h.log,h.u⟩,Nat.le_refl _⟩
  | n + 1,k,p,o,h=>by
    obtain⟨g,gc,_⟩:=Zgr h
    have up: ∀{q:Q02},Qo1 P k q->Qo1 P (k+(n+1:Nat)) q:=λh=>⟨h.m,by have:=h.cnt;omega,h.clock,h.log,h.u⟩
    by_cases hk:p.C7<=p.A0.A1
    . rw[Qdn hk];exact⟨up h,by show o.length<=_;omega⟩
    . cases hs:Q0v (setF p).A0
      . cases hp:Qvt (setF p)
        . rw[Qiq hk hs hp];exact⟨up g,by show o.length<=_;omega⟩
        . rw[Qxl hk hs hp]
          obtain⟨a,_,c⟩:=Zlv g hs
          obtain⟨x,y⟩:=Zfl n (o++outF (setF p)) a
          rw[lA]at y
          exact⟨⟨x.m,by have:=x.cnt;omega,x.clock,x.log,x.u⟩,by omega⟩
      . rw[Qf0 hk hs];exact⟨up g,by show o.length<=_;omega⟩
theorem qas{P:Nat}{p:Q02}(h:good P p.A0){e:Q0a}(he:U e.N):(Q4d e p).w (λx=>x=(true,{A0:=(Q0q p.A0 e).2,B4:=p.B4,C7:=p.C7,A3:=p.A3})):=by
 unfold Q4d
 refine w_an (Zou h.v h.len he) (w_lv λx0 e0=> ?_)
 rw[h.app]at e0
 show(_,_)=_
 rw[e0]
theorem zaL{P:Nat}{p:Q02}(h:good P p.A0)(hu: ∀e∈p.B4,U e.C5.N):(Q74 p p.A0.A1).w (λx=>x.1=setF p):=by
  unfold Q74
  refine w_lp (inv:=λv:Q02=>good P v.A0/\v.A0.A1=p.A0.A1/\(∀e∈v.B4,U e.C5.N)/\setF v=setF p) (μ:=Qkd p p.A0.A1) ⟨h,rfl,hu,rfl⟩ (Nat.lt_succ_self _) λv ⟨a1,a2,a3,a4⟩=> ?_
  obtain⟨m,l,kn,ck⟩:=v
  cases l with
  | nil=>
    refine w_br (λhb=>absurd (oY hb) (by show¬((0:Nat):Int)>0;decide)) (λ_=> ?_)
    show _=_
    rw[<-a4];rfl
  | cons e l=>
    have cn:(Nat.beq 4 4&&Nat.blt 0 4&&decide ((0:Int)<=0/\(0:Int)<(((e::l).length:Nat):Int)))=true:=by
      rw[dY (show(0:Int)<=0/\(0:Int)<(((e::l).length:Nat):Int) by rw[List.length_cons];omega)];rfl
    have tk:List.take ((((e::l).length:Nat):Int).toNat-Int.toNat 1) (List.drop (Int.toNat 1) (e::l))=l:=by simp
    have cs:(Nat.beq 4 4&&Nat.blt 0 4&&decide ((0:Int)<=1/\(1:Int)<=(((e::l).length:Nat):Int)/\(((e::l).length:Nat):Int)<=(((e::l).length:Nat):Int)))=true:=by
      rw[dY (show(0:Int)<=1/\(1:Int)<=(((e::l).length:Nat):Int)/\(((e::l).length:Nat):Int)<=(((e::l).length:Nat):Int) by rw[List.length_cons];omega)];rfl
    have hc:m.A1=p.A0.A1:=a2
    have stay:dueF (e::l) m=(m,e::l)->(⟨m,e::l,kn,ck⟩:Q02)=setF p:=λhd=>by
      rw[<-a4]
      show _=(⟨(dueF (e::l) m).1,(dueF (e::l) m).2,kn,ck⟩:Q02)
      rw[hd]
    refine w_br (λ_=>w_cn cn (w_br (λh1=>w_cn cn (w_br (λh2=>w_cn cn (w_cn cs ?_)) (λh2=> ?_))) (λh1=> ?_))) (λhb=>absurd (oN hb) (by show¬ ¬(((e::l).length:Nat):Int)>0;rw[List.length_cons];omega))
    . have h1:e.At<=p.A0.A1:=oY h1
      have h2:(e.C5.B6 !=1)=true:=h2
      have he:=a3 e (by simp)
      obtain⟨k1,k2⟩:=Qn9 a1 he
      refine Q0e (qas (p:=⟨m,List.take ((((e::l).length:Nat):Int).toNat-Int.toNat 1) (List.drop (Int.toNat 1) (e::l)),kn,ck⟩) a1 he) λx0 e0=> ?_
      have e0:x0=(true,⟨(Q0q m e.C5).2,l,kn,ck⟩):=by
        rw[e0]
        show(true,(⟨(Q0q m e.C5).2,List.take ((((e::l).length:Nat):Int).toNat-Int.toNat 1) (List.drop (Int.toNat 1) (e::l)),kn,ck⟩:Q02))=_
        rw[tk]
      rw[e0]
      refine w_br (λh=>by cases h) (λ_=>w_nx ⟨⟨k1,k2.trans a2,λq hq=>a3 q (by simp [hq]),?_⟩,?_⟩)
      . rw[<-a4]
        show(⟨(dueF l (Q0q m e.C5).2).1,(dueF l (Q0q m e.C5).2).2,kn,ck⟩:Q02)=⟨(dueF (e::l) m).1,(dueF (e::l) m).2,kn,ck⟩
        rw[Zkt (by omega) h2]
      . show l.length<(e::l).length
        rw[List.length_cons];omega
    . exact stay (Qq6 h2)
    . exact stay (Qtg (by have:=oN h1;rw[hc];exact this))
theorem xaL{P:Nat}{p:Q02}(h:good P p.A0):(Q76 p).w (λx=>x.2.1=Q0h p.A0/\x.2.2=Qvt p/\(Qvt p=true->x.1=(Qg1 p).1)):=by
  have rp:Q2r p.A0:=(Tree.pp (qL h.s)).1
  have rs:=Zor h.v
  unfold Q76
  obtain⟨m,l,kn,ck⟩:=p
  have rs:Q3c m=Q0h m:=rs
  cases l with
  | nil =>
    refine w_br (λhb=>absurd (oY hb) (by show¬((0:Nat):Int)>0;decide)) (λ_=>w_an rp (w_lv λx e=> ?_))
    have e:x=Q0h m:=e.trans rs
    refine w_br (λhb=> ?_) (λhb=> ?_)
    . have hb:Q0h m=false:=by rw[e]at hb;simpa using hb
      refine⟨hb.symm,?_,λ_=> ?_⟩
      . show true=!Q0h m;rw[hb];rfl
      . show(0:Int)=_;unfold Qg1;rw[show Q0h (Q02.A0 ⟨m,[],kn,ck⟩)=false from hb];rfl
    . have hb:Q0h m=true:=by rw[e]at hb;simpa using hb
      refine⟨hb.symm,?_,λq=> ?_⟩
      . show false=!Q0h m;rw[hb];rfl
      . have q:(!Q0h m)=true:=q
        rw[hb]at q;cases q
  | cons e l=>
    have cn:(Nat.beq 4 4&&Nat.blt 0 4&&decide ((0:Int)<=0/\(0:Int)<(((e::l).length:Nat):Int)))=true:=by
      rw[dY (show(0:Int)<=0/\(0:Int)<(((e::l).length:Nat):Int) by rw[List.length_cons];omega)];rfl
    have pd:Qvt ⟨m,e::l,kn,ck⟩=bif Q0h m then(bif e.C5.B6==1 then e.At==m.A1 else false) else !(bif e.C5.B6==1 then decide (e.At<=m.A1) else false):=rfl
    have t0:Q0h m=false->(Qg1 ⟨m,e::l,kn,ck⟩).1=0:=λhb=>by unfold Qg1;rw[show Q0h (Q02.A0 ⟨m,e::l,kn,ck⟩)=false from hb];rfl
    have t1:Q0h m=true->(Qg1 ⟨m,e::l,kn,ck⟩).1=e.C5.N:=λhb=>by unfold Qg1;rw[show Q0h (Q02.A0 ⟨m,e::l,kn,ck⟩)=true from hb];rfl
    rw[pd]
    refine w_br (λ_=>w_cn cn (w_br (λhk=>w_an rp (w_lv λx ex=> ?_)) (λhk=>w_an rp (w_lv λx ex=> ?_)))) (λhb=>absurd (oN hb) (by show¬ ¬(((e::l).length:Nat):Int)>0;rw[List.length_cons];omega))
    . have ex:x=Q0h m:=ex.trans rs
      have hk:(e.C5.B6==1)=true:=hk
      rw[hk]
      refine w_br (λhb=> ?_) (λhb=>w_br (λh1=> ?_) (λh1=> ?_))
      . have hb:Q0h m=false:=by rw[ex]at hb;simpa using hb
        rw[hb]
        exact⟨rfl,rfl,λ_=>(t0 hb).symm⟩
      . have hb:Q0h m=true:=by rw[ex]at hb;simpa using hb
        rw[hb]
        exact⟨rfl,rfl,λ_=>(t1 hb).symm⟩
      . have hb:Q0h m=true:=by rw[ex]at hb;simpa using hb
        have h1: ¬e.At<=m.A1:=oN h1
        have e0:(e.At==m.A1)=false:=beq_false_of_ne (by omega)
        rw[hb,e0]
        exact⟨rfl,rfl,λq=>by cases q⟩
    . have ex:x=Q0h m:=ex.trans rs
      have hk:(e.C5.B6==1)=false:=hk
      rw[hk]
      refine w_br (λhb=> ?_) (λhb=> ?_)
      . have hb:Q0h m=false:=by rw[ex]at hb;simpa using hb
        rw[hb]
        exact⟨rfl,rfl,λ_=>(t0 hb).symm⟩
      . have hb:Q0h m=true:=by rw[ex]at hb;simpa using hb
        rw[hb]
        exact⟨rfl,rfl,λq=>by cases q⟩
theorem Z2g{p:Q02}(hm:p.A0.Mem.length<=1024)(hl:p.B4.length<=1000000):(Q5t p).w (λx=>x=p):=by
 unfold Q5t
 exact w_an (by show p.A0.Mem.length<=35184372088832;omega) (w_lv λx0 e0=>w_an (by show p.B4.length<=3518437208883;omega) (w_lv λx1 e1=>by rw[e0,e1];rfl))
theorem Zk8{P:Nat}{k:Int}{p:Q02}(h:Qo1 P k p)(steps:Int):(Q53 p steps).w (λx=>x=folP p steps):=by
  obtain⟨lim0,lim1⟩:=Ql9 steps
  have lim:(if 4000<(if 0>steps then 0 else steps) then 4000 else(if 0>steps then 0 else steps))=Q0m steps:=rfl
  unfold Q53
  refine Q0e (Z2g h.m.len (by have:=h.log;omega)) λx0 e0=> ?_
  subst e0
  refine w_an (Tree.pp (Zmt h.m.ok.target.2)).1 (w_lv λx1 e1=>w_br (λhb=>by rw[e1,h.m.may]at hb;cases hb) λhb=> ?_)
  rw[Z40 h.m.rmay]
  refine w_lp (inv:=λy:Int×Q02×List Q04=>0<=y.1/\y.1<=Q0m steps/\Qo1 P (k+y.1) y.2.1/\(y.2.2.length:Int)<=y.1/\folF (Q0m steps-y.1).toNat y.2.1 y.2.2=folF (Q0m steps).toNat x0 []) (μ:=Q7i x0 steps) ⟨Int.le_refl 0,lim0,⟨h.m,by have:=h.cnt;show x0.A0.A1<=k+0;omega,h.clock,h.log,h.u⟩,Int.le_refl 0,by show folF (Q0m steps-0).toNat x0 []=_;rw[Int.sub_zero]⟩ (Nat.lt_succ_self _) λy ⟨y0,y1,y2,y4,y5⟩=> ?_
  obtain⟨yi,yp,yo⟩:=y
  have y0:0<=yi:=y0
  have y1:yi<=Q0m steps:=y1
  have y2:Qo1 P (k+yi) yp:=y2
  have y4:(yo.length:Int)<=yi:=y4
  have y5:folF (Q0m steps-yi).toNat yp yo=folF (Q0m steps).toNat x0 []:=y5
  rw[<-y5]
  refine w_br (λhb=> ?_) (λhb=> ?_)
  . have hb : yi<Q0m steps:=oY hb
    have ew:i64.wrap (yi+1)=yi+1:=by rw[wrap_i64];omega
    have en:(Q0m steps-yi).toNat=(Q0m steps-(yi+1)).toNat+1:=by omega
    obtain⟨g,gc,_⟩:=Zgr y2
    rw[en]at y5⊢
    refine w_br (λhk=> ?_) (λhk=>w_lv λ_ _=>Q0e (zaL y2.m y2.u) λx3 e3=> ?_)
    . have hk:=oY hk
      show(yp,yo)=_
      rw[Qdn hk]
    . have hk : ¬yp.C7<=yp.A0.A1:=oN hk
      obtain⟨x3,c3⟩:=x3
      have e3:x3=setF yp:=e3
      subst e3
      have sg:=Zo g.m
      have stk:Q0v (setF yp).A0=true->(setF yp,yo)=folF ((Q0m steps-(yi+1)).toNat+1) yp yo:=λhs=>(Qf0 hk hs).symm
      refine w_br (λhh=>stk (by rw[sg];have hh:(setF yp).A0.A9=true:=hh;rw[hh];rfl)) λhh=>w_an (zao g.m.ok.target.2) (w_lv λx4 e4=>w_br (λhi=>stk ?_) λhi=>w_br (λhm=>stk ?_) λhm=>Q0e (xaL g.m) λx5 ⟨c1,c2,c3⟩=> ?_)
      . have hh:(setF yp).A0.A9=false:=hh
        have e4:x4=Q4a (setF yp).A0:=e4
        rw[sg,hh,<-e4,hi];rfl
      . have hh:(setF yp).A0.A9=false:=hh
        have e4:x4=Q4a (setF yp).A0:=e4
        rw[sg,hh,<-e4,hi];exact hm
      have hs:Q0v (setF yp).A0=false:=by
        have hh:(setF yp).A0.A9=false:=hh
        have e4:x4=Q4a (setF yp).A0:=e4
        rw[sg,hh,<-e4,hi];exact hm
      refine w_br (λhp=> ?_) (λhp=> ?_)
      . have hp:Qvt (setF yp)=false:=by rw[c2]at hp;simpa using hp
        show(setF yp,yo)=_
        exact(Qiq hk hs hp).symm
      . have hp:Qvt (setF yp)=true:=by rw[c2]at hp;simpa using hp
        have c3:=c3 hp
        obtain⟨t1,t2,t3⟩:=yn g
        obtain⟨k1,k2,k3⟩:=Zlv g hs
        have sp:Q6f (setF yp).A0 x5.1:=by rw[c3];exact(yj g.m.v g.m.len (clock:=(Qg1 (setF yp)).1) t1).1
        have ms:Q3m (setF yp).A0 x5.1=((goF (setF yp)).A0,outF (setF yp)):=by rw[c3];exact g.m.step hs (Qg1 (setF yp)).1
        have mu: ∀q,Q7i x0 steps (wrap .i64 (yi+1),q)<Q7i x0 steps (yi,yp,yo):=λq=>by
          show(4000-wrap .i64 (yi+1)).toNat<(4000-yi).toNat
          rw[ew];omega
        have nx: ∀(x:Q02) (o:List Q04),x=goF (setF yp)->o=yo++outF (setF yp)->(0<=wrap .i64 (yi+1)/\wrap .i64 (yi+1)<=Q0m steps/\Qo1 P (k+wrap .i64 (yi+1)) x/\(o.length:Int)<=wrap .i64 (yi+1)/\folF (Q0m steps-wrap .i64 (yi+1)).toNat x o=folF ((Q0m steps-(yi+1)).toNat+1) yp yo):=λx o hx ho=>by
          rw[ew,hx,ho]
          refine⟨by omega,by omega,⟨k1.m,by have:=k1.cnt;omega,k1.clock,k1.log,k1.u⟩,by rw[lA];omega,?_⟩
          rw[Qxl hk hs hp]
        have cl: ∀o:List Q04,o=outF (setF yp)->decide (40*(yo.length+o.length)<=140737488355328)=true:=λo ho=>dY (by rw[ho];omega)
        refine w_br (λhr=> ?_) (λhr=> ?_)
        . have hr:Q0h (setF yp).A0=true:=by rw[c1]at hr;exact hr
          have tf:Qg1 (setF yp)=(Qye (setF yp),(setF yp).B4.drop 1,wrap .u32 (Qye (setF yp)+1)):=by unfold Qg1;rw[hr];rfl
          have ne:1<=(setF yp).B4.length:=by
            cases hl:(setF yp).B4 with
            | nil=>
              have:Qvt (setF yp)=!Q0h (setF yp).A0:=by unfold Qvt;rw[hl]
              rw[this,hr]at hp;cases hp
            |cons e l=>rw[List.length_cons];omega
          have tk:List.take ((((setF yp).B4.length:Nat):Int).toNat-Int.toNat 1) (List.drop (Int.toNat 1) (setF yp).B4)=(setF yp).B4.drop 1:=List.take_of_length_le (by rw[List.length_drop];exact Nat.le_of_eq (by simp))
          have cs:(Nat.beq 4 4&&Nat.blt 0 4&&decide ((0:Int)<=1/\(1:Int)<=(((setF yp).B4.length:Nat):Int)/\(((setF yp).B4.length:Nat):Int)<=(((setF yp).B4.length:Nat):Int)))=true:=by
            rw[dY (show(0:Int)<=1/\(1:Int)<=(((setF yp).B4.length:Nat):Int)/\(((setF yp).B4.length:Nat):Int)<=(((setF yp).B4.length:Nat):Int) by omega)];rfl
          refine w_cn cs (w_an sp (w_lv λx6 e6=> ?_))
          have e6:=e6.trans ms
          refine w_cn (cl _ (congrArg Prod.snd e6)) (w_nx ⟨nx {A0:=x6.1,B4:=List.take ((((setF yp).B4.length:Nat):Int).toNat-Int.toNat 1) (List.drop (Int.toNat 1) (setF yp).B4),C7:=(setF yp).C7,A3:=u32.wrap (x5.1+1)} (yo++x6.2) ?_ (congrArg (yo++ ·) (congrArg Prod.snd e6)),mu ({A0:=x6.1,B4:=List.take ((((setF yp).B4.length:Nat):Int).toNat-Int.toNat 1) (List.drop (Int.toNat 1) (setF yp).B4),C7:=(setF yp).C7,A3:=u32.wrap (x5.1+1)},yo++x6.2)⟩)
          have gk:goF (setF yp)={A0:=(goF (setF yp)).A0,B4:=(setF yp).B4.drop 1,C7:=(setF yp).C7,A3:=wrap .u32 (Qye (setF yp)+1)}:=by
            show(⟨(goF (setF yp)).A0,(Qg1 (setF yp)).2.1,(setF yp).C7,(Qg1 (setF yp)).2.2⟩:Q02)=_
            rw[tf]
          have c4:x5.1=Qye (setF yp):=by rw[c3,tf]
          rw[gk,e6,c4]
          show(⟨_,List.take ((((setF yp).B4.length:Nat):Int).toNat-Int.toNat 1) (List.drop (Int.toNat 1) (setF yp).B4),_,_⟩:Q02)=_
          rw[tk]
        . have hr:Q0h (setF yp).A0=false:=by rw[c1]at hr;exact hr
          have tf:Qg1 (setF yp)=(0,(setF yp).B4,(setF yp).A3):=by unfold Qg1;rw[hr];rfl
          refine w_an sp (w_lv λx6 e6=> ?_)
          have e6:=e6.trans ms
          refine w_cn (cl _ (congrArg Prod.snd e6)) (w_nx ⟨nx {A0:=x6.1,B4:=(setF yp).B4,C7:=(setF yp).C7,A3:=(setF yp).A3} (yo++x6.2) ?_ (congrArg (yo++ ·) (congrArg Prod.snd e6)),mu ({A0:=x6.1,B4:=(setF yp).B4,C7:=(setF yp).C7,A3:=(setF yp).A3},yo++x6.2)⟩)
          have gk:goF (setF yp)={A0:=(goF (setF yp)).A0,B4:=(setF yp).B4,C7:=(setF yp).C7,A3:=(setF yp).A3}:=by
            show(⟨(goF (setF yp)).A0,(Qg1 (setF yp)).2.1,(setF yp).C7,(Qg1 (setF yp)).2.2⟩:Q02)=_
            rw[tf]
          rw[gk,e6]
  . have hb: ¬yi<Q0m steps:=oN hb
    show(yp,yo)=_
    rw[show(Q0m steps-yi).toNat=0 by omega]
    rfl
theorem vO{a b:List Q0g}(ha:a.length<=1000000)(hb:b.length<=1000000):(Q14 [a,b]).w (λx=>x=a++b):=by
  have w1:wrap .i64 (0+((a.length:Nat):Int))=a.length:=by rw[wrap_i64];omega
  have w2:wrap .i64 (((a.length:Nat):Int)+((b.length:Nat):Int))=a.length+b.length:=by rw[wrap_i64];omega
  unfold Q14
  refine w_lp (inv:=λv:Int×Int=>v=(0,0)\/v=((a.length:Int),1)\/v=((a.length:Int)+b.length,2)) (μ:=Q4c [a,b]) (.inl rfl) (Nat.lt_succ_self _) λv hv=> ?_
  rcases hv with rfl|rfl|rfl
  . refine w_br (λ_=>w_cn rfl (w_fl (dN ?_) (w_nx ⟨.inr (.inl ?_),?_⟩))) (λh=>absurd (oN h) (by show¬ ¬(0:Int)<2;decide))
    . show¬wrap .i64 (0+((a.length:Nat):Int))<0
      rw[w1];omega
    . show(wrap .i64 (0+((a.length:Nat):Int)),wrap .i64 (0+1))=_
      rw[w1];rfl
    . show(2-wrap .i64 (0+1)).toNat<(2-(0:Int)).toNat
      decide
  . refine w_br (λ_=>w_cn rfl (w_fl (dN ?_) (w_nx ⟨.inr (.inr ?_),?_⟩))) (λh=>absurd (oN h) (by show¬ ¬(1:Int)<2;decide))
    . show¬wrap .i64 (((a.length:Nat):Int)+((b.length:Nat):Int))<0
      rw[w2];omega
    . show(wrap .i64 (((a.length:Nat):Int)+((b.length:Nat):Int)),wrap .i64 (1+1))=_
      rw[w2];rfl
    . show(2-wrap .i64 (1+1)).toNat<(2-(1:Int)).toNat
      decide
  . refine w_br (λh=>absurd (oY h) (by show¬(2:Int)<2;decide)) (λ_=>w_an ⟨by show 0<=(a.length:Int)+b.length;omega,by show(a.length:Int)+b.length<=1000000000000;omega⟩ (w_lv λx0 e0=> ?_))
    have e0:x0=[]:=e0
    refine w_lp (inv:=λv:Int×List Q0g=>v=(0,[])\/v=(1,a)\/v=(2,a++b)) (μ:=Q4f [a,b]) (.inl (by rw[e0])) (Nat.lt_succ_self _) λv hv=> ?_
    rcases hv with rfl|rfl|rfl
    . refine w_br (λ_=>w_cn rfl (w_cn (dY ?_) (w_nx ⟨.inr (.inl rfl),?_⟩))) (λh=>absurd (oN h) (by show¬ ¬(0:Int)<2;decide))
      . show 40*(0+a.length)<=_;omega
      . show(2-wrap .i64 (0+1)).toNat<(2-(0:Int)).toNat
        decide
    . refine w_br (λ_=>w_cn rfl (w_cn (dY ?_) (w_nx ⟨.inr (.inr rfl),?_⟩))) (λh=>absurd (oN h) (by show¬ ¬(1:Int)<2;decide))
      . show 40*(a.length+b.length)<=_;omega
      . show(2-wrap .i64 (1+1)).toNat<(2-(1:Int)).toNat
        decide
    . exact w_br (λh=>absurd (oY h) (by show¬(2:Int)<2;decide)) (λ_=>rfl)
def Qo0(p:Q02)(known:Int)(e:Q0g):Bool:=bif decide (e.At<p.C7) then false else bif decide (e.At>known) then false else bif e.At==known then(bif e.C5.B6==1 then false else Q1w e.C5) else Q1w e.C5
def Qy0(p:Q02)(l:List Q0g)(known:Int):Q02×Bool:=
 bif decide (known<p.C7) then(p,false) else bif decide ((l.length:Int)>400) then(p,false) else bif decide ((p.B4.length:Int)+l.length>4096) then(p,false) else bif l.all (Qo0 p known) then(bif Qd3 (p.B4++l) then({A0:=p.A0,B4:=p.B4++l,C7:=known,A3:=p.A3},true) else(p,false)) else(p,false)
theorem qaM{p:Q02}(hm:p.A0.Mem.length<=1024)(hl:p.B4.length<=1000000){l:List Q0g}(hu: ∀e∈l,U e.C5.N)(known:Int):(Q89 p l known).w (λx=>x=Qy0 p l known):=by
 unfold Q89
 refine Q0e (Z2g hm hl) λx0 e0=> ?_
 subst e0
 refine w_br (λh1=> ?_) (λh1=>w_br (λh2=> ?_) (λh2=>w_br (λh3=> ?_) (λh3=> ?_)))
 . show(x0,false)=_;unfold Qy0;rw[h1];rfl
 . show(x0,false)=_;unfold Qy0;rw[h1,h2];rfl
 . have l4:=oN h2
   have ws:i64.wrap (((x0.B4.length:Nat):Int)+((l.length:Nat):Int))=x0.B4.length+l.length:=by rw[wrap_i64];omega
   rw[ws]at h3
   show(x0,false)=_;unfold Qy0;rw[h1,h2,h3];rfl
 have l4:=oN h2
 have ws:i64.wrap (((x0.B4.length:Nat):Int)+((l.length:Nat):Int))=x0.B4.length+l.length:=by rw[wrap_i64];omega
 rw[ws]at h3
 have no:l.all (Qo0 x0 known)=false->(x0,false)=Qy0 x0 l known:=λh=>by unfold Qy0;rw[h1,h2,h3,h];rfl
 refine w_lp (inv:=λv:Int=>0<=v/\v<=l.length/\(l.drop v.toNat).all (Qo0 x0 known)=l.all (Qo0 x0 known)) (μ:=Qaa x0 l known) ⟨Int.le_refl 0,by omega,rfl⟩ (Nat.lt_succ_self _) λv ⟨v0,v1,v2⟩=> ?_
 refine w_br (λhb=> ?_) (λhb=> ?_)
 . have hb:v<l.length:=oY hb
   have hlt:v.toNat<l.length:=by omega
   have ed:l.getD v.toNat (RK.dflt RK.apiEntry)=l[v.toNat]:=by rw[List.getD_eq_getElem?_getD,List.getElem?_eq_getElem hlt];rfl
   have hm:l.getD v.toNat (RK.dflt RK.apiEntry)∈l:=by rw[ed];exact List.getElem_mem hlt
   have ue:=hu _ hm
   have va:=Zoa ue
   rw[List.drop_eq_getElem_cons hlt,List.all_cons,<-ed]at v2
   have ew:i64.wrap (v+1)=v+1:=by rw[wrap_i64];omega
   generalize l.getD v.toNat (RK.dflt RK.apiEntry)=e at*
   have bad:Qo0 x0 known e=false->(x0,false)=Qy0 x0 l known:=λh=>no (by rw[<-v2,h];rfl)
   have nx:Qo0 x0 known e=true->(0<=wrap .i64 (v+1)/\wrap .i64 (v+1)<=l.length/\(l.drop (wrap .i64 (v+1)).toNat).all (Qo0 x0 known)=l.all (Qo0 x0 known))/\Qaa x0 l known (wrap .i64 (v+1))<Qaa x0 l known v:=λh=>by
     show _/\(l.length-wrap .i64 (v+1)).toNat<(l.length-v).toNat
     rw[ew]
     refine⟨⟨by omega,by omega,?_⟩,by omega⟩
     rw[<-v2,h,show(v+1).toNat=v.toNat+1 by omega];rfl
   refine w_cn (by simp [Nat.blt];omega) (w_br (λg1=>bad (by unfold Qo0;rw[g1];rfl)) λg1=>w_br (λg2=>bad (by unfold Qo0;rw[g1,g2];rfl)) λg2=>w_br (λg3=>w_br (λg4=>bad (by unfold Qo0;rw[g1,g2,g3,g4];rfl)) λg4=>w_lv λx1 e1=> ?_) λg3=>w_lv λx1 e1=> ?_)
   . have ok:Qo0 x0 known e=Q1w e.C5:=by unfold Qo0;rw[g1,g2,g3,g4];rfl
     have e1:=e1.trans va
     exact w_br (λh=>bad (by rw[ok,<-e1];simpa using h)) (λh=>w_nx (nx (by rw[ok,<-e1];simpa using h)))
   . have ok:Qo0 x0 known e=Q1w e.C5:=by unfold Qo0;rw[g1,g2,g3];rfl
     have e1:=e1.trans va
     exact w_br (λh=>bad (by rw[ok,<-e1];simpa using h)) (λh=>w_nx (nx (by rw[ok,<-e1];simpa using h)))
 . have hb: ¬v<l.length:=oN hb
   rw[List.drop_eq_nil_of_le (by omega)]at v2
   have v2:l.all (Qo0 x0 known)=true:=v2.symm
   refine Q0e (vO hl (by omega)) λx3 e3=> ?_
   have hlen:x3.length<=1000000000000:=by rw[e3,lA];omega
   refine w_an hlen (w_lv λx4 e4=> ?_)
   rw[e3]at e4
   refine w_br (λh=> ?_) (λh=> ?_)
   . have h:Qd3 (x0.B4++l)=false:=by rw[<-e4];simpa using h
     show(x0,false)=_
     unfold Qy0;rw[h1,h2,h3,v2,h];rfl
   . have h:Qd3 (x0.B4++l)=true:=by rw[<-e4];simpa using h
     show(({A0:=x0.A0,B4:=x3,C7:=known,A3:=x0.A3}:Q02),true)=_
     unfold Qy0;rw[h1,h2,h3,v2,h,e3];rfl
theorem qP{p:Q02}{l:List Q0g}{known:Int}(h1:p.C7<=known)(h2:l.length<=400)(h3:p.B4.length+l.length<=4096)(h4: ∀e∈l,Qo0 p known e=true)(h5:Qd3 (p.B4++l)=true):Qy0 p l known=({A0:=p.A0,B4:=p.B4++l,C7:=known,A3:=p.A3},true):=by
 unfold Qy0
 rw[dN (by omega),dN (by omega),dN (by omega),List.all_eq_true.2 h4,h5];rfl
theorem Zmi{l:List Q0g}{i:Nat}(h:i<l.length):l.getD i (RK.dflt RK.apiEntry)=l[i]:=by
 rw[List.getD_eq_getElem?_getD,List.getElem?_eq_getElem h];rfl
theorem Znd{s:List Q0g}(hl:s.length<=1000000)(hp:s.Pairwise λa b=>a.At<=b.At/\(a.C5.B6=1->a.At<b.At/\(b.C5.B6=1->a.C5.N<=b.C5.N))):(Q9 s).w (λb=>b=true):=by
 unfold Q9
 refine w_lp (inv:=λz:Int=>1<=z/\(z<=s.length\/z=1)) (μ:=Q4s s) ⟨Int.le_refl 1, .inr rfl⟩ (Nat.lt_succ_self _) λi ⟨a,b⟩=> ?_
 refine w_br (λhb=> ?_) (λ_=>rfl)
 have hb:=oY hb
 have ew:i64.wrap (i+1)=i+1:=by rw[wrap_i64];omega
 have em:i64.wrap (i-1)=i-1:=by rw[wrap_i64];omega
 have hlt:i.toNat<s.length:=by omega
 have hlt':(i-1).toNat<s.length:=by omega
 have q:=List.pairwise_iff_getElem.1 hp (i-1).toNat i.toNat hlt' hlt (by omega)
 rw[<-Zmi hlt,<-Zmi hlt']at q
 have nx:(1<=i64.wrap (i+1)/\(i64.wrap (i+1)<=s.length\/i64.wrap (i+1)=1))/\Q4s s (i64.wrap (i+1))<Q4s s i:=by
   show _/\(s.length-i64.wrap (i+1)).toNat<(s.length-i).toNat
   rw[ew];omega
 refine w_cn (by rw[em];simp [Nat.blt];omega) (w_cn (by simp [Nat.blt];omega) (w_br (λh=> ?_) λ_=>w_br (λh1=>w_br (λh2=> ?_) λ_=>w_nx nx) λ_=>w_nx nx))
 . have h:=oY h
   rw[em]at h
   have:=q.1;omega
 . rw[em]at h1 h2
   have h1:=eq_of_beq h1
   have:=(q.2 (eq_of_beq h2)).1;omega
theorem vn{a b:Q00}{L:List Q0g}{o:List Q04}(h:Qm6 a L o b): ∀e∈L,U e.C5.N:=by
 induction h with
 |nil=>intro e he;cases he
 |ev h1 h2 h3 _ ih=>intro e he;rcases List.mem_cons.1 he with he|he;exact he▸h3;exact ih e he
 |rd h1 h2 h3 _ ih=>intro e he;rcases List.mem_cons.1 he with he|he;exact he▸h3;exact ih e he
 |st h1 h2 h3 _ ih=>exact ih
theorem Znv{P:Nat}{a b:Q00}{L:List Q0g}{o:List Q04}(h:Qm6 a L o b):good P a->(o.length:Int)<=b.A1-a.A1:=by
 induction h with
 |nil=>intro _;show((0:Nat):Int)<=_;omega
 |ev h1 h2 h3 _ ih=>intro g;obtain⟨p,q⟩:=Qn9 g h3;have:=ih p;omega
 |rd h1 h2 h3 _ ih=>intro g;obtain⟨p,q,r⟩:=Qkq g h1 h3;have:=ih p;rw[lA];omega
 |st h1 h2 h3 _ ih=>intro g;obtain⟨p,q,r⟩:=Qkq g h1 h3;have:=ih p;rw[lA];omega
def newQ(m:Q00):Q02:={A0:=m,B4:=[],C7:=m.A1,A3:=0}
theorem zas{m:Q00}(h:m.Mem.length<=1024):(Q9r m).w (λx=>x=newQ m):=by
 unfold Q9r
 exact Q0e (Z2g (p:=newQ m) h (Nat.zero_le _)) λx e=>e
structure Rec22(K:Int)(m:Q00)(x:Q01×List Q04):Prop where
 mg:good 8 m
 m0:m.A1<=87
 lp:logP m.A1 K K x.1
 cnt:cntR x.1<=331
 len:x.1.B4.length<=400
 tr:Qm6 m x.1.B4 x.2 x.1.A0
 steps:x.1.A0.A1<=m.A1+330
 outs:x.2.length<=1000000
theorem rec22{m:Q00}(g:good 8 m)(b:m.A1<=87)(acts:List Int)(f2:acts.length<=30){x:Q01×List Q04}(hx:x=acts.foldl Qo3 ({A0:=m,A3:=0,B4:=[],A6:=[]},[])):Rec22 121000 m x:=by
 have s0:=xN g b
 have lp:=ym acts (s:=({A0:=m,A3:=0,B4:=[],A6:=[]},[])) s0 (Int.le_refl _) (by omega)
 have ct:=zO acts (s:=({A0:=m,A3:=0,B4:=[],A6:=[]},[])) s0 (Int.le_refl _) (by omega)
 obtain⟨o,on1,L,on2,on3⟩:=qar acts (s:=({A0:=m,A3:=0,B4:=[],A6:=[]},[])) s0 (Int.le_refl _) (by omega)
 have sp:=Zpb acts (s:=({A0:=m,A3:=0,B4:=[],A6:=[]},[])) s0 (Int.le_refl _) (by omega)
 rw[<-hx]at lp ct on1 on2 on3 sp
 have on1:x.2=o:=on1
 have on2:x.1.B4=L:=on2
 have on3:Qm6 m L o x.1.A0:=on3
 rw[<-on1,<-on2]at on3
 have sp:x.1.A0.A1<=m.A1+11*acts.length:=sp
 have hcnt:cntR x.1<=331:=by
   have c0:cntR ({A0:=m,A3:=0,B4:=[],A6:=[]}:Q01)<=1:=by
     have:=zY {A0:=m,A3:=0,B4:=[],A6:=[]}
     show 0+arm {A0:=m,A3:=0,B4:=[],A6:=[]}+0<=1
     omega
   have ct:cntR x.1<=cntR ({A0:=m,A3:=0,B4:=[],A6:=[]}:Q01)+11*acts.length:=ct
   omega
 have hlen:x.1.B4.length<=400:=by unfold cntR at hcnt;omega
 have tout:=Znv on3 g
 exact⟨g,b,⟨lp.p.more (by omega),lp.l,by have:=lp.b;omega⟩,hcnt,hlen,on3,by omega,by omega⟩
def fedQ(m:Q00)(r:Q01):Q02:={A0:=m,B4:=r.B4,C7:=r.A0.A1,A3:=0}
theorem fedOK{m:Q00}{r:Q01}(hl:Qkt m.A1 r)(hn:r.B4.length<=400):Qy0 (newQ m) r.B4 r.A0.A1=(fedQ m r,true):=by
 refine qP (p:=newQ m) (show m.A1<=_ from hl.c) hn (by show 0+r.B4.length<=4096;omega) (λe he=> ?_) (Tree.post _ (Znd (by show r.B4.length<=_;omega) hl.pw))
 obtain⟨a,b,c,d⟩:=hl.all e he
 unfold Qo0
 rw[dN (show¬e.At<(newQ m).C7 by show¬e.At<m.A1;omega),dN (show¬e.At>r.A0.A1 by omega),c]
 cases h1:e.At==r.A0.A1
 . rfl
 . cases h2:e.C5.B6==1
   . rfl
   . have:=(d (eq_of_beq h2)).1
     have:=eq_of_beq h1
     omega
theorem Rec22.fed{K:Int}{m:Q00}{x:Q01×List Q04}(h:Rec22 K m x):Qy0 (newQ m) x.1.B4 x.1.A0.A1=(fedQ m x.1,true):=fedOK h.lp.l h.len
theorem Rec22.good{K:Int}{m:Q00}{x:Q01×List Q04}(h:Rec22 K m x):Qo1 8 87 (fedQ m x.1):=
 ⟨h.mg,h.m0,U_0,by have:=h.len;show x.1.B4.length<=_;omega,vn h.tr⟩
theorem qo(a:Q02)(hm:a.A0.Mem.length<=1000000000000)(hl:a.B4.length<=1000000000000):(Q56 a a).w (λb=>b=true):=by
 unfold Q56
 exact Q0e (xam _ hm) λx0 h0=>w_br (λ_=>Q0e (Zg _ hl) λx1 h1=>w_br (λ_=>w_br (λ_=>beq_self_eq_true _) λh=>by simp at h) λh=>by rw[h1]at h;cases h) λh=>by rw[h0]at h;cases h
set_option synthInstance.maxHeartbeats 2000000
set_option synthInstance.maxSize 100000
noncomputable section
instance Z0w (s:(List Int)):Ck (Q08 s):=let d:Decidable (Q08 s):=(by delta Q08;infer_instance);⟨@decide _ d,@oY _ d⟩
instance Zps (m:(List Int)) (addr:Int) (size:Int):Ck (Qb0 m addr size):=ckT (t:=Q3h m addr size) (by delta Q3h;infer_instance)
instance yY (n:Int):Ck (Qhi n):=ckT (t:=Qc9 n) (by delta Qc9;infer_instance)
instance xP (w:Int) (low:Int) (n:Int):Ck (Q5d w low n):=ckT (t:=Q9t w low n) (by delta Q9t;infer_instance)
instance zP (w:Int):Ck (Qky w):=ckT (t:=Q8 w) (by delta Q8;infer_instance)
instance vC (m:(List Int)) (addr:Int) (size:Int):Ck (Q3j m addr size):=ckT (t:=Q6s m addr size) (by delta Q6s;infer_instance)
instance qD (c:Q05) (m:(List Int)) (va:Int) (size:Int) (access:Int):Ck (Q9z c m va size access):=ckT (t:=Q6t c m va size access) (by delta Q6t;infer_instance)
instance vY (c:Q05) (m:(List Int)):Ck (Qme c m):=ckT (t:=Qcb c m) (by delta Qcb;infer_instance)
instance xas (c:Q05) (m:(List Int)):Ck (Qk8 c m):=ckT (t:=Q7s c m) (by delta Q7s;infer_instance)
instance Zlu (x:Int):Ck (Qcg x):=ckT (t:=Q1v x) (by delta Q1v;infer_instance)
instance xD (b:Q09) (pages:Int):Ck (Qe3 b pages):=ckT (t:=Q42 b pages) (by delta Q42;infer_instance)
instance Zd8 (m:Q00):Ck (Q2s m):=ckT (t:=Q1u m) (by delta Q1u;infer_instance)
instance zD (m:Q00):Ck (Q47 m):=ckT (t:=Q5a m) (by delta Q5a;infer_instance)
instance xo (m:Q00):Ck (Q8k m):=ckT (t:=Q38 m) (by delta Q38;infer_instance)
instance zo (m:Q00):Ck (Qc4 m):=ckT (t:=Q44 m) (by delta Q44;infer_instance)
instance Zpx (m:Q00):Ck (Qai m):=ckT (t:=Q2u m) (by delta Q2u;infer_instance)
instance vo (m:Q00) (clock:Int):Ck (Q6f m clock):=ckT (t:=Q39 m clock) (by delta Q39;infer_instance)
instance qat (pages:Int):Ck (Qg5 pages):=ckT (t:=Qf5 pages) (by delta Qf5;infer_instance)
instance zat (pages:Int) (blocks:Int) (image:(List Int)):Ck (Q9n pages blocks image):=ckT (t:=Q8x pages blocks image) (by delta Q8x;infer_instance)
instance Zhc (m:Q00):Ck (Q2r m):=ckT (t:=Q2j m) (by delta Q2j;infer_instance)
instance Qs4 (s:(List Q0g)):Ck (Q0y s):=let d:Decidable (Q0y s):=(by delta Q0y;infer_instance);⟨@decide _ d,@oY _ d⟩
instance Qs (s:(List Q0a)):Ck (Q12 s):=let d:Decidable (Q12 s):=(by delta Q12;infer_instance);⟨@decide _ d,@oY _ d⟩
instance Zpt (r:Q01):Ck (Qev r):=ckT (t:=Q9i r) (by delta Q9i;infer_instance)
instance yP (m:Q00):Ck (Ql4 m):=ckT (t:=Qgi m) (by delta Qgi;infer_instance)
instance Zpv (p:Q02):Ck (Q7v p):=ckT (t:=Q5t p) (by delta Q5t;infer_instance)
instance vP (m:Q00):Ck (Qfq m):=ckT (t:=Q9r m) (by delta Q9r;infer_instance)
instance qp (p:Q02):Ck (Qh1 p):=ckT (t:=Q76 p) (by delta Q76;infer_instance)
instance Zpw (p:Q02):Ck (Qay p):=ckT (t:=Qa3 p) (by delta Qa3;infer_instance)
instance xp (script:(List Q0g)):Ck (Q52 script):=let d:Decidable (Q52 script):=(by delta Q52;infer_instance);⟨@decide _ d,@oY _ d⟩
instance Qt (s:(List Q0g)) (n:Int):Ck (Q1g s n):=let d:Decidable (Q1g s n):=(by delta Q1g;infer_instance);⟨@decide _ d,@oY _ d⟩
instance Qrq (slices:(List (List Q0g))):Ck (Q2l slices):=ckT (t:=Q14 slices) (by delta Q14;infer_instance)
instance yD (p:Q02) (l:(List Q0g)) (known:Int):Ck (Qdx p l known):=ckT (t:=Q89 p l known) (by delta Q89;infer_instance)
instance zp (p:Q02) (fr1:Int):Ck (Qh9 p fr1):=ckT (t:=Q74 p fr1) (by delta Q74;infer_instance)
instance Zpm (p:Q02) (steps:Int):Ck (Q4q p steps):=ckT (t:=Q53 p steps) (by delta Q53;infer_instance)
theorem Zi2:Q2x:=ck (ckT (t:=Qe8) (by delta Qe8;infer_instance)) (by kernel_rfl)
theorem Zfx:Q79=true:=by kernel_rfl
theorem aw22{W:Bool->Prop}(h:W true):(Tree.an Q2x (.lv Q79 λx=> .lf x)).w W:=w_an Zi2 (w_lv λx e=>by show W x;rw[e,Zfx];exact h)
end
theorem Zbl: ∀(n:Nat) (p:Q02) (o:List Q04),folF n p o=((folF n p []).1,o++(folF n p []).2)
  |0,p,o=>by rw[Z3r,Z3r,List.append_nil]
  | n + 1,p,o=>by
    by_cases hk:p.C7<=p.A0.A1
    . rw[Qdn hk,Qdn hk,List.append_nil]
    . cases hs:Q0v (setF p).A0
      . cases hp:Qvt (setF p)
        . rw[Qiq hk hs hp,Qiq hk hs hp,List.append_nil]
        . rw[Qxl hk hs hp,Qxl hk hs hp,Zbl n _ (o++outF (setF p)),Zbl n _ ([]++outF (setF p)),List.nil_append,List.append_assoc]
      . rw[Qf0 hk hs,Qf0 hk hs,List.append_nil]
theorem Zlo: ∀(a b:Nat) (p:Q02) (o:List Q04),folF (a+b) p o=folF b (folF a p o).1 (folF a p o).2
  |0,b,p,o=>by rw[Nat.zero_add,Z3r]
  | a + 1, b,p,o=>by
    rw[show a+1+b=(a+b)+1 by omega]
    by_cases hk:p.C7<=p.A0.A1
    . rw[Qdn hk,Qdn hk,Qdn hk]
    . have idem:=zn p
      cases hs:Q0v (setF p).A0
      . cases hp:Qvt (setF p)
        . rw[Qiq hk hs hp,Qiq hk hs hp]
          cases b with
          |zero=>rfl
          | succ b=>
            by_cases hk2:(setF p).C7<=(setF p).A0.A1
            . rw[Qdn hk2]
            . rw[Qiq hk2 (by rw[idem];exact hs) (by rw[idem];exact hp),idem]
        . rw[Qxl hk hs hp,Qxl hk hs hp,Zlo a b]
      . rw[Qf0 hk hs,Qf0 hk hs]
        cases b with
        |zero=>rfl
        | succ b=>
          by_cases hk2:(setF p).C7<=(setF p).A0.A1
          . rw[Qdn hk2]
          . rw[Qf0 hk2 (by rw[idem];exact hs),idem]
theorem Z55{P:Nat}{k:Int}{p:Q02}(h:Qo1 P k p)(steps:Int):Qo1 P (k+4000) (folP p steps).1/\(folP p steps).2.length<=4000:=by
 obtain⟨l0,l1⟩:=Ql9 steps
 rw[Z40 h.m.rmay]
 obtain⟨a,b⟩:=Zfl (Q0m steps).toNat [] h
 have e:([]:List Q04).length=0:=rfl
 exact⟨⟨a.m,by have:=a.cnt;omega,a.clock,a.log,a.u⟩,by omega⟩
theorem Zi{P:Nat}{k:Int}{p:Q02}(h:Qo1 P k p){one two:Int}(h1:0<=one)(h2:one<=200)(h3:0<=two)(h4:two<=200):
   folP p (one+two)=((folP (folP p one).1 two).1,(folP p one).2++(folP (folP p one).1 two).2):=by
 obtain⟨g,_⟩:=Z55 h one
 rw[Z40 g.m.rmay,Z40 h.m.rmay,Z40 h.m.rmay,Qi h1 (by omega),Qi h3 (by omega),Qi (show 0<=one+two by omega) (by omega),show(one+two).toNat=one.toNat+two.toNat by omega,Zlo,Zbl two.toNat]
theorem Zot(kind:Int)(l acts:List Int)(one two:Int)(hl:l.length*8<=reachBytes):Qen kind l acts one two/\Qec kind l acts one two=true:=by
 have aw:(Tree.an Q2x (.lv Q79 λx=> .lf x)).w (λr=>r=true):=aw22 rfl
 refine Tree.pp (W:=λr=>r=true) ?_
 unfold Q7g
 refine w_lv λx0 h0=>w_br (λ_=>aw) λhb=>w_br (λ_=>aw) λg1=>w_br (λ_=>aw) λg2=>w_br (λ_=>aw) λg3=>w_br (λ_=>aw) λg4=> ?_
 have g1:=oN g1
 have g2:=oN g2
 have g3:=oN g3
 have g4:=oN g4
 obtain⟨f1,f2⟩:=vL h0 hb
 obtain⟨a,b⟩:=Zhg kind l hl f1
 refine w_an (Tree.pp (xe kind l hl)).1 (w_lv λm hm=> ?_)
 rw[<-hm]at a b
 refine w_an (Tree.pp (xaC a.ok acts f2)).1 (w_lv λx hx=> ?_)
 rw[zan _ _ (by omega),yk]at hx
 have R:=rec22 a b acts f2 hx
 refine Q0e (zas a.len) λq0 e0=> ?_
 subst e0
 refine Q0e (qaM a.len (Nat.zero_le _) (vn R.tr) _) λq1 e1=> ?_
 rw[R.fed]at e1
 subst e1
 have G:=R.good
 generalize fedQ m x.1=p at*
 have ws:wrap .i64 (one+two)=one+two:=by rw[wrap_i64];omega
 refine Q0e (Zk8 G one) λy1 e1=> ?_
 obtain⟨k1,o1⟩:=Z55 G one
 rw[<-e1]at k1 o1
 refine Q0e (Zk8 k1 two) λy2 e2=> ?_
 obtain⟨k2,o2⟩:=Z55 k1 two
 rw[<-e2]at k2 o2
 refine Q0e (Zk8 G _) λy3 e3=> ?_
 have e3:y3=(y2.1,y1.2++y2.2):=by
   rw[e3,ws,Zi G (by omega) (by omega) (by omega) (by omega),<-e1,<-e2]
 subst e3
 have ll:=k2.log
 have so:Qc0 (y1.2++y2.2) (y1.2++y2.2)=true:=Tree.post _ (vj (y1.2++y2.2) (by rw[lA];omega))
 refine w_br (λ_=>Q0e (qo y2.1 (by have:=k2.m.len;omega) (by omega)) λs1 h1=>w_br (λ_=>w_cn (dY ?_) (w_cn (dY ?_) (w_an ?_ (w_lv λs2 h2=>w_br (λ_=>aw) λh=> ?_)))) λh=>by rw[h1]at h;cases h) λh=>by cases h
 . omega
 . omega
 . show(y1.2++y2.2).length<=1000000000000
   rw[lA];omega
 . have h2:s2=Qc0 (y1.2++y2.2) (y1.2++y2.2):=h2
   rw[h2,so]at h;cases h

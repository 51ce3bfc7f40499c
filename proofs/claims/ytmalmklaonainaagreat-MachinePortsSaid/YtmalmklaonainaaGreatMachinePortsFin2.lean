import Derived.Test.YtmalmklaonainaaGreatMachinePortsLaws2
import Derived.Test.YtmalmklaonainaaGreatMachinePortsNewsB
import Derived.Test.YtmalmklaonainaaGreatMachinePortsZt
set_option maxRecDepth 100000
set_option linter.all false
namespace Go.Proofs.YtmalmklaonainaaGreat
open Go Go.GD
open Go.IntKind(wrap i64 u32 u64 u8 wrap_i64 wrap_u32 wrap_u64 wrap_u8 wrap_i32)
section
variable {P:Nat} {m:Q00} (h:okM P m)
include h
theorem min_w(port:Int){clock:Int}(hc:U clock):(Qm2 m port clock).w (λx=>U x.1/\okM P x.2/\x.2.A4=m.A4):=by
 have k:=(⟨h,rfl⟩:okM P m/\m.A4=m.A4)
 obtain⟨h1,h2,h3,h4,h5,h7⟩:=h
 unfold Qm2
 exact w_br (λ_=>w_lv λx hx=>⟨hx▸Z54 _ _,⟨⟨h1,h2,h3,h4,h5,h7⟩,rfl⟩⟩) (λ_=>w_br (λ_=>⟨hc,k⟩) (λ_=>w_br (λ_=>w_lv λx hx=>⟨hx▸vq _,k⟩) (λ_=>w_br (λ_=>w_lv λx hx=>⟨hx▸qL h3 _,k⟩) (λ_=>w_br (λ_=>w_lv λx hx=>⟨hx▸xab h4 _,k⟩) (λ_=>w_lv λx hx=>⟨hx▸Z5a h5.1 _,k⟩)))))
theorem xad(port:Int){v:Int}(hv:U v):(Qf3 m port v).w (λx=>x.1.length<=1/\okM P x.2/\x.2.A4=m.A4):=by
 have k:=(⟨h,rfl⟩:okM P m/\m.A4=m.A4)
 obtain⟨h1,h2,h3,h4,h5,h7⟩:=h
 unfold Qf3
 exact w_br (λ_=>⟨Nat.le_refl _,k⟩) (λ_=>w_br (λ_=>⟨Nat.zero_le _,k⟩) (λ_=>w_br (λ_=>w_lv λ_ _=>⟨Nat.zero_le _,⟨⟨h1,h2,h3,h4,h5,h7⟩,rfl⟩⟩) (λ_=>w_br (λ_=>Q0c (yq h2 h3 _ hv _) λx hx=>⟨hx.2,⟨⟨h1,h2,hx.1,h4,h5,h7⟩,rfl⟩⟩) (λ_=>w_br (λ_=>Q0c (vK h2 h4 _ hv _) λx hx=>⟨hx.2,⟨⟨h1,h2,h3,hx.1,h5,h7⟩,rfl⟩⟩) (λ_=>Q0c (xam h2 h5 _ hv) λx hx=>⟨Nat.zero_le _,⟨⟨h1,hx.2,h3,h4,hx.1,h7⟩,rfl⟩⟩)))))
theorem Z9q{clock:Int}(hc:U clock):(Qeg m clock).w (λx=>x.1.length<=1/\okM P x.2/\x.2.A4=wrap .u64 (m.A4+1)):=by
 obtain⟨h1,h2,h3,h4,h5,h7⟩:=h
 unfold Qeg
 refine Q0c (Z01 h1) λx0 c0=>Q0c (do_w c0 h2) λx1 hx=> ?_
 obtain⟨c1,v1,m1⟩:=hx
 refine w_br (λ_=>Z61 (min_w (m:=⟨_,_,_,_,_,_,_,_,_,_⟩) ⟨c1,m1,h3,h4,h5,h7⟩ _ hc) λx2 hx=> ?_) (λ_=>w_br (λ_=>Q0c (xad (m:=⟨_,_,_,_,_,_,_,_,_,_⟩) ⟨c1,m1,h3,h4,h5,h7⟩ _ v1) λx4 hx=> ?_) (λ_=> ?_))
 . obtain⟨u,⟨k1,k2,k3,k4,k5,k7⟩,k6⟩:=hx
   exact Q0c (Qxy k1 _ u) λx3 h3=>⟨Nat.zero_le _,⟨h3,k2,k3,k4,k5,w0 _⟩,congrArg (λn=>wrap .u64 (n+1)) k6⟩
 . obtain⟨u,⟨k1,k2,k3,k4,k5,k7⟩,k6⟩:=hx
   exact⟨u,⟨k1,k2,k3,k4,k5,w0 _⟩,congrArg (λn=>wrap .u64 (n+1)) k6⟩
 . repeat'(first
     |exact⟨Nat.zero_le _,⟨c1,m1,h3,h4,h5,w0 _⟩,rfl⟩
     |refine w_br (λ_=> ?_) (λ_=> ?_))
end
theorem U_all(n:Nat): ∀w∈List.replicate n (0:Int),U w:=λw hw=>by rw[(List.mem_replicate.1 hw).2];exact U_0
set_option synthInstance.maxHeartbeats 2000000
set_option synthInstance.maxSize 100000
noncomputable section
instance xz (src:(List UInt8)):Ck (Qel src):=ckT (t:=Q6r src) (by delta Q6r;infer_instance)
instance yu (s:(List UInt8)):Ck (Qd8 s):=ckT (t:=Q9m s) (by delta Q9m;infer_instance)
instance vu (n:Int):Ck (Q29 n):=let d:Decidable (Q29 n):=(by delta Q29;infer_instance);⟨@decide _ d,@oY _ d⟩
instance qd (n:Int):Ck (Q4a n):=ckT (t:=Q4u n) (by delta Q4u;infer_instance)
instance zT (r:Int):Ck (Qia r):=ckT (t:=Qah r) (by delta Qah;infer_instance)
instance yM (s:(List UInt8)):Ck (Qby s):=ckT (t:=Qcz s) (by delta Qcz;infer_instance)
instance Z9x (op:Int):Ck (Qa5 op):=ckT (t:=Q6q op) (by delta Q6q;infer_instance)
instance Z8a (s:(List UInt8)):Ck (Q2b s):=ckT (t:=Q5y s) (by delta Q5y;infer_instance)
instance xd (what:(List UInt8)):Ck (Q45 what):=ckT (t:=Q7v what) (by delta Q7v;infer_instance)
instance qv (s:(List UInt8)):Ck (Qcn s):=ckT (t:=Q9n s) (by delta Q9n;infer_instance)
instance zd (l:(List Q0b)) (p:(List UInt8)):Ck (Q46 l p):=ckT (t:=Q8 l p) (by delta Q8;infer_instance)
instance xv (s:(List UInt8)):Ck (Q70 s):=ckT (t:=Q99 s) (by delta Q99;infer_instance)
instance yd (l:(List Q1d)) (label:(List UInt8)):Ck (Q2c l label):=let d:Decidable (Q2c l label):=(by delta Q2c;infer_instance);⟨@decide _ d,@oY _ d⟩
instance vM (src:(List UInt8)):Ck (Qfp src):=ckT (t:=Q8h src) (by delta Q8h;infer_instance)
instance qN (st:Q02) (v:Int):Ck (Q4d st v):=ckT (t:=Qck st v) (by delta Qck;infer_instance)
instance Z9w (src:(List UInt8)):Ck (Q5b src):=ckT (t:=Q31 src) (by delta Q31;infer_instance)
def inU(x:Int):Bool:=decide (0<=x)&&decide (x<4294967296)
theorem yT(l:List Int)(h:(Nat.ble l.length 160&&List.all l inU)=true):l.length<=160/\ ∀w∈l,U w:=by
 rw[aE]at h
 refine⟨lE h.1,λw hw=> ?_⟩
 have:=List.all_eq_true.1 h.2 w hw
 simp only[inU,aE,decide_eq_true_eq]at this
 exact this
end
noncomputable section
end
attribute [local irreducible] Q1c
def out(f:Int)(m m':List Int):Prop:= ∀j:Nat,¬(f*32<=j/\(j:Int)<f*32+32)->m'.getD j 0=m.getD j 0
theorem Qj6(f:Int)(m:List Int):out f m m:=λ_ _=>rfl
theorem getDset(l:List Int)(i j:Nat)(v:Int)(h:i≠j):(l.set i v).getD j 0=l.getD j 0:=by
 simp only[List.getD_eq_getElem?_getD,List.getElem?_set_ne h]
theorem Q2k{P:Nat}{m:List Int}(h:Q0n P m):Q0i m=P:=by
 obtain⟨h1,h2,h3,_⟩:=h
 simp only[Q0i,Q66,Tree.m]
 have e:(m.length:Int)=32*P:=by omega
 rw[e]
 have e1:(Int.tmod (32*(P:Int)) 32 !=0)=false:=by simp [Int.mul_tmod_right]
 have e2:decide ((32*(P:Int))>1024)=false:=dN (by omega)
 rw[e1,e2]
 simp only[cond_false]
 rw[Int.mul_tdiv_cancel_left _ (by decide),wrap_i64];omega
theorem xN{P:Nat}{m:List Int}(h:Q0n P m)(f:Int):Q3i m f=true->0<=f/\f<P:=by
 have hp:=Q2k h
 simp only[Q3i,Q5u,Tree.m,letv,hp]
 cases h1:decide (f>=0)
 . intro h;cases h
 . intro h;exact⟨oY h1,oY h⟩
theorem Qrc{P:Nat}{m:List Int}(h:Q0n P m)(f:Int)(s:List UInt8):(Q2f m f s).w (λr=>Q0n P r.1/\out f m r.1/\(r.2=false->r.1=m)):=by
 have hcl:Q01 m=m:=rfl
 have h2:=h.p2
 unfold Q2f
 refine w_an (Q6h h) (w_lv λx0 hx0=>w_lv λx1 hx1=> ?_)
 rw[hcl]at hx0;subst hx0
 refine w_br (λ_=>⟨h,Qj6 _ _,λ_=>rfl⟩) λhb=>w_br (λ_=>⟨h,Qj6 _ _,λ_=>rfl⟩) λhs=> ?_
 have hb:x1=true:=by simpa using hb
 obtain⟨f0,f1⟩:=xN h f (hx1.symm.trans hb)
 have hs:(s.length:Int)=128:=by simpa using hs
 refine w_lp (inv:=λz:Int×List Int=>0<=z.1/\z.1<=32/\Q0n P z.2/\out f x0 z.2) (μ:=Q7k x0 f s) ⟨show(0:Int)<=0 by decide,show(0:Int)<=32 by decide,h,Qj6 _ _⟩ (Nat.lt_succ_self _) λz ⟨z1,z2,z3,z4⟩=> ?_
 refine w_br (λhb=> ?_) (λ_=>⟨z3,z4,λh=>by cases h⟩)
 have hb:=oY hb
 have e1:i64.wrap (4*z.1)=4*z.1:=by rw[wrap_i64];omega
 have e2:i64.wrap (i64.wrap (4*z.1)+4)=4*z.1+4:=by rw[wrap_i64,wrap_i64];omega
 have e3:i64.wrap (i64.wrap (f*32)+z.1)=f*32+z.1:=by rw[wrap_i64,wrap_i64];omega
 have hl:=z3.len
 have hlen:(List.take (Int.toNat (i64.wrap (i64.wrap (4*z.1)+4))-Int.toNat (i64.wrap (4*z.1))) (List.drop (Int.toNat (i64.wrap (4*z.1))) s)).length=4:=by
   rw[e2,e1,List.length_take,List.length_drop];omega
 refine w_cn (dY (by rw[e2,e1];omega)) ?_
 refine w_cn (dY (by rw[hlen];decide)) (w_cn (dY (by rw[hlen];decide)) (w_cn (dY (by rw[hlen];decide)) (w_cn (dY (by rw[hlen];decide)) (w_cn (by rw[e3];simp [Nat.blt];omega) (w_nx ?_)))))
 show(_/\_/\Q0n P (List.set _ _ _)/\out f x0 (List.set _ _ _))/\(_:Nat)<_
 have ew:i64.wrap (z.1+1)=z.1+1:=by rw[wrap_i64];omega
 rw[e3]
 refine⟨⟨by rw[ew];omega,by rw[ew];omega,⟨by rw[List.length_set];exact hl,z3.p1,z3.p2,Quy z3.u (U_or _ _) _⟩,λj hj=> ?_⟩,by show(32-i64.wrap (z.1+1)).toNat<(32-z.1).toNat;rw[ew];omega⟩
 rw[getDset _ _ _ _ (by omega)]
 exact z4 j hj
theorem qae(w:List Int)(h:w.length<=32):(Q3e w).w (λr=>r.length=4*w.length):=by
 have e0:i64.wrap (4*(w.length:Int))=4*w.length:=by rw[wrap_i64];omega
 unfold Q3e
 refine w_cn (by rw[e0];simp [Nat.blt,D.plain];omega) ?_
 refine w_lp (inv:=λz:Int×List Int=>0<=z.1/\z.1<=w.length/\(z.2.length:Int)=4*z.1) (μ:=Q50 w) ⟨by decide,by show(0:Int)<=w.length;omega,rfl⟩ (Nat.lt_succ_self _) λz ⟨z1,z2,z3⟩=> ?_
 refine w_br (λhb=> ?_) (λhb=> ?_)
 . have hb:=oY hb
   have ew:i64.wrap (z.1+1)=z.1+1:=by rw[wrap_i64];omega
   refine w_cn (by simp [Nat.blt];omega) (w_cn (dY (by omega)) (w_nx ?_))
   show(_/\_/\_)/\(_:Nat)<_
   refine⟨⟨by rw[ew];omega,by rw[ew];omega,by rw[ew,lA];simp only[List.length_cons,List.length_nil];omega⟩,by show(w.length-i64.wrap (z.1+1)).toNat<(w.length-z.1).toNat;rw[ew];omega⟩
 . have hb:=oN hb
   show(bytesOf z.2).length=_
   rw[Qd6];omega
theorem Z5e{P:Nat}{m:List Int}(h:Q0n P m)(f:Int):(Q4k m f).w (λr=>0<=f->f<P->r.1.length=128):=by
 have hl:=h.len
 have h2:=h.p2
 unfold Q4k
 refine w_lv λx0 hx0=>w_br (λhb=>λf0 f1=> ?_) (λhb=> ?_)
 . have hp:=Q2k h
   have hb:x0=false:=by simpa using hb
   rw[hb]at hx0
   simp only[Q3i,Q5u,Tree.m,letv,hp]at hx0
   rw[dY f0]at hx0
   exact absurd f1 (oN hx0.symm)
 . have hb:x0=true:=by simpa using hb
   obtain⟨f0,f1⟩:=xN h f (hx0.symm.trans hb)
   have e1:i64.wrap (f*32)=f*32:=by rw[wrap_i64];omega
   have e2:i64.wrap (i64.wrap (f*32)+32)=f*32+32:=by rw[wrap_i64,wrap_i64];omega
   have hlen:(List.take (Int.toNat (i64.wrap (i64.wrap (f*32)+32))-Int.toNat (i64.wrap (f*32))) (List.drop (Int.toNat (i64.wrap (f*32))) m)).length=32:=by
     rw[e2,e1,List.length_take,List.length_drop];omega
   refine w_cn (by rw[e2,e1];simp [Nat.blt];omega) ?_
   refine w_an (by show List.length _<=1000000000000;rw[hlen];decide) (w_lv λx1 h1=> ?_)
   have h1:x1.length=4*(List.take (Int.toNat (i64.wrap (i64.wrap (f*32)+32))-Int.toNat (i64.wrap (f*32))) (List.drop (Int.toNat (i64.wrap (f*32))) m)).length:=by rw[h1];exact(Tree.pp (qae _ (Nat.le_of_eq hlen))).2
   intro _ _
   show x1.length=128
   rw[h1,hlen]
theorem Z7d{f:Int}(hf:U f){P:Nat}(hP:P<=32)(h:decide (u64.wrap f<u64.wrap (P:Int))=true):0<=f/\f<P:=by
 have h:=oY h
 obtain⟨h1,h2⟩:=hf
 rw[wrap_u64,wrap_u64,Int.emod_eq_of_lt h1 (by omega),Int.emod_eq_of_lt (by omega) (by omega)]at h
 exact⟨h1,h⟩
theorem Z9l{P:Nat}{m:List Int}(h:Q0n P m){d:Q09}(hd:Q6g d)(e:Q0s):(Q54 d m e).w (λr=>Q6g r.1/\Q0n P r.2.1/\out d.B0 m r.2.1/\(r.2.2=false->r.2.1=m)/\(∀p,Q11 d p=true->Q11 r.1 p=true)):=by
 have hcl:Q01 m=m:=rfl
 have keep: ∀b:Bool,Q6g d/\Q0n P m/\out d.B0 m m/\(b=false->m=m)/\(∀p,Q11 d p=true->Q11 d p=true):=λb=>⟨hd,h,Qj6 _ _,λ_=>rfl,λ_ h=>h⟩
 have blk: ∀{p:Int},Q11 d p=true->decide (d.Blocks>64)=false:=fun{p} hm=>by
   cases hb:decide (d.Blocks>64)
   . rfl
   . have:Q11 d p=false:=by simp only[Q11,Q49,Tree.m];rw[hb];rfl
     rw[this]at hm;cases hm
 have m2: ∀p,Q11 d p=true->Q11 {Blocks:=d.Blocks,B5:=d.B5,Frame:=d.Frame,B7:=2,D1:=0,B2:=0,B0:=0,B9:=[]} p=true:=λp hm=>by
   simp only[Q11,Q49,Tree.m];rw[blk hm];rfl
 have m3: ∀p,Q11 d p=true->Q11 {Blocks:=d.Blocks,B5:=d.B5,Frame:=d.Frame,B7:=3,D1:=0,B2:=0,B0:=0,B9:=[]} p=true:=λp hm=>by
   simp only[Q11,Q49,Tree.m];rw[blk hm];rfl
 unfold Q54
 refine w_br (λ_=>w_an (Q6h h) (w_lv λx hx=>by rw[hcl]at hx;subst hx;exact keep _)) λ_=>w_br (λ_=>w_an (Q6h h) (w_lv λx hx=>by rw[hcl]at hx;subst hx;exact keep _)) λ_=>w_br (λ_=>w_an (Q6h h) (w_lv λx hx=>by rw[hcl]at hx;subst hx;exact keep _)) λ_=>w_an (Q6h h) (w_lv λx3 hx3=> ?_)
 rw[hcl]at hx3;subst hx3
 have fin: ∀{m':List Int},Q0n P m'->out d.B0 x3 m'->(Tree.br (e.N==1) (.lf (({Blocks:=d.Blocks,B5:=d.B5,Frame:=d.Frame,B7:=2,D1:=0,B2:=0,B0:=0,B9:=[]}:Q09),m',true)) (.lf (({Blocks:=d.Blocks,B5:=d.B5,Frame:=d.Frame,B7:=3,D1:=0,B2:=0,B0:=0,B9:=[]}:Q09),m',true))).w (λr=>Q6g r.1/\Q0n P r.2.1/\out d.B0 x3 r.2.1/\(r.2.2=false->r.2.1=x3)/\(∀p,Q11 d p=true->Q11 r.1 p=true)):=λhm ho=>
   w_br (λ_=>⟨⟨hd.block,hd.frame,U_0,U_0⟩,hm,ho,(λh=>by cases h),m2⟩) (λ_=>⟨⟨hd.block,hd.frame,U_0,U_0⟩,hm,ho,(λh=>by cases h),m3⟩)
 have nod:(Tree.br (!decide (e.C6=[])) (.lf (d,x3,false)) (Tree.br (e.N==1) (.lf (({Blocks:=d.Blocks,B5:=d.B5,Frame:=d.Frame,B7:=2,D1:=0,B2:=0,B0:=0,B9:=[]}:Q09),x3,true)) (.lf (({Blocks:=d.Blocks,B5:=d.B5,Frame:=d.Frame,B7:=3,D1:=0,B2:=0,B0:=0,B9:=[]}:Q09),x3,true)))).w (λr=>Q6g r.1/\Q0n P r.2.1/\out d.B0 x3 r.2.1/\(r.2.2=false->r.2.1=x3)/\(∀p,Q11 d p=true->Q11 r.1 p=true)):=
   w_br (λ_=>keep _) (λ_=>fin h (Qj6 _ _))
 refine w_br (λ_=>w_br (λ_=>w_lv λx4 hx4=>w_br (λ_=>keep _) λhb=> ?_) (λ_=>nod)) (λ_=>nod)
 have hp:=Q2k h
 have hb:x4=true:=by simpa using hb
 rw[hb]at hx4
 simp only[Q6z,Q92,Tree.m,letv,hp]at hx4
 obtain⟨f0,f1⟩:=Z7d hd.opFrame h.p2 hx4.symm
 have ef:i64.wrap d.B0=d.B0:=by have:=h.p2;rw[wrap_i64];omega
 refine Q0c (Qrc h _ _) λx5 ⟨h5,o5,k5⟩=> ?_
 rw[ef]at o5
 exact w_br (λhf=>⟨hd,h5,o5,λ_=>k5 (by simpa using hf),λ_ h=>h⟩) (λ_=>fin h5 o5)
theorem vd{P:Nat}{m:List Int}(h:Q0n P m){n:Q0k}(hn:Qds n)(frame:List UInt8):(Q7a n m frame).w (λr=>Qds r.1/\Q0n P r.2.1/\out n.B6 m r.2.1/\(r.2.2=false->r.2.1=m)/\(∀p,Q44 n p=true->Q44 r.1 p=true)):=by
 have hcl:Q01 m=m:=rfl
 have keep:Qds n/\Q0n P m/\out n.B6 m m/\(false=false->m=m)/\(∀p,Q44 n p=true->Q44 n p=true):=⟨hn,h,Qj6 _ _,λ_=>rfl,λ_ h=>h⟩
 unfold Q7a
 refine w_br (λ_=>w_an (Q6h h) (w_lv λx hx=>by rw[hcl]at hx;subst hx;exact keep)) λhpo=>w_br (λ_=>w_an (Q6h h) (w_lv λx hx=>by rw[hcl]at hx;subst hx;exact keep)) λl1=>w_br (λ_=>w_an (Q6h h) (w_lv λx hx=>by rw[hcl]at hx;subst hx;exact keep)) λl2=>w_lv λx3 hx3=>w_br (λ_=>w_an (Q6h h) (w_lv λx hx=>by rw[hcl]at hx;subst hx;exact keep)) λhb=> ?_
 have l1:=oN l1
 have l2:=oN l2
 have hp:=Q2k h
 have hb:x3=true:=by simpa using hb
 rw[hb]at hx3
 simp only[Q7b,Qb2,Tree.m,letv,hp]at hx3
 obtain⟨f0,f1⟩:=Z7d hn.buffer h.p2 hx3.symm
 have ef:i64.wrap n.B6=n.B6:=by have:=h.p2;rw[wrap_i64];omega
 refine Q0c (Z5e h _) λx5 h5=> ?_
 rw[ef]at h5
 have h5:=h5 f0 f1
 have hmax:(maxLen:Nat)=9223372036854775807:=rfl
 refine w_cn (dY (by omega)) (w_cn (dY (by simp only[List.length_take,List.length_drop,hmax];omega)) (Q0c (Qrc h _ _) λx6 ⟨h6,o6,_⟩=> ?_))
 rw[ef]at o6
 have hg:u32.wrap (frame.length:Int)=frame.length:=by rw[wrap_u32];omega
 refine⟨⟨hn.frame,hn.len,U_0,Q0g _⟩,h6,o6,(λh=>by cases h),λp _=> ?_⟩
 simp only[Q44,Qf6,Tree.m]
 rw[hg,dY (show(frame.length:Int)>=1 by omega),dY (show(frame.length:Int)<=128 by omega)]
 rfl
theorem vT(c:Q0a)(b:Int):(Q7o c b).w (λr=>Q1r c=true->Q1r r.1=true):=by
 have hmax:(maxLen:Nat)=9223372036854775807:=rfl
 unfold Q7o
 refine w_br (λ_=>λh=>h) (λhb=> ?_)
 have hb:=oN hb
 refine w_cn (dY (by rw[hmax];omega)) ?_
 intro _
 show decide (((c.C7++[_]).length:Int)<=16)=true
 rw[lA,List.length_singleton]
 exact dY (by omega)
theorem zz(t:Q0f)(h:Q2w t=true):Q2w (Qfc t).1=true:=by
 simp only[Qfc,Qi7,Tree.m]
 cases ha:t.D0
 . exact h
 . rfl
theorem qe(m:Q00):Q0l m=(Q1r m.A1&&(Q2w m.A6&&(Q11 m.A9 (Q0i m.Mem)&&(Q44 m.C2 (Q0i m.Mem)&&Q1y m.A0 (Q0i m.Mem))))):=by
 simp only[Q0l,Q19,Tree.m,letv]
 cases Q1r m.A1<;>cases Q2w m.A6<;>cases Q11 m.A9 (Q0i m.Mem)<;>cases Q44 m.C2 (Q0i m.Mem)<;>rfl
theorem zae{b c:Q06}(h:c.B8=b.B8)(p:Int):Q1y c p=Q1y b p:=by
 simp only[Q1y,Q2v,Tree.m,h]
theorem cnd{a x y:Bool}(h:x=true->y=true):(bif a then false else x)=true->(bif a then false else y)=true:=by cases a<;>simp_all
def chain(b1 b2 b3 b4 b5 b6 b7 w h dev:Bool):Bool:=bif b1 then false else bif b2 then false else bif b3 then false else bif b4 then false else bif b5 then false else bif b6 then false else bif b7 then false else bif w then(bif h then false else dev) else dev
theorem Z8w{b1 b2 b3 b4 b5 b6 b7 w h d d':Bool}(hd:d=true->d'=true):chain b1 b2 b3 b4 b5 b6 b7 w h d=true->chain b1 b2 b3 b4 b5 b6 b7 w h d'=true:=by
 refine cnd (cnd (cnd (cnd (cnd (cnd (cnd ?_))))))
 cases w
 . exact hd
 . cases h
   . exact hd
   . exact λh=>h
def mayC(p:Int)(c:Q03)(ct:Int)(w h dev:Bool):Bool:=chain (p==0) (c.X.a0 !=0) (decide (c.B3.a0>31)) (decide (c.B3.a7>31)) (decide (c.B3.a6>255)) (Int.tmod c.B3.a1 4 !=0) (decide (ct>1152921504606846976)) w h dev
theorem xe{p:Int}{c:Q03}{ct:Int}{w h d d':Bool}(hd:d=true->d'=true)(g:mayC p c ct w h d=true):mayC p c ct w h d'=true:=Z8w hd g
theorem zN(m:Q00):Q10 m=mayC (Q0i m.Mem) m.B1 m.A4 m.A2 m.A3 (Q0l m):=rfl
theorem Qlv{m n:Q00}(hp:Q0i n.Mem=Q0i m.Mem)(hcpu:n.B1=m.B1)(hct:n.A4=m.A4)(hw:n.A2=m.A2)(hh:n.A3=m.A3)
   (hc:Q1r m.A1=true->Q1r n.A1=true) (ht:Q2w m.A6=true->Q2w n.A6=true) (hd: ∀p,Q11 m.A9 p=true->Q11 n.A9 p=true) (hn: ∀p,Q44 m.C2 p=true->Q44 n.C2 p=true) (hb:n.A0.B8=m.A0.B8) (h:Q10 m=true):Q10 n=true:=by
 have dev:Q0l m=true->Q0l n=true:=λh=>by
   rw[qe]at h⊢
   simp only[aE]at h⊢
   rw[hp,zae hb]
   exact⟨hc h.1,ht h.2.1,hd _ h.2.2.1,hn _ h.2.2.2.1,h.2.2.2.2⟩
 rw[zN]at h⊢
 rw[hp,hcpu,hct,hw,hh]
 exact xe dev h
section
variable {P:Nat} {m:List Int} (h:Q0n P m)
include h
theorem dpage{f:Int}(hf:U f){b:Bool}(hx:b=Q6z m f)(hb:b=true):0<=f/\f<P:=by
 have hp:=Q2k h
 rw[hb]at hx
 simp only[Q6z,Q92,Tree.m,letv,hp]at hx
 exact Z7d hf h.p2 hx.symm
theorem npage{f:Int}(hf:U f){b:Bool}(hx:b=Q7b m f)(hb:b=true):0<=f/\f<P:=by
 have hp:=Q2k h
 rw[hb]at hx
 simp only[Q7b,Qb2,Tree.m,letv,hp]at hx
 exact Z7d hf h.p2 hx.symm
def keepD(P:Nat)(d d':Q09):Prop:=Q6g d'/\(Q11 d P=true->Q11 d' P=true)
theorem ze{d:Q09}(hd:Q6g d){cmd:Int}(hc:cmd=1\/cmd=2)(at0:Int):(Q8w d m cmd at0).w (λr=>keepD P d r.1/\r.2.length<=1):=by
 have h2:=h.p2
 have st3:(d.B7 !=0)=false->keepD P d {Blocks:=d.Blocks,B5:=d.B5,Frame:=d.Frame,B7:=3,D1:=d.D1,B2:=d.B2,B0:=d.B0,B9:=d.B9}:=λhs=>by
   have hs:d.B7=0:=by simpa using hs
   refine⟨⟨hd.block,hd.frame,hd.opBlock,hd.opFrame⟩,λhm=> ?_⟩
   simp only[Q11,Q49,Tree.m,hs]at hm⊢
   exact hm
 have blk:Q11 d P=true->decide (d.Blocks>64)=false:=λhm=>by
   cases hb:decide (d.Blocks>64)
   . rfl
   . have:Q11 d P=false:=by simp only[Q11,Q49,Tree.m];rw[hb];rfl
     rw[this]at hm;cases hm
 unfold Q8w
 refine w_br (λ_=>⟨⟨hd,λh=>h⟩,Nat.zero_le _⟩) λhs=>w_br (λ_=>⟨st3 hs,Nat.zero_le _⟩) λhb=>w_lv λx0 hx=>w_br (λ_=>⟨st3 hs,Nat.zero_le _⟩) λhp=> ?_
 have hb:=oN hb
 obtain⟨f0,f1⟩:=dpage h hd.frame hx (by simpa using hp)
 have ef:i64.wrap d.Frame=d.Frame:=by rw[wrap_i64];omega
 have e1:decide (d.B5<d.Blocks)=true:=dY (by omega)
 have e2:decide (i64.wrap d.Frame<(P:Int))=true:=by rw[ef];exact dY f1
 refine w_br (λhcm=>Q0c (Z5e h _) λx1 h1=> ?_) (λhcm=> ?_)
 . rw[ef]at h1
   have h1:=h1 f0 f1
   have hcm:=eq_of_beq hcm
   subst hcm
   refine w_lv λx2 _=>⟨⟨⟨hd.block,hd.frame,hd.block,hd.frame⟩,λhm=> ?_⟩,Nat.le_refl _⟩
   simp only[Q11,Q49,Q6k,Q57,Tree.m,letv,blk hm,e1,e2,h1]
   rfl
 . have hc:cmd=1:=by
     rcases hc with h|h
     . exact h
     . rw[h]at hcm;exact absurd hcm (by decide)
   subst hc
   refine w_lv λx2 _=>⟨⟨⟨hd.block,hd.frame,hd.block,hd.frame⟩,λhm=> ?_⟩,Nat.le_refl _⟩
   simp only[Q11,Q49,Q6k,Q57,Tree.m,letv,blk hm,e1,e2]
   rfl
theorem qU{d:Q09}(hd:Q6g d)(port:Int){v:Int}(hv:U v)(at0:Int):(Qc4 d m port v at0).w (λr=>keepD P d r.1/\r.2.length<=1):=by
 have keep:keepD P d d:=⟨hd,λh=>h⟩
 have e1: ∀{k:Int},(v==k)=true->i64.wrap v=k:=λhk=>by
   have:=eq_of_beq hk
   obtain⟨a,b⟩:=hv
   rw[wrap_i64];omega
 unfold Qc4
 refine w_br (λ_=>⟨⟨⟨hv,hd.frame,hd.opBlock,hd.opFrame⟩,λh=>h⟩,Nat.zero_le _⟩) λ_=>w_br (λ_=>⟨⟨⟨hd.block,hv,hd.opBlock,hd.opFrame⟩,λh=>h⟩,Nat.zero_le _⟩) λ_=>w_br (λ_=>w_br (λhk=>Q0c (ze h hd (.inl (e1 hk)) _) λx hx=>hx) λ_=>w_br (λhk=>Q0c (ze h hd (.inr (e1 hk)) _) λx hx=>hx) λ_=>w_br (λ_=>w_lv λx hx=>w_br (λhb=> ?_) (λ_=>⟨keep,Nat.zero_le _⟩)) (λ_=>⟨keep,Nat.zero_le _⟩)) (λ_=>⟨keep,Nat.zero_le _⟩)
 refine⟨⟨⟨hd.block,hd.frame,hd.opBlock,hd.opFrame⟩,λhm=> ?_⟩,Nat.zero_le _⟩
 rw[hb]at hx
 simp only[Q6y,Qej,Tree.m]at hx
 cases h2:d.B7==2
 . rw[h2]at hx
   have h3:d.B7=3:=eq_of_beq hx.symm
   simp only[Q11,Q49,Tree.m,h3]at hm⊢
   exact hm
 . have h3:d.B7=2:=eq_of_beq h2
   simp only[Q11,Q49,Tree.m,h3]at hm⊢
   exact hm
def keepN(P:Nat)(n n':Q0k):Prop:=Qds n'/\(Q44 n P=true->Q44 n' P=true)
theorem xae{n:Q0k}(hn:Qds n)(at0:Int):(Qc5 n m at0).w (λr=>r.length<=1):=by
 have h2:=h.p2
 unfold Qc5
 refine w_br (λ_=>Nat.zero_le _) λl1=>w_br (λ_=>Nat.zero_le _) λl2=>w_lv λx0 hx=>w_br (λ_=>Nat.zero_le _) λhp=>Q0c (Z5e h _) λx1 h1=> ?_
 have l1:=oN l1
 have l2:=oN l2
 obtain⟨f0,f1⟩:=npage h hn.frame hx (by simpa using hp)
 have ef:i64.wrap n.Frame=n.Frame:=by rw[wrap_i64];omega
 rw[ef]at h1
 have h1:=h1 f0 f1
 exact w_cn (dY (by omega)) (Nat.le_refl _)
theorem qaf{n:Q0k}(hn:Qds n)(port:Int){v:Int}(hv:U v)(at0:Int):(Qeu n m port v at0).w (λr=>keepN P n r.1/\r.2.length<=1):=by
 have h2:=h.p2
 have keep:keepN P n n:=⟨hn,λh=>h⟩
 unfold Qeu
 refine w_br (λ_=>⟨⟨⟨hv,hn.len,hn.buffer,hn.got⟩,λh=>h⟩,Nat.zero_le _⟩) λ_=>w_br (λ_=>⟨⟨⟨hn.frame,hv,hn.buffer,hn.got⟩,λh=>h⟩,Nat.zero_le _⟩) λ_=>w_br (λ_=>w_br (λ_=>Q0c (xae h hn _) λx hx=>⟨keep,hx⟩) λ_=>w_br (λ_=>w_lv λx hx=>w_br (λhb=>w_br (λnp=>w_br (λnr=> ?_) (λ_=>⟨keep,Nat.zero_le _⟩)) (λ_=>⟨keep,Nat.zero_le _⟩)) (λ_=>⟨keep,Nat.zero_le _⟩)) λ_=>w_br (λ_=> ?_) (λ_=>⟨keep,Nat.zero_le _⟩)) (λ_=>⟨keep,Nat.zero_le _⟩)
 . obtain⟨f0,f1⟩:=npage h hn.frame hx hb
   have np:n.C1=false:=by simpa using np
   have nr:n.B4=false:=by simpa using nr
   have e2:decide (i64.wrap n.Frame>=(P:Int))=false:=dN (by rw[wrap_i64];omega)
   refine⟨⟨⟨hn.frame,hn.len,hn.frame,hn.got⟩,λhm=> ?_⟩,Nat.zero_le _⟩
   simp only[Q44,Qf6,Tree.m,np,nr,e2]at hm⊢
   cases hb:(n.B6 !=0)
   . rw[hb]at hm;exact hm
   . rw[hb]at hm;cases hm
 . refine⟨⟨⟨hn.frame,hn.len,hn.buffer,U_0⟩,λhm=> ?_⟩,Nat.zero_le _⟩
   simp only[Q44,Qf6,Tree.m]at hm⊢
   revert hm
   cases n.C1<;>cases n.B4<;>cases decide (i64.wrap n.B6>=(P:Int))<;>cases(n.B6 !=0)<;>simp
end
theorem xU(t:Q0f)(v:Int):Q2w (Qf4 t v)=true:=by
 simp only[Qf4,Qfz,Q2w,Qg2,Tree.m]
 cases h:(v !=0)
 . have:v=0:=by simpa using h
   subst this;rfl
 . rfl
theorem Qk0{a:Int}(k:Nat)(hk:k<=32):ishr .u32 a k=a/2^k:=by
 unfold ishr
 have e:min (k:Int).toNat u32.bits=k:=by show min (k:Int).toNat 32=k;omega
 have hp:(0:Int)<2^k:=Int.pow_pos (by decide)
 rw[e,Int.fdiv_eq_ediv_of_nonneg _ (Int.le_of_lt hp)]
def Z9h(x:Int)(n:Nat):Prop:=x<2^n/\(n=0\/(2:Int)^(n-1)<=x)
theorem Qz3{x q:Int}{n k:Nat}(hq:q=x/2^k)(h0:0<q)(h:Z9h q n):Z9h x (n+k):=by
 have hp:(0:Int)<2^k:=Int.pow_pos (by decide)
 obtain⟨h1,h2⟩:=h
 have hn:n≠0:=λe=>by subst e;simp at h1;omega
 refine⟨?_, .inr ?_⟩
 . rw[Int.pow_add]
   have:x<(x/2^k+1)*2^k:=Int.lt_ediv_add_one_mul_self x hp
   have h3:(x/2^k+1)*2^k<=2^n*2^k:=Int.mul_le_mul_of_nonneg_right (by omega) (Int.le_of_lt hp)
   omega
 . have h2:=h2.resolve_left hn
   have e:n+k-1=(n-1)+k:=by omega
   rw[e,Int.pow_add]
   have h3:(2:Int)^(n-1)*2^k<=q*2^k:=Int.mul_le_mul_of_nonneg_right h2 (Int.le_of_lt hp)
   have h4:q*2^k<=x:=by rw[hq];exact Int.ediv_mul_le x (Int.ne_of_gt hp)
   omega
theorem yz{x:Int}{n p:Nat}(h:Z9h x n)(hx:x<2^p):n<=p:=by
  obtain⟨h1,h2⟩:=h
  rcases h2 with h2|h2
  . omega
  . rcases Nat.lt_or_ge p n with hlt|hge
    . have:(2:Int)^p<=2^(n-1):=by
        have:=Nat.pow_le_pow_right (show 0<2 by omega) (show p<=n-1 by omega)
        exact_mod_cast this
      omega
    . exact hge
theorem Z3w{x:Int}{n p:Nat}(h:Z9h x n)(hn:n<=p):x<2^p:=by
 have:(2:Int)^n<=2^p:=by
   have:=Nat.pow_le_pow_right (show 0<2 by omega) hn
   exact_mod_cast this
 exact Int.lt_of_lt_of_le h.1 this
def lenChk(i:Nat):Bool:=match(Q14 (i:Int)) with
 | .ofNat n=>decide ((i:Int)<2^n)&&(Nat.beq n 0||decide ((2:Int)^(n-1)<=i))&&decide (n<=8)
 |_=>false
theorem Qlp{q:Int}(h0:0<=q)(h1:q<256): ∃n:Nat,Q14 q=n/\Z9h q n/\n<=8:=by
 have all:List.all (List.range 256) lenChk=true:=by kernel_rfl
 have:=List.all_eq_true.1 all q.toNat (List.mem_range.2 (by omega))
 have hq:((q.toNat:Nat):Int)=q:=by omega
 unfold lenChk at this
 rw[hq]at this
 split at this
 . rename_i n hn
   simp only[aE,Bool.or_eq_true,decide_eq_true_eq]at this
   refine⟨n,hn,⟨this.1.1,?_⟩,this.2⟩
   rcases this.1.2 with h|h
   . exact .inl (bE h)
   . exact .inr h
 . cases this
theorem zaf{x:Int}(h:U x)(hx:16777216<=x):Q14 x=24+Q14 (x/16777216):=by
 obtain⟨h0,h1⟩:=h
 have s16:ishr .u32 x 16=x/65536:=Qk0 16 (by omega)
 have s24:ishr .u32 (x/65536) 8=x/16777216:=by rw[show((8:Int))=((8:Nat):Int) from rfl,Qk0 8 (by omega)];omega
 have d1:decide (x>=65536)=true:=dY (by omega)
 have d2:decide (x/65536>=256)=true:=dY (by omega)
 have d3:decide (x/16777216>=65536)=false:=dN (by omega)
 have d4:decide (x/16777216>=256)=false:=dN (by omega)
 have u:u8.wrap (x/16777216)=x/16777216:=by rw[wrap_u8];omega
 simp only[Q14,Q1a,Tree.m,s16,s24,d1,d2,d3,d4,u,cond_true,cond_false]
 generalize(List.getD _ (Int.toNat (x/16777216)) (0:UInt8))=b
 have hb:=UInt8.toNat_lt b
 rw[wrap_i64,wrap_i64,wrap_i64,wrap_i64]
 omega
theorem xaf{x:Int}(h0:65536<=x)(h1:x<16777216):Q14 x=16+Q14 (x/65536):=by
 have s16:ishr .u32 x 16=x/65536:=Qk0 16 (by omega)
 have d1:decide (x>=65536)=true:=dY (by omega)
 have d2:decide (x/65536>=256)=false:=dN (by omega)
 have d3:decide (x/65536>=65536)=false:=dN (by omega)
 have u:u8.wrap (x/65536)=x/65536:=by rw[wrap_u8];omega
 simp only[Q14,Q1a,Tree.m,s16,d1,d2,d3,u,cond_true,cond_false]
 generalize(List.getD _ (Int.toNat (x/65536)) (0:UInt8))=b
 have hb:=UInt8.toNat_lt b
 rw[wrap_i64,wrap_i64,wrap_i64]
 omega
theorem len_8{x:Int}(h0:256<=x)(h1:x<65536):Q14 x=8+Q14 (x/256):=by
 have s8:ishr .u32 x 8=x/256:=Qk0 8 (by omega)
 have d1:decide (x>=65536)=false:=dN (by omega)
 have d2:decide (x>=256)=true:=dY (by omega)
 have d3:decide (x/256>=65536)=false:=dN (by omega)
 have d4:decide (x/256>=256)=false:=dN (by omega)
 have u:u8.wrap (x/256)=x/256:=by rw[wrap_u8];omega
 simp only[Q14,Q1a,Tree.m,s8,d1,d2,d3,d4,u,cond_true,cond_false]
 generalize(List.getD _ (Int.toNat (x/256)) (0:UInt8))=b
 have hb:=UInt8.toNat_lt b
 rw[wrap_i64,wrap_i64,wrap_i64,wrap_i64]
 omega
theorem Z93{x:Int}(h:U x): ∃n:Nat,Q14 x=n/\Z9h x n:=by
  obtain⟨h0,h1⟩:=h
  rcases Int.lt_or_le x 256 with a|a
  . obtain⟨n,e,l,_⟩:=Qlp h0 a
    exact⟨n,e,l⟩
  . rcases Int.lt_or_le x 65536 with b|b
    . obtain⟨n,e,l,_⟩:=Qlp (q:=x/256) (by omega) (by omega)
      exact⟨n+8,by rw[len_8 a b,e];omega,Qz3 (k:=8) rfl (by omega) l⟩
    . rcases Int.lt_or_le x 16777216 with c|c
      . obtain⟨n,e,l,_⟩:=Qlp (q:=x/65536) (by omega) (by omega)
        exact⟨n+16,by rw[xaf b c,e];omega,Qz3 (k:=16) rfl (by omega) l⟩
      . obtain⟨n,e,l,_⟩:=Qlp (q:=x/16777216) (by omega) (by omega)
        exact⟨n+24,by rw[zaf ⟨h0,h1⟩ c,e];omega,Qz3 (k:=24) rfl (by omega) l⟩
theorem Qtr{b:Q06}(h:U b.B8){P:Nat}:Q1y b P=true↔b.B8<2^P:=by
 obtain⟨n,e,l⟩:=Z93 h
 have hp:(if(0:Int)>(P:Int) then(0:Int) else P)=P:=by rw[if_neg (by omega)]
 simp only[Q1y,Q2v,Tree.m,letv,e,hp,decide_eq_true_eq]
 constructor
 . intro h;exact Z3w l (by omega)
 . intro h;have:=yz l h;omega
theorem Z02{a:Int}(h:U a){P:Nat}(h1:a<2^P):(BitVec.ofInt 32 a).toNat<2^P:=by
 obtain⟨a0,a1⟩:=h
 rw[BitVec.toNat_ofInt,Int.emod_eq_of_lt a0 (by omega)]
 have:((2^P:Nat):Int)=(2:Int)^P:=by exact_mod_cast rfl
 omega
theorem or_lt{a b:Int}(ha:U a)(hb:U b){P:Nat}(hP:P<=32)(h1:a<2^P)(h2:b<2^P):ior .u32 a b<2^P:=by
 have e:(BitVec.ofInt 32 a|||BitVec.ofInt 32 b).toNat<2^P:=by
   rw[BitVec.toNat_or]
   exact Nat.or_lt_two_pow (Z02 ha h1) (Z02 hb h2)
 have hc:((2^P:Nat):Int)=(2:Int)^P:=by exact_mod_cast rfl
 have l:=(BitVec.ofInt 32 a|||BitVec.ofInt 32 b).isLt
 show wrap .u32 ((BitVec.ofInt 32 a|||BitVec.ofInt 32 b).toNat:Int)<2^P
 rw[wrap_u32]
 omega
theorem zU{a b:Int}(ha:U a){P:Nat}(h1:a<2^P):Qbs .u32 a b<2^P:=by
 have e:(BitVec.ofInt 32 a&&&~~~BitVec.ofInt 32 b).toNat<2^P:=by
   rw[BitVec.toNat_and]
   exact Nat.lt_of_le_of_lt Nat.and_le_left (Z02 ha h1)
 have hc:((2^P:Nat):Int)=(2:Int)^P:=by exact_mod_cast rfl
 have l:=(BitVec.ofInt 32 a&&&~~~BitVec.ofInt 32 b).isLt
 show wrap .u32 ((BitVec.ofInt 32 a&&&~~~BitVec.ofInt 32 b).toNat:Int)<2^P
 rw[wrap_u32]
 omega
theorem ye{v:Int}(h0:0<=v)(h1:v<32):ishl .u32 1 v=2^v.toNat:=by
 have e:min v.toNat u32.bits=v.toNat:=by show min v.toNat 32=v.toNat;omega
 obtain⟨n,rfl⟩: ∃n:Nat,v=n:=⟨v.toNat,by omega⟩
 have hn:n<32:=by omega
 have hlt:(2:Nat)^n<4294967296:=by
   have:=Nat.pow_lt_pow_right (show 1<2 by omega) hn
   simpa using this
 have hc:((2^n:Nat):Int)=(2:Int)^n:=by exact_mod_cast rfl
 unfold ishl
 rw[e,wrap_u32,Int.one_mul,Int.toNat_natCast,<-hc]
 clear hc e
 generalize(2:Nat)^n=z at*
 omega
def keepB(P:Nat)(b b':Q06):Prop:=okB b'/\(Q1y b P=true->Q1y b' P=true)
theorem Z81{P:Nat}{m:List Int}(h:Q0n P m){b:Q06}(hb:okB b)(port:Int){v:Int}(hv:U v):(Q2t b m port v).w (λr=>keepB P b r.1/\Q0n P r.2):=by
 have hcl:Q01 m=m:=rfl
 have h2:=h.p2
 have hp:=Q2k h
 have keep:(Tree.an (Q05 m) (.lv (Q01 m) λx=> .lf (b,x))).w (λr=>keepB P b r.1/\Q0n P r.2):=w_an (Q6h h) (w_lv λx hx=>by rw[hcl]at hx;subst hx;exact⟨⟨hb,λh=>h⟩,h⟩)
 unfold Q2t
 refine w_br (λ_=>keep) λhlt=>w_cn (dY hv.1) (w_br (λ_=>w_lv λx1 hx=>w_br (λhpg=>w_br (λ_=>w_an ⟨by decide,by decide,by decide⟩ (w_lv λx2 _=>Q0c (Qrc h _ _) λx3 ⟨h3,_⟩=> ?_)) (λ_=>keep)) (λ_=>keep)) (λ_=>w_br (λ_=>w_an (Q6h h) (w_lv λx hx=> ?_)) (λ_=>keep)))
 . have hlt:=oN hlt
   have hpg:=oY hpg
   rw[hx,hp]at hpg
   obtain⟨v0,v1⟩:=hv
   have ev:i64.wrap v=v:=by rw[wrap_i64];omega
   rw[ev]at hpg
   refine⟨⟨⟨hb.1,Q0g _⟩,λhm=> ?_⟩,h3⟩
   rw[Qtr hb.2]at hm
   rw[Qtr (Q0g _)]
   have hs:ishl .u32 1 v<2^P:=by
     rw[ye v0 (by omega)]
     have:=Nat.pow_lt_pow_right (show 1<2 by omega) (show v.toNat<P by omega)
     exact_mod_cast this
   exact or_lt hb.2 (Q0g _) h2 hm hs
 . rw[hcl]at hx;subst hx
   refine⟨⟨⟨hb.1,Q0g _⟩,λhm=> ?_⟩,h⟩
   rw[Qtr hb.2]at hm
   rw[Qtr (Q0g _)]
   exact zU hb.2 hm
structure kept(P:Nat)(m n:Q00):Prop where
 ok:okS P n
 dev:Q0l m=true->Q0l n=true
 cpu:n.B1=m.B1
 cnt:n.A4=m.A4
 wait:n.A2=m.A2
 halt:n.A3=m.A3
theorem Z1u{P:Nat}{m:Q00}(h:okS P m):kept P m m:=⟨h,λh=>h,rfl,rfl,rfl,rfl⟩
theorem Qiy{P:Nat}{m n:Q00}(hm:Q0n P m.Mem)(hn:Q0n P n.Mem)(hc:Q1r m.A1=true->Q1r n.A1=true)(ht:Q2w m.A6=true->Q2w n.A6=true)
   (hd:Q11 m.A9 P=true->Q11 n.A9 P=true) (hk:Q44 m.C2 P=true->Q44 n.C2 P=true) (hb:Q1y m.A0 P=true->Q1y n.A0 P=true) (h:Q0l m=true):Q0l n=true:=by
 rw[qe]at h⊢
 rw[Q2k hm]at h
 rw[Q2k hn]
 simp only[aE]at h⊢
 exact⟨hc h.1,ht h.2.1,hd h.2.2.1,hk h.2.2.2.1,hb h.2.2.2.2⟩
theorem Z5v{P:Nat}{m:Q00}(h:okS P m)(port:Int){v:Int}(hv:U v)(at0:Int):(Q2l m port v at0).w (λr=>kept P m r.1/\r.2.length<=1):=by
 have k:=Z1u h
 obtain⟨h1,h2,h3,h4,h5,h6⟩:=h
 have id: ∀{p:Prop},p->p:=λh=>h
 have D: ∀(x:Q09×List Q08),(keepD P m.A9 x.1/\x.2.length<=1)->kept P m {B1:=m.B1,Mem:=m.Mem,A1:=m.A1,A6:=m.A6,A9:=x.1,C2:=m.C2,A0:=m.A0,A4:=m.A4,A2:=m.A2,A3:=m.A3}/\x.2.length<=1:=λx hx=>
   ⟨⟨⟨h1,h2,hx.1.1,h4,h5,h6⟩,Qiy h2 h2 id id hx.1.2 id id,rfl,rfl,rfl,rfl⟩,hx.2⟩
 have N: ∀(x:Q0k×List Q08),(keepN P m.C2 x.1/\x.2.length<=1)->kept P m {B1:=m.B1,Mem:=m.Mem,A1:=m.A1,A6:=m.A6,A9:=m.A9,C2:=x.1,A0:=m.A0,A4:=m.A4,A2:=m.A2,A3:=m.A3}/\x.2.length<=1:=λx hx=>
   ⟨⟨⟨h1,h2,h3,hx.1.1,h5,h6⟩,Qiy h2 h2 id id id hx.1.2 id,rfl,rfl,rfl,rfl⟩,hx.2⟩
 have B: ∀(x:Q06×List Int),(keepB P m.A0 x.1/\Q0n P x.2)->kept P m {B1:=m.B1,Mem:=x.2,A1:=m.A1,A6:=m.A6,A9:=m.A9,C2:=m.C2,A0:=x.1,A4:=m.A4,A2:=m.A2,A3:=m.A3}/\([]:List Q08).length<=1:=λx hx=>
   ⟨⟨⟨h1,hx.2,h3,h4,hx.1.1.1,hx.1.1.2⟩,Qiy h2 hx.2 id id id id hx.1.2,rfl,rfl,rfl,rfl⟩,Nat.zero_le _⟩
 unfold Q2l
 repeat'(first
   |exact⟨k,Nat.le_refl _⟩
   |exact⟨k,Nat.zero_le _⟩
   |exact w_lv λx hx=>⟨⟨⟨h1,h2,h3,h4,h5,h6⟩,Qiy h2 h2 id (λ_=>by rw[hx];exact xU _ _) id id id,rfl,rfl,rfl,rfl⟩,Nat.zero_le _⟩
   |exact Q0c (qU h2 h3 _ hv _) λx hx=>D x hx
   |exact Q0c (qaf h2 h4 _ hv _) λx hx=>N x hx
   |exact Q0c (Z81 h2 ⟨h5,h6⟩ _ hv) λx hx=>B x hx
   |refine w_br (λ_=> ?_) (λ_=> ?_))
theorem Qvb(c:Q0a)(port:Int):(Q6u c port).w (λr=>U r.2/\(Q1r c=true->Q1r r.1=true)):=by
 have u1:U 4294967295:=⟨by omega,by omega⟩
 unfold Q6u
 refine w_br (λ_=>w_br (λ_=>⟨u1,λh=>h⟩) (λhb=>w_cn ?_ (w_cn ?_ ⟨Q0g _,λhm=> ?_⟩))) (λ_=>w_br (λ_=>⟨Q0g _,λh=>h⟩) (λ_=>⟨U_0,λh=>h⟩))
 . have hb:=oN hb
   have:0<c.C7.length:=List.length_pos_iff.2 hb
   simp [Nat.blt];omega
 . have hb:=oN hb
   have:0<c.C7.length:=List.length_pos_iff.2 hb
   exact dY (by omega)
 . have hm:decide ((c.C7.length:Int)<=16)=true:=hm
   have hm:=oY hm
   show decide (((List.take _ (List.drop _ c.C7)).length:Int)<=16)=true
   refine dY ?_
   rw[List.length_take,List.length_drop];omega
theorem Z91{P:Nat}{m:Q00}(h:okS P m)(port:Int){clock:Int}(hc:U clock):(Q39 m port clock).w (λr=>kept P m r.1/\U r.2):=by
 have k:=Z1u h
 obtain⟨h1,h2,h3,h4,h5,h6⟩:=h
 have id: ∀{p:Prop},p->p:=λh=>h
 have ti: ∀t,U (Qqh t):=λt=>by
   refine Tree.post (Qj4 t) (W:=U) ?_
   unfold Qj4
   exact w_br (λ_=>⟨by omega,by omega⟩) (λ_=>U_0)
 have di: ∀p,U (Qni m.A9 p):=λp=>by
   refine Tree.post (Qls m.A9 p) (W:=U) ?_
   unfold Qls
   exact w_br (λ_=>h3.block) (λ_=>w_br (λ_=>h3.frame) (λ_=>w_br (λ_=>Q0g _) (λ_=>U_0)))
 have ni: ∀p,U (Qrl m.C2 p):=λp=>by
   refine Tree.post (Qlt m.C2 p) (W:=U) ?_
   unfold Qlt
   exact w_br (λ_=>h4.frame) (λ_=>w_br (λ_=>h4.got) (λ_=>w_br (λ_=>w_br (λ_=>w_br (λ_=>Q0g _) (λ_=>Q0g _)) (λ_=>w_br (λ_=>Q0g _) (λ_=>U_0))) (λ_=>U_0)))
 have bi: ∀p,(Q8s m.A0 p).w U:=λp=>by
   unfold Q8s
   exact w_br (λ_=>h5) (λ_=>w_br (λ_=>Q0c (Z6i h6) λ_ _=>Q0g _) (λ_=>U_0))
 have C: ∀(x:Q0a×Int),(U x.2/\(Q1r m.A1=true->Q1r x.1=true))->kept P m {B1:=m.B1,Mem:=m.Mem,A1:=x.1,A6:=m.A6,A9:=m.A9,C2:=m.C2,A0:=m.A0,A4:=m.A4,A2:=m.A2,A3:=m.A3}/\U x.2:=λx hx=>
   ⟨⟨⟨h1,h2,h3,h4,h5,h6⟩,Qiy h2 h2 hx.2 id id id id,rfl,rfl,rfl,rfl⟩,hx.1⟩
 unfold Q39
 repeat'(first
   |exact⟨k,hc⟩
   |exact⟨k,U_0⟩
   |exact Q0c (Qvb _ _) λx hx=>C x hx
   |exact Z61 (Qvb _ _) λx hx=>C x hx
   |exact w_lv λx hx=>⟨k,by rw[hx];exact ti _⟩
   |exact w_lv λx hx=>⟨k,by rw[hx];exact di _⟩
   |exact w_lv λx hx=>⟨k,by rw[hx];exact ni _⟩
   |exact Q0c (bi _) λx hx=>⟨k,hx⟩
   |refine w_br (λ_=> ?_) (λ_=> ?_))
structure Q5c(c:Q03):Prop where
 x0:c.X.a0=0
 st:c.B3.a0<=31
 en:c.B3.a7<=31
 rt:c.B3.a6<=255
 ve:Int.tmod c.B3.a1 4=0
theorem Q5c.pc{c:Q03}(h:Q5c c)(p:Int):Q5c {X:=c.X,Pc:=p,B3:=c.B3}:=⟨h.x0,h.st,h.en,h.rt,h.ve⟩
theorem and31(a:Int):iand .u32 a 31<=31:=by
 have e:(BitVec.ofInt 32 a&&&BitVec.ofInt 32 31).toNat<=31:=by
   rw[BitVec.toNat_and]
   exact Nat.le_trans Nat.and_le_right (by decide)
 show wrap .u32 ((BitVec.ofInt 32 a&&&BitVec.ofInt 32 31).toNat:Int)<=31
 rw[wrap_u32];omega
theorem and255'(a:Int):iand .u32 a 255<=255:=by have:=and255 a;omega
theorem andn3(a:Int):Int.tmod (Qbs .u32 a 3) 4=0:=by
 have e:(BitVec.ofInt 32 a&&&~~~BitVec.ofInt 32 3).toNat%4=0:=by
   rw[BitVec.toNat_and,show(~~~BitVec.ofInt 32 3).toNat=4294967292 by decide]
   have:=Nat.and_mod_two_pow (a:=(BitVec.ofInt 32 a).toNat) (b:=4294967292) (n:=2)
   simpa using this
 have l:=(BitVec.ofInt 32 a&&&~~~BitVec.ofInt 32 3).isLt
 show Int.tmod (wrap .u32 ((BitVec.ofInt 32 a&&&~~~BitVec.ofInt 32 3).toNat:Int)) 4=0
 rw[wrap_u32,Int.tmod_eq_emod_of_nonneg (by omega)]
 omega
theorem fin32{f:Int->Int}(h:(List.range 32).all (λn=>decide (f n<=31))=true){s:Int}(h0:0<=s)(h1:s<=31):f s<=31:=by
 have:=List.all_eq_true.1 h s.toNat (List.mem_range.2 (by omega))
 have e:((s.toNat:Nat):Int)=s:=by omega
 rw[e]at this
 exact oY this
theorem Qfq{c:Q03}(h:Q21 c)(m:Q5c c)(k b:Int):Q5c (Q3b c k b):=
 ⟨m.x0,fin32 (f:=λs=>Qbs .u32 (ior .u32 (Q6c (Q6c s 1 8) 2 16) 1) 2) (by kernel_rfl) h.a0.1 m.st,m.en,m.rt,m.ve⟩
theorem Z9m{c:Q03}(h:Q21 c)(m:Q5c c):Q5c (Qa6 c):=
 ⟨m.x0,fin32 (f:=λs=>Q6c (Q6c s 8 1) 16 2) (by kernel_rfl) h.a0.1 m.st,m.en,m.rt,m.ve⟩
theorem Qnu{c:Q03}(m:Q5c c){r:Int}(hr:0<=r/\r<16)(v:Int):(Q9d c r v).w Q5c:=by
 unfold Q9d
 refine w_br (λhn=>w_cn (rc hr) ?_) (λ_=>m)
 have hn:r≠0:=by simpa using hn
 obtain⟨n,e⟩: ∃n:Nat,r.toNat=n+1:=⟨r.toNat-1,by omega⟩
 refine⟨?_,m.st,m.en,m.rt,m.ve⟩
 show(A16.of 0 (List.set (A16.l c.X) r.toNat v)).a0=0
 rw[e]
 exact m.x0
theorem qf{c:Q03}(m:Q5c c)(k v:Int):(Q8a c k v).w Q5c:=by
 unfold Q8a
 refine w_br (λhk=>w_cn (by rw[eq_of_beq hk];decide) ?_) λ_=>w_br (λhk=>w_cn (by rw[eq_of_beq hk];decide) ?_) λ_=>w_br (λhk=>w_cn (by rw[eq_of_beq hk];decide) ?_) λ_=>w_br (λhk=>w_cn (by rw[eq_of_beq hk];decide) ?_) λ_=>w_br (λhk=>w_cn (by rw[eq_of_beq hk];decide) ?_) λ_=>w_br (λhk=>w_cn (by rw[eq_of_beq hk];decide) ?_) λ_=>w_br (λhk=>w_cn (by rw[eq_of_beq hk];decide) ?_) λ_=>w_br (λhk=>w_cn (by rw[eq_of_beq hk];decide) ?_) (λ_=>m)
 all_goals(have hk:=eq_of_beq hk;subst hk)
 . exact⟨m.x0,and31 _,m.en,m.rt,m.ve⟩
 . exact⟨m.x0,m.st,and31 _,m.rt,m.ve⟩
 . exact⟨m.x0,m.st,m.en,and255' _,m.ve⟩
 . exact⟨m.x0,m.st,m.en,m.rt,andn3 _⟩
 . exact⟨m.x0,m.st,m.en,m.rt,m.ve⟩
 . exact⟨m.x0,m.st,m.en,m.rt,m.ve⟩
 . exact⟨m.x0,m.st,m.en,m.rt,m.ve⟩
 . exact⟨m.x0,m.st,m.en,m.rt,m.ve⟩
section
variable {c:Q03} (h:Q21 c) (m:Q5c c) {i:Q0e} (hi:Qax i)
include h m hi
theorem Z44:(Q3g c i).w (λr=>Q5c r.1):=by
 unfold Q3g
 refine w_cn (rc hi.a) (w_cn (rc hi.b) ?_)
 repeat'(first
   |refine w_br (λ_=> ?_) (λ_=> ?_)
   |exact Q0c (Qnu m hi.a _) λx hx=>hx.pc _
   |exact w_lv λx _=>w_br (λ_=>m.pc _) (λ_=>m.pc _)
   |exact w_lv λx hx=>by rw[hx];exact Qfq h m _ _
   |exact w_lv λx hx=>by rw[hx];exact Z9m h m
   |exact w_cn (by have:=hi.csr (by simp_all);simp [Nat.blt];omega) (Q0c (Qnu m hi.a _) λx hx=>hx.pc _)
   |exact Q0c (qf m _ _) λx hx=>hx.pc _
   |refine w_cn (rc hi.c) ?_
   |exact Q0c (Qvy _ (h.r _) (Q0g _)) λy hy=>Q0c (Qnu m hi.a _) λx hx=>hx.pc _
   |exact Q0c (Qvy _ (h.r _) (h.r _)) λy hy=>Q0c (Qnu m hi.a _) λx hx=>hx.pc _
   |refine w_lf ?_)
 all_goals exact m.pc _
theorem vz{P:Nat}{mem:List Int}(hm:Q0n P mem):(Qa1 c mem i).w (λr=>Q5c r.1):=by
 have w:=Qxc i.Op
 unfold Qa1
 refine w_cn (rc hi.b) (w_lv λx0 h0=> ?_)
 rw[<-h0]at w
 refine Q0c (Qf hm (Q0g _) w 2) λx1 h1=>w_br (λ_=>w_lv λy hy=>by rw[hy];exact Qfq h m _ _) (λ_=>w_lv λx3 h3=> ?_)
 rw[h0,<-h3]at w
 exact Q0c (Qk4 h1.2 h1.1 w) λx4 h4=>w_br (λ_=>Q0c (Qnp h4.1 8) λy hy=>Q0c (Qnu m hi.a _) λx hx=>hx.pc _) (λ_=>Q0c (Qnu m hi.a _) λx hx=>hx.pc _)
theorem xf{P:Nat}{mem:List Int}(hm:Q0n P mem):(Q8d c mem i).w (λr=>Q5c r.1):=by
 have w:=Qxc i.Op
 unfold Q8d
 refine w_cn (rc hi.b) (w_lv λx0 h0=> ?_)
 rw[<-h0]at w
 refine Q0c (Qf hm (Q0g _) w 3) λx1 h1=>w_br (λ_=>w_lv λy hy=>by rw[hy];exact Qfq h m _ _) (λ_=>w_lv λx3 h3=>w_cn (rc hi.a) ?_)
 rw[h0,<-h3]at w
 exact Q0c (Qqc h1.2 h1.1 w (h.r _)) λx hx=>m.pc _
end
theorem qA{c:Q03}(h:Q21 c)(m:Q5c c){P:Nat}{mem:List Int}(hm:Q0n P mem):(Q5 c mem).w (λr=>Q5c r.1):=by
 unfold Q5
 refine Q0c (Qyl hm h) λx0 h0=>w_br (λ_=>w_lv λy hy=>by rw[hy];exact Qfq h m _ _) (λ_=>Q0c (Qte _) λx2 h2=>w_br (λ_=>w_lv λy hy=>by rw[hy];exact Qfq h m _ _) (λhb=> ?_))
 have hi:=h2 (by simpa using hb)
 refine w_lv λx4 _=> ?_
 repeat'(first
   |refine w_br (λ_=> ?_) (λ_=> ?_)
   |exact Q0c (vz h m hi h0.2) λx hx=>hx
   |exact Q0c (xf h m hi h0.2) λx hx=>hx
   |exact Q0c (Z44 h m hi) λx hx=>hx
   |exact w_lv λy hy=>by rw[hy];exact Qfq h m _ _
   |refine w_lv λ_ _=> ?_)
theorem Z5t{c:Q03}(h:Q21 c){i:Q0e}(hi:Qax i):(Q3g c i).w (λr=>0<=r.2.D2/\r.2.D2<16):=by
 have z:(0:Int)<=0/\(0:Int)<16:=⟨by decide,by decide⟩
 unfold Q3g
 refine w_cn (rc hi.a) (w_cn (rc hi.b) ?_)
 repeat'(first
   |refine w_br (λ_=> ?_) (λ_=> ?_)
   |exact Q0c (Qk1 h hi.a (Q0g _)) λx hx=>z
   |exact w_lv λx _=>w_br (λ_=>z) (λ_=>z)
   |exact w_lv λx hx=>z
   |exact w_cn (by have:=hi.csr (by simp_all);simp [Nat.blt];omega) (Q0c (Qk1 h hi.a (h.a _)) λx hx=>z)
   |exact Q0c (Z76 h _ (h.r _)) λx hx=>z
   |refine w_cn (rc hi.c) ?_
   |exact Q0c (Qvy _ (h.r _) (Q0g _)) λy hy=>Q0c (Qk1 h hi.a hy) λx hx=>z
   |exact Q0c (Qvy _ (h.r _) (h.r _)) λy hy=>Q0c (Qk1 h hi.a hy) λx hx=>z
   |refine w_lf ?_)
 all_goals first|exact z|exact hi.a
theorem Z6{c:Q03}(h:Q21 c){P:Nat}{mem:List Int}(hm:Q0n P mem):(Q5 c mem).w (λr=>0<=r.2.2.D2/\r.2.2.D2<16):=by
 have z:(0:Int)<=0/\(0:Int)<16:=⟨by decide,by decide⟩
 unfold Q5
 refine Q0c (Qyl hm h) λx0 h0=>w_br (λ_=>w_lv λy hy=>z) (λ_=>Q0c (Qte _) λx2 h2=>w_br (λ_=>w_lv λy hy=>z) (λhb=> ?_))
 have hi:=h2 (by simpa using hb)
 refine w_lv λx4 _=> ?_
 repeat'(first
   |refine w_br (λ_=> ?_) (λ_=> ?_)
   |exact Q0c (Qt8 h hi h0.2) λx hx=>z
   |exact Q0c (Qp1 h hi h0.2) λx hx=>z
   |exact Q0c (Z5t h hi) λx hx=>hx
   |exact w_lv λy hy=>z
   |refine w_lv λ_ _=> ?_)
theorem cnd2{a x:Bool}:(bif a then false else x)=true↔a=false/\x=true:=by cases a<;>simp
theorem Qmy(m:Q00):Q10 m=true↔Q0i m.Mem≠0/\Q5c m.B1/\m.A4<=1152921504606846976/\ ¬(m.A2=true/\m.A3=true)/\Q0l m=true:=by
  rw[zN]
  unfold mayC chain
  rw[cnd2,cnd2,cnd2,cnd2,cnd2,cnd2,cnd2]
  simp only[decide_eq_false_iff_not,Int.not_lt,beq_eq_false_iff_ne,bne_eq_false_iff_eq,gt_iff_lt]
  constructor
  . rintro⟨a1,a2,a3,a4,a5,a6,a7,a8⟩
    refine⟨a1,⟨a2,a3,a4,a5,a6⟩,a7,?_,?_⟩
    . rintro⟨w,h⟩;rw[w,h]at a8;cases a8
    . revert a8;cases m.A2
      . exact λh=>h
      . cases m.A3
        . exact λh=>h
        . intro h;cases h
  . rintro⟨a1,⟨a2,a3,a4,a5,a6⟩,a7,a8,a9⟩
    refine⟨a1,a2,a3,a4,a5,a6,a7,?_⟩
    rw[a9]
    cases hw:m.A2
    . rfl
    . cases hh:m.A3
      . rfl
      . exact absurd ⟨hw,hh⟩ a8
theorem Qxj{m:Q00}(h:Q2g m=true):Q10 m=true/\m.A3=false/\m.A4<1152921504606846976:=by
  simp only[Q2g,Q2u,Tree.m,letv]at h
  cases h1:Q10 m
  . rw[h1]at h;cases h
  . cases h2:m.A3
    . rw[h1,h2]at h
      cases h3:Qb0 m
      . rw[h3]at h
        have h:decide (m.A4<1152921504606846976)=true:=h
        exact⟨rfl,rfl,oY h⟩
      . rw[h3]at h;cases h
    . rw[h1,h2]at h;cases h
theorem Z0o{P:Nat}{m:Q00}(h:okS P m)(g:Q5c m.B1):(Q3 m).w (λr=>Q5c r.B1/\okS P r/\r.Mem=m.Mem/\r.A2=false/\r.A3=m.A3/\r.A4=m.A4/\r.A1=m.A1/\r.A6=m.A6/\r.A9=m.A9/\r.C2=m.C2/\r.A0=m.A0):=by
 obtain⟨h1,h2,h3,h4,h5,h6⟩:=h
 unfold Q3
 refine w_br (λ_=>⟨g,⟨h1,h2,h3,h4,h5,h6⟩,rfl,rfl,rfl,rfl,rfl,rfl,rfl,rfl,rfl⟩) (λ_=>Q0c (Qwp (m:=⟨_,_,_,_,_,_,m.A0,_,_,_⟩) h6) λx0 _=>w_lp (inv:=λz=>0<=z/\z<=5) (μ:=Qdk m) ⟨by omega,by omega⟩ (Nat.lt_succ_self _) (λz hz=> ?_))
 obtain⟨z1,z2⟩:=hz
 refine w_br (λhb=>w_cn (dY z1) (w_br (λ_=>w_lv λx1 hx=>⟨by rw[hx];exact Qfq h1 g _ _,⟨by rw[hx];exact Qki h1 _ U_0,h2,h3,h4,h5,h6⟩,rfl,rfl,rfl,rfl,rfl,rfl,rfl,rfl,rfl⟩) (λ_=>w_nx ?_))) (λ_=>⟨g,⟨h1,h2,h3,h4,h5,h6⟩,rfl,rfl,rfl,rfl,rfl,rfl,rfl,rfl,rfl⟩)
 have hb:=oY hb
 show(0<=i64.wrap (z+1)/\i64.wrap (z+1)<=5)/\(5-i64.wrap (z+1)).toNat<(5-z).toNat
 have ew:i64.wrap (z+1)=z+1:=by rw[wrap_i64];omega
 rw[ew];omega
structure Good(P:Nat)(m r:Q00):Prop where
 ok:okS P r
 cnt:0<=r.A4
 may:Q10 m=true->Q10 r=true
 or:r=m\/r.A4=m.A4+1
theorem zf{P:Nat}{m:Q00}(h:okS P m)(hc0:0<=m.A4){clock:Int}(hk:U clock):(Q3l m clock).w (λr=>r.2.length<=1/\Good P m r.1):=by
 have hcl:Q01 m.Mem=m.Mem:=rfl
 unfold Q3l
 refine w_an (Q6h h.mem) (w_lv λl hl=> ?_)
 rw[hcl]at hl;subst hl
 refine w_an (Tree.pp (vp (m:=⟨_,_,_,_,_,_,m.A0,_,_,_⟩) h.given)).1 (w_lv λx1 hx1=>w_br (λ_=>⟨Nat.zero_le _,h,hc0,λh=>h, .inl rfl⟩) (λhb=> ?_))
 have hr:Q2g m=true:=by rw[<-show x1=Q2g m from hx1];simpa using hb
 obtain⟨hm,hh,hct⟩:=Qxj hr
 obtain⟨g1,g2,g3,g4,g5⟩:=(Qmy m).1 hm
 have hP:(P:Int)≠0:=by rw[<-Q2k h.mem];exact g1
 have fin: ∀(n:Q00),okS P n->Q5c n.B1->Q0l n=true->n.A4=m.A4-> ¬(n.A2=true/\n.A3=true)->Good P m {B1:=n.B1,Mem:=n.Mem,A1:=n.A1,A6:=n.A6,A9:=n.A9,C2:=n.C2,A0:=n.A0,A4:=wrap .u64 (n.A4+1),A2:=n.A2,A3:=n.A3}:=λn a b c d e=>by
   have ec:wrap .u64 (n.A4+1)=m.A4+1:=by rw[d,wrap_u64];omega
   refine⟨⟨a.cpu,a.mem,a.disk,a.nic,a.target,a.given⟩,?_,λ_=>(Qmy _).2 ⟨?_,b,?_,e,c⟩, .inr ec⟩
   . show 0<=wrap .u64 (n.A4+1);omega
   . show Q0i n.Mem≠0;rw[Q2k a.mem];exact hP
   . show wrap .u64 (n.A4+1)<=_;omega
 refine Q0c (Z0o (m:=⟨_,_,m.A1,m.A6,m.A9,m.C2,m.A0,m.A4,m.A2,m.A3⟩) ⟨h.cpu,h.mem,h.disk,h.nic,h.target,h.given⟩ g2) λx2 hx2=> ?_
 obtain⟨b1,b2,b3,b4,b5,b6,b7,b8,b9,b10,b11⟩:=hx2
 have ex:=Tree.pp (zaa b2.cpu b2.mem)
 have em:=Tree.pp (qA b2.cpu b1 b2.mem)
 have er:=Tree.pp (Z6 b2.cpu b2.mem)
 refine w_an ex.1 (w_lv λx3 h3=> ?_)
 obtain⟨e1,e2,e3⟩:Q21 x3.1/\Q0n P x3.2.1/\U x3.2.2.Value:=by rw[h3];exact ex.2
 have f1:Q5c x3.1:=by rw[h3];exact em.2
 have r1:0<=x3.2.2.D2/\x3.2.2.D2<16:=by rw[h3];exact er.2
 have ok3:okS P ⟨x3.1,x3.2.1,x2.A1,x2.A6,x2.A9,x2.C2,x2.A0,x2.A4,x2.A2,x2.A3⟩:=⟨e1,e2,b2.disk,b2.nic,b2.target,b2.given⟩
 have dev: ∀(w h:Bool),Q0l ⟨x3.1,x3.2.1,x2.A1,x2.A6,x2.A9,x2.C2,x2.A0,x2.A4,w,h⟩=true:=λw hh=>by
   have id: ∀{p:Prop},p->p:=λh=>h
   refine Qiy (m:=m) (P:=P) h.mem e2 ?_ ?_ ?_ ?_ ?_ g5
   . show _->Q1r x2.A1=true;rw[b7];exact id
   . show _->Q2w x2.A6=true;rw[b8];exact id
   . show _->Q11 x2.A9 P=true;rw[b9];exact id
   . show _->Q44 x2.C2 P=true;rw[b10];exact id
   . show _->Q1y x2.A0 P=true;rw[b11];exact id
 have hw:x2.A2=false:=b4
 have hh2:x2.A3=false:=b5.trans hh
 have hct2:x2.A4=m.A4:=b6
 refine w_br (λ_=> ?_) λ_=>w_br (λ_=> ?_) λ_=>w_br (λ_=> ?_) λ_=>w_br (λ_=> ?_) λ_=> ?_
 . refine Q0c (Z91 ok3 _ hk) λx4 h4=> ?_
   obtain⟨k,u⟩:=h4
   have kc:x4.1.B1=x3.1:=k.cpu
   have kt:x4.1.A4=m.A4:=k.cnt.trans hct2
   have kw: ¬(x4.1.A2=true/\x4.1.A3=true):=λe=>by have:x4.1.A2=x2.A2:=k.wait;rw[this,hw]at e;cases e.1
   have km:Q5c x4.1.B1:=by rw[kc];exact f1
   refine w_br (λhn=>w_cn (rc r1) ⟨Nat.zero_le _,?_⟩) (λ_=>⟨Nat.zero_le _,fin x4.1 k.ok km (k.dev (dev _ _)) kt kw⟩)
   have hn:x3.2.2.D2≠0:=by simpa using hn
   obtain⟨q,e⟩: ∃q:Nat,x3.2.2.D2.toNat=q+1:=⟨x3.2.2.D2.toNat-1,by omega⟩
   refine fin ⟨⟨A16.of 0 (List.set (A16.l x4.1.B1.X) x3.2.2.D2.toNat x4.2),x4.1.B1.Pc,x4.1.B1.B3⟩,x4.1.Mem,x4.1.A1,x4.1.A6,x4.1.A9,x4.1.C2,x4.1.A0,x4.1.A4,x4.1.A2,x4.1.A3⟩ ⟨⟨Z4u k.ok.cpu.x u _,k.ok.cpu.pc,k.ok.cpu.csr⟩,k.ok.mem,k.ok.disk,k.ok.nic,k.ok.target,k.ok.given⟩ ⟨?_,km.st,km.en,km.rt,km.ve⟩ (k.dev (dev _ _)) kt kw
   show(A16.of 0 (List.set (A16.l x4.1.B1.X) x3.2.2.D2.toNat x4.2)).a0=0
   rw[e]
   exact km.x0
 . refine Q0c (Z5v ok3 _ e3 _) λx5 h5=> ?_
   obtain⟨k,u⟩:=h5
   have kc:x5.1.B1=x3.1:=k.cpu
   exact⟨u,fin x5.1 k.ok (by rw[kc];exact f1) (k.dev (dev _ _)) (k.cnt.trans hct2) (λe=>by have:x5.1.A2=x2.A2:=k.wait;rw[this,hw]at e;cases e.1)⟩
 . exact⟨Nat.zero_le _,fin ⟨x3.1,x3.2.1,x2.A1,x2.A6,x2.A9,x2.C2,x2.A0,x2.A4,true,x2.A3⟩ ⟨e1,e2,b2.disk,b2.nic,b2.target,b2.given⟩ f1 (dev _ _) hct2 (λe=>by have e2:x2.A3=true:=e.2;rw[hh2]at e2;cases e2)⟩
 . exact⟨Nat.zero_le _,fin ⟨x3.1,x3.2.1,x2.A1,x2.A6,x2.A9,x2.C2,x2.A0,x2.A4,x2.A2,true⟩ ⟨e1,e2,b2.disk,b2.nic,b2.target,b2.given⟩ f1 (dev _ _) hct2 (λe=>by have e2:x2.A2=true:=e.1;rw[hw]at e2;cases e2)⟩
 . exact⟨Nat.zero_le _,fin ⟨x3.1,x3.2.1,x2.A1,x2.A6,x2.A9,x2.C2,x2.A0,x2.A4,x2.A2,x2.A3⟩ ok3 f1 (dev _ _) hct2 (λe=>by have e2:x2.A2=true:=e.1;rw[hw]at e2;cases e2)⟩
theorem Z73{P:Nat}{m:Q00}(h:okM P m){e:Q0s}(he:U e.N):(Q4z m e).w (λr=>(Q10 m=true->Q10 r.1=true)/\r.1.A4=m.A4/\U r.1.A0.B8):=by
 obtain⟨h1,h2,h3,h4,h5,h7⟩:=h
 have hcl:Q01 m.Mem=m.Mem:=rfl
 have pg: ∀{m':List Int},Q0n P m'->Q0i m'=Q0i m.Mem:=λh=>by rw[Q2k h,Q2k h2]
 have keep:(Q10 m=true->Q10 m=true)/\m.A4=m.A4/\U m.A0.B8:=⟨λh=>h,rfl,h5.2⟩
 unfold Q4z
 refine w_an (Q6h h2) (w_lv λl hl=> ?_)
 rw[hcl]at hl;subst hl
 refine Q0c (qQ (m:=⟨_,_,_,_,_,_,m.A0,_,_,_⟩) h5.2) λx1 _=>w_br (λ_=>keep) λ_=>w_br (λ_=>keep) λ_=> ?_
 refine w_br (λ_=>w_br (λ_=>w_br (λ_=>w_lv λx hx=> ?_) (λ_=>keep)) (λ_=>keep)) λ_=>w_br (λ_=>w_br (λ_=>w_br (λ_=>Q0c (vT _ _) λx hx=> ?_) (λ_=>keep)) (λ_=>keep)) λ_=>w_br (λhk=>Q0c (Z9l h2 h3 e) λx hx=> ?_) λ_=>w_br (λhk=>w_br (λ_=>Q0c (vd h2 h4 _) λx hx=> ?_) (λ_=>keep)) λ_=>w_br (λ_=>w_br (λ_=> ?_) (λ_=>keep)) (λ_=>keep)
 . exact⟨Qlv rfl rfl rfl rfl rfl (λh=>h) (λh=>by rw[hx];exact zz _ h) (λ_ h=>h) (λ_ h=>h) rfl,rfl,h5.2⟩
 . exact⟨Qlv rfl rfl rfl rfl rfl hx (λh=>h) (λ_ h=>h) (λ_ h=>h) rfl,rfl,h5.2⟩
 . obtain⟨a1,a2,a3,a4,a5⟩:=hx
   exact⟨Qlv (pg a2) rfl rfl rfl rfl (λh=>h) (λh=>h) a5 (λ_ h=>h) rfl,rfl,h5.2⟩
 . obtain⟨a1,a2,a3,a4,a5⟩:=hx
   exact⟨Qlv (pg a2) rfl rfl rfl rfl (λh=>h) (λh=>h) (λ_ h=>h) a5 rfl,rfl,h5.2⟩
 . exact⟨Qlv rfl rfl rfl rfl rfl (λh=>h) (λh=>h) (λ_ h=>h) (λ_ h=>h) rfl,rfl,h5.2⟩
structure okW(m:Q00):Prop where
 cpu:Q21 m.B1
 u: ∀w∈m.Mem,U w
 len:m.Mem.length<=1024
 disk:Q6g m.A9
 nic:Qds m.C2
 bal:okB m.A0
 cnt:0<=m.A4
theorem Qmg{a:Int}(h:U a):(BitVec.ofInt 32 a).toNat=a.toNat:=by
 obtain⟨h1,h2⟩:=h
 rw[BitVec.toNat_ofInt];omega
theorem Z5y{a b:Int}(ha:U a)(hb:U b):iand .u32 a b=((a.toNat&&&b.toNat:Nat):Int):=by
 have l:=(BitVec.ofInt 32 a&&&BitVec.ofInt 32 b).isLt
 have e:(BitVec.ofInt 32 a&&&BitVec.ofInt 32 b).toNat=a.toNat&&&b.toNat:=by rw[BitVec.toNat_and,Qmg ha,Qmg hb]
 show wrap .u32 ((BitVec.ofInt 32 a&&&BitVec.ofInt 32 b).toNat:Int)=_
 rw[wrap_u32,<-e];omega
theorem qag{a b:Int}(ha:U a)(hb:U b):ior .u32 a b=((a.toNat|||b.toNat:Nat):Int):=by
 have l:=(BitVec.ofInt 32 a|||BitVec.ofInt 32 b).isLt
 have e:(BitVec.ofInt 32 a|||BitVec.ofInt 32 b).toNat=a.toNat|||b.toNat:=by rw[BitVec.toNat_or,Qmg ha,Qmg hb]
 show wrap .u32 ((BitVec.ofInt 32 a|||BitVec.ofInt 32 b).toNat:Int)=_
 rw[wrap_u32,<-e];omega
theorem Qzz{a:Int}(ha:U a)(k:Nat)(hk:k<=32){q:Int}(hq:q=((2^k-1:Nat):Int)):iand .u32 a q=a%2^k:=by
 have hp:2^k<=2^32:=Nat.pow_le_pow_right (by decide) hk
 have h1:(2:Nat)^32=4294967296:=by decide
 have hpos:=Nat.two_pow_pos k
 subst hq
 rw[Z5y ha ⟨by omega,by omega⟩,Int.toNat_natCast,Nat.and_two_pow_sub_one_eq_mod]
 have:=ha.1
 rw[Int.natCast_emod,Int.toNat_of_nonneg this]
 simp
theorem m15{a:Int}(ha:U a):iand .u32 a 15=a%16:=Qzz ha 4 (by decide) rfl
theorem m255{a:Int}(ha:U a):iand .u32 a 255=a%256:=Qzz ha 8 (by decide) rfl
theorem m65535{a:Int}(ha:U a):iand .u32 a 65535=a%65536:=Qzz ha 16 (by decide) rfl
theorem Qlr(p:Int->Bool)(N:Nat)(h:(List.range N).all (λn=>p n)=true){s:Int}(h0:0<=s)(h1:s<N):p s=true:=by
 have:=List.all_eq_true.1 h s.toNat (List.mem_range.2 (by omega))
 rwa [Int.toNat_of_nonneg h0]at this
theorem w64{x:Int}(h0: -9223372036854775808<=x)(h1:x<9223372036854775808):wrap .i64 x=x:=by rw[wrap_i64];omega
theorem shr0(a:Int):ishr .u32 a 0=a:=by have:=Qk0 (a:=a) 0 (by decide);simpa using this
theorem fld(w:Int):Q23 w 24 8=iand .u32 (ishr .u32 w 24) 255/\Q23 w 20 4=iand .u32 (ishr .u32 w 20) 15/\Q23 w 16 4=iand .u32 (ishr .u32 w 16) 15/\Q23 w 0 16=iand .u32 (ishr .u32 w 0) 65535/\Q23 w 8 8=iand .u32 (ishr .u32 w 8) 255:=
 ⟨by kernel_rfl,by kernel_rfl,by kernel_rfl,by kernel_rfl,by kernel_rfl⟩
def useOf(f:Int):Q6e×Bool:=
 bif f==1 then(⟨false,false,false,0,0⟩,true) else bif f==2 then(⟨true,true,true,0,0⟩,true) else bif f==3 then(⟨true,true,false,-32768,32767⟩,true)
 else bif f==4 then(⟨true,true,false,0,65535⟩,true) else bif f==5 then(⟨true,true,false,0,31⟩,true) else bif f==6 then(⟨true,false,false,0,65535⟩,true)
 else bif f==7 then(⟨true,false,false,-32768,32767⟩,true) else bif f==8 then(⟨true,false,false,0,7⟩,true) else bif f==9 then(⟨true,false,false,0,11⟩,true) else(⟨false,false,false,0,0⟩,false)
def sameU(x y:Q6e×Bool):Bool:=x.1.a==y.1.a&&x.1.b==y.1.b&&x.1.c==y.1.c&&x.1.low==y.1.low&&x.1.C8==y.1.C8&&x.2==y.2
theorem xA{x y:Q6e×Bool}(h:sameU x y=true):x=y:=by
 obtain⟨⟨a,b,c,d,e⟩,f⟩:=x
 obtain⟨⟨a',b',c',d',e'⟩,f'⟩:=y
 simp only[sameU,aE,beq_iff_eq]at h
 obtain⟨⟨⟨⟨⟨rfl,rfl⟩,rfl⟩,rfl⟩,rfl⟩,rfl⟩:=h
 rfl
theorem yN{op:Int}(h0:0<=op)(h1:op<256):Qtv op=useOf (Q1p op):=by
 exact xA (Qlr (λop=>sameU (Qtv op) (useOf (Q1p op))) 256 (by kernel_rfl) h0 h1)
theorem yf{op:Int}(h0:0<=op)(h1:op<256):Q1p op=0\/Q1p op=1\/Q1p op=2\/Q1p op=3\/Q1p op=4\/Q1p op=5\/Q1p op=6\/Q1p op=7\/Q1p op=8\/Q1p op=9:=by
 have:=oY (Qlr (λop=>decide (0<=Q1p op/\Q1p op<=9)) 256 (by kernel_rfl) h0 h1)
 omega
theorem yU{op:Int}(h0:0<=op)(h1:op<256):Q60 op=Q59 op:=by
 exact eq_of_beq (Qlr (λop=>Q60 op==Q59 op) 256 (by kernel_rfl) h0 h1)
theorem zA{a x y:Bool}:(cond a x y=true)↔((a=true/\x=true)\/(a=false/\y=true)):=by cases a<;>simp
theorem Qzk{i:Q0e}(h0:0<=i.Op)(h1:i.Op<256)(hi:wrap .i64 i.Imm=i.Imm):Qas i=Q61 i:=by
 rw[Bool.eq_iff_iff]
 simp only[Qas,Qda,Tree.m,letv,Q61,Qb8,yN h0 h1,hi]
 rcases yf h0 h1 with h|h|h|h|h|h|h|h|h|h<;>rw[h]<;>
 simp [useOf,Q6l,Qan,Q5n,Q94,Qfu,Qfk,Tree.m,letv,zA]<;>omega
theorem sx16{x:Int}(h0:0<=x)(h1:x<65536):wrap .i32 (Q1n x 16)=wrap .i32 (wrap .i16 x):=by
 have e:Q1n x 16=wrap .u32 (ishr .i32 (wrap .i32 (ishl .u32 x 16)) 16):=by kernel_rfl
 have e2: ∀y,ishr .i32 y 16=y/65536:=λy=>by
   show Int.fdiv y 65536=_
   rw[Int.fdiv_eq_ediv_of_nonneg _ (by decide)]
 have e3:ishl .u32 x 16=wrap .u32 (x*65536):=rfl
 have e4:wrap .i16 x=(x+32768)%65536-32768:=by
   simp [wrap,IntKind.bits,IntKind.signed]
   split<;>omega
 rw[e,e2,e3,e4]
 simp only[wrap_i32,wrap_u32]
 omega
theorem sx8{x:Int}(h0:0<=x)(h1:x<256):Q1n x 8=Q34 x 8:=by
 exact eq_of_beq (Qlr (λx=>Q1n x 8==Q34 x 8) 256 (by kernel_rfl) h0 h1)
theorem vf{w:Int}(hw:U w):Qc7 w=Q0u w:=by
 obtain⟨f1,f2,f3,f4,_⟩:=fld w
 obtain⟨w0,w1⟩:=hw
 have s24:ishr .u32 w 24=w/16777216:=by have:=Qk0 (a:=w) 24 (by decide);simpa using this
 have s20:U (ishr .u32 w 20):=Qnv ⟨w0,w1⟩ _
 have s16:U (ishr .u32 w 16):=Qnv ⟨w0,w1⟩ _
 rw[m255 (Qnv ⟨w0,w1⟩ _),s24]at f1
 rw[m15 s20]at f2
 rw[m15 s16]at f3
 rw[shr0]at f4
 have g1:w/16777216%256=w/16777216:=by omega
 rw[g1]at f1
 have o0:0<=w/16777216:=by omega
 have o1:w/16777216<256:=by omega
 have eo:wrap .i64 (w/16777216)=w/16777216:=w64 (by omega) (by omega)
 have i32: ∀x,wrap .i64 (wrap .i32 x)=wrap .i32 x:=λx=>by rw[wrap_i64,wrap_i32];omega
 have l0:=m65535 ⟨w0,w1⟩
 have lx:=sx16 (x:=iand .u32 w 65535) (by omega) (by omega)
 simp only[Qc7,Q5d,Q0u,Q9i,Tree.m,letv,f1,f2,f3,f4,s24,eo,yN o0 o1,m15 s20,m15 s16,lx]
 generalize w/16777216=op at*
 generalize wrap .i64 (ishr .u32 w 20%16)=a
 generalize wrap .i64 (ishr .u32 w 16%16)=b
 generalize iand .u32 w 65535=l
 rw[Qzk (i:=⟨op,a,b,wrap .i64 l,0⟩) o0 o1 rfl,Qzk (i:=⟨op,a,b,0,wrap .i32 (wrap .i16 l)⟩) o0 o1 (i32 _),Qzk (i:=⟨op,a,b,0,wrap .i32 l⟩) o0 o1 (i32 _)]
 rcases yf o0 o1 with h|h|h|h|h|h|h|h|h|h<;>rw[h]<;>rfl
theorem vU(x v:BitVec 32)(s:Nat)(hs:s<=24):((x&&&~~~(255#32<<<s))|||((v&&&255#32)<<<s)).toNat=2^(s+8)*(x.toNat/2^(s+8))+(2^s*(v.toNat%256)+x.toNat%2^s):=by
  have hx:=x.isLt
  have h1:x.toNat%2^s<2^s:=Nat.mod_lt _ (Nat.two_pow_pos s)
  have h2:2^s*(v.toNat%256)+x.toNat%2^s<2^(s+8):=by
    have:v.toNat%256<256:=Nat.mod_lt _ (by decide)
    have h3:2^s*(v.toNat%256)<=2^s*255:=Nat.mul_le_mul_left _ (by omega)
    have:2^(s+8)=2^s*256:=by rw[Nat.pow_add]
    omega
  rw[Nat.two_pow_add_eq_or_of_lt h2,Nat.two_pow_add_eq_or_of_lt h1]
  apply Nat.eq_of_testBit_eq
  intro i
  rw[BitVec.testBit_toNat]
  simp only[BitVec.getLsbD_or,BitVec.getLsbD_and,BitVec.getLsbD_not,BitVec.getLsbD_shiftLeft,Nat.testBit_or,Nat.testBit_two_pow_mul,Nat.testBit_mod_two_pow,Nat.testBit_div_two_pow,BitVec.getLsbD_ofNat]
  have e255: ∀j,Nat.testBit 255 j=decide (j<8):=λj=>by
    rw[show 255=2^8-1 from rfl,Nat.testBit_two_pow_sub_one]
  have e256: ∀n j,Nat.testBit (n%256) j=(decide (j<8)&&Nat.testBit n j):=λn j=>by
    rw[show 256=2^8 from rfl,Nat.testBit_mod_two_pow]
  rw[e255,e256]
  by_cases hi:i<32
  . by_cases a1:i<s
    . have a2: ¬(s<=i):=by omega
      have a3: ¬(s+8<=i):=by omega
      simp [hi,a1,a2,a3,BitVec.getLsbD]
    . by_cases a4:s+8<=i
      . have a2: ¬(i-s<8):=by omega
        have a5:i-(s+8)+(s+8)=i:=by omega
        have a6:s<=i:=by omega
        simp [hi,a1,a2,a4,a5,a6,BitVec.getLsbD]
      . have a2:(i-s<8):=by omega
        have a6:s<=i:=by omega
        have a7:i-s<32:=by omega
        simp [hi,a1,a2,a4,a6,a7,BitVec.getLsbD]
  . have a0:x.toNat.testBit i=false:=Nat.testBit_lt_two_pow (Nat.lt_of_lt_of_le hx (Nat.pow_le_pow_right (by decide) (by omega)))
    have a1: ¬(i<s):=by omega
    have a2: ¬(i-s<8):=by omega
    have a4:s+8<=i:=by omega
    have a5:i-(s+8)+(s+8)=i:=by omega
    simp [hi,a0,a1,a2,a4,a5]
theorem Qve(b:BitVec 32):BitVec.ofInt 32 (wrap .u32 (b.toNat:Int))=b:=by
 have:=b.isLt
 rw[wrap_u32]
 apply BitVec.eq_of_toNat_eq
 rw[BitVec.toNat_ofInt];omega
theorem Z9c(x:Int):BitVec.ofInt 32 (wrap .u32 x)=BitVec.ofInt 32 x:=by
 apply BitVec.eq_of_toNat_eq
 rw[BitVec.toNat_ofInt,BitVec.toNat_ofInt,wrap_u32]
 have:((2^32:Nat):Int)=4294967296:=by decide
 rw[this,Int.emod_emod_of_dvd _ (Int.dvd_refl _)]
theorem Z38{x:Int}(hx:U x)(s:Nat)(hs:s<=32):BitVec.ofInt 32 (ishl .u32 x s)=BitVec.ofInt 32 x<<<s:=by
 obtain⟨n,rfl⟩: ∃n:Nat,x=n:=⟨x.toNat,by have:=hx.1;omega⟩
 have e:min (Int.toNat (s:Int)) u32.bits=s:=by show min (Int.toNat (s:Int)) 32=s;omega
 unfold ishl
 rw[e,Z9c]
 have e2:((n:Int)*2^s)=((n*2^s:Nat):Int):=by simp
 have:=hx.2
 rw[e2,BitVec.ofInt_natCast,BitVec.ofInt_natCast]
 apply BitVec.eq_of_toNat_eq
 rw[BitVec.toNat_shiftLeft,BitVec.toNat_ofNat,BitVec.toNat_ofNat,Nat.shiftLeft_eq,Nat.mod_mul_mod]
def putW(W v:Int)(s:Nat):Int:=ior .u32 (Qbs .u32 W (ishl .u32 255 s)) (ishl .u32 (iand .u32 v 255) s)
theorem xV{W v:Int}(hW:U W)(hv:U v)(s:Nat)(hs:s<=24):putW W v s=2^(s+8)*(W/2^(s+8))+(2^s*(v%256)+W%2^s):=by
 have e:=vU (BitVec.ofInt 32 W) (BitVec.ofInt 32 v) s hs
 have l:=((BitVec.ofInt 32 W&&&~~~(255#32<<<s))|||((BitVec.ofInt 32 v&&&255#32)<<<s)).isLt
 have h1:BitVec.ofInt 32 (Qbs .u32 W (ishl .u32 255 s))=BitVec.ofInt 32 W&&&~~~(255#32<<<s):=by
   show BitVec.ofInt 32 (wrap .u32 (BitVec.ofInt 32 W&&&~~~BitVec.ofInt 32 (ishl .u32 255 s)).toNat)=_
   rw[Qve,Z38 ⟨by decide,by decide⟩ s (by omega)]
   rfl
 have h2:BitVec.ofInt 32 (ishl .u32 (iand .u32 v 255) s)=(BitVec.ofInt 32 v&&&255#32)<<<s:=by
   rw[Z38 (Z56 _ _) s (by omega)]
   congr 1
   show BitVec.ofInt 32 (wrap .u32 (BitVec.ofInt 32 v&&&BitVec.ofInt 32 255).toNat)=_
   rw[Qve];rfl
 show wrap .u32 ((BitVec.ofInt 32 (Qbs .u32 W (ishl .u32 255 s))|||BitVec.ofInt 32 (ishl .u32 (iand .u32 v 255) s)).toNat:Int)=_
 rw[h1,h2]
 have lw:wrap .u32 ((((BitVec.ofInt 32 W&&&~~~(255#32<<<s))|||((BitVec.ofInt 32 v&&&255#32)<<<s)).toNat:Nat):Int)=(((BitVec.ofInt 32 W&&&~~~(255#32<<<s))|||((BitVec.ofInt 32 v&&&255#32)<<<s)).toNat:Nat):=by rw[wrap_u32];omega
 rw[lw,e,Qmg hW,Qmg hv]
 obtain⟨n,rfl⟩: ∃n:Nat,W=n:=⟨W.toNat,by have:=hW.1;omega⟩
 obtain⟨k,rfl⟩: ∃n:Nat,v=n:=⟨v.toNat,by have:=hv.1;omega⟩
 simp
def dig(w:Int)(k:Nat):Int:=if k=0 then w%256 else if k=1 then w/256%256 else if k=2 then w/65536%256 else w/16777216%256
def byt(m:List Int)(a:Nat):Int:=dig (m.getD (a/4) 0) (a%4)
theorem qg(w:Int)(k:Nat):0<=dig w k/\dig w k<256:=by
 unfold dig
 split
 . omega
 . split
   . omega
   . split<;>omega
theorem zV{w v:Int}(hw:U w)(hv:U v)(h: ∀k,k<4->dig w k=dig v k):w=v:=by
 have h0:=h 0 (by omega)
 have h1:=h 1 (by omega)
 have h2:=h 2 (by omega)
 have h3:=h 3 (by omega)
 simp [dig]at h0 h1 h2 h3
 obtain⟨a,b⟩:=hw
 obtain⟨c,d⟩:=hv
 omega
theorem Z5k{m n:List Int}(hl:m.length=n.length)(hm: ∀w∈m,U w)(hn: ∀w∈n,U w)(h: ∀a,byt m a=byt n a):m=n:=by
 refine List.ext_getElem hl λi h1 h2=> ?_
 have e1:m[i]=m.getD i 0:=by simp [List.getD,h1]
 have e2:n[i]=n.getD i 0:=by simp [List.getD,h2]
 rw[e1,e2]
 refine zV (Qfd hm i) (Qfd hn i) λk hk=> ?_
 have:=h (4*i+k)
 simp only[byt]at this
 rwa [show(4*i+k)/4=i by omega,show(4*i+k)%4=k by omega]at this
theorem Ql6{l:List Int}{i:Nat}(h:i<l.length)(v:Int):(l.set i v).getD i 0=v:=by
 simp [List.getD,h]
theorem Z42{m:List Int}{i:Nat}(hi:i<m.length)(v:Int)(a:Nat):byt (m.set i v) a=if a/4=i then dig v (a%4) else byt m a:=by
 unfold byt
 split
 . rename_i h;rw[h,Ql6 hi]
 . rename_i h;rw[getDset _ _ _ _ (λe=>h e.symm)]
theorem yV{W v:Int}(hW:U W)(hv:U v){j:Nat}(hj:j<4){k:Nat}(hk:k<4):dig (putW W v (8*j)) k=if k=j then v%256 else dig W k:=by
 have h:=xV hW hv (8*j) (by omega)
 rw[h]
 obtain⟨w0,w1⟩:=hW
 have h0:0<=v%256:=by omega
 have h1:v%256<256:=by omega
 generalize v%256=b at*
 clear h
 have hj:j=0\/j=1\/j=2\/j=3:=by omega
 have hk:k=0\/k=1\/k=2\/k=3:=by omega
 rcases hj with rfl|rfl|rfl|rfl<;>rcases hk with rfl|rfl|rfl|rfl<;>simp [dig]<;>omega
theorem vV{m:List Int}{a v:Int}(ha:U a):Q87 m a 1 v=m.set (a/4).toNat (putW (m.getD (a/4).toNat 0) v (8*(a%4).toNat)):=by
 obtain⟨a0,a1⟩:=ha
 have e1:wrap .u32 (Int.tdiv a 4)=a/4:=by rw[wrap_u32,Int.tdiv_eq_ediv_of_nonneg a0];omega
 have e2:wrap .u32 (8*Int.tmod a 4)=((8*(a%4).toNat:Nat):Int):=by rw[wrap_u32,Int.tmod_eq_emod_of_nonneg a0];omega
 have e3:((1:Int)==4)=false:=rfl
 simp only[Q87,Qce,Tree.m,e1,e2,e3,cond_false]
 rfl
theorem xg{P:Nat}{m:List Int}(h:Q0n P m){a v:Int}(ha:U a)(hl:a<128*P)(hv:U v):Q0n P (Q87 m a 1 v)/\ ∀b:Nat,byt (Q87 m a 1 v) b=if(b:Int)=a then v%256 else byt m b:=by
 have hlen:=h.len
 have a0:=ha.1
 rw[vV ha]
 have hi:(a/4).toNat<m.length:=by omega
 refine⟨⟨by rw[List.length_set];exact hlen,h.p1,h.p2,Quy h.u (U_or _ _) _⟩,λb=> ?_⟩
 rw[Z42 hi]
 by_cases hb:b/4=(a/4).toNat
 . rw[if_pos hb,yV (Qfd h.u _) hv (by omega) (by omega)]
   by_cases hc:b%4=(a%4).toNat
   . rw[if_pos hc,if_pos (by omega)]
   . rw[if_neg hc,if_neg (by omega),byt,hb]
 . rw[if_neg hb,if_neg (by omega)]
theorem vN{P:Nat}{m:List Int}(h:Q0n P m){frame:Int}(f0:0<=frame)(f1:frame<P)(s:List UInt8):(Q8b m frame s).w (λr=>Q0n P r/\ ∀b:Nat,byt r b=if frame*128<=b/\(b:Int)<frame*128+min s.length 128 then((s.getD (b-frame*128).toNat 0).toNat:Int) else byt m b):=by
 unfold Q8b
 have h3:=h.p2
 refine w_lp (inv:=λz=>0<=z.1/\z.1<=min s.length 128/\Q0n P z.2/\ ∀b:Nat,byt z.2 b=if frame*128<=b/\(b:Int)<frame*128+z.1 then((s.getD (b-frame*128).toNat 0).toNat:Int) else byt m b) (μ:=Qcp m frame s) ⟨show(0:Int)<=0 by decide,by show(0:Int)<=_;omega,h,λb=>by rw[if_neg];show¬(_/\_<_+(0:Int));omega⟩ (Nat.lt_succ_self _) (λv0 hv0=> ?_)
 obtain⟨i,mm⟩:=v0
 obtain⟨i0,i1,hm,hy⟩:=hv0
 have i0:0<=i:=i0
 have i1:i<=min s.length 128:=i1
 have hm:Q0n P mm:=hm
 have fin: ∀r:List Int,r=mm->i=min s.length 128->Q0n P r/\ ∀b:Nat,byt r b=if frame*128<=b/\(b:Int)<frame*128+min s.length 128 then((s.getD (b-frame*128).toNat 0).toNat:Int) else byt m b:=λr hr hi=>by
   subst hr;refine⟨hm,λb=> ?_⟩
   rw[hy b];simp only[hi]
 refine w_br (λh1=>w_br (λh2=>w_cn ?_ ?_) (λh2=>fin mm rfl ?_)) (λh1=>fin mm rfl ?_)
 . have:=oY h1
   simp [Nat.blt];omega
 . have h1:i<s.length:=oY h1
   have h2:i<128:=oY h2
   have e:wrap u32 (wrap i64 (wrap i64 (frame*128)+i))=frame*128+i:=by
     rw[wrap_u32,wrap_i64,wrap_i64];omega
   show(Tree.an (Qdy mm (wrap u32 (wrap i64 (wrap i64 (frame*128)+i))) 1 _) (Tree.lv _ _)).w _
   rw[e]
   have hu:U (frame*128+i):=⟨by omega,by omega⟩
   have hvU: ∀n:Nat,U (wrap .u32 (n:Int)):=λn=>Q0g _
   obtain⟨g1,_⟩:=Tree.pp (put_w hm (size:=1) (addr:=frame*128+i) hu (by rw[hm.len];omega) (hvU (UInt8.toNat (s.getD i.toNat 0))))
   obtain⟨g2,g3⟩:=xg hm hu (by omega) (hvU (UInt8.toNat (s.getD i.toNat 0)))
   refine w_an g1 (w_lv λx0 hx0=> ?_)
   rw[hx0]
   have ew:i64.wrap (i+1)=i+1:=by rw[wrap_i64];omega
   refine w_nx ?_
   show(0<=i64.wrap (i+1)/\i64.wrap (i+1)<=min s.length 128/\Q0n P _/\ ∀b:Nat,byt _ b=if frame*128<=b/\(b:Int)<frame*128+i64.wrap (i+1) then _ else _)/\(128-i64.wrap (i+1)).toNat<(128-i).toNat
   rw[ew]
   refine⟨⟨by omega,by omega,g2,λb=> ?_⟩,by omega⟩
   rw[show Q87 mm (frame*128+i) 1 _=_ from rfl,g3 b]
   by_cases hb:(b:Int)=frame*128+i
   . rw[if_pos hb,if_pos (by omega),wrap_u32]
     have:=(s.getD i.toNat 0).toNat_lt
     rw[show(b-frame*128).toNat=i.toNat by omega];omega
   . rw[if_neg hb,hy b]
     show(if frame*128<=(b:Int)/\(b:Int)<frame*128+i then _ else _)=_
     by_cases hc:frame*128<=(b:Int)/\(b:Int)<frame*128+i
     . rw[if_pos hc,if_pos (by omega)]
     . rw[if_neg hc,if_neg (by omega)]
 . have h1:i<s.length:=oY h1
   have h2: ¬i<128:=oN h2
   omega
 . have h1: ¬i<s.length:=oN h1
   omega
theorem zg{x y:Int}(hx:U x)(hy:U y)(k:Nat)(hk:x<2^k)(h:x+y*2^k<4294967296):ior .u32 x (y*2^k)=x+y*2^k:=by
 obtain⟨n,rfl⟩: ∃n:Nat,x=n:=⟨x.toNat,by have:=hx.1;omega⟩
 obtain⟨z,rfl⟩: ∃n:Nat,y=n:=⟨y.toNat,by have:=hy.1;omega⟩
 have e:((z:Int)*2^k)=((z*2^k:Nat):Int):=by simp
 rw[e]at h⊢
 have hn:n<2^k:=by exact_mod_cast hk
 rw[qag hx ⟨by omega,by omega⟩,Int.toNat_natCast,Int.toNat_natCast,Nat.or_comm,Nat.mul_comm,<-Nat.two_pow_add_eq_or_of_lt hn]
 omega
theorem four{a b c d:Int}(ha:0<=a/\a<256)(hb:0<=b/\b<256)(hc:0<=c/\c<256)(hd:0<=d/\d<256):ior .u32 (ior .u32 (ior .u32 (wrap .u32 a) (ishl .u32 (wrap .u32 b) 8)) (ishl .u32 (wrap .u32 c) 16)) (ishl .u32 (wrap .u32 d) 24)=a+b*2^8+c*2^16+d*2^24:=by
 have w: ∀{x:Int},0<=x/\x<256->wrap .u32 x=x:=λhx=>by rw[wrap_u32];omega
 have s8: ∀{x:Int},0<=x/\x<256->ishl .u32 x 8=x*2^8:=fun{x} hx=>by show wrap .u32 (x*2^8)=_;rw[wrap_u32];omega
 have s16: ∀{x:Int},0<=x/\x<256->ishl .u32 x 16=x*2^16:=fun{x} hx=>by show wrap .u32 (x*2^16)=_;rw[wrap_u32];omega
 have s24: ∀{x:Int},0<=x/\x<256->ishl .u32 x 24=x*2^24:=fun{x} hx=>by show wrap .u32 (x*2^24)=_;rw[wrap_u32];omega
 rw[w ha,w hb,w hc,w hd,s8 hb,s16 hc,s24 hd]
 rw[zg ⟨by omega,by omega⟩ ⟨by omega,by omega⟩ 8 (by omega) (by omega),zg ⟨by omega,by omega⟩ ⟨by omega,by omega⟩ 16 (by omega) (by omega),zg ⟨by omega,by omega⟩ ⟨by omega,by omega⟩ 24 (by omega) (by omega)]
theorem yA{a b c d:Int}(ha:0<=a/\a<256)(hb:0<=b/\b<256)(hc:0<=c/\c<256)(hd:0<=d/\d<256)(k:Nat)(hk:k<4):dig (a+b*2^8+c*2^16+d*2^24) k=if k=0 then a else if k=1 then b else if k=2 then c else d:=by
 have hk:k=0\/k=1\/k=2\/k=3:=by omega
 rcases hk with rfl|rfl|rfl|rfl<;>simp [dig]<;>omega
theorem Qym{P:Nat}{m:List Int}(h:Q0n P m)(f:Int):Q3i m f=decide (0<=f/\f<P):=by
 have hp:=Q2k h
 simp only[Q3i,Q5u,Tree.m,letv,hp]
 by_cases h1:0<=f
 . rw[dY h1];simp [h1]
 . rw[dN h1];simp [h1]
theorem vA(s:List UInt8)(a b k:Nat)(h:k<b):(List.take b (List.drop a s)).getD k 0=s.getD (a+k) 0:=by
 simp [List.getD_eq_getElem?_getD,List.getElem?_take,h]
theorem u8I(x:UInt8):0<=(x.toNat:Int)/\(x.toNat:Int)<256:=by have:=x.toNat_lt;omega
theorem Qt1{P:Nat}{m:List Int}(h:Q0n P m){f:Int}(f0:0<=f)(f1:f<P){s:List UInt8}(hs:s.length=128):(Q2f m f s).w (λr=>r.2=true/\Q0n P r.1/\ ∀b:Nat,byt r.1 b=if f*128<=b/\(b:Int)<f*128+128 then((s.getD (b-f*128).toNat 0).toNat:Int) else byt m b):=by
  have hcl:Q01 m=m:=rfl
  have h2:=h.p2
  unfold Q2f
  refine w_an (Q6h h) (w_lv λx0 hx0=>w_lv λx1 hx1=> ?_)
  rw[hcl]at hx0;subst hx0
  rw[Qym h,dY ⟨f0,f1⟩]at hx1
  subst hx1
  refine w_br (λhb=>by cases hb) λ_=>w_br (λhb=>by simp [hs]at hb) λ_=> ?_
  refine w_lp (inv:=λz:Int×List Int=>0<=z.1/\z.1<=32/\Q0n P z.2/\ ∀b:Nat,byt z.2 b=if f*128<=b/\(b:Int)<f*128+4*z.1 then((s.getD (b-f*128).toNat 0).toNat:Int) else byt x0 b) (μ:=Q7k x0 f s) ⟨show(0:Int)<=0 by decide,show(0:Int)<=32 by decide,h,λb=>by rw[if_neg];show¬(_/\_<_+4*(0:Int));omega⟩ (Nat.lt_succ_self _) λz ⟨z1,z2,z3,z4⟩=> ?_
  refine w_br (λhb=> ?_) (λhb=>⟨rfl,z3,λb=> ?_⟩)
  . have hb:=oY hb
    have e1:i64.wrap (4*z.1)=4*z.1:=by rw[wrap_i64];omega
    have e2:i64.wrap (i64.wrap (4*z.1)+4)=4*z.1+4:=by rw[wrap_i64,wrap_i64];omega
    have e3:i64.wrap (i64.wrap (f*32)+z.1)=f*32+z.1:=by rw[wrap_i64,wrap_i64];omega
    have hl:=z3.len
    have cut:Int.toNat (i64.wrap (i64.wrap (4*z.1)+4))-Int.toNat (i64.wrap (4*z.1))=4:=by rw[e2,e1];omega
    have hlen:(List.take (Int.toNat (i64.wrap (i64.wrap (4*z.1)+4))-Int.toNat (i64.wrap (4*z.1))) (List.drop (Int.toNat (i64.wrap (4*z.1))) s)).length=4:=by
      rw[cut,e1,List.length_take,List.length_drop];omega
    refine w_cn (dY (by rw[e2,e1];omega)) ?_
    refine w_cn (dY (by rw[hlen];decide)) (w_cn (dY (by rw[hlen];decide)) (w_cn (dY (by rw[hlen];decide)) (w_cn (dY (by rw[hlen];decide)) (w_cn (by rw[e3];simp [Nat.blt];omega) (w_nx ?_)))))
    have ew:i64.wrap (z.1+1)=z.1+1:=by rw[wrap_i64];omega
    rw[cut]
    refine⟨⟨by show 0<=i64.wrap (z.1+1);rw[ew];omega,by show i64.wrap (z.1+1)<=32;rw[ew];omega,?_,?_⟩,by show(32-i64.wrap (z.1+1)).toNat<(32-z.1).toNat;rw[ew];omega⟩
    . show Q0n P (List.set _ _ _)
      exact⟨by rw[List.length_set];exact hl,z3.p1,z3.p2,Quy z3.u (U_or _ _) _⟩
    . intro b
      show byt (List.set z.2 (Int.toNat (i64.wrap (i64.wrap (f*32)+z.1))) _) b=if f*128<=(b:Int)/\(b:Int)<f*128+4*i64.wrap (z.1+1) then _ else _
      rw[e3,ew,four (u8I _) (u8I _) (u8I _) (u8I _),Z42 (by omega)]
      have g: ∀k:Nat,k<4->(List.take 4 (List.drop (Int.toNat (i64.wrap (4*z.1))) s)).getD k 0=s.getD ((4*z.1).toNat+k) 0:=λk hk=>by rw[e1];exact vA _ _ _ _ hk
      by_cases hc:b/4=(f*32+z.1).toNat
      . have hin:f*128<=(b:Int)/\(b:Int)<f*128+4*(z.1+1):=by omega
        rw[if_pos hc,yA (u8I _) (u8I _) (u8I _) (u8I _) _ (by omega),if_pos hin]
        have hb4:b%4=0\/b%4=1\/b%4=2\/b%4=3:=by omega
        have gi:(b-f*128).toNat=(4*z.1).toNat+b%4:=by omega
        rw[gi]
        rcases hb4 with h4|h4|h4|h4<;>rw[h4]
        . rw[if_pos rfl,<-g 0 (by omega)];rfl
        . rw[if_neg (by decide),if_pos rfl,<-g 1 (by omega)];rfl
        . rw[if_neg (by decide),if_neg (by decide),if_pos rfl,<-g 2 (by omega)];rfl
        . rw[if_neg (by decide),if_neg (by decide),if_neg (by decide),<-g 3 (by omega)];rfl
      . rw[if_neg hc,z4 b]
        by_cases hd:f*128<=(b:Int)/\(b:Int)<f*128+4*z.1
        . rw[if_pos hd,if_pos (by omega)]
        . rw[if_neg hd,if_neg (by omega)]
  . have hb:=oN hb
    show byt z.2 b=_
    rw[z4 b,show z.1=32 by omega]
    rfl
theorem Qyw{α:Type}(l l2:List α)(k:Nat)(z:α):(l++l2).getD k z=if k<l.length then l.getD k z else l2.getD (k-l.length) z:=by
 simp only[List.getD_eq_getElem?_getD,List.getElem?_append]
 split<;>rfl
theorem u8w{x:Int}:wrap .u8 x=x%256:=wrap_u8 x
theorem shr_c(W:Int):ishr .u32 W 8=W/256/\ishr .u32 W 16=W/65536/\ishr .u32 W 24=W/16777216:=by
 refine⟨?_,?_,?_⟩
 . show Int.fdiv W 256=_;rw[Int.fdiv_eq_ediv_of_nonneg _ (by decide)]
 . show Int.fdiv W 65536=_;rw[Int.fdiv_eq_ediv_of_nonneg _ (by decide)]
 . show Int.fdiv W 16777216=_;rw[Int.fdiv_eq_ediv_of_nonneg _ (by decide)]
theorem b4d(W:Int){k:Nat}(hk:k<4):[wrap .u8 W,wrap .u8 (ishr .u32 W 8),wrap .u8 (ishr .u32 W 16),wrap .u8 (ishr .u32 W 24)].getD k 0=dig W k:=by
 obtain⟨a,b,c⟩:=shr_c W
 have hk:k=0\/k=1\/k=2\/k=3:=by omega
 rcases hk with rfl|rfl|rfl|rfl<;>simp [dig,a,b,c,u8w]
theorem Qik(l:List Int)(k:Nat)(h:0<=l.getD k 0/\l.getD k 0<256)(hk:k<l.length):(((bytesOf l).getD k 0).toNat:Int)=l.getD k 0:=by
 have e:(bytesOf l).getD k 0=UInt8.ofNat (l.getD k 0).toNat:=by
   simp [bytesOf,List.getD_eq_getElem?_getD,hk]
 rw[e,UInt8.toNat_ofNat']
 omega
theorem Z5j(l:List UInt8)(k:Nat)(hk:k<l.length):(Q82 l).getD k 0=((l.getD k 0).toNat:Int):=by
 simp [Q82,List.getD_eq_getElem?_getD,hk]
theorem zag(w:List Int)(h:w.length<=32):(Q3e w).w (λr=>r.length=4*w.length/\ ∀k:Nat,k<4*w.length->((r.getD k 0).toNat:Int)=dig (w.getD (k/4) 0) (k%4)):=by
 have e0:i64.wrap (4*(w.length:Int))=4*w.length:=by rw[wrap_i64];omega
 unfold Q3e
 refine w_cn (by rw[e0];simp [Nat.blt,D.plain];omega) ?_
 refine w_lp (inv:=λz:Int×List Int=>0<=z.1/\z.1<=w.length/\(z.2.length:Int)=4*z.1/\ ∀k:Nat,(k:Int)<4*z.1->z.2.getD k 0=dig (w.getD (k/4) 0) (k%4)) (μ:=Q50 w) ⟨by decide,by show(0:Int)<=w.length;omega,rfl,λk hk=>by have hk:(k:Int)<4*0:=hk;omega⟩ (Nat.lt_succ_self _) λz ⟨z1,z2,z3,z4⟩=> ?_
 refine w_br (λhb=> ?_) (λhb=> ?_)
 . have hb:=oY hb
   have ew:i64.wrap (z.1+1)=z.1+1:=by rw[wrap_i64];omega
   refine w_cn (by simp [Nat.blt];omega) (w_cn (dY (by omega)) (w_nx ?_))
   show(_/\_/\_/\ ∀k:Nat,(k:Int)<4*i64.wrap (z.1+1)->(z.2++_).getD k 0=_)/\(_:Nat)<_
   refine⟨⟨by rw[ew];omega,by rw[ew];omega,by rw[ew,lA];simp only[List.length_cons,List.length_nil];omega,λk hk=> ?_⟩,by show(w.length-i64.wrap (z.1+1)).toNat<(w.length-z.1).toNat;rw[ew];omega⟩
   rw[ew]at hk
   rw[Qyw]
   split
   . exact z4 k (by omega)
   . rename_i hn
     rw[b4d _ (by omega),show z.1.toNat=k/4 by omega,show k-z.2.length=k%4 by omega]
 . have hb:=oN hb
   show(bytesOf z.2).length=_/\ ∀k:Nat,_->(((bytesOf z.2).getD k 0).toNat:Int)=_
   refine⟨by rw[Qd6];omega,λk hk=> ?_⟩
   have e:=z4 k (by omega)
   have:=qg (w.getD (k/4) 0) (k%4)
   rw[Qik _ _ (by rw[e];exact this) (by omega),e]
def isPg(m:List Int)(f:Int)(r:List UInt8):Prop:=r.length=128/\ ∀k:Nat,k<128->((r.getD k 0).toNat:Int)=byt m ((f*128).toNat+k)
theorem xag{m:List Int}{f:Int}{r s:List UInt8}(a:isPg m f r)(b:isPg m f s):r=s:=by
 obtain⟨a1,a2⟩:=a
 obtain⟨b1,b2⟩:=b
 refine List.ext_getElem (by omega) λi h1 h2=> ?_
 have e:=(a2 i (by omega)).trans (b2 i (by omega)).symm
 have e1:r[i]=r.getD i 0:=by simp [List.getD,h1]
 have e2:s[i]=s.getD i 0:=by simp [List.getD,h2]
 rw[e1,e2]
 exact UInt8.toNat_inj.1 (by omega)
theorem yg{P:Nat}{m:List Int}(h:Q0n P m){f:Int}(f0:0<=f)(f1:f<P):(Q4k m f).w (λr=>isPg m f r.1/\r.2=true):=by
 have hl:=h.len
 have h2:=h.p2
 unfold Q4k
 refine w_lv λx0 hx0=> ?_
 rw[Qym h,dY ⟨f0,f1⟩]at hx0
 subst hx0
 refine w_br (λhb=>by cases hb) (λhb=> ?_)
 have e1:i64.wrap (f*32)=f*32:=by rw[wrap_i64];omega
 have e2:i64.wrap (i64.wrap (f*32)+32)=f*32+32:=by rw[wrap_i64,wrap_i64];omega
 have cut:Int.toNat (i64.wrap (i64.wrap (f*32)+32))-Int.toNat (i64.wrap (f*32))=32:=by rw[e2,e1];omega
 have hlen:(List.take 32 (List.drop (Int.toNat (i64.wrap (f*32))) m)).length=32:=by
   rw[e1,List.length_take,List.length_drop];omega
 refine w_cn (by rw[e2,e1];simp [Nat.blt];omega) ?_
 rw[cut]
 refine w_an (by show List.length _<=1000000000000;rw[hlen];decide) (w_lv λx1 h1=> ?_)
 have t:=(Tree.pp (zag _ (Nat.le_of_eq hlen))).2
 rw[hlen,show(Q3e (List.take 32 (List.drop (Int.toNat (i64.wrap (f*32))) m))).m=x1 from h1.symm]at t
 refine⟨⟨t.1,λk hk=> ?_⟩,rfl⟩
 show((x1.getD k 0).toNat:Int)=_
 rw[t.2 k hk,byt,e1]
 have g:(List.take 32 (List.drop (Int.toNat (f*32)) m)).getD (k/4) 0=m.getD ((f*32).toNat+k/4) 0:=by
   simp [List.getD_eq_getElem?_getD,List.getElem?_take,show k/4<32 by omega]
 rw[g,show((f*128).toNat+k)/4=(f*32).toNat+k/4 by omega,show((f*128).toNat+k)%4=k%4 by omega]
theorem qah(x:Int):Z7a x 4=bytesOf [wrap .u8 (ishr .u32 x 0),wrap .u8 (ishr .u32 x 8),wrap .u8 (ishr .u32 x 16),wrap .u8 (ishr .u32 x 24)]:=by kernel_rfl
theorem qW{P:Nat}{m:List Int}(hm:Q0n P m){frame:Int}(f0:0<=frame)(f1:frame<P):(Q8n m frame).w (λr=>isPg m frame r.1/\r.2=true):=by
 have hp:=Qaj hm
 have hl:=hm.len
 have h2:=hm.p2
 unfold Q8n
 refine w_br (λh=>by have:=oY h;omega) (λh=>w_lv λx0 hx=>w_br (λh1=>by have:=oY h1;rw[hx,hp]at this;omega) (λh1=> ?_))
 refine w_lp (inv:=λz:Int×List Int=>0<=z.1/\z.1<=32/\(z.2.length:Int)=4*z.1/\ ∀k:Nat,(k:Int)<4*z.1->z.2.getD k 0=byt m ((frame*128).toNat+k)) (μ:=Qd7 m frame) ⟨by decide,by decide,rfl,λk hk=>by have hk:(k:Int)<4*0:=hk;omega⟩ (Nat.lt_succ_self _) (λz hz=> ?_)
 obtain⟨z1,z2,z3,z4⟩:=hz
 refine w_br (λhb=> ?_) (λhb=> ?_)
 . have hb:=oY hb
   have e:wrap i64 (wrap i64 (frame*32)+z.1)=frame*32+z.1:=by rw[wrap_i64,wrap_i64];omega
   refine w_cn (by rw[e];simp [Nat.blt];omega) (w_an (show(4:Int)<=1000000000000 by decide) (w_lv λx1 h4=> ?_))
   rw[qah,shr0,e]at h4
   have l4:x1.length=4:=by rw[h4];rfl
   refine w_cn (dY (by rw[Qj5,l4];omega)) (w_nx ?_)
   show(0<=i64.wrap (z.1+1)/\i64.wrap (z.1+1)<=32/\((z.2++Q82 x1).length:Int)=4*i64.wrap (z.1+1)/\ ∀k:Nat,(k:Int)<4*i64.wrap (z.1+1)->(z.2++Q82 x1).getD k 0=_)/\(32-i64.wrap (z.1+1)).toNat<(32-z.1).toNat
   have ew:i64.wrap (z.1+1)=z.1+1:=by rw[wrap_i64];omega
   rw[ew]
   refine⟨⟨by omega,by omega,by rw[lA,Qj5,l4];omega,λk hk=> ?_⟩,by omega⟩
   rw[Qyw]
   split
   . exact z4 k (by omega)
   . rename_i hn
     have hk4:k-z.2.length<4:=by omega
     rw[Z5j _ _ (by omega),h4]
     have d:=b4d (m.getD (frame*32+z.1).toNat 0) hk4
     rw[Qik _ _ (by rw[d];exact qg _ _) (by simpa using hk4),d,byt]
     rw[show((frame*128).toNat+k)/4=(frame*32+z.1).toNat by omega,show((frame*128).toNat+k)%4=k-z.2.length by omega]
 . have hb:=oN hb
   refine⟨⟨?_,λk hk=> ?_⟩,rfl⟩
   . show(bytesOf z.2).length=128
     rw[Qd6];omega
   . show(((bytesOf z.2).getD k 0).toNat:Int)=_
     have e:=z4 k (by omega)
     rw[Qik _ _ (by rw[e];exact qg _ _) (by omega),e]
theorem Z2l{P:Nat}{m:List Int}(h:Q0n P m)(f:Int):Q3x m f=Qer m f:=by
 by_cases hf:0<=f/\f<P
 . have a:=(Tree.pp (yg h hf.1 hf.2)).2
   have b:=(Tree.pp (qW h hf.1 hf.2)).2
   exact Prod.ext (xag a.1 b.1) (a.2.trans b.2.symm)
 . have hp:=Qaj h
   have e1:Q3x m f=([],false):=by
     simp only[Q3x,Q4k,Tree.m,letv,Qym h,dN hf];rfl
   have e2:Qer m f=([],false):=by
     simp only[Qer,Q8n,Tree.m,letv,hp]
     by_cases h0:f<0
     . rw[dY h0];rfl
     . rw[dN h0,dY (show f>=P by omega)];rfl
   rw[e1,e2]
section
variable {P:Nat} {m:List Int} (h:Q0n P m)
include h
theorem Z13{f:Int}(f0:0<=f)(f1:f<P){s:List UInt8}(hs:s.length=128):Q2 m f s=(Qhu m f s,true):=by
 have a:=(Tree.pp (Qt1 h f0 f1 hs)).2
 have b:=(Tree.pp (vN h f0 f1 s)).2
 refine Prod.ext (Z5k (a.2.1.len.trans b.1.len.symm) a.2.1.u b.1.u λk=> ?_) a.1
 have e:((min s.length 128:Nat):Int)=128:=by rw[hs];rfl
 have b2:=b.2 k
 have a2:=a.2.2 k
 rw[e]at b2
 exact a2.trans b2.symm
theorem Z0x{f:Int}(f0:0<=f)(f1:f<P){s r:List UInt8}(hs:s.length<=128)(hr:isPg m f r):Q2 m f (s++r.drop s.length)=(Qhu m f s,true):=by
  have hl:(s++r.drop s.length).length=128:=by have:=hr.1;simp;omega
  have a:=(Tree.pp (Qt1 h f0 f1 hl)).2
  have b:=(Tree.pp (vN h f0 f1 s)).2
  refine Prod.ext (Z5k (a.2.1.len.trans b.1.len.symm) a.2.1.u b.1.u λk=> ?_) a.1
  have b2:=b.2 k
  have a2:=a.2.2 k
  refine a2.trans (Eq.trans ?_ b2.symm)
  by_cases hc:f*128<=(k:Int)/\(k:Int)<f*128+128
  . rw [if_pos hc,Qyw]
    by_cases hd:(k-f*128).toNat<s.length
    . rw[if_pos hd,if_pos (by omega)]
    . rw[if_neg hd,if_neg (by omega)]
      have e:(r.drop s.length).getD ((k-f*128).toNat-s.length) 0=r.getD (k-f*128).toNat 0:=by
        simp [List.getD_eq_getElem?_getD,show s.length+((k-f*128).toNat-s.length)=(k-f*128).toNat by omega]
      rw[e,hr.2 _ (by omega),show(f*128).toNat+(k-f*128).toNat=k by omega]
  . rw[if_neg hc,if_neg (by omega)]
theorem Qc9{a:Int}(ha:U a){size:Int}(hs:size=1\/size=4):Q1o m a size=decide (a%size=0/\a<128*P):=by
 have hq:=Qaj h
 have h2:=h.p2
 have a0:=ha.1
 have e:wrap u32 size=size:=by rcases hs with rfl|rfl<;>decide
 have e0:decide (wrap u32 size≠0)=true:=by rcases hs with rfl|rfl<;>decide
 have t:Int.tmod a (wrap u32 size)=a%size:=by rw[e,Int.tmod_eq_emod_of_nonneg a0]
 have l: ∀x,x=Q37 m->a%size=0->decide (a<wrap u32 (wrap i64 (128*x)))=decide (a%size=0/\a<128*P):=λx hx hz=>by
   rw[hx,hq,wrap_u32,wrap_i64]
   exact decide_eq_decide.2 ⟨λh=>⟨hz,by omega⟩,λh=>by omega⟩
 refine Tree.post (Q7f m a size) (W:=λb=>b=decide (a%size=0/\a<128*P)) ?_
 unfold Q7f
 refine w_br (λh1=>w_br (λh4=> ?_) (λ_=> ?_)) (λ_=> ?_)
 . have h1: ¬size=1:=by simpa using h1
   have h4: ¬size=4:=by simpa using h4
   omega
 all_goals
   refine w_cn e0 (w_br (λhb=>w_lv λx hx=>l x hx ?_) (λhb=> ?_))
   . rw[t]at hb;exact eq_of_beq hb
   . rw[t]at hb
     exact(dN (λh=>by rw[h.1]at hb;cases hb)).symm
theorem Qsm{a:Int}(ha:U a){size:Int}(hs:size=1\/size=4):Qbo m a size=Q1o m a size:=by
 rw[Qc9 h ha hs]
 have hq:=Qtk h
 have h2:=h.p2
 have a0:=ha.1
 have a1:=ha.2
 have e:wrap u32 size=size:=by rcases hs with rfl|rfl<;>decide
 have e0:decide (wrap u32 size≠0)=true:=by rcases hs with rfl|rfl<;>decide
 have t:Int.tmod a (wrap u32 size)=a%size:=by rw[e,Int.tmod_eq_emod_of_nonneg a0]
 have l: ∀x,x=Q0i m->a%size=0->decide (wrap u64 (wrap u64 a+wrap u64 size)<=wrap u64 (wrap u64 x*128))=decide (a%size=0/\a<128*P):=λx hx hz=>by
   rw[hx,hq]
   simp only[wrap_u64]
   refine decide_eq_decide.2 ⟨λh=>⟨hz,?_⟩,λh=> ?_⟩<;>rcases hs with rfl|rfl<;>omega
 refine Tree.post (Q28 m a size) (W:=λb=>b=decide (a%size=0/\a<128*P)) ?_
 unfold Q28
 refine w_br (λh1=>w_br (λh4=> ?_) (λ_=> ?_)) (λ_=> ?_)
 . have h1: ¬size=1:=by simpa using h1
   have h4: ¬size=4:=by simpa using h4
   omega
 all_goals
   refine w_cn e0 (w_br (λhb=> ?_) (λhb=>w_lv λx hx=>l x hx ?_))
   . rw[t]at hb
     exact(dN (λh=>by rw[h.1]at hb;cases hb)).symm
   . rw[t]at hb;simpa using hb
end
theorem fldj(w:Int):Q23 w 0 8=iand .u32 (ishr .u32 w 0) 255/\Q23 w 8 8=iand .u32 (ishr .u32 w 8) 255/\Q23 w 16 8=iand .u32 (ishr .u32 w 16) 255/\Q23 w 24 8=iand .u32 (ishr .u32 w 24) 255:=
 ⟨by kernel_rfl,by kernel_rfl,by kernel_rfl,by kernel_rfl⟩
theorem setj(w v:Int):Q5h w 0 8 v=putW w v 0/\Q5h w 8 8 v=putW w v 8/\Q5h w 16 8 v=putW w v 16/\Q5h w 24 8 v=putW w v 24:=
 ⟨by kernel_rfl,by kernel_rfl,by kernel_rfl,by kernel_rfl⟩
theorem vg{a:Int}(ha:U a):wrap .i64 (wrap .i64 (Int.tmod a 4)*8)=8*(a%4)/\wrap .u32 (8*Int.tmod a 4)=8*(a%4):=by
 obtain⟨a0,a1⟩:=ha
 rw[Int.tmod_eq_emod_of_nonneg a0]
 exact⟨by rw[wrap_i64,wrap_i64];omega,by rw[wrap_u32];omega⟩
section
variable {P:Nat} {m:List Int} (h:Q0n P m)
include h
theorem Qhb{a:Int}(ha:U a){size:Int}(hs:size=1\/size=4):Q3d m a size=Q1j m a size:=by
 have e:=Qsm h ha hs
 obtain⟨s1,s2⟩:=vg ha
 have f:Q23 (m.getD (Int.toNat (wrap .u32 (Int.tdiv a 4))) 0) (8*(a%4)) 8=iand .u32 (ishr .u32 (m.getD (Int.toNat (wrap .u32 (Int.tdiv a 4))) 0) (8*(a%4))) 255:=by
   obtain⟨f0,f1,f2,f3⟩:=fldj (m.getD (Int.toNat (wrap .u32 (Int.tdiv a 4))) 0)
   have:a%4=0\/a%4=1\/a%4=2\/a%4=3:=by omega
   rcases this with h|h|h|h<;>rw[h]
   . exact f0
   . exact f1
   . exact f2
   . exact f3
 simp only[Q3d,Q4o,Q1j,Q4q,Tree.m,letv,e,s1,s2,f]
omit h in
theorem Z06(a:Int)(size:Int):(Q1j m a size).2=Q1o m a size:=by
 simp only[Q1j,Q4q,Tree.m,letv]
 cases Q1o m a size
 . rfl
 . cases size==1<;>rfl
theorem Qx3{a:Int}(ha:U a){size:Int}(hs:size=1\/size=4)(v:Int):Q6o m a size v=bif Q1o m a size then(Q87 m a size v,true) else(m,false):=by
 have hcl:Q01 m=m:=rfl
 have e:=Qsm h ha hs
 obtain⟨s1,s2⟩:=vg ha
 have f: ∀w,Q5h w (8*(a%4)) 8 v=ior .u32 (Qbs .u32 w (ishl .u32 255 (8*(a%4)))) (ishl .u32 (iand .u32 v 255) (8*(a%4))):=λw=>by
   obtain⟨f0,f1,f2,f3⟩:=setj w v
   have:a%4=0\/a%4=1\/a%4=2\/a%4=3:=by omega
   rcases this with h|h|h|h<;>rw[h]
   . exact f0
   . exact f1
   . exact f2
   . exact f3
 simp only[Q6o,Q68,Q87,Qce,Tree.m,letv,hcl,e,s1,s2,f]
 rcases hs with rfl|rfl<;>cases Q1o m a _<;>rfl
end
section
variable {P:Nat} {m:List Int} (h:Q0n P m)
include h
theorem qh{root va:Int}(hr:U root)(hv:U va){access:Int}(ha:access=1\/access=2\/access=3):Qdl m root va access=Q52 m root va access:=by
 have hp:=Qaj h
 have h2:=h.p2
 have hlen:=h.len
 obtain⟨r1,r2⟩:=hr
 obtain⟨v1,v2⟩:=hv
 have hpg: ∀{f:Int},U f->Q72 m f=decide (f<P):=λhf=>zJ h hf
 have eP:wrap .u32 (P:Int)=P:=by rw[wrap_u32];omega
 have kn:Qcc access=true:=by rcases ha with rfl|rfl|rfl<;>rfl
 have ca:Qem access=(Q2e access,true):=by rcases ha with rfl|rfl|rfl<;>rfl
 simp only[Qdl,Q74,Q52,Q8f,Tree.m,letv,hp,eP,kn,ca,hpg ⟨r1,r2⟩]
 by_cases c1:va>=4096
 . rw[dY c1];rfl
 by_cases c2:root<P
 . have eE:wrap u32 (wrap u32 (root*128)+wrap u32 (4*wrap u32 (Int.tdiv va 128)))=root*128+4*(va/128):=by
     rw[Int.tdiv_eq_ediv_of_nonneg v1,wrap_u32,wrap_u32,wrap_u32,wrap_u32];omega
   have hE:U (root*128+4*(va/128)):=⟨by omega,by omega⟩
   have wi:Q1o m (root*128+4*(va/128)) 4=true:=by
     rw[Qc9 h hE (.inr rfl)];exact dY ⟨by omega,by omega⟩
   rw[dN c1,dY c2,dN (show¬root>=P by omega),eE,Qhb h hE (.inr rfl),Z06,wi]
   have ld:(Q1j m (root*128+4*(va/128)) 4).1=m.getD (Int.toNat (wrap .u32 (Int.tdiv (root*128+4*(va/128)) 4))) 0:=by
     simp only[Q1j,Q4q,Tree.m,letv,wi];rfl
   rw[ld]
   generalize m.getD (Int.toNat (wrap .u32 (Int.tdiv (root*128+4*(va/128)) 4))) 0=w
   have fo:Qal w=iand .u32 (ishr .u32 w 8) 255:=(fld w).2.2.2.2
   rw[fo,hpg (Z56 _ _)]
   have hge:decide (iand .u32 (ishr .u32 w 8) 255>=(P:Int))=!decide (iand .u32 (ishr .u32 w 8) 255<(P:Int)):=by
     by_cases hq:iand .u32 (ishr .u32 w 8) 255<(P:Int)
     . rw[dY hq,dN (by omega)];rfl
     . rw[dN hq,dY (by omega)];rfl
   rw[hge]
   generalize decide (iand .u32 (ishr .u32 w 8) 255<(P:Int))=d
   rcases ha with rfl|rfl|rfl
   . show _=(bif iand .u32 w 1==0 then _ else bif iand .u32 w 4==0 then _ else bif !d then _ else _)
     have:Q7r w 1=(bif iand .u32 w 1==0 then false else !(iand .u32 w 4==0)):=rfl
     rw[this]
     cases iand .u32 w 1==0<;>cases iand .u32 w 4==0<;>cases d<;>rfl
   . show _=(bif iand .u32 w 1==0 then _ else bif !d then _ else _)
     have:Q7r w 2=(bif iand .u32 w 1==0 then false else true):=rfl
     rw[this]
     cases iand .u32 w 1==0<;>cases d<;>rfl
   . show _=(bif iand .u32 w 1==0 then _ else bif iand .u32 w 2==0 then _ else bif !d then _ else _)
     have:Q7r w 3=(bif iand .u32 w 1==0 then false else !(iand .u32 w 2==0)):=rfl
     rw[this]
     cases iand .u32 w 1==0<;>cases iand .u32 w 2==0<;>cases d<;>rfl
 . rw[dN c1,dN c2,dY (show root>=P by omega)];rfl
theorem Z9a{a:Int}(ha:U a)(access:Int):Q8p m a access=Qlo m a access:=by
 have hcl:Q01 m=m:=rfl
 have hl:=h.len
 have a0:=ha.1
 simp only[Q8p,Q63,Qlo,Qcf,Tree.m,letv,Qhb h ha (.inr rfl),Z06,Qx3 h ha (.inr rfl),hcl]
 cases hw:Q1o m a 4
 . rfl
 . rw[Qc9 h ha (.inr rfl)]at hw
   have hw:=oY hw
   have wi:Q1o m a 4=true:=by rw[Qc9 h ha (.inr rfl)];exact dY hw
   have ld:(Q1j m a 4).1=m.getD (Int.toNat (wrap .u32 (Int.tdiv a 4))) 0:=by
     simp only[Q1j,Q4q,Tree.m,letv,wi];rfl
   have pu: ∀v,Q87 m a 4 v=m.set (Int.toNat (wrap .u32 (Int.tdiv a 4))) v:=λv=>rfl
   rw[ld,pu,pu]
   have hi:Int.toNat (wrap .u32 (Int.tdiv a 4))<m.length:=by
     rw[Int.tdiv_eq_ediv_of_nonneg a0,wrap_u32];omega
   generalize Int.toNat (wrap .u32 (Int.tdiv a 4))=i at*
   rw[Ql6 hi,List.set_set]
   rfl
end
theorem Qhg{c:Q03}(h0:0<=c.B3.a0)(h:c.B3.a0<=31)(k b:Int):Q3b c k b=Q22 c k b:=by
 have e:=eq_of_beq (Qlr (λs=>Qbs .u32 (ior .u32 (Q6c (Q6c s 1 8) 2 16) 1) 2==ior .u32 (Qbs .u32 (ior .u32 (ior .u32 (Qbs .u32 s 24) (wrap .u32 (8*Q9 (iand .u32 s 1 !=0)))) (wrap .u32 (16*Q9 (iand .u32 s 2 !=0)))) 2) 1) 32 (by kernel_rfl) h0 (by omega))
 simp only[Q3b,Qff,Q22,Qfj,Tree.m,letv,e]
theorem Z3x{c:Q03}(h0:0<=c.B3.a0)(h:c.B3.a0<=31):Qa6 c=Qgf c:=by
 have e:=eq_of_beq (Qlr (λs=>Q6c (Q6c s 8 1) 16 2==ior .u32 (ior .u32 (Qbs .u32 s 3) (wrap .u32 (1*Q9 (iand .u32 s 8 !=0)))) (wrap .u32 (2*Q9 (iand .u32 s 16 !=0)))) 32 (by kernel_rfl) h0 (by omega))
 simp only[Qa6,Qaq,Qgf,Qc2,Tree.m,letv,e]
theorem Z9r{c:Q03}(h0:0<=c.B3.a0)(h:c.B3.a0<=31):Qj0 c=(!Q8r c&&(iand .u32 c.B3.a0 4 !=0)):=
 eq_of_beq (Qlr (λs=>(iand .u32 s 5==4)==(!(iand .u32 s 1 !=0)&&(iand .u32 s 4 !=0))) 32 (by kernel_rfl) h0 (by omega))
theorem Qqj(c:Q03){r:Int}(hr:0<=r/\r<16)(v:Int):Q7j c r v=Q1g c r v:=by
 simp only[Q7j,Q9d,Q1g,Qc3,Tree.m]
 by_cases h:r=0
 . subst h;rfl
 . rw[dY (show r>0 by omega),dY hr.2,show(r !=0)=true by simpa using h];rfl
theorem qB{a b:Int}(ha:U a)(hb:U b):Q8i a b=Qa9 a b:=by
  obtain⟨a0,a1⟩:=ha
  obtain⟨b0,b1⟩:=hb
  have i: ∀x,wrap .i64 (wrap .i32 x)=wrap .i32 x:=λx=>by rw[wrap_i64,wrap_i32];omega
  have r32: ∀x,-2147483648<=wrap .i32 x/\wrap .i32 x<2147483648:=λx=>by rw[wrap_i32];omega
  have q32: ∀x y:Int,-2147483648<=x/\x<2147483648-> -2147483648<=Int.tdiv x y/\Int.tdiv x y<=2147483648:=λx y hx=>by
    have h1:(Int.tdiv x y).natAbs<=x.natAbs:=by rw[Int.natAbs_tdiv];exact Nat.div_le_self _ _
    omega
  simp only[Q8i,Q79,Qa9,Q9r,Tree.m,i]
  cases hb:b==0
  . have w: ∀z,wrap .u32 (wrap .i32 z)=wrap .u32 z:=λz=>by rw[wrap_i32,wrap_u32,wrap_u32];omega
    have w2:wrap .i64 (Int.tdiv (wrap .i32 a) (wrap .i32 b))=Int.tdiv (wrap .i32 a) (wrap .i32 b):=by
      have:=q32 _ (wrap .i32 b) (r32 a)
      rw[wrap_i64];omega
    rw[w,w2]
    cases h1:a==2147483648
    . rfl
    . cases h2:b==4294967295
      . rfl
      . have h1:=eq_of_beq h1
        have h2:=eq_of_beq h2
        subst h1;subst h2
        rfl
  . rfl
theorem xB{op a b:Int}(h0:1<=op)(h1:op<=23)(ha:U a)(hb:U b):Q2x op a b=Qam op a b:=by
 have sub:wrap .u32 (a+wrap .u32 (0-b))=wrap .u32 (a-b):=by
   rw[wrap_u32,wrap_u32,wrap_u32];omega
 have hop:op=1\/op=2\/op=3\/op=4\/op=5\/op=6\/op=7\/op=8\/op=9\/op=10\/op=11\/op=12\/op=13\/op=14\/op=15\/op=16\/op=17\/op=18\/op=19\/op=20\/op=21\/op=22\/op=23:=by omega
 have d:=qB ha hb
 rcases hop with rfl|rfl|rfl|rfl|rfl|rfl|rfl|rfl|rfl|rfl|rfl|rfl|rfl|rfl|rfl|rfl|rfl|rfl|rfl|rfl|rfl|rfl|rfl
 . rfl
 . show(wrap .u32 (a+wrap .u32 (0-b)),true)=(wrap .u32 (a-b),true)
   rw[sub]
 . rfl
 . rfl
 . rfl
 . rfl
 . rfl
 . rfl
 . rfl
 . show((Q8i a b).1,true)=((Qa9 a b).1,true)
   rw[d]
 . show((Q8i a b).2,true)=((Qa9 a b).2,true)
   rw[d]
 all_goals rfl
theorem Qhf{P:Nat}{m:List Int}(h:Q0n P m){c:Q03}(hc:Q21 c)(hst:c.B3.a0<=31){va:Int}(hv:U va){size:Int}(hs:size=1\/size=4){access:Int}(ha:access=1\/access=2\/access=3):Q1i c m va size access=((Q0o c m va size access).1,(Q0o c m va size access).2.2,(Q0o c m va size access).2.1):=by
 have hcl:Q01 m=m:=rfl
 have kn:Qcc access=true:=by rcases ha with rfl|rfl|rfl<;>rfl
 have ca:Qkf access=(Q2e access,true):=by rcases ha with rfl|rfl|rfl<;>rfl
 have pg:=Z9r hc.a0.1 hst
 have wk:=qh h hc.a6 hv ha
 have tc:Q8p m (Q52 m c.B3.a6 va access).D6 access=Qlo m (Q52 m c.B3.a6 va access).D6 access:=Z9a h (Tree.pp (zQ h hc.a6 hv access)).2.2.1 access
 have sz:(bif size !=1 then bif size !=4 then false else true else true)=true:=by rcases hs with rfl|rfl<;>rfl
 simp only[Q1i,Q4m,Q0o,Q71,Tree.m,letv,hcl,kn,ca,pg,wk,tc,Qhb h hv hs,Z06]
 rcases hs with rfl|rfl<;>
 . show(bif _ then _ else _)=_
   cases Int.tmod va _ !=0<;>cases Q8r c<;>cases iand .u32 c.B3.a0 4 !=0<;>cases(Q52 m c.B3.a6 va access).D3 !=0<;>cases Q1o m va _<;>rfl
theorem Qst{α:Type}{Q:α->Prop}{c:Bool}{x y:α}(hx:Q x)(hy:Q y):Q (cond c x y):=by cases c<;>assumption
theorem xW(m:List Int)(root:Int){va:Int}(hv:U va)(access:Int):(Q52 m root va access).D3=0->(Q52 m root va access).Addr%4=va%4:=by
 have hc:Q2e access≠0:=by
   simp only[Q2e,Q7t,Tree.m]
   cases access==1<;>cases access==3<;>simp
 have q :(λt:Q0w=>t.D3=0->t.Addr%4=va%4) (Q52 m root va access):=by
   simp only[Q52,Q8f,Tree.m,letv]
   repeat'(first
     |exact λe=>absurd e hc
     | (intro _
        show wrap .u32 (wrap .u32 (_*128)+Int.tmod va 128)%4=va%4
        rw[Int.tmod_eq_emod_of_nonneg hv.1,wrap_u32,wrap_u32];omega)
     |refine Qst (Q:=λt:Q0w=>t.D3=0->t.Addr%4=va%4) ?_ ?_)
 exact q
theorem zB{c:Q03}{m:List Int}{va:Int}(hv:U va){size:Int}(hs:size=1\/size=4){access:Int}(ha:access=1\/access=2\/access=3):(Q0o c m va size access).2.1=0->(Q0o c m va size access).1%size=0:=by
  have kn:Qcc access=true:=by rcases ha with rfl|rfl|rfl<;>rfl
  have hc:Q2e access≠0:=by
    simp only[Q2e,Q7t,Tree.m]
    cases access==1<;>cases access==3<;>simp
  rcases hs with rfl|rfl
  . intro _;omega
  simp only[Q0o,Q71,Tree.m,letv,kn]
  show(bif Int.tmod va 4 !=0 then((0:Int),(3:Int),m) else _).2.1=0->(bif Int.tmod va 4 !=0 then((0:Int),(3:Int),m) else _).1%4=0
  rw[Int.tmod_eq_emod_of_nonneg hv.1]
  cases hz:va%4 !=0
  . have hz:va%4=0:=by simpa using hz
    have w:=xW m c.B3.a6 hv access
    cases hp:Qj0 c
    . cases hw:Q1o m va 4
      . exact λe=>absurd e hc
      . exact λ_=>hz
    . cases hq:(Q52 m c.B3.a6 va access).D3 !=0
      . have hq:(Q52 m c.B3.a6 va access).D3=0:=by simpa using hq
        exact λ_=>(w hq).trans hz
      . have hq: ¬(Q52 m c.B3.a6 va access).D3=0:=by simpa using hq
        exact λe=>absurd e hq
  . intro e;cases e
def eff0:Q0y:={C0:=0,C5:=0,D2:=0,Value:=0}
def Q40(c:Q03)(m:List Int)(i:Q0e):Q03×List Int×Q0y:=
 bif i.Op==32 then((Q4g c m i).1,(Q4g c m i).2,eff0) else bif i.Op==33 then((Q4g c m i).1,(Q4g c m i).2,eff0) else bif i.Op==34 then((Q4g c m i).1,(Q4g c m i).2,eff0)
 else bif i.Op==35 then((Q5x c m i).1,(Q5x c m i).2,eff0) else bif i.Op==36 then((Q5x c m i).1,(Q5x c m i).2,eff0) else((Qfl c i).1,m,(Qfl c i).2)
def regX(c:Q03)(r:Int):Int:=List.getD (A16.l c.X) r.toNat 0
def Qex(c:Q03)(m:List Int)(i:Q0e):Q03×Q0y×List Int:=
 bif decide (i.Op>=56) then((Qkk c i).1,(Qkk c i).2,m) else bif decide (i.Op>=40) then(Z3m c i,eff0,m) else bif decide (i.Op>=32) then((Q4f c m i).1,eff0,(Q4f c m i).2)
 else bif i.Op==24 then({X:=(Q1g c i.A (ishl .u32 (wrap .u32 i.Imm) 16)).X,Pc:=wrap .u32 ((Q1g c i.A (ishl .u32 (wrap .u32 i.Imm) 16)).Pc+4),B3:=(Q1g c i.A (ishl .u32 (wrap .u32 i.Imm) 16)).B3},eff0,m)
 else bif decide (i.Op<=13) then
   ({X:=(Q1g c i.A (Qam i.Op (regX c i.B) (regX c i.C)).1).X,Pc:=wrap .u32 ((Q1g c i.A (Qam i.Op (regX c i.B) (regX c i.C)).1).Pc+4),B3:=(Q1g c i.A (Qam i.Op (regX c i.B) (regX c i.C)).1).B3},eff0,m)
 else({X:=(Q1g c i.A (Qam i.Op (regX c i.B) (wrap .u32 i.Imm)).1).X,Pc:=wrap .u32 ((Q1g c i.A (Qam i.Op (regX c i.B) (wrap .u32 i.Imm)).1).Pc+4),B3:=(Q1g c i.A (Qam i.Op (regX c i.B) (wrap .u32 i.Imm)).1).B3},eff0,m)
def isOp(op:Int):Prop:=op=1\/op=2\/op=3\/op=4\/op=5\/op=6\/op=7\/op=8\/op=9\/op=10\/op=11\/op=12\/op=13\/op=16\/op=17\/op=18\/op=19\/op=20\/op=21\/op=22\/op=23\/op=24\/op=32\/op=33\/op=34\/op=35\/op=36\/op=40\/op=41\/op=42\/op=43\/op=44\/op=45\/op=48\/op=49\/op=56\/op=57\/op=58\/op=59\/op=60\/op=61\/op=62\/op=63\/op=64
theorem qO(c:Q03)(r v:Int):(Q1g c r v).Pc=c.Pc/\(Q1g c r v).B3=c.B3:=by
 simp only[Q1g,Qc3,Tree.m]
 cases decide (r>0)
 . exact⟨rfl,rfl⟩
 . cases decide (r<16)<;>exact⟨rfl,rfl⟩
def adv(c:Q03):Q03:={X:=c.X,Pc:=wrap .u32 (c.Pc+4),B3:=c.B3}
def va(c:Q03)(B Imm:Int):Int:=wrap .u32 (List.getD (A16.l c.X) B.toNat 0+wrap .u32 Imm)
def ldP(c:Q03)(A v size:Int)(f:Int->Int)(y:Int×List Int×Int):Q03×List Int:=bif y.2.2 !=0 then(Q3b c y.2.2 v,y.2.1) else(adv (Q7j c A (f (Q3d y.2.1 y.1 size).1)),y.2.1)
def ldR(c:Q03)(A v size:Int)(f:Int->Int)(x:Int×Int×List Int):Q03×List Int:=bif x.2.1 !=0 then(Q22 c x.2.1 v,x.2.2) else(adv (Q1g c A (f (Q1j x.2.2 x.1 size).1)),x.2.2)
def stP(c:Q03)(A v size:Int)(y:Int×List Int×Int):Q03×List Int:=bif y.2.2 !=0 then(Q3b c y.2.2 v,y.2.1) else(adv c,(Q6o y.2.1 y.1 size (List.getD (A16.l c.X) A.toNat 0)).1)
def stR(c:Q03)(A v size:Int)(x:Int×Int×List Int):Q03×List Int:=bif x.2.1 !=0 then(Q22 c x.2.1 v,x.2.2) else(adv c,Q87 x.2.2 x.1 size (List.getD (A16.l c.X) A.toNat 0))
theorem ld_eq(c:Q03)(m:List Int)(A B C Imm:Int):
   (Q4g c m ⟨32,A,B,C,Imm⟩=ldP c A (va c B Imm) 4 (λv=>v) (Q1i c m (va c B Imm) 4 2)/\Q4f c m ⟨32,A,B,C,Imm⟩=ldR c A (va c B Imm) 4 (λv=>v) (Q0o c m (va c B Imm) 4 2))/\
   (Q4g c m ⟨33,A,B,C,Imm⟩=ldP c A (va c B Imm) 1 (λv=>Q1n v 8) (Q1i c m (va c B Imm) 1 2)/\Q4f c m ⟨33,A,B,C,Imm⟩=ldR c A (va c B Imm) 1 (λv=>Q34 v 8) (Q0o c m (va c B Imm) 1 2))/\
   (Q4g c m ⟨34,A,B,C,Imm⟩=ldP c A (va c B Imm) 1 (λv=>v) (Q1i c m (va c B Imm) 1 2)/\Q4f c m ⟨34,A,B,C,Imm⟩=ldR c A (va c B Imm) 1 (λv=>v) (Q0o c m (va c B Imm) 1 2))/\
   (Q5x c m ⟨35,A,B,C,Imm⟩=stP c A (va c B Imm) 4 (Q1i c m (va c B Imm) 4 3)/\Q4f c m ⟨35,A,B,C,Imm⟩=stR c A (va c B Imm) 4 (Q0o c m (va c B Imm) 4 3))/\
   (Q5x c m ⟨36,A,B,C,Imm⟩=stP c A (va c B Imm) 1 (Q1i c m (va c B Imm) 1 3)/\Q4f c m ⟨36,A,B,C,Imm⟩=stR c A (va c B Imm) 1 (Q0o c m (va c B Imm) 1 3)):=
 ⟨⟨by kernel_rfl,by kernel_rfl⟩,⟨by kernel_rfl,by kernel_rfl⟩,⟨by kernel_rfl,by kernel_rfl⟩,⟨by kernel_rfl,by kernel_rfl⟩,⟨by kernel_rfl,by kernel_rfl⟩⟩
theorem zW{P:Nat}{m:List Int}(h:Q0n P m)(a:Int):Q1n (Q1j m a 1).1 8=Q34 (Q1j m a 1).1 8:=by
 have: ∀x:Int×Bool,(∃w,U w/\x=(iand .u32 w 255,true))\/x=(0,false)->Q1n x.1 8=Q34 x.1 8:=λx hx=>by
   rcases hx with⟨w,hw,rfl⟩|rfl
   . have e:=m255 hw
     exact sx8 (by show 0<=iand .u32 w 255;omega) (by show iand .u32 w 255<256;omega)
   . rfl
 refine this _ ?_
 simp only[Q1j,Q4q,Tree.m,letv]
 cases Q1o m a 1
 . exact .inr rfl
 . exact .inl ⟨_,Qnv (Qfd h.u _) _,rfl⟩
section
variable {P:Nat} {m:List Int} (h:Q0n P m) {c:Q03} (hc:Q21 c) (hst:c.B3.a0<=31)
include h hc hst
omit hst in
theorem Z41{v:Int}(hv:U v){size:Int}(hs:size=1\/size=4)(access:Int):Q0n P (Q0o c m v size access).2.2/\U (Q0o c m v size access).1/\((Q0o c m v size access).2.1=0->(Q0o c m v size access).1<128*P):=(Tree.pp (Qyn h hc hv hs access)).2
theorem Z4d{A v:Int}(hA:0<=A/\A<16)(hv:U v){size:Int}(hs:size=1\/size=4){f g:Int->Int}(hf: ∀{m':List Int},Q0n P m'-> ∀a,f (Q1j m' a size).1=g (Q1j m' a size).1):ldP c A v size f (Q1i c m v size 2)=ldR c A v size g (Q0o c m v size 2):=by
 rw[Qhf h hc hst hv hs (.inr (.inl rfl))]
 obtain⟨k,u,_⟩:=Z41 h hc hv hs 2
 generalize Q0o c m v size 2=x at*
 simp only[ldP,ldR,Qhb k u hs,Qhg hc.a0.1 hst,Qqj c hA,hf k]
theorem xh{A v:Int}(hv:U v){size:Int}(hs:size=1\/size=4):stP c A v size (Q1i c m v size 3)=stR c A v size (Q0o c m v size 3):=by
 rw[Qhf h hc hst hv hs (.inr (.inr rfl))]
 obtain⟨k,u,b⟩:=Z41 h hc hv hs 3
 have al:=zB (c:=c) (m:=m) hv hs (access:=3) (.inr (.inr rfl))
 generalize Q0o c m v size 3=x at*
 simp only[stP,stR,Qx3 k u hs,Qhg hc.a0.1 hst,Qc9 k u hs]
 cases hq:x.2.1 !=0
 . have hq:x.2.1=0:=by simpa using hq
   rw[dY ⟨al hq,b hq⟩];rfl
 . rfl
end
theorem yB(c:Q03)(k v:Int):(Qf7 c k v).Pc=c.Pc:=by
 simp only[Qf7,Qaw,Tree.m]
 repeat'(first|rfl|refine Qst (Q:=λx:Q03=>x.Pc=c.Pc) ?_ ?_)
def setP(c:Q03)(A v p:Int):Q03:={X:=(Q7j c A v).X,Pc:=p,B3:=(Q7j c A v).B3}
def setR(c:Q03)(A v p:Int):Q03:={X:=(Q1g c A v).X,Pc:=p,B3:=(Q1g c A v).B3}
def nxt(c:Q03):Int:=wrap .u32 (c.Pc+4)
theorem Z3d(c:Q03){A:Int}(hA:0<=A/\A<16)(v p:Int):setP c A v p=setR c A v p:=by
 unfold setP setR;rw[Qqj c hA]
theorem Z5f(c:Q03)(A v:Int):adv (Q1g c A v)=setR c A v (nxt c):=by
 unfold adv setR nxt;rw[(qO c A v).1]
theorem brc(t:Bool)(x y:Q03)(m:List Int):((bif t then(x,eff0) else(y,eff0)).1,m,(bif t then(x,eff0) else(y,eff0)).2)=((bif t then x else y),m,eff0):=by cases t<;>rfl
def isOpB(op:Int):Bool:=decide (op=1)||decide (op=2)||decide (op=3)||decide (op=4)||decide (op=5)||decide (op=6)||decide (op=7)||decide (op=8)||decide (op=9)||decide (op=10)||decide (op=11)||decide (op=12)||decide (op=13)||decide (op=16)||decide (op=17)||decide (op=18)||decide (op=19)||decide (op=20)||decide (op=21)||decide (op=22)||decide (op=23)||decide (op=24)||decide (op=32)||decide (op=33)||decide (op=34)||decide (op=35)||decide (op=36)||decide (op=40)||decide (op=41)||decide (op=42)||decide (op=43)||decide (op=44)||decide (op=45)||decide (op=48)||decide (op=49)||decide (op=56)||decide (op=57)||decide (op=58)||decide (op=59)||decide (op=60)||decide (op=61)||decide (op=62)||decide (op=63)||decide (op=64)
section
variable {P:Nat} {m:List Int} (h:Q0n P m) {c:Q03} (hc:Q21 c) (hst:c.B3.a0<=31) {A B C Imm:Int} (hA:0<=A/\A<16)
include h hc hst hA
theorem zh{op:Int}(hop:isOp op):Q40 c m ⟨op,A,B,C,Imm⟩=((Qex c m ⟨op,A,B,C,Imm⟩).1,(Qex c m ⟨op,A,B,C,Imm⟩).2.2,(Qex c m ⟨op,A,B,C,Imm⟩).2.1):=by
 have alu: ∀{k y:Int},1<=k->k<=23->U y->((setP c A (Q2x k (regX c B) y).1 (nxt c),m,eff0):Q03×List Int×Q0y)=(adv (Q1g c A (Qam k (regX c B) y).1),m,eff0):=λh1 h2 hy=>by
   rw[xB h1 h2 (show U (regX c B) from hc.r _) hy,Z5f,Z3d c hA]
 have uC:U (regX c C):=hc.r _
 have uI:U (wrap .u32 Imm):=Q0g _
 obtain⟨⟨l1,l2⟩,⟨l3,l4⟩,⟨l5,l6⟩,⟨l7,l8⟩,⟨l9,l10⟩⟩:=ld_eq c m A B C Imm
 have hva:U (va c B Imm):=Q0g _
 rcases hop with rfl|rfl|rfl|rfl|rfl|rfl|rfl|rfl|rfl|rfl|rfl|rfl|rfl|rfl|rfl|rfl|rfl|rfl|rfl|rfl|rfl|rfl|rfl|rfl|rfl|rfl|rfl|rfl|rfl|rfl|rfl|rfl|rfl|rfl|rfl|rfl|rfl|rfl|rfl|rfl|rfl|rfl|rfl|rfl
 . exact(show Q40 c m ⟨1,A,B,C,Imm⟩=(setP c A (Q2x 1 (regX c B) (regX c C)).1 (nxt c),m,eff0) by kernel_rfl).trans ((alu (by decide) (by decide) uC).trans (by kernel_rfl))
 . exact(show Q40 c m ⟨2,A,B,C,Imm⟩=(setP c A (Q2x 2 (regX c B) (regX c C)).1 (nxt c),m,eff0) by kernel_rfl).trans ((alu (by decide) (by decide) uC).trans (by kernel_rfl))
 . exact(show Q40 c m ⟨3,A,B,C,Imm⟩=(setP c A (Q2x 3 (regX c B) (regX c C)).1 (nxt c),m,eff0) by kernel_rfl).trans ((alu (by decide) (by decide) uC).trans (by kernel_rfl))
 . exact(show Q40 c m ⟨4,A,B,C,Imm⟩=(setP c A (Q2x 4 (regX c B) (regX c C)).1 (nxt c),m,eff0) by kernel_rfl).trans ((alu (by decide) (by decide) uC).trans (by kernel_rfl))
 . exact(show Q40 c m ⟨5,A,B,C,Imm⟩=(setP c A (Q2x 5 (regX c B) (regX c C)).1 (nxt c),m,eff0) by kernel_rfl).trans ((alu (by decide) (by decide) uC).trans (by kernel_rfl))
 . exact(show Q40 c m ⟨6,A,B,C,Imm⟩=(setP c A (Q2x 6 (regX c B) (regX c C)).1 (nxt c),m,eff0) by kernel_rfl).trans ((alu (by decide) (by decide) uC).trans (by kernel_rfl))
 . exact(show Q40 c m ⟨7,A,B,C,Imm⟩=(setP c A (Q2x 7 (regX c B) (regX c C)).1 (nxt c),m,eff0) by kernel_rfl).trans ((alu (by decide) (by decide) uC).trans (by kernel_rfl))
 . exact(show Q40 c m ⟨8,A,B,C,Imm⟩=(setP c A (Q2x 8 (regX c B) (regX c C)).1 (nxt c),m,eff0) by kernel_rfl).trans ((alu (by decide) (by decide) uC).trans (by kernel_rfl))
 . exact(show Q40 c m ⟨9,A,B,C,Imm⟩=(setP c A (Q2x 9 (regX c B) (regX c C)).1 (nxt c),m,eff0) by kernel_rfl).trans ((alu (by decide) (by decide) uC).trans (by kernel_rfl))
 . exact(show Q40 c m ⟨10,A,B,C,Imm⟩=(setP c A (Q2x 10 (regX c B) (regX c C)).1 (nxt c),m,eff0) by kernel_rfl).trans ((alu (by decide) (by decide) uC).trans (by kernel_rfl))
 . exact(show Q40 c m ⟨11,A,B,C,Imm⟩=(setP c A (Q2x 11 (regX c B) (regX c C)).1 (nxt c),m,eff0) by kernel_rfl).trans ((alu (by decide) (by decide) uC).trans (by kernel_rfl))
 . exact(show Q40 c m ⟨12,A,B,C,Imm⟩=(setP c A (Q2x 12 (regX c B) (regX c C)).1 (nxt c),m,eff0) by kernel_rfl).trans ((alu (by decide) (by decide) uC).trans (by kernel_rfl))
 . exact(show Q40 c m ⟨13,A,B,C,Imm⟩=(setP c A (Q2x 13 (regX c B) (regX c C)).1 (nxt c),m,eff0) by kernel_rfl).trans ((alu (by decide) (by decide) uC).trans (by kernel_rfl))
 . exact(show Q40 c m ⟨16,A,B,C,Imm⟩=(setP c A (Q2x 16 (regX c B) (wrap .u32 Imm)).1 (nxt c),m,eff0) by kernel_rfl).trans ((alu (by decide) (by decide) uI).trans (by kernel_rfl))
 . exact(show Q40 c m ⟨17,A,B,C,Imm⟩=(setP c A (Q2x 17 (regX c B) (wrap .u32 Imm)).1 (nxt c),m,eff0) by kernel_rfl).trans ((alu (by decide) (by decide) uI).trans (by kernel_rfl))
 . exact(show Q40 c m ⟨18,A,B,C,Imm⟩=(setP c A (Q2x 18 (regX c B) (wrap .u32 Imm)).1 (nxt c),m,eff0) by kernel_rfl).trans ((alu (by decide) (by decide) uI).trans (by kernel_rfl))
 . exact(show Q40 c m ⟨19,A,B,C,Imm⟩=(setP c A (Q2x 19 (regX c B) (wrap .u32 Imm)).1 (nxt c),m,eff0) by kernel_rfl).trans ((alu (by decide) (by decide) uI).trans (by kernel_rfl))
 . exact(show Q40 c m ⟨20,A,B,C,Imm⟩=(setP c A (Q2x 20 (regX c B) (wrap .u32 Imm)).1 (nxt c),m,eff0) by kernel_rfl).trans ((alu (by decide) (by decide) uI).trans (by kernel_rfl))
 . exact(show Q40 c m ⟨21,A,B,C,Imm⟩=(setP c A (Q2x 21 (regX c B) (wrap .u32 Imm)).1 (nxt c),m,eff0) by kernel_rfl).trans ((alu (by decide) (by decide) uI).trans (by kernel_rfl))
 . exact(show Q40 c m ⟨22,A,B,C,Imm⟩=(setP c A (Q2x 22 (regX c B) (wrap .u32 Imm)).1 (nxt c),m,eff0) by kernel_rfl).trans ((alu (by decide) (by decide) uI).trans (by kernel_rfl))
 . exact(show Q40 c m ⟨23,A,B,C,Imm⟩=(setP c A (Q2x 23 (regX c B) (wrap .u32 Imm)).1 (nxt c),m,eff0) by kernel_rfl).trans ((alu (by decide) (by decide) uI).trans (by kernel_rfl))
 . refine(show Q40 c m ⟨24,A,B,C,Imm⟩=(setP c A (ishl .u32 (wrap .u32 Imm) 16) (nxt c),m,eff0) by kernel_rfl).trans ?_
   rw[Z3d c hA,<-Z5f];kernel_rfl
 . have e:=Z4d h hc hst hA hva (.inr rfl) (f:=λv=>v) (g:=λv=>v) (λ_ _=>rfl)
   rw[<-l1,<-l2]at e
   refine(show Q40 c m ⟨32,A,B,C,Imm⟩=((Q4g c m ⟨32,A,B,C,Imm⟩).1,(Q4g c m ⟨32,A,B,C,Imm⟩).2,eff0) by kernel_rfl).trans ?_
   rw[e];kernel_rfl
 . have e:=Z4d h hc hst hA hva (.inl rfl) (f:=λv=>Q1n v 8) (g:=λv=>Q34 v 8) (λhm a=>zW hm a)
   rw[<-l3,<-l4]at e
   refine(show Q40 c m ⟨33,A,B,C,Imm⟩=((Q4g c m ⟨33,A,B,C,Imm⟩).1,(Q4g c m ⟨33,A,B,C,Imm⟩).2,eff0) by kernel_rfl).trans ?_
   rw[e];kernel_rfl
 . have e:=Z4d h hc hst hA hva (.inl rfl) (f:=λv=>v) (g:=λv=>v) (λ_ _=>rfl)
   rw[<-l5,<-l6]at e
   refine(show Q40 c m ⟨34,A,B,C,Imm⟩=((Q4g c m ⟨34,A,B,C,Imm⟩).1,(Q4g c m ⟨34,A,B,C,Imm⟩).2,eff0) by kernel_rfl).trans ?_
   rw[e];kernel_rfl
 . have e:=xh h hc hst (A:=A) hva (.inr rfl)
   rw[<-l7,<-l8]at e
   refine(show Q40 c m ⟨35,A,B,C,Imm⟩=((Q5x c m ⟨35,A,B,C,Imm⟩).1,(Q5x c m ⟨35,A,B,C,Imm⟩).2,eff0) by kernel_rfl).trans ?_
   rw[e];kernel_rfl
 . have e:=xh h hc hst (A:=A) hva (.inl rfl)
   rw[<-l9,<-l10]at e
   refine(show Q40 c m ⟨36,A,B,C,Imm⟩=((Q5x c m ⟨36,A,B,C,Imm⟩).1,(Q5x c m ⟨36,A,B,C,Imm⟩).2,eff0) by kernel_rfl).trans ?_
   rw[e];kernel_rfl
 . exact(show Q40 c m ⟨40,A,B,C,Imm⟩=((bif(Q1v 40 (regX c A) (regX c B)) then((⟨c.X,wrap .u32 (c.Pc+wrap .u32 (4*wrap .u32 Imm)),c.B3⟩:Q03),eff0) else(⟨c.X,nxt c,c.B3⟩,eff0)).1,m,(bif(Q1v 40 (regX c A) (regX c B)) then((⟨c.X,wrap .u32 (c.Pc+wrap .u32 (4*wrap .u32 Imm)),c.B3⟩:Q03),eff0) else(⟨c.X,nxt c,c.B3⟩,eff0)).2) by kernel_rfl).trans ((brc (Q1v 40 (regX c A) (regX c B)) ⟨c.X,wrap .u32 (c.Pc+wrap .u32 (4*wrap .u32 Imm)),c.B3⟩ ⟨c.X,nxt c,c.B3⟩ m).trans (by kernel_rfl))
 . exact(show Q40 c m ⟨41,A,B,C,Imm⟩=((bif(Q1v 41 (regX c A) (regX c B)) then((⟨c.X,wrap .u32 (c.Pc+wrap .u32 (4*wrap .u32 Imm)),c.B3⟩:Q03),eff0) else(⟨c.X,nxt c,c.B3⟩,eff0)).1,m,(bif(Q1v 41 (regX c A) (regX c B)) then((⟨c.X,wrap .u32 (c.Pc+wrap .u32 (4*wrap .u32 Imm)),c.B3⟩:Q03),eff0) else(⟨c.X,nxt c,c.B3⟩,eff0)).2) by kernel_rfl).trans ((brc (Q1v 41 (regX c A) (regX c B)) ⟨c.X,wrap .u32 (c.Pc+wrap .u32 (4*wrap .u32 Imm)),c.B3⟩ ⟨c.X,nxt c,c.B3⟩ m).trans (by kernel_rfl))
 . exact(show Q40 c m ⟨42,A,B,C,Imm⟩=((bif(Q1v 42 (regX c A) (regX c B)) then((⟨c.X,wrap .u32 (c.Pc+wrap .u32 (4*wrap .u32 Imm)),c.B3⟩:Q03),eff0) else(⟨c.X,nxt c,c.B3⟩,eff0)).1,m,(bif(Q1v 42 (regX c A) (regX c B)) then((⟨c.X,wrap .u32 (c.Pc+wrap .u32 (4*wrap .u32 Imm)),c.B3⟩:Q03),eff0) else(⟨c.X,nxt c,c.B3⟩,eff0)).2) by kernel_rfl).trans ((brc (Q1v 42 (regX c A) (regX c B)) ⟨c.X,wrap .u32 (c.Pc+wrap .u32 (4*wrap .u32 Imm)),c.B3⟩ ⟨c.X,nxt c,c.B3⟩ m).trans (by kernel_rfl))
 . exact(show Q40 c m ⟨43,A,B,C,Imm⟩=((bif(Q1v 43 (regX c A) (regX c B)) then((⟨c.X,wrap .u32 (c.Pc+wrap .u32 (4*wrap .u32 Imm)),c.B3⟩:Q03),eff0) else(⟨c.X,nxt c,c.B3⟩,eff0)).1,m,(bif(Q1v 43 (regX c A) (regX c B)) then((⟨c.X,wrap .u32 (c.Pc+wrap .u32 (4*wrap .u32 Imm)),c.B3⟩:Q03),eff0) else(⟨c.X,nxt c,c.B3⟩,eff0)).2) by kernel_rfl).trans ((brc (Q1v 43 (regX c A) (regX c B)) ⟨c.X,wrap .u32 (c.Pc+wrap .u32 (4*wrap .u32 Imm)),c.B3⟩ ⟨c.X,nxt c,c.B3⟩ m).trans (by kernel_rfl))
 . exact(show Q40 c m ⟨44,A,B,C,Imm⟩=((bif(Q1v 44 (regX c A) (regX c B)) then((⟨c.X,wrap .u32 (c.Pc+wrap .u32 (4*wrap .u32 Imm)),c.B3⟩:Q03),eff0) else(⟨c.X,nxt c,c.B3⟩,eff0)).1,m,(bif(Q1v 44 (regX c A) (regX c B)) then((⟨c.X,wrap .u32 (c.Pc+wrap .u32 (4*wrap .u32 Imm)),c.B3⟩:Q03),eff0) else(⟨c.X,nxt c,c.B3⟩,eff0)).2) by kernel_rfl).trans ((brc (Q1v 44 (regX c A) (regX c B)) ⟨c.X,wrap .u32 (c.Pc+wrap .u32 (4*wrap .u32 Imm)),c.B3⟩ ⟨c.X,nxt c,c.B3⟩ m).trans (by kernel_rfl))
 . exact(show Q40 c m ⟨45,A,B,C,Imm⟩=((bif(Q1v 45 (regX c A) (regX c B)) then((⟨c.X,wrap .u32 (c.Pc+wrap .u32 (4*wrap .u32 Imm)),c.B3⟩:Q03),eff0) else(⟨c.X,nxt c,c.B3⟩,eff0)).1,m,(bif(Q1v 45 (regX c A) (regX c B)) then((⟨c.X,wrap .u32 (c.Pc+wrap .u32 (4*wrap .u32 Imm)),c.B3⟩:Q03),eff0) else(⟨c.X,nxt c,c.B3⟩,eff0)).2) by kernel_rfl).trans ((brc (Q1v 45 (regX c A) (regX c B)) ⟨c.X,wrap .u32 (c.Pc+wrap .u32 (4*wrap .u32 Imm)),c.B3⟩ ⟨c.X,nxt c,c.B3⟩ m).trans (by kernel_rfl))
 . refine(show Q40 c m ⟨48,A,B,C,Imm⟩=(setP c A (nxt c) (wrap .u32 ((Q7j c A (nxt c)).Pc+wrap .u32 (4*wrap .u32 Imm))),m,eff0) by kernel_rfl).trans ?_
   rw[Z3d c hA,Qqj c hA,(qO c A (nxt c)).1];kernel_rfl
 . refine(show Q40 c m ⟨49,A,B,C,Imm⟩=(setP c A (nxt c) (va c B Imm),m,eff0) by kernel_rfl).trans ?_
   rw[Z3d c hA];kernel_rfl
 . refine(show Q40 c m ⟨56,A,B,C,Imm⟩=(Q3b c 7 0,m,eff0) by kernel_rfl).trans ?_
   rw[Qhg hc.a0.1 hst];kernel_rfl
 . refine(show Q40 c m ⟨57,A,B,C,Imm⟩=(Qa6 c,m,eff0) by kernel_rfl).trans ?_
   rw[Z3x hc.a0.1 hst];kernel_rfl
 . refine(show Q40 c m ⟨58,A,B,C,Imm⟩=(setP c A (List.getD (A8.l c.B3) Imm.toNat 0) (nxt c),m,eff0) by kernel_rfl).trans ?_
   rw[Z3d c hA,<-Z5f];kernel_rfl
 . have e:=yB c (wrap .i64 Imm) (regX c A)
   refine(show Q40 c m ⟨59,A,B,C,Imm⟩=((⟨(Qf7 c (wrap .i64 Imm) (regX c A)).X,wrap .u32 (c.Pc+4),(Qf7 c (wrap .i64 Imm) (regX c A)).B3⟩:Q03),m,eff0) by kernel_rfl).trans ?_
   rw[<-e];kernel_rfl
 . exact(show Q40 c m ⟨60,A,B,C,Imm⟩=((Qex c m ⟨60,A,B,C,Imm⟩).1,(Qex c m ⟨60,A,B,C,Imm⟩).2.2,(Qex c m ⟨60,A,B,C,Imm⟩).2.1) by kernel_rfl)
 . exact(show Q40 c m ⟨61,A,B,C,Imm⟩=((Qex c m ⟨61,A,B,C,Imm⟩).1,(Qex c m ⟨61,A,B,C,Imm⟩).2.2,(Qex c m ⟨61,A,B,C,Imm⟩).2.1) by kernel_rfl)
 . exact(show Q40 c m ⟨62,A,B,C,Imm⟩=((Qex c m ⟨62,A,B,C,Imm⟩).1,(Qex c m ⟨62,A,B,C,Imm⟩).2.2,(Qex c m ⟨62,A,B,C,Imm⟩).2.1) by kernel_rfl)
 . exact(show Q40 c m ⟨63,A,B,C,Imm⟩=((Qex c m ⟨63,A,B,C,Imm⟩).1,(Qex c m ⟨63,A,B,C,Imm⟩).2.2,(Qex c m ⟨63,A,B,C,Imm⟩).2.1) by kernel_rfl)
 . exact(show Q40 c m ⟨64,A,B,C,Imm⟩=((Qex c m ⟨64,A,B,C,Imm⟩).1,(Qex c m ⟨64,A,B,C,Imm⟩).2.2,(Qex c m ⟨64,A,B,C,Imm⟩).2.1) by kernel_rfl)
end
theorem yW{op:Int}(h0:0<=op)(h1:op<256)(h:Q1p op≠0):isOp op:=by
 have e:=oY (Qlr (λop=>decide (Q1p op=0\/isOpB op=true)) 256 (by kernel_rfl) h0 h1)
 rcases e with e|e
 . exact absurd e h
 . simpa only[isOpB,isOp,Bool.or_eq_true,decide_eq_true_eq,or_assoc] using e
theorem yh{op:Int}(o:isOp op):1<=op/\op<=64:=by
 unfold isOp at o
 rcases o with h|h|h|h|h|h|h|h|h|h|h|h|h|h|h|h|h|h|h|h|h|h|h|h|h|h|h|h|h|h|h|h|h|h|h|h|h|h|h|h|h|h|h|h<;>(rw[h];decide)
theorem vh{w:Int}(hw:U w):(Q0u w).2=true->isOp (Q0u w).1.Op:=by
  have s24:ishr .u32 w 24=w/16777216:=by have:=Qk0 (a:=w) 24 (by decide);simpa using this
  obtain⟨w0,w1⟩:=hw
  have eo:wrap .i64 (w/16777216)=w/16777216:=w64 (by omega) (by omega)
  have q:(λr:Q0e×Bool=>r.2=true->isOp r.1.Op) (Q0u w):=by
    simp only[Q0u,Q9i,Tree.m,letv,s24,eo]
    cases hf:Q1p (w/16777216)==0
    . have g:isOp (w/16777216):=yW (by omega) (by omega) (by simpa using hf)
      repeat'(first
        |exact λ_=>g
        |exact λe=>Bool.noConfusion (show false=true from e)
        |refine Qst (Q:=λr:Q0e×Bool=>r.2=true->isOp r.1.Op) ?_ ?_)
    . exact λe=>Bool.noConfusion (show false=true from e)
  exact q
section
variable (c:Q03) (m:List Int)
def doR(x:Int×Int×List Int)(w:Int)(d:Q0e×Bool):Q03×Q0y×List Int:=
 bif x.2.1 !=0 then(Q22 c x.2.1 c.Pc,eff0,x.2.2) else bif !d.2 then(Q22 c 1 w,eff0,x.2.2) else bif Q59 d.1.Op then(bif iand .u32 c.B3.a0 1==0 then(Q22 c 2 w,eff0,x.2.2) else Qex c x.2.2 d.1) else Qex c x.2.2 d.1
def doP(y:Int×List Int×Int)(d:Q0e×Bool):Q03×List Int×Q0y:=
 bif y.2.2 !=0 then(Q3b c y.2.2 c.Pc,y.2.1,eff0) else bif !d.2 then(Q3b c 1 y.1,y.2.1,eff0) else bif Q60 d.1.Op then(bif !Q8r c then(Q3b c 2 y.1,y.2.1,eff0) else Q40 c y.2.1 d.1) else Q40 c y.2.1 d.1
theorem do_eq:Q9z c m=doR c (Q0o c m c.Pc 4 1) (Q1j (Q0o c m c.Pc 4 1).2.2 (Q0o c m c.Pc 4 1).1 4).1 (Q0u (Q1j (Q0o c m c.Pc 4 1).2.2 (Q0o c m c.Pc 4 1).1 4).1):=by kernel_rfl
theorem vW:Q75 c m=doP c (Qij c m) (Qc7 (Qij c m).1):=by kernel_rfl
theorem vB:Qij c m=bif(Q1i c m c.Pc 4 1).2.2 !=0 then(0,(Q1i c m c.Pc 4 1).2.1,(Q1i c m c.Pc 4 1).2.2) else((Q3d (Q1i c m c.Pc 4 1).2.1 (Q1i c m c.Pc 4 1).1 4).1,(Q1i c m c.Pc 4 1).2.1,0):=by kernel_rfl
end
theorem qi{P:Nat}{m:List Int}(h:Q0n P m){c:Q03}(hc:Q21 c)(hst:c.B3.a0<=31):Q75 c m=((Q9z c m).1,(Q9z c m).2.2,(Q9z c m).2.1):=by
  obtain⟨k,u,b⟩:=Z41 h hc hc.pc (.inr rfl) 1
  have tr: ∀k b,Q3b c k b=Q22 c k b:=Qhg hc.a0.1 hst
  rw[vW,do_eq,vB,Qhf h hc hst hc.pc (.inr rfl) (.inl rfl)]
  generalize Q0o c m c.Pc 4 1=x at*
  cases hx:x.2.1 !=0
  . rw [Qhb k u (.inr rfl)]
    have hw:U (Q1j x.2.2 x.1 4).1:=(Tree.pp (Z6b k u (.inr rfl))).2
    generalize(Q1j x.2.2 x.1 4).1=w at*
    show doP c (w,x.2.2,0) (Qc7 w)=_
    rw[vf hw]
    have o:=vh hw
    have i:=Tree.post _ (Z6x w)
    change(Q0u w).2=true->Qax (Q0u w).1 at i
    generalize Q0u w=d at*
    obtain⟨⟨op,A,B,C,Imm⟩,ok⟩:=d
    cases ok
    . simp only[doP,doR,hx,tr];rfl
    . have o:isOp op:=o rfl
      have i:=i rfl
      have p:=zh (C:=C) (B:=B) (Imm:=Imm) k hc hst i.a o
      have pv:Q60 op=Q59 op:=yU (by have:=yh o;omega) (by have:=yh o;omega)
      have kn:(!Q8r c)=(iand .u32 c.B3.a0 1==0):=by
        show(!(!(iand .u32 c.B3.a0 1==0)))=_
        exact Bool.not_not _
      simp only[doP,doR,hx,tr,pv,kn,p]
      cases Q59 op
      . rfl
      . cases iand .u32 c.B3.a0 1==0<;>rfl
  . simp only[doP,doR,hx,cond_true,tr]
theorem xi{a b:Int}:decide (a>=b)=!decide (a<b):=by
 by_cases h:a<b
 . rw[dY h,dN (by omega)];rfl
 . rw[dN h,dY (by omega)];rfl
def bits(g:Int)(l:List Nat)(s:Int):Int:=l.foldl (λ(a:Int) (i:Nat)=>wrap .i64 (a+wrap .i64 (iand .u32 (ishr .u32 g (i:Int)) 1))) s
theorem qC(b:Q06):Qca b=bits b.B8 [0,1,2,3,4,5,6,7,8,9,10,11,12,13,14,15,16,17,18,19,20,21,22,23,24,25,26,27,28,29,30,31] 0:=by kernel_rfl
theorem zah{g:Int}(hg:U g){i:Nat}(hi:i<=32):wrap .i64 (iand .u32 (ishr .u32 g (i:Int)) 1)=g/2^i%2:=by
 rw[and1 (Qnv hg _),Qk0 i hi]
 have:0<=g/2^i%2/\g/2^i%2<2:=by omega
 exact w64 (by omega) (by omega)
theorem xC{g:Int}(hg:U g)(l:List Nat): ∀s:Int,(∀i∈l,i<=32)->0<=s->s+l.length<=1000->bits g l s=s+(l.map λi=>g/2^i%2).sum:=by
 induction l with
 |nil=>intro s _ _ _;simp [bits]
 | cons i l ih=>
   intro s hl h0 h1
   have h1:s+(l.length+1)<=1000:=by simpa using h1
   have hb:0<=g/2^i%2/\g/2^i%2<2:=by omega
   have e:bits g (i::l) s=bits g l (s+g/2^i%2):=by
     show bits g l (wrap .i64 (s+wrap .i64 (iand .u32 (ishr .u32 g (i:Int)) 1)))=_
     rw[zah hg (hl i (by simp)),w64 (by omega) (by omega)]
   rw[e,ih _ (λj hj=>hl j (by simp [hj])) (by omega) (by omega)]
   simp;omega
theorem Z95(n:Q0k)(port:Int):Qrl n port=Qip n port:=by
 simp only[Qrl,Qlt,Qip,Qe9,Tree.m]
 cases n.C1<;>cases n.B4<;>rfl
theorem Qtz(t:Q0f):Q2w t=Qbu t:=by
 simp only[Q2w,Qg2,Qbu,Qh9,Tree.m]
 cases t.D0<;>cases t.C9<;>rfl
theorem Z2x(n:Q0k)(p:Int):Q44 n p=Qfy n p:=by
 simp only[Q44,Qf6,Qfy,Qks,Tree.m]
 cases n.C1<;>cases n.B4<;>rfl
theorem Qyu(d:Q09)(p:Int):Q11 d p=Qe7 d p:=by
  simp only[Q11,Q49,Q6k,Q57,Qe7,Qjo,Tree.m,letv,xi]
  cases decide (d.Blocks>64)
  . by_cases s:d.B7=0\/d.B7=1\/d.B7=2\/d.B7=3
    . rcases s with s|s|s|s<;>rw[s]
      . rfl
      . by_cases c1:d.D1=1
        . rw[c1];cases decide (d.B2<d.Blocks)<;>cases decide (wrap .i64 d.B0<p)<;>cases decide (d.B9=[])<;>rfl
        . by_cases c2:d.D1=2
          . rw[c2];cases decide (d.B2<d.Blocks)<;>cases decide (wrap .i64 d.B0<p)<;>cases(d.B9.length:Int)==128<;>rfl
          . rw[show(d.D1==1)=false by simpa using c1,show(d.D1==2)=false by simpa using c2]
            cases decide (d.B2<d.Blocks)<;>cases decide (wrap .i64 d.B0<p)<;>rfl
      . rfl
      . rfl
    . rw[show(d.B7==0)=false by simp;omega,show(d.B7==1)=false by simp;omega,show(d.B7==2)=false by simp;omega,show(d.B7==3)=false by simp;omega]
      by_cases n:d.B7<0
      . rw[dY n];rfl
      . rw[dN n,dY (show d.B7>3 by omega)];rfl
  . rfl
theorem zC(c:Q0a):Q6s c=Q5q c:=by
 show(!decide (c.C7=[]))=decide ((c.C7.length:Int)>0)
 cases c.C7 with
 |nil=>rfl
 |cons a l=>rw[dN (by simp),dY (by simp)];rfl
theorem qX(k:List UInt8):decide (k=[])=((k.length:Int)==0):=by
 cases k with
 |nil=>rfl
 | cons a l=>
   rw[dN (by simp)]
   exact(beq_eq_false_iff_ne.2 (by simp;omega)).symm
theorem Z7t(c:Q0a)(port:Int):Qir c port=Q62 c port:=by
 simp only[Qir,Q6u,Q62,Q5r,Tree.m,qX]
 cases port==0
 . rfl
 . cases(c.C7.length:Int)==0<;>rfl
theorem yC(t:Q0f)(v:Int):Qf4 t v=Z03 v:=by
 simp only[Qf4,Qfz,Z03,Qvp,Tree.m]
 cases h:v==0
 . rw[show(v !=0)=true by simp only[bne,h];rfl];rfl
 . rw[show(v !=0)=false by simp only[bne,h];rfl,eq_of_beq h];rfl
section
variable {P:Nat} {m:List Int} (h:Q0n P m)
include h
theorem Qvi(f:Int):Q6z m f=Q1l m f:=by
 have a:=Q2k h
 have b:=Qaj h
 simp only[Q6z,Q92,Q1l,Qgj,Tree.m,letv,a,b]
theorem Qvm(f:Int):Q7b m f=Q1l m f:=by
 have a:=Q2k h
 have b:=Qaj h
 simp only[Q7b,Qb2,Q1l,Qgj,Tree.m,letv,a,b]
theorem Z18(d:Q09)(port:Int)(v:Int)(at0:Int):Qqe d m port v at0=Qhx d m port v at0:=by
  have pg:=Qvi h
  have pa:=Z2l h
  have rq: ∀d a,Qe5 d a=Qha d a:=λ_ _=>rfl
  simp only[Qqe,Qc4,Qn0,Q8w,Qhx,Q7u,Tree.m,letv,pg,pa,rq]
  cases port==4
  . cases port==5
    . cases h6:port==6
      . rw[show(port !=6)=true by simp only[bne,h6];rfl];rfl
      . rw [show(port !=6)=false by simp only[bne,h6];rfl]
        by_cases v1:v=1
        . subst v1
          cases hs:d.B7==0
          . rw[show(d.B7 !=0)=true by simp only[bne,hs];rfl];rfl
          . rw[show(d.B7 !=0)=false by simp only[bne,hs];rfl];rfl
        . by_cases v2:v=2
          . subst v2
            cases hs:d.B7==0
            . rw[show(d.B7 !=0)=true by simp only[bne,hs];rfl];rfl
            . rw[show(d.B7 !=0)=false by simp only[bne,hs];rfl];rfl
          . rw[show(v==1)=false by simpa using v1,show(v==2)=false by simpa using v2]
            cases v==0
            . rfl
            . have:Q6y d=(bif d.B7==2 then true else d.B7==3):=rfl
              rw[this]
              cases d.B7==2<;>cases d.B7==3<;>rfl
    . rfl
  . rfl
theorem Z5o(n:Q0k)(port:Int)(v:Int)(at0:Int):Qyr n m port v at0=Qkp n m port v at0:=by
  have pg:=Qvm h
  have pa:=Z2l h
  simp only[Qyr,Qeu,Z00,Qc5,Qkp,Q9l,Tree.m,letv,pg,pa]
  have g1:decide (n.D4>=1)=!decide (n.D4<1):=xi
  have g2:decide (n.D4<=128)=!decide (n.D4>128):=by
    by_cases h:n.D4>128
    . rw[dY h,dN (by omega)];rfl
    . rw[dN h,dY (by omega)];rfl
  rw[g1,g2]
  cases port==7
  . cases port==8
    . cases h9:port==9
      . rw[show(port !=9)=true by simp only[bne,h9];rfl];rfl
      . rw [show(port !=9)=false by simp only[bne,h9];rfl]
        by_cases v1:v=1
        . subst v1
          cases decide (n.D4<1)<;>cases decide (n.D4>128)<;>cases Q1l m n.Frame<;>rfl
        . by_cases v2:v=2
          . subst v2;rfl
          . rw[show(v==1)=false by simpa using v1,show(v==2)=false by simpa using v2]
            cases v==0<;>rfl
    . rfl
  . rfl
theorem Qzr{d:Q09}(hd:Q6g d)(e:Q0s):Qbw d m e=((Qcs d m e).1,(Qcs d m e).2.2,(Qcs d m e).2.1):=by
  have hcl:Q01 m=m:=rfl
  have pg:=Qvi h d.B0
  have lp:decide ((e.C6.length:Int)>0)=!decide (e.C6=[]):=by
    cases e.C6 with
    |nil=>rfl
    |cons a l=>rw[dY (by simp),dN (by simp)];rfl
  have bad:(e.C6.length:Int)≠128->Q1l m d.B0=true->Q2 m (wrap .i64 d.B0) e.C6=(m,false):=λhl hp=>by
    rw[Qg1 h hd.opFrame]at hp
    have hp:=oY hp
    have h1:=hd.opFrame.1
    have h3:=h.p2
    have ew:i64.wrap d.B0=d.B0:=w64 (by omega) (by omega)
    simp only[Q2,Q2f,Tree.m,letv,hcl,ew,Qym h,dY (⟨h1,hp⟩:0<=d.B0/\d.B0<P),show((e.C6.length:Int) !=128)=true by simpa using hl]
    rfl
  have good:(e.C6.length:Int)=128->Q1l m d.B0=true->Q2 m (wrap .i64 d.B0) e.C6=(Qhu m (wrap .i64 d.B0) e.C6,true):=λhl hp=>by
    rw[Qg1 h hd.opFrame]at hp
    have hp:=oY hp
    have h1:=hd.opFrame.1
    have h3:=h.p2
    have ew:i64.wrap d.B0=d.B0:=w64 (by omega) (by omega)
    rw[ew];exact Z13 h h1 hp (by omega)
  simp only[Qbw,Q54,Qcs,Q9b,Tree.m,letv,hcl,pg,lp]
  cases d.B7 !=1
  . cases e.C0 !=4
    . cases decide (e.N>1)
      . cases e.N==1
        . cases decide (e.C6=[])<;>rfl
        . cases hc:d.D1==1
          . cases decide (e.C6=[])<;>rfl
          . by_cases hl:(e.C6.length:Int)=128
            . rw[show((e.C6.length:Int) !=128)=false by simpa using hl]
              cases hp:Q1l m d.B0
              . rfl
              . rw[good hl hp];rfl
            . rw[show((e.C6.length:Int) !=128)=true by simpa using hl]
              cases hp:Q1l m d.B0
              . rfl
              . rw[bad hl hp];rfl
      . rfl
    . rfl
  . rfl
theorem Z1s{n:Q0k}(hn:Qds n)(frame:List UInt8):Qg n m frame=((Qci n m frame).1,(Qci n m frame).2.2,(Qci n m frame).2.1):=by
  have hcl:Q01 m=m:=rfl
  have pg:=Qvm h n.B6
  simp only[Qg,Q7a,Qci,Q9o,Tree.m,letv,hcl,pg]
  cases !n.C1
  . cases decide ((frame.length:Int)<1)
    . cases hf:decide ((frame.length:Int)>128)
      . cases hp:Q1l m n.B6
        . rfl
        . rw[Qg1 h hn.buffer]at hp
          have hp:=oY hp
          have h1:=hn.buffer.1
          have h3:=h.p2
          have ew:i64.wrap n.B6=n.B6:=w64 (by omega) (by omega)
          have hf:=oN hf
          obtain⟨b1,b2⟩:=(Tree.pp (yg h h1 hp)).2
          change isPg m n.B6 (Q3x m n.B6).1 at b1
          have tk:List.take (Int.toNat ((Q3x m n.B6).1.length:Int)-Int.toNat (frame.length:Int)) (List.drop (Int.toNat (frame.length:Int)) (Q3x m n.B6).1)=(Q3x m n.B6).1.drop frame.length:=by
            rw[Int.toNat_natCast,Int.toNat_natCast]
            exact List.take_of_length_le (by simp)
          rw[ew,tk,Z0x h h1 hp (by omega) b1]
          rfl
      . rfl
    . rfl
  . rfl
end
def ptab:List UInt8:=(List.range 256).map λn=>UInt8.ofNat (n%2+n/2%2+n/4%2+n/8%2+n/16%2+n/32%2+n/64%2+n/128%2)
def pt(n:Int):Int:=((UInt8.toNat (ptab.getD n.toNat 0):Nat):Int)
theorem vC(x:Int):Q4e x=wrap .i64 (wrap .u8 (wrap .u8 (wrap .u8 (pt (ishr .u32 x 24)+pt (iand .u32 (ishr .u32 x 16) 255))+pt (iand .u32 (ishr .u32 x 8) 255))+pt (iand .u32 x 255))):=by kernel_rfl
theorem pt8{a:Int}(h0:0<=a)(h1:a<256):pt a=a%2+a/2%2+a/4%2+a/8%2+a/16%2+a/32%2+a/64%2+a/128%2:=
 eq_of_beq (Qlr (λa=>pt a==a%2+a/2%2+a/4%2+a/8%2+a/16%2+a/32%2+a/64%2+a/128%2) 256 (by kernel_rfl) h0 h1)
theorem zi{g:Int}(hg:U g):bits g [0,1,2,3,4,5,6,7,8,9,10,11,12,13,14,15,16,17,18,19,20,21,22,23,24,25,26,27,28,29,30,31] 0=pt (g%256)+pt (g/256%256)+pt (g/65536%256)+pt (g/16777216):=by
 rw[xC hg _ 0 (by decide) (by decide) (by decide),pt8 (by omega) (by omega),pt8 (by omega) (by omega),pt8 (by omega) (by omega),pt8 (by have:=hg.1;omega) (by have:=hg.2;omega)]
 obtain⟨g0,g1⟩:=hg
 simp only[List.map_cons,List.map_nil,List.sum_cons,List.sum_nil]
 have e: ∀i j:Nat,∀k:Int,i<8->k=2^j->g/2^(i+j)%2=(g/k%256)/2^i%2:=λi j k hi hk=>by
   subst hk
   rw[Nat.add_comm,Int.pow_add,<-Int.ediv_ediv_of_nonneg (Int.le_of_lt (Int.pow_pos (by decide)))]
   generalize g/2^j=x
   have:i=0\/i=1\/i=2\/i=3\/i=4\/i=5\/i=6\/i=7:=by omega
   rcases this with rfl|rfl|rfl|rfl|rfl|rfl|rfl|rfl<;>simp<;>omega
 have e0: ∀i:Nat,i<8->g/2^i%2=(g%256)/2^i%2:=λi hi=>by have:=e i 0 1 hi rfl;simpa using this
 have e24:g/16777216%256=g/16777216:=by omega
 rw[e0 0 (by decide),e0 1 (by decide),e0 2 (by decide),e0 3 (by decide),e0 4 (by decide),e0 5 (by decide),e0 6 (by decide),e0 7 (by decide)]
 rw[e 0 8 256 (by decide) (by decide),e 1 8 256 (by decide) (by decide),e 2 8 256 (by decide) (by decide),e 3 8 256 (by decide) (by decide),e 4 8 256 (by decide) (by decide),e 5 8 256 (by decide) (by decide),e 6 8 256 (by decide) (by decide),e 7 8 256 (by decide) (by decide)]
 rw[e 0 16 65536 (by decide) (by decide),e 1 16 65536 (by decide) (by decide),e 2 16 65536 (by decide) (by decide),e 3 16 65536 (by decide) (by decide),e 4 16 65536 (by decide) (by decide),e 5 16 65536 (by decide) (by decide),e 6 16 65536 (by decide) (by decide),e 7 16 65536 (by decide) (by decide)]
 rw[e 0 24 16777216 (by decide) (by decide),e 1 24 16777216 (by decide) (by decide),e 2 24 16777216 (by decide) (by decide),e 3 24 16777216 (by decide) (by decide),e 4 24 16777216 (by decide) (by decide),e 5 24 16777216 (by decide) (by decide),e 6 24 16777216 (by decide) (by decide),e 7 24 16777216 (by decide) (by decide),e24]
 generalize g%256=a
 generalize g/256%256=b
 generalize g/65536%256=c
 generalize g/16777216=d
 simp only[show(2:Int)^0=1 from rfl,show(2:Int)^1=2 from rfl,show(2:Int)^2=4 from rfl,show(2:Int)^3=8 from rfl,show(2:Int)^4=16 from rfl,show(2:Int)^5=32 from rfl,show(2:Int)^6=64 from rfl,show(2:Int)^7=128 from rfl,Int.ediv_one]
 omega
theorem pt_le{a:Int}(h0:0<=a)(h1:a<256):0<=pt a/\pt a<=8:=by rw[pt8 h0 h1];omega
theorem Qvr{b:Q06}(hg:U b.B8):Q91 b=Qca b/\0<=Qca b/\Qca b<=32:=by
 obtain⟨s8,s16,s24⟩:=shr_c b.B8
 have u8:U (ishr .u32 b.B8 8):=Qnv hg _
 have u16:U (ishr .u32 b.B8 16):=Qnv hg _
 have e:Q91 b=Q4e b.B8:=rfl
 rw[e,vC,qC,zi hg,m255 u8,m255 u16,m255 hg,s8,s16,s24]
 obtain⟨g0,g1⟩:=hg
 have p0:=pt_le (a:=b.B8%256) (by omega) (by omega)
 have p1:=pt_le (a:=b.B8/256%256) (by omega) (by omega)
 have p2:=pt_le (a:=b.B8/65536%256) (by omega) (by omega)
 have p3:=pt_le (a:=b.B8/16777216) (by omega) (by omega)
 have w8: ∀x,wrap .u8 x=x%256:=λx=>wrap_u8 x
 rw[w8,w8,w8,wrap_i64]
 omega
theorem Z0s{b:Q06}(h:okB b):Q58 b=Q3t b:=by
 obtain⟨e,l0,l1⟩:=Qvr h.2
 obtain⟨t0,t1⟩:=h.1
 simp only[Q58,Q3o,Q3t,Qb1,Tree.m,letv,e]
 rw[wrap_u32,wrap_u64,wrap_u64,Int.emod_eq_of_lt l0 (by omega),Int.emod_eq_of_lt l0 (by omega),Int.emod_eq_of_lt t0 (by omega)]
theorem Z8f{b:Q06}(h:okB b)(port:Int):Qin b port=Q65 b port:=by
 simp only[Qin,Q8s,Q65,Q5z,Tree.m,letv,(Qvr h.2).1]
theorem xX(g:Int)(z:Nat):g%2^(z+1)=g%2^z+2^z*(g/2^z%2):=by
 have hp:(0:Int)<2^z:=Int.pow_pos (by decide)
 have h1:=Int.mul_ediv_add_emod g (2^z)
 have h2:=Int.mul_ediv_add_emod (g/2^z) 2
 have h3:(g/2^z)/2=g/2^(z+1):=by rw[Int.pow_succ,Int.ediv_ediv_of_nonneg (Int.le_of_lt hp)]
 have h4:=Int.mul_ediv_add_emod g (2^(z+1))
 rw[h3]at h2
 have h5:(2:Int)^(z+1)*(g/2^(z+1))=2^z*(2*(g/2^(z+1))):=by rw[Int.pow_succ,Int.mul_assoc]
 have h6:(2:Int)^z*(g/2^z)=2^z*(2*(g/2^(z+1)))+2^z*(g/2^z%2):=by rw[<-Int.mul_add,h2]
 omega
theorem xah{b:Q06}(hg:U b.B8){P:Nat}(hP:P<=32):(Qac b P).w (λr=>r=decide (b.B8<2^P)):=by
 unfold Qac
 have fin: ∀v:Int,0<=v->v<=32->wrap .u64 v=(v.toNat:Int):=λv h0 h1=>by rw[wrap_u64];omega
 refine w_lp (inv:=λz:Int=>0<=z/\z<=32/\b.B8%2^z.toNat<2^P) (μ:=Qb b P) ⟨by decide,by decide,by have:(0:Int)<2^P:=Int.pow_pos (by decide);simpa using this⟩ (Nat.lt_succ_self _) λz ⟨z0,z1,z2⟩=> ?_
 refine w_br (λhb=> ?_) (λhb=> ?_)
 . have hb:=oY hb
   have ew:i64.wrap (z+1)=z+1:=w64 (by omega) (by omega)
   have bt:iand .u32 (ishr .u32 b.B8 (wrap .u64 z)) 1=b.B8/2^z.toNat%2:=by
     rw[fin z z0 z1,and1 (Qnv hg _),Qk0 _ (by omega)]
   have bp:=xX b.B8 z.toNat
   have zt:(z+1).toNat=z.toNat+1:=by omega
   refine w_cn (dY (by rw[wrap_u64];omega)) ?_
   rw[bt]
   refine w_br (λe=>w_br (λhp=> ?_) (λhp=>w_nx ?_)) (λe=>w_nx ?_)
   . have e:=eq_of_beq e
     have hp:=oY hp
     show false=_
     refine(dN λhlt=> ?_).symm
     have hle:(2:Int)^P<=2^z.toNat:=by exact_mod_cast Nat.pow_le_pow_right (show 0<2 by decide) (show P<=z.toNat by omega)
     have:b.B8/2^z.toNat=0:=Int.ediv_eq_zero_of_lt hg.1 (by omega)
     rw[this]at e;cases e
   . have e:=eq_of_beq e
     have hp:=oN hp
     show(0<=i64.wrap (z+1)/\i64.wrap (z+1)<=32/\b.B8%2^(i64.wrap (z+1)).toNat<2^P)/\(32-i64.wrap (z+1)).toNat<(32-z).toNat
     rw[ew,zt]
     have hle:(2:Int)^(z.toNat+1)<=2^P:=by exact_mod_cast Nat.pow_le_pow_right (show 0<2 by decide) (show z.toNat+1<=P by omega)
     have:=Int.emod_lt_of_pos b.B8 (show(0:Int)<2^(z.toNat+1) from Int.pow_pos (by decide))
     exact⟨⟨by omega,by omega,by omega⟩,by omega⟩
   . have e: ¬b.B8/2^z.toNat%2=1:=by simpa using e
     have e:b.B8/2^z.toNat%2=0:=by omega
     rw[e]at bp
     show(0<=i64.wrap (z+1)/\i64.wrap (z+1)<=32/\b.B8%2^(i64.wrap (z+1)).toNat<2^P)/\(32-i64.wrap (z+1)).toNat<(32-z).toNat
     rw[ew,zt,bp]
     exact⟨⟨by omega,by omega,by omega⟩,by omega⟩
 . have hb:=oN hb
   have:z=32:=by omega
   subst this
   show true=_
   refine(dY ?_).symm
   have h2:b.B8%2^(32:Int).toNat=b.B8:=Int.emod_eq_of_lt hg.1 hg.2
   rwa [h2]at z2
theorem Z51{b:Q06}(hg:U b.B8){P:Nat}(hP:P<=32):Q1y b P=Q90 b P:=by
 have r:=(Tree.pp (xah hg hP)).2
 change Q90 b P=_ at r
 rw[r,Bool.eq_iff_iff,Qtr hg,decide_eq_true_eq]
theorem zeros:strings_Repeat [(0:UInt8)] 128=List.replicate 128 0:=by kernel_rfl
theorem qai{P:Nat}{m:List Int}(hm:Q0n P m){b:Q06}{port:Int}{v:Int}(hv:U v)(hp:v<P)(h10:port=10)(hb:(iand .u32 (ishr .u32 b.B8 v) 1==0)=true):(Q3z b m port v).w (λr=>r.1={C3:=b.C3,B8:=ior .u32 b.B8 (ishl .u32 1 v)}/\Q0n P r.2/\ ∀k:Nat,byt r.2 k=if v*128<=k/\(k:Int)<v*128+128 then 0 else byt m k):=by
 have hv0:decide (0<=v)=true:=dY hv.1
 have h2:=hm.p2
 have pg:Q1l m v=true:=by rw[Qg1 hm hv];exact dY hp
 obtain⟨v1,v2⟩:=hv
 subst h10
 unfold Q3z
 refine w_br (λ_=>w_lv λx0 hx=>w_br (λ_=>w_cn hv0 (w_br (λ_=>w_cn hv0 ?_) (λh=>by rw[hb]at h;cases h))) (λh=>by rw[hx,pg]at h;cases h)) (λh=>by cases h)
 refine w_lp (inv:=λz=>0<=z.1/\z.1<=32/\Q0n P z.2/\ ∀k:Nat,byt z.2 k=if v*128<=k/\(k:Int)<v*128+4*z.1 then 0 else byt m k) (μ:=Qdi b m 10 v) ⟨show(0:Int)<=0 by decide,show(0:Int)<=32 by decide,hm,λk=>by rw[if_neg];show¬(_/\_<_+4*(0:Int));omega⟩ (Nat.lt_succ_self _) (λz hz=> ?_)
 obtain⟨z1,z2,z3,z4⟩:=hz
 have hl:=z3.len
 refine w_br (λh=> ?_) (λh=>⟨rfl,z3,λk=> ?_⟩)
 . have h:=oY h
   have e:wrap i64 (wrap i64 (wrap i64 v*32)+z.1)=v*32+z.1:=by rw[wrap_i64,wrap_i64,wrap_i64];omega
   refine w_cn (by rw[e];simp [Nat.blt];omega) (w_nx ?_)
   have ew:i64.wrap (z.1+1)=z.1+1:=by rw[wrap_i64];omega
   show(0<=i64.wrap (z.1+1)/\i64.wrap (z.1+1)<=32/\Q0n P (List.set _ _ _)/\ ∀k:Nat,byt (List.set z.2 (Int.toNat (wrap i64 (wrap i64 (wrap i64 v*32)+z.1))) 0) k=if v*128<=(k:Int)/\(k:Int)<v*128+4*i64.wrap (z.1+1) then 0 else _)/\(32-i64.wrap (z.1+1)).toNat<(32-z.1).toNat
   rw[ew,e]
   refine⟨⟨by omega,by omega,⟨by simp [hl],z3.p1,z3.p2,Quy z3.u U_0 _⟩,λk=> ?_⟩,by omega⟩
   rw[Z42 (by omega)]
   by_cases hc:k/4=(v*32+z.1).toNat
   . rw[if_pos hc,if_pos (by omega)]
     have:k%4=0\/k%4=1\/k%4=2\/k%4=3:=by omega
     rcases this with h|h|h|h<;>rw[h]<;>rfl
   . rw[if_neg hc,z4 k]
     by_cases hd:v*128<=(k:Int)/\(k:Int)<v*128+4*z.1
     . rw[if_pos hd,if_pos (by omega)]
     . rw[if_neg hd,if_neg (by omega)]
 . have h:=oN h
   show byt z.2 k=_
   rw[z4 k,show z.1=32 by omega];rfl
theorem bitv{g v:Int}(hg:U g)(v0:0<=v)(v1:v<32):(iand .u32 g (ishl .u32 1 v)==0)=(iand .u32 (ishr .u32 g v) 1==0):=by
 obtain⟨z,rfl⟩: ∃z:Nat,v=z:=⟨v.toNat,by omega⟩
 obtain⟨n,rfl⟩: ∃n:Nat,g=n:=⟨g.toNat,by have:=hg.1;omega⟩
 have hz:z<32:=by omega
 have hlt:(2:Nat)^z<4294967296:=by have:=Nat.pow_lt_pow_right (show 1<2 by omega) hz;simpa using this
 rw[and1 (Qnv hg _),Qk0 z (by omega),ye v0 v1,Int.toNat_natCast]
 have hc:((2:Int)^z)=((2^z:Nat):Int):=by simp
 generalize hq:2^z=q at*
 rw[hc,Z5y hg ⟨by omega,by omega⟩,Int.toNat_natCast,Int.toNat_natCast,<-hq]
 have e1:(n&&&2^z)=0↔n/2^z%2=0:=by
   have t:n.testBit z=decide (n/2^z%2=1):=Nat.testBit_eq_decide_div_mod_eq
   constructor
   . intro h
     have h2:(n&&&2^z).testBit z=false:=by rw[h];exact Nat.zero_testBit z
     rw[Nat.testBit_and,Nat.testBit_two_pow_self,Bool.and_true,t]at h2
     have:=oN h2
     omega
   . intro h
     have t0:n.testBit z=false:=by rw[t];exact dN (by omega)
     apply Nat.eq_of_testBit_eq
     intro i
     rw[Nat.testBit_and,Nat.testBit_two_pow,Nat.zero_testBit]
     by_cases hi:z=i
     . subst hi;rw[t0];rfl
     . rw[dN hi,Bool.and_false]
 rw[Bool.eq_iff_iff,beq_iff_eq,beq_iff_eq]
 constructor
 . intro h;have:=e1.1 (by omega);omega
 . intro h;have:=e1.2 (by omega);omega
theorem Z58{P:Nat}{m:List Int}(h:Q0n P m){b:Q06}(hb:okB b)(port:Int){v:Int}(hv:U v):Q5i b m port v=Q5w b m port v:=by
  have hcl:Q01 m=m:=rfl
  have hp:=Q2k h
  have h2:=h.p2
  have ew:i64.wrap v=v:=w64 (by have:=hv.1;omega) (by have:=hv.2;omega)
  have pe:=Qg1 h hv
  by_cases h32:v<32
  . have bv :=bitv hb.2 hv.1 h32
    by_cases h10:port=10
    . by_cases hP:v<P
      . cases hz:iand .u32 (ishr .u32 b.B8 v) 1==0
        . simp only[Q5i,Q2t,Q5w,Q3z,Tree.m,letv,hcl,hp,ew,pe,bv,hz,h10,dY hP,dN (show¬v>=32 by omega)]
          rfl
        . obtain⟨g1,g2,g3⟩:=(Tree.pp (qai h hv hP h10 hz)).2
          change(Q5w b m port v).1=_ at g1
          change Q0n P (Q5w b m port v).2 at g2
          change∀k:Nat,byt (Q5w b m port v).2 k=_ at g3
          obtain⟨s1,s2,s3⟩:=(Tree.pp (Qt1 h hv.1 hP (s:=List.replicate 128 0) (by simp))).2
          have em:(Q2 m v (List.replicate 128 0)).1=(Q5w b m port v).2:=by
            refine Z5k (s2.len.trans g2.len.symm) s2.u g2.u λk=> ?_
            rw[g3 k]
            refine(s3 k).trans ?_
            by_cases hk:v*128<=(k:Int)/\(k:Int)<v*128+128
            . rw[if_pos hk,if_pos hk]
              have:(List.replicate 128 (0:UInt8)).getD ((k:Int)-v*128).toNat 0=0:=by
                rw[List.getD_eq_getElem?_getD,List.getElem?_replicate]
                split<;>rfl
              rw[this];rfl
            . rw[if_neg hk,if_neg hk]
          have el:Q5i b m port v=({C3:=b.C3,B8:=ior .u32 b.B8 (ishl .u32 1 v)},(Q2 m v (List.replicate 128 0)).1):=by
            simp only[Q5i,Q2t,Tree.m,letv,hcl,hp,ew,bv,hz,h10,dY hP,dN (show¬v>=32 by omega),zeros]
            rfl
          rw[el,em,<-g1]
      . simp only[Q5i,Q2t,Q5w,Q3z,Tree.m,letv,hcl,hp,ew,pe,h10,dN hP,dN (show¬v>=32 by omega)]
        rfl
    . simp only[Q5i,Q2t,Q5w,Q3z,Tree.m,letv,hcl,dY h32,dN (show¬v>=32 by omega),show(port==10)=false by simpa using h10]
      cases port==11<;>rfl
  . simp only[Q5i,Q2t,Q5w,Q3z,Tree.m,letv,hcl,pe,dN h32,dY (show v>=32 by omega),dN (show¬v<P by omega)]
    cases port==10<;>cases port==11<;>rfl
structure okV(m:Q00):Prop where
 cpu:Q21 m.B1
 mem: ∀w∈m.Mem,U w
 disk:Q6g m.A9
 nic:Qds m.C2
 bal:okB m.A0
 cnt:0<=m.A4
theorem Qkt(m:List Int)(hm: ∀w∈m,U w):Q0i m=Q37 m/\(Q0i m=0\/ ∃P:Nat,1<=P/\Q0n P m):=by
 refine⟨rfl,?_⟩
 simp only[Q0i,Q66,Tree.m]
 cases h1:Int.tmod (m.length:Int) 32 !=0
 . cases h2:decide ((m.length:Int)>1024)
   . have h1:Int.tmod (m.length:Int) 32=0:=by simpa using h1
     have h2:=oN h2
     rw[Int.tmod_eq_emod_of_nonneg (by omega)]at h1
     by_cases h0:m.length=0
     . left;rw[h0];rfl
     . right;exact⟨m.length/32,by omega,⟨by omega,by omega,by omega,hm⟩⟩
   . left;rfl
 . left;rfl
theorem rcnd{a x:Bool}:(bif !a then false else x)=true↔a=true/\x=true:=by cases a<;>simp
theorem qD(m:Q00):Qbp m=true↔ ¬(Q37 m.Mem<1)/\Q5c m.B1/\Qhr m.A1=true/\Qbu m.A6=true/\Qe7 m.A9 (Q37 m.Mem)=true/\Qfy m.C2 (Q37 m.Mem)=true/\Q90 m.A0 (Q37 m.Mem)=true/\m.A4<=1152921504606846976/\ ¬(m.A2=true/\m.A3=true):=by
 simp only[Qbp,Qwr,Tree.m,letv]
 rw[cnd2,cnd2,cnd2,cnd2,cnd2,cnd2,rcnd,rcnd,rcnd,rcnd,rcnd]
 simp only[decide_eq_false_iff_not,Int.not_lt,bne_eq_false_iff_eq,gt_iff_lt]
 have l:((bif decide (m.A4<=1152921504606846976) then(bif m.A2 then !m.A3 else true) else false)=true)↔m.A4<=1152921504606846976/\ ¬(m.A2=true/\m.A3=true):=by
   by_cases hc:m.A4<=1152921504606846976
   . rw[dY hc]
     cases m.A2<;>cases m.A3<;>simp [hc]
   . rw[dN hc];simp [hc]
 rw[l]
 constructor
 . rintro⟨a1,a2,a3,a4,a5,a6,a7⟩
   exact⟨by omega,⟨a2,a3,a4,a5,a6⟩,a7⟩
 . rintro⟨a1,⟨a2,a3,a4,a5,a6⟩,a7⟩
   exact⟨by omega,a2,a3,a4,a5,a6,a7⟩
theorem Qxs{m:Q00}(h:okV m):Q10 m=Qbp m:=by
 rw[Bool.eq_iff_iff,Qmy,qD,qe]
 obtain⟨e,c⟩:=Qkt m.Mem h.mem
 simp only[aE,<-e]
 rcases c with c|⟨P,hP,hm⟩
 . constructor
   . rintro⟨a,_⟩;exact absurd c a
   . rintro⟨a,_⟩;omega
 . rw[Q2k hm,Qtz,Qyu,Z2x,Z51 h.bal.2 hm.p2]
   constructor
   . rintro⟨a1,a2,a3,a4,a5,a6,a7,a8,a9⟩;exact⟨by omega,a2,a5,a6,a7,a8,a9,a3,a4⟩
   . rintro⟨a1,a2,a5,a6,a7,a8,a9,a3,a4⟩;exact⟨by omega,a2,a3,a4,a5,a6,a7,a8,a9⟩
def Z08(a b c d e:Bool):Int:=ior .u32 (ior .u32 (ior .u32 (ior .u32 (Q7x a 0) (Q7x b 1)) (Q7x c 2)) (Q7x d 3)) (Q7x e 4)
theorem mlines(m:Q00):Q9s m=Z08 (Qc1 m.A6) (Q6s m.A1) (Q6y m.A9) (Qg4 m.C2) (Q58 m.A0):=by
 unfold Q9s Q51
 simp only[Tree.m,letv]
 generalize Qc1 m.A6=a
 generalize Q6s m.A1=b
 generalize Q6y m.A9=c
 generalize Qg4 m.C2=d
 generalize Q58 m.A0=e
 cases a<;>cases b<;>cases c<;>cases d<;>cases e<;>kernel_rfl
theorem Z8d(a b c d e:Bool):0<=Z08 a b c d e/\Z08 a b c d e<32:=by
 cases a<;>cases b<;>cases c<;>cases d<;>cases e<;>decide
theorem rlines(m:Q00):Qf0 m=Z08 (Qag m.A6) (Q5q m.A1) (Qb9 m.A9) (Qcm m.C2) (Q3t m.A0):=rfl
section
variable {m:Q00} (h:okV m)
include h
theorem Z94:Q9s m=Qf0 m:=by
 rw[mlines,rlines,zC,Z0s h.bal];rfl
theorem Qob:Q4 m=Q2d m:=by
 have e:=Z94 h
 simp only[Q4,Q3p,Q2d,Q7q,Tree.m,letv,e]
theorem yi:Qb0 m=Qfg m:=by
 have e:=Qob h
 simp only[Qb0,Q3j,Qfg,Qk6,Tree.m,letv,e]
theorem Z26:Q2g m=!Q48 m:=by
 have e1:=Qxs h
 have e2:=yi h
 have e3:decide (m.A4>=1152921504606846976)=!decide (m.A4<1152921504606846976):=xi
 simp only[Q2g,Q2u,Q48,Qi,Tree.m,letv,e1,e2,e3]
 cases Qbp m<;>cases m.A3<;>cases Qfg m<;>cases decide (m.A4<1152921504606846976)<;>rfl
theorem Qws:0<=Q2d m/\Q2d m<32:=by
 have e:Q2d m=iand .u32 (Qf0 m) m.B1.B3.a7:=rfl
 have l:=Z8d (Qag m.A6) (Q5q m.A1) (Qb9 m.A9) (Qcm m.C2) (Q3t m.A0)
 rw[<-rlines]at l
 rw[e,Z5y ⟨l.1,by omega⟩ h.cpu.a7]
 have:=Nat.and_le_left (n:=(Qf0 m).toNat) (m:=m.B1.B3.a7.toNat)
 omega
def low(l:Int):Int:=if l%2=1 then 0 else if l/2%2=1 then 1 else if l/4%2=1 then 2 else if l/8%2=1 then 3 else 4
end
theorem cases32{l:Int}(h0:0<=l)(h1:l<32):l=0\/l=1\/l=2\/l=3\/l=4\/l=5\/l=6\/l=7\/l=8\/l=9\/l=10\/l=11\/l=12\/l=13\/l=14\/l=15\/l=16\/l=17\/l=18\/l=19\/l=20\/l=21\/l=22\/l=23\/l=24\/l=25\/l=26\/l=27\/l=28\/l=29\/l=30\/l=31:=by omega
def intr(m:Q00)(l:Int):Q03:=bif iand .u32 m.B1.B3.a0 2==0 then m.B1 else bif l==0 then m.B1 else Q22 m.B1 (wrap .i64 (16+low l)) 0
theorem rintr{m:Q00}(h:okV m):Q0m m=intr m (Q2d m):=by
 obtain⟨l0,l1⟩:=Qws h
 unfold Q0m Q4b
 simp only[Tree.m,letv]
 revert l0 l1
 generalize Q2d m=l
 intro l0 l1
 unfold intr
 cases iand .u32 m.B1.B3.a0 2==0
 . rcases cases32 l0 l1 with rfl|rfl|rfl|rfl|rfl|rfl|rfl|rfl|rfl|rfl|rfl|rfl|rfl|rfl|rfl|rfl|rfl|rfl|rfl|rfl|rfl|rfl|rfl|rfl|rfl|rfl|rfl|rfl|rfl|rfl|rfl|rfl<;>kernel_rfl
 . rfl
def beg(m:Q00)(c:Q03):Q00:={B1:=c,Mem:=m.Mem,A1:=m.A1,A6:=m.A6,A9:=m.A9,C2:=m.C2,A0:=m.A0,A4:=m.A4,A2:=false,A3:=m.A3}
theorem Z99{m:Q00}(h:okV m)(hst:m.B1.B3.a0<=31):Q0r m=beg m (Q0m m):=by
 obtain⟨l0,l1⟩:=Qws h
 have tr: ∀k b,Q3b m.B1 k b=Q22 m.B1 k b:=Qhg h.cpu.a0.1 hst
 have e:Q4 (beg m m.B1)=Q2d m:=Qob (m:=beg m m.B1) ⟨h.cpu,h.mem,h.disk,h.nic,h.bal,h.cnt⟩
 rw[rintr h]
 unfold Q0r Q3
 simp only[Tree.m,letv]
 rw[show Q4 {B1:=m.B1,Mem:=m.Mem,A1:=m.A1,A6:=m.A6,A9:=m.A9,C2:=m.C2,A0:=m.A0,A4:=m.A4,A2:=false,A3:=m.A3}=Q2d m from e]
 revert l0 l1
 generalize Q2d m=l
 intro l0 l1
 unfold intr
 simp only[<-tr]
 cases iand .u32 m.B1.B3.a0 2==0
 . rcases cases32 l0 l1 with rfl|rfl|rfl|rfl|rfl|rfl|rfl|rfl|rfl|rfl|rfl|rfl|rfl|rfl|rfl|rfl|rfl|rfl|rfl|rfl|rfl|rfl|rfl|rfl|rfl|rfl|rfl|rfl|rfl|rfl|rfl|rfl<;>(show _=_;kernel_rfl)
 . rfl
theorem ports{p:Int}:p=0\/p=1\/p=2\/p=3\/p=4\/p=5\/p=6\/p=7\/p=8\/p=9\/p=10\/p=11\/p<0\/12<=p:=by omega
theorem zX{m:Q00}(hb:okB m.A0)(port clock:Int):Q0v m port clock=((Qeh m port clock).2,(Qeh m port clock).1):=by
 have e1:=Z7t m.A1
 have e2: ∀p,Qni m.A9 p=Qk9 m.A9 p:=λ_=>rfl
 have e3:=Z95 m.C2
 have e4:=Z8f hb
 have e5:Qqh m.A6=Qi4 m.A6:=rfl
 simp only[Q0v,Q39,Qeh,Qm2,Tree.m,letv,e1,e2,e3,e4,e5]
 rcases ports (p:=port) with rfl|rfl|rfl|rfl|rfl|rfl|rfl|rfl|rfl|rfl|rfl|rfl|h|h
 all_goals first|rfl|skip
 . have n: ∀k:Int,0<=k->(port==k)=false:=λk hk=>beq_eq_false_iff_ne.2 (by omega)
   have c:Q62 m.A1 port=(m.A1,0):=by
     simp only[Q62,Q5r,Tree.m,n 0 (by decide),n 1 (by decide),cond_false]
   simp only[n 0 (by decide),n 1 (by decide),n 2 (by decide),n 3 (by decide),n 4 (by decide),n 5 (by decide),n 6 (by decide),n 7 (by decide),n 8 (by decide),n 9 (by decide),n 10 (by decide),n 11 (by decide),cond_false,dY (show port<=1 by omega),cond_true,c]
 . have n: ∀k:Int,k<12->(port==k)=false:=λk hk=>beq_eq_false_iff_ne.2 (by omega)
   have c:Q65 m.A0 port=0:=by
     simp only[Q65,Q5z,Tree.m,n 10 (by decide),n 11 (by decide),cond_false]
   simp only[n 0 (by decide),n 1 (by decide),n 2 (by decide),n 3 (by decide),n 4 (by decide),n 5 (by decide),n 6 (by decide),n 7 (by decide),n 8 (by decide),n 9 (by decide),n 10 (by decide),n 11 (by decide),cond_false,dN (show¬port<=1 by omega),dN (show¬port<=6 by omega),dN (show¬port<=9 by omega),c]
theorem xD{P:Nat}{m:Q00}(hm:Q0n P m.Mem)(hb:okB m.A0)(port:Int){v:Int}(hv:U v):Q1k m port v m.A4=((Qbr m port v).2,(Qbr m port v).1):=by
 have e1:=Z18 hm m.A9
 have e2:=Z5o hm m.C2
 have e3:=Z58 hm hb port hv
 have e4:=yC m.A6 v
 simp only[Q1k,Q2l,Qbr,Qf3,Tree.m,letv,e1,e2,e3,e4]
 rcases ports (p:=port) with rfl|rfl|rfl|rfl|rfl|rfl|rfl|rfl|rfl|rfl|rfl|rfl|h|h
 all_goals first|rfl|skip
 . have n: ∀k:Int,0<=k->(port==k)=false:=λk hk=>beq_eq_false_iff_ne.2 (by omega)
   simp only[n 0 (by decide),n 1 (by decide),n 2 (by decide),n 3 (by decide),n 4 (by decide),n 5 (by decide),n 6 (by decide),n 7 (by decide),n 8 (by decide),n 9 (by decide),n 10 (by decide),n 11 (by decide),cond_false,dY (show port<=2 by omega),cond_true]
 . have n: ∀k:Int,k<12->(port==k)=false:=λk hk=>beq_eq_false_iff_ne.2 (by omega)
   have c:Q5w m.A0 m.Mem port v=(m.A0,m.Mem):=by
     simp only[Q5w,Q3z,Tree.m,n 10 (by decide),n 11 (by decide),cond_false]
   simp only[n 0 (by decide),n 1 (by decide),n 2 (by decide),n 3 (by decide),n 4 (by decide),n 5 (by decide),n 6 (by decide),n 7 (by decide),n 8 (by decide),n 9 (by decide),n 10 (by decide),n 11 (by decide),cond_false,dN (show¬port<=2 by omega),dN (show¬port<=6 by omega),dN (show¬port<=9 by omega),c]
def tick(n:Q00)(c:Q03)(w h:Bool):Q00:={B1:=c,Mem:=n.Mem,A1:=n.A1,A6:=n.A6,A9:=n.A9,C2:=n.C2,A0:=n.A0,A4:=wrap .u64 (n.A4+1),A2:=w,A3:=h}
def withX(m:Q00)(c:Q03)(mem:List Int):Q00:={B1:=c,Mem:=mem,A1:=m.A1,A6:=m.A6,A9:=m.A9,C2:=m.C2,A0:=m.A0,A4:=m.A4,A2:=false,A3:=m.A3}
def finP(n:Q00)(e:Q0y)(clock at0:Int):Q00×List Q08:=
 bif e.C0==1 then
   (bif e.D2 !=0 then(tick (Q0v n e.C5 clock).1 {X:=A16.of 0 (List.set (A16.l (Q0v n e.C5 clock).1.B1.X) e.D2.toNat (Q0v n e.C5 clock).2),Pc:=(Q0v n e.C5 clock).1.B1.Pc,B3:=(Q0v n e.C5 clock).1.B1.B3} (Q0v n e.C5 clock).1.A2 (Q0v n e.C5 clock).1.A3,[])
   else(tick (Q0v n e.C5 clock).1 (Q0v n e.C5 clock).1.B1 (Q0v n e.C5 clock).1.A2 (Q0v n e.C5 clock).1.A3,[]))
 else bif e.C0==2 then(tick (Q1k n e.C5 e.Value at0).1 (Q1k n e.C5 e.Value at0).1.B1 (Q1k n e.C5 e.Value at0).1.A2 (Q1k n e.C5 e.Value at0).1.A3,(Q1k n e.C5 e.Value at0).2)
 else bif e.C0==3 then(tick n n.B1 true n.A3,[]) else bif e.C0==4 then(tick n n.B1 n.A2 true,[]) else(tick n n.B1 n.A2 n.A3,[])
def finR(n:Q00)(e:Q0y)(clock:Int):List Q08×Q00:=
 bif e.C0==1 then([],tick (Qeh n e.C5 clock).2 (Q1g (Qeh n e.C5 clock).2.B1 e.D2 (Qeh n e.C5 clock).1) (Qeh n e.C5 clock).2.A2 (Qeh n e.C5 clock).2.A3)
 else bif e.C0==2 then((Qbr n e.C5 e.Value).1,tick (Qbr n e.C5 e.Value).2 (Qbr n e.C5 e.Value).2.B1 (Qbr n e.C5 e.Value).2.A2 (Qbr n e.C5 e.Value).2.A3)
 else bif e.C0==3 then([],tick n n.B1 true n.A3) else bif e.C0==4 then([],tick n n.B1 n.A2 true) else([],tick n n.B1 n.A2 n.A3)
theorem xO(m:Q00)(clock:Int):Q1q m clock=finR (withX m (Q9z (Q0m m) m.Mem).1 (Q9z (Q0m m) m.Mem).2.2) (Q9z (Q0m m) m.Mem).2.1 clock:=by kernel_rfl
theorem Z6j(m:Q00)(clock:Int):Q1b m clock=bif !Q2g m then(m,[]) else finP {B1:=(Q75 (Q0r m).B1 (Q0r m).Mem).1,Mem:=(Q75 (Q0r m).B1 (Q0r m).Mem).2.1,A1:=(Q0r m).A1,A6:=(Q0r m).A6,A9:=(Q0r m).A9,C2:=(Q0r m).C2,A0:=(Q0r m).A0,A4:=(Q0r m).A4,A2:=(Q0r m).A2,A3:=(Q0r m).A3} (Q75 (Q0r m).B1 (Q0r m).Mem).2.2 clock m.A4:=by kernel_rfl
theorem yX(m:List Int):Qru m=m:=by
 simp [Qru,Qkh,Tree.m]
theorem vi(m:Q00):Qz8 m=m:=by
 simp only[Qz8,Qml,Tree.m,letv,yX]
def Z3h(m:Q00)(clock:Int):Q00×List Q08:=bif Q48 m then(m,[]) else((Q1q m clock).2,(Q1q m clock).1)
def Qed(m:Q00)(e:Q0s):Tree (Q00×Bool):=
 .an (Z37 m) (.lv (Qz8 m) λ(x0:Q00)=> .lv (Qbp x0) λ(x1:Bool)=> .br (!x1) (.lf (x0,false)) (.an (Qu8 x0 e) (.lv (Q64 x0 e) λ(x2:Bool×Q00)=> .lf (x2.2,x2.1))))
def Qcd(m:Q00)(e:Q0s):Q00×Bool:=(Qed m e).m
theorem Ql5(m:Q00)(clock:Int):Z3h m clock=bif Q48 m then(m,[]) else((Q1q m clock).2,(Q1q m clock).1):=rfl
theorem zD{P:Nat}{n:Q00}(hm:Q0n P n.Mem)(hb:okB n.A0){e:Q0y}(hr:0<=e.D2/\e.D2<16)(hv:U e.Value)(clock:Int):finP n e clock n.A4=((finR n e clock).2,(finR n e clock).1):=by
 unfold finP finR
 rw[zX hb e.C5 clock,xD hm hb e.C5 hv]
 cases e.C0==1
 . cases e.C0==2
   . cases e.C0==3
     . cases e.C0==4<;>rfl
     . rfl
   . rfl
 . generalize Qeh n e.C5 clock=r
   have s:=Qqj r.2.B1 hr r.1
   show(bif e.D2 !=0 then _ else _)=(tick r.2 (Q1g r.2.B1 e.D2 r.1) r.2.A2 r.2.A3,[])
   rw[<-s]
   simp only[Q7j,Q9d,Tree.m]
   cases e.D2 !=0<;>rfl
theorem Qln{m:Q00}(h:okV m)(clock:Int):Q1b m clock=Z3h m clock:=by
 rw[Z6j,Ql5,Z26 h]
 cases hs:Q48 m
 . have hr:Q2g m=true:=by rw[Z26 h,hs];rfl
   obtain⟨hm,hh,hct⟩:=Qxj hr
   obtain⟨g1,g2,g3,g4,g5⟩:=(Qmy m).1 hm
   rcases(Qkt m.Mem h.mem).2 with c|⟨P,hP,hmem⟩
   . exact absurd c g1
   have okm:okS P m:=⟨h.cpu,hmem,h.disk,h.nic,h.bal.1,h.bal.2⟩
   obtain⟨b1,b2,b3,_⟩:=(Tree.pp (Z0o okm g2)).2
   change Q5c (Q0r m).B1 at b1
   change okS P (Q0r m) at b2
   change(Q0r m).Mem=m.Mem at b3
   have be:=Z99 h g2.st
   have b1':Q5c (Q0m m):=by have:=b1;rw[be]at this;exact this
   have b2':Q21 (Q0m m):=by have:=b2.cpu;rw[be]at this;exact this
   have ex:=qi hmem b2' b1'.st
   have er:=(Tree.pp (Z6 b2' hmem)).2
   change 0<=(Q75 (Q0m m) m.Mem).2.2.D2/\(Q75 (Q0m m) m.Mem).2.2.D2<16 at er
   obtain⟨d1,d2,d3⟩:=(Tree.pp (do_w b2' hmem)).2
   change U (Q9z (Q0m m) m.Mem).2.1.Value at d2
   change Q0n P (Q9z (Q0m m) m.Mem).2.2 at d3
   rw[ex]at er
   rw[xO,be]
   show finP {B1:=(Q75 (Q0m m) m.Mem).1,Mem:=(Q75 (Q0m m) m.Mem).2.1,A1:=m.A1,A6:=m.A6,A9:=m.A9,C2:=m.C2,A0:=m.A0,A4:=m.A4,A2:=false,A3:=m.A3} (Q75 (Q0m m) m.Mem).2.2 clock m.A4=_
   rw[ex]
   exact zD (n:=withX m (Q9z (Q0m m) m.Mem).1 (Q9z (Q0m m) m.Mem).2.2) d3 h.bal er d2 clock
 . rfl
theorem Qvw{m:Q00}(h:okV m)(e:Q0s):Q5g m e=Qcd m e:=by
 have hcl:Q01 m.Mem=m.Mem:=rfl
 have mm:=Qxs h
 have t1:Qfc m.A6=Z3f m.A6:=rfl
 have t2: ∀b,Qhd m.A1 b=Qhy m.A1 b:=λ_=>rfl
 simp only[Q5g,Q4z,Qcd,Qed,Q64,Qb4,Tree.m,letv,vi,hcl,t1,t2]
 rw[show Q10 {B1:=m.B1,Mem:=m.Mem,A1:=m.A1,A6:=m.A6,A9:=m.A9,C2:=m.C2,A0:=m.A0,A4:=m.A4,A2:=m.A2,A3:=m.A3}=Qbp m from mm]
 cases hM:Qbp m
 . rfl
 have hM':Q10 m=true:=mm.trans hM
 rcases(Qkt m.Mem h.mem).2 with c|⟨P,hP,hmem⟩
 . exact absurd c ((Qmy m).1 hM').1
 have cs:=Qzr hmem h.disk e
 have rs:=Z1s hmem h.nic e.C6
 clear mm hM hM' hcl h
 obtain⟨c,mem,con,ti,d,n,b,ct,w,hl⟩:=m
 cases hl
 . by_cases k2:e.C0=2
   . rw[k2];cases e.N==0<;>cases decide (e.C6=[])<;>rfl
   by_cases k3:e.C0=3
   . rw[k3];cases decide (e.N<=255)<;>cases decide (e.C6=[])<;>rfl
   by_cases k4:e.C0=4
   . rw[k4,cs];rfl
   by_cases k5:e.C0=5
   . rw[k5,rs];cases e.N==0<;>rfl
   by_cases k6:e.C0=6
   . rw[k6];cases decide (e.C6=[])<;>rfl
   . rw[show(e.C0==2)=false by simpa using k2,show(e.C0==3)=false by simpa using k3,show(e.C0==4)=false by simpa using k4,show(e.C0==5)=false by simpa using k5,show(e.C0==6)=false by simpa using k6]
     rfl
 . rfl
section
variable {m:Q00} (h:okV m) (hl:m.Mem.length<=1024)
include h
theorem may_P(hm:Q10 m=true): ∃P,okS P m/\okM P m:=by
 rcases(Qkt m.Mem h.mem).2 with c|⟨P,hP,hmem⟩
 . exact absurd c ((Qmy m).1 hm).1
 . exact⟨P,⟨h.cpu,hmem,h.disk,h.nic,h.bal.1,h.bal.2⟩,⟨h.cpu,hmem,h.disk,h.nic,h.bal,h.cnt⟩⟩
include hl
theorem qj{clock:Int}(hk:U clock):Q86 m clock/\(Q1b m clock).2.length<=1/\(Q1b m clock).1.Mem.length<=1024:=by
 cases hr:Q2g m
 . have e:Q1b m clock=(m,[]):=by rw[Z6j,hr];rfl
   rw[e]
   refine⟨?_,Nat.zero_le _,hl⟩
   have hcl:Q01 m.Mem=m.Mem:=rfl
   show(Q3l m clock).p
   unfold Tree.p Q3l
   refine w_an (by show m.Mem.length<=35184372088832;omega) (w_lv λl hl=> ?_)
   rw[hcl]at hl;subst hl
   refine w_an (Tree.pp (vp (m:=⟨_,_,_,_,_,_,m.A0,_,_,_⟩) h.bal.2)).1 (w_lv λx1 hx1=>w_br (λ_=>trivial) (λhb=> ?_))
   have:x1=false:=hx1.trans hr
   rw[this]at hb;cases hb
 . obtain⟨P,s,_⟩:=may_P h (Qxj hr).1
   have g:=Tree.pp (zf s h.cnt hk)
   have ml:=g.2.2.ok.mem.len
   have mp:=g.2.2.ok.mem.p2
   exact⟨g.1,g.2.1,by show(Q3l m clock).m.1.Mem.length<=1024;omega⟩
omit h hl in
theorem yD{P:Nat}(h:okM P m){e:Q0s}(he:U e.N):(Qb4 m e).w (λx=>okM P x.2):=by
 have k:=h
 obtain⟨h1,h2,h3,h4,h5,h7⟩:=h
 unfold Qb4
 repeat'(first
   |exact k
   |exact⟨h1,h2,h3,h4,⟨he,h5.2⟩,h7⟩
   |exact w_lv λ_ _=>⟨h1,h2,h3,h4,h5,h7⟩
   |exact Q0c (qan _ _) λ_ _=>⟨h1,h2,h3,h4,h5,h7⟩
   |exact Q0c (qK h2 h3 _) λx hx=>⟨h1,hx.2,hx.1,h4,h5,h7⟩
   |exact Q0c (xL h2 h4 _) λx hx=>⟨h1,hx.2,h3,hx.1,h5,h7⟩
   |refine w_br (λ_=> ?_) (λ_=> ?_))
end
def Tree.V{β:Type}(t:Tree β)(W:β->Prop):Prop:=W t.m
section
variable {α β:Type} {W:β->Prop} {c:Bool} {t e:Tree β}
end
structure good(P:Nat)(m:Q00):Prop where
 ok:okM P m
 may:Q10 m=true
section
variable {P:Nat} {m:Q00} (h:good P m)
include h
theorem good.v:okV m:=⟨h.ok.cpu,h.ok.mem.u,h.ok.disk,h.ok.nic,h.ok.target,h.ok.cnt⟩
theorem good.s:okS P m:=⟨h.ok.cpu,h.ok.mem,h.ok.disk,h.ok.nic,h.ok.target.1,h.ok.target.2⟩
theorem good.rmay:Qbp m=true:=(Qxs h.v).symm.trans h.may
theorem vD{e:Q0s}(he:U e.N):good P (Q64 m e).2/\(Q64 m e).2.A4=m.A4:=by
 have o:okM P (Q64 m e).2:=Tree.post _ (yD h.ok he)
 have a:=(Tree.pp (Z73 h.ok he)).2
 change(Q10 m=true->Q10 (Q5g m e).1=true)/\(Q5g m e).1.A4=m.A4/\_ at a
 have e1:Qcd m e=((Q64 m e).2,(Q64 m e).1):=by
   simp only[Qcd,Qed,Tree.m,letv,vi,h.rmay];rfl
 rw[Qvw h.v e,e1]at a
 exact⟨⟨o,a.1 h.may⟩,a.2.1⟩
theorem Qs0:Q48 m=false↔m.A3=false/\Qfg m=false/\m.A4<1152921504606846976:=by
 simp only[Q48,Qi,Tree.m,letv,h.rmay]
 cases m.A3<;>cases Qfg m<;>simp
theorem qE(hs:Q48 m=false){clock:Int}(hc:U clock):good P (Q1q m clock).2/\(Q1q m clock).2.A4=m.A4+1/\(Q1q m clock).1.length<=1:=by
 have o:=Tree.post _ (Z9q h.ok hc)
 change(Q1q m clock).1.length<=1/\okM P (Q1q m clock).2/\(Q1q m clock).2.A4=wrap .u64 (m.A4+1) at o
 have s:=(Tree.pp (zf h.s h.ok.cnt hc)).2
 change _/\Good P m (Q1b m clock).1 at s
 have e:Q1b m clock=((Q1q m clock).2,(Q1q m clock).1):=by rw[Qln h.v,Ql5,hs];rfl
 rw[e]at s
 have hct:=((Qs0 h).1 hs).2.2
 have h0:=h.ok.cnt
 refine⟨⟨o.2.1,s.2.may h.may⟩,?_,o.1⟩
 rw[o.2.2,wrap_u64];omega
end
structure goodR(P:Nat)(k:Int)(r:Q1h):Prop where
 m:good P r.A7
 clock:U r.Clock
 cnt:r.A7.A4<=k
def flL:List (List UInt8)->List UInt8
 |[]=>[]
 |s::l=>s++10::flL l
theorem Qxi: ∀(a b:List (List UInt8)),flL (a++b)=flL a++flL b
 |[],_=>rfl
 |s::a,b=>by rw[List.cons_append,flL,Qxi a b,flL,List.append_assoc,List.cons_append]
theorem xj: ∀(o:List (List UInt8)),o.length<=(flL o).length
 |[]=>Nat.le_refl _
 |s::l=>by have:=xj l;simp only[flL,lA,List.length_cons];omega
theorem Qyq{α:Type}(X:List α)(c:α)(Y:List α)(d:α){k:Nat}(h:k=X.length):(X++c::Y).getD k d=c:=by
 subst h;simp [List.getD]
theorem Z15{L:List (List UInt8)}(h10: ∀s∈L,∀c∈s,c≠10)(hlen:(flL L).length<=8192):(Q6r (flL L)).w (λr=>r=L):=by
  have ew: ∀{i:Int},0<=i->i<1000000->i64.wrap (i+1)=i+1:=λh0 h1=>by rw[wrap_i64];omega
  unfold Q6r
  refine w_lp (inv:=λv:Int×Int×List (List UInt8)=> ∃C,v.2.2++C=L/\v.1=(flL v.2.2).length/\((C=[]/\v.2.1=v.1)\/ ∃p q C',C=(p++q)::C'/\v.2.1=v.1+p.length)) (μ:=Qgx (flL L)) ⟨L,rfl,rfl,?_⟩ (Nat.lt_succ_self _) λv hv=> ?_
  . cases L with
    |nil=>exact .inl ⟨rfl,rfl⟩
    |cons s l=>exact .inr ⟨[],s,l,rfl,rfl⟩
  obtain⟨fr,i,o⟩:=v
  obtain⟨C,e1,e2,h⟩:=hv
  have e1:o++C=L:=e1
  have e2:fr=(flL o).length:=e2
  have es:flL L=flL o++flL C:=by rw[<-e1,Qxi]
  have el:=congrArg List.length es
  rw[lA]at el
  rcases h with⟨rfl,h⟩|⟨p,q,C',rfl,h⟩
  . have h:i=fr:=h
    refine w_br (λhb=> ?_) λ_=>w_br (λhb=> ?_) λ_=>w_lf ((List.append_nil o).symm.trans e1)
    . have hb:i<(flL L).length:=oY hb
      simp only[flL,List.length_nil]at el;omega
    . have hb:fr<(flL L).length:=oY hb
      simp only[flL,List.length_nil]at el;omega
  . have h:i=fr+p.length:=h
    have e3:flL L=(flL o++p)++(q++10::flL C'):=by rw[es,flL];simp only[List.append_assoc]
    have hl:(flL o).length+p.length+(q.length+(1+(flL C').length))=(flL L).length:=by
      have:=congrArg List.length e3
      simp only[lA,List.length_cons]at this;omega
    have hi:i.toNat=(flL o++p).length:=by rw[lA];omega
    have ht:(i64.wrap (i+1))=i+1:=ew (by omega) (by omega)
    have meas:((flL L).length-(i+1)).toNat<((flL L).length-i).toNat:=by omega
    refine w_br (λhb=> ?_) λhb=>by
      have hb: ¬i<(flL L).length:=oN hb
      omega
    refine w_cn (dY (by show 0<=i/\i<_;omega)) ?_
    cases q with
    | nil =>
      have gc:(flL L).getD i.toNat 0=10:=by rw[e3];exact Qyq _ _ _ _ hi
      refine w_br (λ_=> ?_) λhb=>by
        have hb:((((flL L).getD i.toNat 0).toNat:Int)==10)=false:=hb
        rw[gc]at hb;cases hb
      refine w_cn (dY (by show 0<=fr/\fr<=i/\i<=_;omega)) (w_cn (dY ?_) (w_nx ?_))
      . show 16*(o.length+1)<=_
        have:=xj o
        omega
      . show(∃C,(o++[((flL L).drop fr.toNat).take (i.toNat-fr.toNat)])++C=L/\i64.wrap (i+1)=(flL (o++[((flL L).drop fr.toNat).take (i.toNat-fr.toNat)])).length/\((C=[]/\i64.wrap (i+1)=i64.wrap (i+1))\/ ∃p q C',C=(p++q)::C'/\i64.wrap (i+1)=i64.wrap (i+1)+(p.length:Int)))/\((flL L).length-i64.wrap (i+1)).toNat<((flL L).length-i).toNat
        have tk:((flL L).drop fr.toNat).take (i.toNat-fr.toNat)=p:=by
          rw[e3,List.append_assoc,show fr.toNat=(flL o).length by omega,List.drop_left,show i.toNat-(flL o).length=p.length by omega,List.take_left]
        rw[tk,ht]
        refine⟨⟨C',?_,?_,?_⟩,meas⟩
        . rw[<-e1,List.append_assoc];simp
        . rw[Qxi,lA,flL,flL,lA];simp;omega
        . cases C' with
          |nil=>exact .inl ⟨rfl,rfl⟩
          |cons s l=>exact .inr ⟨[],s,l,rfl,by simp⟩
    | cons c q=>
      have gc:(flL L).getD i.toNat 0=c:=by rw[e3,List.cons_append];exact Qyq _ _ _ _ hi
      have cn:c≠10:=h10 (p++c::q) (by rw[<-e1];simp) c (by simp)
      refine w_br (λhb=> ?_) λ_=>w_nx ?_
      . have hb:((((flL L).getD i.toNat 0).toNat:Int)==10)=true:=hb
        rw[gc]at hb
        have hb:=eq_of_beq hb
        exact absurd (UInt8.toNat_inj.1 (show c.toNat=(10:UInt8).toNat by show c.toNat=10;omega)) cn
      . show(∃C,o++C=L/\fr=((flL o).length:Int)/\((C=[]/\i64.wrap (i+1)=fr)\/ ∃p q C',C=(p++q)::C'/\i64.wrap (i+1)=fr+(p.length:Int)))/\((flL L).length-i64.wrap (i+1)).toNat<((flL L).length-i).toNat
        rw[ht]
        exact⟨⟨_,e1,e2, .inr ⟨p++[c],q,C',by simp,by rw[lA,List.length_singleton];omega⟩⟩,meas⟩
structure LnOK(s:List UInt8)(st:Q02):Prop where
 pre:Q70 s
 val:Qfw s=([],st,true)
 ne:st.what≠[]
 s0:0<=st.size/\st.size<=2
def putS(st:Q02)(i at0:Int):Q02:={what:=st.what,op:=st.op,l:=st.l,line:=i,at_:=at0,size:=st.size}
def Qfb:Int->Int->List Q02->List Q02
 |_,_,[]=>[]
 |i,a,st::l=>putS st (i+1) a::Qfb (i+1) (a+st.size) l
theorem Qno: ∀(i a:Int) (l:List Q02),(Qfb i a l).length=l.length
 |_,_,[]=>rfl
 |i,a,st::l=>congrArg (· +1) (Qno (i+1) (a+st.size) l)
theorem xE{L:List (List UInt8)}{S:List Q02}(h10: ∀s∈L,∀c∈s,c≠10)(hlen:(flL L).length<=8192)(hn:L.length<=60)(hS:S.length=L.length)(ok: ∀k,k<L.length->LnOK (L.getD k (RK.dflt RK.str)) (S.getD k (RK.dflt RK.vmfleetref1Statement))):(Q8h (flL L)).w (λr=>r=([],Qfb 0 0 S,{Err:=0,D7:=0})):=by
 have ew: ∀{i:Int},0<=i->i<1000000->i64.wrap (i+1)=i+1:=λh0 h1=>by rw[wrap_i64];omega
 have eL:Qc6 (flL L)=L:=(Tree.pp (Z15 h10 hlen)).2
 unfold Q8h
 refine w_br (λhb=>by have hb:=oY hb;omega) λ_=> ?_
 refine Q0c (Z15 h10 hlen) λx0 e0=> ?_
 subst e0
 refine w_lp (inv:=λv:Int×Int×List Q1d×List Q02=>v.2.2.1=[]/\0<=v.2.1/\v.2.1<=x0.length/\0<=v.1/\v.1<=2*v.2.1/\v.2.2.2.length=v.2.1.toNat/\v.2.2.2++Qfb v.2.1 v.1 (S.drop v.2.1.toNat)=Qfb 0 0 S) (μ:=Qht (flL x0)) ⟨rfl,Int.le_refl 0,by show(0:Int)<=_;omega,Int.le_refl 0,Int.le_refl 0,rfl,rfl⟩ (Nat.lt_succ_self _) λv hv=> ?_
 obtain⟨a,i,lb,o⟩:=v
 obtain⟨f1,f2,f3,f4,f5,f6,f7⟩:=hv
 have e1:lb=[]:=f1
 have e2:0<=i:=f2
 have e3:i<=x0.length:=f3
 have e4:0<=a:=f4
 have e5:a<=2*i:=f5
 have e6:o.length=i.toNat:=f6
 have e7:o++Qfb i a (S.drop i.toNat)=Qfb 0 0 S:=f7
 clear f1 f2 f3 f4 f5 f6 f7
 subst e1
 refine w_br (λhb=> ?_) λhb=> ?_
 . have hb:i<x0.length:=oY hb
   have hlt:i.toNat<x0.length:=by omega
   obtain⟨k1,k2,k3,k4,k5⟩:=ok i.toNat hlt
   have hs:i.toNat<S.length:=by omega
   rw[List.drop_eq_getElem_cons hs]at e7
   have gs:S[i.toNat]=S.getD i.toNat (RK.dflt RK.vmfleetref1Statement):=by simp [List.getD,hs]
   rw[gs]at e7
   refine w_cn (by simp [Nat.blt];omega) (w_an k1 (w_lv λx1 ex=> ?_))
   have ex:x1=([],S.getD i.toNat (RK.dflt RK.vmfleetref1Statement),true):=ex.trans k2
   subst ex
   generalize S.getD i.toNat (RK.dflt RK.vmfleetref1Statement)=st at e7 k3 k4 k5⊢
   refine w_br (λh=>by cases h) λ_=>w_br (λh=>by cases h) λ_=>w_br (λ_=> ?_) λh=>by
     have h:(!decide (st.what=[]))=false:=h
     rw[dN k3]at h;cases h
   have eaw:i64.wrap (a+st.size)=a+st.size:=by rw[wrap_i64];omega
   refine w_cn (dY (by show 72*(o.length+1)<=_;omega)) (w_br (λh=> ?_) λ_=>w_nx ?_)
   . have h:i64.wrap (a+st.size)>1024:=oY h
     omega
   . show(([]:List Q1d)=[]/\0<=i64.wrap (i+1)/\i64.wrap (i+1)<=x0.length/\0<=i64.wrap (a+st.size)/\i64.wrap (a+st.size)<=2*i64.wrap (i+1)/\(o++[putS st (i64.wrap (i+1)) a]).length=(i64.wrap (i+1)).toNat/\(o++[putS st (i64.wrap (i+1)) a])++Qfb (i64.wrap (i+1)) (i64.wrap (a+st.size)) (S.drop (i64.wrap (i+1)).toNat)=Qfb 0 0 S)/\((Qc6 (flL x0)).length-i64.wrap (i+1)).toNat<((Qc6 (flL x0)).length-i).toNat
     rw[eL,eaw,ew e2 (by omega),lA,List.length_singleton,show(i+1).toNat=i.toNat+1 by omega,List.append_assoc]
     exact⟨⟨rfl,by omega,by omega,by omega,by omega,by omega,e7⟩,by omega⟩
 . have hb: ¬i<x0.length:=oN hb
   refine w_lf ?_
   show(([]:List Q1d),o,({Err:=0,D7:=0}:Q0q))=_
   rw[List.drop_eq_nil_of_le (show S.length<=i.toNat by omega)]at e7
   rw[<-e7];simp [Qfb]
theorem Quw{α:Type}{c:Bool}{A B:Tree α}{W:α->Prop}(h:c=true)(g:A.w W):(Tree.br c A B).w W:=w_br (λ_=>g) λh'=>by rw[h]at h';cases h'
theorem Qcu{α:Type}{c:Bool}{A B:Tree α}{W:α->Prop}(h:c=false)(g:B.w W):(Tree.br c A B).w W:=w_br (λh'=>by rw[h]at h';cases h') λ_=>g
theorem Qvx(d:Q02): ∀(l:List Q02) (i a:Int) (k:Nat),k<l.length-> ∃x y,(Qfb i a l).getD k d=putS (l.getD k d) x y
 |[],_,_,_,h=>absurd h (Nat.not_lt_zero _)
 |st::l,i,a,0,_=>⟨_,_,rfl⟩
 |st::l,i,a,k+1,h=>Qvx d l (i+1) (a+st.size) k (Nat.lt_of_succ_lt_succ h)
inductive SK:Q02->List Int->Prop
 |li (op line at0 size r b:Int):SK ⟨[108,105],op,[⟨r,0,[]⟩,⟨0,b,[]⟩],line,at0,size⟩ [(Q1 {Op:=24,A:=r,B:=0,C:=0,Imm:=wrap .i32 (ishr .u32 (wrap .u32 b) 16)}).1,(Q1 {Op:=18,A:=r,B:=r,C:=0,Imm:=wrap .i32 (iand .u32 (wrap .u32 b) 65535)}).1]
 |op2 (what:List UInt8) (op line at0 size r b w:Int) (n:decide (what=[46,119,111,114,100])=false/\decide (what=[46,115,112,97,99,101])=false/\decide (what=[108,105])=false/\decide (what=[109,118])=false/\decide (what=[110,111,112])=false) (g: ∀x y,Q4d ⟨what,op,[⟨r,0,[]⟩,⟨0,b,[]⟩],x,y,size⟩ b/\Qcl ⟨what,op,[⟨r,0,[]⟩,⟨0,b,[]⟩],x,y,size⟩ b=(w,true)):SK ⟨what,op,[⟨r,0,[]⟩,⟨0,b,[]⟩],line,at0,size⟩ [w]
 |op0 (what:List UInt8) (op line at0 size w:Int) (n:decide (what=[46,119,111,114,100])=false/\decide (what=[46,115,112,97,99,101])=false/\decide (what=[108,105])=false/\decide (what=[109,118])=false/\decide (what=[110,111,112])=false) (g: ∀x y,Q4d ⟨what,op,[],x,y,size⟩ 0/\Qcl ⟨what,op,[],x,y,size⟩ 0=(w,true)):SK ⟨what,op,[],line,at0,size⟩ [w]
theorem Z3k{L:List (List UInt8)}{S:List Q02}{W:List (List Int)}(h10: ∀s∈L,∀c∈s,c≠10)(hlen:(flL L).length<=8192)(hn:L.length<=60)(hS:S.length=L.length)(ok: ∀k,k<L.length->LnOK (L.getD k (RK.dflt RK.str)) (S.getD k (RK.dflt RK.vmfleetref1Statement)))
   (hW:W.length=S.length) (sk: ∀k,k<S.length->SK (S.getD k (RK.dflt RK.vmfleetref1Statement)) (W.getD k [])):(Q31 (flL L)).w (λr=>r=(W.flatten,{Err:=0,D7:=0})):=by
 have ew: ∀{i:Int},0<=i->i<1000000->i64.wrap (i+1)=i+1:=λh0 h1=>by rw[wrap_i64];omega
 have rd:=xE h10 hlen hn hS ok
 have eR:(Qd4 (flL L)).2.1.length=S.length:=by rw[show Qd4 (flL L)=_ from(Tree.pp rd).2];exact Qno _ _ _
 unfold Q31
 refine Q0c rd λx0 e0=> ?_
 subst e0
 refine Qcu rfl ?_
 refine w_lp (inv:=λv:Int×List Int=>0<=v.1/\v.1<=S.length/\v.2.length<=2*v.1.toNat/\v.2++(W.drop v.1.toNat).flatten=W.flatten) (μ:=Qcr (flL L)) ⟨Int.le_refl 0,by show(0:Int)<=_;omega,Nat.zero_le _,rfl⟩ (Nat.lt_succ_self _) λv ⟨f1,f2,f3,f4⟩=> ?_
 obtain⟨i,o⟩:=v
 have e1:0<=i:=f1
 have e2:i<=S.length:=f2
 have e3:o.length<=2*i.toNat:=f3
 have e4:o++(W.drop i.toNat).flatten=W.flatten:=f4
 clear f1 f2 f3 f4
 have pl:=Qno 0 0 S
 dsimp only
 refine w_br (λhb=> ?_) λhb=> ?_
 . have hb:i<(Qfb 0 0 S).length:=oY hb
   have hlt:i.toNat<S.length:=by omega
   obtain⟨x,y,gp⟩:=Qvx (RK.dflt RK.vmfleetref1Statement) S 0 0 i.toNat hlt
   have k:=sk i.toNat hlt
   have hw:i.toNat<W.length:=by omega
   have gw:W[i.toNat]=W.getD i.toNat []:=by simp [List.getD,hw]
   rw[List.drop_eq_getElem_cons hw,List.flatten_cons,gw]at e4
   have nxt: ∀ws:List Int,W.getD i.toNat []=ws->ws.length<=2->(0<=i64.wrap (i+1)/\i64.wrap (i+1)<=S.length/\(o++ws).length<=2*(i64.wrap (i+1)).toNat/\(o++ws)++(W.drop (i64.wrap (i+1)).toNat).flatten=W.flatten)/\((Qd4 (flL L)).2.1.length-i64.wrap (i+1)).toNat<((Qd4 (flL L)).2.1.length-i).toNat:=λws hws h2=>by
     rw[hws]at e4
     rw[eR,ew e1 (by omega),lA,show(i+1).toNat=i.toNat+1 by omega,List.append_assoc]
     exact⟨⟨by omega,by omega,by omega,e4⟩,by omega⟩
   refine w_cn (by simp [Nat.blt];omega) ?_
   generalize S.getD i.toNat (RK.dflt RK.vmfleetref1Statement)=st at k gp
   generalize W.getD i.toNat []=ws at k nxt e4
   cases k with
   | li op line at0 size r b=>
     refine Quw (by rw[gp];try rfl) (w_cn (by rw[gp];try rfl) (Qcu (by rw[gp];try rfl) (Qcu (by rw[gp];try rfl) (Qcu (by rw[gp];try rfl) (Quw (by rw[gp];try rfl) (w_cn (by rw[gp];try rfl) (w_lv λx1 g1=>w_cn (by rw[gp];try rfl) (w_cn (by rw[gp];try rfl) (w_lv λx2 g2=>w_cn (dY (by show 4*(o.length+2)<=_;omega)) (w_nx ?_))))))))))
     rw[gp]at g1 g2
     subst g1;subst g2
     exact nxt _ rfl (by simp)
   | op2 what op line at0 size r b w n g=>
     obtain⟨n1,n2,n3,n4,n5⟩:=n
     obtain⟨p,q⟩:=g x y
     refine Quw (by rw[gp];try rfl) (w_cn (by rw[gp];try rfl) (Qcu (by rw[gp];try rfl) (Qcu (by rw[gp];exact n1) (Qcu (by rw[gp];exact n2) (Qcu (by rw[gp];exact n3) (Qcu (by rw[gp];exact n4) (Qcu (by rw[gp];exact n5) (w_an (by rw[gp];exact p) (w_lv λx1 g1=> ?_)))))))))
     rw[gp]at g1
     have g1:x1=(w,true):=g1.trans q
     subst g1
     exact Qcu rfl (w_cn (dY (by show 4*(o.length+1)<=_;omega)) (w_nx (nxt _ rfl (by simp))))
   | op0 what op line at0 size w n g=>
     obtain⟨n1,n2,n3,n4,n5⟩:=n
     obtain⟨p,q⟩:=g x y
     refine Qcu (by rw[gp];try rfl) (Qcu (by rw[gp];exact n1) (Qcu (by rw[gp];exact n2) (Qcu (by rw[gp];exact n3) (Qcu (by rw[gp];exact n4) (Qcu (by rw[gp];exact n5) (w_an (by rw[gp];exact p) (w_lv λx1 g1=> ?_)))))))
     rw[gp]at g1
     have g1:x1=(w,true):=g1.trans q
     subst g1
     exact Qcu rfl (w_cn (dY (by show 4*(o.length+1)<=_;omega)) (w_nx (nxt _ rfl (by simp))))
 . have hb: ¬i<(Qfb 0 0 S).length:=oN hb
   refine w_lf ?_
   show(o,({Err:=0,D7:=0}:Q0q))=_
   rw[List.drop_eq_nil_of_le (show W.length<=i.toNat by omega),List.flatten_nil,List.append_nil]at e4
   rw[e4]
noncomputable section
def decL(b:Nat):List UInt8:=[108,105,32,114,49,44,32]++Q3n b
def stL(b:Nat):Q02:=⟨[108,105],0,[⟨1,0,[]⟩,⟨0,b,[]⟩],0,0,2⟩
def Z5r:List UInt8:=[111,117,116,32,114,49,44,32,48]
def stO:Q02:=⟨[111,117,116],61,[⟨1,0,[]⟩,⟨0,0,[]⟩],0,0,1⟩
def lineH:List UInt8:=[104,97,108,116]
def stH:Q02:=⟨[104,97,108,116],64,[],0,0,1⟩
def Z34(r:UInt8)(p:List UInt8):List UInt8:=[105,110,32,114,r,44,32]++p
def stI(r p:Int):Q02:=⟨[105,110],60,[⟨r,0,[]⟩,⟨0,p,[]⟩],0,0,1⟩
def chkS(s:List UInt8)(st:Q02):Bool:=(inferInstance:Ck (Q70 s)).b&&decide (Qfw s=([],st,true))&&decide (st.what≠[])&&decide (0<=st.size/\st.size<=2)&&List.all s (λc=>c !=10)&&Nat.ble s.length 12
theorem Qjr{s:List UInt8}{st:Q02}(h:chkS s st=true):LnOK s st/\(∀c∈s,c≠10)/\s.length<=12:=by
 unfold chkS at h
 simp only[aE,decide_eq_true_eq]at h
 obtain⟨⟨⟨⟨⟨a,b⟩,c⟩,d⟩,e⟩,f⟩:=h
 refine⟨⟨ck _ a,b,c,d⟩,λx hx=> ?_,lE f⟩
 have:=List.all_eq_true.1 e x hx
 simpa using this
def chkB(b:Nat):Bool:=(inferInstance:Ck (Q4a b)).b&&chkS (decL b) (stL b)
theorem chkB0:List.all (List.range' 0 64) chkB=true:=by kernel_rfl
theorem chkB1:List.all (List.range' 64 64) chkB=true:=by kernel_rfl
theorem chkB2:List.all (List.range' 128 64) chkB=true:=by kernel_rfl
theorem chkB3:List.all (List.range' 192 64) chkB=true:=by kernel_rfl
theorem Z52{b:Nat}(h:b<256):Q4a b/\LnOK (decL b) (stL b)/\(∀c∈decL b,c≠10)/\(decL b).length<=12:=by
 have k:chkB b=true:=by
   rcases(by omega:b<64\/64<=b/\b<128\/128<=b/\b<192\/192<=b) with h1|h1|h1|h1
   . exact List.all_eq_true.1 chkB0 b (List.mem_range'_1.2 (by omega))
   . exact List.all_eq_true.1 chkB1 b (List.mem_range'_1.2 (by omega))
   . exact List.all_eq_true.1 chkB2 b (List.mem_range'_1.2 (by omega))
   . exact List.all_eq_true.1 chkB3 b (List.mem_range'_1.2 (by omega))
 unfold chkB at k
 rw[aE]at k
 exact⟨ck _ k.1,Qjr k.2⟩
end
noncomputable section
abbrev LnT:Type:=List UInt8×Q02×List Int
structure lnOK(t:LnT):Prop where
 n: ∀c∈t.1,c≠10
 l:LnOK t.1 t.2.1
 s:SK t.2.1 t.2.2
theorem zai{T:List LnT}(hT: ∀t∈T,lnOK t)(hn:T.length<=60)(hlen:(flL (T.map (·.1))).length<=8192):Q5b (flL (T.map (·.1)))/\Q1c (flL (T.map (·.1)))=((T.map (·.2.2)).flatten,{Err:=0,D7:=0}):=by
 have g: ∀{β:Type} (f:LnT->β) (d:β) {k:Nat} (hk:k<T.length),(T.map f).getD k d=f T[k]:=λf d k hk=>by simp [List.getD,hk]
 have w:(Q31 (flL (T.map (·.1)))).w (λr=>r=((T.map (·.2.2)).flatten,{Err:=0,D7:=0})):=by
  refine(Z3k (S:=T.map (·.2.1)) (W:=T.map (·.2.2)) (λs hs=> ?_) hlen (by simpa using hn) (by simp) (λk hk=> ?_) (by simp) λk hk=> ?_)
  . obtain⟨t,ht,rfl⟩:=List.mem_map.1 hs
    exact(hT t ht).n
  . have hk:k<T.length:=by simpa using hk
    rw[g _ _ hk,g _ _ hk];exact(hT _ (List.getElem_mem hk)).l
  . have hk:k<T.length:=by simpa using hk
    rw[g _ _ hk,g _ _ hk];exact(hT _ (List.getElem_mem hk)).s
 refine⟨(Tree.pp w).1,?_⟩
 delta Q1c
 exact(Tree.pp w).2
def encB(b:Nat):Bool:=decide ((Q1 {Op:=24,A:=1,B:=0,C:=0,Imm:=wrap .i32 (ishr .u32 (wrap .u32 b) 16)}).1=403701760/\(Q1 {Op:=18,A:=1,B:=1,C:=0,Imm:=wrap .i32 (iand .u32 (wrap .u32 b) 65535)}).1=303104000+b)
theorem zE:List.all (List.range 256) encB=true:=by kernel_rfl
def lnB(b:Nat):LnT:=(decL b,stL b,[403701760,303104000+b])
def lnO:LnT:=(Z5r,stO,[1024458752])
theorem xai{b:Nat}(h:b<256):lnOK (lnB b):=by
 obtain⟨_,l,n,_⟩:=Z52 h
 have e:=List.all_eq_true.1 zE b (List.mem_range.2 h)
 unfold encB at e
 obtain⟨e1,e2⟩:=oY e
 refine⟨n,l,?_⟩
 have s:=SK.li 0 0 0 2 1 b
 rw[e1,e2]at s
 exact s
theorem chkO:chkS Z5r stO=true:=by kernel_rfl
theorem qaj:lnOK lnO:=by
 obtain⟨l,n,_⟩:=Qjr chkO
 exact⟨n,l,SK.op2 _ _ _ _ _ _ _ _ ⟨rfl,rfl,rfl,rfl,rfl⟩ λx y=>⟨ck inferInstance (by kernel_rfl),by kernel_rfl⟩⟩
def lnI(c:UInt8)(p:List UInt8)(r v:Int):LnT:=(Z34 c p,stI r v,[1006632960+r*1048576+v])
theorem chkI2:chkS (Z34 50 [49]) (stI 2 1)=true:=by kernel_rfl
theorem vX:lnOK (lnI 50 [49] 2 1):=by
 obtain⟨l,n,_⟩:=Qjr chkI2
 exact⟨n,l,SK.op2 _ _ _ _ _ _ _ _ ⟨rfl,rfl,rfl,rfl,rfl⟩ λx y=>⟨ck inferInstance (by kernel_rfl),by kernel_rfl⟩⟩
theorem chkI3:chkS (Z34 51 [48]) (stI 3 0)=true:=by kernel_rfl
theorem qY:lnOK (lnI 51 [48] 3 0):=by
 obtain⟨l,n,_⟩:=Qjr chkI3
 exact⟨n,l,SK.op2 _ _ _ _ _ _ _ _ ⟨rfl,rfl,rfl,rfl,rfl⟩ λx y=>⟨ck inferInstance (by kernel_rfl),by kernel_rfl⟩⟩
theorem chkI4:chkS (Z34 52 [48]) (stI 4 0)=true:=by kernel_rfl
theorem xY:lnOK (lnI 52 [48] 4 0):=by
 obtain⟨l,n,_⟩:=Qjr chkI4
 exact⟨n,l,SK.op2 _ _ _ _ _ _ _ _ ⟨rfl,rfl,rfl,rfl,rfl⟩ λx y=>⟨ck inferInstance (by kernel_rfl),by kernel_rfl⟩⟩
theorem chkI5:chkS (Z34 53 [51]) (stI 5 3)=true:=by kernel_rfl
theorem zY:lnOK (lnI 53 [51] 5 3):=by
 obtain⟨l,n,_⟩:=Qjr chkI5
 exact⟨n,l,SK.op2 _ _ _ _ _ _ _ _ ⟨rfl,rfl,rfl,rfl,rfl⟩ λx y=>⟨ck inferInstance (by kernel_rfl),by kernel_rfl⟩⟩
theorem chkI6:chkS (Z34 54 [54]) (stI 6 6)=true:=by kernel_rfl
theorem yY:lnOK (lnI 54 [54] 6 6):=by
 obtain⟨l,n,_⟩:=Qjr chkI6
 exact⟨n,l,SK.op2 _ _ _ _ _ _ _ _ ⟨rfl,rfl,rfl,rfl,rfl⟩ λx y=>⟨ck inferInstance (by kernel_rfl),by kernel_rfl⟩⟩
theorem chkI7:chkS (Z34 55 [57]) (stI 7 9)=true:=by kernel_rfl
theorem vY:lnOK (lnI 55 [57] 7 9):=by
 obtain⟨l,n,_⟩:=Qjr chkI7
 exact⟨n,l,SK.op2 _ _ _ _ _ _ _ _ ⟨rfl,rfl,rfl,rfl,rfl⟩ λx y=>⟨ck inferInstance (by kernel_rfl),by kernel_rfl⟩⟩
theorem chkI8:chkS (Z34 56 [49,49]) (stI 8 11)=true:=by kernel_rfl
theorem qZ:lnOK (lnI 56 [49,49] 8 11):=by
 obtain⟨l,n,_⟩:=Qjr chkI8
 exact⟨n,l,SK.op2 _ _ _ _ _ _ _ _ ⟨rfl,rfl,rfl,rfl,rfl⟩ λx y=>⟨ck inferInstance (by kernel_rfl),by kernel_rfl⟩⟩
def lnH:LnT:=(lineH,stH,[1073741824])
theorem chkH:chkS lineH stH=true:=by kernel_rfl
theorem zaj:lnOK lnH:=by
 obtain⟨l,n,_⟩:=Qjr chkH
 exact⟨n,l,SK.op0 _ _ _ _ _ _ ⟨rfl,rfl,rfl,rfl,rfl⟩ λx y=>⟨ck inferInstance (by kernel_rfl),by kernel_rfl⟩⟩
def Z50:List LnT:=[lnI 50 [49] 2 1,lnI 51 [48] 3 0,lnI 52 [48] 4 0,lnI 53 [51] 5 3,lnI 54 [54] 6 6,lnI 55 [57] 7 9,lnI 56 [49,49] 8 11,lnH]
theorem xZ: ∀t∈Z50,lnOK t:=by
 intro t ht
 simp only[Z50,List.mem_cons,List.not_mem_nil,or_false]at ht
 rcases ht with rfl|rfl|rfl|rfl|rfl|rfl|rfl|rfl
 . exact vX
 . exact qY
 . exact xY
 . exact zY
 . exact yY
 . exact vY
 . exact qZ
 . exact zaj
def Qpy:List Nat->List LnT
 |[]=>[]
 |b::l=>lnB b::lnO::Qpy l
theorem Z19: ∀l:List Nat,(Qpy l).length=2*l.length
 |[]=>rfl
 |b::l=>by simp only[Qpy,List.length_cons,Z19 l];omega
theorem Z79: ∀{l:List Nat},(∀b∈l,b<256)-> ∀t∈Qpy l,lnOK t
 |[],_,t,h=>by cases h
 | b::l,hb,t,h=>by
   simp only[Qpy,List.mem_cons]at h
   rcases h with rfl|rfl|h
   . exact xai (hb b List.mem_cons_self)
   . exact qaj
   . exact Z79 (λx hx=>hb x (List.mem_cons_of_mem _ hx)) t h
def srcH:List Nat->List UInt8
 |[]=>[]
 |b::l=>decL b++([10]++Z5r++[10])++srcH l
def imgH:List Nat->List Int
 |[]=>[]
 |b::l=>403701760::(303104000+(b:Int))::1024458752::imgH l
def srcT:List UInt8:=flL (Z50.map (·.1))
def imgT:List Int:=[1008730113,1009778688,1010827264,1011875843,1012924422,1013973001,1015021579,1073741824]
theorem zj: ∀l:List Nat,flL ((Qpy l).map (·.1))=srcH l
 |[]=>rfl
 | b::l=>by
   have:=zj l
   show decL b++10::(Z5r++10::flL ((Qpy l).map (·.1)))=decL b++([10]++Z5r++[10])++srcH l
   rw[this];simp
theorem yj: ∀l:List Nat,((Qpy l).map (·.2.2)).flatten=imgH l
 |[]=>rfl
 | b::l=>by
   have:=yj l
   show 403701760::(303104000+(b:Int))::1024458752::((Qpy l).map (·.2.2)).flatten=_
   rw[this];rfl
theorem Qqk: ∀l:List Nat,(imgH l).length=3*l.length
 |[]=>rfl
 |b::l=>by simp only[imgH,List.length_cons,Qqk l];omega
theorem Qzo: ∀{l:List Nat},(∀b∈l,b<256)->(srcH l).length<=30*l.length
 |[],_=>Nat.le_refl _
 | b::l,hb=>by
   have h:=(Z52 (hb b List.mem_cons_self)).2.2.2
   have:=Qzo (l:=l) λx hx=>hb x (List.mem_cons_of_mem _ hx)
   simp only[srcH,lA,List.length_cons,List.length_nil,show Z5r.length=9 from rfl]
   omega
theorem vj{l:List Nat}(hb: ∀b∈l,b<256)(hn:l.length<=20):Q5b (srcH l++srcT)/\Q1c (srcH l++srcT)=(imgH l++imgT,{Err:=0,D7:=0}):=by
 have e:flL ((Qpy l++Z50).map (·.1))=srcH l++srcT:=by rw[List.map_append,Qxi,zj];rfl
 have w:((Qpy l++Z50).map (·.2.2)).flatten=imgH l++imgT:=by rw[List.map_append,List.flatten_append,yj];rfl
 have sl:=Qzo hb
 have st:srcT.length=69:=by kernel_rfl
 have:=zai (T:=Qpy l++Z50) (λt ht=>(List.mem_append.1 ht).elim (Z79 hb t) (xZ t)) (by rw[lA,Z19];have:Z50.length=8:=rfl;omega) (by rw[e,lA];omega)
 rw[e,w]at this
 exact this
end
def pC(x1 x2 x3 x4 x5 x6 x7 x8 pc:Int):Q03:={X:={a0:=0,a1:=x1,a2:=x2,a3:=x3,a4:=x4,a5:=x5,a6:=x6,a7:=x7,a8:=x8,a9:=0,a10:=0,a11:=0,a12:=0,a13:=0,a14:=0,a15:=0},Pc:=pc,B3:={a0:=1,a1:=0,a2:=0,a3:=0,a4:=0,a5:=0,a6:=0,a7:=0}}
def pM(mem:List Int)(cpu:Q03)(keys:List UInt8)(c:Int)(hl:Bool):Q00:={B1:=cpu,Mem:=mem,A1:={C7:=keys},A6:={D0:=false,C4:=0,C9:=false},A9:={Blocks:=1,B5:=0,Frame:=0,B7:=0,D1:=0,B2:=0,B0:=0,B9:=[]},C2:={Frame:=0,D4:=0,C1:=false,B6:=0,B4:=false,D5:=0},A0:={C3:=0,B8:=0},A4:=c,A2:=false,A3:=hl}
def pC0:Q03:=pC 0 0 0 0 0 0 0 0 0
def memP(img:List Int):List Int:=img++List.replicate (64-img.length) 0
theorem yE{img:List Int}(h:img.length<=64):(memP img).length=64:=by unfold memP;rw[lA,List.length_replicate];omega
theorem new12{img:List Int}(h:img.length<=64):Qdw 2 1 img/\Q38 2 1 img=(pM (memP img) pC0 [] 0 false,true):=by
 refine Tree.pp (t:=Q8q 2 1 img) (W:=λr=>r=(pM (memP img) pC0 [] 0 false,true)) ?_
 unfold Q8q
 refine w_br (λh=>absurd h (by decide)) λ_=>w_br (λh=>absurd h (by decide)) λ_=>w_br (λh=>absurd h (by decide)) λ_=>w_br (λh=>absurd h (by decide)) λ_=>w_br (λh=> ?_) λ_=>w_lv λx0 e0=>w_an (Qom _) (w_lv λx1 e1=>w_lf ?_)
 . have h:=oY h
   rw[show i64.wrap (2*32)=64 by decide]at h
   omega
 . have hx:x1=List.replicate 64 0:=by rw[e1];kernel_rfl
   have h0:x0=pC0:=by rw[e0];rfl
   have hm:List.take (Min.min img.length x1.length) img++List.drop (Min.min img.length x1.length) x1=memP img:=by
     rw[hx,List.length_replicate,Nat.min_eq_left h,List.take_length,List.drop_replicate];rfl
   subst h0
   show(pM (List.take (Min.min img.length x1.length) img++List.drop (Min.min img.length x1.length) x1) pC0 [] 0 false,true)=_
   rw[hm]
theorem Z8i{img:List Int}(h:img.length<=64)(hu: ∀w∈img,U w):good 2 (pM (memP img) pC0 [] 0 false):=by
 have e:=(new12 h).2
 have ok:okM 2 (pM (memP img) pC0 [] 0 false):=⟨⟨U_all 16,U_0,λw hw=>by
   have:w=1\/w=0:=by simpa [pM,pC0,pC,A8.l] using hw
   rcases this with rfl|rfl<;>exact⟨by decide,by decide⟩⟩,⟨by rw[show(pM (memP img) pC0 [] 0 false).Mem=memP img from rfl,yE h],by omega,by omega,λw hw=>by
     rcases List.mem_append.1 hw with h1|h1
     . exact hu w h1
     . rw[(List.mem_replicate.1 h1).2];exact U_0⟩,⟨U_0,U_0,U_0,U_0⟩,⟨U_0,U_0,U_0,U_0⟩,⟨U_0,U_0⟩,Int.le_refl _⟩
 refine⟨ok,?_⟩
 obtain⟨a1,a2,a3,a4,a5,a6⟩:=qao 2 1 img (by rw[e])
 have k:=(zao _ 2 1 a1 a2 a3 a4 a5 _ a6).1
 rw[e]at k
 exact k
theorem key12{mem:List Int}{cpu:Q03}{key:Int}(h0:0<=key)(h1:key<256)(g:good 2 (pM mem cpu [] 0 false)):Qa2 (pM mem cpu [] 0 false) {C0:=3,N:=wrap .u32 key,C6:=[]}/\Q5g (pM mem cpu [] 0 false) {C0:=3,N:=wrap .u32 key,C6:=[]}=(pM mem cpu [UInt8.ofNat key.toNat] 0 false,true)/\good 2 (pM mem cpu [UInt8.ofNat key.toNat] 0 false):=by
 have ek:wrap .u32 key=key:=by rw[wrap_u32];omega
 have e8:wrap .u8 key=key:=by rw[wrap_u8];omega
 rw[ek]
 have ap:Q64 (pM mem cpu [] 0 false) {C0:=3,N:=key,C6:=[]}=(true,pM mem cpu [UInt8.ofNat key.toNat] 0 false):=by
   show(bif decide (key<=255) then _ else _)=_
   rw[dY (show key<=255 by omega)]
   show _=(true,pM mem cpu [UInt8.ofNat key.toNat] 0 false)
   have:Qhy {C7:=[]} (wrap .u8 key)=({C7:=[UInt8.ofNat key.toNat]},true):=by
     show(({C7:=[]++[UInt8.ofNat (wrap .u8 key).toNat]}:Q0a),true)=_
     rw[e8];rfl
   show((Qhy {C7:=[]} (wrap .u8 key)).2,({pM mem cpu [] 0 false with A1:=(Qhy {C7:=[]} (wrap .u8 key)).1}:Q00))=_
   rw[this];rfl
 have u:U key:=⟨h0,by omega⟩
 have k:=(vD g (e:={C0:=3,N:=key,C6:=[]}) u).1
 have ra:Qcd (pM mem cpu [] 0 false) {C0:=3,N:=key,C6:=[]}=((Q64 (pM mem cpu [] 0 false) {C0:=3,N:=key,C6:=[]}).2,(Q64 (pM mem cpu [] 0 false) {C0:=3,N:=key,C6:=[]}).1):=by
   simp only[Qcd,Qed,Tree.m,letv,vi,g.rmay];rfl
 refine⟨(Tree.pp (Z73 g.ok (e:={C0:=3,N:=key,C6:=[]}) u)).1,?_,?_⟩
 . rw[Qvw g.v,ra,ap]
 . rw[ap]at k;exact k
theorem do12{mem:List Int}(hm:Q0n 2 mem){x1 x2 x3 x4 x5 x6 x7 x8 pc:Int}(h0:0<=pc)(h1:pc<256)(h4:pc%4=0):Q9z (pC x1 x2 x3 x4 x5 x6 x7 x8 pc) mem=doR (pC x1 x2 x3 x4 x5 x6 x7 x8 pc) (pc,0,mem) (mem.getD (pc/4).toNat 0) (Q0u (mem.getD (pc/4).toNat 0)):=by
 have upc:U pc:=⟨h0,by omega⟩
 have wi:=Qc9 hm upc (size:=4) (.inr rfl)
 have wt:Q1o mem pc 4=true:=by rw[wi];exact dY ⟨h4,by omega⟩
 have hp:Qj0 (pC x1 x2 x3 x4 x5 x6 x7 x8 pc)=false:=by kernel_rfl
 have kn:Qcc 1=true:=rfl
 have tm:Int.tmod pc (wrap .u32 4)=pc%4:=by
   rw[show wrap .u32 4=4 from rfl,Int.tmod_eq_emod_of_nonneg h0]
 have rc:Q0o (pC x1 x2 x3 x4 x5 x6 x7 x8 pc) mem pc 4 1=bif pc%4 !=0 then(0,3,mem) else bif !Q1o mem pc 4 then(0,Q2e 1,mem) else(pc,0,mem):=by
   simp only[Q0o,Q71,Tree.m,letv,kn,hp,tm]
   rfl
 have rv:Q0o (pC x1 x2 x3 x4 x5 x6 x7 x8 pc) mem pc 4 1=(pc,0,mem):=by rw[rc,wt,h4];rfl
 have ld:(Q1j mem pc 4).1=mem.getD (pc/4).toNat 0:=by
   have e:wrap .u32 (Int.tdiv pc 4)=pc/4:=by rw[Int.tdiv_eq_ediv_of_nonneg h0,wrap_u32];omega
   simp only[Q1j,Q4q,Tree.m,letv,wt,e];rfl
 rw[do_eq,show(pC x1 x2 x3 x4 x5 x6 x7 x8 pc).Pc=pc from rfl,rv]
 show doR _ _ (Q1j mem pc 4).1 (Q0u (Q1j mem pc 4).1)=_
 rw[ld]
theorem adv12{mem:List Int}(hm:Q0n 2 mem){x1 x2 x3 x4 x5 x6 x7 x8 pc:Int}(h0:0<=pc)(h1:pc<256)(h4:pc%4=0){w:Int}(hw:mem.getD (pc/4).toNat 0=w){d:Q0e×Bool}(hd:Q0u w=d)(keys:List UInt8)(c:Int):Q1q (pM mem (pC x1 x2 x3 x4 x5 x6 x7 x8 pc) keys c false) 0=finR (withX (pM mem (pC x1 x2 x3 x4 x5 x6 x7 x8 pc) keys c false) (doR (pC x1 x2 x3 x4 x5 x6 x7 x8 pc) (pc,0,mem) w d).1 (doR (pC x1 x2 x3 x4 x5 x6 x7 x8 pc) (pc,0,mem) w d).2.2) (doR (pC x1 x2 x3 x4 x5 x6 x7 x8 pc) (pc,0,mem) w d).2.1 0:=by
 have i:Q0m (pM mem (pC x1 x2 x3 x4 x5 x6 x7 x8 pc) keys c false)=pC x1 x2 x3 x4 x5 x6 x7 x8 pc:=by kernel_rfl
 rw[xO,i,show(pM mem (pC x1 x2 x3 x4 x5 x6 x7 x8 pc) keys c false).Mem=mem from rfl,do12 hm h0 h1 h4,hw,hd]
section
variable (mem:List Int) (x1 x2 x3 x4 x5 x6 x7 x8 pc c:Int) (keys:List UInt8)
def Qq4(w:Int)(d:Q0e×Bool):List Q08×Q00:=finR (withX (pM mem (pC x1 x2 x3 x4 x5 x6 x7 x8 pc) keys c false) (doR (pC x1 x2 x3 x4 x5 x6 x7 x8 pc) (pc,0,mem) w d).1 (doR (pC x1 x2 x3 x4 x5 x6 x7 x8 pc) (pc,0,mem) w d).2.2) (doR (pC x1 x2 x3 x4 x5 x6 x7 x8 pc) (pc,0,mem) w d).2.1 0
abbrev p4(pc:Int):Int:=wrap .u32 (pc+4)
abbrev c1(c:Int):Int:=wrap .u64 (c+1)
theorem f_lui:Qq4 mem x1 x2 x3 x4 x5 x6 x7 x8 pc c keys 403701760 (Q0u 403701760)=([],pM mem (pC 0 x2 x3 x4 x5 x6 x7 x8 (p4 pc)) keys (c1 c) false):=by kernel_rfl
theorem f_ori(w b:Int):Qq4 mem x1 x2 x3 x4 x5 x6 x7 x8 pc c keys w ({Op:=18,A:=1,B:=1,C:=0,Imm:=b},true)=([],pM mem (pC (ior .u32 x1 (wrap .u32 b)) x2 x3 x4 x5 x6 x7 x8 (p4 pc)) keys (c1 c) false):=by kernel_rfl
theorem f_out:Qq4 mem x1 x2 x3 x4 x5 x6 x7 x8 pc c keys 1024458752 (Q0u 1024458752)=([{C0:=1,At:=c,B5:=0,C6:=[UInt8.ofNat (wrap .u8 x1).toNat]}],pM mem (pC x1 x2 x3 x4 x5 x6 x7 x8 (p4 pc)) keys (c1 c) false):=by kernel_rfl
theorem f_i2:Qq4 mem x1 x2 x3 x4 x5 x6 x7 x8 pc c keys 1008730113 (Q0u 1008730113)=([],pM mem (pC x1 (wrap .u32 (keys.length:Int)) x3 x4 x5 x6 x7 x8 (p4 pc)) keys (c1 c) false):=by kernel_rfl
theorem f_i3(k:UInt8):Qq4 mem x1 x2 x3 x4 x5 x6 x7 x8 pc c [k] 1009778688 (Q0u 1009778688)=([],pM mem (pC x1 x2 (wrap .u32 ((k.toNat:Nat):Int)) x4 x5 x6 x7 x8 (p4 pc)) [] (c1 c) false):=by kernel_rfl
theorem f_i4:Qq4 mem x1 x2 x3 x4 x5 x6 x7 x8 pc c [] 1010827264 (Q0u 1010827264)=([],pM mem (pC x1 x2 x3 4294967295 x5 x6 x7 x8 (p4 pc)) [] (c1 c) false):=by kernel_rfl
theorem f_i5:Qq4 mem x1 x2 x3 x4 x5 x6 x7 x8 pc c [] 1011875843 (Q0u 1011875843)=([],pM mem (pC x1 x2 x3 x4 0 x6 x7 x8 (p4 pc)) [] (c1 c) false):=by kernel_rfl
theorem f_i6:Qq4 mem x1 x2 x3 x4 x5 x6 x7 x8 pc c [] 1012924422 (Q0u 1012924422)=([],pM mem (pC x1 x2 x3 x4 x5 0 x7 x8 (p4 pc)) [] (c1 c) false):=by kernel_rfl
theorem f_i7:Qq4 mem x1 x2 x3 x4 x5 x6 x7 x8 pc c [] 1013973001 (Q0u 1013973001)=([],pM mem (pC x1 x2 x3 x4 x5 x6 0 x8 (p4 pc)) [] (c1 c) false):=by kernel_rfl
theorem f_i8:Qq4 mem x1 x2 x3 x4 x5 x6 x7 x8 pc c [] 1015021579 (Q0u 1015021579)=([],pM mem (pC x1 x2 x3 x4 x5 x6 x7 0 (p4 pc)) [] (c1 c) false):=by kernel_rfl
theorem xaj:Qq4 mem x1 x2 x3 x4 x5 x6 x7 x8 pc c [] 1073741824 (Q0u 1073741824)=([],pM mem (pC x1 x2 x3 x4 x5 x6 x7 x8 (p4 pc)) [] (c1 c) true):=by kernel_rfl
end
def oriB(b:Nat):Bool:=decide (Q0u (303104000+(b:Int))=({Op:=18,A:=1,B:=1,C:=0,Imm:=b},true)/\ior .u32 0 (wrap .u32 b)=b)
theorem vE:List.all (List.range 256) oriB=true:=by kernel_rfl
theorem zZ{b:Nat}(h:b<256):Q0u (303104000+(b:Int))=({Op:=18,A:=1,B:=1,C:=0,Imm:=b},true)/\ior .u32 0 (wrap .u32 b)=b:=oY (List.all_eq_true.1 vE b (List.mem_range.2 h))
abbrev MO:Type:=Q00×List Q08
def st1(s:MO):MO:=((Q1b s.1 0).1,s.2++(Q1b s.1 0).2)
def iter:Nat->MO->MO
 |0,s=>s
 |n+1,s=>iter n (st1 s)
theorem Z0j: ∀(n:Nat) (s:MO),iter (n+1) s=st1 (iter n s)
 |0,_=>rfl
 |n+1,s=>Z0j n (st1 s)
theorem Qz6: ∀(m n:Nat) (s:MO),iter (m+n) s=iter n (iter m s)
 |0,n,s=>by rw[Nat.zero_add];rfl
 |m+1,n,s=>by rw[Nat.add_right_comm];exact Qz6 m n (st1 s)
theorem gst{m:Q00}(g:good 2 m):Q86 m 0/\(Q1b m 0).2.length<=1/\good 2 (Q1b m 0).1:=by
 have ml:=g.ok.mem.len
 obtain⟨p,l,_⟩:=qj g.v (by omega) (clock:=0) U_0
 refine⟨p,l,?_⟩
 rw[Qln g.v,Ql5]
 cases hs:Q48 m
 . exact(qE g hs (clock:=0) U_0).1
 . exact g
theorem Qsa: ∀(n:Nat) {s:MO},good 2 s.1->good 2 (iter n s).1
 |0,_,g=>g
 |n+1,_,g=>Qsa n (gst g).2.2
section
variable {mem:List Int} {x1 x2 x3 x4 x5 x6 x7 x8 pc c:Int} {keys:List UInt8}
theorem sm12(g:good 2 (pM mem (pC x1 x2 x3 x4 x5 x6 x7 x8 pc) keys c false))(h0:0<=pc)(h1:pc<256)(h4:pc%4=0)(hc:c<1000){w:Int}(hw:mem.getD (pc/4).toNat 0=w){d:Q0e×Bool}(hd:Q0u w=d){r:List Q08×Q00}(hr:Qq4 mem x1 x2 x3 x4 x5 x6 x7 x8 pc c keys w d=r)(o:List Q08):st1 (pM mem (pC x1 x2 x3 x4 x5 x6 x7 x8 pc) keys c false,o)=(r.2,o++r.1)/\good 2 r.2:=by
 have hs:Q48 (pM mem (pC x1 x2 x3 x4 x5 x6 x7 x8 pc) keys c false)=false:=(Qs0 g).2 ⟨rfl,rfl,by show c<_;omega⟩
 have a:=adv12 (x1:=x1) (x2:=x2) (x3:=x3) (x4:=x4) (x5:=x5) (x6:=x6) (x7:=x7) (x8:=x8) g.ok.mem h0 h1 h4 hw hd keys c
 have a:Q1q (pM mem (pC x1 x2 x3 x4 x5 x6 x7 x8 pc) keys c false) 0=r:=a.trans hr
 have e:Q1b (pM mem (pC x1 x2 x3 x4 x5 x6 x7 x8 pc) keys c false) 0=(r.2,r.1):=by rw[Qln g.v,Ql5,hs,a];rfl
 have k:=(gst g).2.2
 rw[e]at k
 refine⟨?_,k⟩
 unfold st1
 rw[e]
end
theorem qF{mem:List Int}{cpu:Q03}{keys:List UInt8}{c:Int}(g:good 2 (pM mem cpu keys c true))(o:List Q08):st1 (pM mem cpu keys c true,o)=(pM mem cpu keys c true,o):=by
 have hs:Q48 (pM mem cpu keys c true)=true:=by
   cases h:Q48 (pM mem cpu keys c true)
   . have:=((Qs0 g).1 h).1
     cases this
   . rfl
 have e:Q1b (pM mem cpu keys c true) 0=(pM mem cpu keys c true,[]):=by rw[Qln g.v,Ql5,hs];rfl
 unfold st1
 rw[e,List.append_nil]
theorem Z27{mem:List Int}{cpu:Q03}{keys:List UInt8}{c:Int}(g:good 2 (pM mem cpu keys c true))(o:List Q08): ∀n,iter n (pM mem cpu keys c true,o)=(pM mem cpu keys c true,o)
 |0=>rfl
 | n+1=>by
   show iter n (st1 _)=_
   rw[qF g];exact Z27 g o n
theorem Qqi: ∀(a b:List Nat),imgH (a++b)=imgH a++imgH b
 |[],_=>rfl
 |x::a,b=>by simp only[List.cons_append,imgH,Qqi a b]
def Qgw:Nat->List Nat->List Q08
 |_,[]=>[]
 |i,b::l=>{C0:=1,At:=3*(i:Int)+2,B5:=0,C6:=[UInt8.ofNat b]}::Qgw (i+1) l
def Z5b:Int->List Nat->Int
 |x,[]=>x
 |_,b::l=>Z5b b l
theorem Qq6{pc:Int}(h0:0<=pc)(h1:pc<1000):wrap .u32 (pc+4)=pc+4:=by rw[wrap_u32];omega
theorem Qpg{c:Int}(h0:0<=c)(h1:c<1000):wrap .u64 (c+1)=c+1:=by rw[wrap_u64];omega
theorem qk{A B:List Int}{w:Int}{n k:Nat}(h:k=A.length):(memP (A++w::B)).getD k 0=w:=by
 unfold memP
 rw[List.append_assoc,List.cons_append];exact Qyq _ _ _ _ h
section
variable {key:UInt8}
theorem phase1: ∀(suf pre:List Nat) (x1:Int) (o:List Q08) (T:List Int),(∀b∈suf,b<256)->(3*pre.length+3*suf.length<=60)->good 2 (pM (memP (imgH (pre++suf)++T)) (pC x1 0 0 0 0 0 0 0 (12*(pre.length:Int))) [key] (3*(pre.length:Int)) false)->
   iter (3*suf.length) (pM (memP (imgH (pre++suf)++T)) (pC x1 0 0 0 0 0 0 0 (12*(pre.length:Int))) [key] (3*(pre.length:Int)) false,o)=(pM (memP (imgH (pre++suf)++T)) (pC (Z5b x1 suf) 0 0 0 0 0 0 0 (12*((pre++suf).length:Int))) [key] (3*((pre++suf).length:Int)) false,o++Qgw pre.length suf)
 |[],pre,x1,o,T,_,_,_=>by simp only[List.append_nil,List.length_nil,Qgw,Z5b];rfl
 | b ::suf,pre,x1,o,T,hb,hn,g=>by
   have hb0:=hb b List.mem_cons_self
   obtain⟨d1,d2⟩:=zZ hb0
   have il:=Qqk pre
   simp only[List.length_cons]at hn
   have w0:(memP (imgH (pre++b::suf)++T)).getD (3*pre.length) 0=403701760:=by
     rw[Qqi,imgH,List.append_assoc];exact qk (n:=0) il.symm
   have w1:(memP (imgH (pre++b::suf)++T)).getD (3*pre.length+1) 0=303104000+b:=by
     rw[Qqi,imgH,show imgH pre++403701760::(303104000+(b:Int))::1024458752::imgH suf=(imgH pre++[403701760])++(303104000+(b:Int))::1024458752::imgH suf by simp,List.append_assoc (imgH pre++[403701760])]
     exact qk (n:=0) (by rw[lA,il];rfl)
   have w2:(memP (imgH (pre++b::suf)++T)).getD (3*pre.length+2) 0=1024458752:=by
     rw[Qqi,imgH,show imgH pre++403701760::(303104000+(b:Int))::1024458752::imgH suf=(imgH pre++[403701760,303104000+(b:Int)])++1024458752::imgH suf by simp,List.append_assoc (imgH pre++[403701760,303104000+(b:Int)])]
     exact qk (n:=0) (by rw[lA,il];rfl)
   generalize hmem:memP (imgH (pre++b::suf)++T)=mem at g w0 w1 w2
   obtain⟨s1,g1⟩:=sm12 g (by omega) (by omega) (by omega) (by omega) (by rw[show(12*(pre.length:Int)/4).toNat=3*pre.length by omega];exact w0) rfl (f_lui mem x1 0 0 0 0 0 0 0 (12*(pre.length:Int)) (3*(pre.length:Int)) [key]) o
   dsimp only[p4,c1]at s1 g1
   rw[Qq6 (by omega) (by omega),Qpg (by omega) (by omega)]at s1 g1
   obtain⟨s2,g2⟩:=sm12 g1 (by omega) (by omega) (by omega) (by omega) (by rw[show((12*(pre.length:Int)+4)/4).toNat=3*pre.length+1 by omega];exact w1) d1 (f_ori mem 0 0 0 0 0 0 0 0 (12*(pre.length:Int)+4) (3*(pre.length:Int)+1) [key] _ b) (o++[])
   dsimp only[p4,c1]at s2 g2
   rw[Qq6 (by omega) (by omega),Qpg (by omega) (by omega),d2]at s2 g2
   obtain⟨s3,g3⟩:=sm12 g2 (by omega) (by omega) (by omega) (by omega) (by rw[show((12*(pre.length:Int)+4+4)/4).toNat=3*pre.length+2 by omega];exact w2) rfl (f_out mem b 0 0 0 0 0 0 0 (12*(pre.length:Int)+4+4) (3*(pre.length:Int)+1+1) [key]) (o++[]++[])
   dsimp only[p4,c1]at s3 g3
   rw[Qq6 (by omega) (by omega),Qpg (by omega) (by omega),show(wrap .u8 (b:Int)).toNat=b by rw[wrap_u8];omega]at s3
   rw[Qq6 (by omega) (by omega),Qpg (by omega) (by omega)]at g3
   have e:3*(b::suf).length=3*suf.length+1+1+1:=by rw[List.length_cons];omega
   have ih:=phase1 suf (pre++[b]) b (o++[{C0:=1,At:=3*(pre.length:Int)+2,B5:=0,C6:=[UInt8.ofNat b]}]) T (λx hx=>hb x (List.mem_cons_of_mem _ hx)) (by rw[lA,List.length_singleton];omega)
   rw[List.append_assoc,List.singleton_append,hmem,lA,List.length_singleton,show(12*((pre.length+1:Nat):Int))=12*(pre.length:Int)+4+4+4 by omega,show(3*((pre.length+1:Nat):Int))=3*(pre.length:Int)+1+1+1 by omega]at ih
   rw[e]
   show iter (3*suf.length) (st1 (st1 (st1 _)))=_
   rw[s1,s2,s3]
   simp only[List.append_nil]
   have e2:3*(pre.length:Int)+1+1=3*(pre.length:Int)+2:=by omega
   rw[e2]at ih g3⊢
   rw[ih g3]
   simp only[Z5b,Qgw,List.append_assoc,List.singleton_append]
end
theorem xF{A T:List Int}{j:Nat}(h:j<T.length):(memP (A++T)).getD (A.length+j) 0=T.getD j 0:=by
 unfold memP
 simp only[List.getD,List.append_assoc]
 rw[List.getElem?_append_right (by omega),Nat.add_sub_cancel_left,List.getElem?_append_left h]
theorem phase2{key:UInt8}{l:List Nat}(x1:Int)(o:List Q08)(hn:3*l.length<=56)(g:good 2 (pM (memP (imgH l++imgT)) (pC x1 0 0 0 0 0 0 0 (12*(l.length:Int))) [key] (3*(l.length:Int)) false)):
   iter 8 (pM (memP (imgH l++imgT)) (pC x1 0 0 0 0 0 0 0 (12*(l.length:Int))) [key] (3*(l.length:Int)) false,o)=(pM (memP (imgH l++imgT)) (pC x1 1 (wrap .u32 ((key.toNat:Nat):Int)) 4294967295 0 0 0 0 (12*(l.length:Int)+32)) [] (3*(l.length:Int)+8) true,o)/\good 2 (pM (memP (imgH l++imgT)) (pC x1 1 (wrap .u32 ((key.toNat:Nat):Int)) 4294967295 0 0 0 0 (12*(l.length:Int)+32)) [] (3*(l.length:Int)+8) true):=by
 have il:=Qqk l
 have wd: ∀j:Nat,j<8->(memP (imgH l++imgT)).getD (3*l.length+j) 0=imgT.getD j 0:=λj hj=>by rw[<-il];exact xF hj
 have w0:(memP (imgH l++imgT)).getD (3*l.length+0) 0=1008730113:=wd 0 (by decide)
 have w1:(memP (imgH l++imgT)).getD (3*l.length+1) 0=1009778688:=wd 1 (by decide)
 have w2:(memP (imgH l++imgT)).getD (3*l.length+2) 0=1010827264:=wd 2 (by decide)
 have w3:(memP (imgH l++imgT)).getD (3*l.length+3) 0=1011875843:=wd 3 (by decide)
 have w4:(memP (imgH l++imgT)).getD (3*l.length+4) 0=1012924422:=wd 4 (by decide)
 have w5:(memP (imgH l++imgT)).getD (3*l.length+5) 0=1013973001:=wd 5 (by decide)
 have w6:(memP (imgH l++imgT)).getD (3*l.length+6) 0=1015021579:=wd 6 (by decide)
 have w7:(memP (imgH l++imgT)).getD (3*l.length+7) 0=1073741824:=wd 7 (by decide)
 generalize memP (imgH l++imgT)=mem at g w0 w1 w2 w3 w4 w5 w6 w7⊢
 obtain⟨s1,g1⟩:=sm12 g (by omega) (by omega) (by omega) (by omega) (by rw[show((12*(l.length:Int))/4).toNat=3*l.length+0 by omega];exact w0) rfl (f_i2 mem x1 0 0 0 0 0 0 0 (12*(l.length:Int)) (3*(l.length:Int)) [key]) (o)
 dsimp only[p4,c1]at s1 g1
 rw[Qq6 (by omega) (by omega),Qpg (by omega) (by omega)]at s1 g1
 rw[show wrap .u32 (([key]:List UInt8).length:Int)=1 from rfl]at s1 g1
 obtain⟨s2,g2⟩:=sm12 g1 (by omega) (by omega) (by omega) (by omega) (by rw[show((12*(l.length:Int)+4)/4).toNat=3*l.length+1 by omega];exact w1) rfl (f_i3 mem x1 1 0 0 0 0 0 0 (12*(l.length:Int)+4) (3*(l.length:Int)+1) key) (o++[])
 dsimp only[p4,c1]at s2 g2
 rw[Qq6 (by omega) (by omega),Qpg (by omega) (by omega)]at s2 g2
 obtain⟨s3,g3⟩:=sm12 g2 (by omega) (by omega) (by omega) (by omega) (by rw[show((12*(l.length:Int)+4+4)/4).toNat=3*l.length+2 by omega];exact w2) rfl (f_i4 mem x1 1 (wrap .u32 ((key.toNat:Nat):Int)) 0 0 0 0 0 (12*(l.length:Int)+4+4) (3*(l.length:Int)+1+1)) (o++[]++[])
 dsimp only[p4,c1]at s3 g3
 rw[Qq6 (by omega) (by omega),Qpg (by omega) (by omega)]at s3 g3
 obtain⟨s4,g4⟩:=sm12 g3 (by omega) (by omega) (by omega) (by omega) (by rw[show((12*(l.length:Int)+4+4+4)/4).toNat=3*l.length+3 by omega];exact w3) rfl (f_i5 mem x1 1 (wrap .u32 ((key.toNat:Nat):Int)) 4294967295 0 0 0 0 (12*(l.length:Int)+4+4+4) (3*(l.length:Int)+1+1+1)) (o++[]++[]++[])
 dsimp only[p4,c1]at s4 g4
 rw[Qq6 (by omega) (by omega),Qpg (by omega) (by omega)]at s4 g4
 obtain⟨s5,g5⟩:=sm12 g4 (by omega) (by omega) (by omega) (by omega) (by rw[show((12*(l.length:Int)+4+4+4+4)/4).toNat=3*l.length+4 by omega];exact w4) rfl (f_i6 mem x1 1 (wrap .u32 ((key.toNat:Nat):Int)) 4294967295 0 0 0 0 (12*(l.length:Int)+4+4+4+4) (3*(l.length:Int)+1+1+1+1)) (o++[]++[]++[]++[])
 dsimp only[p4,c1]at s5 g5
 rw[Qq6 (by omega) (by omega),Qpg (by omega) (by omega)]at s5 g5
 obtain⟨s6,g6⟩:=sm12 g5 (by omega) (by omega) (by omega) (by omega) (by rw[show((12*(l.length:Int)+4+4+4+4+4)/4).toNat=3*l.length+5 by omega];exact w5) rfl (f_i7 mem x1 1 (wrap .u32 ((key.toNat:Nat):Int)) 4294967295 0 0 0 0 (12*(l.length:Int)+4+4+4+4+4) (3*(l.length:Int)+1+1+1+1+1)) (o++[]++[]++[]++[]++[])
 dsimp only[p4,c1]at s6 g6
 rw[Qq6 (by omega) (by omega),Qpg (by omega) (by omega)]at s6 g6
 obtain⟨s7,g7⟩:=sm12 g6 (by omega) (by omega) (by omega) (by omega) (by rw[show((12*(l.length:Int)+4+4+4+4+4+4)/4).toNat=3*l.length+6 by omega];exact w6) rfl (f_i8 mem x1 1 (wrap .u32 ((key.toNat:Nat):Int)) 4294967295 0 0 0 0 (12*(l.length:Int)+4+4+4+4+4+4) (3*(l.length:Int)+1+1+1+1+1+1)) (o++[]++[]++[]++[]++[]++[])
 dsimp only[p4,c1]at s7 g7
 rw[Qq6 (by omega) (by omega),Qpg (by omega) (by omega)]at s7 g7
 obtain⟨s8,g8⟩:=sm12 g7 (by omega) (by omega) (by omega) (by omega) (by rw[show((12*(l.length:Int)+4+4+4+4+4+4+4)/4).toNat=3*l.length+7 by omega];exact w7) rfl (xaj mem x1 1 (wrap .u32 ((key.toNat:Nat):Int)) 4294967295 0 0 0 0 (12*(l.length:Int)+4+4+4+4+4+4+4) (3*(l.length:Int)+1+1+1+1+1+1+1)) (o++[]++[]++[]++[]++[]++[]++[])
 dsimp only[p4,c1]at s8 g8
 rw[Qq6 (by omega) (by omega),Qpg (by omega) (by omega)]at s8 g8
 simp only[List.append_nil]at s1 s2 s3 s4 s5 s6 s7 s8
 have e1:12*(l.length:Int)+4+4+4+4+4+4+4+4=12*(l.length:Int)+32:=by omega
 have e2:3*(l.length:Int)+1+1+1+1+1+1+1+1=3*(l.length:Int)+8:=by omega
 rw[e1,e2]at s8 g8
 refine⟨?_,g8⟩
 show st1 (st1 (st1 (st1 (st1 (st1 (st1 (st1 _)))))))=_
 rw[s1,s2,s3,s4,s5,s6,s7,s8]
theorem run12{key:UInt8}{l:List Nat}(hb: ∀b∈l,b<256)(hn:3*l.length<=56)(g:good 2 (pM (memP (imgH l++imgT)) pC0 [key] 0 false)):iter 100 (pM (memP (imgH l++imgT)) pC0 [key] 0 false,[])=(pM (memP (imgH l++imgT)) (pC (Z5b 0 l) 1 (wrap .u32 ((key.toNat:Nat):Int)) 4294967295 0 0 0 0 (12*(l.length:Int)+32)) [] (3*(l.length:Int)+8) true,Qgw 0 l):=by
 have a:=phase1 (key:=key) l [] 0 [] imgT hb (by simp;omega) g
 simp only[List.nil_append,List.length_nil]at a
 have ga:=Qsa (3*l.length) (s:=(pM (memP (imgH l++imgT)) pC0 [key] 0 false,[])) g
 have a:iter (3*l.length) (pM (memP (imgH l++imgT)) pC0 [key] 0 false,[])=(pM (memP (imgH l++imgT)) (pC (Z5b 0 l) 0 0 0 0 0 0 0 (12*(l.length:Int))) [key] (3*(l.length:Int)) false,Qgw 0 l):=a
 rw[a]at ga
 obtain⟨b,gb⟩:=phase2 (key:=key) (Z5b 0 l) (Qgw 0 l) hn ga
 have e:100=3*l.length+(8+(92-3*l.length)):=by omega
 rw[e,Qz6,a,Qz6,b]
 exact Z27 gb _ _
set_option synthInstance.maxHeartbeats 2000000
set_option synthInstance.maxSize 100000
noncomputable section
instance Qpq (s:(List Int)):Ck (Q05 s):=let d:Decidable (Q05 s):=(by delta Q05;infer_instance);⟨@decide _ d,@oY _ d⟩
instance Z9z (m:(List Int)) (addr:Int) (size:Int):Ck (Q76 m addr size):=ckT (t:=Q28 m addr size) (by delta Q28;infer_instance)
instance zO (n:Int):Ck (Qc n):=ckT (t:=Q8k n) (by delta Q8k;infer_instance)
instance zF (w:Int) (low:Int) (n:Int):Ck (Q3k w low n):=ckT (t:=Q6x w low n) (by delta Q6x;infer_instance)
instance yF (w:Int):Ck (Qeo w):=ckT (t:=Q5d w) (by delta Q5d;infer_instance)
instance zv (m:(List Int)) (addr:Int) (size:Int):Ck (Q26 m addr size):=ckT (t:=Q4o m addr size) (by delta Q4o;infer_instance)
instance yv (c:Q03) (m:(List Int)) (va:Int) (size:Int) (access:Int):Ck (Q6w c m va size access):=ckT (t:=Q4m c m va size access) (by delta Q4m;infer_instance)
instance yO (c:Q03) (m:(List Int)):Ck (Qg9 c m):=ckT (t:=Q8e c m) (by delta Q8e;infer_instance)
instance yZ (c:Q03) (m:(List Int)):Ck (Qe0 c m):=ckT (t:=Q5 c m) (by delta Q5;infer_instance)
instance Z6e (x:Int):Ck (Q8g x):=ckT (t:=Q1a x) (by delta Q1a;infer_instance)
instance vv (b:Q06) (pages:Int):Ck (Q9e b pages):=ckT (t:=Q2v b pages) (by delta Q2v;infer_instance)
instance Z24 (m:Q00):Ck (Q1z m):=ckT (t:=Q19 m) (by delta Q19;infer_instance)
instance qw (m:Q00):Ck (Q3w m):=ckT (t:=Q3h m) (by delta Q3h;infer_instance)
instance xk (m:Q00):Ck (Qba m):=ckT (t:=Q3j m) (by delta Q3j;infer_instance)
instance zk (m:Q00):Ck (Q88 m):=ckT (t:=Q2u m) (by delta Q2u;infer_instance)
instance Z9y (m:Q00):Ck (Q7e m):=ckT (t:=Q3 m) (by delta Q3;infer_instance)
instance vF (pages:Int):Ck (Qep pages):=ckT (t:=Qat pages) (by delta Qat;infer_instance)
instance Qpd (s1:(List Int)) (s2:(List Int)):Ck (Q0z s1 s2):=let d:Decidable (Q0z s1 s2):=(by delta Q0z;infer_instance);⟨@decide _ d,@oY _ d⟩
instance yk (a:Q00) (b:Q00):Ck (Qbj a b):=ckT (t:=Q7z a b) (by delta Q7z;infer_instance)
instance xw (pages:Int) (blocks:Int) (image:(List Int)):Ck (Qdh pages blocks image):=ckT (t:=Q9k pages blocks image) (by delta Q9k;infer_instance)
instance Z8c (m:Q00) (clock:Int):Ck (Q9u m clock):=ckT (t:=Q5s m clock) (by delta Q5s;infer_instance)
theorem Z48:Q5a:=ck (ckT (t:=Q9q) (by delta Q9q;infer_instance)) (by kernel_rfl)
theorem Z2r:Qaa=true:=by kernel_rfl
theorem aw12{W:Bool->Prop}(h:W true):(Tree.an Q5a (.lv Qaa λx=> .lf x)).w W:=w_an Z48 (w_lv λx e=>by show W x;rw[e,Z2r];exact h)
end
theorem Qx8: ∀l:List D,(∀d∈l,eq1 d d=true)->eqs l l=true
 |[],_=>rfl
 | d::l,h=>by
   show(eq1 d d&&eqs l l)=true
   rw[h d (by simp),Qx8 l λe he=>h e (by simp [he])];rfl
theorem newP12(img:List Int):Qdw 2 1 img:=by
 show(Q8q 2 1 img).p
 unfold Tree.p Q8q
 exact w_br (λ_=>trivial) λ_=>w_br (λ_=>trivial) λ_=>w_br (λ_=>trivial) λ_=>w_br (λ_=>trivial) λ_=>w_br (λ_=>trivial) λ_=>w_lv λ_ _=>w_an (Qom _) (w_lv λ_ _=>trivial)
theorem Qx0: ∀(i:Nat) (l:List Nat),(Qgw i l).length=l.length
 |_,[]=>rfl
 |i,b::l=>congrArg (· +1) (Qx0 (i+1) l)
theorem Qwb(d:Q08): ∀(l:List Nat) (i k:Nat),k<l.length->(Qgw i l).getD k d={C0:=1,At:=3*((i+k:Nat):Int)+2,B5:=0,C6:=[UInt8.ofNat (l.getD k 0)]}
 |[],_,_,h=>absurd h (Nat.not_lt_zero _)
 |b::l,i,0,_=>rfl
 | b::l,i,k+1,h=>by
   have:=Qwb d l (i+1) k (Nat.lt_of_succ_lt_succ h)
   show(Qgw (i+1) l).getD k d=_
   rw[this,show i+1+k=i+(k+1) by omega];rfl
theorem imgU: ∀{l:List Nat},(∀b∈l,b<256)-> ∀w∈imgH l++imgT,U w
 |[],_,w,h=>(yT imgT (by kernel_rfl)).2 w h
 | b::l,hb,w,h=>by
   have h0:=hb b List.mem_cons_self
   simp only[imgH,List.cons_append,List.mem_cons]at h
   rcases h with rfl|rfl|rfl|h
   . exact⟨by decide,by decide⟩
   . exact⟨by omega,by omega⟩
   . exact⟨by decide,by decide⟩
   . exact imgU (λx hx=>hb x (List.mem_cons_of_mem _ hx)) w h
theorem vZ:srcT=List.append [105,110,32,114,50,44,32,49,10,105,110,32,114,51,44,32,48,10,105,110,32,114,52,44,32,48,10,105,110,32,114,53,44,32] [51,10,105,110,32,114,54,44,32,54,10,105,110,32,114,55,44,32,57,10,105,110,32,114,56,44,32,49,49,10,104,97,108,116,10]:=by kernel_rfl
set_option maxHeartbeats 1000000 in
theorem vk{l:List Nat}(hb: ∀b∈l,b<256){key:Int}(k0:0<=key)(k1:key<256):Q69 (l.map λb:Nat=>(b:Int)) key/\Q6f (l.map λb:Nat=>(b:Int)) key=true:=by
  have ew: ∀{i:Int},0<=i->i<1000000->i64.wrap (i+1)=i+1:=λh0 h1=>by rw[wrap_i64];omega
  have tl:(l.map λb:Nat=>(b:Int)).length=l.length:=List.length_map _
  have tg: ∀{i:Nat} (h:i<l.length),(l.map λb:Nat=>(b:Int)).getD i 0=((l.getD i 0:Nat):Int):=λh=>by simp [List.getD,h]
  refine Tree.pp (W:=λr=>r=true) ?_
  unfold Q4x
  refine w_br (λ_=>aw12 rfl) λh20=> ?_
  have h20: ¬((l.map λb:Nat=>(b:Int)).length:Int)>20:=oN h20
  rw[tl]at h20
  have h20:l.length<=20:=by omega
  have sl:=Qzo hb
  refine w_lp (inv:=λv:List UInt8×Int=>0<=v.2/\v.2<=l.length/\v.1++srcH (l.drop v.2.toNat)=srcH l) (μ:=Q8t (l.map λb:Nat=>(b:Int)) key) ⟨Int.le_refl 0,by show(0:Int)<=_;omega,rfl⟩ (Nat.lt_succ_self _) λv ⟨f1,f2,f3⟩=> ?_
  obtain⟨src,i⟩:=v
  have e1:0<=i:=f1
  have e2:i<=l.length:=f2
  have e3:src++srcH (l.drop i.toNat)=srcH l:=f3
  clear f1 f2 f3
  have el:=congrArg List.length e3
  rw[lA]at el
  dsimp only
  refine w_br (λhb'=> ?_) λhb'=> ?_
  . have hb':i<((l.map λb:Nat=>(b:Int)).length:Int):=oY hb'
    rw[tl]at hb'
    have hlt:i.toNat<l.length:=by omega
    have hd:l[i.toNat]=l.getD i.toNat 0:=by simp [List.getD,hlt]
    have hbb:l.getD i.toNat 0<256:=by rw[<-hd];exact hb _ (List.getElem_mem hlt)
    have ed:=tg hlt
    rw[List.drop_eq_getElem_cons hlt,hd]at e3 el
    obtain⟨c1',c2',c3',c4'⟩:=Z52 hbb
    have edw:wrap .i64 ((l.map λb:Nat=>(b:Int)).getD i.toNat 0)=((l.getD i.toNat 0:Nat):Int):=by rw[ed,wrap_i64];omega
    generalize l.getD i.toNat 0=b at*
    have ll:(srcH (b::l.drop (i.toNat+1))).length=(decL b).length+(11+(srcH (l.drop (i.toNat+1))).length):=by
      simp only[srcH,lA,List.length_cons,List.length_nil,show Z5r.length=9 from rfl];omega
    have dl:(decL b).length=7+(Q3n b).length:=by unfold decL;rw[lA];rfl
    refine w_cn (dY (by show src.length+7<=_;unfold maxLen;omega)) (w_cn (by rw[tl];simp [Nat.blt];omega) (w_an (by rw[edw];exact c1') (w_lv λx1 g1=> ?_)))
    rw[edw]at g1
    subst g1
    refine w_cn (dY (by show(src++([108,105,32,114,49,44,32]:List UInt8)).length+(Q3n b).length<=_;rw[lA];simp only[List.length_cons,List.length_nil];unfold maxLen;omega)) (w_cn (dY (by show(src++([108,105,32,114,49,44,32]:List UInt8)++Q3n b).length+11<=_;rw[lA,lA];simp only[List.length_cons,List.length_nil];unfold maxLen;omega)) (w_nx ?_))
    show(0<=i64.wrap (i+1)/\i64.wrap (i+1)<=l.length/\(src++([108,105,32,114,49,44,32]:List UInt8)++Q3n b++([10,111,117,116,32,114,49,44,32,48,10]:List UInt8))++srcH (l.drop (i64.wrap (i+1)).toNat)=srcH l)/\(((l.map λb:Nat=>(b:Int)).length:Int)-i64.wrap (i+1)).toNat<(((l.map λb:Nat=>(b:Int)).length:Int)-i).toNat
    rw[ew e1 (by omega),tl,show(i+1).toNat=i.toNat+1 by omega]
    refine⟨⟨by omega,by omega,?_⟩,by omega⟩
    rw[<-e3]
    show _=src++(((([108,105,32,114,49,44,32]:List UInt8)++Q3n b)++([10,111,117,116,32,114,49,44,32,48,10]:List UInt8))++srcH (l.drop (i.toNat+1)))
    simp only[List.append_assoc]
  have hb': ¬i<((l.map λb:Nat=>(b:Int)).length:Int):=oN hb'
  rw[tl]at hb'
  have es:src=srcH l:=by
    rw[List.drop_eq_nil_of_le (show l.length<=i.toNat by omega)]at e3
    rw[<-e3];exact(List.append_nil src).symm
  subst es
  obtain⟨a1,a2⟩:=vj hb h20
  rw[vZ]at a1 a2
  refine w_cn (dY (by show(srcH l).length+69<=_;unfold maxLen;omega)) (w_an a1 (w_lv λx2 g2=> ?_))
  have g2:x2=(imgH l++imgT,{Err:=0,D7:=0}):=g2.trans a2
  subst g2
  have il:=Qqk l
  have it:(imgH l++imgT).length=3*l.length+8:=by rw[lA,il];rfl
  refine w_an (newP12 _) (w_lv λx3 g3=>w_br (λ_=>aw12 rfl) λh64=> ?_)
  have h64: ¬((imgH l++imgT).length:Int)>64:=oN h64
  rw[it]at h64
  have hn:3*l.length<=56:=by omega
  have h64:(imgH l++imgT).length<=64:=by omega
  have g3:x3=(pM (memP (imgH l++imgT)) pC0 [] 0 false,true):=g3.trans (new12 h64).2
  subst g3
  have g0:=Z8i h64 (imgU hb)
  obtain⟨q1,q2,q3⟩:=key12 k0 k1 g0
  refine w_an q1 (w_lv λx5 g5=> ?_)
  have g5:x5=(pM (memP (imgH l++imgT)) pC0 [UInt8.ofNat key.toNat] 0 false,true):=g5.trans q2
  subst g5
  have rn:=run12 hb hn q3
  refine w_lp (inv:=λv:Int×Q00×List Q08=>0<=v.1/\v.1<=100/\v.2=iter v.1.toNat (pM (memP (imgH l++imgT)) pC0 [UInt8.ofNat key.toNat] 0 false,[])/\v.2.2.length<=v.1.toNat) (μ:=Q8o (l.map λb:Nat=>(b:Int)) key) ⟨Int.le_refl 0,(by decide:(0:Int)<=100),rfl,Nat.le_refl _⟩ (Nat.lt_succ_self _) λv ⟨f1,f2,f3,f4⟩=> ?_
  obtain⟨j,m,o⟩:=v
  have j1:0<=j:=f1
  have j2:j<=100:=f2
  have j3:(m,o)=iter j.toNat (pM (memP (imgH l++imgT)) pC0 [UInt8.ofNat key.toNat] 0 false,[]):=f3
  have j4:o.length<=j.toNat:=f4
  clear f1 f2 f3 f4
  dsimp only
  refine w_br (λhj=> ?_) λhj=> ?_
  . have hj:j<100:=oY hj
    have gm:good 2 m:=by
      have:=Qsa j.toNat (s:=(pM (memP (imgH l++imgT)) pC0 [UInt8.ofNat key.toNat] 0 false,[])) q3
      rw[<-j3]at this;exact this
    obtain⟨p,pl,_⟩:=gst gm
    refine w_an p (w_lv λx6 g6=> ?_)
    subst g6
    refine w_cn (dY (by show 40*(o.length+(Q1b m 0).2.length)<=_;omega)) (w_nx ?_)
    show(0<=i64.wrap (j+1)/\i64.wrap (j+1)<=100/\((Q1b m 0).1,o++(Q1b m 0).2)=iter (i64.wrap (j+1)).toNat (pM (memP (imgH l++imgT)) pC0 [UInt8.ofNat key.toNat] 0 false,[])/\(o++(Q1b m 0).2).length<=(i64.wrap (j+1)).toNat)/\(100-i64.wrap (j+1)).toNat<(100-j).toNat
    rw[ew j1 (by omega),show(j+1).toNat=j.toNat+1 by omega,Z0j,<-j3,lA]
    exact⟨⟨by omega,by omega,rfl,by omega⟩,by omega⟩
  have hj: ¬j<100:=oN hj
  rw[show j.toNat=100 by omega,rn]at j3
  have jm:=congrArg Prod.fst j3
  have jo:=congrArg Prod.snd j3
  have jm:m=_:=jm
  have jo:o=Qgw 0 l:=jo
  have ol:=Qx0 0 l
  have ow: ∀{n:Int},0<=n->n<=20->wrap .u64 (wrap .i64 (wrap .i64 (3*n)+8))=3*n+8:=λa b=>by
    rw[wrap_i64,wrap_i64,wrap_u64];omega
  have oa: ∀{n:Int},0<=n->n<=20->wrap .u64 (wrap .i64 (wrap .i64 (3*n)+2))=3*n+2:=λa b=>by
    rw[wrap_i64,wrap_i64,wrap_u64];omega
  clear j3 j4
  subst jm;subst jo
  refine Qcu rfl (Qcu (by rw[tl,ol];exact bne_self_eq_false _) (Qcu rfl (Qcu ?_ ?_)))
  . show(3*(l.length:Int)+8 !=_)=false
    rw[tl,ow (by omega) (by omega)];exact bne_self_eq_false _
  refine w_lp (inv:=λv:Int=>0<=v/\v<=l.length) (μ:=Q8u (l.map λb:Nat=>(b:Int)) key) ⟨Int.le_refl 0,by omega⟩ (Nat.lt_succ_self _) λv ⟨v1,v2⟩=> ?_
  refine w_br (λhv=> ?_) λ_=> ?_
  . have hv:v<((Qgw 0 l).length:Int):=oY hv
    rw[ol]at hv
    have hlt:v.toNat<l.length:=by omega
    have go:=Qwb (RK.dflt RK.apiOutput) l 0 v.toNat hlt
    rw[show((0+v.toNat:Nat):Int)=v by omega]at go
    have dr:(l.map λb:Nat=>(b:Int)).drop v.toNat=((l.getD v.toNat 0:Nat):Int)::(l.map λb:Nat=>(b:Int)).drop (v.toNat+1):=by
      rw[List.drop_eq_getElem_cons (show v.toNat<(l.map λb:Nat=>(b:Int)).length by omega)]
      simp [List.getD,hlt]
    have hbb:l.getD v.toNat 0<256:=by
      have:l.getD v.toNat 0=l[v.toNat]:=by simp [List.getD,hlt]
      rw[this];exact hb _ (List.getElem_mem hlt)
    refine w_cn (by rw[ol];simp [Nat.blt];omega) (w_cn (by rw[tl,ew v1 (by omega)];simp [Nat.blt];omega) (Qcu ?_ (w_nx ?_)))
    . rw[go,oa v1 (by omega),dr,ew v1 (by omega),show(v+1).toNat-v.toNat=1 by omega]
      have by1:bytesOf (List.take 1 (((l.getD v.toNat 0:Nat):Int)::(l.map λb:Nat=>(b:Int)).drop (v.toNat+1)))=[UInt8.ofNat (l.getD v.toNat 0)]:=by
        show [UInt8.ofNat (((l.getD v.toNat 0:Nat):Int)).toNat]=_
        rw[Int.toNat_natCast]
      rw[by1]
      have:=Qx8 [D.int .i64 1,D.int .u64 (3*v+2),D.int .u32 0,D.str [UInt8.ofNat (l.getD v.toNat 0)]] (by
        intro d hd
        simp only[List.mem_cons,List.not_mem_nil,or_false]at hd
        rcases hd with rfl|rfl|rfl|rfl
        . rfl
        . exact beq_self_eq_true _
        . rfl
        . exact dY rfl)
      show(!eqs _ _)=false
      rw[this];rfl
    . show(0<=i64.wrap (v+1)/\i64.wrap (v+1)<=l.length)/\(1000000000000-i64.wrap (v+1)).toNat<(1000000000000-v).toNat
      rw[ew v1 (by omega)];omega
  . refine Quw rfl (Quw ?_ (Quw rfl (Quw rfl (Quw rfl (Quw rfl (Quw rfl (aw12 rfl)))))))
    show(wrap .u32 (((UInt8.ofNat key.toNat).toNat:Nat):Int)==wrap .u32 key)=true
    have:(((UInt8.ofNat key.toNat).toNat:Nat):Int)=key:=by rw[UInt8.toNat_ofNat'];omega
    rw[this];exact beq_self_eq_true _
theorem ports12{t:List Int}(ht: ∀w∈t,u8.min<=w/\w<=u8.max){key:Int}(hk:u8.min<=key/\key<=u8.max):Q69 t key/\Q6f t key=true:=by
 have m0:u8.min=0:=rfl
 have m1:u8.max=255:=rfl
 have e:((t.map Int.toNat).map λb:Nat=>(b:Int))=t:=by
   rw[List.map_map]
   refine(List.map_congr_left λw hw=> ?_).trans (List.map_id t)
   have:=(ht w hw).1
   show((w.toNat:Nat):Int)=w
   omega
 have:=vk (l:=t.map Int.toNat) (λb hb=>by
   obtain⟨w,hw,rfl⟩:=List.mem_map.1 hb
   have:=ht w hw
   omega) (key:=key) (by omega) (by omega)
 rw[e]at this
 exact this

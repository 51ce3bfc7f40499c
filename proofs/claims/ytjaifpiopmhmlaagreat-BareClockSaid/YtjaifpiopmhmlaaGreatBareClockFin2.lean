/-
  A part of the proof.
-/
import Derived.Test.YtjaifpiopmhmlaaGreatBareClockLaws2
import Derived.Test.YtjaifpiopmhmlaaGreatBareClockNewsB
import Derived.Test.YtjaifpiopmhmlaaGreatBareClockZg
import Derived.Test.YtjaifpiopmhmlaaGreatBareClockZt
import Derived.Test.YtjaifpiopmhmlaaGreatBareClockCk
set_option maxRecDepth 100000
set_option linter.unusedVariables false
set_option linter.unusedSimpArgs false
namespace Go.Proofs.YtjaifpiopmhmlaaGreat
open Go Go.GD
section
variable {P:Nat} {m:Q00} (h:okM P m)
include h
theorem min_w(port:Int){clock:Int}(hc:U clock):(Qn1 m port clock).w (λx=>U x.1∧okM P x.2∧x.2.A3=m.A3):=by
 have k:=(⟨h,rfl⟩:okM P m∧m.A3=m.A3)
 obtain⟨h1,h2,h3,h4,h5,h7⟩:=h
 unfold Qn1
 exact w_br (λ_=>w_lv λx hx=>⟨hx▸Z5c _ _,⟨⟨h1,h2,h3,h4,h5,h7⟩,rfl⟩⟩) (λ_=>w_br (λ_=>⟨hc,k⟩) (λ_=>w_br (λ_=>w_lv λx hx=>⟨hx▸timerIn_w _,k⟩) (λ_=>w_br (λ_=>w_lv λx hx=>⟨hx▸diskIn_w h3 _,k⟩) (λ_=>w_br (λ_=>w_lv λx hx=>⟨hx▸nicIn_w h4 _,k⟩) (λ_=>w_lv λx hx=>⟨hx▸Z52 h5.1 _,k⟩)))))
theorem mout_w(port:Int){v:Int}(hv:U v):(Qg4 m port v).w (λx=>x.1.length≤1∧okM P x.2∧x.2.A3=m.A3):=by
 have k:=(⟨h,rfl⟩:okM P m∧m.A3=m.A3)
 obtain⟨h1,h2,h3,h4,h5,h7⟩:=h
 unfold Qg4
 exact w_br (λ_=>⟨Nat.le_refl _,k⟩) (λ_=>w_br (λ_=>⟨Nat.zero_le _,k⟩) (λ_=>w_br (λ_=>w_lv λ_ _=>⟨Nat.zero_le _,⟨⟨h1,h2,h3,h4,h5,h7⟩,rfl⟩⟩) (λ_=>w_br (λ_=>Q0d (diskOut_w h2 h3 _ hv _) λx hx=>⟨hx.2,⟨⟨h1,h2,hx.1,h4,h5,h7⟩,rfl⟩⟩) (λ_=>w_br (λ_=>Q0d (nicOut_w h2 h4 _ hv _) λx hx=>⟨hx.2,⟨⟨h1,h2,h3,hx.1,h5,h7⟩,rfl⟩⟩) (λ_=>Q0d (give_w h2 h5 _ hv) λx hx=>⟨Nat.zero_le _,⟨⟨h1,hx.2,h3,h4,hx.1,h7⟩,rfl⟩⟩)))))
theorem Z9d{clock:Int}(hc:U clock):(Qfy m clock).w (λx=>x.1.length≤1∧okM P x.2∧x.2.A3=IntKind.wrap .u64 (m.A3+1)):=by
 obtain⟨h1,h2,h3,h4,h5,h7⟩:=h
 unfold Qfy
 refine Q0d (Qzb h1) λx0 c0=>Q0d (do_w c0 h2) λx1 hx=> ?_
 obtain⟨c1,v1,m1⟩:=hx
 refine w_br (λ_=>Z7g (min_w (m:=⟨_,_,_,_,_,_,_,_,_,_⟩) ⟨c1,m1,h3,h4,h5,h7⟩ _ hc) λx2 hx=> ?_) (λ_=>w_br (λ_=>Q0d (mout_w (m:=⟨_,_,_,_,_,_,_,_,_,_⟩) ⟨c1,m1,h3,h4,h5,h7⟩ _ v1) λx4 hx=> ?_) (λ_=> ?_))
 · obtain⟨u,⟨k1,k2,k3,k4,k5,k7⟩,k6⟩:=hx
   exact Q0d (Z0h k1 _ u) λx3 h3=>⟨Nat.zero_le _,⟨h3,k2,k3,k4,k5,w0 _⟩,congrArg (λn=>IntKind.wrap .u64 (n+1)) k6⟩
 · obtain⟨u,⟨k1,k2,k3,k4,k5,k7⟩,k6⟩:=hx
   exact⟨u,⟨k1,k2,k3,k4,k5,w0 _⟩,congrArg (λn=>IntKind.wrap .u64 (n+1)) k6⟩
 · repeat'(first
     |exact⟨Nat.zero_le _,⟨c1,m1,h3,h4,h5,w0 _⟩,rfl⟩
     |refine w_br (λ_=> ?_) (λ_=> ?_))
end
set_option synthInstance.maxHeartbeats 2000000
set_option synthInstance.maxSize 100000
noncomputable section
instance ref1_lines_ck (src:(List UInt8)):Ck (Qfw src):=ckT (t:=Qc9 src) (by delta Qc9;infer_instance)
instance ref1_tokens_ck (s:(List UInt8)):Ck (Qe8 s):=ckT (t:=Q9w s) (by delta Q9w;infer_instance)
instance ref1_digits_ck (n:Int):Ck (Q2o n):=let d:Decidable (Q2o n):=(by delta Q2o;infer_instance);⟨@decide _ d,@of_decide_eq_true _ d⟩
instance ref1_Decimal_ck (n:Int):Ck (Qcd n):=ckT (t:=Q5e n) (by delta Q5e;infer_instance)
instance ref1_reg_ck (r:Int):Ck (Qim r):=ckT (t:=Qb9 r) (by delta Qb9;infer_instance)
instance ref1_name_ck (s:(List UInt8)):Ck (Qd s):=ckT (t:=Qe9 s) (by delta Qe9;infer_instance)
instance Za9 (op:Int):Ck (Qai op):=ckT (t:=Q7e op) (by delta Q7e;infer_instance)
instance Z9t (s:(List UInt8)):Ck (Q2q s):=ckT (t:=Q6w s) (by delta Q6w;infer_instance)
instance ref1_pattern_ck (what:(List UInt8)):Ck (Q4z what):=ckT (t:=Q8s what) (by delta Q8s;infer_instance)
instance ref1_number_ck (s:(List UInt8)):Ck (Qeh s):=ckT (t:=Q9h s) (by delta Q9h;infer_instance)
instance ref1_matched_ck (l:(List Q0b)) (p:(List UInt8)):Ck (Q4y l p):=ckT (t:=Q8k l p) (by delta Q8k;infer_instance)
instance ref1_parsed_ck (s:(List UInt8)):Ck (Qev s):=ckT (t:=Q9z s) (by delta Q9z;infer_instance)
instance ref1_address_ck (l:(List Q1q)) (label:(List UInt8)):Ck (Q2u l label):=let d:Decidable (Q2u l label):=(by delta Q2u;infer_instance);⟨@decide _ d,@of_decide_eq_true _ d⟩
instance ref1_read_ck (src:(List UInt8)):Ck (Qh7 src):=ckT (t:=Qez src) (by delta Qez;infer_instance)
instance ref1_inst_ck (st:Q05) (v:Int):Ck (Q8 st v):=ckT (t:=Qed st v) (by delta Qed;infer_instance)
instance Zaa (src:(List UInt8)):Ck (Qav src):=ckT (t:=Q7m src) (by delta Q7m;infer_instance)
end
noncomputable section
end
attribute [local irreducible] Q15
def out(f:Int)(m m':List Int):Prop:= ∀j:Nat,¬(f*32≤j∧(j:Int)<f*32+32)→m'.getD j 0=m.getD j 0
theorem Qjp(f:Int)(m:List Int):out f m m:=λ_ _=>rfl
theorem getDset(l:List Int)(i j:Nat)(v:Int)(h:i≠j):(l.set i v).getD j 0=l.getD j 0:=by
 simp only[List.getD_eq_getElem?_getD,List.getElem?_set_ne h]
theorem Q2y{P:Nat}{m:List Int}(h:Q0q P m):Q0l m=P:=by
 obtain⟨h1,h2,h3,_⟩:=h
 simp only[Q0l,Q8q,Tree.m]
 have e:(m.length:Int)=32*P:=by omega
 rw[e]
 have e1:(Int.tmod (32*(P:Int)) 32 !=0)=false:=by simp [Int.mul_tmod_right]
 have e2:decide ((32*(P:Int))>1024)=false:=decide_eq_false (by omega)
 rw[e1,e2]
 simp only[cond_false]
 rw[Int.mul_tdiv_cancel_left _ (by decide),IntKind.wrap_i64];omega
theorem has_eq{P:Nat}{m:List Int}(h:Q0q P m)(f:Int):Q46 m f=true→0≤f∧f<P:=by
 have hp:=Q2y h
 simp only[Q46,Q6p,Tree.m,letv,hp]
 cases h1:decide (f≥0)
 · intro h;cases h
 · intro h;exact⟨of_decide_eq_true h1,of_decide_eq_true h⟩
theorem Qrr{P:Nat}{m:List Int}(h:Q0q P m)(f:Int)(s:List UInt8):(Q1x m f s).w (λr=>Q0q P r.1∧out f m r.1∧(r.2=false→r.1=m)):=by
 have hcl:Q01 m=m:=rfl
 have h2:=h.p2
 unfold Q1x
 refine w_an (Q7s h) (w_lv λx0 hx0=>w_lv λx1 hx1=> ?_)
 rw[hcl]at hx0;subst hx0
 refine w_br (λ_=>⟨h,Qjp _ _,λ_=>rfl⟩) λhb=>w_br (λ_=>⟨h,Qjp _ _,λ_=>rfl⟩) λhs=> ?_
 have hb:x1=true:=by simpa using hb
 obtain⟨f0,f1⟩:=has_eq h f (hx1.symm.trans hb)
 have hs:(s.length:Int)=128:=by simpa using hs
 refine w_lp (inv:=λz:Int×List Int=>0≤z.1∧z.1≤32∧Q0q P z.2∧out f x0 z.2) (μ:=Q8h x0 f s) ⟨show(0:Int)≤0 by decide,show(0:Int)≤32 by decide,h,Qjp _ _⟩ (Nat.lt_succ_self _) λz ⟨z1,z2,z3,z4⟩=> ?_
 refine w_br (λhb=> ?_) (λ_=>⟨z3,z4,λh=>by cases h⟩)
 have hb:=of_decide_eq_true hb
 have e1:IntKind.i64.wrap (4*z.1)=4*z.1:=by rw[IntKind.wrap_i64];omega
 have e2:IntKind.i64.wrap (IntKind.i64.wrap (4*z.1)+4)=4*z.1+4:=by rw[IntKind.wrap_i64,IntKind.wrap_i64];omega
 have e3:IntKind.i64.wrap (IntKind.i64.wrap (f*32)+z.1)=f*32+z.1:=by rw[IntKind.wrap_i64,IntKind.wrap_i64];omega
 have hl:=z3.len
 have hlen:(List.take (Int.toNat (IntKind.i64.wrap (IntKind.i64.wrap (4*z.1)+4))-Int.toNat (IntKind.i64.wrap (4*z.1))) (List.drop (Int.toNat (IntKind.i64.wrap (4*z.1))) s)).length=4:=by
   rw[e2,e1,List.length_take,List.length_drop];omega
 refine w_cn (decide_eq_true (by rw[e2,e1];omega)) ?_
 refine w_cn (decide_eq_true (by rw[hlen];decide)) (w_cn (decide_eq_true (by rw[hlen];decide)) (w_cn (decide_eq_true (by rw[hlen];decide)) (w_cn (decide_eq_true (by rw[hlen];decide)) (w_cn (by rw[e3];simp [Nat.blt];omega) (w_nx ?_)))))
 show(_∧_∧Q0q P (List.set _ _ _)∧out f x0 (List.set _ _ _))∧(_:Nat)<_
 have ew:IntKind.i64.wrap (z.1+1)=z.1+1:=by rw[IntKind.wrap_i64];omega
 rw[e3]
 refine⟨⟨by rw[ew];omega,by rw[ew];omega,⟨by rw[List.length_set];exact hl,z3.p1,z3.p2,Qvk z3.u (U_or _ _) _⟩,λj hj=> ?_⟩,by show(32-IntKind.i64.wrap (z.1+1)).toNat<(32-z.1).toNat;rw[ew];omega⟩
 rw[getDset _ _ _ _ (by omega)]
 exact z4 j hj
theorem text_w(w:List Int)(h:w.length≤32):(Q45 w).w (λr=>r.length=4*w.length):=by
 have e0:IntKind.i64.wrap (4*(w.length:Int))=4*w.length:=by rw[IntKind.wrap_i64];omega
 unfold Q45
 refine w_cn (by rw[e0];simp [Nat.blt,D.plain];omega) ?_
 refine w_lp (inv:=λz:Int×List Int=>0≤z.1∧z.1≤w.length∧(z.2.length:Int)=4*z.1) (μ:=Q5t w) ⟨by decide,by show(0:Int)≤w.length;omega,rfl⟩ (Nat.lt_succ_self _) λz ⟨z1,z2,z3⟩=> ?_
 refine w_br (λhb=> ?_) (λhb=> ?_)
 · have hb:=of_decide_eq_true hb
   have ew:IntKind.i64.wrap (z.1+1)=z.1+1:=by rw[IntKind.wrap_i64];omega
   refine w_cn (by simp [Nat.blt];omega) (w_cn (decide_eq_true (by omega)) (w_nx ?_))
   show(_∧_∧_)∧(_:Nat)<_
   refine⟨⟨by rw[ew];omega,by rw[ew];omega,by rw[ew,List.length_append];simp only[List.length_cons,List.length_nil];omega⟩,by show(w.length-IntKind.i64.wrap (z.1+1)).toNat<(w.length-z.1).toNat;rw[ew];omega⟩
 · have hb:=of_decide_eq_false hb
   show(bytesOf z.2).length=_
   rw[Qej];omega
theorem Z5m{P:Nat}{m:List Int}(h:Q0q P m)(f:Int):(Q36 m f).w (λr=>0≤f→f<P→r.1.length=128):=by
 have hl:=h.len
 have h2:=h.p2
 unfold Q36
 refine w_lv λx0 hx0=>w_br (λhb=>λf0 f1=> ?_) (λhb=> ?_)
 · have hp:=Q2y h
   have hb:x0=false:=by simpa using hb
   rw[hb]at hx0
   simp only[Q46,Q6p,Tree.m,letv,hp]at hx0
   rw[decide_eq_true f0]at hx0
   exact absurd f1 (of_decide_eq_false hx0.symm)
 · have hb:x0=true:=by simpa using hb
   obtain⟨f0,f1⟩:=has_eq h f (hx0.symm.trans hb)
   have e1:IntKind.i64.wrap (f*32)=f*32:=by rw[IntKind.wrap_i64];omega
   have e2:IntKind.i64.wrap (IntKind.i64.wrap (f*32)+32)=f*32+32:=by rw[IntKind.wrap_i64,IntKind.wrap_i64];omega
   have hlen:(List.take (Int.toNat (IntKind.i64.wrap (IntKind.i64.wrap (f*32)+32))-Int.toNat (IntKind.i64.wrap (f*32))) (List.drop (Int.toNat (IntKind.i64.wrap (f*32))) m)).length=32:=by
     rw[e2,e1,List.length_take,List.length_drop];omega
   refine w_cn (by rw[e2,e1];simp [Nat.blt];omega) ?_
   refine w_an (by show List.length _≤1000000000000;rw[hlen];decide) (w_lv λx1 h1=> ?_)
   have h1:x1.length=4*(List.take (Int.toNat (IntKind.i64.wrap (IntKind.i64.wrap (f*32)+32))-Int.toNat (IntKind.i64.wrap (f*32))) (List.drop (Int.toNat (IntKind.i64.wrap (f*32))) m)).length:=by rw[h1];exact(Tree.pp (text_w _ (Nat.le_of_eq hlen))).2
   intro _ _
   show x1.length=128
   rw[h1,hlen]
theorem Z7x{f:Int}(hf:U f){P:Nat}(hP:P≤32)(h:decide (IntKind.u64.wrap f<IntKind.u64.wrap (P:Int))=true):0≤f∧f<P:=by
 have h:=of_decide_eq_true h
 obtain⟨h1,h2⟩:=hf
 rw[IntKind.wrap_u64,IntKind.wrap_u64,Int.emod_eq_of_lt h1 (by omega),Int.emod_eq_of_lt (by omega) (by omega)]at h
 exact⟨h1,h⟩
theorem Z83{P:Nat}{m:List Int}(h:Q0q P m){d:Q09}(hd:Q79 d)(e:Q0m):(Q3n d m e).w (λr=>Q79 r.1∧Q0q P r.2.1∧out d.A9 m r.2.1∧(r.2.2=false→r.2.1=m)∧(∀p,Q14 d p=true→Q14 r.1 p=true)):=by
 have hcl:Q01 m=m:=rfl
 have keep: ∀b:Bool,Q79 d∧Q0q P m∧out d.A9 m m∧(b=false→m=m)∧(∀p,Q14 d p=true→Q14 d p=true):=λb=>⟨hd,h,Qjp _ _,λ_=>rfl,λ_ h=>h⟩
 have blk: ∀{p:Int},Q14 d p=true→decide (d.Blocks>64)=false:=fun{p} hm=>by
   cases hb:decide (d.Blocks>64)
   · rfl
   · have:Q14 d p=false:=by simp only[Q14,Q4x,Tree.m];rw[hb];rfl
     rw[this]at hm;cases hm
 have m2: ∀p,Q14 d p=true→Q14 {Blocks:=d.Blocks,B6:=d.B6,B0:=d.B0,B7:=2,D6:=0,B2:=0,A9:=0,C0:=[]} p=true:=λp hm=>by
   simp only[Q14,Q4x,Tree.m];rw[blk hm];rfl
 have m3: ∀p,Q14 d p=true→Q14 {Blocks:=d.Blocks,B6:=d.B6,B0:=d.B0,B7:=3,D6:=0,B2:=0,A9:=0,C0:=[]} p=true:=λp hm=>by
   simp only[Q14,Q4x,Tree.m];rw[blk hm];rfl
 unfold Q3n
 refine w_br (λ_=>w_an (Q7s h) (w_lv λx hx=>by rw[hcl]at hx;subst hx;exact keep _)) λ_=>w_br (λ_=>w_an (Q7s h) (w_lv λx hx=>by rw[hcl]at hx;subst hx;exact keep _)) λ_=>w_br (λ_=>w_an (Q7s h) (w_lv λx hx=>by rw[hcl]at hx;subst hx;exact keep _)) λ_=>w_an (Q7s h) (w_lv λx3 hx3=> ?_)
 rw[hcl]at hx3;subst hx3
 have fin: ∀{m':List Int},Q0q P m'→out d.A9 x3 m'→(Tree.br (e.N==1) (.lf (({Blocks:=d.Blocks,B6:=d.B6,B0:=d.B0,B7:=2,D6:=0,B2:=0,A9:=0,C0:=[]}:Q09),m',true)) (.lf (({Blocks:=d.Blocks,B6:=d.B6,B0:=d.B0,B7:=3,D6:=0,B2:=0,A9:=0,C0:=[]}:Q09),m',true))).w (λr=>Q79 r.1∧Q0q P r.2.1∧out d.A9 x3 r.2.1∧(r.2.2=false→r.2.1=x3)∧(∀p,Q14 d p=true→Q14 r.1 p=true)):=λhm ho=>
   w_br (λ_=>⟨⟨hd.block,hd.frame,U_0,U_0⟩,hm,ho,(λh=>by cases h),m2⟩) (λ_=>⟨⟨hd.block,hd.frame,U_0,U_0⟩,hm,ho,(λh=>by cases h),m3⟩)
 have nod:(Tree.br (!decide (e.C7=[])) (.lf (d,x3,false)) (Tree.br (e.N==1) (.lf (({Blocks:=d.Blocks,B6:=d.B6,B0:=d.B0,B7:=2,D6:=0,B2:=0,A9:=0,C0:=[]}:Q09),x3,true)) (.lf (({Blocks:=d.Blocks,B6:=d.B6,B0:=d.B0,B7:=3,D6:=0,B2:=0,A9:=0,C0:=[]}:Q09),x3,true)))).w (λr=>Q79 r.1∧Q0q P r.2.1∧out d.A9 x3 r.2.1∧(r.2.2=false→r.2.1=x3)∧(∀p,Q14 d p=true→Q14 r.1 p=true)):=
   w_br (λ_=>keep _) (λ_=>fin h (Qjp _ _))
 refine w_br (λ_=>w_br (λ_=>w_lv λx4 hx4=>w_br (λ_=>keep _) λhb=> ?_) (λ_=>nod)) (λ_=>nod)
 have hp:=Q2y h
 have hb:x4=true:=by simpa using hb
 rw[hb]at hx4
 simp only[Q7p,Q9o,Tree.m,letv,hp]at hx4
 obtain⟨f0,f1⟩:=Z7x hd.opFrame h.p2 hx4.symm
 have ef:IntKind.i64.wrap d.A9=d.A9:=by have:=h.p2;rw[IntKind.wrap_i64];omega
 refine Q0d (Qrr h _ _) λx5 ⟨h5,o5,k5⟩=> ?_
 rw[ef]at o5
 exact w_br (λhf=>⟨hd,h5,o5,λ_=>k5 (by simpa using hf),λ_ h=>h⟩) (λ_=>fin h5 o5)
theorem receive_w{P:Nat}{m:List Int}(h:Q0q P m){n:Q0j}(hn:Qf2 n)(frame:List UInt8):(Q56 n m frame).w (λr=>Qf2 r.1∧Q0q P r.2.1∧out n.B8 m r.2.1∧(r.2.2=false→r.2.1=m)∧(∀p,Q5s n p=true→Q5s r.1 p=true)):=by
 have hcl:Q01 m=m:=rfl
 have keep:Qf2 n∧Q0q P m∧out n.B8 m m∧(false=false→m=m)∧(∀p,Q5s n p=true→Q5s n p=true):=⟨hn,h,Qjp _ _,λ_=>rfl,λ_ h=>h⟩
 unfold Q56
 refine w_br (λ_=>w_an (Q7s h) (w_lv λx hx=>by rw[hcl]at hx;subst hx;exact keep)) λhpo=>w_br (λ_=>w_an (Q7s h) (w_lv λx hx=>by rw[hcl]at hx;subst hx;exact keep)) λl1=>w_br (λ_=>w_an (Q7s h) (w_lv λx hx=>by rw[hcl]at hx;subst hx;exact keep)) λl2=>w_lv λx3 hx3=>w_br (λ_=>w_an (Q7s h) (w_lv λx hx=>by rw[hcl]at hx;subst hx;exact keep)) λhb=> ?_
 have l1:=of_decide_eq_false l1
 have l2:=of_decide_eq_false l2
 have hp:=Q2y h
 have hb:x3=true:=by simpa using hb
 rw[hb]at hx3
 simp only[Q82,Qc7,Tree.m,letv,hp]at hx3
 obtain⟨f0,f1⟩:=Z7x hn.buffer h.p2 hx3.symm
 have ef:IntKind.i64.wrap n.B8=n.B8:=by have:=h.p2;rw[IntKind.wrap_i64];omega
 refine Q0d (Z5m h _) λx5 h5=> ?_
 rw[ef]at h5
 have h5:=h5 f0 f1
 have hmax:(maxLen:Nat)=9223372036854775807:=rfl
 refine w_cn (decide_eq_true (by omega)) (w_cn (decide_eq_true (by simp only[List.length_take,List.length_drop,hmax];omega)) (Q0d (Qrr h _ _) λx6 ⟨h6,o6,_⟩=> ?_))
 rw[ef]at o6
 have hg:IntKind.u32.wrap (frame.length:Int)=frame.length:=by rw[IntKind.wrap_u32];omega
 refine⟨⟨hn.frame,hn.len,U_0,Q0g _⟩,h6,o6,(λh=>by cases h),λp _=> ?_⟩
 simp only[Q5s,Qgq,Tree.m]
 rw[hg,decide_eq_true (show(frame.length:Int)≥1 by omega),decide_eq_true (show(frame.length:Int)≤128 by omega)]
 rfl
theorem ctype_w(c:Q0a)(b:Int):(Q5d c b).w (λr=>Q2e c=true→Q2e r.1=true):=by
 have hmax:(maxLen:Nat)=9223372036854775807:=rfl
 unfold Q5d
 refine w_br (λ_=>λh=>h) (λhb=> ?_)
 have hb:=of_decide_eq_false hb
 refine w_cn (decide_eq_true (by rw[hmax];omega)) ?_
 intro _
 show decide (((c.C9++[_]).length:Int)≤16)=true
 rw[List.length_append,List.length_singleton]
 exact decide_eq_true (by omega)
theorem fire_may(t:Q0f)(h:Q4m t=true):Q4m (Qgj t).1=true:=by
 simp only[Qgj,Qjd,Tree.m]
 cases ha:t.D3
 · exact h
 · rfl
theorem dev_eq(m:Q00):Q0r m=(Q2e m.A1&&(Q4m m.A6&&(Q14 m.A7 (Q0l m.Mem)&&(Q5s m.C3 (Q0l m.Mem)&&Q2p m.A0 (Q0l m.Mem))))):=by
 simp only[Q0r,Q1a,Tree.m,letv]
 cases Q2e m.A1<;>cases Q4m m.A6<;>cases Q14 m.A7 (Q0l m.Mem)<;>cases Q5s m.C3 (Q0l m.Mem)<;>rfl
theorem bal_eq{b c:Q06}(h:c.B9=b.B9)(p:Int):Q2p c p=Q2p b p:=by
 simp only[Q2p,Q2r,Tree.m,h]
theorem cnd{a x y:Bool}(h:x=true→y=true):(bif a then false else x)=true→(bif a then false else y)=true:=by cases a<;>simp_all
def chain(b1 b2 b3 b4 b5 b6 b7 w h dev:Bool):Bool:=bif b1 then false else bif b2 then false else bif b3 then false else bif b4 then false else bif b5 then false else bif b6 then false else bif b7 then false else bif w then(bif h then false else dev) else dev
theorem Z8v{b1 b2 b3 b4 b5 b6 b7 w h d d':Bool}(hd:d=true→d'=true):chain b1 b2 b3 b4 b5 b6 b7 w h d=true→chain b1 b2 b3 b4 b5 b6 b7 w h d'=true:=by
 refine cnd (cnd (cnd (cnd (cnd (cnd (cnd ?_))))))
 cases w
 · exact hd
 · cases h
   · exact hd
   · exact λh=>h
def mayC(p:Int)(c:Q02)(ct:Int)(w h dev:Bool):Bool:=chain (p==0) (c.X.a0 !=0) (decide (c.B3.a0>31)) (decide (c.B3.a7>31)) (decide (c.B3.a6>255)) (Int.tmod c.B3.a1 4 !=0) (decide (ct>1152921504606846976)) w h dev
theorem mayC_mono{p:Int}{c:Q02}{ct:Int}{w h d d':Bool}(hd:d=true→d'=true)(g:mayC p c ct w h d=true):mayC p c ct w h d'=true:=Z8v hd g
theorem may_eq(m:Q00):Q1d m=mayC (Q0l m.Mem) m.B1 m.A3 m.A2 m.A4 (Q0r m):=rfl
theorem Qmp{m n:Q00}(hp:Q0l n.Mem=Q0l m.Mem)(hcpu:n.B1=m.B1)(hct:n.A3=m.A3)(hw:n.A2=m.A2)(hh:n.A4=m.A4)
   (hc:Q2e m.A1=true→Q2e n.A1=true) (ht:Q4m m.A6=true→Q4m n.A6=true) (hd: ∀p,Q14 m.A7 p=true→Q14 n.A7 p=true) (hn: ∀p,Q5s m.C3 p=true→Q5s n.C3 p=true) (hb:n.A0.B9=m.A0.B9) (h:Q1d m=true):Q1d n=true:=by
 have dev:Q0r m=true→Q0r n=true:=λh=>by
   rw[dev_eq]at h⊢
   simp only[Bool.and_eq_true]at h⊢
   rw[hp,bal_eq hb]
   exact⟨hc h.1,ht h.2.1,hd _ h.2.2.1,hn _ h.2.2.2.1,h.2.2.2.2⟩
 rw[may_eq]at h⊢
 rw[hp,hcpu,hct,hw,hh]
 exact mayC_mono dev h
section
variable {P:Nat} {m:List Int} (h:Q0q P m)
include h
theorem dpage{f:Int}(hf:U f){b:Bool}(hx:b=Q7p m f)(hb:b=true):0≤f∧f<P:=by
 have hp:=Q2y h
 rw[hb]at hx
 simp only[Q7p,Q9o,Tree.m,letv,hp]at hx
 exact Z7x hf h.p2 hx.symm
theorem npage{f:Int}(hf:U f){b:Bool}(hx:b=Q82 m f)(hb:b=true):0≤f∧f<P:=by
 have hp:=Q2y h
 rw[hb]at hx
 simp only[Q82,Qc7,Tree.m,letv,hp]at hx
 exact Z7x hf h.p2 hx.symm
def keepD(P:Nat)(d d':Q09):Prop:=Q79 d'∧(Q14 d P=true→Q14 d' P=true)
theorem issue_w{d:Q09}(hd:Q79 d){cmd:Int}(hc:cmd=1∨cmd=2)(at0:Int):(Q5u d m cmd at0).w (λr=>keepD P d r.1∧r.2.length≤1):=by
 have h2:=h.p2
 have st3:(d.B7 !=0)=false→keepD P d {Blocks:=d.Blocks,B6:=d.B6,B0:=d.B0,B7:=3,D6:=d.D6,B2:=d.B2,A9:=d.A9,C0:=d.C0}:=λhs=>by
   have hs:d.B7=0:=by simpa using hs
   refine⟨⟨hd.block,hd.frame,hd.opBlock,hd.opFrame⟩,λhm=> ?_⟩
   simp only[Q14,Q4x,Tree.m,hs]at hm⊢
   exact hm
 have blk:Q14 d P=true→decide (d.Blocks>64)=false:=λhm=>by
   cases hb:decide (d.Blocks>64)
   · rfl
   · have:Q14 d P=false:=by simp only[Q14,Q4x,Tree.m];rw[hb];rfl
     rw[this]at hm;cases hm
 unfold Q5u
 refine w_br (λ_=>⟨⟨hd,λh=>h⟩,Nat.zero_le _⟩) λhs=>w_br (λ_=>⟨st3 hs,Nat.zero_le _⟩) λhb=>w_lv λx0 hx=>w_br (λ_=>⟨st3 hs,Nat.zero_le _⟩) λhp=> ?_
 have hb:=of_decide_eq_false hb
 obtain⟨f0,f1⟩:=dpage h hd.frame hx (by simpa using hp)
 have ef:IntKind.i64.wrap d.B0=d.B0:=by rw[IntKind.wrap_i64];omega
 have e1:decide (d.B6<d.Blocks)=true:=decide_eq_true (by omega)
 have e2:decide (IntKind.i64.wrap d.B0<(P:Int))=true:=by rw[ef];exact decide_eq_true f1
 refine w_br (λhcm=>Q0d (Z5m h _) λx1 h1=> ?_) (λhcm=> ?_)
 · rw[ef]at h1
   have h1:=h1 f0 f1
   have hcm:=eq_of_beq hcm
   subst hcm
   refine w_lv λx2 _=>⟨⟨⟨hd.block,hd.frame,hd.block,hd.frame⟩,λhm=> ?_⟩,Nat.le_refl _⟩
   simp only[Q14,Q4x,Q7k,Q5m,Tree.m,letv,blk hm,e1,e2,h1]
   rfl
 · have hc:cmd=1:=by
     rcases hc with h|h
     · exact h
     · rw[h]at hcm;exact absurd hcm (by decide)
   subst hc
   refine w_lv λx2 _=>⟨⟨⟨hd.block,hd.frame,hd.block,hd.frame⟩,λhm=> ?_⟩,Nat.le_refl _⟩
   simp only[Q14,Q4x,Q7k,Q5m,Tree.m,letv,blk hm,e1,e2]
   rfl
theorem diskP_w{d:Q09}(hd:Q79 d)(port:Int){v:Int}(hv:U v)(at0:Int):(Q99 d m port v at0).w (λr=>keepD P d r.1∧r.2.length≤1):=by
 have keep:keepD P d d:=⟨hd,λh=>h⟩
 have e1: ∀{k:Int},(v==k)=true→IntKind.i64.wrap v=k:=λhk=>by
   have:=eq_of_beq hk
   obtain⟨a,b⟩:=hv
   rw[IntKind.wrap_i64];omega
 unfold Q99
 refine w_br (λ_=>⟨⟨⟨hv,hd.frame,hd.opBlock,hd.opFrame⟩,λh=>h⟩,Nat.zero_le _⟩) λ_=>w_br (λ_=>⟨⟨⟨hd.block,hv,hd.opBlock,hd.opFrame⟩,λh=>h⟩,Nat.zero_le _⟩) λ_=>w_br (λ_=>w_br (λhk=>Q0d (issue_w h hd (.inl (e1 hk)) _) λx hx=>hx) λ_=>w_br (λhk=>Q0d (issue_w h hd (.inr (e1 hk)) _) λx hx=>hx) λ_=>w_br (λ_=>w_lv λx hx=>w_br (λhb=> ?_) (λ_=>⟨keep,Nat.zero_le _⟩)) (λ_=>⟨keep,Nat.zero_le _⟩)) (λ_=>⟨keep,Nat.zero_le _⟩)
 refine⟨⟨⟨hd.block,hd.frame,hd.opBlock,hd.opFrame⟩,λhm=> ?_⟩,Nat.zero_le _⟩
 rw[hb]at hx
 simp only[Q7x,Qfv,Tree.m]at hx
 cases h2:d.B7==2
 · rw[h2]at hx
   have h3:d.B7=3:=eq_of_beq hx.symm
   simp only[Q14,Q4x,Tree.m,h3]at hm⊢
   exact hm
 · have h3:d.B7=2:=eq_of_beq h2
   simp only[Q14,Q4x,Tree.m,h3]at hm⊢
   exact hm
def keepN(P:Nat)(n n':Q0j):Prop:=Qf2 n'∧(Q5s n P=true→Q5s n' P=true)
theorem send_w{n:Q0j}(hn:Qf2 n)(at0:Int):(Q9b n m at0).w (λr=>r.length≤1):=by
 have h2:=h.p2
 unfold Q9b
 refine w_br (λ_=>Nat.zero_le _) λl1=>w_br (λ_=>Nat.zero_le _) λl2=>w_lv λx0 hx=>w_br (λ_=>Nat.zero_le _) λhp=>Q0d (Z5m h _) λx1 h1=> ?_
 have l1:=of_decide_eq_false l1
 have l2:=of_decide_eq_false l2
 obtain⟨f0,f1⟩:=npage h hn.frame hx (by simpa using hp)
 have ef:IntKind.i64.wrap n.B0=n.B0:=by rw[IntKind.wrap_i64];omega
 rw[ef]at h1
 have h1:=h1 f0 f1
 exact w_cn (decide_eq_true (by omega)) (Nat.le_refl _)
theorem nicP_w{n:Q0j}(hn:Qf2 n)(port:Int){v:Int}(hv:U v)(at0:Int):(Qca n m port v at0).w (λr=>keepN P n r.1∧r.2.length≤1):=by
 have h2:=h.p2
 have keep:keepN P n n:=⟨hn,λh=>h⟩
 unfold Qca
 refine w_br (λ_=>⟨⟨⟨hv,hn.len,hn.buffer,hn.got⟩,λh=>h⟩,Nat.zero_le _⟩) λ_=>w_br (λ_=>⟨⟨⟨hn.frame,hv,hn.buffer,hn.got⟩,λh=>h⟩,Nat.zero_le _⟩) λ_=>w_br (λ_=>w_br (λ_=>Q0d (send_w h hn _) λx hx=>⟨keep,hx⟩) λ_=>w_br (λ_=>w_lv λx hx=>w_br (λhb=>w_br (λnp=>w_br (λnr=> ?_) (λ_=>⟨keep,Nat.zero_le _⟩)) (λ_=>⟨keep,Nat.zero_le _⟩)) (λ_=>⟨keep,Nat.zero_le _⟩)) λ_=>w_br (λ_=> ?_) (λ_=>⟨keep,Nat.zero_le _⟩)) (λ_=>⟨keep,Nat.zero_le _⟩)
 · obtain⟨f0,f1⟩:=npage h hn.frame hx hb
   have np:n.C2=false:=by simpa using np
   have nr:n.B5=false:=by simpa using nr
   have e2:decide (IntKind.i64.wrap n.B0≥(P:Int))=false:=decide_eq_false (by rw[IntKind.wrap_i64];omega)
   refine⟨⟨⟨hn.frame,hn.len,hn.frame,hn.got⟩,λhm=> ?_⟩,Nat.zero_le _⟩
   simp only[Q5s,Qgq,Tree.m,np,nr,e2]at hm⊢
   cases hb:(n.B8 !=0)
   · rw[hb]at hm;exact hm
   · rw[hb]at hm;cases hm
 · refine⟨⟨⟨hn.frame,hn.len,hn.buffer,U_0⟩,λhm=> ?_⟩,Nat.zero_le _⟩
   simp only[Q5s,Qgq,Tree.m]at hm⊢
   revert hm
   cases n.C2<;>cases n.B5<;>cases decide (IntKind.i64.wrap n.B8≥(P:Int))<;>cases(n.B8 !=0)<;>simp
end
theorem arm_may(t:Q0f)(v:Int):Q4m (Qgu t v)=true:=by
 simp only[Qgu,Qh0,Q4m,Qh,Tree.m]
 cases h:(v !=0)
 · have:v=0:=by simpa using h
   subst this;rfl
 · rfl
theorem Qkv{a:Int}(k:Nat)(hk:k≤32):ishr .u32 a k=a/2^k:=by
 unfold ishr
 have e:min (k:Int).toNat IntKind.u32.bits=k:=by show min (k:Int).toNat 32=k;omega
 have hp:(0:Int)<2^k:=Int.pow_pos (by decide)
 rw[e,Int.fdiv_eq_ediv_of_nonneg _ (Int.le_of_lt hp)]
def Z9i(x:Int)(n:Nat):Prop:=x<2^n∧(n=0∨(2:Int)^(n-1)≤x)
theorem Z0o{x q:Int}{n k:Nat}(hq:q=x/2^k)(h0:0<q)(h:Z9i q n):Z9i x (n+k):=by
 have hp:(0:Int)<2^k:=Int.pow_pos (by decide)
 obtain⟨h1,h2⟩:=h
 have hn:n≠0:=λe=>by subst e;simp at h1;omega
 refine⟨?_, .inr ?_⟩
 · rw[Int.pow_add]
   have:x<(x/2^k+1)*2^k:=Int.lt_ediv_add_one_mul_self x hp
   have h3:(x/2^k+1)*2^k≤2^n*2^k:=Int.mul_le_mul_of_nonneg_right (by omega) (Int.le_of_lt hp)
   omega
 · have h2:=h2.resolve_left hn
   have e:n+k-1=(n-1)+k:=by omega
   rw[e,Int.pow_add]
   have h3:(2:Int)^(n-1)*2^k≤q*2^k:=Int.mul_le_mul_of_nonneg_right h2 (Int.le_of_lt hp)
   have h4:q*2^k≤x:=by rw[hq];exact Int.ediv_mul_le x (Int.ne_of_gt hp)
   omega
theorem isLen_le{x:Int}{n p:Nat}(h:Z9i x n)(hx:x<2^p):n≤p:=by
  obtain⟨h1,h2⟩:=h
  rcases h2 with h2|h2
  · omega
  · rcases Nat.lt_or_ge p n with hlt|hge
    · have:(2:Int)^p≤2^(n-1):=by
        have:=Nat.pow_le_pow_right (show 0<2 by omega) (show p≤n-1 by omega)
        exact_mod_cast this
      omega
    · exact hge
theorem Z5j{x:Int}{n p:Nat}(h:Z9i x n)(hn:n≤p):x<2^p:=by
 have:(2:Int)^n≤2^p:=by
   have:=Nat.pow_le_pow_right (show 0<2 by omega) hn
   exact_mod_cast this
 exact Int.lt_of_lt_of_le h.1 this
def lenChk(i:Nat):Bool:=match(Q1h (i:Int)) with
 | .ofNat n=>decide ((i:Int)<2^n)&&(Nat.beq n 0||decide ((2:Int)^(n-1)≤i))&&decide (n≤8)
 |_=>false
theorem Qmg{q:Int}(h0:0≤q)(h1:q<256): ∃n:Nat,Q1h q=n∧Z9i q n∧n≤8:=by
 have all:List.all (List.range 256) lenChk=true:=by kernel_rfl
 have:=List.all_eq_true.1 all q.toNat (List.mem_range.2 (by omega))
 have hq:((q.toNat:Nat):Int)=q:=by omega
 unfold lenChk at this
 rw[hq]at this
 split at this
 · rename_i n hn
   simp only[Bool.and_eq_true,Bool.or_eq_true,decide_eq_true_eq]at this
   refine⟨n,hn,⟨this.1.1,?_⟩,this.2⟩
   rcases this.1.2 with h|h
   · exact .inl (Nat.eq_of_beq_eq_true h)
   · exact .inr h
 · cases this
theorem len_24{x:Int}(h:U x)(hx:16777216≤x):Q1h x=24+Q1h (x/16777216):=by
 obtain⟨h0,h1⟩:=h
 have s16:ishr .u32 x 16=x/65536:=Qkv 16 (by omega)
 have s24:ishr .u32 (x/65536) 8=x/16777216:=by rw[show((8:Int))=((8:Nat):Int) from rfl,Qkv 8 (by omega)];omega
 have d1:decide (x≥65536)=true:=decide_eq_true (by omega)
 have d2:decide (x/65536≥256)=true:=decide_eq_true (by omega)
 have d3:decide (x/16777216≥65536)=false:=decide_eq_false (by omega)
 have d4:decide (x/16777216≥256)=false:=decide_eq_false (by omega)
 have u:IntKind.u8.wrap (x/16777216)=x/16777216:=by rw[IntKind.wrap_u8];omega
 simp only[Q1h,Q1f,Tree.m,s16,s24,d1,d2,d3,d4,u,cond_true,cond_false]
 generalize(List.getD _ (Int.toNat (x/16777216)) (0:UInt8))=b
 have hb:=UInt8.toNat_lt b
 rw[IntKind.wrap_i64,IntKind.wrap_i64,IntKind.wrap_i64,IntKind.wrap_i64]
 omega
theorem len_16{x:Int}(h0:65536≤x)(h1:x<16777216):Q1h x=16+Q1h (x/65536):=by
 have s16:ishr .u32 x 16=x/65536:=Qkv 16 (by omega)
 have d1:decide (x≥65536)=true:=decide_eq_true (by omega)
 have d2:decide (x/65536≥256)=false:=decide_eq_false (by omega)
 have d3:decide (x/65536≥65536)=false:=decide_eq_false (by omega)
 have u:IntKind.u8.wrap (x/65536)=x/65536:=by rw[IntKind.wrap_u8];omega
 simp only[Q1h,Q1f,Tree.m,s16,d1,d2,d3,u,cond_true,cond_false]
 generalize(List.getD _ (Int.toNat (x/65536)) (0:UInt8))=b
 have hb:=UInt8.toNat_lt b
 rw[IntKind.wrap_i64,IntKind.wrap_i64,IntKind.wrap_i64]
 omega
theorem len_8{x:Int}(h0:256≤x)(h1:x<65536):Q1h x=8+Q1h (x/256):=by
 have s8:ishr .u32 x 8=x/256:=Qkv 8 (by omega)
 have d1:decide (x≥65536)=false:=decide_eq_false (by omega)
 have d2:decide (x≥256)=true:=decide_eq_true (by omega)
 have d3:decide (x/256≥65536)=false:=decide_eq_false (by omega)
 have d4:decide (x/256≥256)=false:=decide_eq_false (by omega)
 have u:IntKind.u8.wrap (x/256)=x/256:=by rw[IntKind.wrap_u8];omega
 simp only[Q1h,Q1f,Tree.m,s8,d1,d2,d3,d4,u,cond_true,cond_false]
 generalize(List.getD _ (Int.toNat (x/256)) (0:UInt8))=b
 have hb:=UInt8.toNat_lt b
 rw[IntKind.wrap_i64,IntKind.wrap_i64,IntKind.wrap_i64,IntKind.wrap_i64]
 omega
theorem Z9x{x:Int}(h:U x): ∃n:Nat,Q1h x=n∧Z9i x n:=by
  obtain⟨h0,h1⟩:=h
  rcases Int.lt_or_le x 256 with a|a
  · obtain⟨n,e,l,_⟩:=Qmg h0 a
    exact⟨n,e,l⟩
  · rcases Int.lt_or_le x 65536 with b|b
    · obtain⟨n,e,l,_⟩:=Qmg (q:=x/256) (by omega) (by omega)
      exact⟨n+8,by rw[len_8 a b,e];omega,Z0o (k:=8) rfl (by omega) l⟩
    · rcases Int.lt_or_le x 16777216 with c|c
      · obtain⟨n,e,l,_⟩:=Qmg (q:=x/65536) (by omega) (by omega)
        exact⟨n+16,by rw[len_16 b c,e];omega,Z0o (k:=16) rfl (by omega) l⟩
      · obtain⟨n,e,l,_⟩:=Qmg (q:=x/16777216) (by omega) (by omega)
        exact⟨n+24,by rw[len_24 ⟨h0,h1⟩ c,e];omega,Z0o (k:=24) rfl (by omega) l⟩
theorem Qsh{b:Q06}(h:U b.B9){P:Nat}:Q2p b P=true↔b.B9<2^P:=by
 obtain⟨n,e,l⟩:=Z9x h
 have hp:(if(0:Int)>(P:Int) then(0:Int) else P)=P:=by rw[if_neg (by omega)]
 simp only[Q2p,Q2r,Tree.m,letv,e,hp,decide_eq_true_eq]
 constructor
 · intro h;exact Z5j l (by omega)
 · intro h;have:=isLen_le l h;omega
theorem Qyn{a:Int}(h:U a){P:Nat}(h1:a<2^P):(BitVec.ofInt 32 a).toNat<2^P:=by
 obtain⟨a0,a1⟩:=h
 rw[BitVec.toNat_ofInt,Int.emod_eq_of_lt a0 (by omega)]
 have:((2^P:Nat):Int)=(2:Int)^P:=by exact_mod_cast rfl
 omega
theorem or_lt{a b:Int}(ha:U a)(hb:U b){P:Nat}(hP:P≤32)(h1:a<2^P)(h2:b<2^P):ior .u32 a b<2^P:=by
 have e:(BitVec.ofInt 32 a|||BitVec.ofInt 32 b).toNat<2^P:=by
   rw[BitVec.toNat_or]
   exact Nat.or_lt_two_pow (Qyn ha h1) (Qyn hb h2)
 have hc:((2^P:Nat):Int)=(2:Int)^P:=by exact_mod_cast rfl
 have l:=(BitVec.ofInt 32 a|||BitVec.ofInt 32 b).isLt
 show IntKind.wrap .u32 ((BitVec.ofInt 32 a|||BitVec.ofInt 32 b).toNat:Int)<2^P
 rw[IntKind.wrap_u32]
 omega
theorem andn_lt{a b:Int}(ha:U a){P:Nat}(h1:a<2^P):Qdf .u32 a b<2^P:=by
 have e:(BitVec.ofInt 32 a&&&~~~BitVec.ofInt 32 b).toNat<2^P:=by
   rw[BitVec.toNat_and]
   exact Nat.lt_of_le_of_lt Nat.and_le_left (Qyn ha h1)
 have hc:((2^P:Nat):Int)=(2:Int)^P:=by exact_mod_cast rfl
 have l:=(BitVec.ofInt 32 a&&&~~~BitVec.ofInt 32 b).isLt
 show IntKind.wrap .u32 ((BitVec.ofInt 32 a&&&~~~BitVec.ofInt 32 b).toNat:Int)<2^P
 rw[IntKind.wrap_u32]
 omega
theorem shl_one{v:Int}(h0:0≤v)(h1:v<32):ishl .u32 1 v=2^v.toNat:=by
 have e:min v.toNat IntKind.u32.bits=v.toNat:=by show min v.toNat 32=v.toNat;omega
 obtain⟨n,rfl⟩: ∃n:Nat,v=n:=⟨v.toNat,by omega⟩
 have hn:n<32:=by omega
 have hlt:(2:Nat)^n<4294967296:=by
   have:=Nat.pow_lt_pow_right (show 1<2 by omega) hn
   simpa using this
 have hc:((2^n:Nat):Int)=(2:Int)^n:=by exact_mod_cast rfl
 unfold ishl
 rw[e,IntKind.wrap_u32,Int.one_mul,Int.toNat_natCast,←hc]
 clear hc e
 generalize(2:Nat)^n=z at*
 omega
def keepB(P:Nat)(b b':Q06):Prop:=okB b'∧(Q2p b P=true→Q2p b' P=true)
theorem Z84{P:Nat}{m:List Int}(h:Q0q P m){b:Q06}(hb:okB b)(port:Int){v:Int}(hv:U v):(Q2d b m port v).w (λr=>keepB P b r.1∧Q0q P r.2):=by
 have hcl:Q01 m=m:=rfl
 have h2:=h.p2
 have hp:=Q2y h
 have keep:(Tree.an (Q03 m) (.lv (Q01 m) λx=> .lf (b,x))).w (λr=>keepB P b r.1∧Q0q P r.2):=w_an (Q7s h) (w_lv λx hx=>by rw[hcl]at hx;subst hx;exact⟨⟨hb,λh=>h⟩,h⟩)
 unfold Q2d
 refine w_br (λ_=>keep) λhlt=>w_cn (decide_eq_true hv.1) (w_br (λ_=>w_lv λx1 hx=>w_br (λhpg=>w_br (λ_=>w_an ⟨by decide,by decide,by decide⟩ (w_lv λx2 _=>Q0d (Qrr h _ _) λx3 ⟨h3,_⟩=> ?_)) (λ_=>keep)) (λ_=>keep)) (λ_=>w_br (λ_=>w_an (Q7s h) (w_lv λx hx=> ?_)) (λ_=>keep)))
 · have hlt:=of_decide_eq_false hlt
   have hpg:=of_decide_eq_true hpg
   rw[hx,hp]at hpg
   obtain⟨v0,v1⟩:=hv
   have ev:IntKind.i64.wrap v=v:=by rw[IntKind.wrap_i64];omega
   rw[ev]at hpg
   refine⟨⟨⟨hb.1,Q0g _⟩,λhm=> ?_⟩,h3⟩
   rw[Qsh hb.2]at hm
   rw[Qsh (Q0g _)]
   have hs:ishl .u32 1 v<2^P:=by
     rw[shl_one v0 (by omega)]
     have:=Nat.pow_lt_pow_right (show 1<2 by omega) (show v.toNat<P by omega)
     exact_mod_cast this
   exact or_lt hb.2 (Q0g _) h2 hm hs
 · rw[hcl]at hx;subst hx
   refine⟨⟨⟨hb.1,Q0g _⟩,λhm=> ?_⟩,h⟩
   rw[Qsh hb.2]at hm
   rw[Qsh (Q0g _)]
   exact andn_lt hb.2 hm
structure kept(P:Nat)(m n:Q00):Prop where
 ok:okS P n
 dev:Q0r m=true→Q0r n=true
 cpu:n.B1=m.B1
 cnt:n.A3=m.A3
 wait:n.A2=m.A2
 halt:n.A4=m.A4
theorem Z1e{P:Nat}{m:Q00}(h:okS P m):kept P m m:=⟨h,λh=>h,rfl,rfl,rfl,rfl⟩
theorem Qjn{P:Nat}{m n:Q00}(hm:Q0q P m.Mem)(hn:Q0q P n.Mem)(hc:Q2e m.A1=true→Q2e n.A1=true)(ht:Q4m m.A6=true→Q4m n.A6=true)
   (hd:Q14 m.A7 P=true→Q14 n.A7 P=true) (hk:Q5s m.C3 P=true→Q5s n.C3 P=true) (hb:Q2p m.A0 P=true→Q2p n.A0 P=true) (h:Q0r m=true):Q0r n=true:=by
 rw[dev_eq]at h⊢
 rw[Q2y hm]at h
 rw[Q2y hn]
 simp only[Bool.and_eq_true]at h⊢
 exact⟨hc h.1,ht h.2.1,hd h.2.2.1,hk h.2.2.2.1,hb h.2.2.2.2⟩
theorem Z4v{P:Nat}{m:Q00}(h:okS P m)(port:Int){v:Int}(hv:U v)(at0:Int):(Q1w m port v at0).w (λr=>kept P m r.1∧r.2.length≤1):=by
 have k:=Z1e h
 obtain⟨h1,h2,h3,h4,h5,h6⟩:=h
 have id: ∀{p:Prop},p→p:=λh=>h
 have D: ∀(x:Q09×List Q07),(keepD P m.A7 x.1∧x.2.length≤1)→kept P m {B1:=m.B1,Mem:=m.Mem,A1:=m.A1,A6:=m.A6,A7:=x.1,C3:=m.C3,A0:=m.A0,A3:=m.A3,A2:=m.A2,A4:=m.A4}∧x.2.length≤1:=λx hx=>
   ⟨⟨⟨h1,h2,hx.1.1,h4,h5,h6⟩,Qjn h2 h2 id id hx.1.2 id id,rfl,rfl,rfl,rfl⟩,hx.2⟩
 have N: ∀(x:Q0j×List Q07),(keepN P m.C3 x.1∧x.2.length≤1)→kept P m {B1:=m.B1,Mem:=m.Mem,A1:=m.A1,A6:=m.A6,A7:=m.A7,C3:=x.1,A0:=m.A0,A3:=m.A3,A2:=m.A2,A4:=m.A4}∧x.2.length≤1:=λx hx=>
   ⟨⟨⟨h1,h2,h3,hx.1.1,h5,h6⟩,Qjn h2 h2 id id id hx.1.2 id,rfl,rfl,rfl,rfl⟩,hx.2⟩
 have B: ∀(x:Q06×List Int),(keepB P m.A0 x.1∧Q0q P x.2)→kept P m {B1:=m.B1,Mem:=x.2,A1:=m.A1,A6:=m.A6,A7:=m.A7,C3:=m.C3,A0:=x.1,A3:=m.A3,A2:=m.A2,A4:=m.A4}∧([]:List Q07).length≤1:=λx hx=>
   ⟨⟨⟨h1,hx.2,h3,h4,hx.1.1.1,hx.1.1.2⟩,Qjn h2 hx.2 id id id id hx.1.2,rfl,rfl,rfl,rfl⟩,Nat.zero_le _⟩
 unfold Q1w
 repeat'(first
   |exact⟨k,Nat.le_refl _⟩
   |exact⟨k,Nat.zero_le _⟩
   |exact w_lv λx hx=>⟨⟨⟨h1,h2,h3,h4,h5,h6⟩,Qjn h2 h2 id (λ_=>by rw[hx];exact arm_may _ _) id id id,rfl,rfl,rfl,rfl⟩,Nat.zero_le _⟩
   |exact Q0d (diskP_w h2 h3 _ hv _) λx hx=>D x hx
   |exact Q0d (nicP_w h2 h4 _ hv _) λx hx=>N x hx
   |exact Q0d (Z84 h2 ⟨h5,h6⟩ _ hv) λx hx=>B x hx
   |refine w_br (λ_=> ?_) (λ_=> ?_))
theorem Qxh(c:Q0a)(port:Int):(Q7j c port).w (λr=>U r.2∧(Q2e c=true→Q2e r.1=true)):=by
 have u1:U 4294967295:=⟨by omega,by omega⟩
 unfold Q7j
 refine w_br (λ_=>w_br (λ_=>⟨u1,λh=>h⟩) (λhb=>w_cn ?_ (w_cn ?_ ⟨Q0g _,λhm=> ?_⟩))) (λ_=>w_br (λ_=>⟨Q0g _,λh=>h⟩) (λ_=>⟨U_0,λh=>h⟩))
 · have hb:=of_decide_eq_false hb
   have:0<c.C9.length:=List.length_pos_iff.2 hb
   simp [Nat.blt];omega
 · have hb:=of_decide_eq_false hb
   have:0<c.C9.length:=List.length_pos_iff.2 hb
   exact decide_eq_true (by omega)
 · have hm:decide ((c.C9.length:Int)≤16)=true:=hm
   have hm:=of_decide_eq_true hm
   show decide (((List.take _ (List.drop _ c.C9)).length:Int)≤16)=true
   refine decide_eq_true ?_
   rw[List.length_take,List.length_drop];omega
theorem Z89{P:Nat}{m:Q00}(h:okS P m)(port:Int){clock:Int}(hc:U clock):(Q26 m port clock).w (λr=>kept P m r.1∧U r.2):=by
 have k:=Z1e h
 obtain⟨h1,h2,h3,h4,h5,h6⟩:=h
 have id: ∀{p:Prop},p→p:=λh=>h
 have ti: ∀t,U (Qr1 t):=λt=>by
   refine Tree.post (Qjm t) (W:=U) ?_
   unfold Qjm
   exact w_br (λ_=>⟨by omega,by omega⟩) (λ_=>U_0)
 have di: ∀p,U (Qnp m.A7 p):=λp=>by
   refine Tree.post (Qls m.A7 p) (W:=U) ?_
   unfold Qls
   exact w_br (λ_=>h3.block) (λ_=>w_br (λ_=>h3.frame) (λ_=>w_br (λ_=>Q0g _) (λ_=>U_0)))
 have ni: ∀p,U (Qsj m.C3 p):=λp=>by
   refine Tree.post (Qm6 m.C3 p) (W:=U) ?_
   unfold Qm6
   exact w_br (λ_=>h4.frame) (λ_=>w_br (λ_=>h4.got) (λ_=>w_br (λ_=>w_br (λ_=>w_br (λ_=>Q0g _) (λ_=>Q0g _)) (λ_=>w_br (λ_=>Q0g _) (λ_=>U_0))) (λ_=>U_0)))
 have bi: ∀p,(Q5x m.A0 p).w U:=λp=>by
   unfold Q5x
   exact w_br (λ_=>h5) (λ_=>w_br (λ_=>Q0d (Z6g h6) λ_ _=>Q0g _) (λ_=>U_0))
 have C: ∀(x:Q0a×Int),(U x.2∧(Q2e m.A1=true→Q2e x.1=true))→kept P m {B1:=m.B1,Mem:=m.Mem,A1:=x.1,A6:=m.A6,A7:=m.A7,C3:=m.C3,A0:=m.A0,A3:=m.A3,A2:=m.A2,A4:=m.A4}∧U x.2:=λx hx=>
   ⟨⟨⟨h1,h2,h3,h4,h5,h6⟩,Qjn h2 h2 hx.2 id id id id,rfl,rfl,rfl,rfl⟩,hx.1⟩
 unfold Q26
 repeat'(first
   |exact⟨k,hc⟩
   |exact⟨k,U_0⟩
   |exact Q0d (Qxh _ _) λx hx=>C x hx
   |exact Z7g (Qxh _ _) λx hx=>C x hx
   |exact w_lv λx hx=>⟨k,by rw[hx];exact ti _⟩
   |exact w_lv λx hx=>⟨k,by rw[hx];exact di _⟩
   |exact w_lv λx hx=>⟨k,by rw[hx];exact ni _⟩
   |exact Q0d (bi _) λx hx=>⟨k,hx⟩
   |refine w_br (λ_=> ?_) (λ_=> ?_))
structure Q6(c:Q02):Prop where
 x0:c.X.a0=0
 st:c.B3.a0≤31
 en:c.B3.a7≤31
 rt:c.B3.a6≤255
 ve:Int.tmod c.B3.a1 4=0
theorem Q6.pc{c:Q02}(h:Q6 c)(p:Int):Q6 {X:=c.X,Pc:=p,B3:=c.B3}:=⟨h.x0,h.st,h.en,h.rt,h.ve⟩
theorem and31(a:Int):iand .u32 a 31≤31:=by
 have e:(BitVec.ofInt 32 a&&&BitVec.ofInt 32 31).toNat≤31:=by
   rw[BitVec.toNat_and]
   exact Nat.le_trans Nat.and_le_right (by decide)
 show IntKind.wrap .u32 ((BitVec.ofInt 32 a&&&BitVec.ofInt 32 31).toNat:Int)≤31
 rw[IntKind.wrap_u32];omega
theorem and255'(a:Int):iand .u32 a 255≤255:=by have:=and255 a;omega
theorem andn3(a:Int):Int.tmod (Qdf .u32 a 3) 4=0:=by
 have e:(BitVec.ofInt 32 a&&&~~~BitVec.ofInt 32 3).toNat%4=0:=by
   rw[BitVec.toNat_and,show(~~~BitVec.ofInt 32 3).toNat=4294967292 by decide]
   have:=Nat.and_mod_two_pow (a:=(BitVec.ofInt 32 a).toNat) (b:=4294967292) (n:=2)
   simpa using this
 have l:=(BitVec.ofInt 32 a&&&~~~BitVec.ofInt 32 3).isLt
 show Int.tmod (IntKind.wrap .u32 ((BitVec.ofInt 32 a&&&~~~BitVec.ofInt 32 3).toNat:Int)) 4=0
 rw[IntKind.wrap_u32,Int.tmod_eq_emod_of_nonneg (by omega)]
 omega
theorem fin32{f:Int→Int}(h:(List.range 32).all (λn=>decide (f n≤31))=true){s:Int}(h0:0≤s)(h1:s≤31):f s≤31:=by
 have:=List.all_eq_true.1 h s.toNat (List.mem_range.2 (by omega))
 have e:((s.toNat:Nat):Int)=s:=by omega
 rw[e]at this
 exact of_decide_eq_true this
theorem Qhl{c:Q02}(h:Q2f c)(m:Q6 c)(k b:Int):Q6 (Q3r c k b):=
 ⟨m.x0,fin32 (f:=λs=>Qdf .u32 (ior .u32 (Q75 (Q75 s 1 8) 2 16) 1) 2) (by kernel_rfl) h.a0.1 m.st,m.en,m.rt,m.ve⟩
theorem Za2{c:Q02}(h:Q2f c)(m:Q6 c):Q6 (Qb c):=
 ⟨m.x0,fin32 (f:=λs=>Q75 (Q75 s 8 1) 16 2) (by kernel_rfl) h.a0.1 m.st,m.en,m.rt,m.ve⟩
theorem Qnc{c:Q02}(m:Q6 c){r:Int}(hr:0≤r∧r<16)(v:Int):(Q7l c r v).w Q6:=by
 unfold Q7l
 refine w_br (λhn=>w_cn (rc hr) ?_) (λ_=>m)
 have hn:r≠0:=by simpa using hn
 obtain⟨n,e⟩: ∃n:Nat,r.toNat=n+1:=⟨r.toNat-1,by omega⟩
 refine⟨?_,m.st,m.en,m.rt,m.ve⟩
 show(A16.of 0 (List.set (A16.l c.X) r.toNat v)).a0=0
 rw[e]
 exact m.x0
theorem write_may{c:Q02}(m:Q6 c)(k v:Int):(Q6j c k v).w Q6:=by
 unfold Q6j
 refine w_br (λhk=>w_cn (by rw[eq_of_beq hk];decide) ?_) λ_=>w_br (λhk=>w_cn (by rw[eq_of_beq hk];decide) ?_) λ_=>w_br (λhk=>w_cn (by rw[eq_of_beq hk];decide) ?_) λ_=>w_br (λhk=>w_cn (by rw[eq_of_beq hk];decide) ?_) λ_=>w_br (λhk=>w_cn (by rw[eq_of_beq hk];decide) ?_) λ_=>w_br (λhk=>w_cn (by rw[eq_of_beq hk];decide) ?_) λ_=>w_br (λhk=>w_cn (by rw[eq_of_beq hk];decide) ?_) λ_=>w_br (λhk=>w_cn (by rw[eq_of_beq hk];decide) ?_) (λ_=>m)
 all_goals(have hk:=eq_of_beq hk;subst hk)
 · exact⟨m.x0,and31 _,m.en,m.rt,m.ve⟩
 · exact⟨m.x0,m.st,and31 _,m.rt,m.ve⟩
 · exact⟨m.x0,m.st,m.en,and255' _,m.ve⟩
 · exact⟨m.x0,m.st,m.en,m.rt,andn3 _⟩
 · exact⟨m.x0,m.st,m.en,m.rt,m.ve⟩
 · exact⟨m.x0,m.st,m.en,m.rt,m.ve⟩
 · exact⟨m.x0,m.st,m.en,m.rt,m.ve⟩
 · exact⟨m.x0,m.st,m.en,m.rt,m.ve⟩
section
variable {c:Q02} (h:Q2f c) (m:Q6 c) {i:Q0e} (hi:Qbv i)
include h m hi
theorem Z4j:(Q2n c i).w (λr=>Q6 r.1):=by
 unfold Q2n
 refine w_cn (rc hi.a) (w_cn (rc hi.b) ?_)
 repeat'(first
   |refine w_br (λ_=> ?_) (λ_=> ?_)
   |exact Q0d (Qnc m hi.a _) λx hx=>hx.pc _
   |exact w_lv λx _=>w_br (λ_=>m.pc _) (λ_=>m.pc _)
   |exact w_lv λx hx=>by rw[hx];exact Qhl h m _ _
   |exact w_lv λx hx=>by rw[hx];exact Za2 h m
   |exact w_cn (by have:=hi.csr (by simp_all);simp [Nat.blt];omega) (Q0d (Qnc m hi.a _) λx hx=>hx.pc _)
   |exact Q0d (write_may m _ _) λx hx=>hx.pc _
   |refine w_cn (rc hi.c) ?_
   |exact Q0d (Qx9 _ (h.r _) (Q0g _)) λy hy=>Q0d (Qnc m hi.a _) λx hx=>hx.pc _
   |exact Q0d (Qx9 _ (h.r _) (h.r _)) λy hy=>Q0d (Qnc m hi.a _) λx hx=>hx.pc _
   |refine w_lf ?_)
 all_goals exact m.pc _
theorem load_may{P:Nat}{mem:List Int}(hm:Q0q P mem):(Q8a c mem i).w (λr=>Q6 r.1):=by
 have w:=Z00 i.Op
 unfold Q8a
 refine w_cn (rc hi.b) (w_lv λx0 h0=> ?_)
 rw[←h0]at w
 refine Q0d (Qgh hm (Q0g _) w 2) λx1 h1=>w_br (λ_=>w_lv λy hy=>by rw[hy];exact Qhl h m _ _) (λ_=>w_lv λx3 h3=> ?_)
 rw[h0,←h3]at w
 exact Q0d (Qld h1.2 h1.1 w) λx4 h4=>w_br (λ_=>Q0d (Qnv h4.1 8) λy hy=>Q0d (Qnc m hi.a _) λx hx=>hx.pc _) (λ_=>Q0d (Qnc m hi.a _) λx hx=>hx.pc _)
theorem store_may{P:Nat}{mem:List Int}(hm:Q0q P mem):(Q6f c mem i).w (λr=>Q6 r.1):=by
 have w:=Z00 i.Op
 unfold Q6f
 refine w_cn (rc hi.b) (w_lv λx0 h0=> ?_)
 rw[←h0]at w
 refine Q0d (Qgh hm (Q0g _) w 3) λx1 h1=>w_br (λ_=>w_lv λy hy=>by rw[hy];exact Qhl h m _ _) (λ_=>w_lv λx3 h3=>w_cn (rc hi.a) ?_)
 rw[h0,←h3]at w
 exact Q0d (Qr h1.2 h1.1 w (h.r _)) λx hx=>m.pc _
end
theorem exec_may{c:Q02}(h:Q2f c)(m:Q6 c){P:Nat}{mem:List Int}(hm:Q0q P mem):(Q4e c mem).w (λr=>Q6 r.1):=by
 unfold Q4e
 refine Q0d (Qzq hm h) λx0 h0=>w_br (λ_=>w_lv λy hy=>by rw[hy];exact Qhl h m _ _) (λ_=>Q0d (Qt _) λx2 h2=>w_br (λ_=>w_lv λy hy=>by rw[hy];exact Qhl h m _ _) (λhb=> ?_))
 have hi:=h2 (by simpa using hb)
 refine w_lv λx4 _=> ?_
 repeat'(first
   |refine w_br (λ_=> ?_) (λ_=> ?_)
   |exact Q0d (load_may h m hi h0.2) λx hx=>hx
   |exact Q0d (store_may h m hi h0.2) λx hx=>hx
   |exact Q0d (Z4j h m hi) λx hx=>hx
   |exact w_lv λy hy=>by rw[hy];exact Qhl h m _ _
   |refine w_lv λ_ _=> ?_)
theorem Z5o{c:Q02}(h:Q2f c){i:Q0e}(hi:Qbv i):(Q2n c i).w (λr=>0≤r.2.D7∧r.2.D7<16):=by
 have z:(0:Int)≤0∧(0:Int)<16:=⟨by decide,by decide⟩
 unfold Q2n
 refine w_cn (rc hi.a) (w_cn (rc hi.b) ?_)
 repeat'(first
   |refine w_br (λ_=> ?_) (λ_=> ?_)
   |exact Q0d (Qkn h hi.a (Q0g _)) λx hx=>z
   |exact w_lv λx _=>w_br (λ_=>z) (λ_=>z)
   |exact w_lv λx hx=>z
   |exact w_cn (by have:=hi.csr (by simp_all);simp [Nat.blt];omega) (Q0d (Qkn h hi.a (h.a _)) λx hx=>z)
   |exact Q0d (Z7p h _ (h.r _)) λx hx=>z
   |refine w_cn (rc hi.c) ?_
   |exact Q0d (Qx9 _ (h.r _) (Q0g _)) λy hy=>Q0d (Qkn h hi.a hy) λx hx=>z
   |exact Q0d (Qx9 _ (h.r _) (h.r _)) λy hy=>Q0d (Qkn h hi.a hy) λx hx=>z
   |refine w_lf ?_)
 all_goals first|exact z|exact hi.a
theorem Z6f{c:Q02}(h:Q2f c){P:Nat}{mem:List Int}(hm:Q0q P mem):(Q4e c mem).w (λr=>0≤r.2.2.D7∧r.2.2.D7<16):=by
 have z:(0:Int)≤0∧(0:Int)<16:=⟨by decide,by decide⟩
 unfold Q4e
 refine Q0d (Qzq hm h) λx0 h0=>w_br (λ_=>w_lv λy hy=>z) (λ_=>Q0d (Qt _) λx2 h2=>w_br (λ_=>w_lv λy hy=>z) (λhb=> ?_))
 have hi:=h2 (by simpa using hb)
 refine w_lv λx4 _=> ?_
 repeat'(first
   |refine w_br (λ_=> ?_) (λ_=> ?_)
   |exact Q0d (Qri h hi h0.2) λx hx=>z
   |exact Q0d (Qpw h hi h0.2) λx hx=>z
   |exact Q0d (Z5o h hi) λx hx=>hx
   |exact w_lv λy hy=>z
   |refine w_lv λ_ _=> ?_)
theorem cnd2{a x:Bool}:(bif a then false else x)=true↔a=false∧x=true:=by cases a<;>simp
theorem Qu7(m:Q00):Q1d m=true↔Q0l m.Mem≠0∧Q6 m.B1∧m.A3≤1152921504606846976∧ ¬(m.A2=true∧m.A4=true)∧Q0r m=true:=by
  rw[may_eq]
  unfold mayC chain
  rw[cnd2,cnd2,cnd2,cnd2,cnd2,cnd2,cnd2]
  simp only[decide_eq_false_iff_not,Int.not_lt,beq_eq_false_iff_ne,bne_eq_false_iff_eq,gt_iff_lt]
  constructor
  · rintro⟨a1,a2,a3,a4,a5,a6,a7,a8⟩
    refine⟨a1,⟨a2,a3,a4,a5,a6⟩,a7,?_,?_⟩
    · rintro⟨w,h⟩;rw[w,h]at a8;cases a8
    · revert a8;cases m.A2
      · exact λh=>h
      · cases m.A4
        · exact λh=>h
        · intro h;cases h
  · rintro⟨a1,⟨a2,a3,a4,a5,a6⟩,a7,a8,a9⟩
    refine⟨a1,a2,a3,a4,a5,a6,a7,?_⟩
    rw[a9]
    cases hw:m.A2
    · rfl
    · cases hh:m.A4
      · rfl
      · exact absurd ⟨hw,hh⟩ a8
theorem Z77{m:Q00}(h:Q3j m=true):Q1d m=true∧m.A4=false∧m.A3<1152921504606846976:=by
  simp only[Q3j,Q2a,Tree.m,letv]at h
  cases h1:Q1d m
  · rw[h1]at h;cases h
  · cases h2:m.A4
    · rw[h1,h2]at h
      cases h3:Q9a m
      · rw[h3]at h
        have h:decide (m.A3<1152921504606846976)=true:=h
        exact⟨rfl,rfl,of_decide_eq_true h⟩
      · rw[h3]at h;cases h
    · rw[h1,h2]at h;cases h
theorem Z0u{P:Nat}{m:Q00}(h:okS P m)(g:Q6 m.B1):(Q29 m).w (λr=>Q6 r.B1∧okS P r∧r.Mem=m.Mem∧r.A2=false∧r.A4=m.A4∧r.A3=m.A3∧r.A1=m.A1∧r.A6=m.A6∧r.A7=m.A7∧r.C3=m.C3∧r.A0=m.A0):=by
 obtain⟨h1,h2,h3,h4,h5,h6⟩:=h
 unfold Q29
 refine w_br (λ_=>⟨g,⟨h1,h2,h3,h4,h5,h6⟩,rfl,rfl,rfl,rfl,rfl,rfl,rfl,rfl,rfl⟩) (λ_=>Q0d (Qwk (m:=⟨_,_,_,_,_,_,m.A0,_,_,_⟩) h6) λx0 _=>w_lp (inv:=λz=>0≤z∧z≤5) (μ:=Qdn m) ⟨by omega,by omega⟩ (Nat.lt_succ_self _) (λz hz=> ?_))
 obtain⟨z1,z2⟩:=hz
 refine w_br (λhb=>w_cn (decide_eq_true z1) (w_br (λ_=>w_lv λx1 hx=>⟨by rw[hx];exact Qhl h1 g _ _,⟨by rw[hx];exact Ql5 h1 _ U_0,h2,h3,h4,h5,h6⟩,rfl,rfl,rfl,rfl,rfl,rfl,rfl,rfl,rfl⟩) (λ_=>w_nx ?_))) (λ_=>⟨g,⟨h1,h2,h3,h4,h5,h6⟩,rfl,rfl,rfl,rfl,rfl,rfl,rfl,rfl,rfl⟩)
 have hb:=of_decide_eq_true hb
 show(0≤IntKind.i64.wrap (z+1)∧IntKind.i64.wrap (z+1)≤5)∧(5-IntKind.i64.wrap (z+1)).toNat<(5-z).toNat
 have ew:IntKind.i64.wrap (z+1)=z+1:=by rw[IntKind.wrap_i64];omega
 rw[ew];omega
structure Good(P:Nat)(m r:Q00):Prop where
 ok:okS P r
 cnt:0≤r.A3
 may:Q1d m=true→Q1d r=true
 or:r=m∨r.A3=m.A3+1
theorem step_w0{P:Nat}{m:Q00}(h:okS P m)(hc0:0≤m.A3){clock:Int}(hk:U clock):(Q38 m clock).w (λr=>r.2.length≤1∧Good P m r.1):=by
 have hcl:Q01 m.Mem=m.Mem:=rfl
 unfold Q38
 refine w_an (Q7s h.mem) (w_lv λl hl=> ?_)
 rw[hcl]at hl;subst hl
 refine w_an (Tree.pp (runsP_w (m:=⟨_,_,_,_,_,_,m.A0,_,_,_⟩) h.given)).1 (w_lv λx1 hx1=>w_br (λ_=>⟨Nat.zero_le _,h,hc0,λh=>h, .inl rfl⟩) (λhb=> ?_))
 have hr:Q3j m=true:=by rw[←show x1=Q3j m from hx1];simpa using hb
 obtain⟨hm,hh,hct⟩:=Z77 hr
 obtain⟨g1,g2,g3,g4,g5⟩:=(Qu7 m).1 hm
 have hP:(P:Int)≠0:=by rw[←Q2y h.mem];exact g1
 have fin: ∀(n:Q00),okS P n→Q6 n.B1→Q0r n=true→n.A3=m.A3→ ¬(n.A2=true∧n.A4=true)→Good P m {B1:=n.B1,Mem:=n.Mem,A1:=n.A1,A6:=n.A6,A7:=n.A7,C3:=n.C3,A0:=n.A0,A3:=IntKind.wrap .u64 (n.A3+1),A2:=n.A2,A4:=n.A4}:=λn a b c d e=>by
   have ec:IntKind.wrap .u64 (n.A3+1)=m.A3+1:=by rw[d,IntKind.wrap_u64];omega
   refine⟨⟨a.cpu,a.mem,a.disk,a.nic,a.target,a.given⟩,?_,λ_=>(Qu7 _).2 ⟨?_,b,?_,e,c⟩, .inr ec⟩
   · show 0≤IntKind.wrap .u64 (n.A3+1);omega
   · show Q0l n.Mem≠0;rw[Q2y a.mem];exact hP
   · show IntKind.wrap .u64 (n.A3+1)≤_;omega
 refine Q0d (Z0u (m:=⟨_,_,m.A1,m.A6,m.A7,m.C3,m.A0,m.A3,m.A2,m.A4⟩) ⟨h.cpu,h.mem,h.disk,h.nic,h.target,h.given⟩ g2) λx2 hx2=> ?_
 obtain⟨b1,b2,b3,b4,b5,b6,b7,b8,b9,b10,b11⟩:=hx2
 have ex:=Tree.pp (execP_w b2.cpu b2.mem)
 have em:=Tree.pp (exec_may b2.cpu b1 b2.mem)
 have er:=Tree.pp (Z6f b2.cpu b2.mem)
 refine w_an ex.1 (w_lv λx3 h3=> ?_)
 obtain⟨e1,e2,e3⟩:Q2f x3.1∧Q0q P x3.2.1∧U x3.2.2.Value:=by rw[h3];exact ex.2
 have f1:Q6 x3.1:=by rw[h3];exact em.2
 have r1:0≤x3.2.2.D7∧x3.2.2.D7<16:=by rw[h3];exact er.2
 have ok3:okS P ⟨x3.1,x3.2.1,x2.A1,x2.A6,x2.A7,x2.C3,x2.A0,x2.A3,x2.A2,x2.A4⟩:=⟨e1,e2,b2.disk,b2.nic,b2.target,b2.given⟩
 have dev: ∀(w h:Bool),Q0r ⟨x3.1,x3.2.1,x2.A1,x2.A6,x2.A7,x2.C3,x2.A0,x2.A3,w,h⟩=true:=λw hh=>by
   have id: ∀{p:Prop},p→p:=λh=>h
   refine Qjn (m:=m) (P:=P) h.mem e2 ?_ ?_ ?_ ?_ ?_ g5
   · show _→Q2e x2.A1=true;rw[b7];exact id
   · show _→Q4m x2.A6=true;rw[b8];exact id
   · show _→Q14 x2.A7 P=true;rw[b9];exact id
   · show _→Q5s x2.C3 P=true;rw[b10];exact id
   · show _→Q2p x2.A0 P=true;rw[b11];exact id
 have hw:x2.A2=false:=b4
 have hh2:x2.A4=false:=b5.trans hh
 have hct2:x2.A3=m.A3:=b6
 refine w_br (λ_=> ?_) λ_=>w_br (λ_=> ?_) λ_=>w_br (λ_=> ?_) λ_=>w_br (λ_=> ?_) λ_=> ?_
 · refine Q0d (Z89 ok3 _ hk) λx4 h4=> ?_
   obtain⟨k,u⟩:=h4
   have kc:x4.1.B1=x3.1:=k.cpu
   have kt:x4.1.A3=m.A3:=k.cnt.trans hct2
   have kw: ¬(x4.1.A2=true∧x4.1.A4=true):=λe=>by have:x4.1.A2=x2.A2:=k.wait;rw[this,hw]at e;cases e.1
   have km:Q6 x4.1.B1:=by rw[kc];exact f1
   refine w_br (λhn=>w_cn (rc r1) ⟨Nat.zero_le _,?_⟩) (λ_=>⟨Nat.zero_le _,fin x4.1 k.ok km (k.dev (dev _ _)) kt kw⟩)
   have hn:x3.2.2.D7≠0:=by simpa using hn
   obtain⟨q,e⟩: ∃q:Nat,x3.2.2.D7.toNat=q+1:=⟨x3.2.2.D7.toNat-1,by omega⟩
   refine fin ⟨⟨A16.of 0 (List.set (A16.l x4.1.B1.X) x3.2.2.D7.toNat x4.2),x4.1.B1.Pc,x4.1.B1.B3⟩,x4.1.Mem,x4.1.A1,x4.1.A6,x4.1.A7,x4.1.C3,x4.1.A0,x4.1.A3,x4.1.A2,x4.1.A4⟩ ⟨⟨Z4u k.ok.cpu.x u _,k.ok.cpu.pc,k.ok.cpu.csr⟩,k.ok.mem,k.ok.disk,k.ok.nic,k.ok.target,k.ok.given⟩ ⟨?_,km.st,km.en,km.rt,km.ve⟩ (k.dev (dev _ _)) kt kw
   show(A16.of 0 (List.set (A16.l x4.1.B1.X) x3.2.2.D7.toNat x4.2)).a0=0
   rw[e]
   exact km.x0
 · refine Q0d (Z4v ok3 _ e3 _) λx5 h5=> ?_
   obtain⟨k,u⟩:=h5
   have kc:x5.1.B1=x3.1:=k.cpu
   exact⟨u,fin x5.1 k.ok (by rw[kc];exact f1) (k.dev (dev _ _)) (k.cnt.trans hct2) (λe=>by have:x5.1.A2=x2.A2:=k.wait;rw[this,hw]at e;cases e.1)⟩
 · exact⟨Nat.zero_le _,fin ⟨x3.1,x3.2.1,x2.A1,x2.A6,x2.A7,x2.C3,x2.A0,x2.A3,true,x2.A4⟩ ⟨e1,e2,b2.disk,b2.nic,b2.target,b2.given⟩ f1 (dev _ _) hct2 (λe=>by have e2:x2.A4=true:=e.2;rw[hh2]at e2;cases e2)⟩
 · exact⟨Nat.zero_le _,fin ⟨x3.1,x3.2.1,x2.A1,x2.A6,x2.A7,x2.C3,x2.A0,x2.A3,x2.A2,true⟩ ⟨e1,e2,b2.disk,b2.nic,b2.target,b2.given⟩ f1 (dev _ _) hct2 (λe=>by have e2:x2.A2=true:=e.1;rw[hw]at e2;cases e2)⟩
 · exact⟨Nat.zero_le _,fin ⟨x3.1,x3.2.1,x2.A1,x2.A6,x2.A7,x2.C3,x2.A0,x2.A3,x2.A2,x2.A4⟩ ok3 f1 (dev _ _) hct2 (λe=>by have e2:x2.A2=true:=e.1;rw[hw]at e2;cases e2)⟩
theorem apply_w0{P:Nat}{m:Q00}(h:okM P m){e:Q0m}(he:U e.N):(Q3i m e).w (λr=>(Q1d m=true→Q1d r.1=true)∧r.1.A3=m.A3∧U r.1.A0.B9):=by
 obtain⟨h1,h2,h3,h4,h5,h7⟩:=h
 have hcl:Q01 m.Mem=m.Mem:=rfl
 have pg: ∀{m':List Int},Q0q P m'→Q0l m'=Q0l m.Mem:=λh=>by rw[Q2y h,Q2y h2]
 have keep:(Q1d m=true→Q1d m=true)∧m.A3=m.A3∧U m.A0.B9:=⟨λh=>h,rfl,h5.2⟩
 unfold Q3i
 refine w_an (Q7s h2) (w_lv λl hl=> ?_)
 rw[hcl]at hl;subst hl
 refine Q0d (mayP_w (m:=⟨_,_,_,_,_,_,m.A0,_,_,_⟩) h5.2) λx1 _=>w_br (λ_=>keep) λ_=>w_br (λ_=>keep) λ_=> ?_
 refine w_br (λ_=>w_br (λ_=>w_br (λ_=>w_lv λx hx=> ?_) (λ_=>keep)) (λ_=>keep)) λ_=>w_br (λ_=>w_br (λ_=>w_br (λ_=>Q0d (ctype_w _ _) λx hx=> ?_) (λ_=>keep)) (λ_=>keep)) λ_=>w_br (λhk=>Q0d (Z83 h2 h3 e) λx hx=> ?_) λ_=>w_br (λhk=>w_br (λ_=>Q0d (receive_w h2 h4 _) λx hx=> ?_) (λ_=>keep)) λ_=>w_br (λ_=>w_br (λ_=> ?_) (λ_=>keep)) (λ_=>keep)
 · exact⟨Qmp rfl rfl rfl rfl rfl (λh=>h) (λh=>by rw[hx];exact fire_may _ h) (λ_ h=>h) (λ_ h=>h) rfl,rfl,h5.2⟩
 · exact⟨Qmp rfl rfl rfl rfl rfl hx (λh=>h) (λ_ h=>h) (λ_ h=>h) rfl,rfl,h5.2⟩
 · obtain⟨a1,a2,a3,a4,a5⟩:=hx
   exact⟨Qmp (pg a2) rfl rfl rfl rfl (λh=>h) (λh=>h) a5 (λ_ h=>h) rfl,rfl,h5.2⟩
 · obtain⟨a1,a2,a3,a4,a5⟩:=hx
   exact⟨Qmp (pg a2) rfl rfl rfl rfl (λh=>h) (λh=>h) (λ_ h=>h) a5 rfl,rfl,h5.2⟩
 · exact⟨Qmp rfl rfl rfl rfl rfl (λh=>h) (λh=>h) (λ_ h=>h) (λ_ h=>h) rfl,rfl,h5.2⟩
structure okW(m:Q00):Prop where
 cpu:Q2f m.B1
 u: ∀w∈m.Mem,U w
 len:m.Mem.length≤1024
 disk:Q79 m.A7
 nic:Qf2 m.C3
 bal:okB m.A0
 cnt:0≤m.A3
theorem Qo0{a:Int}(h:U a):(BitVec.ofInt 32 a).toNat=a.toNat:=by
 obtain⟨h1,h2⟩:=h
 rw[BitVec.toNat_ofInt];omega
theorem Z5t{a b:Int}(ha:U a)(hb:U b):iand .u32 a b=((a.toNat&&&b.toNat:Nat):Int):=by
 have l:=(BitVec.ofInt 32 a&&&BitVec.ofInt 32 b).isLt
 have e:(BitVec.ofInt 32 a&&&BitVec.ofInt 32 b).toNat=a.toNat&&&b.toNat:=by rw[BitVec.toNat_and,Qo0 ha,Qo0 hb]
 show IntKind.wrap .u32 ((BitVec.ofInt 32 a&&&BitVec.ofInt 32 b).toNat:Int)=_
 rw[IntKind.wrap_u32,←e];omega
theorem or_nat{a b:Int}(ha:U a)(hb:U b):ior .u32 a b=((a.toNat|||b.toNat:Nat):Int):=by
 have l:=(BitVec.ofInt 32 a|||BitVec.ofInt 32 b).isLt
 have e:(BitVec.ofInt 32 a|||BitVec.ofInt 32 b).toNat=a.toNat|||b.toNat:=by rw[BitVec.toNat_or,Qo0 ha,Qo0 hb]
 show IntKind.wrap .u32 ((BitVec.ofInt 32 a|||BitVec.ofInt 32 b).toNat:Int)=_
 rw[IntKind.wrap_u32,←e];omega
theorem Z05{a:Int}(ha:U a)(k:Nat)(hk:k≤32){q:Int}(hq:q=((2^k-1:Nat):Int)):iand .u32 a q=a%2^k:=by
 have hp:2^k≤2^32:=Nat.pow_le_pow_right (by decide) hk
 have h1:(2:Nat)^32=4294967296:=by decide
 have hpos:=Nat.two_pow_pos k
 subst hq
 rw[Z5t ha ⟨by omega,by omega⟩,Int.toNat_natCast,Nat.and_two_pow_sub_one_eq_mod]
 have:=ha.1
 rw[Int.natCast_emod,Int.toNat_of_nonneg this]
 simp
theorem m15{a:Int}(ha:U a):iand .u32 a 15=a%16:=Z05 ha 4 (by decide) rfl
theorem m255{a:Int}(ha:U a):iand .u32 a 255=a%256:=Z05 ha 8 (by decide) rfl
theorem m65535{a:Int}(ha:U a):iand .u32 a 65535=a%65536:=Z05 ha 16 (by decide) rfl
theorem Qmy(p:Int→Bool)(N:Nat)(h:(List.range N).all (λn=>p n)=true){s:Int}(h0:0≤s)(h1:s<N):p s=true:=by
 have:=List.all_eq_true.1 h s.toNat (List.mem_range.2 (by omega))
 rwa [Int.toNat_of_nonneg h0]at this
theorem w64{x:Int}(h0: -9223372036854775808≤x)(h1:x<9223372036854775808):IntKind.wrap .i64 x=x:=by rw[IntKind.wrap_i64];omega
theorem shr0(a:Int):ishr .u32 a 0=a:=by have:=Qkv (a:=a) 0 (by decide);simpa using this
theorem fld(w:Int):Q2k w 24 8=iand .u32 (ishr .u32 w 24) 255∧Q2k w 20 4=iand .u32 (ishr .u32 w 20) 15∧Q2k w 16 4=iand .u32 (ishr .u32 w 16) 15∧Q2k w 0 16=iand .u32 (ishr .u32 w 0) 65535∧Q2k w 8 8=iand .u32 (ishr .u32 w 8) 255:=
 ⟨by kernel_rfl,by kernel_rfl,by kernel_rfl,by kernel_rfl,by kernel_rfl⟩
def useOf(f:Int):Q76×Bool:=
 bif f==1 then(⟨false,false,false,0,0⟩,true) else bif f==2 then(⟨true,true,true,0,0⟩,true) else bif f==3 then(⟨true,true,false,-32768,32767⟩,true)
 else bif f==4 then(⟨true,true,false,0,65535⟩,true) else bif f==5 then(⟨true,true,false,0,31⟩,true) else bif f==6 then(⟨true,false,false,0,65535⟩,true)
 else bif f==7 then(⟨true,false,false,-32768,32767⟩,true) else bif f==8 then(⟨true,false,false,0,7⟩,true) else bif f==9 then(⟨true,false,false,0,11⟩,true) else(⟨false,false,false,0,0⟩,false)
def sameU(x y:Q76×Bool):Bool:=x.1.a==y.1.a&&x.1.b==y.1.b&&x.1.c==y.1.c&&x.1.low==y.1.low&&x.1.D0==y.1.D0&&x.2==y.2
theorem sameU_eq{x y:Q76×Bool}(h:sameU x y=true):x=y:=by
 obtain⟨⟨a,b,c,d,e⟩,f⟩:=x
 obtain⟨⟨a',b',c',d',e'⟩,f'⟩:=y
 simp only[sameU,Bool.and_eq_true,beq_iff_eq]at h
 obtain⟨⟨⟨⟨⟨rfl,rfl⟩,rfl⟩,rfl⟩,rfl⟩,rfl⟩:=h
 rfl
theorem use_eq{op:Int}(h0:0≤op)(h1:op<256):Qty op=useOf (Q1v op):=by
 exact sameU_eq (Qmy (λop=>sameU (Qty op) (useOf (Q1v op))) 256 (by kernel_rfl) h0 h1)
theorem form_le{op:Int}(h0:0≤op)(h1:op<256):Q1v op=0∨Q1v op=1∨Q1v op=2∨Q1v op=3∨Q1v op=4∨Q1v op=5∨Q1v op=6∨Q1v op=7∨Q1v op=8∨Q1v op=9:=by
 have:=of_decide_eq_true (Qmy (λop=>decide (0≤Q1v op∧Q1v op≤9)) 256 (by kernel_rfl) h0 h1)
 omega
theorem priv_eq{op:Int}(h0:0≤op)(h1:op<256):Q72 op=Q5p op:=by
 exact eq_of_beq (Qmy (λop=>Q72 op==Q5p op) 256 (by kernel_rfl) h0 h1)
theorem cond_iff{a x y:Bool}:(cond a x y=true)↔((a=true∧x=true)∨(a=false∧y=true)):=by cases a<;>simp
theorem Qzk{i:Q0e}(h0:0≤i.Op)(h1:i.Op<256)(hi:IntKind.wrap .i64 i.Imm=i.Imm):Qc5 i=Q6y i:=by
 rw[Bool.eq_iff_iff]
 simp only[Qc5,Qds,Tree.m,letv,Q6y,Qbj,use_eq h0 h1,hi]
 rcases form_le h0 h1 with h|h|h|h|h|h|h|h|h|h<;>rw[h]<;>
 simp [useOf,Q7w,Qbe,Q69,Qa1,Qhk,Qhp,Tree.m,letv,cond_iff]<;>omega
theorem sx16{x:Int}(h0:0≤x)(h1:x<65536):IntKind.wrap .i32 (Q1t x 16)=IntKind.wrap .i32 (IntKind.wrap .i16 x):=by
 have e:Q1t x 16=IntKind.wrap .u32 (ishr .i32 (IntKind.wrap .i32 (ishl .u32 x 16)) 16):=by kernel_rfl
 have e2: ∀y,ishr .i32 y 16=y/65536:=λy=>by
   show Int.fdiv y 65536=_
   rw[Int.fdiv_eq_ediv_of_nonneg _ (by decide)]
 have e3:ishl .u32 x 16=IntKind.wrap .u32 (x*65536):=rfl
 have e4:IntKind.wrap .i16 x=(x+32768)%65536-32768:=by
   simp [IntKind.wrap,IntKind.bits,IntKind.signed]
   split<;>omega
 rw[e,e2,e3,e4]
 simp only[IntKind.wrap_i32,IntKind.wrap_u32]
 omega
theorem sx8{x:Int}(h0:0≤x)(h1:x<256):Q1t x 8=Q39 x 8:=by
 exact eq_of_beq (Qmy (λx=>Q1t x 8==Q39 x 8) 256 (by kernel_rfl) h0 h1)
theorem decode_eq{w:Int}(hw:U w):Qdm w=Q3z w:=by
 obtain⟨f1,f2,f3,f4,_⟩:=fld w
 obtain⟨w0,w1⟩:=hw
 have s24:ishr .u32 w 24=w/16777216:=by have:=Qkv (a:=w) 24 (by decide);simpa using this
 have s20:U (ishr .u32 w 20):=Qog ⟨w0,w1⟩ _
 have s16:U (ishr .u32 w 16):=Qog ⟨w0,w1⟩ _
 rw[m255 (Qog ⟨w0,w1⟩ _),s24]at f1
 rw[m15 s20]at f2
 rw[m15 s16]at f3
 rw[shr0]at f4
 have g1:w/16777216%256=w/16777216:=by omega
 rw[g1]at f1
 have o0:0≤w/16777216:=by omega
 have o1:w/16777216<256:=by omega
 have eo:IntKind.wrap .i64 (w/16777216)=w/16777216:=w64 (by omega) (by omega)
 have i32: ∀x,IntKind.wrap .i64 (IntKind.wrap .i32 x)=IntKind.wrap .i32 x:=λx=>by rw[IntKind.wrap_i64,IntKind.wrap_i32];omega
 have l0:=m65535 ⟨w0,w1⟩
 have lx:=sx16 (x:=iand .u32 w 65535) (by omega) (by omega)
 simp only[Qdm,Q4a,Q3z,Q9q,Tree.m,letv,f1,f2,f3,f4,s24,eo,use_eq o0 o1,m15 s20,m15 s16,lx]
 generalize w/16777216=op at*
 generalize IntKind.wrap .i64 (ishr .u32 w 20%16)=a
 generalize IntKind.wrap .i64 (ishr .u32 w 16%16)=b
 generalize iand .u32 w 65535=l
 rw[Qzk (i:=⟨op,a,b,IntKind.wrap .i64 l,0⟩) o0 o1 rfl,Qzk (i:=⟨op,a,b,0,IntKind.wrap .i32 (IntKind.wrap .i16 l)⟩) o0 o1 (i32 _),Qzk (i:=⟨op,a,b,0,IntKind.wrap .i32 l⟩) o0 o1 (i32 _)]
 rcases form_le o0 o1 with h|h|h|h|h|h|h|h|h|h<;>rw[h]<;>rfl
theorem put_nat(x v:BitVec 32)(s:Nat)(hs:s≤24):((x&&&~~~(255#32<<<s))|||((v&&&255#32)<<<s)).toNat=2^(s+8)*(x.toNat/2^(s+8))+(2^s*(v.toNat%256)+x.toNat%2^s):=by
  have hx:=x.isLt
  have h1:x.toNat%2^s<2^s:=Nat.mod_lt _ (Nat.two_pow_pos s)
  have h2:2^s*(v.toNat%256)+x.toNat%2^s<2^(s+8):=by
    have:v.toNat%256<256:=Nat.mod_lt _ (by decide)
    have h3:2^s*(v.toNat%256)≤2^s*255:=Nat.mul_le_mul_left _ (by omega)
    have:2^(s+8)=2^s*256:=by rw[Nat.pow_add]
    omega
  rw[Nat.two_pow_add_eq_or_of_lt h2,Nat.two_pow_add_eq_or_of_lt h1]
  apply Nat.eq_of_testBit_eq
  intro i
  rw[BitVec.testBit_toNat]
  simp only[BitVec.getLsbD_or,BitVec.getLsbD_and,BitVec.getLsbD_not,BitVec.getLsbD_shiftLeft,Nat.testBit_or,Nat.testBit_two_pow_mul,Nat.testBit_mod_two_pow,Nat.testBit_div_two_pow,BitVec.getLsbD_ofNat]
  have e255: ∀j,Nat.testBit 255 j=decide (j<8):=λj=>by
    rw[show 255=2^8-1 from rfl,Nat.testBit_two_pow_sub_one]
  have e256: ∀n j,Nat.testBit (n%256) j=(decide (j<8)&&Nat.testBit n j):=λn j=>by
    rw[show 256=2^8 from rfl,Nat.testBit_mod_two_pow]
  rw[e255,e256]
  by_cases hi:i<32
  · by_cases a1:i<s
    · have a2: ¬(s≤i):=by omega
      have a3: ¬(s+8≤i):=by omega
      simp [hi,a1,a2,a3,BitVec.getLsbD]
    · by_cases a4:s+8≤i
      · have a2: ¬(i-s<8):=by omega
        have a5:i-(s+8)+(s+8)=i:=by omega
        have a6:s≤i:=by omega
        simp [hi,a1,a2,a4,a5,a6,BitVec.getLsbD]
      · have a2:(i-s<8):=by omega
        have a6:s≤i:=by omega
        have a7:i-s<32:=by omega
        simp [hi,a1,a2,a4,a6,a7,BitVec.getLsbD]
  · have a0:x.toNat.testBit i=false:=Nat.testBit_lt_two_pow (Nat.lt_of_lt_of_le hx (Nat.pow_le_pow_right (by decide) (by omega)))
    have a1: ¬(i<s):=by omega
    have a2: ¬(i-s<8):=by omega
    have a4:s+8≤i:=by omega
    have a5:i-(s+8)+(s+8)=i:=by omega
    simp [hi,a0,a1,a2,a4,a5]
theorem Qw1(b:BitVec 32):BitVec.ofInt 32 (IntKind.wrap .u32 (b.toNat:Int))=b:=by
 have:=b.isLt
 rw[IntKind.wrap_u32]
 apply BitVec.eq_of_toNat_eq
 rw[BitVec.toNat_ofInt];omega
theorem Z86(x:Int):BitVec.ofInt 32 (IntKind.wrap .u32 x)=BitVec.ofInt 32 x:=by
 apply BitVec.eq_of_toNat_eq
 rw[BitVec.toNat_ofInt,BitVec.toNat_ofInt,IntKind.wrap_u32]
 have:((2^32:Nat):Int)=4294967296:=by decide
 rw[this,Int.emod_emod_of_dvd _ (Int.dvd_refl _)]
theorem Z2{x:Int}(hx:U x)(s:Nat)(hs:s≤32):BitVec.ofInt 32 (ishl .u32 x s)=BitVec.ofInt 32 x<<<s:=by
 obtain⟨n,rfl⟩: ∃n:Nat,x=n:=⟨x.toNat,by have:=hx.1;omega⟩
 have e:min (Int.toNat (s:Int)) IntKind.u32.bits=s:=by show min (Int.toNat (s:Int)) 32=s;omega
 unfold ishl
 rw[e,Z86]
 have e2:((n:Int)*2^s)=((n*2^s:Nat):Int):=by simp
 have:=hx.2
 rw[e2,BitVec.ofInt_natCast,BitVec.ofInt_natCast]
 apply BitVec.eq_of_toNat_eq
 rw[BitVec.toNat_shiftLeft,BitVec.toNat_ofNat,BitVec.toNat_ofNat,Nat.shiftLeft_eq,Nat.mod_mul_mod]
def putW(W v:Int)(s:Nat):Int:=ior .u32 (Qdf .u32 W (ishl .u32 255 s)) (ishl .u32 (iand .u32 v 255) s)
theorem put_num{W v:Int}(hW:U W)(hv:U v)(s:Nat)(hs:s≤24):putW W v s=2^(s+8)*(W/2^(s+8))+(2^s*(v%256)+W%2^s):=by
 have e:=put_nat (BitVec.ofInt 32 W) (BitVec.ofInt 32 v) s hs
 have l:=((BitVec.ofInt 32 W&&&~~~(255#32<<<s))|||((BitVec.ofInt 32 v&&&255#32)<<<s)).isLt
 have h1:BitVec.ofInt 32 (Qdf .u32 W (ishl .u32 255 s))=BitVec.ofInt 32 W&&&~~~(255#32<<<s):=by
   show BitVec.ofInt 32 (IntKind.wrap .u32 (BitVec.ofInt 32 W&&&~~~BitVec.ofInt 32 (ishl .u32 255 s)).toNat)=_
   rw[Qw1,Z2 ⟨by decide,by decide⟩ s (by omega)]
   rfl
 have h2:BitVec.ofInt 32 (ishl .u32 (iand .u32 v 255) s)=(BitVec.ofInt 32 v&&&255#32)<<<s:=by
   rw[Z2 (Z4z _ _) s (by omega)]
   congr 1
   show BitVec.ofInt 32 (IntKind.wrap .u32 (BitVec.ofInt 32 v&&&BitVec.ofInt 32 255).toNat)=_
   rw[Qw1];rfl
 show IntKind.wrap .u32 ((BitVec.ofInt 32 (Qdf .u32 W (ishl .u32 255 s))|||BitVec.ofInt 32 (ishl .u32 (iand .u32 v 255) s)).toNat:Int)=_
 rw[h1,h2]
 have lw:IntKind.wrap .u32 ((((BitVec.ofInt 32 W&&&~~~(255#32<<<s))|||((BitVec.ofInt 32 v&&&255#32)<<<s)).toNat:Nat):Int)=(((BitVec.ofInt 32 W&&&~~~(255#32<<<s))|||((BitVec.ofInt 32 v&&&255#32)<<<s)).toNat:Nat):=by rw[IntKind.wrap_u32];omega
 rw[lw,e,Qo0 hW,Qo0 hv]
 obtain⟨n,rfl⟩: ∃n:Nat,W=n:=⟨W.toNat,by have:=hW.1;omega⟩
 obtain⟨k,rfl⟩: ∃n:Nat,v=n:=⟨v.toNat,by have:=hv.1;omega⟩
 simp
def dig(w:Int)(k:Nat):Int:=if k=0 then w%256 else if k=1 then w/256%256 else if k=2 then w/65536%256 else w/16777216%256
def byt(m:List Int)(a:Nat):Int:=dig (m.getD (a/4) 0) (a%4)
theorem dig_lt(w:Int)(k:Nat):0≤dig w k∧dig w k<256:=by
 unfold dig
 split
 · omega
 · split
   · omega
   · split<;>omega
theorem dig_ext{w v:Int}(hw:U w)(hv:U v)(h: ∀k,k<4→dig w k=dig v k):w=v:=by
 have h0:=h 0 (by omega)
 have h1:=h 1 (by omega)
 have h2:=h 2 (by omega)
 have h3:=h 3 (by omega)
 simp [dig]at h0 h1 h2 h3
 obtain⟨a,b⟩:=hw
 obtain⟨c,d⟩:=hv
 omega
theorem Z4n{m n:List Int}(hl:m.length=n.length)(hm: ∀w∈m,U w)(hn: ∀w∈n,U w)(h: ∀a,byt m a=byt n a):m=n:=by
 refine List.ext_getElem hl λi h1 h2=> ?_
 have e1:m[i]=m.getD i 0:=by simp [List.getD,h1]
 have e2:n[i]=n.getD i 0:=by simp [List.getD,h2]
 rw[e1,e2]
 refine dig_ext (Qg2 hm i) (Qg2 hn i) λk hk=> ?_
 have:=h (4*i+k)
 simp only[byt]at this
 rwa [show(4*i+k)/4=i by omega,show(4*i+k)%4=k by omega]at this
theorem Qlz{l:List Int}{i:Nat}(h:i<l.length)(v:Int):(l.set i v).getD i 0=v:=by
 simp [List.getD,h]
theorem Z4o{m:List Int}{i:Nat}(hi:i<m.length)(v:Int)(a:Nat):byt (m.set i v) a=if a/4=i then dig v (a%4) else byt m a:=by
 unfold byt
 split
 · rename_i h;rw[h,Qlz hi]
 · rename_i h;rw[getDset _ _ _ _ (λe=>h e.symm)]
theorem put_dig{W v:Int}(hW:U W)(hv:U v){j:Nat}(hj:j<4){k:Nat}(hk:k<4):dig (putW W v (8*j)) k=if k=j then v%256 else dig W k:=by
 have h:=put_num hW hv (8*j) (by omega)
 rw[h]
 obtain⟨w0,w1⟩:=hW
 have h0:0≤v%256:=by omega
 have h1:v%256<256:=by omega
 generalize v%256=b at*
 clear h
 have hj:j=0∨j=1∨j=2∨j=3:=by omega
 have hk:k=0∨k=1∨k=2∨k=3:=by omega
 rcases hj with rfl|rfl|rfl|rfl<;>rcases hk with rfl|rfl|rfl|rfl<;>simp [dig]<;>omega
theorem puts_eq{m:List Int}{a v:Int}(ha:U a):Q8y m a 1 v=m.set (a/4).toNat (putW (m.getD (a/4).toNat 0) v (8*(a%4).toNat)):=by
 obtain⟨a0,a1⟩:=ha
 have e1:IntKind.wrap .u32 (Int.tdiv a 4)=a/4:=by rw[IntKind.wrap_u32,Int.tdiv_eq_ediv_of_nonneg a0];omega
 have e2:IntKind.wrap .u32 (8*Int.tmod a 4)=((8*(a%4).toNat:Nat):Int):=by rw[IntKind.wrap_u32,Int.tmod_eq_emod_of_nonneg a0];omega
 have e3:((1:Int)==4)=false:=rfl
 simp only[Q8y,Qdj,Tree.m,e1,e2,e3,cond_false]
 rfl
theorem puts_byte{P:Nat}{m:List Int}(h:Q0q P m){a v:Int}(ha:U a)(hl:a<128*P)(hv:U v):Q0q P (Q8y m a 1 v)∧ ∀b:Nat,byt (Q8y m a 1 v) b=if(b:Int)=a then v%256 else byt m b:=by
 have hlen:=h.len
 have a0:=ha.1
 rw[puts_eq ha]
 have hi:(a/4).toNat<m.length:=by omega
 refine⟨⟨by rw[List.length_set];exact hlen,h.p1,h.p2,Qvk h.u (U_or _ _) _⟩,λb=> ?_⟩
 rw[Z4o hi]
 by_cases hb:b/4=(a/4).toNat
 · rw[if_pos hb,put_dig (Qg2 h.u _) hv (by omega) (by omega)]
   by_cases hc:b%4=(a%4).toNat
   · rw[if_pos hc,if_pos (by omega)]
   · rw[if_neg hc,if_neg (by omega),byt,hb]
 · rw[if_neg hb,if_neg (by omega)]
theorem fill_b{P:Nat}{m:List Int}(h:Q0q P m){frame:Int}(f0:0≤frame)(f1:frame<P)(s:List UInt8):(Q93 m frame s).w (λr=>Q0q P r∧ ∀b:Nat,byt r b=if frame*128≤b∧(b:Int)<frame*128+min s.length 128 then((s.getD (b-frame*128).toNat 0).toNat:Int) else byt m b):=by
 unfold Q93
 have h3:=h.p2
 refine w_lp (inv:=λz=>0≤z.1∧z.1≤min s.length 128∧Q0q P z.2∧ ∀b:Nat,byt z.2 b=if frame*128≤b∧(b:Int)<frame*128+z.1 then((s.getD (b-frame*128).toNat 0).toNat:Int) else byt m b) (μ:=Qe3 m frame s) ⟨show(0:Int)≤0 by decide,by show(0:Int)≤_;omega,h,λb=>by rw[if_neg];show¬(_∧_<_+(0:Int));omega⟩ (Nat.lt_succ_self _) (λv0 hv0=> ?_)
 obtain⟨i,mm⟩:=v0
 obtain⟨i0,i1,hm,hy⟩:=hv0
 have i0:0≤i:=i0
 have i1:i≤min s.length 128:=i1
 have hm:Q0q P mm:=hm
 have fin: ∀r:List Int,r=mm→i=min s.length 128→Q0q P r∧ ∀b:Nat,byt r b=if frame*128≤b∧(b:Int)<frame*128+min s.length 128 then((s.getD (b-frame*128).toNat 0).toNat:Int) else byt m b:=λr hr hi=>by
   subst hr;refine⟨hm,λb=> ?_⟩
   rw[hy b];simp only[hi]
 refine w_br (λh1=>w_br (λh2=>w_cn ?_ ?_) (λh2=>fin mm rfl ?_)) (λh1=>fin mm rfl ?_)
 · have:=of_decide_eq_true h1
   simp [Nat.blt];omega
 · have h1:i<s.length:=of_decide_eq_true h1
   have h2:i<128:=of_decide_eq_true h2
   have e:IntKind.wrap IntKind.u32 (IntKind.wrap IntKind.i64 (IntKind.wrap IntKind.i64 (frame*128)+i))=frame*128+i:=by
     rw[IntKind.wrap_u32,IntKind.wrap_i64,IntKind.wrap_i64];omega
   show(Tree.an (Qfh mm (IntKind.wrap IntKind.u32 (IntKind.wrap IntKind.i64 (IntKind.wrap IntKind.i64 (frame*128)+i))) 1 _) (Tree.lv _ _)).w _
   rw[e]
   have hu:U (frame*128+i):=⟨by omega,by omega⟩
   have hvU: ∀n:Nat,U (IntKind.wrap .u32 (n:Int)):=λn=>Q0g _
   obtain⟨g1,_⟩:=Tree.pp (put_w hm (size:=1) (addr:=frame*128+i) hu (by rw[hm.len];omega) (hvU (UInt8.toNat (s.getD i.toNat 0))))
   obtain⟨g2,g3⟩:=puts_byte hm hu (by omega) (hvU (UInt8.toNat (s.getD i.toNat 0)))
   refine w_an g1 (w_lv λx0 hx0=> ?_)
   rw[hx0]
   have ew:IntKind.i64.wrap (i+1)=i+1:=by rw[IntKind.wrap_i64];omega
   refine w_nx ?_
   show(0≤IntKind.i64.wrap (i+1)∧IntKind.i64.wrap (i+1)≤min s.length 128∧Q0q P _∧ ∀b:Nat,byt _ b=if frame*128≤b∧(b:Int)<frame*128+IntKind.i64.wrap (i+1) then _ else _)∧(128-IntKind.i64.wrap (i+1)).toNat<(128-i).toNat
   rw[ew]
   refine⟨⟨by omega,by omega,g2,λb=> ?_⟩,by omega⟩
   rw[show Q8y mm (frame*128+i) 1 _=_ from rfl,g3 b]
   by_cases hb:(b:Int)=frame*128+i
   · rw[if_pos hb,if_pos (by omega),IntKind.wrap_u32]
     have:=(s.getD i.toNat 0).toNat_lt
     rw[show(b-frame*128).toNat=i.toNat by omega];omega
   · rw[if_neg hb,hy b]
     show(if frame*128≤(b:Int)∧(b:Int)<frame*128+i then _ else _)=_
     by_cases hc:frame*128≤(b:Int)∧(b:Int)<frame*128+i
     · rw[if_pos hc,if_pos (by omega)]
     · rw[if_neg hc,if_neg (by omega)]
 · have h1:i<s.length:=of_decide_eq_true h1
   have h2: ¬i<128:=of_decide_eq_false h2
   omega
 · have h1: ¬i<s.length:=of_decide_eq_false h1
   omega
theorem or_add{x y:Int}(hx:U x)(hy:U y)(k:Nat)(hk:x<2^k)(h:x+y*2^k<4294967296):ior .u32 x (y*2^k)=x+y*2^k:=by
 obtain⟨n,rfl⟩: ∃n:Nat,x=n:=⟨x.toNat,by have:=hx.1;omega⟩
 obtain⟨z,rfl⟩: ∃n:Nat,y=n:=⟨y.toNat,by have:=hy.1;omega⟩
 have e:((z:Int)*2^k)=((z*2^k:Nat):Int):=by simp
 rw[e]at h⊢
 have hn:n<2^k:=by exact_mod_cast hk
 rw[or_nat hx ⟨by omega,by omega⟩,Int.toNat_natCast,Int.toNat_natCast,Nat.or_comm,Nat.mul_comm,←Nat.two_pow_add_eq_or_of_lt hn]
 omega
theorem four{a b c d:Int}(ha:0≤a∧a<256)(hb:0≤b∧b<256)(hc:0≤c∧c<256)(hd:0≤d∧d<256):ior .u32 (ior .u32 (ior .u32 (IntKind.wrap .u32 a) (ishl .u32 (IntKind.wrap .u32 b) 8)) (ishl .u32 (IntKind.wrap .u32 c) 16)) (ishl .u32 (IntKind.wrap .u32 d) 24)=a+b*2^8+c*2^16+d*2^24:=by
 have w: ∀{x:Int},0≤x∧x<256→IntKind.wrap .u32 x=x:=λhx=>by rw[IntKind.wrap_u32];omega
 have s8: ∀{x:Int},0≤x∧x<256→ishl .u32 x 8=x*2^8:=fun{x} hx=>by show IntKind.wrap .u32 (x*2^8)=_;rw[IntKind.wrap_u32];omega
 have s16: ∀{x:Int},0≤x∧x<256→ishl .u32 x 16=x*2^16:=fun{x} hx=>by show IntKind.wrap .u32 (x*2^16)=_;rw[IntKind.wrap_u32];omega
 have s24: ∀{x:Int},0≤x∧x<256→ishl .u32 x 24=x*2^24:=fun{x} hx=>by show IntKind.wrap .u32 (x*2^24)=_;rw[IntKind.wrap_u32];omega
 rw[w ha,w hb,w hc,w hd,s8 hb,s16 hc,s24 hd]
 rw[or_add ⟨by omega,by omega⟩ ⟨by omega,by omega⟩ 8 (by omega) (by omega),or_add ⟨by omega,by omega⟩ ⟨by omega,by omega⟩ 16 (by omega) (by omega),or_add ⟨by omega,by omega⟩ ⟨by omega,by omega⟩ 24 (by omega) (by omega)]
theorem four_dig{a b c d:Int}(ha:0≤a∧a<256)(hb:0≤b∧b<256)(hc:0≤c∧c<256)(hd:0≤d∧d<256)(k:Nat)(hk:k<4):dig (a+b*2^8+c*2^16+d*2^24) k=if k=0 then a else if k=1 then b else if k=2 then c else d:=by
 have hk:k=0∨k=1∨k=2∨k=3:=by omega
 rcases hk with rfl|rfl|rfl|rfl<;>simp [dig]<;>omega
theorem Qxz{P:Nat}{m:List Int}(h:Q0q P m)(f:Int):Q46 m f=decide (0≤f∧f<P):=by
 have hp:=Q2y h
 simp only[Q46,Q6p,Tree.m,letv,hp]
 by_cases h1:0≤f
 · rw[decide_eq_true h1];simp [h1]
 · rw[decide_eq_false h1];simp [h1]
theorem getD_cut(s:List UInt8)(a b k:Nat)(h:k<b):(List.take b (List.drop a s)).getD k 0=s.getD (a+k) 0:=by
 simp [List.getD_eq_getElem?_getD,List.getElem?_take,h]
theorem u8I(x:UInt8):0≤(x.toNat:Int)∧(x.toNat:Int)<256:=by have:=x.toNat_lt;omega
theorem Qt7{P:Nat}{m:List Int}(h:Q0q P m){f:Int}(f0:0≤f)(f1:f<P){s:List UInt8}(hs:s.length=128):(Q1x m f s).w (λr=>r.2=true∧Q0q P r.1∧ ∀b:Nat,byt r.1 b=if f*128≤b∧(b:Int)<f*128+128 then((s.getD (b-f*128).toNat 0).toNat:Int) else byt m b):=by
  have hcl:Q01 m=m:=rfl
  have h2:=h.p2
  unfold Q1x
  refine w_an (Q7s h) (w_lv λx0 hx0=>w_lv λx1 hx1=> ?_)
  rw[hcl]at hx0;subst hx0
  rw[Qxz h,decide_eq_true ⟨f0,f1⟩]at hx1
  subst hx1
  refine w_br (λhb=>by cases hb) λ_=>w_br (λhb=>by simp [hs]at hb) λ_=> ?_
  refine w_lp (inv:=λz:Int×List Int=>0≤z.1∧z.1≤32∧Q0q P z.2∧ ∀b:Nat,byt z.2 b=if f*128≤b∧(b:Int)<f*128+4*z.1 then((s.getD (b-f*128).toNat 0).toNat:Int) else byt x0 b) (μ:=Q8h x0 f s) ⟨show(0:Int)≤0 by decide,show(0:Int)≤32 by decide,h,λb=>by rw[if_neg];show¬(_∧_<_+4*(0:Int));omega⟩ (Nat.lt_succ_self _) λz ⟨z1,z2,z3,z4⟩=> ?_
  refine w_br (λhb=> ?_) (λhb=>⟨rfl,z3,λb=> ?_⟩)
  · have hb:=of_decide_eq_true hb
    have e1:IntKind.i64.wrap (4*z.1)=4*z.1:=by rw[IntKind.wrap_i64];omega
    have e2:IntKind.i64.wrap (IntKind.i64.wrap (4*z.1)+4)=4*z.1+4:=by rw[IntKind.wrap_i64,IntKind.wrap_i64];omega
    have e3:IntKind.i64.wrap (IntKind.i64.wrap (f*32)+z.1)=f*32+z.1:=by rw[IntKind.wrap_i64,IntKind.wrap_i64];omega
    have hl:=z3.len
    have cut:Int.toNat (IntKind.i64.wrap (IntKind.i64.wrap (4*z.1)+4))-Int.toNat (IntKind.i64.wrap (4*z.1))=4:=by rw[e2,e1];omega
    have hlen:(List.take (Int.toNat (IntKind.i64.wrap (IntKind.i64.wrap (4*z.1)+4))-Int.toNat (IntKind.i64.wrap (4*z.1))) (List.drop (Int.toNat (IntKind.i64.wrap (4*z.1))) s)).length=4:=by
      rw[cut,e1,List.length_take,List.length_drop];omega
    refine w_cn (decide_eq_true (by rw[e2,e1];omega)) ?_
    refine w_cn (decide_eq_true (by rw[hlen];decide)) (w_cn (decide_eq_true (by rw[hlen];decide)) (w_cn (decide_eq_true (by rw[hlen];decide)) (w_cn (decide_eq_true (by rw[hlen];decide)) (w_cn (by rw[e3];simp [Nat.blt];omega) (w_nx ?_)))))
    have ew:IntKind.i64.wrap (z.1+1)=z.1+1:=by rw[IntKind.wrap_i64];omega
    rw[cut]
    refine⟨⟨by show 0≤IntKind.i64.wrap (z.1+1);rw[ew];omega,by show IntKind.i64.wrap (z.1+1)≤32;rw[ew];omega,?_,?_⟩,by show(32-IntKind.i64.wrap (z.1+1)).toNat<(32-z.1).toNat;rw[ew];omega⟩
    · show Q0q P (List.set _ _ _)
      exact⟨by rw[List.length_set];exact hl,z3.p1,z3.p2,Qvk z3.u (U_or _ _) _⟩
    · intro b
      show byt (List.set z.2 (Int.toNat (IntKind.i64.wrap (IntKind.i64.wrap (f*32)+z.1))) _) b=if f*128≤(b:Int)∧(b:Int)<f*128+4*IntKind.i64.wrap (z.1+1) then _ else _
      rw[e3,ew,four (u8I _) (u8I _) (u8I _) (u8I _),Z4o (by omega)]
      have g: ∀k:Nat,k<4→(List.take 4 (List.drop (Int.toNat (IntKind.i64.wrap (4*z.1))) s)).getD k 0=s.getD ((4*z.1).toNat+k) 0:=λk hk=>by rw[e1];exact getD_cut _ _ _ _ hk
      by_cases hc:b/4=(f*32+z.1).toNat
      · have hin:f*128≤(b:Int)∧(b:Int)<f*128+4*(z.1+1):=by omega
        rw[if_pos hc,four_dig (u8I _) (u8I _) (u8I _) (u8I _) _ (by omega),if_pos hin]
        have hb4:b%4=0∨b%4=1∨b%4=2∨b%4=3:=by omega
        have gi:(b-f*128).toNat=(4*z.1).toNat+b%4:=by omega
        rw[gi]
        rcases hb4 with h4|h4|h4|h4<;>rw[h4]
        · rw[if_pos rfl,←g 0 (by omega)];rfl
        · rw[if_neg (by decide),if_pos rfl,←g 1 (by omega)];rfl
        · rw[if_neg (by decide),if_neg (by decide),if_pos rfl,←g 2 (by omega)];rfl
        · rw[if_neg (by decide),if_neg (by decide),if_neg (by decide),←g 3 (by omega)];rfl
      · rw[if_neg hc,z4 b]
        by_cases hd:f*128≤(b:Int)∧(b:Int)<f*128+4*z.1
        · rw[if_pos hd,if_pos (by omega)]
        · rw[if_neg hd,if_neg (by omega)]
  · have hb:=of_decide_eq_false hb
    show byt z.2 b=_
    rw[z4 b,show z.1=32 by omega]
    rfl
theorem Qzi{α:Type}(l l2:List α)(k:Nat)(z:α):(l++l2).getD k z=if k<l.length then l.getD k z else l2.getD (k-l.length) z:=by
 simp only[List.getD_eq_getElem?_getD,List.getElem?_append]
 split<;>rfl
theorem u8w{x:Int}:IntKind.wrap .u8 x=x%256:=IntKind.wrap_u8 x
theorem shr_c(W:Int):ishr .u32 W 8=W/256∧ishr .u32 W 16=W/65536∧ishr .u32 W 24=W/16777216:=by
 refine⟨?_,?_,?_⟩
 · show Int.fdiv W 256=_;rw[Int.fdiv_eq_ediv_of_nonneg _ (by decide)]
 · show Int.fdiv W 65536=_;rw[Int.fdiv_eq_ediv_of_nonneg _ (by decide)]
 · show Int.fdiv W 16777216=_;rw[Int.fdiv_eq_ediv_of_nonneg _ (by decide)]
theorem b4d(W:Int){k:Nat}(hk:k<4):[IntKind.wrap .u8 W,IntKind.wrap .u8 (ishr .u32 W 8),IntKind.wrap .u8 (ishr .u32 W 16),IntKind.wrap .u8 (ishr .u32 W 24)].getD k 0=dig W k:=by
 obtain⟨a,b,c⟩:=shr_c W
 have hk:k=0∨k=1∨k=2∨k=3:=by omega
 rcases hk with rfl|rfl|rfl|rfl<;>simp [dig,a,b,c,u8w]
theorem Qji(l:List Int)(k:Nat)(h:0≤l.getD k 0∧l.getD k 0<256)(hk:k<l.length):(((bytesOf l).getD k 0).toNat:Int)=l.getD k 0:=by
 have e:(bytesOf l).getD k 0=UInt8.ofNat (l.getD k 0).toNat:=by
   simp [bytesOf,List.getD_eq_getElem?_getD,hk]
 rw[e,UInt8.toNat_ofNat']
 omega
theorem Z5g(l:List UInt8)(k:Nat)(hk:k<l.length):(Q7h l).getD k 0=((l.getD k 0).toNat:Int):=by
 simp [Q7h,List.getD_eq_getElem?_getD,hk]
theorem text_b(w:List Int)(h:w.length≤32):(Q45 w).w (λr=>r.length=4*w.length∧ ∀k:Nat,k<4*w.length→((r.getD k 0).toNat:Int)=dig (w.getD (k/4) 0) (k%4)):=by
 have e0:IntKind.i64.wrap (4*(w.length:Int))=4*w.length:=by rw[IntKind.wrap_i64];omega
 unfold Q45
 refine w_cn (by rw[e0];simp [Nat.blt,D.plain];omega) ?_
 refine w_lp (inv:=λz:Int×List Int=>0≤z.1∧z.1≤w.length∧(z.2.length:Int)=4*z.1∧ ∀k:Nat,(k:Int)<4*z.1→z.2.getD k 0=dig (w.getD (k/4) 0) (k%4)) (μ:=Q5t w) ⟨by decide,by show(0:Int)≤w.length;omega,rfl,λk hk=>by have hk:(k:Int)<4*0:=hk;omega⟩ (Nat.lt_succ_self _) λz ⟨z1,z2,z3,z4⟩=> ?_
 refine w_br (λhb=> ?_) (λhb=> ?_)
 · have hb:=of_decide_eq_true hb
   have ew:IntKind.i64.wrap (z.1+1)=z.1+1:=by rw[IntKind.wrap_i64];omega
   refine w_cn (by simp [Nat.blt];omega) (w_cn (decide_eq_true (by omega)) (w_nx ?_))
   show(_∧_∧_∧ ∀k:Nat,(k:Int)<4*IntKind.i64.wrap (z.1+1)→(z.2++_).getD k 0=_)∧(_:Nat)<_
   refine⟨⟨by rw[ew];omega,by rw[ew];omega,by rw[ew,List.length_append];simp only[List.length_cons,List.length_nil];omega,λk hk=> ?_⟩,by show(w.length-IntKind.i64.wrap (z.1+1)).toNat<(w.length-z.1).toNat;rw[ew];omega⟩
   rw[ew]at hk
   rw[Qzi]
   split
   · exact z4 k (by omega)
   · rename_i hn
     rw[b4d _ (by omega),show z.1.toNat=k/4 by omega,show k-z.2.length=k%4 by omega]
 · have hb:=of_decide_eq_false hb
   show(bytesOf z.2).length=_∧ ∀k:Nat,_→(((bytesOf z.2).getD k 0).toNat:Int)=_
   refine⟨by rw[Qej];omega,λk hk=> ?_⟩
   have e:=z4 k (by omega)
   have:=dig_lt (w.getD (k/4) 0) (k%4)
   rw[Qji _ _ (by rw[e];exact this) (by omega),e]
def isPg(m:List Int)(f:Int)(r:List UInt8):Prop:=r.length=128∧ ∀k:Nat,k<128→((r.getD k 0).toNat:Int)=byt m ((f*128).toNat+k)
theorem pg_ext{m:List Int}{f:Int}{r s:List UInt8}(a:isPg m f r)(b:isPg m f s):r=s:=by
 obtain⟨a1,a2⟩:=a
 obtain⟨b1,b2⟩:=b
 refine List.ext_getElem (by omega) λi h1 h2=> ?_
 have e:=(a2 i (by omega)).trans (b2 i (by omega)).symm
 have e1:r[i]=r.getD i 0:=by simp [List.getD,h1]
 have e2:s[i]=s.getD i 0:=by simp [List.getD,h2]
 rw[e1,e2]
 exact UInt8.toNat_inj.1 (by omega)
theorem mpage_b{P:Nat}{m:List Int}(h:Q0q P m){f:Int}(f0:0≤f)(f1:f<P):(Q36 m f).w (λr=>isPg m f r.1∧r.2=true):=by
 have hl:=h.len
 have h2:=h.p2
 unfold Q36
 refine w_lv λx0 hx0=> ?_
 rw[Qxz h,decide_eq_true ⟨f0,f1⟩]at hx0
 subst hx0
 refine w_br (λhb=>by cases hb) (λhb=> ?_)
 have e1:IntKind.i64.wrap (f*32)=f*32:=by rw[IntKind.wrap_i64];omega
 have e2:IntKind.i64.wrap (IntKind.i64.wrap (f*32)+32)=f*32+32:=by rw[IntKind.wrap_i64,IntKind.wrap_i64];omega
 have cut:Int.toNat (IntKind.i64.wrap (IntKind.i64.wrap (f*32)+32))-Int.toNat (IntKind.i64.wrap (f*32))=32:=by rw[e2,e1];omega
 have hlen:(List.take 32 (List.drop (Int.toNat (IntKind.i64.wrap (f*32))) m)).length=32:=by
   rw[e1,List.length_take,List.length_drop];omega
 refine w_cn (by rw[e2,e1];simp [Nat.blt];omega) ?_
 rw[cut]
 refine w_an (by show List.length _≤1000000000000;rw[hlen];decide) (w_lv λx1 h1=> ?_)
 have t:=(Tree.pp (text_b _ (Nat.le_of_eq hlen))).2
 rw[hlen,show(Q45 (List.take 32 (List.drop (Int.toNat (IntKind.i64.wrap (f*32))) m))).m=x1 from h1.symm]at t
 refine⟨⟨t.1,λk hk=> ?_⟩,rfl⟩
 show((x1.getD k 0).toNat:Int)=_
 rw[t.2 k hk,byt,e1]
 have g:(List.take 32 (List.drop (Int.toNat (f*32)) m)).getD (k/4) 0=m.getD ((f*32).toNat+k/4) 0:=by
   simp [List.getD_eq_getElem?_getD,List.getElem?_take,show k/4<32 by omega]
 rw[g,show((f*128).toNat+k)/4=(f*32).toNat+k/4 by omega,show((f*128).toNat+k)%4=k%4 by omega]
theorem low_eq(x:Int):Z7u x 4=bytesOf [IntKind.wrap .u8 (ishr .u32 x 0),IntKind.wrap .u8 (ishr .u32 x 8),IntKind.wrap .u8 (ishr .u32 x 16),IntKind.wrap .u8 (ishr .u32 x 24)]:=by kernel_rfl
theorem rpage_b{P:Nat}{m:List Int}(hm:Q0q P m){frame:Int}(f0:0≤frame)(f1:frame<P):(Q91 m frame).w (λr=>isPg m frame r.1∧r.2=true):=by
 have hp:=Qbf hm
 have hl:=hm.len
 have h2:=hm.p2
 unfold Q91
 refine w_br (λh=>by have:=of_decide_eq_true h;omega) (λh=>w_lv λx0 hx=>w_br (λh1=>by have:=of_decide_eq_true h1;rw[hx,hp]at this;omega) (λh1=> ?_))
 refine w_lp (inv:=λz:Int×List Int=>0≤z.1∧z.1≤32∧(z.2.length:Int)=4*z.1∧ ∀k:Nat,(k:Int)<4*z.1→z.2.getD k 0=byt m ((frame*128).toNat+k)) (μ:=Qe2 m frame) ⟨by decide,by decide,rfl,λk hk=>by have hk:(k:Int)<4*0:=hk;omega⟩ (Nat.lt_succ_self _) (λz hz=> ?_)
 obtain⟨z1,z2,z3,z4⟩:=hz
 refine w_br (λhb=> ?_) (λhb=> ?_)
 · have hb:=of_decide_eq_true hb
   have e:IntKind.wrap IntKind.i64 (IntKind.wrap IntKind.i64 (frame*32)+z.1)=frame*32+z.1:=by rw[IntKind.wrap_i64,IntKind.wrap_i64];omega
   refine w_cn (by rw[e];simp [Nat.blt];omega) (w_an (show(4:Int)≤1000000000000 by decide) (w_lv λx1 h4=> ?_))
   rw[low_eq,shr0,e]at h4
   have l4:x1.length=4:=by rw[h4];rfl
   refine w_cn (decide_eq_true (by rw[Qk2,l4];omega)) (w_nx ?_)
   show(0≤IntKind.i64.wrap (z.1+1)∧IntKind.i64.wrap (z.1+1)≤32∧((z.2++Q7h x1).length:Int)=4*IntKind.i64.wrap (z.1+1)∧ ∀k:Nat,(k:Int)<4*IntKind.i64.wrap (z.1+1)→(z.2++Q7h x1).getD k 0=_)∧(32-IntKind.i64.wrap (z.1+1)).toNat<(32-z.1).toNat
   have ew:IntKind.i64.wrap (z.1+1)=z.1+1:=by rw[IntKind.wrap_i64];omega
   rw[ew]
   refine⟨⟨by omega,by omega,by rw[List.length_append,Qk2,l4];omega,λk hk=> ?_⟩,by omega⟩
   rw[Qzi]
   split
   · exact z4 k (by omega)
   · rename_i hn
     have hk4:k-z.2.length<4:=by omega
     rw[Z5g _ _ (by omega),h4]
     have d:=b4d (m.getD (frame*32+z.1).toNat 0) hk4
     rw[Qji _ _ (by rw[d];exact dig_lt _ _) (by simpa using hk4),d,byt]
     rw[show((frame*128).toNat+k)/4=(frame*32+z.1).toNat by omega,show((frame*128).toNat+k)%4=k-z.2.length by omega]
 · have hb:=of_decide_eq_false hb
   refine⟨⟨?_,λk hk=> ?_⟩,rfl⟩
   · show(bytesOf z.2).length=128
     rw[Qej];omega
   · show(((bytesOf z.2).getD k 0).toNat:Int)=_
     have e:=z4 k (by omega)
     rw[Qji _ _ (by rw[e];exact dig_lt _ _) (by omega),e]
theorem Z3r{P:Nat}{m:List Int}(h:Q0q P m)(f:Int):Q4f m f=Qgr m f:=by
 by_cases hf:0≤f∧f<P
 · have a:=(Tree.pp (mpage_b h hf.1 hf.2)).2
   have b:=(Tree.pp (rpage_b h hf.1 hf.2)).2
   exact Prod.ext (pg_ext a.1 b.1) (a.2.trans b.2.symm)
 · have hp:=Qbf h
   have e1:Q4f m f=([],false):=by
     simp only[Q4f,Q36,Tree.m,letv,Qxz h,decide_eq_false hf];rfl
   have e2:Qgr m f=([],false):=by
     simp only[Qgr,Q91,Tree.m,letv,hp]
     by_cases h0:f<0
     · rw[decide_eq_true h0];rfl
     · rw[decide_eq_false h0,decide_eq_true (show f≥P by omega)];rfl
   rw[e1,e2]
section
variable {P:Nat} {m:List Int} (h:Q0q P m)
include h
theorem Z2x{f:Int}(f0:0≤f)(f1:f<P){s:List UInt8}(hs:s.length=128):Q2c m f s=(Qj m f s,true):=by
 have a:=(Tree.pp (Qt7 h f0 f1 hs)).2
 have b:=(Tree.pp (fill_b h f0 f1 s)).2
 refine Prod.ext (Z4n (a.2.1.len.trans b.1.len.symm) a.2.1.u b.1.u λk=> ?_) a.1
 have e:((min s.length 128:Nat):Int)=128:=by rw[hs];rfl
 have b2:=b.2 k
 have a2:=a.2.2 k
 rw[e]at b2
 exact a2.trans b2.symm
theorem Z3u{f:Int}(f0:0≤f)(f1:f<P){s r:List UInt8}(hs:s.length≤128)(hr:isPg m f r):Q2c m f (s++r.drop s.length)=(Qj m f s,true):=by
  have hl:(s++r.drop s.length).length=128:=by have:=hr.1;simp;omega
  have a:=(Tree.pp (Qt7 h f0 f1 hl)).2
  have b:=(Tree.pp (fill_b h f0 f1 s)).2
  refine Prod.ext (Z4n (a.2.1.len.trans b.1.len.symm) a.2.1.u b.1.u λk=> ?_) a.1
  have b2:=b.2 k
  have a2:=a.2.2 k
  refine a2.trans (Eq.trans ?_ b2.symm)
  by_cases hc:f*128≤(k:Int)∧(k:Int)<f*128+128
  · rw [if_pos hc,Qzi]
    by_cases hd:(k-f*128).toNat<s.length
    · rw[if_pos hd,if_pos (by omega)]
    · rw[if_neg hd,if_neg (by omega)]
      have e:(r.drop s.length).getD ((k-f*128).toNat-s.length) 0=r.getD (k-f*128).toNat 0:=by
        simp [List.getD_eq_getElem?_getD,show s.length+((k-f*128).toNat-s.length)=(k-f*128).toNat by omega]
      rw[e,hr.2 _ (by omega),show(f*128).toNat+(k-f*128).toNat=k by omega]
  · rw[if_neg hc,if_neg (by omega)]
theorem Qga{a:Int}(ha:U a){size:Int}(hs:size=1∨size=4):Q2g m a size=decide (a%size=0∧a<128*P):=by
 have hq:=Qbf h
 have h2:=h.p2
 have a0:=ha.1
 have e:IntKind.wrap IntKind.u32 size=size:=by rcases hs with rfl|rfl<;>decide
 have e0:decide (IntKind.wrap IntKind.u32 size≠0)=true:=by rcases hs with rfl|rfl<;>decide
 have t:Int.tmod a (IntKind.wrap IntKind.u32 size)=a%size:=by rw[e,Int.tmod_eq_emod_of_nonneg a0]
 have l: ∀x,x=Q3t m→a%size=0→decide (a<IntKind.wrap IntKind.u32 (IntKind.wrap IntKind.i64 (128*x)))=decide (a%size=0∧a<128*P):=λx hx hz=>by
   rw[hx,hq,IntKind.wrap_u32,IntKind.wrap_i64]
   exact decide_eq_decide.2 ⟨λh=>⟨hz,by omega⟩,λh=>by omega⟩
 refine Tree.post (Q80 m a size) (W:=λb=>b=decide (a%size=0∧a<128*P)) ?_
 unfold Q80
 refine w_br (λh1=>w_br (λh4=> ?_) (λ_=> ?_)) (λ_=> ?_)
 · have h1: ¬size=1:=by simpa using h1
   have h4: ¬size=4:=by simpa using h4
   omega
 all_goals
   refine w_cn e0 (w_br (λhb=>w_lv λx hx=>l x hx ?_) (λhb=> ?_))
   · rw[t]at hb;exact eq_of_beq hb
   · rw[t]at hb
     exact(decide_eq_false (λh=>by rw[h.1]at hb;cases hb)).symm
theorem Qsp{a:Int}(ha:U a){size:Int}(hs:size=1∨size=4):Qda m a size=Q2g m a size:=by
 rw[Qga h ha hs]
 have hq:=Qtp h
 have h2:=h.p2
 have a0:=ha.1
 have a1:=ha.2
 have e:IntKind.wrap IntKind.u32 size=size:=by rcases hs with rfl|rfl<;>decide
 have e0:decide (IntKind.wrap IntKind.u32 size≠0)=true:=by rcases hs with rfl|rfl<;>decide
 have t:Int.tmod a (IntKind.wrap IntKind.u32 size)=a%size:=by rw[e,Int.tmod_eq_emod_of_nonneg a0]
 have l: ∀x,x=Q0l m→a%size=0→decide (IntKind.wrap IntKind.u64 (IntKind.wrap IntKind.u64 a+IntKind.wrap IntKind.u64 size)≤IntKind.wrap IntKind.u64 (IntKind.wrap IntKind.u64 x*128))=decide (a%size=0∧a<128*P):=λx hx hz=>by
   rw[hx,hq]
   simp only[IntKind.wrap_u64]
   refine decide_eq_decide.2 ⟨λh=>⟨hz,?_⟩,λh=> ?_⟩<;>rcases hs with rfl|rfl<;>omega
 refine Tree.post (Q2s m a size) (W:=λb=>b=decide (a%size=0∧a<128*P)) ?_
 unfold Q2s
 refine w_br (λh1=>w_br (λh4=> ?_) (λ_=> ?_)) (λ_=> ?_)
 · have h1: ¬size=1:=by simpa using h1
   have h4: ¬size=4:=by simpa using h4
   omega
 all_goals
   refine w_cn e0 (w_br (λhb=> ?_) (λhb=>w_lv λx hx=>l x hx ?_))
   · rw[t]at hb
     exact(decide_eq_false (λh=>by rw[h.1]at hb;cases hb)).symm
   · rw[t]at hb;simpa using hb
end
theorem fldj(w:Int):Q2k w 0 8=iand .u32 (ishr .u32 w 0) 255∧Q2k w 8 8=iand .u32 (ishr .u32 w 8) 255∧Q2k w 16 8=iand .u32 (ishr .u32 w 16) 255∧Q2k w 24 8=iand .u32 (ishr .u32 w 24) 255:=
 ⟨by kernel_rfl,by kernel_rfl,by kernel_rfl,by kernel_rfl⟩
theorem setj(w v:Int):Q65 w 0 8 v=putW w v 0∧Q65 w 8 8 v=putW w v 8∧Q65 w 16 8 v=putW w v 16∧Q65 w 24 8 v=putW w v 24:=
 ⟨by kernel_rfl,by kernel_rfl,by kernel_rfl,by kernel_rfl⟩
theorem sh_same{a:Int}(ha:U a):IntKind.wrap .i64 (IntKind.wrap .i64 (Int.tmod a 4)*8)=8*(a%4)∧IntKind.wrap .u32 (8*Int.tmod a 4)=8*(a%4):=by
 obtain⟨a0,a1⟩:=ha
 rw[Int.tmod_eq_emod_of_nonneg a0]
 exact⟨by rw[IntKind.wrap_i64,IntKind.wrap_i64];omega,by rw[IntKind.wrap_u32];omega⟩
section
variable {P:Nat} {m:List Int} (h:Q0q P m)
include h
theorem Qio{a:Int}(ha:U a){size:Int}(hs:size=1∨size=4):Q3v m a size=Q23 m a size:=by
 have e:=Qsp h ha hs
 obtain⟨s1,s2⟩:=sh_same ha
 have f:Q2k (m.getD (Int.toNat (IntKind.wrap .u32 (Int.tdiv a 4))) 0) (8*(a%4)) 8=iand .u32 (ishr .u32 (m.getD (Int.toNat (IntKind.wrap .u32 (Int.tdiv a 4))) 0) (8*(a%4))) 255:=by
   obtain⟨f0,f1,f2,f3⟩:=fldj (m.getD (Int.toNat (IntKind.wrap .u32 (Int.tdiv a 4))) 0)
   have:a%4=0∨a%4=1∨a%4=2∨a%4=3:=by omega
   rcases this with h|h|h|h<;>rw[h]
   · exact f0
   · exact f1
   · exact f2
   · exact f3
 simp only[Q3v,Q34,Q23,Q6h,Tree.m,letv,e,s1,s2,f]
omit h in
theorem Qzu(a:Int)(size:Int):(Q23 m a size).2=Q2g m a size:=by
 simp only[Q23,Q6h,Tree.m,letv]
 cases Q2g m a size
 · rfl
 · cases size==1<;>rfl
theorem Qxp{a:Int}(ha:U a){size:Int}(hs:size=1∨size=4)(v:Int):Q7y m a size v=bif Q2g m a size then(Q8y m a size v,true) else(m,false):=by
 have hcl:Q01 m=m:=rfl
 have e:=Qsp h ha hs
 obtain⟨s1,s2⟩:=sh_same ha
 have f: ∀w,Q65 w (8*(a%4)) 8 v=ior .u32 (Qdf .u32 w (ishl .u32 255 (8*(a%4)))) (ishl .u32 (iand .u32 v 255) (8*(a%4))):=λw=>by
   obtain⟨f0,f1,f2,f3⟩:=setj w v
   have:a%4=0∨a%4=1∨a%4=2∨a%4=3:=by omega
   rcases this with h|h|h|h<;>rw[h]
   · exact f0
   · exact f1
   · exact f2
   · exact f3
 simp only[Q7y,Q49,Q8y,Qdj,Tree.m,letv,hcl,e,s1,s2,f]
 rcases hs with rfl|rfl<;>cases Q2g m a _<;>rfl
end
section
variable {P:Nat} {m:List Int} (h:Q0q P m)
include h
theorem walk_same{root va:Int}(hr:U root)(hv:U va){access:Int}(ha:access=1∨access=2∨access=3):Qel m root va access=Q5r m root va access:=by
 have hp:=Qbf h
 have h2:=h.p2
 have hlen:=h.len
 obtain⟨r1,r2⟩:=hr
 obtain⟨v1,v2⟩:=hv
 have hpg: ∀{f:Int},U f→Q88 m f=decide (f<P):=λhf=>pageP_eq h hf
 have eP:IntKind.wrap .u32 (P:Int)=P:=by rw[IntKind.wrap_u32];omega
 have kn:Qgt access=true:=by rcases ha with rfl|rfl|rfl<;>rfl
 have ca:Qfs access=(Q3o access,true):=by rcases ha with rfl|rfl|rfl<;>rfl
 simp only[Qel,Q5b,Q5r,Q8z,Tree.m,letv,hp,eP,kn,ca,hpg ⟨r1,r2⟩]
 by_cases c1:va≥4096
 · rw[decide_eq_true c1];rfl
 by_cases c2:root<P
 · have eE:IntKind.wrap IntKind.u32 (IntKind.wrap IntKind.u32 (root*128)+IntKind.wrap IntKind.u32 (4*IntKind.wrap IntKind.u32 (Int.tdiv va 128)))=root*128+4*(va/128):=by
     rw[Int.tdiv_eq_ediv_of_nonneg v1,IntKind.wrap_u32,IntKind.wrap_u32,IntKind.wrap_u32,IntKind.wrap_u32];omega
   have hE:U (root*128+4*(va/128)):=⟨by omega,by omega⟩
   have wi:Q2g m (root*128+4*(va/128)) 4=true:=by
     rw[Qga h hE (.inr rfl)];exact decide_eq_true ⟨by omega,by omega⟩
   rw[decide_eq_false c1,decide_eq_true c2,decide_eq_false (show¬root≥P by omega),eE,Qio h hE (.inr rfl),Qzu,wi]
   have ld:(Q23 m (root*128+4*(va/128)) 4).1=m.getD (Int.toNat (IntKind.wrap .u32 (Int.tdiv (root*128+4*(va/128)) 4))) 0:=by
     simp only[Q23,Q6h,Tree.m,letv,wi];rfl
   rw[ld]
   generalize m.getD (Int.toNat (IntKind.wrap .u32 (Int.tdiv (root*128+4*(va/128)) 4))) 0=w
   have fo:Qbi w=iand .u32 (ishr .u32 w 8) 255:=(fld w).2.2.2.2
   rw[fo,hpg (Z4z _ _)]
   have hge:decide (iand .u32 (ishr .u32 w 8) 255≥(P:Int))=!decide (iand .u32 (ishr .u32 w 8) 255<(P:Int)):=by
     by_cases hq:iand .u32 (ishr .u32 w 8) 255<(P:Int)
     · rw[decide_eq_true hq,decide_eq_false (by omega)];rfl
     · rw[decide_eq_false hq,decide_eq_true (by omega)];rfl
   rw[hge]
   generalize decide (iand .u32 (ishr .u32 w 8) 255<(P:Int))=d
   rcases ha with rfl|rfl|rfl
   · show _=(bif iand .u32 w 1==0 then _ else bif iand .u32 w 4==0 then _ else bif !d then _ else _)
     have:Q8n w 1=(bif iand .u32 w 1==0 then false else !(iand .u32 w 4==0)):=rfl
     rw[this]
     cases iand .u32 w 1==0<;>cases iand .u32 w 4==0<;>cases d<;>rfl
   · show _=(bif iand .u32 w 1==0 then _ else bif !d then _ else _)
     have:Q8n w 2=(bif iand .u32 w 1==0 then false else true):=rfl
     rw[this]
     cases iand .u32 w 1==0<;>cases d<;>rfl
   · show _=(bif iand .u32 w 1==0 then _ else bif iand .u32 w 2==0 then _ else bif !d then _ else _)
     have:Q8n w 3=(bif iand .u32 w 1==0 then false else !(iand .u32 w 2==0)):=rfl
     rw[this]
     cases iand .u32 w 1==0<;>cases iand .u32 w 2==0<;>cases d<;>rfl
 · rw[decide_eq_false c1,decide_eq_false c2,decide_eq_true (show root≥P by omega)];rfl
theorem Z9h{a:Int}(ha:U a)(access:Int):Q9c m a access=Qn0 m a access:=by
 have hcl:Q01 m=m:=rfl
 have hl:=h.len
 have a0:=ha.1
 simp only[Q9c,Q4b,Qn0,Qef,Tree.m,letv,Qio h ha (.inr rfl),Qzu,Qxp h ha (.inr rfl),hcl]
 cases hw:Q2g m a 4
 · rfl
 · rw[Qga h ha (.inr rfl)]at hw
   have hw:=of_decide_eq_true hw
   have wi:Q2g m a 4=true:=by rw[Qga h ha (.inr rfl)];exact decide_eq_true hw
   have ld:(Q23 m a 4).1=m.getD (Int.toNat (IntKind.wrap .u32 (Int.tdiv a 4))) 0:=by
     simp only[Q23,Q6h,Tree.m,letv,wi];rfl
   have pu: ∀v,Q8y m a 4 v=m.set (Int.toNat (IntKind.wrap .u32 (Int.tdiv a 4))) v:=λv=>rfl
   rw[ld,pu,pu]
   have hi:Int.toNat (IntKind.wrap .u32 (Int.tdiv a 4))<m.length:=by
     rw[Int.tdiv_eq_ediv_of_nonneg a0,IntKind.wrap_u32];omega
   generalize Int.toNat (IntKind.wrap .u32 (Int.tdiv a 4))=i at*
   rw[Qlz hi,List.set_set]
   rfl
end
theorem Qiw{c:Q02}(h0:0≤c.B3.a0)(h:c.B3.a0≤31)(k b:Int):Q3r c k b=Q2i c k b:=by
 have e:=eq_of_beq (Qmy (λs=>Qdf .u32 (ior .u32 (Q75 (Q75 s 1 8) 2 16) 1) 2==ior .u32 (Qdf .u32 (ior .u32 (ior .u32 (Qdf .u32 s 24) (IntKind.wrap .u32 (8*Q9n (iand .u32 s 1 !=0)))) (IntKind.wrap .u32 (16*Q9n (iand .u32 s 2 !=0)))) 2) 1) 32 (by kernel_rfl) h0 (by omega))
 simp only[Q3r,Qgm,Q2i,Qhe,Tree.m,letv,e]
theorem Z64{c:Q02}(h0:0≤c.B3.a0)(h:c.B3.a0≤31):Qb c=Qhm c:=by
 have e:=eq_of_beq (Qmy (λs=>Q75 (Q75 s 8 1) 16 2==ior .u32 (ior .u32 (Qdf .u32 s 3) (IntKind.wrap .u32 (1*Q9n (iand .u32 s 8 !=0)))) (IntKind.wrap .u32 (2*Q9n (iand .u32 s 16 !=0)))) 32 (by kernel_rfl) h0 (by omega))
 simp only[Qb,Qbu,Qhm,Qd8,Tree.m,letv,e]
theorem Z8o{c:Q02}(h0:0≤c.B3.a0)(h:c.B3.a0≤31):Qn8 c=(!Q9f c&&(iand .u32 c.B3.a0 4 !=0)):=
 eq_of_beq (Qmy (λs=>(iand .u32 s 5==4)==(!(iand .u32 s 1 !=0)&&(iand .u32 s 4 !=0))) 32 (by kernel_rfl) h0 (by omega))
theorem Qrb(c:Q02){r:Int}(hr:0≤r∧r<16)(v:Int):Q8f c r v=Q1k c r v:=by
 simp only[Q8f,Q7l,Q1k,Qdi,Tree.m]
 by_cases h:r=0
 · subst h;rfl
 · rw[decide_eq_true (show r>0 by omega),decide_eq_true hr.2,show(r !=0)=true by simpa using h];rfl
theorem div_same{a b:Int}(ha:U a)(hb:U b):Q9 a b=Qah a b:=by
  obtain⟨a0,a1⟩:=ha
  obtain⟨b0,b1⟩:=hb
  have i: ∀x,IntKind.wrap .i64 (IntKind.wrap .i32 x)=IntKind.wrap .i32 x:=λx=>by rw[IntKind.wrap_i64,IntKind.wrap_i32];omega
  have r32: ∀x,-2147483648≤IntKind.wrap .i32 x∧IntKind.wrap .i32 x<2147483648:=λx=>by rw[IntKind.wrap_i32];omega
  have q32: ∀x y:Int,-2147483648≤x∧x<2147483648→ -2147483648≤Int.tdiv x y∧Int.tdiv x y≤2147483648:=λx y hx=>by
    have h1:(Int.tdiv x y).natAbs≤x.natAbs:=by rw[Int.natAbs_tdiv];exact Nat.div_le_self _ _
    omega
  simp only[Q9,Q50,Qah,Q9m,Tree.m,i]
  cases hb:b==0
  · have w: ∀z,IntKind.wrap .u32 (IntKind.wrap .i32 z)=IntKind.wrap .u32 z:=λz=>by rw[IntKind.wrap_i32,IntKind.wrap_u32,IntKind.wrap_u32];omega
    have w2:IntKind.wrap .i64 (Int.tdiv (IntKind.wrap .i32 a) (IntKind.wrap .i32 b))=Int.tdiv (IntKind.wrap .i32 a) (IntKind.wrap .i32 b):=by
      have:=q32 _ (IntKind.wrap .i32 b) (r32 a)
      rw[IntKind.wrap_i64];omega
    rw[w,w2]
    cases h1:a==2147483648
    · rfl
    · cases h2:b==4294967295
      · rfl
      · have h1:=eq_of_beq h1
        have h2:=eq_of_beq h2
        subst h1;subst h2
        rfl
  · rfl
theorem alu_same{op a b:Int}(h0:1≤op)(h1:op≤23)(ha:U a)(hb:U b):Q3e op a b=Qbh op a b:=by
 have sub:IntKind.wrap .u32 (a+IntKind.wrap .u32 (0-b))=IntKind.wrap .u32 (a-b):=by
   rw[IntKind.wrap_u32,IntKind.wrap_u32,IntKind.wrap_u32];omega
 have hop:op=1∨op=2∨op=3∨op=4∨op=5∨op=6∨op=7∨op=8∨op=9∨op=10∨op=11∨op=12∨op=13∨op=14∨op=15∨op=16∨op=17∨op=18∨op=19∨op=20∨op=21∨op=22∨op=23:=by omega
 have d:=div_same ha hb
 rcases hop with rfl|rfl|rfl|rfl|rfl|rfl|rfl|rfl|rfl|rfl|rfl|rfl|rfl|rfl|rfl|rfl|rfl|rfl|rfl|rfl|rfl|rfl|rfl
 · rfl
 · show(IntKind.wrap .u32 (a+IntKind.wrap .u32 (0-b)),true)=(IntKind.wrap .u32 (a-b),true)
   rw[sub]
 · rfl
 · rfl
 · rfl
 · rfl
 · rfl
 · rfl
 · rfl
 · show((Q9 a b).1,true)=((Qah a b).1,true)
   rw[d]
 · show((Q9 a b).2,true)=((Qah a b).2,true)
   rw[d]
 all_goals rfl
theorem Qjh{P:Nat}{m:List Int}(h:Q0q P m){c:Q02}(hc:Q2f c)(hst:c.B3.a0≤31){va:Int}(hv:U va){size:Int}(hs:size=1∨size=4){access:Int}(ha:access=1∨access=2∨access=3):Q1n c m va size access=((Q0w c m va size access).1,(Q0w c m va size access).2.2,(Q0w c m va size access).2.1):=by
 have hcl:Q01 m=m:=rfl
 have kn:Qgt access=true:=by rcases ha with rfl|rfl|rfl<;>rfl
 have ca:Qky access=(Q3o access,true):=by rcases ha with rfl|rfl|rfl<;>rfl
 have pg:=Z8o hc.a0.1 hst
 have wk:=walk_same h hc.a6 hv ha
 have tc:Q9c m (Q5r m c.B3.a6 va access).E0 access=Qn0 m (Q5r m c.B3.a6 va access).E0 access:=Z9h h (Tree.pp (walk_w h hc.a6 hv access)).2.2.1 access
 have sz:(bif size !=1 then bif size !=4 then false else true else true)=true:=by rcases hs with rfl|rfl<;>rfl
 simp only[Q1n,Q33,Q0w,Q97,Tree.m,letv,hcl,kn,ca,pg,wk,tc,Qio h hv hs,Qzu]
 rcases hs with rfl|rfl<;>
 · show(bif _ then _ else _)=_
   cases Int.tmod va _ !=0<;>cases Q9f c<;>cases iand .u32 c.B3.a0 4 !=0<;>cases(Q5r m c.B3.a6 va access).D8 !=0<;>cases Q2g m va _<;>rfl
theorem Qtn{α:Type}{Q:α→Prop}{c:Bool}{x y:α}(hx:Q x)(hy:Q y):Q (cond c x y):=by cases c<;>assumption
theorem walk_al(m:List Int)(root:Int){va:Int}(hv:U va)(access:Int):(Q5r m root va access).D8=0→(Q5r m root va access).Addr%4=va%4:=by
 have hc:Q3o access≠0:=by
   simp only[Q3o,Q8o,Tree.m]
   cases access==1<;>cases access==3<;>simp
 have q :(λt:Q0z=>t.D8=0→t.Addr%4=va%4) (Q5r m root va access):=by
   simp only[Q5r,Q8z,Tree.m,letv]
   repeat'(first
     |exact λe=>absurd e hc
     | (intro _
        show IntKind.wrap .u32 (IntKind.wrap .u32 (_*128)+Int.tmod va 128)%4=va%4
        rw[Int.tmod_eq_emod_of_nonneg hv.1,IntKind.wrap_u32,IntKind.wrap_u32];omega)
     |refine Qtn (Q:=λt:Q0z=>t.D8=0→t.Addr%4=va%4) ?_ ?_)
 exact q
theorem reach_al{c:Q02}{m:List Int}{va:Int}(hv:U va){size:Int}(hs:size=1∨size=4){access:Int}(ha:access=1∨access=2∨access=3):(Q0w c m va size access).2.1=0→(Q0w c m va size access).1%size=0:=by
  have kn:Qgt access=true:=by rcases ha with rfl|rfl|rfl<;>rfl
  have hc:Q3o access≠0:=by
    simp only[Q3o,Q8o,Tree.m]
    cases access==1<;>cases access==3<;>simp
  rcases hs with rfl|rfl
  · intro _;omega
  simp only[Q0w,Q97,Tree.m,letv,kn]
  show(bif Int.tmod va 4 !=0 then((0:Int),(3:Int),m) else _).2.1=0→(bif Int.tmod va 4 !=0 then((0:Int),(3:Int),m) else _).1%4=0
  rw[Int.tmod_eq_emod_of_nonneg hv.1]
  cases hz:va%4 !=0
  · have hz:va%4=0:=by simpa using hz
    have w:=walk_al m c.B3.a6 hv access
    cases hp:Qn8 c
    · cases hw:Q2g m va 4
      · exact λe=>absurd e hc
      · exact λ_=>hz
    · cases hq:(Q5r m c.B3.a6 va access).D8 !=0
      · have hq:(Q5r m c.B3.a6 va access).D8=0:=by simpa using hq
        exact λ_=>(w hq).trans hz
      · have hq: ¬(Q5r m c.B3.a6 va access).D8=0:=by simpa using hq
        exact λe=>absurd e hq
  · intro e;cases e
def eff0:Q1:={C1:=0,C6:=0,D7:=0,Value:=0}
def Q4r(c:Q02)(m:List Int)(i:Q0e):Q02×List Int×Q1:=
 bif i.Op==32 then((Q57 c m i).1,(Q57 c m i).2,eff0) else bif i.Op==33 then((Q57 c m i).1,(Q57 c m i).2,eff0) else bif i.Op==34 then((Q57 c m i).1,(Q57 c m i).2,eff0)
 else bif i.Op==35 then((Q6s c m i).1,(Q6s c m i).2,eff0) else bif i.Op==36 then((Q6s c m i).1,(Q6s c m i).2,eff0) else((Qhn c i).1,m,(Qhn c i).2)
def regX(c:Q02)(r:Int):Int:=List.getD (A16.l c.X) r.toNat 0
def Qg6(c:Q02)(m:List Int)(i:Q0e):Q02×Q1×List Int:=
 bif decide (i.Op≥56) then((Ql1 c i).1,(Ql1 c i).2,m) else bif decide (i.Op≥40) then(Z3v c i,eff0,m) else bif decide (i.Op≥32) then((Q55 c m i).1,eff0,(Q55 c m i).2)
 else bif i.Op==24 then({X:=(Q1k c i.A (ishl .u32 (IntKind.wrap .u32 i.Imm) 16)).X,Pc:=IntKind.wrap .u32 ((Q1k c i.A (ishl .u32 (IntKind.wrap .u32 i.Imm) 16)).Pc+4),B3:=(Q1k c i.A (ishl .u32 (IntKind.wrap .u32 i.Imm) 16)).B3},eff0,m)
 else bif decide (i.Op≤13) then
   ({X:=(Q1k c i.A (Qbh i.Op (regX c i.B) (regX c i.C)).1).X,Pc:=IntKind.wrap .u32 ((Q1k c i.A (Qbh i.Op (regX c i.B) (regX c i.C)).1).Pc+4),B3:=(Q1k c i.A (Qbh i.Op (regX c i.B) (regX c i.C)).1).B3},eff0,m)
 else({X:=(Q1k c i.A (Qbh i.Op (regX c i.B) (IntKind.wrap .u32 i.Imm)).1).X,Pc:=IntKind.wrap .u32 ((Q1k c i.A (Qbh i.Op (regX c i.B) (IntKind.wrap .u32 i.Imm)).1).Pc+4),B3:=(Q1k c i.A (Qbh i.Op (regX c i.B) (IntKind.wrap .u32 i.Imm)).1).B3},eff0,m)
def isOp(op:Int):Prop:=op=1∨op=2∨op=3∨op=4∨op=5∨op=6∨op=7∨op=8∨op=9∨op=10∨op=11∨op=12∨op=13∨op=16∨op=17∨op=18∨op=19∨op=20∨op=21∨op=22∨op=23∨op=24∨op=32∨op=33∨op=34∨op=35∨op=36∨op=40∨op=41∨op=42∨op=43∨op=44∨op=45∨op=48∨op=49∨op=56∨op=57∨op=58∨op=59∨op=60∨op=61∨op=62∨op=63∨op=64
theorem set_pc(c:Q02)(r v:Int):(Q1k c r v).Pc=c.Pc∧(Q1k c r v).B3=c.B3:=by
 simp only[Q1k,Qdi,Tree.m]
 cases decide (r>0)
 · exact⟨rfl,rfl⟩
 · cases decide (r<16)<;>exact⟨rfl,rfl⟩
def adv(c:Q02):Q02:={X:=c.X,Pc:=IntKind.wrap .u32 (c.Pc+4),B3:=c.B3}
def va(c:Q02)(B Imm:Int):Int:=IntKind.wrap .u32 (List.getD (A16.l c.X) B.toNat 0+IntKind.wrap .u32 Imm)
def ldP(c:Q02)(A v size:Int)(f:Int→Int)(y:Int×List Int×Int):Q02×List Int:=bif y.2.2 !=0 then(Q3r c y.2.2 v,y.2.1) else(adv (Q8f c A (f (Q3v y.2.1 y.1 size).1)),y.2.1)
def ldR(c:Q02)(A v size:Int)(f:Int→Int)(x:Int×Int×List Int):Q02×List Int:=bif x.2.1 !=0 then(Q2i c x.2.1 v,x.2.2) else(adv (Q1k c A (f (Q23 x.2.2 x.1 size).1)),x.2.2)
def stP(c:Q02)(A v size:Int)(y:Int×List Int×Int):Q02×List Int:=bif y.2.2 !=0 then(Q3r c y.2.2 v,y.2.1) else(adv c,(Q7y y.2.1 y.1 size (List.getD (A16.l c.X) A.toNat 0)).1)
def stR(c:Q02)(A v size:Int)(x:Int×Int×List Int):Q02×List Int:=bif x.2.1 !=0 then(Q2i c x.2.1 v,x.2.2) else(adv c,Q8y x.2.2 x.1 size (List.getD (A16.l c.X) A.toNat 0))
theorem ld_eq(c:Q02)(m:List Int)(A B C Imm:Int):
   (Q57 c m ⟨32,A,B,C,Imm⟩=ldP c A (va c B Imm) 4 (λv=>v) (Q1n c m (va c B Imm) 4 2)∧Q55 c m ⟨32,A,B,C,Imm⟩=ldR c A (va c B Imm) 4 (λv=>v) (Q0w c m (va c B Imm) 4 2))∧
   (Q57 c m ⟨33,A,B,C,Imm⟩=ldP c A (va c B Imm) 1 (λv=>Q1t v 8) (Q1n c m (va c B Imm) 1 2)∧Q55 c m ⟨33,A,B,C,Imm⟩=ldR c A (va c B Imm) 1 (λv=>Q39 v 8) (Q0w c m (va c B Imm) 1 2))∧
   (Q57 c m ⟨34,A,B,C,Imm⟩=ldP c A (va c B Imm) 1 (λv=>v) (Q1n c m (va c B Imm) 1 2)∧Q55 c m ⟨34,A,B,C,Imm⟩=ldR c A (va c B Imm) 1 (λv=>v) (Q0w c m (va c B Imm) 1 2))∧
   (Q6s c m ⟨35,A,B,C,Imm⟩=stP c A (va c B Imm) 4 (Q1n c m (va c B Imm) 4 3)∧Q55 c m ⟨35,A,B,C,Imm⟩=stR c A (va c B Imm) 4 (Q0w c m (va c B Imm) 4 3))∧
   (Q6s c m ⟨36,A,B,C,Imm⟩=stP c A (va c B Imm) 1 (Q1n c m (va c B Imm) 1 3)∧Q55 c m ⟨36,A,B,C,Imm⟩=stR c A (va c B Imm) 1 (Q0w c m (va c B Imm) 1 3)):=
 ⟨⟨by kernel_rfl,by kernel_rfl⟩,⟨by kernel_rfl,by kernel_rfl⟩,⟨by kernel_rfl,by kernel_rfl⟩,⟨by kernel_rfl,by kernel_rfl⟩,⟨by kernel_rfl,by kernel_rfl⟩⟩
theorem sx_load{P:Nat}{m:List Int}(h:Q0q P m)(a:Int):Q1t (Q23 m a 1).1 8=Q39 (Q23 m a 1).1 8:=by
 have: ∀x:Int×Bool,(∃w,U w∧x=(iand .u32 w 255,true))∨x=(0,false)→Q1t x.1 8=Q39 x.1 8:=λx hx=>by
   rcases hx with⟨w,hw,rfl⟩|rfl
   · have e:=m255 hw
     exact sx8 (by show 0≤iand .u32 w 255;omega) (by show iand .u32 w 255<256;omega)
   · rfl
 refine this _ ?_
 simp only[Q23,Q6h,Tree.m,letv]
 cases Q2g m a 1
 · exact .inr rfl
 · exact .inl ⟨_,Qog (Qg2 h.u _) _,rfl⟩
section
variable {P:Nat} {m:List Int} (h:Q0q P m) {c:Q02} (hc:Q2f c) (hst:c.B3.a0≤31)
include h hc hst
omit hst in
theorem Z45{v:Int}(hv:U v){size:Int}(hs:size=1∨size=4)(access:Int):Q0q P (Q0w c m v size access).2.2∧U (Q0w c m v size access).1∧((Q0w c m v size access).2.1=0→(Q0w c m v size access).1<128*P):=(Tree.pp (Qye h hc hv hs access)).2
theorem Z5b{A v:Int}(hA:0≤A∧A<16)(hv:U v){size:Int}(hs:size=1∨size=4){f g:Int→Int}(hf: ∀{m':List Int},Q0q P m'→ ∀a,f (Q23 m' a size).1=g (Q23 m' a size).1):ldP c A v size f (Q1n c m v size 2)=ldR c A v size g (Q0w c m v size 2):=by
 rw[Qjh h hc hst hv hs (.inr (.inl rfl))]
 obtain⟨k,u,_⟩:=Z45 h hc hv hs 2
 generalize Q0w c m v size 2=x at*
 simp only[ldP,ldR,Qio k u hs,Qiw hc.a0.1 hst,Qrb c hA,hf k]
theorem st_same{A v:Int}(hv:U v){size:Int}(hs:size=1∨size=4):stP c A v size (Q1n c m v size 3)=stR c A v size (Q0w c m v size 3):=by
 rw[Qjh h hc hst hv hs (.inr (.inr rfl))]
 obtain⟨k,u,b⟩:=Z45 h hc hv hs 3
 have al:=reach_al (c:=c) (m:=m) hv hs (access:=3) (.inr (.inr rfl))
 generalize Q0w c m v size 3=x at*
 simp only[stP,stR,Qxp k u hs,Qiw hc.a0.1 hst,Qga k u hs]
 cases hq:x.2.1 !=0
 · have hq:x.2.1=0:=by simpa using hq
   rw[decide_eq_true ⟨al hq,b hq⟩];rfl
 · rfl
end
theorem write_pc(c:Q02)(k v:Int):(Qgg c k v).Pc=c.Pc:=by
 simp only[Qgg,Qbx,Tree.m]
 repeat'(first|rfl|refine Qtn (Q:=λx:Q02=>x.Pc=c.Pc) ?_ ?_)
def setP(c:Q02)(A v p:Int):Q02:={X:=(Q8f c A v).X,Pc:=p,B3:=(Q8f c A v).B3}
def setR(c:Q02)(A v p:Int):Q02:={X:=(Q1k c A v).X,Pc:=p,B3:=(Q1k c A v).B3}
def nxt(c:Q02):Int:=IntKind.wrap .u32 (c.Pc+4)
theorem Z14(c:Q02){A:Int}(hA:0≤A∧A<16)(v p:Int):setP c A v p=setR c A v p:=by
 unfold setP setR;rw[Qrb c hA]
theorem Z60(c:Q02)(A v:Int):adv (Q1k c A v)=setR c A v (nxt c):=by
 unfold adv setR nxt;rw[(set_pc c A v).1]
theorem brc(t:Bool)(x y:Q02)(m:List Int):((bif t then(x,eff0) else(y,eff0)).1,m,(bif t then(x,eff0) else(y,eff0)).2)=((bif t then x else y),m,eff0):=by cases t<;>rfl
def isOpB(op:Int):Bool:=decide (op=1)||decide (op=2)||decide (op=3)||decide (op=4)||decide (op=5)||decide (op=6)||decide (op=7)||decide (op=8)||decide (op=9)||decide (op=10)||decide (op=11)||decide (op=12)||decide (op=13)||decide (op=16)||decide (op=17)||decide (op=18)||decide (op=19)||decide (op=20)||decide (op=21)||decide (op=22)||decide (op=23)||decide (op=24)||decide (op=32)||decide (op=33)||decide (op=34)||decide (op=35)||decide (op=36)||decide (op=40)||decide (op=41)||decide (op=42)||decide (op=43)||decide (op=44)||decide (op=45)||decide (op=48)||decide (op=49)||decide (op=56)||decide (op=57)||decide (op=58)||decide (op=59)||decide (op=60)||decide (op=61)||decide (op=62)||decide (op=63)||decide (op=64)
section
variable {P:Nat} {m:List Int} (h:Q0q P m) {c:Q02} (hc:Q2f c) (hst:c.B3.a0≤31) {A B C Imm:Int} (hA:0≤A∧A<16)
include h hc hst hA
theorem post_same{op:Int}(hop:isOp op):Q4r c m ⟨op,A,B,C,Imm⟩=((Qg6 c m ⟨op,A,B,C,Imm⟩).1,(Qg6 c m ⟨op,A,B,C,Imm⟩).2.2,(Qg6 c m ⟨op,A,B,C,Imm⟩).2.1):=by
 have alu: ∀{k y:Int},1≤k→k≤23→U y→((setP c A (Q3e k (regX c B) y).1 (nxt c),m,eff0):Q02×List Int×Q1)=(adv (Q1k c A (Qbh k (regX c B) y).1),m,eff0):=λh1 h2 hy=>by
   rw[alu_same h1 h2 (show U (regX c B) from hc.r _) hy,Z60,Z14 c hA]
 have uC:U (regX c C):=hc.r _
 have uI:U (IntKind.wrap .u32 Imm):=Q0g _
 obtain⟨⟨l1,l2⟩,⟨l3,l4⟩,⟨l5,l6⟩,⟨l7,l8⟩,⟨l9,l10⟩⟩:=ld_eq c m A B C Imm
 have hva:U (va c B Imm):=Q0g _
 rcases hop with rfl|rfl|rfl|rfl|rfl|rfl|rfl|rfl|rfl|rfl|rfl|rfl|rfl|rfl|rfl|rfl|rfl|rfl|rfl|rfl|rfl|rfl|rfl|rfl|rfl|rfl|rfl|rfl|rfl|rfl|rfl|rfl|rfl|rfl|rfl|rfl|rfl|rfl|rfl|rfl|rfl|rfl|rfl|rfl
 · exact(show Q4r c m ⟨1,A,B,C,Imm⟩=(setP c A (Q3e 1 (regX c B) (regX c C)).1 (nxt c),m,eff0) by kernel_rfl).trans ((alu (by decide) (by decide) uC).trans (by kernel_rfl))
 · exact(show Q4r c m ⟨2,A,B,C,Imm⟩=(setP c A (Q3e 2 (regX c B) (regX c C)).1 (nxt c),m,eff0) by kernel_rfl).trans ((alu (by decide) (by decide) uC).trans (by kernel_rfl))
 · exact(show Q4r c m ⟨3,A,B,C,Imm⟩=(setP c A (Q3e 3 (regX c B) (regX c C)).1 (nxt c),m,eff0) by kernel_rfl).trans ((alu (by decide) (by decide) uC).trans (by kernel_rfl))
 · exact(show Q4r c m ⟨4,A,B,C,Imm⟩=(setP c A (Q3e 4 (regX c B) (regX c C)).1 (nxt c),m,eff0) by kernel_rfl).trans ((alu (by decide) (by decide) uC).trans (by kernel_rfl))
 · exact(show Q4r c m ⟨5,A,B,C,Imm⟩=(setP c A (Q3e 5 (regX c B) (regX c C)).1 (nxt c),m,eff0) by kernel_rfl).trans ((alu (by decide) (by decide) uC).trans (by kernel_rfl))
 · exact(show Q4r c m ⟨6,A,B,C,Imm⟩=(setP c A (Q3e 6 (regX c B) (regX c C)).1 (nxt c),m,eff0) by kernel_rfl).trans ((alu (by decide) (by decide) uC).trans (by kernel_rfl))
 · exact(show Q4r c m ⟨7,A,B,C,Imm⟩=(setP c A (Q3e 7 (regX c B) (regX c C)).1 (nxt c),m,eff0) by kernel_rfl).trans ((alu (by decide) (by decide) uC).trans (by kernel_rfl))
 · exact(show Q4r c m ⟨8,A,B,C,Imm⟩=(setP c A (Q3e 8 (regX c B) (regX c C)).1 (nxt c),m,eff0) by kernel_rfl).trans ((alu (by decide) (by decide) uC).trans (by kernel_rfl))
 · exact(show Q4r c m ⟨9,A,B,C,Imm⟩=(setP c A (Q3e 9 (regX c B) (regX c C)).1 (nxt c),m,eff0) by kernel_rfl).trans ((alu (by decide) (by decide) uC).trans (by kernel_rfl))
 · exact(show Q4r c m ⟨10,A,B,C,Imm⟩=(setP c A (Q3e 10 (regX c B) (regX c C)).1 (nxt c),m,eff0) by kernel_rfl).trans ((alu (by decide) (by decide) uC).trans (by kernel_rfl))
 · exact(show Q4r c m ⟨11,A,B,C,Imm⟩=(setP c A (Q3e 11 (regX c B) (regX c C)).1 (nxt c),m,eff0) by kernel_rfl).trans ((alu (by decide) (by decide) uC).trans (by kernel_rfl))
 · exact(show Q4r c m ⟨12,A,B,C,Imm⟩=(setP c A (Q3e 12 (regX c B) (regX c C)).1 (nxt c),m,eff0) by kernel_rfl).trans ((alu (by decide) (by decide) uC).trans (by kernel_rfl))
 · exact(show Q4r c m ⟨13,A,B,C,Imm⟩=(setP c A (Q3e 13 (regX c B) (regX c C)).1 (nxt c),m,eff0) by kernel_rfl).trans ((alu (by decide) (by decide) uC).trans (by kernel_rfl))
 · exact(show Q4r c m ⟨16,A,B,C,Imm⟩=(setP c A (Q3e 16 (regX c B) (IntKind.wrap .u32 Imm)).1 (nxt c),m,eff0) by kernel_rfl).trans ((alu (by decide) (by decide) uI).trans (by kernel_rfl))
 · exact(show Q4r c m ⟨17,A,B,C,Imm⟩=(setP c A (Q3e 17 (regX c B) (IntKind.wrap .u32 Imm)).1 (nxt c),m,eff0) by kernel_rfl).trans ((alu (by decide) (by decide) uI).trans (by kernel_rfl))
 · exact(show Q4r c m ⟨18,A,B,C,Imm⟩=(setP c A (Q3e 18 (regX c B) (IntKind.wrap .u32 Imm)).1 (nxt c),m,eff0) by kernel_rfl).trans ((alu (by decide) (by decide) uI).trans (by kernel_rfl))
 · exact(show Q4r c m ⟨19,A,B,C,Imm⟩=(setP c A (Q3e 19 (regX c B) (IntKind.wrap .u32 Imm)).1 (nxt c),m,eff0) by kernel_rfl).trans ((alu (by decide) (by decide) uI).trans (by kernel_rfl))
 · exact(show Q4r c m ⟨20,A,B,C,Imm⟩=(setP c A (Q3e 20 (regX c B) (IntKind.wrap .u32 Imm)).1 (nxt c),m,eff0) by kernel_rfl).trans ((alu (by decide) (by decide) uI).trans (by kernel_rfl))
 · exact(show Q4r c m ⟨21,A,B,C,Imm⟩=(setP c A (Q3e 21 (regX c B) (IntKind.wrap .u32 Imm)).1 (nxt c),m,eff0) by kernel_rfl).trans ((alu (by decide) (by decide) uI).trans (by kernel_rfl))
 · exact(show Q4r c m ⟨22,A,B,C,Imm⟩=(setP c A (Q3e 22 (regX c B) (IntKind.wrap .u32 Imm)).1 (nxt c),m,eff0) by kernel_rfl).trans ((alu (by decide) (by decide) uI).trans (by kernel_rfl))
 · exact(show Q4r c m ⟨23,A,B,C,Imm⟩=(setP c A (Q3e 23 (regX c B) (IntKind.wrap .u32 Imm)).1 (nxt c),m,eff0) by kernel_rfl).trans ((alu (by decide) (by decide) uI).trans (by kernel_rfl))
 · refine(show Q4r c m ⟨24,A,B,C,Imm⟩=(setP c A (ishl .u32 (IntKind.wrap .u32 Imm) 16) (nxt c),m,eff0) by kernel_rfl).trans ?_
   rw[Z14 c hA,←Z60];kernel_rfl
 · have e:=Z5b h hc hst hA hva (.inr rfl) (f:=λv=>v) (g:=λv=>v) (λ_ _=>rfl)
   rw[←l1,←l2]at e
   refine(show Q4r c m ⟨32,A,B,C,Imm⟩=((Q57 c m ⟨32,A,B,C,Imm⟩).1,(Q57 c m ⟨32,A,B,C,Imm⟩).2,eff0) by kernel_rfl).trans ?_
   rw[e];kernel_rfl
 · have e:=Z5b h hc hst hA hva (.inl rfl) (f:=λv=>Q1t v 8) (g:=λv=>Q39 v 8) (λhm a=>sx_load hm a)
   rw[←l3,←l4]at e
   refine(show Q4r c m ⟨33,A,B,C,Imm⟩=((Q57 c m ⟨33,A,B,C,Imm⟩).1,(Q57 c m ⟨33,A,B,C,Imm⟩).2,eff0) by kernel_rfl).trans ?_
   rw[e];kernel_rfl
 · have e:=Z5b h hc hst hA hva (.inl rfl) (f:=λv=>v) (g:=λv=>v) (λ_ _=>rfl)
   rw[←l5,←l6]at e
   refine(show Q4r c m ⟨34,A,B,C,Imm⟩=((Q57 c m ⟨34,A,B,C,Imm⟩).1,(Q57 c m ⟨34,A,B,C,Imm⟩).2,eff0) by kernel_rfl).trans ?_
   rw[e];kernel_rfl
 · have e:=st_same h hc hst (A:=A) hva (.inr rfl)
   rw[←l7,←l8]at e
   refine(show Q4r c m ⟨35,A,B,C,Imm⟩=((Q6s c m ⟨35,A,B,C,Imm⟩).1,(Q6s c m ⟨35,A,B,C,Imm⟩).2,eff0) by kernel_rfl).trans ?_
   rw[e];kernel_rfl
 · have e:=st_same h hc hst (A:=A) hva (.inl rfl)
   rw[←l9,←l10]at e
   refine(show Q4r c m ⟨36,A,B,C,Imm⟩=((Q6s c m ⟨36,A,B,C,Imm⟩).1,(Q6s c m ⟨36,A,B,C,Imm⟩).2,eff0) by kernel_rfl).trans ?_
   rw[e];kernel_rfl
 · exact(show Q4r c m ⟨40,A,B,C,Imm⟩=((bif(Q1y 40 (regX c A) (regX c B)) then((⟨c.X,IntKind.wrap .u32 (c.Pc+IntKind.wrap .u32 (4*IntKind.wrap .u32 Imm)),c.B3⟩:Q02),eff0) else(⟨c.X,nxt c,c.B3⟩,eff0)).1,m,(bif(Q1y 40 (regX c A) (regX c B)) then((⟨c.X,IntKind.wrap .u32 (c.Pc+IntKind.wrap .u32 (4*IntKind.wrap .u32 Imm)),c.B3⟩:Q02),eff0) else(⟨c.X,nxt c,c.B3⟩,eff0)).2) by kernel_rfl).trans ((brc (Q1y 40 (regX c A) (regX c B)) ⟨c.X,IntKind.wrap .u32 (c.Pc+IntKind.wrap .u32 (4*IntKind.wrap .u32 Imm)),c.B3⟩ ⟨c.X,nxt c,c.B3⟩ m).trans (by kernel_rfl))
 · exact(show Q4r c m ⟨41,A,B,C,Imm⟩=((bif(Q1y 41 (regX c A) (regX c B)) then((⟨c.X,IntKind.wrap .u32 (c.Pc+IntKind.wrap .u32 (4*IntKind.wrap .u32 Imm)),c.B3⟩:Q02),eff0) else(⟨c.X,nxt c,c.B3⟩,eff0)).1,m,(bif(Q1y 41 (regX c A) (regX c B)) then((⟨c.X,IntKind.wrap .u32 (c.Pc+IntKind.wrap .u32 (4*IntKind.wrap .u32 Imm)),c.B3⟩:Q02),eff0) else(⟨c.X,nxt c,c.B3⟩,eff0)).2) by kernel_rfl).trans ((brc (Q1y 41 (regX c A) (regX c B)) ⟨c.X,IntKind.wrap .u32 (c.Pc+IntKind.wrap .u32 (4*IntKind.wrap .u32 Imm)),c.B3⟩ ⟨c.X,nxt c,c.B3⟩ m).trans (by kernel_rfl))
 · exact(show Q4r c m ⟨42,A,B,C,Imm⟩=((bif(Q1y 42 (regX c A) (regX c B)) then((⟨c.X,IntKind.wrap .u32 (c.Pc+IntKind.wrap .u32 (4*IntKind.wrap .u32 Imm)),c.B3⟩:Q02),eff0) else(⟨c.X,nxt c,c.B3⟩,eff0)).1,m,(bif(Q1y 42 (regX c A) (regX c B)) then((⟨c.X,IntKind.wrap .u32 (c.Pc+IntKind.wrap .u32 (4*IntKind.wrap .u32 Imm)),c.B3⟩:Q02),eff0) else(⟨c.X,nxt c,c.B3⟩,eff0)).2) by kernel_rfl).trans ((brc (Q1y 42 (regX c A) (regX c B)) ⟨c.X,IntKind.wrap .u32 (c.Pc+IntKind.wrap .u32 (4*IntKind.wrap .u32 Imm)),c.B3⟩ ⟨c.X,nxt c,c.B3⟩ m).trans (by kernel_rfl))
 · exact(show Q4r c m ⟨43,A,B,C,Imm⟩=((bif(Q1y 43 (regX c A) (regX c B)) then((⟨c.X,IntKind.wrap .u32 (c.Pc+IntKind.wrap .u32 (4*IntKind.wrap .u32 Imm)),c.B3⟩:Q02),eff0) else(⟨c.X,nxt c,c.B3⟩,eff0)).1,m,(bif(Q1y 43 (regX c A) (regX c B)) then((⟨c.X,IntKind.wrap .u32 (c.Pc+IntKind.wrap .u32 (4*IntKind.wrap .u32 Imm)),c.B3⟩:Q02),eff0) else(⟨c.X,nxt c,c.B3⟩,eff0)).2) by kernel_rfl).trans ((brc (Q1y 43 (regX c A) (regX c B)) ⟨c.X,IntKind.wrap .u32 (c.Pc+IntKind.wrap .u32 (4*IntKind.wrap .u32 Imm)),c.B3⟩ ⟨c.X,nxt c,c.B3⟩ m).trans (by kernel_rfl))
 · exact(show Q4r c m ⟨44,A,B,C,Imm⟩=((bif(Q1y 44 (regX c A) (regX c B)) then((⟨c.X,IntKind.wrap .u32 (c.Pc+IntKind.wrap .u32 (4*IntKind.wrap .u32 Imm)),c.B3⟩:Q02),eff0) else(⟨c.X,nxt c,c.B3⟩,eff0)).1,m,(bif(Q1y 44 (regX c A) (regX c B)) then((⟨c.X,IntKind.wrap .u32 (c.Pc+IntKind.wrap .u32 (4*IntKind.wrap .u32 Imm)),c.B3⟩:Q02),eff0) else(⟨c.X,nxt c,c.B3⟩,eff0)).2) by kernel_rfl).trans ((brc (Q1y 44 (regX c A) (regX c B)) ⟨c.X,IntKind.wrap .u32 (c.Pc+IntKind.wrap .u32 (4*IntKind.wrap .u32 Imm)),c.B3⟩ ⟨c.X,nxt c,c.B3⟩ m).trans (by kernel_rfl))
 · exact(show Q4r c m ⟨45,A,B,C,Imm⟩=((bif(Q1y 45 (regX c A) (regX c B)) then((⟨c.X,IntKind.wrap .u32 (c.Pc+IntKind.wrap .u32 (4*IntKind.wrap .u32 Imm)),c.B3⟩:Q02),eff0) else(⟨c.X,nxt c,c.B3⟩,eff0)).1,m,(bif(Q1y 45 (regX c A) (regX c B)) then((⟨c.X,IntKind.wrap .u32 (c.Pc+IntKind.wrap .u32 (4*IntKind.wrap .u32 Imm)),c.B3⟩:Q02),eff0) else(⟨c.X,nxt c,c.B3⟩,eff0)).2) by kernel_rfl).trans ((brc (Q1y 45 (regX c A) (regX c B)) ⟨c.X,IntKind.wrap .u32 (c.Pc+IntKind.wrap .u32 (4*IntKind.wrap .u32 Imm)),c.B3⟩ ⟨c.X,nxt c,c.B3⟩ m).trans (by kernel_rfl))
 · refine(show Q4r c m ⟨48,A,B,C,Imm⟩=(setP c A (nxt c) (IntKind.wrap .u32 ((Q8f c A (nxt c)).Pc+IntKind.wrap .u32 (4*IntKind.wrap .u32 Imm))),m,eff0) by kernel_rfl).trans ?_
   rw[Z14 c hA,Qrb c hA,(set_pc c A (nxt c)).1];kernel_rfl
 · refine(show Q4r c m ⟨49,A,B,C,Imm⟩=(setP c A (nxt c) (va c B Imm),m,eff0) by kernel_rfl).trans ?_
   rw[Z14 c hA];kernel_rfl
 · refine(show Q4r c m ⟨56,A,B,C,Imm⟩=(Q3r c 7 0,m,eff0) by kernel_rfl).trans ?_
   rw[Qiw hc.a0.1 hst];kernel_rfl
 · refine(show Q4r c m ⟨57,A,B,C,Imm⟩=(Qb c,m,eff0) by kernel_rfl).trans ?_
   rw[Z64 hc.a0.1 hst];kernel_rfl
 · refine(show Q4r c m ⟨58,A,B,C,Imm⟩=(setP c A (List.getD (A8.l c.B3) Imm.toNat 0) (nxt c),m,eff0) by kernel_rfl).trans ?_
   rw[Z14 c hA,←Z60];kernel_rfl
 · have e:=write_pc c (IntKind.wrap .i64 Imm) (regX c A)
   refine(show Q4r c m ⟨59,A,B,C,Imm⟩=((⟨(Qgg c (IntKind.wrap .i64 Imm) (regX c A)).X,IntKind.wrap .u32 (c.Pc+4),(Qgg c (IntKind.wrap .i64 Imm) (regX c A)).B3⟩:Q02),m,eff0) by kernel_rfl).trans ?_
   rw[←e];kernel_rfl
 · exact(show Q4r c m ⟨60,A,B,C,Imm⟩=((Qg6 c m ⟨60,A,B,C,Imm⟩).1,(Qg6 c m ⟨60,A,B,C,Imm⟩).2.2,(Qg6 c m ⟨60,A,B,C,Imm⟩).2.1) by kernel_rfl)
 · exact(show Q4r c m ⟨61,A,B,C,Imm⟩=((Qg6 c m ⟨61,A,B,C,Imm⟩).1,(Qg6 c m ⟨61,A,B,C,Imm⟩).2.2,(Qg6 c m ⟨61,A,B,C,Imm⟩).2.1) by kernel_rfl)
 · exact(show Q4r c m ⟨62,A,B,C,Imm⟩=((Qg6 c m ⟨62,A,B,C,Imm⟩).1,(Qg6 c m ⟨62,A,B,C,Imm⟩).2.2,(Qg6 c m ⟨62,A,B,C,Imm⟩).2.1) by kernel_rfl)
 · exact(show Q4r c m ⟨63,A,B,C,Imm⟩=((Qg6 c m ⟨63,A,B,C,Imm⟩).1,(Qg6 c m ⟨63,A,B,C,Imm⟩).2.2,(Qg6 c m ⟨63,A,B,C,Imm⟩).2.1) by kernel_rfl)
 · exact(show Q4r c m ⟨64,A,B,C,Imm⟩=((Qg6 c m ⟨64,A,B,C,Imm⟩).1,(Qg6 c m ⟨64,A,B,C,Imm⟩).2.2,(Qg6 c m ⟨64,A,B,C,Imm⟩).2.1) by kernel_rfl)
end
theorem form_op{op:Int}(h0:0≤op)(h1:op<256)(h:Q1v op≠0):isOp op:=by
 have e:=of_decide_eq_true (Qmy (λop=>decide (Q1v op=0∨isOpB op=true)) 256 (by kernel_rfl) h0 h1)
 rcases e with e|e
 · exact absurd e h
 · simpa only[isOpB,isOp,Bool.or_eq_true,decide_eq_true_eq,or_assoc] using e
theorem isOp_le{op:Int}(o:isOp op):1≤op∧op≤64:=by
 unfold isOp at o
 rcases o with h|h|h|h|h|h|h|h|h|h|h|h|h|h|h|h|h|h|h|h|h|h|h|h|h|h|h|h|h|h|h|h|h|h|h|h|h|h|h|h|h|h|h|h<;>(rw[h];decide)
theorem decode_op{w:Int}(hw:U w):(Q3z w).2=true→isOp (Q3z w).1.Op:=by
  have s24:ishr .u32 w 24=w/16777216:=by have:=Qkv (a:=w) 24 (by decide);simpa using this
  obtain⟨w0,w1⟩:=hw
  have eo:IntKind.wrap .i64 (w/16777216)=w/16777216:=w64 (by omega) (by omega)
  have q:(λr:Q0e×Bool=>r.2=true→isOp r.1.Op) (Q3z w):=by
    simp only[Q3z,Q9q,Tree.m,letv,s24,eo]
    cases hf:Q1v (w/16777216)==0
    · have g:isOp (w/16777216):=form_op (by omega) (by omega) (by simpa using hf)
      repeat'(first
        |exact λ_=>g
        |exact λe=>Bool.noConfusion (show false=true from e)
        |refine Qtn (Q:=λr:Q0e×Bool=>r.2=true→isOp r.1.Op) ?_ ?_)
    · exact λe=>Bool.noConfusion (show false=true from e)
  exact q
section
variable (c:Q02) (m:List Int)
def doR(x:Int×Int×List Int)(w:Int)(d:Q0e×Bool):Q02×Q1×List Int:=
 bif x.2.1 !=0 then(Q2i c x.2.1 c.Pc,eff0,x.2.2) else bif !d.2 then(Q2i c 1 w,eff0,x.2.2) else bif Q5p d.1.Op then(bif iand .u32 c.B3.a0 1==0 then(Q2i c 2 w,eff0,x.2.2) else Qg6 c x.2.2 d.1) else Qg6 c x.2.2 d.1
def doP(y:Int×List Int×Int)(d:Q0e×Bool):Q02×List Int×Q1:=
 bif y.2.2 !=0 then(Q3r c y.2.2 c.Pc,y.2.1,eff0) else bif !d.2 then(Q3r c 1 y.1,y.2.1,eff0) else bif Q72 d.1.Op then(bif !Q9f c then(Q3r c 2 y.1,y.2.1,eff0) else Q4r c y.2.1 d.1) else Q4r c y.2.1 d.1
theorem do_eq:Qcm c m=doR c (Q0w c m c.Pc 4 1) (Q23 (Q0w c m c.Pc 4 1).2.2 (Q0w c m c.Pc 4 1).1 4).1 (Q3z (Q23 (Q0w c m c.Pc 4 1).2.2 (Q0w c m c.Pc 4 1).1 4).1):=by kernel_rfl
theorem exec_eq:Q81 c m=doP c (Qix c m) (Qdm (Qix c m).1):=by kernel_rfl
theorem fetch_eq:Qix c m=bif(Q1n c m c.Pc 4 1).2.2 !=0 then(0,(Q1n c m c.Pc 4 1).2.1,(Q1n c m c.Pc 4 1).2.2) else((Q3v (Q1n c m c.Pc 4 1).2.1 (Q1n c m c.Pc 4 1).1 4).1,(Q1n c m c.Pc 4 1).2.1,0):=by kernel_rfl
end
theorem exec_same{P:Nat}{m:List Int}(h:Q0q P m){c:Q02}(hc:Q2f c)(hst:c.B3.a0≤31):Q81 c m=((Qcm c m).1,(Qcm c m).2.2,(Qcm c m).2.1):=by
  obtain⟨k,u,b⟩:=Z45 h hc hc.pc (.inr rfl) 1
  have tr: ∀k b,Q3r c k b=Q2i c k b:=Qiw hc.a0.1 hst
  rw[exec_eq,do_eq,fetch_eq,Qjh h hc hst hc.pc (.inr rfl) (.inl rfl)]
  generalize Q0w c m c.Pc 4 1=x at*
  cases hx:x.2.1 !=0
  · rw [Qio k u (.inr rfl)]
    have hw:U (Q23 x.2.2 x.1 4).1:=(Tree.pp (Z70 k u (.inr rfl))).2
    generalize(Q23 x.2.2 x.1 4).1=w at*
    show doP c (w,x.2.2,0) (Qdm w)=_
    rw[decode_eq hw]
    have o:=decode_op hw
    have i:=Tree.post _ (Z80 w)
    change(Q3z w).2=true→Qbv (Q3z w).1 at i
    generalize Q3z w=d at*
    obtain⟨⟨op,A,B,C,Imm⟩,ok⟩:=d
    cases ok
    · simp only[doP,doR,hx,tr];rfl
    · have o:isOp op:=o rfl
      have i:=i rfl
      have p:=post_same (C:=C) (B:=B) (Imm:=Imm) k hc hst i.a o
      have pv:Q72 op=Q5p op:=priv_eq (by have:=isOp_le o;omega) (by have:=isOp_le o;omega)
      have kn:(!Q9f c)=(iand .u32 c.B3.a0 1==0):=by
        show(!(!(iand .u32 c.B3.a0 1==0)))=_
        exact Bool.not_not _
      simp only[doP,doR,hx,tr,pv,kn,p]
      cases Q5p op
      · rfl
      · cases iand .u32 c.B3.a0 1==0<;>rfl
  · simp only[doP,doR,hx,cond_true,tr]
theorem ge_not{a b:Int}:decide (a≥b)=!decide (a<b):=by
 by_cases h:a<b
 · rw[decide_eq_true h,decide_eq_false (by omega)];rfl
 · rw[decide_eq_false h,decide_eq_true (by omega)];rfl
def bits(g:Int)(l:List Nat)(s:Int):Int:=l.foldl (λ(a:Int) (i:Nat)=>IntKind.wrap .i64 (a+IntKind.wrap .i64 (iand .u32 (ishr .u32 g (i:Int)) 1))) s
theorem given_eq(b:Q06):Qdl b=bits b.B9 [0,1,2,3,4,5,6,7,8,9,10,11,12,13,14,15,16,17,18,19,20,21,22,23,24,25,26,27,28,29,30,31] 0:=by kernel_rfl
theorem bit_eq{g:Int}(hg:U g){i:Nat}(hi:i≤32):IntKind.wrap .i64 (iand .u32 (ishr .u32 g (i:Int)) 1)=g/2^i%2:=by
 rw[and1 (Qog hg _),Qkv i hi]
 have:0≤g/2^i%2∧g/2^i%2<2:=by omega
 exact w64 (by omega) (by omega)
theorem bits_sum{g:Int}(hg:U g)(l:List Nat): ∀s:Int,(∀i∈l,i≤32)→0≤s→s+l.length≤1000→bits g l s=s+(l.map λi=>g/2^i%2).sum:=by
 induction l with
 |nil=>intro s _ _ _;simp [bits]
 | cons i l ih=>
   intro s hl h0 h1
   have h1:s+(l.length+1)≤1000:=by simpa using h1
   have hb:0≤g/2^i%2∧g/2^i%2<2:=by omega
   have e:bits g (i::l) s=bits g l (s+g/2^i%2):=by
     show bits g l (IntKind.wrap .i64 (s+IntKind.wrap .i64 (iand .u32 (ishr .u32 g (i:Int)) 1)))=_
     rw[bit_eq hg (hl i (by simp)),w64 (by omega) (by omega)]
   rw[e,ih _ (λj hj=>hl j (by simp [hj])) (by omega) (by omega)]
   simp;omega
theorem Z9n(n:Q0j)(port:Int):Qsj n port=Qjq n port:=by
 simp only[Qsj,Qm6,Qjq,Qff,Tree.m]
 cases n.C2<;>cases n.B5<;>rfl
theorem Qvu(t:Q0f):Q4m t=Qd1 t:=by
 simp only[Q4m,Qh,Qd1,Qiq,Tree.m]
 cases t.D3<;>cases t.D2<;>rfl
theorem Z2j(n:Q0j)(p:Int):Q5s n p=Qh9 n p:=by
 simp only[Q5s,Qgq,Qh9,Qmr,Tree.m]
 cases n.C2<;>cases n.B5<;>rfl
theorem Qzx(d:Q09)(p:Int):Q14 d p=Qf5 d p:=by
  simp only[Q14,Q4x,Q7k,Q5m,Qf5,Qko,Tree.m,letv,ge_not]
  cases decide (d.Blocks>64)
  · by_cases s:d.B7=0∨d.B7=1∨d.B7=2∨d.B7=3
    · rcases s with s|s|s|s<;>rw[s]
      · rfl
      · by_cases c1:d.D6=1
        · rw[c1];cases decide (d.B2<d.Blocks)<;>cases decide (IntKind.wrap .i64 d.A9<p)<;>cases decide (d.C0=[])<;>rfl
        · by_cases c2:d.D6=2
          · rw[c2];cases decide (d.B2<d.Blocks)<;>cases decide (IntKind.wrap .i64 d.A9<p)<;>cases(d.C0.length:Int)==128<;>rfl
          · rw[show(d.D6==1)=false by simpa using c1,show(d.D6==2)=false by simpa using c2]
            cases decide (d.B2<d.Blocks)<;>cases decide (IntKind.wrap .i64 d.A9<p)<;>rfl
      · rfl
      · rfl
    · rw[show(d.B7==0)=false by simp;omega,show(d.B7==1)=false by simp;omega,show(d.B7==2)=false by simp;omega,show(d.B7==3)=false by simp;omega]
      by_cases n:d.B7<0
      · rw[decide_eq_true n];rfl
      · rw[decide_eq_false n,decide_eq_true (show d.B7>3 by omega)];rfl
  · rfl
theorem con_same(c:Q0a):Q7f c=Q6g c:=by
 show(!decide (c.C9=[]))=decide ((c.C9.length:Int)>0)
 cases c.C9 with
 |nil=>rfl
 |cons a l=>rw[decide_eq_false (by simp),decide_eq_true (by simp)];rfl
theorem len_nil(k:List UInt8):decide (k=[])=((k.length:Int)==0):=by
 cases k with
 |nil=>rfl
 | cons a l=>
   rw[decide_eq_false (by simp)]
   exact(beq_eq_false_iff_ne.2 (by simp;omega)).symm
theorem Z8n(c:Q0a)(port:Int):Qjw c port=Q6z c port:=by
 simp only[Qjw,Q7j,Q6z,Q6l,Tree.m,len_nil]
 cases port==0
 · rfl
 · cases(c.C9.length:Int)==0<;>rfl
theorem arm_same(t:Q0f)(v:Int):Qgu t v=Qzg v:=by
 simp only[Qgu,Qh0,Qzg,Qw5,Tree.m]
 cases h:v==0
 · rw[show(v !=0)=true by simp only[bne,h];rfl];rfl
 · rw[show(v !=0)=false by simp only[bne,h];rfl,eq_of_beq h];rfl
section
variable {P:Nat} {m:List Int} (h:Q0q P m)
include h
theorem Qwy(f:Int):Q7p m f=Q1s m f:=by
 have a:=Q2y h
 have b:=Qbf h
 simp only[Q7p,Q9o,Q1s,Qh2,Tree.m,letv,a,b]
theorem Qwp(f:Int):Q82 m f=Q1s m f:=by
 have a:=Q2y h
 have b:=Qbf h
 simp only[Q82,Qc7,Q1s,Qh2,Tree.m,letv,a,b]
theorem Z0x(d:Q09)(port:Int)(v:Int)(at0:Int):Qr7 d m port v at0=Qj4 d m port v at0:=by
  have pg:=Qwy h
  have pa:=Z3r h
  have rq: ∀d a,Qfd d a=Qik d a:=λ_ _=>rfl
  simp only[Qr7,Q99,Qnl,Q5u,Qj4,Q8r,Tree.m,letv,pg,pa,rq]
  cases port==4
  · cases port==5
    · cases h6:port==6
      · rw[show(port !=6)=true by simp only[bne,h6];rfl];rfl
      · rw [show(port !=6)=false by simp only[bne,h6];rfl]
        by_cases v1:v=1
        · subst v1
          cases hs:d.B7==0
          · rw[show(d.B7 !=0)=true by simp only[bne,hs];rfl];rfl
          · rw[show(d.B7 !=0)=false by simp only[bne,hs];rfl];rfl
        · by_cases v2:v=2
          · subst v2
            cases hs:d.B7==0
            · rw[show(d.B7 !=0)=true by simp only[bne,hs];rfl];rfl
            · rw[show(d.B7 !=0)=false by simp only[bne,hs];rfl];rfl
          · rw[show(v==1)=false by simpa using v1,show(v==2)=false by simpa using v2]
            cases v==0
            · rfl
            · have:Q7x d=(bif d.B7==2 then true else d.B7==3):=rfl
              rw[this]
              cases d.B7==2<;>cases d.B7==3<;>rfl
    · rfl
  · rfl
theorem Z4c(n:Q0j)(port:Int)(v:Int)(at0:Int):Qyt n m port v at0=Qkx n m port v at0:=by
  have pg:=Qwp h
  have pa:=Z3r h
  simp only[Qyt,Qca,Qys,Q9b,Qkx,Qa6,Tree.m,letv,pg,pa]
  have g1:decide (n.D9≥1)=!decide (n.D9<1):=ge_not
  have g2:decide (n.D9≤128)=!decide (n.D9>128):=by
    by_cases h:n.D9>128
    · rw[decide_eq_true h,decide_eq_false (by omega)];rfl
    · rw[decide_eq_false h,decide_eq_true (by omega)];rfl
  rw[g1,g2]
  cases port==7
  · cases port==8
    · cases h9:port==9
      · rw[show(port !=9)=true by simp only[bne,h9];rfl];rfl
      · rw [show(port !=9)=false by simp only[bne,h9];rfl]
        by_cases v1:v=1
        · subst v1
          cases decide (n.D9<1)<;>cases decide (n.D9>128)<;>cases Q1s m n.B0<;>rfl
        · by_cases v2:v=2
          · subst v2;rfl
          · rw[show(v==1)=false by simpa using v1,show(v==2)=false by simpa using v2]
            cases v==0<;>rfl
    · rfl
  · rfl
theorem Z0j{d:Q09}(hd:Q79 d)(e:Q0m):Qd5 d m e=((Qee d m e).1,(Qee d m e).2.2,(Qee d m e).2.1):=by
  have hcl:Q01 m=m:=rfl
  have pg:=Qwy h d.A9
  have lp:decide ((e.C7.length:Int)>0)=!decide (e.C7=[]):=by
    cases e.C7 with
    |nil=>rfl
    |cons a l=>rw[decide_eq_true (by simp),decide_eq_false (by simp)];rfl
  have bad:(e.C7.length:Int)≠128→Q1s m d.A9=true→Q2c m (IntKind.wrap .i64 d.A9) e.C7=(m,false):=λhl hp=>by
    rw[Qh4 h hd.opFrame]at hp
    have hp:=of_decide_eq_true hp
    have h1:=hd.opFrame.1
    have h3:=h.p2
    have ew:IntKind.i64.wrap d.A9=d.A9:=w64 (by omega) (by omega)
    simp only[Q2c,Q1x,Tree.m,letv,hcl,ew,Qxz h,decide_eq_true (⟨h1,hp⟩:0≤d.A9∧d.A9<P),show((e.C7.length:Int) !=128)=true by simpa using hl]
    rfl
  have good:(e.C7.length:Int)=128→Q1s m d.A9=true→Q2c m (IntKind.wrap .i64 d.A9) e.C7=(Qj m (IntKind.wrap .i64 d.A9) e.C7,true):=λhl hp=>by
    rw[Qh4 h hd.opFrame]at hp
    have hp:=of_decide_eq_true hp
    have h1:=hd.opFrame.1
    have h3:=h.p2
    have ew:IntKind.i64.wrap d.A9=d.A9:=w64 (by omega) (by omega)
    rw[ew];exact Z2x h h1 hp (by omega)
  simp only[Qd5,Q3n,Qee,Qa3,Tree.m,letv,hcl,pg,lp]
  cases d.B7 !=1
  · cases e.C1 !=4
    · cases decide (e.N>1)
      · cases e.N==1
        · cases decide (e.C7=[])<;>rfl
        · cases hc:d.D6==1
          · cases decide (e.C7=[])<;>rfl
          · by_cases hl:(e.C7.length:Int)=128
            · rw[show((e.C7.length:Int) !=128)=false by simpa using hl]
              cases hp:Q1s m d.A9
              · rfl
              · rw[good hl hp];rfl
            · rw[show((e.C7.length:Int) !=128)=true by simpa using hl]
              cases hp:Q1s m d.A9
              · rfl
              · rw[bad hl hp];rfl
      · rfl
    · rfl
  · rfl
theorem Z2o{n:Q0j}(hn:Qf2 n)(frame:List UInt8):Qhj n m frame=((Qey n m frame).1,(Qey n m frame).2.2,(Qey n m frame).2.1):=by
  have hcl:Q01 m=m:=rfl
  have pg:=Qwp h n.B8
  simp only[Qhj,Q56,Qey,Q9j,Tree.m,letv,hcl,pg]
  cases !n.C2
  · cases decide ((frame.length:Int)<1)
    · cases hf:decide ((frame.length:Int)>128)
      · cases hp:Q1s m n.B8
        · rfl
        · rw[Qh4 h hn.buffer]at hp
          have hp:=of_decide_eq_true hp
          have h1:=hn.buffer.1
          have h3:=h.p2
          have ew:IntKind.i64.wrap n.B8=n.B8:=w64 (by omega) (by omega)
          have hf:=of_decide_eq_false hf
          obtain⟨b1,b2⟩:=(Tree.pp (mpage_b h h1 hp)).2
          change isPg m n.B8 (Q4f m n.B8).1 at b1
          have tk:List.take (Int.toNat ((Q4f m n.B8).1.length:Int)-Int.toNat (frame.length:Int)) (List.drop (Int.toNat (frame.length:Int)) (Q4f m n.B8).1)=(Q4f m n.B8).1.drop frame.length:=by
            rw[Int.toNat_natCast,Int.toNat_natCast]
            exact List.take_of_length_le (by simp)
          rw[ew,tk,Z3u h h1 hp (by omega) b1]
          rfl
      · rfl
    · rfl
  · rfl
end
def ptab:List UInt8:=(List.range 256).map λn=>UInt8.ofNat (n%2+n/2%2+n/4%2+n/8%2+n/16%2+n/32%2+n/64%2+n/128%2)
def pt(n:Int):Int:=((UInt8.toNat (ptab.getD n.toNat 0):Nat):Int)
theorem pop_form(x:Int):Q52 x=IntKind.wrap .i64 (IntKind.wrap .u8 (IntKind.wrap .u8 (IntKind.wrap .u8 (pt (ishr .u32 x 24)+pt (iand .u32 (ishr .u32 x 16) 255))+pt (iand .u32 (ishr .u32 x 8) 255))+pt (iand .u32 x 255))):=by kernel_rfl
theorem pt8{a:Int}(h0:0≤a)(h1:a<256):pt a=a%2+a/2%2+a/4%2+a/8%2+a/16%2+a/32%2+a/64%2+a/128%2:=
 eq_of_beq (Qmy (λa=>pt a==a%2+a/2%2+a/4%2+a/8%2+a/16%2+a/32%2+a/64%2+a/128%2) 256 (by kernel_rfl) h0 h1)
theorem given_sum{g:Int}(hg:U g):bits g [0,1,2,3,4,5,6,7,8,9,10,11,12,13,14,15,16,17,18,19,20,21,22,23,24,25,26,27,28,29,30,31] 0=pt (g%256)+pt (g/256%256)+pt (g/65536%256)+pt (g/16777216):=by
 rw[bits_sum hg _ 0 (by decide) (by decide) (by decide),pt8 (by omega) (by omega),pt8 (by omega) (by omega),pt8 (by omega) (by omega),pt8 (by have:=hg.1;omega) (by have:=hg.2;omega)]
 obtain⟨g0,g1⟩:=hg
 simp only[List.map_cons,List.map_nil,List.sum_cons,List.sum_nil]
 have e: ∀i j:Nat,∀k:Int,i<8→k=2^j→g/2^(i+j)%2=(g/k%256)/2^i%2:=λi j k hi hk=>by
   subst hk
   rw[Nat.add_comm,Int.pow_add,←Int.ediv_ediv_of_nonneg (Int.le_of_lt (Int.pow_pos (by decide)))]
   generalize g/2^j=x
   have:i=0∨i=1∨i=2∨i=3∨i=4∨i=5∨i=6∨i=7:=by omega
   rcases this with rfl|rfl|rfl|rfl|rfl|rfl|rfl|rfl<;>simp<;>omega
 have e0: ∀i:Nat,i<8→g/2^i%2=(g%256)/2^i%2:=λi hi=>by have:=e i 0 1 hi rfl;simpa using this
 have e24:g/16777216%256=g/16777216:=by omega
 rw[e0 0 (by decide),e0 1 (by decide),e0 2 (by decide),e0 3 (by decide),e0 4 (by decide),e0 5 (by decide),e0 6 (by decide),e0 7 (by decide)]
 rw[e 0 8 256 (by decide) (by decide),e 1 8 256 (by decide) (by decide),e 2 8 256 (by decide) (by decide),e 3 8 256 (by decide) (by decide),e 4 8 256 (by decide) (by decide),e 5 8 256 (by decide) (by decide),e 6 8 256 (by decide) (by decide),e 7 8 256 (by decide) (by decide)]
 rw[e 0 16 65536 (by decide) (by decide),e 1 16 65536 (by decide) (by decide),e 2 16 65536 (by decide) (by decide),e 3 16 65536 (by decide) (by decide),e 4 16 65536 (by decide) (by decide),e 5 16 65536 (by decide) (by decide),e 6 16 65536 (by decide) (by decide),e 7 16 65536 (by decide) (by decide)]
 rw[e 0 24 16777216 (by decide) (by decide),e 1 24 16777216 (by decide) (by decide),e 2 24 16777216 (by decide) (by decide),e 3 24 16777216 (by decide) (by decide),e 4 24 16777216 (by decide) (by decide),e 5 24 16777216 (by decide) (by decide),e 6 24 16777216 (by decide) (by decide),e 7 24 16777216 (by decide) (by decide),e24]
 generalize g%256=a
 generalize g/256%256=b
 generalize g/65536%256=c
 generalize g/16777216=d
 simp only[show(2:Int)^0=1 from rfl,show(2:Int)^1=2 from rfl,show(2:Int)^2=4 from rfl,show(2:Int)^3=8 from rfl,show(2:Int)^4=16 from rfl,show(2:Int)^5=32 from rfl,show(2:Int)^6=64 from rfl,show(2:Int)^7=128 from rfl,Int.ediv_one]
 omega
theorem pt_le{a:Int}(h0:0≤a)(h1:a<256):0≤pt a∧pt a≤8:=by rw[pt8 h0 h1];omega
theorem Qwf{b:Q06}(hg:U b.B9):Qa2 b=Qdl b∧0≤Qdl b∧Qdl b≤32:=by
 obtain⟨s8,s16,s24⟩:=shr_c b.B9
 have u8:U (ishr .u32 b.B9 8):=Qog hg _
 have u16:U (ishr .u32 b.B9 16):=Qog hg _
 have e:Qa2 b=Q52 b.B9:=rfl
 rw[e,pop_form,given_eq,given_sum hg,m255 u8,m255 u16,m255 hg,s8,s16,s24]
 obtain⟨g0,g1⟩:=hg
 have p0:=pt_le (a:=b.B9%256) (by omega) (by omega)
 have p1:=pt_le (a:=b.B9/256%256) (by omega) (by omega)
 have p2:=pt_le (a:=b.B9/65536%256) (by omega) (by omega)
 have p3:=pt_le (a:=b.B9/16777216) (by omega) (by omega)
 have w8: ∀x,IntKind.wrap .u8 x=x%256:=λx=>IntKind.wrap_u8 x
 rw[w8,w8,w8,IntKind.wrap_i64]
 omega
theorem Z3e{b:Q06}(h:okB b):Q5q b=Q4g b:=by
 obtain⟨e,l0,l1⟩:=Qwf h.2
 obtain⟨t0,t1⟩:=h.1
 simp only[Q5q,Q2h,Q4g,Qbz,Tree.m,letv,e]
 rw[IntKind.wrap_u32,IntKind.wrap_u64,IntKind.wrap_u64,Int.emod_eq_of_lt l0 (by omega),Int.emod_eq_of_lt l0 (by omega),Int.emod_eq_of_lt t0 (by omega)]
theorem Z8d{b:Q06}(h:okB b)(port:Int):Qk5 b port=Q70 b port:=by
 simp only[Qk5,Q5x,Q70,Q6n,Tree.m,letv,(Qwf h.2).1]
theorem bit_pow(g:Int)(z:Nat):g%2^(z+1)=g%2^z+2^z*(g/2^z%2):=by
 have hp:(0:Int)<2^z:=Int.pow_pos (by decide)
 have h1:=Int.mul_ediv_add_emod g (2^z)
 have h2:=Int.mul_ediv_add_emod (g/2^z) 2
 have h3:(g/2^z)/2=g/2^(z+1):=by rw[Int.pow_succ,Int.ediv_ediv_of_nonneg (Int.le_of_lt hp)]
 have h4:=Int.mul_ediv_add_emod g (2^(z+1))
 rw[h3]at h2
 have h5:(2:Int)^(z+1)*(g/2^(z+1))=2^z*(2*(g/2^(z+1))):=by rw[Int.pow_succ,Int.mul_assoc]
 have h6:(2:Int)^z*(g/2^z)=2^z*(2*(g/2^(z+1)))+2^z*(g/2^z%2):=by rw[←Int.mul_add,h2]
 omega
theorem rbal_w{b:Q06}(hg:U b.B9){P:Nat}(hP:P≤32):(Qat b P).w (λr=>r=decide (b.B9<2^P)):=by
 unfold Qat
 have fin: ∀v:Int,0≤v→v≤32→IntKind.wrap .u64 v=(v.toNat:Int):=λv h0 h1=>by rw[IntKind.wrap_u64];omega
 refine w_lp (inv:=λz:Int=>0≤z∧z≤32∧b.B9%2^z.toNat<2^P) (μ:=Qbk b P) ⟨by decide,by decide,by have:(0:Int)<2^P:=Int.pow_pos (by decide);simpa using this⟩ (Nat.lt_succ_self _) λz ⟨z0,z1,z2⟩=> ?_
 refine w_br (λhb=> ?_) (λhb=> ?_)
 · have hb:=of_decide_eq_true hb
   have ew:IntKind.i64.wrap (z+1)=z+1:=w64 (by omega) (by omega)
   have bt:iand .u32 (ishr .u32 b.B9 (IntKind.wrap .u64 z)) 1=b.B9/2^z.toNat%2:=by
     rw[fin z z0 z1,and1 (Qog hg _),Qkv _ (by omega)]
   have bp:=bit_pow b.B9 z.toNat
   have zt:(z+1).toNat=z.toNat+1:=by omega
   refine w_cn (decide_eq_true (by rw[IntKind.wrap_u64];omega)) ?_
   rw[bt]
   refine w_br (λe=>w_br (λhp=> ?_) (λhp=>w_nx ?_)) (λe=>w_nx ?_)
   · have e:=eq_of_beq e
     have hp:=of_decide_eq_true hp
     show false=_
     refine(decide_eq_false λhlt=> ?_).symm
     have hle:(2:Int)^P≤2^z.toNat:=by exact_mod_cast Nat.pow_le_pow_right (show 0<2 by decide) (show P≤z.toNat by omega)
     have:b.B9/2^z.toNat=0:=Int.ediv_eq_zero_of_lt hg.1 (by omega)
     rw[this]at e;cases e
   · have e:=eq_of_beq e
     have hp:=of_decide_eq_false hp
     show(0≤IntKind.i64.wrap (z+1)∧IntKind.i64.wrap (z+1)≤32∧b.B9%2^(IntKind.i64.wrap (z+1)).toNat<2^P)∧(32-IntKind.i64.wrap (z+1)).toNat<(32-z).toNat
     rw[ew,zt]
     have hle:(2:Int)^(z.toNat+1)≤2^P:=by exact_mod_cast Nat.pow_le_pow_right (show 0<2 by decide) (show z.toNat+1≤P by omega)
     have:=Int.emod_lt_of_pos b.B9 (show(0:Int)<2^(z.toNat+1) from Int.pow_pos (by decide))
     exact⟨⟨by omega,by omega,by omega⟩,by omega⟩
   · have e: ¬b.B9/2^z.toNat%2=1:=by simpa using e
     have e:b.B9/2^z.toNat%2=0:=by omega
     rw[e]at bp
     show(0≤IntKind.i64.wrap (z+1)∧IntKind.i64.wrap (z+1)≤32∧b.B9%2^(IntKind.i64.wrap (z+1)).toNat<2^P)∧(32-IntKind.i64.wrap (z+1)).toNat<(32-z).toNat
     rw[ew,zt,bp]
     exact⟨⟨by omega,by omega,by omega⟩,by omega⟩
 · have hb:=of_decide_eq_false hb
   have:z=32:=by omega
   subst this
   show true=_
   refine(decide_eq_true ?_).symm
   have h2:b.B9%2^(32:Int).toNat=b.B9:=Int.emod_eq_of_lt hg.1 hg.2
   rwa [h2]at z2
theorem Z4s{b:Q06}(hg:U b.B9){P:Nat}(hP:P≤32):Q2p b P=Q9t b P:=by
 have r:=(Tree.pp (rbal_w hg hP)).2
 change Q9t b P=_ at r
 rw[r,Bool.eq_iff_iff,Qsh hg,decide_eq_true_eq]
theorem zeros:strings_Repeat [(0:UInt8)] 128=List.replicate 128 0:=by kernel_rfl
theorem give_b{P:Nat}{m:List Int}(hm:Q0q P m){b:Q06}{port:Int}{v:Int}(hv:U v)(hp:v<P)(h10:port=10)(hb:(iand .u32 (ishr .u32 b.B9 v) 1==0)=true):(Q4p b m port v).w (λr=>r.1={C4:=b.C4,B9:=ior .u32 b.B9 (ishl .u32 1 v)}∧Q0q P r.2∧ ∀k:Nat,byt r.2 k=if v*128≤k∧(k:Int)<v*128+128 then 0 else byt m k):=by
 have hv0:decide (0≤v)=true:=decide_eq_true hv.1
 have h2:=hm.p2
 have pg:Q1s m v=true:=by rw[Qh4 hm hv];exact decide_eq_true hp
 obtain⟨v1,v2⟩:=hv
 subst h10
 unfold Q4p
 refine w_br (λ_=>w_lv λx0 hx=>w_br (λ_=>w_cn hv0 (w_br (λ_=>w_cn hv0 ?_) (λh=>by rw[hb]at h;cases h))) (λh=>by rw[hx,pg]at h;cases h)) (λh=>by cases h)
 refine w_lp (inv:=λz=>0≤z.1∧z.1≤32∧Q0q P z.2∧ ∀k:Nat,byt z.2 k=if v*128≤k∧(k:Int)<v*128+4*z.1 then 0 else byt m k) (μ:=Qdp b m 10 v) ⟨show(0:Int)≤0 by decide,show(0:Int)≤32 by decide,hm,λk=>by rw[if_neg];show¬(_∧_<_+4*(0:Int));omega⟩ (Nat.lt_succ_self _) (λz hz=> ?_)
 obtain⟨z1,z2,z3,z4⟩:=hz
 have hl:=z3.len
 refine w_br (λh=> ?_) (λh=>⟨rfl,z3,λk=> ?_⟩)
 · have h:=of_decide_eq_true h
   have e:IntKind.wrap IntKind.i64 (IntKind.wrap IntKind.i64 (IntKind.wrap IntKind.i64 v*32)+z.1)=v*32+z.1:=by rw[IntKind.wrap_i64,IntKind.wrap_i64,IntKind.wrap_i64];omega
   refine w_cn (by rw[e];simp [Nat.blt];omega) (w_nx ?_)
   have ew:IntKind.i64.wrap (z.1+1)=z.1+1:=by rw[IntKind.wrap_i64];omega
   show(0≤IntKind.i64.wrap (z.1+1)∧IntKind.i64.wrap (z.1+1)≤32∧Q0q P (List.set _ _ _)∧ ∀k:Nat,byt (List.set z.2 (Int.toNat (IntKind.wrap IntKind.i64 (IntKind.wrap IntKind.i64 (IntKind.wrap IntKind.i64 v*32)+z.1))) 0) k=if v*128≤(k:Int)∧(k:Int)<v*128+4*IntKind.i64.wrap (z.1+1) then 0 else _)∧(32-IntKind.i64.wrap (z.1+1)).toNat<(32-z.1).toNat
   rw[ew,e]
   refine⟨⟨by omega,by omega,⟨by simp [hl],z3.p1,z3.p2,Qvk z3.u U_0 _⟩,λk=> ?_⟩,by omega⟩
   rw[Z4o (by omega)]
   by_cases hc:k/4=(v*32+z.1).toNat
   · rw[if_pos hc,if_pos (by omega)]
     have:k%4=0∨k%4=1∨k%4=2∨k%4=3:=by omega
     rcases this with h|h|h|h<;>rw[h]<;>rfl
   · rw[if_neg hc,z4 k]
     by_cases hd:v*128≤(k:Int)∧(k:Int)<v*128+4*z.1
     · rw[if_pos hd,if_pos (by omega)]
     · rw[if_neg hd,if_neg (by omega)]
 · have h:=of_decide_eq_false h
   show byt z.2 k=_
   rw[z4 k,show z.1=32 by omega];rfl
theorem bitv{g v:Int}(hg:U g)(v0:0≤v)(v1:v<32):(iand .u32 g (ishl .u32 1 v)==0)=(iand .u32 (ishr .u32 g v) 1==0):=by
 obtain⟨z,rfl⟩: ∃z:Nat,v=z:=⟨v.toNat,by omega⟩
 obtain⟨n,rfl⟩: ∃n:Nat,g=n:=⟨g.toNat,by have:=hg.1;omega⟩
 have hz:z<32:=by omega
 have hlt:(2:Nat)^z<4294967296:=by have:=Nat.pow_lt_pow_right (show 1<2 by omega) hz;simpa using this
 rw[and1 (Qog hg _),Qkv z (by omega),shl_one v0 v1,Int.toNat_natCast]
 have hc:((2:Int)^z)=((2^z:Nat):Int):=by simp
 generalize hq:2^z=q at*
 rw[hc,Z5t hg ⟨by omega,by omega⟩,Int.toNat_natCast,Int.toNat_natCast,←hq]
 have e1:(n&&&2^z)=0↔n/2^z%2=0:=by
   have t:n.testBit z=decide (n/2^z%2=1):=Nat.testBit_eq_decide_div_mod_eq
   constructor
   · intro h
     have h2:(n&&&2^z).testBit z=false:=by rw[h];exact Nat.zero_testBit z
     rw[Nat.testBit_and,Nat.testBit_two_pow_self,Bool.and_true,t]at h2
     have:=of_decide_eq_false h2
     omega
   · intro h
     have t0:n.testBit z=false:=by rw[t];exact decide_eq_false (by omega)
     apply Nat.eq_of_testBit_eq
     intro i
     rw[Nat.testBit_and,Nat.testBit_two_pow,Nat.zero_testBit]
     by_cases hi:z=i
     · subst hi;rw[t0];rfl
     · rw[decide_eq_false hi,Bool.and_false]
 rw[Bool.eq_iff_iff,beq_iff_eq,beq_iff_eq]
 constructor
 · intro h;have:=e1.1 (by omega);omega
 · intro h;have:=e1.2 (by omega);omega
theorem Z66{P:Nat}{m:List Int}(h:Q0q P m){b:Q06}(hb:okB b)(port:Int){v:Int}(hv:U v):Q63 b m port v=Q6o b m port v:=by
  have hcl:Q01 m=m:=rfl
  have hp:=Q2y h
  have h2:=h.p2
  have ew:IntKind.i64.wrap v=v:=w64 (by have:=hv.1;omega) (by have:=hv.2;omega)
  have pe:=Qh4 h hv
  by_cases h32:v<32
  · have bv :=bitv hb.2 hv.1 h32
    by_cases h10:port=10
    · by_cases hP:v<P
      · cases hz:iand .u32 (ishr .u32 b.B9 v) 1==0
        · simp only[Q63,Q2d,Q6o,Q4p,Tree.m,letv,hcl,hp,ew,pe,bv,hz,h10,decide_eq_true hP,decide_eq_false (show¬v≥32 by omega)]
          rfl
        · obtain⟨g1,g2,g3⟩:=(Tree.pp (give_b h hv hP h10 hz)).2
          change(Q6o b m port v).1=_ at g1
          change Q0q P (Q6o b m port v).2 at g2
          change∀k:Nat,byt (Q6o b m port v).2 k=_ at g3
          obtain⟨s1,s2,s3⟩:=(Tree.pp (Qt7 h hv.1 hP (s:=List.replicate 128 0) (by simp))).2
          have em:(Q2c m v (List.replicate 128 0)).1=(Q6o b m port v).2:=by
            refine Z4n (s2.len.trans g2.len.symm) s2.u g2.u λk=> ?_
            rw[g3 k]
            refine(s3 k).trans ?_
            by_cases hk:v*128≤(k:Int)∧(k:Int)<v*128+128
            · rw[if_pos hk,if_pos hk]
              have:(List.replicate 128 (0:UInt8)).getD ((k:Int)-v*128).toNat 0=0:=by
                rw[List.getD_eq_getElem?_getD,List.getElem?_replicate]
                split<;>rfl
              rw[this];rfl
            · rw[if_neg hk,if_neg hk]
          have el:Q63 b m port v=({C4:=b.C4,B9:=ior .u32 b.B9 (ishl .u32 1 v)},(Q2c m v (List.replicate 128 0)).1):=by
            simp only[Q63,Q2d,Tree.m,letv,hcl,hp,ew,bv,hz,h10,decide_eq_true hP,decide_eq_false (show¬v≥32 by omega),zeros]
            rfl
          rw[el,em,←g1]
      · simp only[Q63,Q2d,Q6o,Q4p,Tree.m,letv,hcl,hp,ew,pe,h10,decide_eq_false hP,decide_eq_false (show¬v≥32 by omega)]
        rfl
    · simp only[Q63,Q2d,Q6o,Q4p,Tree.m,letv,hcl,decide_eq_true h32,decide_eq_false (show¬v≥32 by omega),show(port==10)=false by simpa using h10]
      cases port==11<;>rfl
  · simp only[Q63,Q2d,Q6o,Q4p,Tree.m,letv,hcl,pe,decide_eq_false h32,decide_eq_true (show v≥32 by omega),decide_eq_false (show¬v<P by omega)]
    cases port==10<;>cases port==11<;>rfl
structure okV(m:Q00):Prop where
 cpu:Q2f m.B1
 mem: ∀w∈m.Mem,U w
 disk:Q79 m.A7
 nic:Qf2 m.C3
 bal:okB m.A0
 cnt:0≤m.A3
theorem Qss(m:List Int)(hm: ∀w∈m,U w):Q0l m=Q3t m∧(Q0l m=0∨ ∃P:Nat,1≤P∧Q0q P m):=by
 refine⟨rfl,?_⟩
 simp only[Q0l,Q8q,Tree.m]
 cases h1:Int.tmod (m.length:Int) 32 !=0
 · cases h2:decide ((m.length:Int)>1024)
   · have h1:Int.tmod (m.length:Int) 32=0:=by simpa using h1
     have h2:=of_decide_eq_false h2
     rw[Int.tmod_eq_emod_of_nonneg (by omega)]at h1
     by_cases h0:m.length=0
     · left;rw[h0];rfl
     · right;exact⟨m.length/32,by omega,⟨by omega,by omega,by omega,hm⟩⟩
   · left;rfl
 · left;rfl
theorem rcnd{a x:Bool}:(bif !a then false else x)=true↔a=true∧x=true:=by cases a<;>simp
theorem rmay_iff(m:Q00):Qcv m=true↔ ¬(Q3t m.Mem<1)∧Q6 m.B1∧Qiy m.A1=true∧Qd1 m.A6=true∧Qf5 m.A7 (Q3t m.Mem)=true∧Qh9 m.C3 (Q3t m.Mem)=true∧Q9t m.A0 (Q3t m.Mem)=true∧m.A3≤1152921504606846976∧ ¬(m.A2=true∧m.A4=true):=by
 simp only[Qcv,Qxk,Tree.m,letv]
 rw[cnd2,cnd2,cnd2,cnd2,cnd2,cnd2,rcnd,rcnd,rcnd,rcnd,rcnd]
 simp only[decide_eq_false_iff_not,Int.not_lt,bne_eq_false_iff_eq,gt_iff_lt]
 have l:((bif decide (m.A3≤1152921504606846976) then(bif m.A2 then !m.A4 else true) else false)=true)↔m.A3≤1152921504606846976∧ ¬(m.A2=true∧m.A4=true):=by
   by_cases hc:m.A3≤1152921504606846976
   · rw[decide_eq_true hc]
     cases m.A2<;>cases m.A4<;>simp [hc]
   · rw[decide_eq_false hc];simp [hc]
 rw[l]
 constructor
 · rintro⟨a1,a2,a3,a4,a5,a6,a7⟩
   exact⟨by omega,⟨a2,a3,a4,a5,a6⟩,a7⟩
 · rintro⟨a1,⟨a2,a3,a4,a5,a6⟩,a7⟩
   exact⟨by omega,a2,a3,a4,a5,a6,a7⟩
theorem Qxr{m:Q00}(h:okV m):Q1d m=Qcv m:=by
 rw[Bool.eq_iff_iff,Qu7,rmay_iff,dev_eq]
 obtain⟨e,c⟩:=Qss m.Mem h.mem
 simp only[Bool.and_eq_true,←e]
 rcases c with c|⟨P,hP,hm⟩
 · constructor
   · rintro⟨a,_⟩;exact absurd c a
   · rintro⟨a,_⟩;omega
 · rw[Q2y hm,Qvu,Qzx,Z2j,Z4s h.bal.2 hm.p2]
   constructor
   · rintro⟨a1,a2,a3,a4,a5,a6,a7,a8,a9⟩;exact⟨by omega,a2,a5,a6,a7,a8,a9,a3,a4⟩
   · rintro⟨a1,a2,a5,a6,a7,a8,a9,a3,a4⟩;exact⟨by omega,a2,a3,a4,a5,a6,a7,a8,a9⟩
def Qzh(a b c d e:Bool):Int:=ior .u32 (ior .u32 (ior .u32 (ior .u32 (Q8j a 0) (Q8j b 1)) (Q8j c 2)) (Q8j d 3)) (Q8j e 4)
theorem mlines(m:Q00):Q9k m=Qzh (Qcx m.A6) (Q7f m.A1) (Q7x m.A7) (Qhg m.C3) (Q5q m.A0):=by
 unfold Q9k Q3f
 simp only[Tree.m,letv]
 generalize Qcx m.A6=a
 generalize Q7f m.A1=b
 generalize Q7x m.A7=c
 generalize Qhg m.C3=d
 generalize Q5q m.A0=e
 cases a<;>cases b<;>cases c<;>cases d<;>cases e<;>kernel_rfl
theorem Z9q(a b c d e:Bool):0≤Qzh a b c d e∧Qzh a b c d e<32:=by
 cases a<;>cases b<;>cases c<;>cases d<;>cases e<;>decide
theorem rlines(m:Q00):Qg8 m=Qzh (Qax m.A6) (Q6g m.A1) (Qcn m.A7) (Qdy m.C3) (Q4g m.A0):=rfl
section
variable {m:Q00} (h:okV m)
include h
theorem Z8h:Q9k m=Qg8 m:=by
 rw[mlines,rlines,con_same,Z3e h.bal];rfl
theorem Qpm:Q4o m=Q2t m:=by
 have e:=Z8h h
 simp only[Q4o,Q2j,Q2t,Q8u,Tree.m,letv,e]
theorem idle_same:Q9a m=Qgi m:=by
 have e:=Qpm h
 simp only[Q9a,Q2l,Qgi,Qlk,Tree.m,letv,e]
theorem Z1y:Q3j m=!Q5 m:=by
 have e1:=Qxr h
 have e2:=idle_same h
 have e3:decide (m.A3≥1152921504606846976)=!decide (m.A3<1152921504606846976):=ge_not
 simp only[Q3j,Q2a,Q5,Qfc,Tree.m,letv,e1,e2,e3]
 cases Qcv m<;>cases m.A4<;>cases Qgi m<;>cases decide (m.A3<1152921504606846976)<;>rfl
theorem Qwn:0≤Q2t m∧Q2t m<32:=by
 have e:Q2t m=iand .u32 (Qg8 m) m.B1.B3.a7:=rfl
 have l:=Z9q (Qax m.A6) (Q6g m.A1) (Qcn m.A7) (Qdy m.C3) (Q4g m.A0)
 rw[←rlines]at l
 rw[e,Z5t ⟨l.1,by omega⟩ h.cpu.a7]
 have:=Nat.and_le_left (n:=(Qg8 m).toNat) (m:=m.B1.B3.a7.toNat)
 omega
def low(l:Int):Int:=if l%2=1 then 0 else if l/2%2=1 then 1 else if l/4%2=1 then 2 else if l/8%2=1 then 3 else 4
end
theorem cases32{l:Int}(h0:0≤l)(h1:l<32):l=0∨l=1∨l=2∨l=3∨l=4∨l=5∨l=6∨l=7∨l=8∨l=9∨l=10∨l=11∨l=12∨l=13∨l=14∨l=15∨l=16∨l=17∨l=18∨l=19∨l=20∨l=21∨l=22∨l=23∨l=24∨l=25∨l=26∨l=27∨l=28∨l=29∨l=30∨l=31:=by omega
def intr(m:Q00)(l:Int):Q02:=bif iand .u32 m.B1.B3.a0 2==0 then m.B1 else bif l==0 then m.B1 else Q2i m.B1 (IntKind.wrap .i64 (16+low l)) 0
theorem rintr{m:Q00}(h:okV m):Q0n m=intr m (Q2t m):=by
 obtain⟨l0,l1⟩:=Qwn h
 unfold Q0n Q5a
 simp only[Tree.m,letv]
 revert l0 l1
 generalize Q2t m=l
 intro l0 l1
 unfold intr
 cases iand .u32 m.B1.B3.a0 2==0
 · rcases cases32 l0 l1 with rfl|rfl|rfl|rfl|rfl|rfl|rfl|rfl|rfl|rfl|rfl|rfl|rfl|rfl|rfl|rfl|rfl|rfl|rfl|rfl|rfl|rfl|rfl|rfl|rfl|rfl|rfl|rfl|rfl|rfl|rfl|rfl<;>kernel_rfl
 · rfl
def beg(m:Q00)(c:Q02):Q00:={B1:=c,Mem:=m.Mem,A1:=m.A1,A6:=m.A6,A7:=m.A7,C3:=m.C3,A0:=m.A0,A3:=m.A3,A2:=false,A4:=m.A4}
theorem Z97{m:Q00}(h:okV m)(hst:m.B1.B3.a0≤31):Q0s m=beg m (Q0n m):=by
 obtain⟨l0,l1⟩:=Qwn h
 have tr: ∀k b,Q3r m.B1 k b=Q2i m.B1 k b:=Qiw h.cpu.a0.1 hst
 have e:Q4o (beg m m.B1)=Q2t m:=Qpm (m:=beg m m.B1) ⟨h.cpu,h.mem,h.disk,h.nic,h.bal,h.cnt⟩
 rw[rintr h]
 unfold Q0s Q29
 simp only[Tree.m,letv]
 rw[show Q4o {B1:=m.B1,Mem:=m.Mem,A1:=m.A1,A6:=m.A6,A7:=m.A7,C3:=m.C3,A0:=m.A0,A3:=m.A3,A2:=false,A4:=m.A4}=Q2t m from e]
 revert l0 l1
 generalize Q2t m=l
 intro l0 l1
 unfold intr
 simp only[←tr]
 cases iand .u32 m.B1.B3.a0 2==0
 · rcases cases32 l0 l1 with rfl|rfl|rfl|rfl|rfl|rfl|rfl|rfl|rfl|rfl|rfl|rfl|rfl|rfl|rfl|rfl|rfl|rfl|rfl|rfl|rfl|rfl|rfl|rfl|rfl|rfl|rfl|rfl|rfl|rfl|rfl|rfl<;>(show _=_;kernel_rfl)
 · rfl
theorem ports{p:Int}:p=0∨p=1∨p=2∨p=3∨p=4∨p=5∨p=6∨p=7∨p=8∨p=9∨p=10∨p=11∨p<0∨12≤p:=by omega
theorem in_same{m:Q00}(hb:okB m.A0)(port clock:Int):Q11 m port clock=((Qfo m port clock).2,(Qfo m port clock).1):=by
 have e1:=Z8n m.A1
 have e2: ∀p,Qnp m.A7 p=Ql7 m.A7 p:=λ_=>rfl
 have e3:=Z9n m.C3
 have e4:=Z8d hb
 have e5:Qr1 m.A6=Qif m.A6:=rfl
 simp only[Q11,Q26,Qfo,Qn1,Tree.m,letv,e1,e2,e3,e4,e5]
 rcases ports (p:=port) with rfl|rfl|rfl|rfl|rfl|rfl|rfl|rfl|rfl|rfl|rfl|rfl|h|h
 all_goals first|rfl|skip
 · have n: ∀k:Int,0≤k→(port==k)=false:=λk hk=>beq_eq_false_iff_ne.2 (by omega)
   have c:Q6z m.A1 port=(m.A1,0):=by
     simp only[Q6z,Q6l,Tree.m,n 0 (by decide),n 1 (by decide),cond_false]
   simp only[n 0 (by decide),n 1 (by decide),n 2 (by decide),n 3 (by decide),n 4 (by decide),n 5 (by decide),n 6 (by decide),n 7 (by decide),n 8 (by decide),n 9 (by decide),n 10 (by decide),n 11 (by decide),cond_false,decide_eq_true (show port≤1 by omega),cond_true,c]
 · have n: ∀k:Int,k<12→(port==k)=false:=λk hk=>beq_eq_false_iff_ne.2 (by omega)
   have c:Q70 m.A0 port=0:=by
     simp only[Q70,Q6n,Tree.m,n 10 (by decide),n 11 (by decide),cond_false]
   simp only[n 0 (by decide),n 1 (by decide),n 2 (by decide),n 3 (by decide),n 4 (by decide),n 5 (by decide),n 6 (by decide),n 7 (by decide),n 8 (by decide),n 9 (by decide),n 10 (by decide),n 11 (by decide),cond_false,decide_eq_false (show¬port≤1 by omega),decide_eq_false (show¬port≤6 by omega),decide_eq_false (show¬port≤9 by omega),c]
theorem out_same{P:Nat}{m:Q00}(hm:Q0q P m.Mem)(hb:okB m.A0)(port:Int){v:Int}(hv:U v):Q2 m port v m.A3=((Qdd m port v).2,(Qdd m port v).1):=by
 have e1:=Z0x hm m.A7
 have e2:=Z4c hm m.C3
 have e3:=Z66 hm hb port hv
 have e4:=arm_same m.A6 v
 simp only[Q2,Q1w,Qdd,Qg4,Tree.m,letv,e1,e2,e3,e4]
 rcases ports (p:=port) with rfl|rfl|rfl|rfl|rfl|rfl|rfl|rfl|rfl|rfl|rfl|rfl|h|h
 all_goals first|rfl|skip
 · have n: ∀k:Int,0≤k→(port==k)=false:=λk hk=>beq_eq_false_iff_ne.2 (by omega)
   simp only[n 0 (by decide),n 1 (by decide),n 2 (by decide),n 3 (by decide),n 4 (by decide),n 5 (by decide),n 6 (by decide),n 7 (by decide),n 8 (by decide),n 9 (by decide),n 10 (by decide),n 11 (by decide),cond_false,decide_eq_true (show port≤2 by omega),cond_true]
 · have n: ∀k:Int,k<12→(port==k)=false:=λk hk=>beq_eq_false_iff_ne.2 (by omega)
   have c:Q6o m.A0 m.Mem port v=(m.A0,m.Mem):=by
     simp only[Q6o,Q4p,Tree.m,n 10 (by decide),n 11 (by decide),cond_false]
   simp only[n 0 (by decide),n 1 (by decide),n 2 (by decide),n 3 (by decide),n 4 (by decide),n 5 (by decide),n 6 (by decide),n 7 (by decide),n 8 (by decide),n 9 (by decide),n 10 (by decide),n 11 (by decide),cond_false,decide_eq_false (show¬port≤2 by omega),decide_eq_false (show¬port≤6 by omega),decide_eq_false (show¬port≤9 by omega),c]
def tick(n:Q00)(c:Q02)(w h:Bool):Q00:={B1:=c,Mem:=n.Mem,A1:=n.A1,A6:=n.A6,A7:=n.A7,C3:=n.C3,A0:=n.A0,A3:=IntKind.wrap .u64 (n.A3+1),A2:=w,A4:=h}
def withX(m:Q00)(c:Q02)(mem:List Int):Q00:={B1:=c,Mem:=mem,A1:=m.A1,A6:=m.A6,A7:=m.A7,C3:=m.C3,A0:=m.A0,A3:=m.A3,A2:=false,A4:=m.A4}
def finP(n:Q00)(e:Q1)(clock at0:Int):Q00×List Q07:=
 bif e.C1==1 then
   (bif e.D7 !=0 then(tick (Q11 n e.C6 clock).1 {X:=A16.of 0 (List.set (A16.l (Q11 n e.C6 clock).1.B1.X) e.D7.toNat (Q11 n e.C6 clock).2),Pc:=(Q11 n e.C6 clock).1.B1.Pc,B3:=(Q11 n e.C6 clock).1.B1.B3} (Q11 n e.C6 clock).1.A2 (Q11 n e.C6 clock).1.A4,[])
   else(tick (Q11 n e.C6 clock).1 (Q11 n e.C6 clock).1.B1 (Q11 n e.C6 clock).1.A2 (Q11 n e.C6 clock).1.A4,[]))
 else bif e.C1==2 then(tick (Q2 n e.C6 e.Value at0).1 (Q2 n e.C6 e.Value at0).1.B1 (Q2 n e.C6 e.Value at0).1.A2 (Q2 n e.C6 e.Value at0).1.A4,(Q2 n e.C6 e.Value at0).2)
 else bif e.C1==3 then(tick n n.B1 true n.A4,[]) else bif e.C1==4 then(tick n n.B1 n.A2 true,[]) else(tick n n.B1 n.A2 n.A4,[])
def finR(n:Q00)(e:Q1)(clock:Int):List Q07×Q00:=
 bif e.C1==1 then([],tick (Qfo n e.C6 clock).2 (Q1k (Qfo n e.C6 clock).2.B1 e.D7 (Qfo n e.C6 clock).1) (Qfo n e.C6 clock).2.A2 (Qfo n e.C6 clock).2.A4)
 else bif e.C1==2 then((Qdd n e.C6 e.Value).1,tick (Qdd n e.C6 e.Value).2 (Qdd n e.C6 e.Value).2.B1 (Qdd n e.C6 e.Value).2.A2 (Qdd n e.C6 e.Value).2.A4)
 else bif e.C1==3 then([],tick n n.B1 true n.A4) else bif e.C1==4 then([],tick n n.B1 n.A2 true) else([],tick n n.B1 n.A2 n.A4)
theorem adv_eq(m:Q00)(clock:Int):Q1g m clock=finR (withX m (Qcm (Q0n m) m.Mem).1 (Qcm (Q0n m) m.Mem).2.2) (Qcm (Q0n m) m.Mem).2.1 clock:=by kernel_rfl
theorem pstep_eq(m:Q00)(clock:Int):Q61 m clock=bif !Q3j m then(m,[]) else finP {B1:=(Q81 (Q0s m).B1 (Q0s m).Mem).1,Mem:=(Q81 (Q0s m).B1 (Q0s m).Mem).2.1,A1:=(Q0s m).A1,A6:=(Q0s m).A6,A7:=(Q0s m).A7,C3:=(Q0s m).C3,A0:=(Q0s m).A0,A3:=(Q0s m).A3,A2:=(Q0s m).A2,A4:=(Q0s m).A4} (Q81 (Q0s m).B1 (Q0s m).Mem).2.2 clock m.A3:=by kernel_rfl
theorem copy_eq(m:List Int):Qto m=m:=by
 simp [Qto,Ql9,Tree.m]
theorem own_eq(m:Q00):Qxy m=m:=by
 simp only[Qxy,Qo2,Tree.m,letv,copy_eq]
def Z40(m:Q00)(clock:Int):Q00×List Q07:=bif Q5 m then(m,[]) else((Q1g m clock).2,(Q1g m clock).1)
def Qf6(m:Q00)(e:Q0m):Tree (Q00×Bool):=
 .an (Z1j m) (.lv (Qxy m) λ(x0:Q00)=> .lv (Qcv x0) λ(x1:Bool)=> .br (!x1) (.lf (x0,false)) (.an (Qv9 x0 e) (.lv (Q6x x0 e) λ(x2:Bool×Q00)=> .lf (x2.2,x2.1))))
def Qgb(m:Q00)(e:Q0m):Q00×Bool:=(Qf6 m e).m
theorem Qyy(m:Q00)(clock:Int):Z40 m clock=bif Q5 m then(m,[]) else((Q1g m clock).2,(Q1g m clock).1):=rfl
theorem fin_same{P:Nat}{n:Q00}(hm:Q0q P n.Mem)(hb:okB n.A0){e:Q1}(hr:0≤e.D7∧e.D7<16)(hv:U e.Value)(clock:Int):finP n e clock n.A3=((finR n e clock).2,(finR n e clock).1):=by
 unfold finP finR
 rw[in_same hb e.C6 clock,out_same hm hb e.C6 hv]
 cases e.C1==1
 · cases e.C1==2
   · cases e.C1==3
     · cases e.C1==4<;>rfl
     · rfl
   · rfl
 · generalize Qfo n e.C6 clock=r
   have s:=Qrb r.2.B1 hr r.1
   show(bif e.D7 !=0 then _ else _)=(tick r.2 (Q1k r.2.B1 e.D7 r.1) r.2.A2 r.2.A4,[])
   rw[←s]
   simp only[Q8f,Q7l,Tree.m]
   cases e.D7 !=0<;>rfl
theorem Z3m{m:Q00}(h:okV m)(clock:Int):Q61 m clock=Z40 m clock:=by
 rw[pstep_eq,Qyy,Z1y h]
 cases hs:Q5 m
 · have hr:Q3j m=true:=by rw[Z1y h,hs];rfl
   obtain⟨hm,hh,hct⟩:=Z77 hr
   obtain⟨g1,g2,g3,g4,g5⟩:=(Qu7 m).1 hm
   rcases(Qss m.Mem h.mem).2 with c|⟨P,hP,hmem⟩
   · exact absurd c g1
   have okm:okS P m:=⟨h.cpu,hmem,h.disk,h.nic,h.bal.1,h.bal.2⟩
   obtain⟨b1,b2,b3,_⟩:=(Tree.pp (Z0u okm g2)).2
   change Q6 (Q0s m).B1 at b1
   change okS P (Q0s m) at b2
   change(Q0s m).Mem=m.Mem at b3
   have be:=Z97 h g2.st
   have b1':Q6 (Q0n m):=by have:=b1;rw[be]at this;exact this
   have b2':Q2f (Q0n m):=by have:=b2.cpu;rw[be]at this;exact this
   have ex:=exec_same hmem b2' b1'.st
   have er:=(Tree.pp (Z6f b2' hmem)).2
   change 0≤(Q81 (Q0n m) m.Mem).2.2.D7∧(Q81 (Q0n m) m.Mem).2.2.D7<16 at er
   obtain⟨d1,d2,d3⟩:=(Tree.pp (do_w b2' hmem)).2
   change U (Qcm (Q0n m) m.Mem).2.1.Value at d2
   change Q0q P (Qcm (Q0n m) m.Mem).2.2 at d3
   rw[ex]at er
   rw[adv_eq,be]
   show finP {B1:=(Q81 (Q0n m) m.Mem).1,Mem:=(Q81 (Q0n m) m.Mem).2.1,A1:=m.A1,A6:=m.A6,A7:=m.A7,C3:=m.C3,A0:=m.A0,A3:=m.A3,A2:=false,A4:=m.A4} (Q81 (Q0n m) m.Mem).2.2 clock m.A3=_
   rw[ex]
   exact fin_same (n:=withX m (Qcm (Q0n m) m.Mem).1 (Qcm (Q0n m) m.Mem).2.2) d3 h.bal er d2 clock
 · rfl
theorem Qwg{m:Q00}(h:okV m)(e:Q0m):Q67 m e=Qgb m e:=by
 have hcl:Q01 m.Mem=m.Mem:=rfl
 have mm:=Qxr h
 have t1:Qgj m.A6=Z18 m.A6:=rfl
 have t2: ∀b,Qig m.A1 b=Z2b m.A1 b:=λ_=>rfl
 simp only[Q67,Q3i,Qgb,Qf6,Q6x,Qc,Tree.m,letv,own_eq,hcl,t1,t2]
 rw[show Q1d {B1:=m.B1,Mem:=m.Mem,A1:=m.A1,A6:=m.A6,A7:=m.A7,C3:=m.C3,A0:=m.A0,A3:=m.A3,A2:=m.A2,A4:=m.A4}=Qcv m from mm]
 cases hM:Qcv m
 · rfl
 have hM':Q1d m=true:=mm.trans hM
 rcases(Qss m.Mem h.mem).2 with c|⟨P,hP,hmem⟩
 · exact absurd c ((Qu7 m).1 hM').1
 have cs:=Z0j hmem h.disk e
 have rs:=Z2o hmem h.nic e.C7
 clear mm hM hM' hcl h
 obtain⟨c,mem,con,ti,d,n,b,ct,w,hl⟩:=m
 cases hl
 · by_cases k2:e.C1=2
   · rw[k2];cases e.N==0<;>cases decide (e.C7=[])<;>rfl
   by_cases k3:e.C1=3
   · rw[k3];cases decide (e.N≤255)<;>cases decide (e.C7=[])<;>rfl
   by_cases k4:e.C1=4
   · rw[k4,cs];rfl
   by_cases k5:e.C1=5
   · rw[k5,rs];cases e.N==0<;>rfl
   by_cases k6:e.C1=6
   · rw[k6];cases decide (e.C7=[])<;>rfl
   · rw[show(e.C1==2)=false by simpa using k2,show(e.C1==3)=false by simpa using k3,show(e.C1==4)=false by simpa using k4,show(e.C1==5)=false by simpa using k5,show(e.C1==6)=false by simpa using k6]
     rfl
 · rfl
section
variable {m:Q00} (h:okV m) (hl:m.Mem.length≤1024)
include h
include hl
omit h hl in
theorem mapply_w{P:Nat}(h:okM P m){e:Q0m}(he:U e.N):(Qc m e).w (λx=>okM P x.2):=by
 have k:=h
 obtain⟨h1,h2,h3,h4,h5,h7⟩:=h
 unfold Qc
 repeat'(first
   |exact k
   |exact⟨h1,h2,h3,h4,⟨he,h5.2⟩,h7⟩
   |exact w_lv λ_ _=>⟨h1,h2,h3,h4,h5,h7⟩
   |exact Q0d (type_w _ _) λ_ _=>⟨h1,h2,h3,h4,h5,h7⟩
   |exact Q0d (finish_w h2 h3 _) λx hx=>⟨h1,hx.2,hx.1,h4,h5,h7⟩
   |exact Q0d (accept_w h2 h4 _) λx hx=>⟨h1,hx.2,h3,hx.1,h5,h7⟩
   |refine w_br (λ_=> ?_) (λ_=> ?_))
end
def Tree.V{β:Type}(t:Tree β)(W:β→Prop):Prop:=W t.m
section
variable {α β:Type} {W:β→Prop} {c:Bool} {t e:Tree β}
end
structure good(P:Nat)(m:Q00):Prop where
 ok:okM P m
 may:Q1d m=true
section
variable {P:Nat} {m:Q00} (h:good P m)
include h
theorem good.v:okV m:=⟨h.ok.cpu,h.ok.mem.u,h.ok.disk,h.ok.nic,h.ok.target,h.ok.cnt⟩
theorem good.s:okS P m:=⟨h.ok.cpu,h.ok.mem,h.ok.disk,h.ok.nic,h.ok.target.1,h.ok.target.2⟩
theorem good.rmay:Qcv m=true:=(Qxr h.v).symm.trans h.may
theorem app_keep{e:Q0m}(he:U e.N):good P (Q6x m e).2∧(Q6x m e).2.A3=m.A3:=by
 have o:okM P (Q6x m e).2:=Tree.post _ (mapply_w h.ok he)
 have a:=(Tree.pp (apply_w0 h.ok he)).2
 change(Q1d m=true→Q1d (Q67 m e).1=true)∧(Q67 m e).1.A3=m.A3∧_ at a
 have e1:Qgb m e=((Q6x m e).2,(Q6x m e).1):=by
   simp only[Qgb,Qf6,Tree.m,letv,own_eq,h.rmay];rfl
 rw[Qwg h.v e,e1]at a
 exact⟨⟨o,a.1 h.may⟩,a.2.1⟩
theorem stuck_iff:Q5 m=false↔m.A4=false∧Qgi m=false∧m.A3<1152921504606846976:=by
 simp only[Q5,Qfc,Tree.m,letv,h.rmay]
 cases m.A4<;>cases Qgi m<;>simp
theorem Z7c(hs:Q5 m=false){clock:Int}(hc:U clock):good P (Q1g m clock).2∧(Q1g m clock).2.A3=m.A3+1∧(Q1g m clock).1.length≤1:=by
 have o:=Tree.post _ (Z9d h.ok hc)
 change(Q1g m clock).1.length≤1∧okM P (Q1g m clock).2∧(Q1g m clock).2.A3=IntKind.wrap .u64 (m.A3+1) at o
 have s:=(Tree.pp (step_w0 h.s h.ok.cnt hc)).2
 change _∧Good P m (Q61 m clock).1 at s
 have e:Q61 m clock=((Q1g m clock).2,(Q1g m clock).1):=by rw[Z3m h.v,Qyy,hs];rfl
 rw[e]at s
 have hct:=((stuck_iff h).1 hs).2.2
 have h0:=h.ok.cnt
 refine⟨⟨o.2.1,s.2.may h.may⟩,?_,o.1⟩
 rw[o.2.2,IntKind.wrap_u64];omega
end
structure goodR(P:Nat)(k:Int)(r:Q0v):Prop where
 m:good P r.B4
 clock:U r.Clock
 cnt:r.B4.A3≤k
def okQ(l:List Q0m):Prop:=l.length≤16∧ ∀q∈l,U q.N
section
variable {P:Nat} {m:Q00} (h:good P m)
include h
theorem good.len:m.Mem.length≤1024:=by have:=h.ok.mem.len;have:=h.ok.mem.p2;omega
theorem good.app(e:Q0m):Q67 m e=((Q6x m e).2,(Q6x m e).1):=by
 rw[Qwg h.v]
 simp only[Qgb,Qf6,Tree.m,letv,own_eq,h.rmay];rfl
theorem good.step(hs:Q5 m=false)(clock:Int):Q61 m clock=((Q1g m clock).2,(Q1g m clock).1):=by
 rw[Z3m h.v,Qyy,hs];rfl
end
set_option synthInstance.maxHeartbeats 2000000
set_option synthInstance.maxSize 100000
noncomputable section
instance Qq9 (s:(List Int)):Ck (Q03 s):=let d:Decidable (Q03 s):=(by delta Q03;infer_instance);⟨@decide _ d,@of_decide_eq_true _ d⟩
instance Zab (m:(List Int)) (addr:Int) (size:Int):Ck (Q84 m addr size):=ckT (t:=Q2s m addr size) (by delta Q2s;infer_instance)
instance bits_mask_ck (n:Int):Ck (Qd3 n):=ckT (t:=Q96 n) (by delta Q96;infer_instance)
instance bits_Field_ck (w:Int) (low:Int) (n:Int):Ck (Q47 w low n):=ckT (t:=Q7i w low n) (by delta Q7i;infer_instance)
instance isa_Decode_ck (w:Int):Ck (Qbc w):=ckT (t:=Q4a w) (by delta Q4a;infer_instance)
instance memory_Load_ck (m:(List Int)) (addr:Int) (size:Int):Ck (Q2b m addr size):=ckT (t:=Q34 m addr size) (by delta Q34;infer_instance)
instance cpu_Resolve_ck (c:Q02) (m:(List Int)) (va:Int) (size:Int) (access:Int):Ck (Q5j c m va size access):=ckT (t:=Q33 c m va size access) (by delta Q33;infer_instance)
instance cpu_Fetch_ck (c:Q02) (m:(List Int)):Ck (Qdc c m):=ckT (t:=Q6d c m) (by delta Q6d;infer_instance)
instance cpu_Exec_ck (c:Q02) (m:(List Int)):Ck (Qbl c m):=ckT (t:=Q4e c m) (by delta Q4e;infer_instance)
instance Z7k (x:Int):Ck (Q6a x):=ckT (t:=Q1f x) (by delta Q1f;infer_instance)
instance balloon_May_ck (b:Q06) (pages:Int):Ck (Q9i b pages):=ckT (t:=Q2r b pages) (by delta Q2r;infer_instance)
instance Z1r (m:Q00):Ck (Q2x m):=ckT (t:=Q1a m) (by delta Q1a;infer_instance)
instance machine_May_ck (m:Q00):Ck (Q5l m):=ckT (t:=Q44 m) (by delta Q44;infer_instance)
instance machine_Idle_ck (m:Q00):Ck (Q6r m):=ckT (t:=Q2l m) (by delta Q2l;infer_instance)
instance machine_runs_ck (m:Q00):Ck (Q6q m):=ckT (t:=Q2a m) (by delta Q2a;infer_instance)
instance Zaj (m:Q00):Ck (Q5i m):=ckT (t:=Q29 m) (by delta Q29;infer_instance)
instance machine_Step_ck (m:Q00) (clock:Int):Ck (Q6t m clock):=ckT (t:=Q38 m clock) (by delta Q38;infer_instance)
instance ref1_New_ck (pages:Int):Ck (Qfm pages):=ckT (t:=Qay pages) (by delta Qay;infer_instance)
instance ref7_New_ck (pages:Int) (blocks:Int) (image:(List Int)):Ck (Qc0 pages blocks image):=ckT (t:=Qau pages blocks image) (by delta Qau;infer_instance)
instance Z1b (m:Q00):Ck (Q2w m):=ckT (t:=Q25 m) (by delta Q25;infer_instance)
instance bare_Ordered_ck (script:(List Q0u)):Ck (Q1p script):=let d:Decidable (Q1p script):=(by delta Q1p;infer_instance);⟨@decide _ d,@of_decide_eq_true _ d⟩
instance bare_check_ck (m:Q00) (script:(List Q0u)) (until0:Int):Ck (Qbg m script until0):=ckT (t:=Q7r m script until0) (by delta Q7r;infer_instance)
instance bare_Run_ck (m:Q00) (script:(List Q0u)) (until0:Int):Ck (Q1r m script until0):=ckT (t:=Qb5 m script until0) (by delta Qb5;infer_instance)
instance Qph (b:(List Int)) (s:(List UInt8)):Ck (Q21 b s):=ckT (t:=Q12 b s) (by delta Q12;infer_instance)
instance Qqw (s:(List (List UInt8))):Ck (Q0i s):=let d:Decidable (Q0i s):=(by delta Q0i;infer_instance);⟨@decide _ d,@of_decide_eq_true _ d⟩
instance bare_See_ck (disk:(List (List UInt8))) (l:(List Q07)):Ck (Qfa disk l):=ckT (t:=Qas disk l) (by delta Qas;infer_instance)
theorem awake_pre:Q3k:=ck (ckT (t:=Q9p) (by delta Q9p;infer_instance)) (by kernel_rfl)
theorem Z9a:Q7u=true:=by kernel_rfl
theorem aw13{W:Bool→Prop}(h:W true):(Tree.an Q3k (.lv Q7u λx=> .lf x)).w W:=w_an awake_pre (w_lv λx e=>by show W x;rw[e,Z9a];exact h)
end
structure goodP(P:Nat)(k:Int)(r:Q0v):Prop where
 g:goodR P k r
 q:okQ r.Queue
 l:(r.Log.length:Int)≤3*k
def evOK(e:Q0m):Prop:=Qu2 e=true∧e.C1≠1
structure logOK(c0:Int)(r:Q0v):Prop where
 pw:r.Log.Pairwise λa b=>a.At≤b.At∧(a.D4.C1=1→a.At<b.At∧(b.D4.C1=1→a.D4.N≤b.D4.N))
 all: ∀e∈r.Log,c0≤e.At∧e.At≤r.B4.A3∧Qu2 e.D4=true∧(e.D4.C1=1→e.At<r.B4.A3∧e.D4.N<r.Clock∧0≤e.D4.N)
 q: ∀e∈r.Queue,evOK e
 c:c0≤r.B4.A3
theorem logOK.with{c0:Int}{r x:Q0v}(h:logOK c0 r)(hl:x.Log=r.Log)(hm:x.B4.A3=r.B4.A3)(hc:r.Clock≤x.Clock)(hq: ∀e∈x.Queue,evOK e):logOK c0 x:=
 ⟨by rw[hl];exact h.pw,by
   rw[hl,hm]
   exact λe he=>⟨(h.all e he).1,(h.all e he).2.1,(h.all e he).2.2.1,λk=>⟨((h.all e he).2.2.2 k).1,by have:=((h.all e he).2.2.2 k).2.1;omega,((h.all e he).2.2.2 k).2.2⟩⟩,hq,by rw[hm];exact h.c⟩
structure logP(c0 k B:Int)(r:Q0v):Prop where
 p:goodP 8 k r
 l:logOK c0 r
 b:r.Clock≤B
inductive Qlg:Q00→List Q0u→List Q07→Q00→Prop
 |nil {m:Q00}:Qlg m [] [] m
 |ev {m n:Q00} {e:Q0m} {L:List Q0u} {o:List Q07}:True→e.C1≠1→U e.N→Qlg (Q6x m e).2 L o n→Qlg m ({At:=m.A3,D4:=e}::L) o n
 |rd {m n:Q00} {c:Int} {L:List Q0u} {o:List Q07}:Q5 m=false→Qib m=true→U c→Qlg (Q1g m c).2 L o n→Qlg m ({At:=m.A3,D4:={C1:=1,N:=c,C7:=[]}}::L) ((Q1g m c).1++o) n
 |st {m n:Q00} {c:Int} {L:List Q0u} {o:List Q07}:Q5 m=false→Qib m=false→U c→Qlg (Q1g m c).2 L o n→Qlg m L ((Q1g m c).1++o) n
theorem Qlg.trans{a b c:Q00}{L M:List Q0u}{o p:List Q07}(h:Qlg a L o b)(g:Qlg b M p c):Qlg a (L++M) (o++p) c:=by
 induction h with
 |nil=>exact g
 |ev h1 h2 h3 _ ih=>exact .ev h1 h2 h3 (ih g)
 |rd h1 h2 h3 _ ih=>rw[List.append_assoc];exact .rd h1 h2 h3 (ih g)
 |st h1 h2 h3 _ ih=>rw[List.append_assoc];exact .st h1 h2 h3 (ih g)
theorem Qlg.good{P:Nat}{a b:Q00}{L:List Q0u}{o:List Q07}(h:Qlg a L o b):good P a→good P b∧a.A3≤b.A3∧ ∀e∈L,a.A3≤e.At:=by
 induction h with
 |nil=>exact λg=>⟨g,Int.le_refl _,λe he=>by cases he⟩
 | ev h1 h2 h3 _ ih=>
   intro g
   obtain⟨g1,c1⟩:=app_keep g h3
   obtain⟨p,q,r⟩:=ih g1
   rw[c1]at q r
   exact⟨p,q,λe he=>(List.mem_cons.1 he).elim (λh=>by rw[h];exact Int.le_refl _) (λh=>r e h)⟩
 | rd h1 h2 h3 _ ih=>
   intro g
   obtain⟨g1,c1,_⟩:=Z7c g h1 h3
   obtain⟨p,q,r⟩:=ih g1
   rw[c1]at q r
   exact⟨p,by omega,λe he=>(List.mem_cons.1 he).elim (λh=>by rw[h];exact Int.le_refl _) (λh=>by have:=r e h;omega)⟩
 | st h1 h2 h3 _ ih=>
   intro g
   obtain⟨g1,c1,_⟩:=Z7c g h1 h3
   obtain⟨p,q,r⟩:=ih g1
   rw[c1]at q r
   exact⟨p,by omega,λe he=>by have:=r e he;omega⟩
def Qw3(r x:Q0v)(o:List Q07):Prop:= ∃L,x.Log=r.Log++L∧Qlg r.B4 L o x.B4
theorem Qw3.rfl{r:Q0v}:Qw3 r r []:=⟨[],(List.append_nil _).symm, .nil⟩
theorem Qw3.trans{a b c:Q0v}{o p:List Q07}(h:Qw3 a b o)(g:Qw3 b c p):Qw3 a c (o++p):=by
 obtain⟨L,l1,l2⟩:=h
 obtain⟨M,m1,m2⟩:=g
 exact⟨L++M,by rw[m1,l1,List.append_assoc],l2.trans m2⟩
structure recOf(m:Q00)(x:Q0v×List Q07):Prop where
 len:x.1.Log.length≤400
 tr:Qlg m x.1.Log x.2 x.1.B4
 outs:x.2.length≤330
 lo:m.A3≤x.1.B4.A3
 hi:x.1.B4.A3≤m.A3+330
 pw:x.1.Log.Pairwise λa b=>a.At≤b.At∧(a.D4.C1=1→a.At<b.At∧(b.D4.C1=1→a.D4.N≤b.D4.N))
 good:good 8 x.1.B4
set_option synthInstance.maxHeartbeats 2000000
set_option synthInstance.maxSize 100000
noncomputable section
instance Zae (w:Int) (low:Int) (n:Int) (v:Int):Ck (Qb1 w low n v):=ckT (t:=Q4i w low n v) (by delta Q4i;infer_instance)
instance memory_Store_ck (m:(List Int)) (addr:Int) (size:Int) (v:Int):Ck (Q6v m addr size v):=ckT (t:=Q49 m addr size v) (by delta Q49;infer_instance)
instance Z7j (x:Int) (n:Int):Ck (Q66 x n):=ckT (t:=Q2z x n) (by delta Q2z;infer_instance)
instance isa_Decode_ckf (w:Int):Ck (Qbc w):=ckT (t:=Q4a w) (by delta Q4a;infer_instance)
instance bits_Divide_ck (a:Int) (b:Int):Ck (Q9x a b):=ckT (t:=Q50 a b) (by delta Q50;infer_instance)
instance cpu_Alu_ck (op:Int) (a:Int) (b:Int):Ck (Qh5 op a b):=ckT (t:=Qen op a b) (by delta Qen;infer_instance)
instance memory_Load_ckf (m:(List Int)) (addr:Int) (size:Int):Ck (Q2b m addr size):=ckT (t:=Q34 m addr size) (by delta Q34;infer_instance)
instance Z8r (pte:Int):Ck (Q74 pte):=ckT (t:=Q3w pte) (by delta Q3w;infer_instance)
instance paging_Walk_ck (m:(List Int)) (root:Int) (va:Int) (access:Int):Ck (Q9v m root va access):=ckT (t:=Q5b m root va access) (by delta Q5b;infer_instance)
instance paging_Touch_ck (m:(List Int)) (entry:Int) (access:Int):Ck (Q8x m entry access):=ckT (t:=Q4b m entry access) (by delta Q4b;infer_instance)
instance cpu_Resolve_ckf (c:Q02) (m:(List Int)) (va:Int) (size:Int) (access:Int):Ck (Q5j c m va size access):=ckT (t:=Q33 c m va size access) (by delta Q33;infer_instance)
instance cpu_Fetch_ckf (c:Q02) (m:(List Int)):Ck (Qdc c m):=ckT (t:=Q6d c m) (by delta Q6d;infer_instance)
instance cpu_set_ck (c:Q02) (register:Int) (v:Int):Ck (Q5f c register v):=ckT (t:=Q7l c register v) (by delta Q7l;infer_instance)
instance cpu_load_ck (c:Q02) (m:(List Int)) (i:Q0e):Ck (Qie c m i):=ckT (t:=Q8a c m i) (by delta Q8a;infer_instance)
instance cpu_store_ck (c:Q02) (m:(List Int)) (i:Q0e):Ck (Qhh c m i):=ckT (t:=Q6f c m i) (by delta Q6f;infer_instance)
instance cpu_Write_ck (c:Q02) (csr:Int) (v:Int):Ck (Qhi c csr v):=ckT (t:=Q6j c csr v) (by delta Q6j;infer_instance)
instance cpu_execute_ck (c:Q02) (i:Q0e):Ck (Qf0 c i):=ckT (t:=Q2n c i) (by delta Q2n;infer_instance)
instance cpu_Exec_ckf (c:Q02) (m:(List Int)):Ck (Qbl c m):=ckT (t:=Q4e c m) (by delta Q4e;infer_instance)
instance Z5w (x:Int):Ck (Q6a x):=ckT (t:=Q1f x) (by delta Q1f;infer_instance)
instance balloon_May_ckf (b:Q06) (pages:Int):Ck (Q9i b pages):=ckT (t:=Q2r b pages) (by delta Q2r;infer_instance)
instance Z0q (m:Q00):Ck (Q2x m):=ckT (t:=Q1a m) (by delta Q1a;infer_instance)
instance machine_May_ckf (m:Q00):Ck (Q5l m):=ckT (t:=Q44 m) (by delta Q44;infer_instance)
instance Qxm (x:Int):Ck (Q5c x):=ckT (t:=Q1o x) (by delta Q1o;infer_instance)
instance Zag (b:Q06):Ck (Q87 b):=ckT (t:=Q4k b) (by delta Q4k;infer_instance)
instance Z6v (b:Q06):Ck (Q92 b):=ckT (t:=Q2h b) (by delta Q2h;infer_instance)
instance Zah (m:Q00):Ck (Qag m):=ckT (t:=Q3f m) (by delta Q3f;infer_instance)
instance Z7v (m:Q00):Ck (Q6k m):=ckT (t:=Q2j m) (by delta Q2j;infer_instance)
instance Zai (m:Q00):Ck (Q6r m):=ckT (t:=Q2l m) (by delta Q2l;infer_instance)
instance Zaf (m:Q00):Ck (Q6q m):=ckT (t:=Q2a m) (by delta Q2a;infer_instance)
instance Z81 (m:Q00):Ck (Q5i m):=ckT (t:=Q29 m) (by delta Q29;infer_instance)
instance balloon_In_ck (b:Q06) (port:Int):Ck (Qfp b port):=ckT (t:=Q5x b port) (by delta Q5x;infer_instance)
instance Z59 (m:Q00) (port:Int) (clock:Int):Ck (Q8i m port clock):=ckT (t:=Q26 m port clock) (by delta Q26;infer_instance)
instance memory_text_ck (words:(List Int)):Ck (Q4j words):=let d:Decidable (Q4j words):=(by delta Q4j;infer_instance);⟨@decide _ d,@of_decide_eq_true _ d⟩
instance memory_Page_ck (m:(List Int)) (frame:Int):Ck (Q7q m frame):=ckT (t:=Q36 m frame) (by delta Q36;infer_instance)
instance disk_issue_ck (d0:Q09) (m:(List Int)) (cmd:Int) (at0:Int):Ck (Qfz d0 m cmd at0):=ckT (t:=Q5u d0 m cmd at0) (by delta Q5u;infer_instance)
instance disk_Out_ck (d0:Q09) (m:(List Int)) (port:Int) (v:Int) (at0:Int):Ck (Qj9 d0 m port v at0):=ckT (t:=Q99 d0 m port v at0) (by delta Q99;infer_instance)
instance nic_send_ck (n:Q0j) (m:(List Int)) (at0:Int):Ck (Qil n m at0):=ckT (t:=Q9b n m at0) (by delta Q9b;infer_instance)
instance nic_Out_ck (n:Q0j) (m:(List Int)) (port:Int) (v:Int) (at0:Int):Ck (Qln n m port v at0):=ckT (t:=Qca n m port v at0) (by delta Qca;infer_instance)
instance Z8g (m:(List Int)) (frame:Int) (s:(List UInt8)):Ck (Q54 m frame s):=ckT (t:=Q1x m frame s) (by delta Q1x;infer_instance)
instance Z9e (s:(List UInt8)) (count:Int):Ck (Q3s s count):=let d:Decidable (Q3s s count):=(by delta Q3s;infer_instance);⟨@decide _ d,@of_decide_eq_true _ d⟩
instance balloon_Out_ck (b:Q06) (m:(List Int)) (port:Int) (v:Int):Ck (Qep b m port v):=ckT (t:=Q2d b m port v) (by delta Q2d;infer_instance)
instance Z44 (m:Q00) (port:Int) (v:Int) (at0:Int):Ck (Q7t m port v at0):=ckT (t:=Q1w m port v at0) (by delta Q1w;infer_instance)
instance Zak (m:Q00) (clock:Int):Ck (Q6t m clock):=ckT (t:=Q38 m clock) (by delta Q38;infer_instance)
instance make_Round_ck (n:Int) (k:Int):Ck (Q71 n k):=ckT (t:=Qfn n k) (by delta Qfn;infer_instance)
instance make_Inst_ck (n:Int):Ck (Qlx n):=ckT (t:=Qhf n) (by delta Qhf;infer_instance)
instance make_Code_ck (l:(List Int)):Ck (Qy8 l):=ckT (t:=Qlc l) (by delta Qlc;infer_instance)
instance ref1_New_ckf (pages:Int):Ck (Qfm pages):=ckT (t:=Qay pages) (by delta Qay;infer_instance)
instance ref7_New_ckf (pages:Int) (blocks:Int) (image:(List Int)):Ck (Qc0 pages blocks image):=ckT (t:=Qau pages blocks image) (by delta Qau;infer_instance)
instance Z87 (a:(List Int)) (b:(List Int)):Ck (Q77 a b):=let d:Decidable (Q77 a b):=(by delta Q77;infer_instance);⟨@decide _ d,@of_decide_eq_true _ d⟩
instance ref7_Same_ck (a:Q00) (b:Q00):Ck (Qyf a b):=ckT (t:=Qlo a b) (by delta Qlo;infer_instance)
instance Z0r (m:Q00):Ck (Q2w m):=ckT (t:=Q25 m) (by delta Q25;infer_instance)
instance console_Type_ck (c:Q0a) (b:Int):Ck (Qcg c b):=ckT (t:=Q5d c b) (by delta Q5d;infer_instance)
instance Zad (d0:Q09) (m:(List Int)) (e:Q0m):Ck (Qba d0 m e):=ckT (t:=Q3n d0 m e) (by delta Q3n;infer_instance)
instance nic_Receive_ck (n:Q0j) (m:(List Int)) (frame:(List UInt8)):Ck (Qdv n m frame):=ckT (t:=Q56 n m frame) (by delta Q56;infer_instance)
instance Za8 (m:Q00) (e:Q0m):Ck (Qb3 m e):=ckT (t:=Q3i m e) (by delta Q3i;infer_instance)
instance Zac (script:(List Q0u)):Ck (Q1p script):=let d:Decidable (Q1p script):=(by delta Q1p;infer_instance);⟨@decide _ d,@of_decide_eq_true _ d⟩
instance bare_check_ckf (m:Q00) (script:(List Q0u)) (until0:Int):Ck (Qbg m script until0):=ckT (t:=Q7r m script until0) (by delta Q7r;infer_instance)
instance bare_Run_ckf (m:Q00) (script:(List Q0u)) (until0:Int):Ck (Q1r m script until0):=ckT (t:=Qb5 m script until0) (by delta Qb5;infer_instance)
instance Qo8 (b:(List Int)) (s:(List UInt8)):Ck (Q21 b s):=ckT (t:=Q12 b s) (by delta Q12;infer_instance)
instance Qp4 (s:(List (List UInt8))):Ck (Q0i s):=let d:Decidable (Q0i s):=(by delta Q0i;infer_instance);⟨@decide _ d,@of_decide_eq_true _ d⟩
instance bare_See_ckf (disk:(List (List UInt8))) (l:(List Q07)):Ck (Qfa disk l):=ckT (t:=Qas disk l) (by delta Qas;infer_instance)
end
def gM(mem:List Int)(x1 x2 x3 pc en:Int)(keys:List UInt8)(w:Bool)(c:Int):Q00:={B1:={X:={a0:=0,a1:=x1,a2:=x2,a3:=x3,a4:=0,a5:=0,a6:=0,a7:=0,a8:=0,a9:=0,a10:=0,a11:=0,a12:=0,a13:=0,a14:=0,a15:=0},Pc:=pc,B3:={a0:=1,a1:=0,a2:=0,a3:=0,a4:=0,a5:=0,a6:=0,a7:=en}},Mem:=mem,A1:={C9:=keys},A6:={D3:=false,C5:=0,D2:=false},A7:={Blocks:=0,B6:=0,B0:=0,B7:=0,D6:=0,B2:=0,A9:=0,C0:=[]},C3:={B0:=0,D9:=0,C2:=false,B8:=0,B5:=false,F0:=0},A0:={C4:=0,B9:=0},A3:=c,A2:=w,A4:=false}
set_option synthInstance.maxHeartbeats 2000000
set_option synthInstance.maxSize 100000
def Q2m:List Int:=[268435456,268435456,1009778690,268435456,805371903,0,0,0,0,0,0,0,0,0,0,0,0,0,0,0,0,0,0,0,0,0,0,0,0,0,0,0]
noncomputable section
theorem watch_pre:Qfq:=ck (ckT (t:=Qbq) (by delta Qbq;infer_instance)) (by kernel_rfl)
end
theorem watch_eq:Qo5=gM Q2m 0 0 0 0 0 [] false 0:=by kernel_rfl
def Qcq(d n:Int):Q0u:={At:=d,D4:={C1:=1,N:=n,C7:=[]}}
theorem crun0(n:Int):(Q78 (gM Q2m 0 0 0 0 0 [] false 0) [Qcq 0 n] 5).2.2=(0,1302):=by kernel_rfl
theorem cpre0(n:Int):Q1r (gM Q2m 0 0 0 0 0 [] false 0) [Qcq 0 n] 5:=ck inferInstance (by kernel_rfl)
theorem crun1(n:Int):(Q78 (gM Q2m 0 0 0 0 0 [] false 0) [Qcq 1 n] 5).2.2=(0,1302):=by kernel_rfl
theorem cpre1(n:Int):Q1r (gM Q2m 0 0 0 0 0 [] false 0) [Qcq 1 n] 5:=ck inferInstance (by kernel_rfl)
theorem crun3(n:Int):(Q78 (gM Q2m 0 0 0 0 0 [] false 0) [Qcq 3 n] 5).2.2=(0,1302):=by kernel_rfl
theorem cpre3(n:Int):Q1r (gM Q2m 0 0 0 0 0 [] false 0) [Qcq 3 n] 5:=ck inferInstance (by kernel_rfl)
theorem crun4(n:Int):(Q78 (gM Q2m 0 0 0 0 0 [] false 0) [Qcq 4 n] 5).2.2=(0,1302):=by kernel_rfl
theorem cpre4(n:Int):Q1r (gM Q2m 0 0 0 0 0 [] false 0) [Qcq 4 n] 5:=ck inferInstance (by kernel_rfl)
theorem crun5(n:Int):(Q78 (gM Q2m 0 0 0 0 0 [] false 0) [Qcq 5 n] 5).2.2=(0,1302):=by kernel_rfl
theorem cpre5(n:Int):Q1r (gM Q2m 0 0 0 0 0 [] false 0) [Qcq 5 n] 5:=ck inferInstance (by kernel_rfl)
theorem crun2(n:Int):Q78 (gM Q2m 0 0 0 0 0 [] false 0) [Qcq 2 n] 5=(gM Q2m 0 0 n 12 0 [] false 5,[],1,0):=by kernel_rfl
theorem cpre2(n:Int):Q1r (gM Q2m 0 0 0 0 0 [] false 0) [Qcq 2 n] 5:=ck inferInstance (by kernel_rfl)
theorem crunN:(Q78 (gM Q2m 0 0 0 0 0 [] false 0) [] 5).2.2=(0,1302):=by kernel_rfl
theorem cpreN:Q1r (gM Q2m 0 0 0 0 0 [] false 0) [] 5:=ck inferInstance (by kernel_rfl)
theorem clocks(n at0:Int)(ha:0≤at0):Qeq n at0∧Qe0 n at0=true:=by
 have aw:(Tree.an Q3k (.lv Q7u λx=> .lf x)).w (λr=>r=true):=aw13 rfl
 refine Tree.pp (W:=λr=>r=true) ?_
 unfold Q86
 have t0:=Int.tmod_nonneg 6 ha
 have t1:=Int.tmod_lt_of_pos at0 (b:=6) (by decide)
 generalize Int.tmod at0 6=d at*
 refine w_an watch_pre (w_lv λm hm=> ?_)
 rw[hm,watch_eq]
 have no: ∀e:Int,e≠2→Q1r (gM Q2m 0 0 0 0 0 [] false 0) [Qcq e n] 5→(Q78 (gM Q2m 0 0 0 0 0 [] false 0) [Qcq e n] 5).2.2=(0,1302)→d=e→(Tree.an (Q1r (gM Q2m 0 0 0 0 0 [] false 0) [Qcq d n] 5) (.lv (Q78 (gM Q2m 0 0 0 0 0 [] false 0) [Qcq d n] 5) λ(x1:Q00×List Q07×Int×Int)=> .an (Q1r (gM Q2m 0 0 0 0 0 [] false 0) [] 5) (.lv (Q78 (gM Q2m 0 0 0 0 0 [] false 0) [] 5) λ(x2:Q00×List Q07×Int×Int)=> .br (x2.2.2.2 !=1302) (.lf false) (.br (d !=(2:Int)) (.br (x1.2.2.2==1302) (.br (x1.2.2.1==0) (.an Q3k (.lv Q7u λ(x3:Bool)=> .lf x3)) (.lf false)) (.lf false)) (.br (x1.2.2.2==0) (.br (x1.2.2.1==1) (.br (x1.1.B1.X.a3==n) (.br (x1.1.A3==5) (.an Q3k (.lv Q7u λ(x4:Bool)=> .lf x4)) (.lf false)) (.lf false)) (.lf false)) (.lf false)))))).w (λr=>r=true):=by
   intro e h2 hp hv hd
   rw[hd]
   refine w_an hp (w_lv λx1 e1=>w_an cpreN (w_lv λx2 e2=> ?_))
   have f1:x1.2.2=(0,1302):=by rw[e1];exact hv
   have f2:x2.2.2=(0,1302):=by rw[e2];exact crunN
   rw[f1,f2]
   exact w_br (λh=>by simp at h) λ_=>w_br (λ_=>w_br (λ_=>w_br (λ_=>aw) λh=>by simp at h) λh=>by simp at h) λh=>by
     have:e=2:=by simpa using h
     exact absurd this h2
 rcases(by omega:d=2∨d=0∨d=1∨d=3∨d=4∨d=5) with hd|hd|hd|hd|hd|hd
 · rw[hd]
   refine w_an (cpre2 n) (w_lv λx1 e1=>w_an cpreN (w_lv λx2 e2=> ?_))
   have f1:x1=(gM Q2m 0 0 n 12 0 [] false 5,[],1,0):=by rw[e1];exact crun2 n
   have f2:x2.2.2=(0,1302):=by rw[e2];exact crunN
   rw[f1,f2]
   refine w_br (λh=>by simp at h) λ_=>w_br (λh=>by simp at h) λ_=>w_br (λ_=>w_br (λ_=>w_br (λ_=>w_br (λ_=>aw) λh=>by simp [gM]at h) λh=>by simp [gM]at h) λh=>by simp at h) λh=>by simp at h
 · exact no 0 (by decide) (cpre0 n) (crun0 n) hd
 · exact no 1 (by decide) (cpre1 n) (crun1 n) hd
 · exact no 3 (by decide) (cpre3 n) (crun3 n) hd
 · exact no 4 (by decide) (cpre4 n) (crun4 n) hd
 · exact no 5 (by decide) (cpre5 n) (crun5 n) hd
end Go.Proofs.YtjaifpiopmhmlaaGreat

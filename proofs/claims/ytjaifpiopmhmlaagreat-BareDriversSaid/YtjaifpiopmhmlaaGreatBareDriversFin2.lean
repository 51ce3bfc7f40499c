/-
  A part of the proof.
-/
import Derived.Test.YtjaifpiopmhmlaaGreatBareDriversLaws2
import Derived.Test.YtjaifpiopmhmlaaGreatBareDriversNewsB
import Derived.Test.YtjaifpiopmhmlaaGreatBareDriversZg
import Derived.Test.YtjaifpiopmhmlaaGreatBareDriversZt
import Derived.Test.YtjaifpiopmhmlaaGreatBareDriversCk
set_option maxRecDepth 100000
set_option linter.unusedVariables false
set_option linter.unusedSimpArgs false
namespace Go.Proofs.YtjaifpiopmhmlaaGreat
open Go Go.GD
section
variable {P:Nat} {m:Q00} (h:okM P m)
include h
theorem min_w(port:Int){clock:Int}(hc:U clock):(Qn7 m port clock).w (λx=>U x.1∧okM P x.2∧x.2.A0=m.A0):=by
 have k:=(⟨h,rfl⟩:okM P m∧m.A0=m.A0)
 obtain⟨h1,h2,h3,h4,h5,h7⟩:=h
 unfold Qn7
 exact w_br (λ_=>w_lv λx hx=>⟨hx▸Z4y _ _,⟨⟨h1,h2,h3,h4,h5,h7⟩,rfl⟩⟩) (λ_=>w_br (λ_=>⟨hc,k⟩) (λ_=>w_br (λ_=>w_lv λx hx=>⟨hx▸timerIn_w _,k⟩) (λ_=>w_br (λ_=>w_lv λx hx=>⟨hx▸diskIn_w h3 _,k⟩) (λ_=>w_br (λ_=>w_lv λx hx=>⟨hx▸nicIn_w h4 _,k⟩) (λ_=>w_lv λx hx=>⟨hx▸Z6 h5.1 _,k⟩)))))
theorem mout_w(port:Int){v:Int}(hv:U v):(Qgf m port v).w (λx=>x.1.length≤1∧okM P x.2∧x.2.A0=m.A0):=by
 have k:=(⟨h,rfl⟩:okM P m∧m.A0=m.A0)
 obtain⟨h1,h2,h3,h4,h5,h7⟩:=h
 unfold Qgf
 exact w_br (λ_=>⟨Nat.le_refl _,k⟩) (λ_=>w_br (λ_=>⟨Nat.zero_le _,k⟩) (λ_=>w_br (λ_=>w_lv λ_ _=>⟨Nat.zero_le _,⟨⟨h1,h2,h3,h4,h5,h7⟩,rfl⟩⟩) (λ_=>w_br (λ_=>Q0c (diskOut_w h2 h3 _ hv _) λx hx=>⟨hx.2,⟨⟨h1,h2,hx.1,h4,h5,h7⟩,rfl⟩⟩) (λ_=>w_br (λ_=>Q0c (nicOut_w h2 h4 _ hv _) λx hx=>⟨hx.2,⟨⟨h1,h2,h3,hx.1,h5,h7⟩,rfl⟩⟩) (λ_=>Q0c (give_w h2 h5 _ hv) λx hx=>⟨Nat.zero_le _,⟨⟨h1,hx.2,h3,h4,hx.1,h7⟩,rfl⟩⟩)))))
theorem Z9d{clock:Int}(hc:U clock):(Qg6 m clock).w (λx=>x.1.length≤1∧okM P x.2∧x.2.A0=IntKind.wrap .u64 (m.A0+1)):=by
 obtain⟨h1,h2,h3,h4,h5,h7⟩:=h
 unfold Qg6
 refine Q0c (Qys h1) λx0 c0=>Q0c (do_w c0 h2) λx1 hx=> ?_
 obtain⟨c1,v1,m1⟩:=hx
 refine w_br (λ_=>Z83 (min_w (m:=⟨_,_,_,_,_,_,_,_,_,_⟩) ⟨c1,m1,h3,h4,h5,h7⟩ _ hc) λx2 hx=> ?_) (λ_=>w_br (λ_=>Q0c (mout_w (m:=⟨_,_,_,_,_,_,_,_,_,_⟩) ⟨c1,m1,h3,h4,h5,h7⟩ _ v1) λx4 hx=> ?_) (λ_=> ?_))
 · obtain⟨u,⟨k1,k2,k3,k4,k5,k7⟩,k6⟩:=hx
   exact Q0c (Qyw k1 _ u) λx3 h3=>⟨Nat.zero_le _,⟨h3,k2,k3,k4,k5,w0 _⟩,congrArg (λn=>IntKind.wrap .u64 (n+1)) k6⟩
 · obtain⟨u,⟨k1,k2,k3,k4,k5,k7⟩,k6⟩:=hx
   exact⟨u,⟨k1,k2,k3,k4,k5,w0 _⟩,congrArg (λn=>IntKind.wrap .u64 (n+1)) k6⟩
 · repeat'(first
     |exact⟨Nat.zero_le _,⟨c1,m1,h3,h4,h5,w0 _⟩,rfl⟩
     |refine w_br (λ_=> ?_) (λ_=> ?_))
end
theorem U_all(n:Nat): ∀w∈List.replicate n (0:Int),U w:=λw hw=>by rw[(List.mem_replicate.1 hw).2];exact U_0
set_option synthInstance.maxHeartbeats 2000000
set_option synthInstance.maxSize 100000
noncomputable section
instance ref1_lines_ck (src:(List UInt8)):Ck (Qg2 src):=ckT (t:=Qbt src) (by delta Qbt;infer_instance)
instance ref1_tokens_ck (s:(List UInt8)):Ck (Qec s):=ckT (t:=Q9t s) (by delta Q9t;infer_instance)
instance ref1_digits_ck (n:Int):Ck (Q3 n):=let d:Decidable (Q3 n):=(by delta Q3;infer_instance);⟨@decide _ d,@of_decide_eq_true _ d⟩
instance ref1_Decimal_ck (n:Int):Ck (Qcx n):=ckT (t:=Q5n n) (by delta Q5n;infer_instance)
instance ref1_reg_ck (r:Int):Ck (Qiz r):=ckT (t:=Qbe r) (by delta Qbe;infer_instance)
instance ref1_name_ck (s:(List UInt8)):Ck (Qdo s):=ckT (t:=Qf7 s) (by delta Qf7;infer_instance)
instance Zbo (op:Int):Ck (Qas op):=ckT (t:=Q7o op) (by delta Q7o;infer_instance)
instance Z9y (s:(List UInt8)):Ck (Q31 s):=ckT (t:=Q70 s) (by delta Q70;infer_instance)
instance ref1_pattern_ck (what:(List UInt8)):Ck (Q56 what):=ckT (t:=Q8u what) (by delta Q8u;infer_instance)
instance ref1_number_ck (s:(List UInt8)):Ck (Qeq s):=ckT (t:=Qae s) (by delta Qae;infer_instance)
instance ref1_matched_ck (l:(List Q0d)) (p:(List UInt8)):Ck (Q55 l p):=ckT (t:=Q95 l p) (by delta Q95;infer_instance)
instance ref1_parsed_ck (s:(List UInt8)):Ck (Qel s):=ckT (t:=Qaa s) (by delta Qaa;infer_instance)
instance ref1_address_ck (l:(List Q1u)) (label:(List UInt8)):Ck (Q34 l label):=let d:Decidable (Q34 l label):=(by delta Q34;infer_instance);⟨@decide _ d,@of_decide_eq_true _ d⟩
instance ref1_read_ck (src:(List UInt8)):Ck (Qha src):=ckT (t:=Qe3 src) (by delta Qe3;infer_instance)
instance ref1_inst_ck (st:Q05) (v:Int):Ck (Q8k st v):=ckT (t:=Qf1 st v) (by delta Qf1;infer_instance)
instance Zbl (src:(List UInt8)):Ck (Qb src):=ckT (t:=Q84 src) (by delta Q84;infer_instance)
def inU(x:Int):Bool:=decide (0≤x)&&decide (x<4294967296)
theorem asm_gen(l:List Int)(h:(Nat.ble l.length 160&&List.all l inU)=true):l.length≤160∧ ∀w∈l,U w:=by
 rw[Bool.and_eq_true]at h
 refine⟨Nat.le_of_ble_eq_true h.1,λw hw=> ?_⟩
 have:=List.all_eq_true.1 h.2 w hw
 simp only[inU,Bool.and_eq_true,decide_eq_true_eq]at this
 exact this
end
noncomputable section
end
attribute [local irreducible] Q14
def out(f:Int)(m m':List Int):Prop:= ∀j:Nat,¬(f*32≤j∧(j:Int)<f*32+32)→m'.getD j 0=m.getD j 0
theorem Qk8(f:Int)(m:List Int):out f m m:=λ_ _=>rfl
theorem getDset(l:List Int)(i j:Nat)(v:Int)(h:i≠j):(l.set i v).getD j 0=l.getD j 0:=by
 simp only[List.getD_eq_getElem?_getD,List.getElem?_set_ne h]
theorem Q38{P:Nat}{m:List Int}(h:Q0u P m):Q0q m=P:=by
 obtain⟨h1,h2,h3,_⟩:=h
 simp only[Q0q,Q93,Tree.m]
 have e:(m.length:Int)=32*P:=by omega
 rw[e]
 have e1:(Int.tmod (32*(P:Int)) 32 !=0)=false:=by simp [Int.mul_tmod_right]
 have e2:decide ((32*(P:Int))>1024)=false:=decide_eq_false (by omega)
 rw[e1,e2]
 simp only[cond_false]
 rw[Int.mul_tdiv_cancel_left _ (by decide),IntKind.wrap_i64];omega
theorem has_eq{P:Nat}{m:List Int}(h:Q0u P m)(f:Int):Q4j m f=true→0≤f∧f<P:=by
 have hp:=Q38 h
 simp only[Q4j,Q75,Tree.m,letv,hp]
 cases h1:decide (f≥0)
 · intro h;cases h
 · intro h;exact⟨of_decide_eq_true h1,of_decide_eq_true h⟩
theorem Qto{P:Nat}{m:List Int}(h:Q0u P m)(f:Int)(s:List UInt8):(Q2a m f s).w (λr=>Q0u P r.1∧out f m r.1∧(r.2=false→r.1=m)):=by
 have hcl:Q01 m=m:=rfl
 have h2:=h.p2
 unfold Q2a
 refine w_an (Q7e h) (w_lv λx0 hx0=>w_lv λx1 hx1=> ?_)
 rw[hcl]at hx0;subst hx0
 refine w_br (λ_=>⟨h,Qk8 _ _,λ_=>rfl⟩) λhb=>w_br (λ_=>⟨h,Qk8 _ _,λ_=>rfl⟩) λhs=> ?_
 have hb:x1=true:=by simpa using hb
 obtain⟨f0,f1⟩:=has_eq h f (hx1.symm.trans hb)
 have hs:(s.length:Int)=128:=by simpa using hs
 refine w_lp (inv:=λz:Int×List Int=>0≤z.1∧z.1≤32∧Q0u P z.2∧out f x0 z.2) (μ:=Q8s x0 f s) ⟨show(0:Int)≤0 by decide,show(0:Int)≤32 by decide,h,Qk8 _ _⟩ (Nat.lt_succ_self _) λz ⟨z1,z2,z3,z4⟩=> ?_
 refine w_br (λhb=> ?_) (λ_=>⟨z3,z4,λh=>by cases h⟩)
 have hb:=of_decide_eq_true hb
 have e1:IntKind.i64.wrap (4*z.1)=4*z.1:=by rw[IntKind.wrap_i64];omega
 have e2:IntKind.i64.wrap (IntKind.i64.wrap (4*z.1)+4)=4*z.1+4:=by rw[IntKind.wrap_i64,IntKind.wrap_i64];omega
 have e3:IntKind.i64.wrap (IntKind.i64.wrap (f*32)+z.1)=f*32+z.1:=by rw[IntKind.wrap_i64,IntKind.wrap_i64];omega
 have hl:=z3.len
 have hlen:(List.take (Int.toNat (IntKind.i64.wrap (IntKind.i64.wrap (4*z.1)+4))-Int.toNat (IntKind.i64.wrap (4*z.1))) (List.drop (Int.toNat (IntKind.i64.wrap (4*z.1))) s)).length=4:=by
   rw[e2,e1,List.length_take,List.length_drop];omega
 refine w_cn (decide_eq_true (by rw[e2,e1];omega)) ?_
 refine w_cn (decide_eq_true (by rw[hlen];decide)) (w_cn (decide_eq_true (by rw[hlen];decide)) (w_cn (decide_eq_true (by rw[hlen];decide)) (w_cn (decide_eq_true (by rw[hlen];decide)) (w_cn (by rw[e3];simp [Nat.blt];omega) (w_nx ?_)))))
 show(_∧_∧Q0u P (List.set _ _ _)∧out f x0 (List.set _ _ _))∧(_:Nat)<_
 have ew:IntKind.i64.wrap (z.1+1)=z.1+1:=by rw[IntKind.wrap_i64];omega
 rw[e3]
 refine⟨⟨by rw[ew];omega,by rw[ew];omega,⟨by rw[List.length_set];exact hl,z3.p1,z3.p2,Qvh z3.u (U_or _ _) _⟩,λj hj=> ?_⟩,by show(32-IntKind.i64.wrap (z.1+1)).toNat<(32-z.1).toNat;rw[ew];omega⟩
 rw[getDset _ _ _ _ (by omega)]
 exact z4 j hj
theorem text_w(w:List Int)(h:w.length≤32):(Q4b w).w (λr=>r.length=4*w.length):=by
 have e0:IntKind.i64.wrap (4*(w.length:Int))=4*w.length:=by rw[IntKind.wrap_i64];omega
 unfold Q4b
 refine w_cn (by rw[e0];simp [Nat.blt,D.plain];omega) ?_
 refine w_lp (inv:=λz:Int×List Int=>0≤z.1∧z.1≤w.length∧(z.2.length:Int)=4*z.1) (μ:=Q63 w) ⟨by decide,by show(0:Int)≤w.length;omega,rfl⟩ (Nat.lt_succ_self _) λz ⟨z1,z2,z3⟩=> ?_
 refine w_br (λhb=> ?_) (λhb=> ?_)
 · have hb:=of_decide_eq_true hb
   have ew:IntKind.i64.wrap (z.1+1)=z.1+1:=by rw[IntKind.wrap_i64];omega
   refine w_cn (by simp [Nat.blt];omega) (w_cn (decide_eq_true (by omega)) (w_nx ?_))
   show(_∧_∧_)∧(_:Nat)<_
   refine⟨⟨by rw[ew];omega,by rw[ew];omega,by rw[ew,List.length_append];simp only[List.length_cons,List.length_nil];omega⟩,by show(w.length-IntKind.i64.wrap (z.1+1)).toNat<(w.length-z.1).toNat;rw[ew];omega⟩
 · have hb:=of_decide_eq_false hb
   show(bytesOf z.2).length=_
   rw[Qfa];omega
theorem Z5n{P:Nat}{m:List Int}(h:Q0u P m)(f:Int):(Q3f m f).w (λr=>0≤f→f<P→r.1.length=128):=by
 have hl:=h.len
 have h2:=h.p2
 unfold Q3f
 refine w_lv λx0 hx0=>w_br (λhb=>λf0 f1=> ?_) (λhb=> ?_)
 · have hp:=Q38 h
   have hb:x0=false:=by simpa using hb
   rw[hb]at hx0
   simp only[Q4j,Q75,Tree.m,letv,hp]at hx0
   rw[decide_eq_true f0]at hx0
   exact absurd f1 (of_decide_eq_false hx0.symm)
 · have hb:x0=true:=by simpa using hb
   obtain⟨f0,f1⟩:=has_eq h f (hx0.symm.trans hb)
   have e1:IntKind.i64.wrap (f*32)=f*32:=by rw[IntKind.wrap_i64];omega
   have e2:IntKind.i64.wrap (IntKind.i64.wrap (f*32)+32)=f*32+32:=by rw[IntKind.wrap_i64,IntKind.wrap_i64];omega
   have hlen:(List.take (Int.toNat (IntKind.i64.wrap (IntKind.i64.wrap (f*32)+32))-Int.toNat (IntKind.i64.wrap (f*32))) (List.drop (Int.toNat (IntKind.i64.wrap (f*32))) m)).length=32:=by
     rw[e2,e1,List.length_take,List.length_drop];omega
   refine w_cn (by rw[e2,e1];simp [Nat.blt];omega) ?_
   refine w_an (by show List.length _≤1000000000000;rw[hlen];decide) (w_lv λx1 h1=> ?_)
   have h1:x1.length=4*(List.take (Int.toNat (IntKind.i64.wrap (IntKind.i64.wrap (f*32)+32))-Int.toNat (IntKind.i64.wrap (f*32))) (List.drop (Int.toNat (IntKind.i64.wrap (f*32))) m)).length:=by rw[h1];exact(Tree.pp (text_w _ (Nat.le_of_eq hlen))).2
   intro _ _
   show x1.length=128
   rw[h1,hlen]
theorem Z8s{f:Int}(hf:U f){P:Nat}(hP:P≤32)(h:decide (IntKind.u64.wrap f<IntKind.u64.wrap (P:Int))=true):0≤f∧f<P:=by
 have h:=of_decide_eq_true h
 obtain⟨h1,h2⟩:=hf
 rw[IntKind.wrap_u64,IntKind.wrap_u64,Int.emod_eq_of_lt h1 (by omega),Int.emod_eq_of_lt (by omega) (by omega)]at h
 exact⟨h1,h⟩
theorem Zbb{P:Nat}{m:List Int}(h:Q0u P m){d:Q0a}(hd:Q7h d)(e:Q0p):(Q3k d m e).w (λr=>Q7h r.1∧Q0u P r.2.1∧out d.A9 m r.2.1∧(r.2.2=false→r.2.1=m)∧(∀p,Q18 d p=true→Q18 r.1 p=true)):=by
 have hcl:Q01 m=m:=rfl
 have keep: ∀b:Bool,Q7h d∧Q0u P m∧out d.A9 m m∧(b=false→m=m)∧(∀p,Q18 d p=true→Q18 d p=true):=λb=>⟨hd,h,Qk8 _ _,λ_=>rfl,λ_ h=>h⟩
 have blk: ∀{p:Int},Q18 d p=true→decide (d.Blocks>64)=false:=fun{p} hm=>by
   cases hb:decide (d.Blocks>64)
   · rfl
   · have:Q18 d p=false:=by simp only[Q18,Q59,Tree.m];rw[hb];rfl
     rw[this]at hm;cases hm
 have m2: ∀p,Q18 d p=true→Q18 {Blocks:=d.Blocks,B3:=d.B3,B0:=d.B0,B8:=2,D6:=0,B5:=0,A9:=0,C1:=[]} p=true:=λp hm=>by
   simp only[Q18,Q59,Tree.m];rw[blk hm];rfl
 have m3: ∀p,Q18 d p=true→Q18 {Blocks:=d.Blocks,B3:=d.B3,B0:=d.B0,B8:=3,D6:=0,B5:=0,A9:=0,C1:=[]} p=true:=λp hm=>by
   simp only[Q18,Q59,Tree.m];rw[blk hm];rfl
 unfold Q3k
 refine w_br (λ_=>w_an (Q7e h) (w_lv λx hx=>by rw[hcl]at hx;subst hx;exact keep _)) λ_=>w_br (λ_=>w_an (Q7e h) (w_lv λx hx=>by rw[hcl]at hx;subst hx;exact keep _)) λ_=>w_br (λ_=>w_an (Q7e h) (w_lv λx hx=>by rw[hcl]at hx;subst hx;exact keep _)) λ_=>w_an (Q7e h) (w_lv λx3 hx3=> ?_)
 rw[hcl]at hx3;subst hx3
 have fin: ∀{m':List Int},Q0u P m'→out d.A9 x3 m'→(Tree.br (e.N==1) (.lf (({Blocks:=d.Blocks,B3:=d.B3,B0:=d.B0,B8:=2,D6:=0,B5:=0,A9:=0,C1:=[]}:Q0a),m',true)) (.lf (({Blocks:=d.Blocks,B3:=d.B3,B0:=d.B0,B8:=3,D6:=0,B5:=0,A9:=0,C1:=[]}:Q0a),m',true))).w (λr=>Q7h r.1∧Q0u P r.2.1∧out d.A9 x3 r.2.1∧(r.2.2=false→r.2.1=x3)∧(∀p,Q18 d p=true→Q18 r.1 p=true)):=λhm ho=>
   w_br (λ_=>⟨⟨hd.block,hd.frame,U_0,U_0⟩,hm,ho,(λh=>by cases h),m2⟩) (λ_=>⟨⟨hd.block,hd.frame,U_0,U_0⟩,hm,ho,(λh=>by cases h),m3⟩)
 have nod:(Tree.br (!decide (e.C3=[])) (.lf (d,x3,false)) (Tree.br (e.N==1) (.lf (({Blocks:=d.Blocks,B3:=d.B3,B0:=d.B0,B8:=2,D6:=0,B5:=0,A9:=0,C1:=[]}:Q0a),x3,true)) (.lf (({Blocks:=d.Blocks,B3:=d.B3,B0:=d.B0,B8:=3,D6:=0,B5:=0,A9:=0,C1:=[]}:Q0a),x3,true)))).w (λr=>Q7h r.1∧Q0u P r.2.1∧out d.A9 x3 r.2.1∧(r.2.2=false→r.2.1=x3)∧(∀p,Q18 d p=true→Q18 r.1 p=true)):=
   w_br (λ_=>keep _) (λ_=>fin h (Qk8 _ _))
 refine w_br (λ_=>w_br (λ_=>w_lv λx4 hx4=>w_br (λ_=>keep _) λhb=> ?_) (λ_=>nod)) (λ_=>nod)
 have hp:=Q38 h
 have hb:x4=true:=by simpa using hb
 rw[hb]at hx4
 simp only[Q7r,Qa9,Tree.m,letv,hp]at hx4
 obtain⟨f0,f1⟩:=Z8s hd.opFrame h.p2 hx4.symm
 have ef:IntKind.i64.wrap d.A9=d.A9:=by have:=h.p2;rw[IntKind.wrap_i64];omega
 refine Q0c (Qto h _ _) λx5 ⟨h5,o5,k5⟩=> ?_
 rw[ef]at o5
 exact w_br (λhf=>⟨hd,h5,o5,λ_=>k5 (by simpa using hf),λ_ h=>h⟩) (λ_=>fin h5 o5)
theorem receive_w{P:Nat}{m:List Int}(h:Q0u P m){n:Q0n}(hn:Qfd n)(frame:List UInt8):(Q5f n m frame).w (λr=>Qfd r.1∧Q0u P r.2.1∧out n.B9 m r.2.1∧(r.2.2=false→r.2.1=m)∧(∀p,Q5x n p=true→Q5x r.1 p=true)):=by
 have hcl:Q01 m=m:=rfl
 have keep:Qfd n∧Q0u P m∧out n.B9 m m∧(false=false→m=m)∧(∀p,Q5x n p=true→Q5x n p=true):=⟨hn,h,Qk8 _ _,λ_=>rfl,λ_ h=>h⟩
 unfold Q5f
 refine w_br (λ_=>w_an (Q7e h) (w_lv λx hx=>by rw[hcl]at hx;subst hx;exact keep)) λhpo=>w_br (λ_=>w_an (Q7e h) (w_lv λx hx=>by rw[hcl]at hx;subst hx;exact keep)) λl1=>w_br (λ_=>w_an (Q7e h) (w_lv λx hx=>by rw[hcl]at hx;subst hx;exact keep)) λl2=>w_lv λx3 hx3=>w_br (λ_=>w_an (Q7e h) (w_lv λx hx=>by rw[hcl]at hx;subst hx;exact keep)) λhb=> ?_
 have l1:=of_decide_eq_false l1
 have l2:=of_decide_eq_false l2
 have hp:=Q38 h
 have hb:x3=true:=by simpa using hb
 rw[hb]at hx3
 simp only[Q89,Qc5,Tree.m,letv,hp]at hx3
 obtain⟨f0,f1⟩:=Z8s hn.buffer h.p2 hx3.symm
 have ef:IntKind.i64.wrap n.B9=n.B9:=by have:=h.p2;rw[IntKind.wrap_i64];omega
 refine Q0c (Z5n h _) λx5 h5=> ?_
 rw[ef]at h5
 have h5:=h5 f0 f1
 have hmax:(maxLen:Nat)=9223372036854775807:=rfl
 refine w_cn (decide_eq_true (by omega)) (w_cn (decide_eq_true (by simp only[List.length_take,List.length_drop,hmax];omega)) (Q0c (Qto h _ _) λx6 ⟨h6,o6,_⟩=> ?_))
 rw[ef]at o6
 have hg:IntKind.u32.wrap (frame.length:Int)=frame.length:=by rw[IntKind.wrap_u32];omega
 refine⟨⟨hn.frame,hn.len,U_0,Q0k _⟩,h6,o6,(λh=>by cases h),λp _=> ?_⟩
 simp only[Q5x,Qge,Tree.m]
 rw[hg,decide_eq_true (show(frame.length:Int)≥1 by omega),decide_eq_true (show(frame.length:Int)≤128 by omega)]
 rfl
theorem ctype_w(c:Q0b)(b:Int):(Q5p c b).w (λr=>Q2s c=true→Q2s r.1=true):=by
 have hmax:(maxLen:Nat)=9223372036854775807:=rfl
 unfold Q5p
 refine w_br (λ_=>λh=>h) (λhb=> ?_)
 have hb:=of_decide_eq_false hb
 refine w_cn (decide_eq_true (by rw[hmax];omega)) ?_
 intro _
 show decide (((c.C9++[_]).length:Int)≤16)=true
 rw[List.length_append,List.length_singleton]
 exact decide_eq_true (by omega)
theorem fire_may(t:Q0i)(h:Q4w t=true):Q4w (Qgg t).1=true:=by
 simp only[Qgg,Qjf,Tree.m]
 cases ha:t.D5
 · exact h
 · rfl
theorem dev_eq(m:Q00):Q0v m=(Q2s m.A2&&(Q4w m.A7&&(Q18 m.A6 (Q0q m.Mem)&&(Q5x m.C5 (Q0q m.Mem)&&Q2z m.A1 (Q0q m.Mem))))):=by
 simp only[Q0v,Q1e,Tree.m,letv]
 cases Q2s m.A2<;>cases Q4w m.A7<;>cases Q18 m.A6 (Q0q m.Mem)<;>cases Q5x m.C5 (Q0q m.Mem)<;>rfl
theorem bal_eq{b c:Q07}(h:c.C0=b.C0)(p:Int):Q2z c p=Q2z b p:=by
 simp only[Q2z,Q33,Tree.m,h]
theorem cnd{a x y:Bool}(h:x=true→y=true):(bif a then false else x)=true→(bif a then false else y)=true:=by cases a<;>simp_all
def chain(b1 b2 b3 b4 b5 b6 b7 w h dev:Bool):Bool:=bif b1 then false else bif b2 then false else bif b3 then false else bif b4 then false else bif b5 then false else bif b6 then false else bif b7 then false else bif w then(bif h then false else dev) else dev
theorem Zal{b1 b2 b3 b4 b5 b6 b7 w h d d':Bool}(hd:d=true→d'=true):chain b1 b2 b3 b4 b5 b6 b7 w h d=true→chain b1 b2 b3 b4 b5 b6 b7 w h d'=true:=by
 refine cnd (cnd (cnd (cnd (cnd (cnd (cnd ?_))))))
 cases w
 · exact hd
 · cases h
   · exact hd
   · exact λh=>h
def mayC(p:Int)(c:Q02)(ct:Int)(w h dev:Bool):Bool:=chain (p==0) (c.X.a0 !=0) (decide (c.B4.a0>31)) (decide (c.B4.a7>31)) (decide (c.B4.a6>255)) (Int.tmod c.B4.a1 4 !=0) (decide (ct>1152921504606846976)) w h dev
theorem mayC_mono{p:Int}{c:Q02}{ct:Int}{w h d d':Bool}(hd:d=true→d'=true)(g:mayC p c ct w h d=true):mayC p c ct w h d'=true:=Zal hd g
theorem may_eq(m:Q00):Q16 m=mayC (Q0q m.Mem) m.B1 m.A0 m.A3 m.A4 (Q0v m):=rfl
theorem Qn4{m n:Q00}(hp:Q0q n.Mem=Q0q m.Mem)(hcpu:n.B1=m.B1)(hct:n.A0=m.A0)(hw:n.A3=m.A3)(hh:n.A4=m.A4)
   (hc:Q2s m.A2=true→Q2s n.A2=true) (ht:Q4w m.A7=true→Q4w n.A7=true) (hd: ∀p,Q18 m.A6 p=true→Q18 n.A6 p=true) (hn: ∀p,Q5x m.C5 p=true→Q5x n.C5 p=true) (hb:n.A1.C0=m.A1.C0) (h:Q16 m=true):Q16 n=true:=by
 have dev:Q0v m=true→Q0v n=true:=λh=>by
   rw[dev_eq]at h⊢
   simp only[Bool.and_eq_true]at h⊢
   rw[hp,bal_eq hb]
   exact⟨hc h.1,ht h.2.1,hd _ h.2.2.1,hn _ h.2.2.2.1,h.2.2.2.2⟩
 rw[may_eq]at h⊢
 rw[hp,hcpu,hct,hw,hh]
 exact mayC_mono dev h
section
variable {P:Nat} {m:List Int} (h:Q0u P m)
include h
theorem dpage{f:Int}(hf:U f){b:Bool}(hx:b=Q7r m f)(hb:b=true):0≤f∧f<P:=by
 have hp:=Q38 h
 rw[hb]at hx
 simp only[Q7r,Qa9,Tree.m,letv,hp]at hx
 exact Z8s hf h.p2 hx.symm
theorem npage{f:Int}(hf:U f){b:Bool}(hx:b=Q89 m f)(hb:b=true):0≤f∧f<P:=by
 have hp:=Q38 h
 rw[hb]at hx
 simp only[Q89,Qc5,Tree.m,letv,hp]at hx
 exact Z8s hf h.p2 hx.symm
def keepD(P:Nat)(d d':Q0a):Prop:=Q7h d'∧(Q18 d P=true→Q18 d' P=true)
theorem issue_w{d:Q0a}(hd:Q7h d){cmd:Int}(hc:cmd=1∨cmd=2)(at0:Int):(Q67 d m cmd at0).w (λr=>keepD P d r.1∧r.2.length≤1):=by
 have h2:=h.p2
 have st3:(d.B8 !=0)=false→keepD P d {Blocks:=d.Blocks,B3:=d.B3,B0:=d.B0,B8:=3,D6:=d.D6,B5:=d.B5,A9:=d.A9,C1:=d.C1}:=λhs=>by
   have hs:d.B8=0:=by simpa using hs
   refine⟨⟨hd.block,hd.frame,hd.opBlock,hd.opFrame⟩,λhm=> ?_⟩
   simp only[Q18,Q59,Tree.m,hs]at hm⊢
   exact hm
 have blk:Q18 d P=true→decide (d.Blocks>64)=false:=λhm=>by
   cases hb:decide (d.Blocks>64)
   · rfl
   · have:Q18 d P=false:=by simp only[Q18,Q59,Tree.m];rw[hb];rfl
     rw[this]at hm;cases hm
 unfold Q67
 refine w_br (λ_=>⟨⟨hd,λh=>h⟩,Nat.zero_le _⟩) λhs=>w_br (λ_=>⟨st3 hs,Nat.zero_le _⟩) λhb=>w_lv λx0 hx=>w_br (λ_=>⟨st3 hs,Nat.zero_le _⟩) λhp=> ?_
 have hb:=of_decide_eq_false hb
 obtain⟨f0,f1⟩:=dpage h hd.frame hx (by simpa using hp)
 have ef:IntKind.i64.wrap d.B0=d.B0:=by rw[IntKind.wrap_i64];omega
 have e1:decide (d.B3<d.Blocks)=true:=decide_eq_true (by omega)
 have e2:decide (IntKind.i64.wrap d.B0<(P:Int))=true:=by rw[ef];exact decide_eq_true f1
 refine w_br (λhcm=>Q0c (Z5n h _) λx1 h1=> ?_) (λhcm=> ?_)
 · rw[ef]at h1
   have h1:=h1 f0 f1
   have hcm:=eq_of_beq hcm
   subst hcm
   refine w_lv λx2 _=>⟨⟨⟨hd.block,hd.frame,hd.block,hd.frame⟩,λhm=> ?_⟩,Nat.le_refl _⟩
   simp only[Q18,Q59,Q7n,Q6,Tree.m,letv,blk hm,e1,e2,h1]
   rfl
 · have hc:cmd=1:=by
     rcases hc with h|h
     · exact h
     · rw[h]at hcm;exact absurd hcm (by decide)
   subst hc
   refine w_lv λx2 _=>⟨⟨⟨hd.block,hd.frame,hd.block,hd.frame⟩,λhm=> ?_⟩,Nat.le_refl _⟩
   simp only[Q18,Q59,Q7n,Q6,Tree.m,letv,blk hm,e1,e2]
   rfl
theorem diskP_w{d:Q0a}(hd:Q7h d)(port:Int){v:Int}(hv:U v)(at0:Int):(Q9m d m port v at0).w (λr=>keepD P d r.1∧r.2.length≤1):=by
 have keep:keepD P d d:=⟨hd,λh=>h⟩
 have e1: ∀{k:Int},(v==k)=true→IntKind.i64.wrap v=k:=λhk=>by
   have:=eq_of_beq hk
   obtain⟨a,b⟩:=hv
   rw[IntKind.wrap_i64];omega
 unfold Q9m
 refine w_br (λ_=>⟨⟨⟨hv,hd.frame,hd.opBlock,hd.opFrame⟩,λh=>h⟩,Nat.zero_le _⟩) λ_=>w_br (λ_=>⟨⟨⟨hd.block,hv,hd.opBlock,hd.opFrame⟩,λh=>h⟩,Nat.zero_le _⟩) λ_=>w_br (λ_=>w_br (λhk=>Q0c (issue_w h hd (.inl (e1 hk)) _) λx hx=>hx) λ_=>w_br (λhk=>Q0c (issue_w h hd (.inr (e1 hk)) _) λx hx=>hx) λ_=>w_br (λ_=>w_lv λx hx=>w_br (λhb=> ?_) (λ_=>⟨keep,Nat.zero_le _⟩)) (λ_=>⟨keep,Nat.zero_le _⟩)) (λ_=>⟨keep,Nat.zero_le _⟩)
 refine⟨⟨⟨hd.block,hd.frame,hd.opBlock,hd.opFrame⟩,λhm=> ?_⟩,Nat.zero_le _⟩
 rw[hb]at hx
 simp only[Q8,Qg,Tree.m]at hx
 cases h2:d.B8==2
 · rw[h2]at hx
   have h3:d.B8=3:=eq_of_beq hx.symm
   simp only[Q18,Q59,Tree.m,h3]at hm⊢
   exact hm
 · have h3:d.B8=2:=eq_of_beq h2
   simp only[Q18,Q59,Tree.m,h3]at hm⊢
   exact hm
def keepN(P:Nat)(n n':Q0n):Prop:=Qfd n'∧(Q5x n P=true→Q5x n' P=true)
theorem send_w{n:Q0n}(hn:Qfd n)(at0:Int):(Q9n n m at0).w (λr=>r.length≤1):=by
 have h2:=h.p2
 unfold Q9n
 refine w_br (λ_=>Nat.zero_le _) λl1=>w_br (λ_=>Nat.zero_le _) λl2=>w_lv λx0 hx=>w_br (λ_=>Nat.zero_le _) λhp=>Q0c (Z5n h _) λx1 h1=> ?_
 have l1:=of_decide_eq_false l1
 have l2:=of_decide_eq_false l2
 obtain⟨f0,f1⟩:=npage h hn.frame hx (by simpa using hp)
 have ef:IntKind.i64.wrap n.B0=n.B0:=by rw[IntKind.wrap_i64];omega
 rw[ef]at h1
 have h1:=h1 f0 f1
 exact w_cn (decide_eq_true (by omega)) (Nat.le_refl _)
theorem nicP_w{n:Q0n}(hn:Qfd n)(port:Int){v:Int}(hv:U v)(at0:Int):(Qcc n m port v at0).w (λr=>keepN P n r.1∧r.2.length≤1):=by
 have h2:=h.p2
 have keep:keepN P n n:=⟨hn,λh=>h⟩
 unfold Qcc
 refine w_br (λ_=>⟨⟨⟨hv,hn.len,hn.buffer,hn.got⟩,λh=>h⟩,Nat.zero_le _⟩) λ_=>w_br (λ_=>⟨⟨⟨hn.frame,hv,hn.buffer,hn.got⟩,λh=>h⟩,Nat.zero_le _⟩) λ_=>w_br (λ_=>w_br (λ_=>Q0c (send_w h hn _) λx hx=>⟨keep,hx⟩) λ_=>w_br (λ_=>w_lv λx hx=>w_br (λhb=>w_br (λnp=>w_br (λnr=> ?_) (λ_=>⟨keep,Nat.zero_le _⟩)) (λ_=>⟨keep,Nat.zero_le _⟩)) (λ_=>⟨keep,Nat.zero_le _⟩)) λ_=>w_br (λ_=> ?_) (λ_=>⟨keep,Nat.zero_le _⟩)) (λ_=>⟨keep,Nat.zero_le _⟩)
 · obtain⟨f0,f1⟩:=npage h hn.frame hx hb
   have np:n.C4=false:=by simpa using np
   have nr:n.B7=false:=by simpa using nr
   have e2:decide (IntKind.i64.wrap n.B0≥(P:Int))=false:=decide_eq_false (by rw[IntKind.wrap_i64];omega)
   refine⟨⟨⟨hn.frame,hn.len,hn.frame,hn.got⟩,λhm=> ?_⟩,Nat.zero_le _⟩
   simp only[Q5x,Qge,Tree.m,np,nr,e2]at hm⊢
   cases hb:(n.B9 !=0)
   · rw[hb]at hm;exact hm
   · rw[hb]at hm;cases hm
 · refine⟨⟨⟨hn.frame,hn.len,hn.buffer,U_0⟩,λhm=> ?_⟩,Nat.zero_le _⟩
   simp only[Q5x,Qge,Tree.m]at hm⊢
   revert hm
   cases n.C4<;>cases n.B7<;>cases decide (IntKind.i64.wrap n.B9≥(P:Int))<;>cases(n.B9 !=0)<;>simp
end
theorem arm_may(t:Q0i)(v:Int):Q4w (Qgt t v)=true:=by
 simp only[Qgt,Qhk,Q4w,Qhv,Tree.m]
 cases h:(v !=0)
 · have:v=0:=by simpa using h
   subst this;rfl
 · rfl
theorem Ql5{a:Int}(k:Nat)(hk:k≤32):ishr .u32 a k=a/2^k:=by
 unfold ishr
 have e:min (k:Int).toNat IntKind.u32.bits=k:=by show min (k:Int).toNat 32=k;omega
 have hp:(0:Int)<2^k:=Int.pow_pos (by decide)
 rw[e,Int.fdiv_eq_ediv_of_nonneg _ (Int.le_of_lt hp)]
def Zab(x:Int)(n:Nat):Prop:=x<2^n∧(n=0∨(2:Int)^(n-1)≤x)
theorem Qzo{x q:Int}{n k:Nat}(hq:q=x/2^k)(h0:0<q)(h:Zab q n):Zab x (n+k):=by
 have hp:(0:Int)<2^k:=Int.pow_pos (by decide)
 obtain⟨h1,h2⟩:=h
 have hn:n≠0:=λe=>by subst e;simp at h1;omega
 refine⟨?_, .inr ?_⟩
 · rw[Int.pow_add]
   have:x<(x/2^k+1)*2^k:=Int.lt_ediv_add_one_mul_self x hp
   have h3:(x/2^k+1)*2^k≤2^n*2^k:=Int.mul_le_mul_of_nonneg_right (by omega) (Int.le_of_lt hp)
   omega
 · have h2:=h2.resolve_left hn
   have e:n+k-1=(n-1)+k:=by omega
   rw[e,Int.pow_add]
   have h3:(2:Int)^(n-1)*2^k≤q*2^k:=Int.mul_le_mul_of_nonneg_right h2 (Int.le_of_lt hp)
   have h4:q*2^k≤x:=by rw[hq];exact Int.ediv_mul_le x (Int.ne_of_gt hp)
   omega
theorem isLen_le{x:Int}{n p:Nat}(h:Zab x n)(hx:x<2^p):n≤p:=by
  obtain⟨h1,h2⟩:=h
  rcases h2 with h2|h2
  · omega
  · rcases Nat.lt_or_ge p n with hlt|hge
    · have:(2:Int)^p≤2^(n-1):=by
        have:=Nat.pow_le_pow_right (show 0<2 by omega) (show p≤n-1 by omega)
        exact_mod_cast this
      omega
    · exact hge
theorem Z66{x:Int}{n p:Nat}(h:Zab x n)(hn:n≤p):x<2^p:=by
 have:(2:Int)^n≤2^p:=by
   have:=Nat.pow_le_pow_right (show 0<2 by omega) hn
   exact_mod_cast this
 exact Int.lt_of_lt_of_le h.1 this
def lenChk(i:Nat):Bool:=match(Q1k (i:Int)) with
 | .ofNat n=>decide ((i:Int)<2^n)&&(Nat.beq n 0||decide ((2:Int)^(n-1)≤i))&&decide (n≤8)
 |_=>false
theorem Qna{q:Int}(h0:0≤q)(h1:q<256): ∃n:Nat,Q1k q=n∧Zab q n∧n≤8:=by
 have all:List.all (List.range 256) lenChk=true:=by kernel_rfl
 have:=List.all_eq_true.1 all q.toNat (List.mem_range.2 (by omega))
 have hq:((q.toNat:Nat):Int)=q:=by omega
 unfold lenChk at this
 rw[hq]at this
 split at this
 · rename_i n hn
   simp only[Bool.and_eq_true,Bool.or_eq_true,decide_eq_true_eq]at this
   refine⟨n,hn,⟨this.1.1,?_⟩,this.2⟩
   rcases this.1.2 with h|h
   · exact .inl (Nat.eq_of_beq_eq_true h)
   · exact .inr h
 · cases this
theorem len_24{x:Int}(h:U x)(hx:16777216≤x):Q1k x=24+Q1k (x/16777216):=by
 obtain⟨h0,h1⟩:=h
 have s16:ishr .u32 x 16=x/65536:=Ql5 16 (by omega)
 have s24:ishr .u32 (x/65536) 8=x/16777216:=by rw[show((8:Int))=((8:Nat):Int) from rfl,Ql5 8 (by omega)];omega
 have d1:decide (x≥65536)=true:=decide_eq_true (by omega)
 have d2:decide (x/65536≥256)=true:=decide_eq_true (by omega)
 have d3:decide (x/16777216≥65536)=false:=decide_eq_false (by omega)
 have d4:decide (x/16777216≥256)=false:=decide_eq_false (by omega)
 have u:IntKind.u8.wrap (x/16777216)=x/16777216:=by rw[IntKind.wrap_u8];omega
 simp only[Q1k,Q1j,Tree.m,s16,s24,d1,d2,d3,d4,u,cond_true,cond_false]
 generalize(List.getD _ (Int.toNat (x/16777216)) (0:UInt8))=b
 have hb:=UInt8.toNat_lt b
 rw[IntKind.wrap_i64,IntKind.wrap_i64,IntKind.wrap_i64,IntKind.wrap_i64]
 omega
theorem len_16{x:Int}(h0:65536≤x)(h1:x<16777216):Q1k x=16+Q1k (x/65536):=by
 have s16:ishr .u32 x 16=x/65536:=Ql5 16 (by omega)
 have d1:decide (x≥65536)=true:=decide_eq_true (by omega)
 have d2:decide (x/65536≥256)=false:=decide_eq_false (by omega)
 have d3:decide (x/65536≥65536)=false:=decide_eq_false (by omega)
 have u:IntKind.u8.wrap (x/65536)=x/65536:=by rw[IntKind.wrap_u8];omega
 simp only[Q1k,Q1j,Tree.m,s16,d1,d2,d3,u,cond_true,cond_false]
 generalize(List.getD _ (Int.toNat (x/65536)) (0:UInt8))=b
 have hb:=UInt8.toNat_lt b
 rw[IntKind.wrap_i64,IntKind.wrap_i64,IntKind.wrap_i64]
 omega
theorem len_8{x:Int}(h0:256≤x)(h1:x<65536):Q1k x=8+Q1k (x/256):=by
 have s8:ishr .u32 x 8=x/256:=Ql5 8 (by omega)
 have d1:decide (x≥65536)=false:=decide_eq_false (by omega)
 have d2:decide (x≥256)=true:=decide_eq_true (by omega)
 have d3:decide (x/256≥65536)=false:=decide_eq_false (by omega)
 have d4:decide (x/256≥256)=false:=decide_eq_false (by omega)
 have u:IntKind.u8.wrap (x/256)=x/256:=by rw[IntKind.wrap_u8];omega
 simp only[Q1k,Q1j,Tree.m,s8,d1,d2,d3,d4,u,cond_true,cond_false]
 generalize(List.getD _ (Int.toNat (x/256)) (0:UInt8))=b
 have hb:=UInt8.toNat_lt b
 rw[IntKind.wrap_i64,IntKind.wrap_i64,IntKind.wrap_i64,IntKind.wrap_i64]
 omega
theorem Z9c{x:Int}(h:U x): ∃n:Nat,Q1k x=n∧Zab x n:=by
  obtain⟨h0,h1⟩:=h
  rcases Int.lt_or_le x 256 with a|a
  · obtain⟨n,e,l,_⟩:=Qna h0 a
    exact⟨n,e,l⟩
  · rcases Int.lt_or_le x 65536 with b|b
    · obtain⟨n,e,l,_⟩:=Qna (q:=x/256) (by omega) (by omega)
      exact⟨n+8,by rw[len_8 a b,e];omega,Qzo (k:=8) rfl (by omega) l⟩
    · rcases Int.lt_or_le x 16777216 with c|c
      · obtain⟨n,e,l,_⟩:=Qna (q:=x/65536) (by omega) (by omega)
        exact⟨n+16,by rw[len_16 b c,e];omega,Qzo (k:=16) rfl (by omega) l⟩
      · obtain⟨n,e,l,_⟩:=Qna (q:=x/16777216) (by omega) (by omega)
        exact⟨n+24,by rw[len_24 ⟨h0,h1⟩ c,e];omega,Qzo (k:=24) rfl (by omega) l⟩
theorem Qu6{b:Q07}(h:U b.C0){P:Nat}:Q2z b P=true↔b.C0<2^P:=by
 obtain⟨n,e,l⟩:=Z9c h
 have hp:(if(0:Int)>(P:Int) then(0:Int) else P)=P:=by rw[if_neg (by omega)]
 simp only[Q2z,Q33,Tree.m,letv,e,hp,decide_eq_true_eq]
 constructor
 · intro h;exact Z66 l (by omega)
 · intro h;have:=isLen_le l h;omega
theorem Z15{a:Int}(h:U a){P:Nat}(h1:a<2^P):(BitVec.ofInt 32 a).toNat<2^P:=by
 obtain⟨a0,a1⟩:=h
 rw[BitVec.toNat_ofInt,Int.emod_eq_of_lt a0 (by omega)]
 have:((2^P:Nat):Int)=(2:Int)^P:=by exact_mod_cast rfl
 omega
theorem or_lt{a b:Int}(ha:U a)(hb:U b){P:Nat}(hP:P≤32)(h1:a<2^P)(h2:b<2^P):ior .u32 a b<2^P:=by
 have e:(BitVec.ofInt 32 a|||BitVec.ofInt 32 b).toNat<2^P:=by
   rw[BitVec.toNat_or]
   exact Nat.or_lt_two_pow (Z15 ha h1) (Z15 hb h2)
 have hc:((2^P:Nat):Int)=(2:Int)^P:=by exact_mod_cast rfl
 have l:=(BitVec.ofInt 32 a|||BitVec.ofInt 32 b).isLt
 show IntKind.wrap .u32 ((BitVec.ofInt 32 a|||BitVec.ofInt 32 b).toNat:Int)<2^P
 rw[IntKind.wrap_u32]
 omega
theorem andn_lt{a b:Int}(ha:U a){P:Nat}(h1:a<2^P):Qd8 .u32 a b<2^P:=by
 have e:(BitVec.ofInt 32 a&&&~~~BitVec.ofInt 32 b).toNat<2^P:=by
   rw[BitVec.toNat_and]
   exact Nat.lt_of_le_of_lt Nat.and_le_left (Z15 ha h1)
 have hc:((2^P:Nat):Int)=(2:Int)^P:=by exact_mod_cast rfl
 have l:=(BitVec.ofInt 32 a&&&~~~BitVec.ofInt 32 b).isLt
 show IntKind.wrap .u32 ((BitVec.ofInt 32 a&&&~~~BitVec.ofInt 32 b).toNat:Int)<2^P
 rw[IntKind.wrap_u32]
 omega
theorem shl_one{v:Int}(h0:0≤v)(h1:v<32):ishl .u32 1 v=2^v.toNat:=by
 have e:min v.toNat IntKind.u32.bits=v.toNat:=by show min v.toNat 32=v.toNat;omega
 obtain⟨n,rfl⟩: ∃n:Nat,v=n:=⟨v.toNat,by omega⟩
 have hn:n<32:=by omega
 have hlt:(2:Nat)^n<4294967296:=by
   have:=Nat.pow_lt_pow_right (show 1<2 by omega) hn
   simpa using this
 have hc:((2^n:Nat):Int)=(2:Int)^n:=by exact_mod_cast rfl
 unfold ishl
 rw[e,IntKind.wrap_u32,Int.one_mul,Int.toNat_natCast,←hc]
 clear hc e
 generalize(2:Nat)^n=z at*
 omega
def keepB(P:Nat)(b b':Q07):Prop:=okB b'∧(Q2z b P=true→Q2z b' P=true)
theorem Zb2{P:Nat}{m:List Int}(h:Q0u P m){b:Q07}(hb:okB b)(port:Int){v:Int}(hv:U v):(Q2r b m port v).w (λr=>keepB P b r.1∧Q0u P r.2):=by
 have hcl:Q01 m=m:=rfl
 have h2:=h.p2
 have hp:=Q38 h
 have keep:(Tree.an (Q03 m) (.lv (Q01 m) λx=> .lf (b,x))).w (λr=>keepB P b r.1∧Q0u P r.2):=w_an (Q7e h) (w_lv λx hx=>by rw[hcl]at hx;subst hx;exact⟨⟨hb,λh=>h⟩,h⟩)
 unfold Q2r
 refine w_br (λ_=>keep) λhlt=>w_cn (decide_eq_true hv.1) (w_br (λ_=>w_lv λx1 hx=>w_br (λhpg=>w_br (λ_=>w_an ⟨by decide,by decide,by decide⟩ (w_lv λx2 _=>Q0c (Qto h _ _) λx3 ⟨h3,_⟩=> ?_)) (λ_=>keep)) (λ_=>keep)) (λ_=>w_br (λ_=>w_an (Q7e h) (w_lv λx hx=> ?_)) (λ_=>keep)))
 · have hlt:=of_decide_eq_false hlt
   have hpg:=of_decide_eq_true hpg
   rw[hx,hp]at hpg
   obtain⟨v0,v1⟩:=hv
   have ev:IntKind.i64.wrap v=v:=by rw[IntKind.wrap_i64];omega
   rw[ev]at hpg
   refine⟨⟨⟨hb.1,Q0k _⟩,λhm=> ?_⟩,h3⟩
   rw[Qu6 hb.2]at hm
   rw[Qu6 (Q0k _)]
   have hs:ishl .u32 1 v<2^P:=by
     rw[shl_one v0 (by omega)]
     have:=Nat.pow_lt_pow_right (show 1<2 by omega) (show v.toNat<P by omega)
     exact_mod_cast this
   exact or_lt hb.2 (Q0k _) h2 hm hs
 · rw[hcl]at hx;subst hx
   refine⟨⟨⟨hb.1,Q0k _⟩,λhm=> ?_⟩,h⟩
   rw[Qu6 hb.2]at hm
   rw[Qu6 (Q0k _)]
   exact andn_lt hb.2 hm
structure kept(P:Nat)(m n:Q00):Prop where
 ok:okS P n
 dev:Q0v m=true→Q0v n=true
 cpu:n.B1=m.B1
 cnt:n.A0=m.A0
 wait:n.A3=m.A3
 halt:n.A4=m.A4
theorem Z4k{P:Nat}{m:Q00}(h:okS P m):kept P m m:=⟨h,λh=>h,rfl,rfl,rfl,rfl⟩
theorem Qk4{P:Nat}{m n:Q00}(hm:Q0u P m.Mem)(hn:Q0u P n.Mem)(hc:Q2s m.A2=true→Q2s n.A2=true)(ht:Q4w m.A7=true→Q4w n.A7=true)
   (hd:Q18 m.A6 P=true→Q18 n.A6 P=true) (hk:Q5x m.C5 P=true→Q5x n.C5 P=true) (hb:Q2z m.A1 P=true→Q2z n.A1 P=true) (h:Q0v m=true):Q0v n=true:=by
 rw[dev_eq]at h⊢
 rw[Q38 hm]at h
 rw[Q38 hn]
 simp only[Bool.and_eq_true]at h⊢
 exact⟨hc h.1,ht h.2.1,hd h.2.2.1,hk h.2.2.2.1,hb h.2.2.2.2⟩
theorem Z6o{P:Nat}{m:Q00}(h:okS P m)(port:Int){v:Int}(hv:U v)(at0:Int):(Q27 m port v at0).w (λr=>kept P m r.1∧r.2.length≤1):=by
 have k:=Z4k h
 obtain⟨h1,h2,h3,h4,h5,h6⟩:=h
 have id: ∀{p:Prop},p→p:=λh=>h
 have D: ∀(x:Q0a×List Q06),(keepD P m.A6 x.1∧x.2.length≤1)→kept P m {B1:=m.B1,Mem:=m.Mem,A2:=m.A2,A7:=m.A7,A6:=x.1,C5:=m.C5,A1:=m.A1,A0:=m.A0,A3:=m.A3,A4:=m.A4}∧x.2.length≤1:=λx hx=>
   ⟨⟨⟨h1,h2,hx.1.1,h4,h5,h6⟩,Qk4 h2 h2 id id hx.1.2 id id,rfl,rfl,rfl,rfl⟩,hx.2⟩
 have N: ∀(x:Q0n×List Q06),(keepN P m.C5 x.1∧x.2.length≤1)→kept P m {B1:=m.B1,Mem:=m.Mem,A2:=m.A2,A7:=m.A7,A6:=m.A6,C5:=x.1,A1:=m.A1,A0:=m.A0,A3:=m.A3,A4:=m.A4}∧x.2.length≤1:=λx hx=>
   ⟨⟨⟨h1,h2,h3,hx.1.1,h5,h6⟩,Qk4 h2 h2 id id id hx.1.2 id,rfl,rfl,rfl,rfl⟩,hx.2⟩
 have B: ∀(x:Q07×List Int),(keepB P m.A1 x.1∧Q0u P x.2)→kept P m {B1:=m.B1,Mem:=x.2,A2:=m.A2,A7:=m.A7,A6:=m.A6,C5:=m.C5,A1:=x.1,A0:=m.A0,A3:=m.A3,A4:=m.A4}∧([]:List Q06).length≤1:=λx hx=>
   ⟨⟨⟨h1,hx.2,h3,h4,hx.1.1.1,hx.1.1.2⟩,Qk4 h2 hx.2 id id id id hx.1.2,rfl,rfl,rfl,rfl⟩,Nat.zero_le _⟩
 unfold Q27
 repeat'(first
   |exact⟨k,Nat.le_refl _⟩
   |exact⟨k,Nat.zero_le _⟩
   |exact w_lv λx hx=>⟨⟨⟨h1,h2,h3,h4,h5,h6⟩,Qk4 h2 h2 id (λ_=>by rw[hx];exact arm_may _ _) id id id,rfl,rfl,rfl,rfl⟩,Nat.zero_le _⟩
   |exact Q0c (diskP_w h2 h3 _ hv _) λx hx=>D x hx
   |exact Q0c (nicP_w h2 h4 _ hv _) λx hx=>N x hx
   |exact Q0c (Zb2 h2 ⟨h5,h6⟩ _ hv) λx hx=>B x hx
   |refine w_br (λ_=> ?_) (λ_=> ?_))
theorem Qx4(c:Q0b)(port:Int):(Q83 c port).w (λr=>U r.2∧(Q2s c=true→Q2s r.1=true)):=by
 have u1:U 4294967295:=⟨by omega,by omega⟩
 unfold Q83
 refine w_br (λ_=>w_br (λ_=>⟨u1,λh=>h⟩) (λhb=>w_cn ?_ (w_cn ?_ ⟨Q0k _,λhm=> ?_⟩))) (λ_=>w_br (λ_=>⟨Q0k _,λh=>h⟩) (λ_=>⟨U_0,λh=>h⟩))
 · have hb:=of_decide_eq_false hb
   have:0<c.C9.length:=List.length_pos_iff.2 hb
   simp [Nat.blt];omega
 · have hb:=of_decide_eq_false hb
   have:0<c.C9.length:=List.length_pos_iff.2 hb
   exact decide_eq_true (by omega)
 · have hm:decide ((c.C9.length:Int)≤16)=true:=hm
   have hm:=of_decide_eq_true hm
   show decide (((List.take _ (List.drop _ c.C9)).length:Int)≤16)=true
   refine decide_eq_true ?_
   rw[List.length_take,List.length_drop];omega
theorem Z99{P:Nat}{m:Q00}(h:okS P m)(port:Int){clock:Int}(hc:U clock):(Q20 m port clock).w (λr=>kept P m r.1∧U r.2):=by
 have k:=Z4k h
 obtain⟨h1,h2,h3,h4,h5,h6⟩:=h
 have id: ∀{p:Prop},p→p:=λh=>h
 have ti: ∀t,U (Qrk t):=λt=>by
   refine Tree.post (Qkj t) (W:=U) ?_
   unfold Qkj
   exact w_br (λ_=>⟨by omega,by omega⟩) (λ_=>U_0)
 have di: ∀p,U (Qpf m.A6 p):=λp=>by
   refine Tree.post (Qmx m.A6 p) (W:=U) ?_
   unfold Qmx
   exact w_br (λ_=>h3.block) (λ_=>w_br (λ_=>h3.frame) (λ_=>w_br (λ_=>Q0k _) (λ_=>U_0)))
 have ni: ∀p,U (Qtv m.C5 p):=λp=>by
   refine Tree.post (Qmi m.C5 p) (W:=U) ?_
   unfold Qmi
   exact w_br (λ_=>h4.frame) (λ_=>w_br (λ_=>h4.got) (λ_=>w_br (λ_=>w_br (λ_=>w_br (λ_=>Q0k _) (λ_=>Q0k _)) (λ_=>w_br (λ_=>Q0k _) (λ_=>U_0))) (λ_=>U_0)))
 have bi: ∀p,(Q6b m.A1 p).w U:=λp=>by
   unfold Q6b
   exact w_br (λ_=>h5) (λ_=>w_br (λ_=>Q0c (Z8n h6) λ_ _=>Q0k _) (λ_=>U_0))
 have C: ∀(x:Q0b×Int),(U x.2∧(Q2s m.A2=true→Q2s x.1=true))→kept P m {B1:=m.B1,Mem:=m.Mem,A2:=x.1,A7:=m.A7,A6:=m.A6,C5:=m.C5,A1:=m.A1,A0:=m.A0,A3:=m.A3,A4:=m.A4}∧U x.2:=λx hx=>
   ⟨⟨⟨h1,h2,h3,h4,h5,h6⟩,Qk4 h2 h2 hx.2 id id id id,rfl,rfl,rfl,rfl⟩,hx.1⟩
 unfold Q20
 repeat'(first
   |exact⟨k,hc⟩
   |exact⟨k,U_0⟩
   |exact Q0c (Qx4 _ _) λx hx=>C x hx
   |exact Z83 (Qx4 _ _) λx hx=>C x hx
   |exact w_lv λx hx=>⟨k,by rw[hx];exact ti _⟩
   |exact w_lv λx hx=>⟨k,by rw[hx];exact di _⟩
   |exact w_lv λx hx=>⟨k,by rw[hx];exact ni _⟩
   |exact Q0c (bi _) λx hx=>⟨k,hx⟩
   |refine w_br (λ_=> ?_) (λ_=> ?_))
structure Q5s(c:Q02):Prop where
 x0:c.X.a0=0
 st:c.B4.a0≤31
 en:c.B4.a7≤31
 rt:c.B4.a6≤255
 ve:Int.tmod c.B4.a1 4=0
theorem Q5s.pc{c:Q02}(h:Q5s c)(p:Int):Q5s {X:=c.X,Pc:=p,B4:=c.B4}:=⟨h.x0,h.st,h.en,h.rt,h.ve⟩
theorem and31(a:Int):iand .u32 a 31≤31:=by
 have e:(BitVec.ofInt 32 a&&&BitVec.ofInt 32 31).toNat≤31:=by
   rw[BitVec.toNat_and]
   exact Nat.le_trans Nat.and_le_right (by decide)
 show IntKind.wrap .u32 ((BitVec.ofInt 32 a&&&BitVec.ofInt 32 31).toNat:Int)≤31
 rw[IntKind.wrap_u32];omega
theorem and255'(a:Int):iand .u32 a 255≤255:=by have:=and255 a;omega
theorem andn3(a:Int):Int.tmod (Qd8 .u32 a 3) 4=0:=by
 have e:(BitVec.ofInt 32 a&&&~~~BitVec.ofInt 32 3).toNat%4=0:=by
   rw[BitVec.toNat_and,show(~~~BitVec.ofInt 32 3).toNat=4294967292 by decide]
   have:=Nat.and_mod_two_pow (a:=(BitVec.ofInt 32 a).toNat) (b:=4294967292) (n:=2)
   simpa using this
 have l:=(BitVec.ofInt 32 a&&&~~~BitVec.ofInt 32 3).isLt
 show Int.tmod (IntKind.wrap .u32 ((BitVec.ofInt 32 a&&&~~~BitVec.ofInt 32 3).toNat:Int)) 4=0
 rw[IntKind.wrap_u32,Int.tmod_eq_emod_of_nonneg (by omega)]
 omega
theorem fin32{f:Int→Int}(h:(List.range 32).all (λn=>decide (f n≤31))=true){s:Int}(h0:0≤s)(h1:s≤31):f s≤31:=by
 have:=List.all_eq_true.1 h s.toNat (List.mem_range.2 (by omega))
 have e:((s.toNat:Nat):Int)=s:=by omega
 rw[e]at this
 exact of_decide_eq_true this
theorem Qhr{c:Q02}(h:Q2n c)(m:Q5s c)(k b:Int):Q5s (Q3w c k b):=
 ⟨m.x0,fin32 (f:=λs=>Qd8 .u32 (ior .u32 (Q7g (Q7g s 1 8) 2 16) 1) 2) (by kernel_rfl) h.a0.1 m.st,m.en,m.rt,m.ve⟩
theorem Z97{c:Q02}(h:Q2n c)(m:Q5s c):Q5s (Qba c):=
 ⟨m.x0,fin32 (f:=λs=>Q7g (Q7g s 8 1) 16 2) (by kernel_rfl) h.a0.1 m.st,m.en,m.rt,m.ve⟩
theorem Qo0{c:Q02}(m:Q5s c){r:Int}(hr:0≤r∧r<16)(v:Int):(Q7p c r v).w Q5s:=by
 unfold Q7p
 refine w_br (λhn=>w_cn (rc hr) ?_) (λ_=>m)
 have hn:r≠0:=by simpa using hn
 obtain⟨n,e⟩: ∃n:Nat,r.toNat=n+1:=⟨r.toNat-1,by omega⟩
 refine⟨?_,m.st,m.en,m.rt,m.ve⟩
 show(A16.of 0 (List.set (A16.l c.X) r.toNat v)).a0=0
 rw[e]
 exact m.x0
theorem write_may{c:Q02}(m:Q5s c)(k v:Int):(Q6u c k v).w Q5s:=by
 unfold Q6u
 refine w_br (λhk=>w_cn (by rw[eq_of_beq hk];decide) ?_) λ_=>w_br (λhk=>w_cn (by rw[eq_of_beq hk];decide) ?_) λ_=>w_br (λhk=>w_cn (by rw[eq_of_beq hk];decide) ?_) λ_=>w_br (λhk=>w_cn (by rw[eq_of_beq hk];decide) ?_) λ_=>w_br (λhk=>w_cn (by rw[eq_of_beq hk];decide) ?_) λ_=>w_br (λhk=>w_cn (by rw[eq_of_beq hk];decide) ?_) λ_=>w_br (λhk=>w_cn (by rw[eq_of_beq hk];decide) ?_) λ_=>w_br (λhk=>w_cn (by rw[eq_of_beq hk];decide) ?_) (λ_=>m)
 all_goals(have hk:=eq_of_beq hk;subst hk)
 · exact⟨m.x0,and31 _,m.en,m.rt,m.ve⟩
 · exact⟨m.x0,m.st,and31 _,m.rt,m.ve⟩
 · exact⟨m.x0,m.st,m.en,and255' _,m.ve⟩
 · exact⟨m.x0,m.st,m.en,m.rt,andn3 _⟩
 · exact⟨m.x0,m.st,m.en,m.rt,m.ve⟩
 · exact⟨m.x0,m.st,m.en,m.rt,m.ve⟩
 · exact⟨m.x0,m.st,m.en,m.rt,m.ve⟩
 · exact⟨m.x0,m.st,m.en,m.rt,m.ve⟩
section
variable {c:Q02} (h:Q2n c) (m:Q5s c) {i:Q0g} (hi:Qcg i)
include h m hi
theorem Z6y:(Q32 c i).w (λr=>Q5s r.1):=by
 unfold Q32
 refine w_cn (rc hi.a) (w_cn (rc hi.b) ?_)
 repeat'(first
   |refine w_br (λ_=> ?_) (λ_=> ?_)
   |exact Q0c (Qo0 m hi.a _) λx hx=>hx.pc _
   |exact w_lv λx _=>w_br (λ_=>m.pc _) (λ_=>m.pc _)
   |exact w_lv λx hx=>by rw[hx];exact Qhr h m _ _
   |exact w_lv λx hx=>by rw[hx];exact Z97 h m
   |exact w_cn (by have:=hi.csr (by simp_all);simp [Nat.blt];omega) (Q0c (Qo0 m hi.a _) λx hx=>hx.pc _)
   |exact Q0c (write_may m _ _) λx hx=>hx.pc _
   |refine w_cn (rc hi.c) ?_
   |exact Q0c (Qwp _ (h.r _) (Q0k _)) λy hy=>Q0c (Qo0 m hi.a _) λx hx=>hx.pc _
   |exact Q0c (Qwp _ (h.r _) (h.r _)) λy hy=>Q0c (Qo0 m hi.a _) λx hx=>hx.pc _
   |refine w_lf ?_)
 all_goals exact m.pc _
theorem load_may{P:Nat}{mem:List Int}(hm:Q0u P mem):(Q87 c mem i).w (λr=>Q5s r.1):=by
 have w:=Qyr i.Op
 unfold Q87
 refine w_cn (rc hi.b) (w_lv λx0 h0=> ?_)
 rw[←h0]at w
 refine Q0c (Qgy hm (Q0k _) w 2) λx1 h1=>w_br (λ_=>w_lv λy hy=>by rw[hy];exact Qhr h m _ _) (λ_=>w_lv λx3 h3=> ?_)
 rw[h0,←h3]at w
 exact Q0c (Qld h1.2 h1.1 w) λx4 h4=>w_br (λ_=>Q0c (Qol h4.1 8) λy hy=>Q0c (Qo0 m hi.a _) λx hx=>hx.pc _) (λ_=>Q0c (Qo0 m hi.a _) λx hx=>hx.pc _)
theorem store_may{P:Nat}{mem:List Int}(hm:Q0u P mem):(Q6m c mem i).w (λr=>Q5s r.1):=by
 have w:=Qyr i.Op
 unfold Q6m
 refine w_cn (rc hi.b) (w_lv λx0 h0=> ?_)
 rw[←h0]at w
 refine Q0c (Qgy hm (Q0k _) w 3) λx1 h1=>w_br (λ_=>w_lv λy hy=>by rw[hy];exact Qhr h m _ _) (λ_=>w_lv λx3 h3=>w_cn (rc hi.a) ?_)
 rw[h0,←h3]at w
 exact Q0c (Qrm h1.2 h1.1 w (h.r _)) λx hx=>m.pc _
end
theorem exec_may{c:Q02}(h:Q2n c)(m:Q5s c){P:Nat}{mem:List Int}(hm:Q0u P mem):(Q4m c mem).w (λr=>Q5s r.1):=by
 unfold Q4m
 refine Q0c (Qzy hm h) λx0 h0=>w_br (λ_=>w_lv λy hy=>by rw[hy];exact Qhr h m _ _) (λ_=>Q0c (Qtj _) λx2 h2=>w_br (λ_=>w_lv λy hy=>by rw[hy];exact Qhr h m _ _) (λhb=> ?_))
 have hi:=h2 (by simpa using hb)
 refine w_lv λx4 _=> ?_
 repeat'(first
   |refine w_br (λ_=> ?_) (λ_=> ?_)
   |exact Q0c (load_may h m hi h0.2) λx hx=>hx
   |exact Q0c (store_may h m hi h0.2) λx hx=>hx
   |exact Q0c (Z6y h m hi) λx hx=>hx
   |exact w_lv λy hy=>by rw[hy];exact Qhr h m _ _
   |refine w_lv λ_ _=> ?_)
theorem Z6a{c:Q02}(h:Q2n c){i:Q0g}(hi:Qcg i):(Q32 c i).w (λr=>0≤r.2.D7∧r.2.D7<16):=by
 have z:(0:Int)≤0∧(0:Int)<16:=⟨by decide,by decide⟩
 unfold Q32
 refine w_cn (rc hi.a) (w_cn (rc hi.b) ?_)
 repeat'(first
   |refine w_br (λ_=> ?_) (λ_=> ?_)
   |exact Q0c (Qlc h hi.a (Q0k _)) λx hx=>z
   |exact w_lv λx _=>w_br (λ_=>z) (λ_=>z)
   |exact w_lv λx hx=>z
   |exact w_cn (by have:=hi.csr (by simp_all);simp [Nat.blt];omega) (Q0c (Qlc h hi.a (h.a _)) λx hx=>z)
   |exact Q0c (Z80 h _ (h.r _)) λx hx=>z
   |refine w_cn (rc hi.c) ?_
   |exact Q0c (Qwp _ (h.r _) (Q0k _)) λy hy=>Q0c (Qlc h hi.a hy) λx hx=>z
   |exact Q0c (Qwp _ (h.r _) (h.r _)) λy hy=>Q0c (Qlc h hi.a hy) λx hx=>z
   |refine w_lf ?_)
 all_goals first|exact z|exact hi.a
theorem Z9{c:Q02}(h:Q2n c){P:Nat}{mem:List Int}(hm:Q0u P mem):(Q4m c mem).w (λr=>0≤r.2.2.D7∧r.2.2.D7<16):=by
 have z:(0:Int)≤0∧(0:Int)<16:=⟨by decide,by decide⟩
 unfold Q4m
 refine Q0c (Qzy hm h) λx0 h0=>w_br (λ_=>w_lv λy hy=>z) (λ_=>Q0c (Qtj _) λx2 h2=>w_br (λ_=>w_lv λy hy=>z) (λhb=> ?_))
 have hi:=h2 (by simpa using hb)
 refine w_lv λx4 _=> ?_
 repeat'(first
   |refine w_br (λ_=> ?_) (λ_=> ?_)
   |exact Q0c (Qsc h hi h0.2) λx hx=>z
   |exact Q0c (Qq9 h hi h0.2) λx hx=>z
   |exact Q0c (Z6a h hi) λx hx=>hx
   |exact w_lv λy hy=>z
   |refine w_lv λ_ _=> ?_)
theorem cnd2{a x:Bool}:(bif a then false else x)=true↔a=false∧x=true:=by cases a<;>simp
theorem Qhu(m:Q00):Q16 m=true↔Q0q m.Mem≠0∧Q5s m.B1∧m.A0≤1152921504606846976∧ ¬(m.A3=true∧m.A4=true)∧Q0v m=true:=by
  rw[may_eq]
  unfold mayC chain
  rw[cnd2,cnd2,cnd2,cnd2,cnd2,cnd2,cnd2]
  simp only[decide_eq_false_iff_not,Int.not_lt,beq_eq_false_iff_ne,bne_eq_false_iff_eq,gt_iff_lt]
  constructor
  · rintro⟨a1,a2,a3,a4,a5,a6,a7,a8⟩
    refine⟨a1,⟨a2,a3,a4,a5,a6⟩,a7,?_,?_⟩
    · rintro⟨w,h⟩;rw[w,h]at a8;cases a8
    · revert a8;cases m.A3
      · exact λh=>h
      · cases m.A4
        · exact λh=>h
        · intro h;cases h
  · rintro⟨a1,⟨a2,a3,a4,a5,a6⟩,a7,a8,a9⟩
    refine⟨a1,a2,a3,a4,a5,a6,a7,?_⟩
    rw[a9]
    cases hw:m.A3
    · rfl
    · cases hh:m.A4
      · rfl
      · exact absurd ⟨hw,hh⟩ a8
theorem Qrp{m:Q00}(h:Q25 m=true):Q16 m=true∧m.A4=false∧m.A0<1152921504606846976:=by
  simp only[Q25,Q2m,Tree.m,letv]at h
  cases h1:Q16 m
  · rw[h1]at h;cases h
  · cases h2:m.A4
    · rw[h1,h2]at h
      cases h3:Q2w m
      · rw[h3]at h
        have h:decide (m.A0<1152921504606846976)=true:=h
        exact⟨rfl,rfl,of_decide_eq_true h⟩
      · rw[h3]at h;cases h
    · rw[h1,h2]at h;cases h
theorem Qth{P:Nat}{m:Q00}(h:okS P m)(g:Q5s m.B1):(Q1w m).w (λr=>Q5s r.B1∧okS P r∧r.Mem=m.Mem∧r.A3=false∧r.A4=m.A4∧r.A0=m.A0∧r.A2=m.A2∧r.A7=m.A7∧r.A6=m.A6∧r.C5=m.C5∧r.A1=m.A1):=by
 obtain⟨h1,h2,h3,h4,h5,h6⟩:=h
 unfold Q1w
 refine w_br (λ_=>⟨g,⟨h1,h2,h3,h4,h5,h6⟩,rfl,rfl,rfl,rfl,rfl,rfl,rfl,rfl,rfl⟩) (λ_=>Q0c (Qnv (m:=⟨_,_,_,_,_,_,m.A1,_,_,_⟩) h6) λx0 _=>w_lp (inv:=λz=>0≤z∧z≤5) (μ:=Q9e m) ⟨by omega,by omega⟩ (Nat.lt_succ_self _) (λz hz=> ?_))
 obtain⟨z1,z2⟩:=hz
 refine w_br (λhb=>w_cn (decide_eq_true z1) (w_br (λ_=>w_lv λx1 hx=>⟨by rw[hx];exact Qhr h1 g _ _,⟨by rw[hx];exact Qin h1 _ U_0,h2,h3,h4,h5,h6⟩,rfl,rfl,rfl,rfl,rfl,rfl,rfl,rfl,rfl⟩) (λ_=>w_nx ?_))) (λ_=>⟨g,⟨h1,h2,h3,h4,h5,h6⟩,rfl,rfl,rfl,rfl,rfl,rfl,rfl,rfl,rfl⟩)
 have hb:=of_decide_eq_true hb
 show(0≤IntKind.i64.wrap (z+1)∧IntKind.i64.wrap (z+1)≤5)∧(5-IntKind.i64.wrap (z+1)).toNat<(5-z).toNat
 have ew:IntKind.i64.wrap (z+1)=z+1:=by rw[IntKind.wrap_i64];omega
 rw[ew];omega
structure Good(P:Nat)(m r:Q00):Prop where
 ok:okS P r
 cnt:0≤r.A0
 may:Q16 m=true→Q16 r=true
 or:r=m∨r.A0=m.A0+1
theorem Qvs(m:Q00){port:Int}(hp:(port==2)=false)(a b:Int):Q0t m port a=Q0t m port b:=by
 simp only[Q0t,Q20,Tree.m,hp,cond_false]
theorem Qxr{m:Q00}(h:Q21 m=false)(a b:Int):Q24 m a=Q24 m b:=by
 have hcl:Q01 m.Mem=m.Mem:=rfl
 have e:(⟨m.B1,m.Mem,m.A2,m.A7,m.A6,m.C5,m.A1,m.A0,m.A3,m.A4⟩:Q00)=m:=rfl
 simp only[Q21,Q1f,Tree.m,letv]at h
 simp only[Q24,Q1x,Tree.m,letv,hcl,e]
 cases hr:Q25 m
 · rfl
 · rw[hr]at h
   have h:(bif(Q4a (Q0h m).B1 (Q0h m).Mem).2.2.B2==1 then(Q4a (Q0h m).B1 (Q0h m).Mem).2.2.C8==2 else false)=false:=h
   cases hk:(Q4a (Q0h m).B1 (Q0h m).Mem).2.2.B2==1
   · rfl
   · rw[hk]at h
     have hp:((Q4a (Q0h m).B1 (Q0h m).Mem).2.2.C8==2)=false:=h
     rw[Qvs _ hp a b]
theorem step_w0{P:Nat}{m:Q00}(h:okS P m)(hc0:0≤m.A0){clock:Int}(hk:U clock):(Q1x m clock).w (λr=>r.2.length≤1∧Good P m r.1):=by
 have hcl:Q01 m.Mem=m.Mem:=rfl
 unfold Q1x
 refine w_an (Q7e h.mem) (w_lv λl hl=> ?_)
 rw[hcl]at hl;subst hl
 refine w_an (Tree.pp (Z5m (m:=⟨_,_,_,_,_,_,m.A1,_,_,_⟩) h.given)).1 (w_lv λx1 hx1=>w_br (λ_=>⟨Nat.zero_le _,h,hc0,λh=>h, .inl rfl⟩) (λhb=> ?_))
 have hr:Q25 m=true:=by rw[←show x1=Q25 m from hx1];simpa using hb
 obtain⟨hm,hh,hct⟩:=Qrp hr
 obtain⟨g1,g2,g3,g4,g5⟩:=(Qhu m).1 hm
 have hP:(P:Int)≠0:=by rw[←Q38 h.mem];exact g1
 have fin: ∀(n:Q00),okS P n→Q5s n.B1→Q0v n=true→n.A0=m.A0→ ¬(n.A3=true∧n.A4=true)→Good P m {B1:=n.B1,Mem:=n.Mem,A2:=n.A2,A7:=n.A7,A6:=n.A6,C5:=n.C5,A1:=n.A1,A0:=IntKind.wrap .u64 (n.A0+1),A3:=n.A3,A4:=n.A4}:=λn a b c d e=>by
   have ec:IntKind.wrap .u64 (n.A0+1)=m.A0+1:=by rw[d,IntKind.wrap_u64];omega
   refine⟨⟨a.cpu,a.mem,a.disk,a.nic,a.target,a.given⟩,?_,λ_=>(Qhu _).2 ⟨?_,b,?_,e,c⟩, .inr ec⟩
   · show 0≤IntKind.wrap .u64 (n.A0+1);omega
   · show Q0q n.Mem≠0;rw[Q38 a.mem];exact hP
   · show IntKind.wrap .u64 (n.A0+1)≤_;omega
 refine Q0c (Qth (m:=⟨_,_,m.A2,m.A7,m.A6,m.C5,m.A1,m.A0,m.A3,m.A4⟩) ⟨h.cpu,h.mem,h.disk,h.nic,h.target,h.given⟩ g2) λx2 hx2=> ?_
 obtain⟨b1,b2,b3,b4,b5,b6,b7,b8,b9,b10,b11⟩:=hx2
 have ex:=Tree.pp (execP_w b2.cpu b2.mem)
 have em:=Tree.pp (exec_may b2.cpu b1 b2.mem)
 have er:=Tree.pp (Z9 b2.cpu b2.mem)
 refine w_an ex.1 (w_lv λx3 h3=> ?_)
 obtain⟨e1,e2,e3⟩:Q2n x3.1∧Q0u P x3.2.1∧U x3.2.2.Value:=by rw[h3];exact ex.2
 have f1:Q5s x3.1:=by rw[h3];exact em.2
 have r1:0≤x3.2.2.D7∧x3.2.2.D7<16:=by rw[h3];exact er.2
 have ok3:okS P ⟨x3.1,x3.2.1,x2.A2,x2.A7,x2.A6,x2.C5,x2.A1,x2.A0,x2.A3,x2.A4⟩:=⟨e1,e2,b2.disk,b2.nic,b2.target,b2.given⟩
 have dev: ∀(w h:Bool),Q0v ⟨x3.1,x3.2.1,x2.A2,x2.A7,x2.A6,x2.C5,x2.A1,x2.A0,w,h⟩=true:=λw hh=>by
   have id: ∀{p:Prop},p→p:=λh=>h
   refine Qk4 (m:=m) (P:=P) h.mem e2 ?_ ?_ ?_ ?_ ?_ g5
   · show _→Q2s x2.A2=true;rw[b7];exact id
   · show _→Q4w x2.A7=true;rw[b8];exact id
   · show _→Q18 x2.A6 P=true;rw[b9];exact id
   · show _→Q5x x2.C5 P=true;rw[b10];exact id
   · show _→Q2z x2.A1 P=true;rw[b11];exact id
 have hw:x2.A3=false:=b4
 have hh2:x2.A4=false:=b5.trans hh
 have hct2:x2.A0=m.A0:=b6
 refine w_br (λ_=> ?_) λ_=>w_br (λ_=> ?_) λ_=>w_br (λ_=> ?_) λ_=>w_br (λ_=> ?_) λ_=> ?_
 · refine Q0c (Z99 ok3 _ hk) λx4 h4=> ?_
   obtain⟨k,u⟩:=h4
   have kc:x4.1.B1=x3.1:=k.cpu
   have kt:x4.1.A0=m.A0:=k.cnt.trans hct2
   have kw: ¬(x4.1.A3=true∧x4.1.A4=true):=λe=>by have:x4.1.A3=x2.A3:=k.wait;rw[this,hw]at e;cases e.1
   have km:Q5s x4.1.B1:=by rw[kc];exact f1
   refine w_br (λhn=>w_cn (rc r1) ⟨Nat.zero_le _,?_⟩) (λ_=>⟨Nat.zero_le _,fin x4.1 k.ok km (k.dev (dev _ _)) kt kw⟩)
   have hn:x3.2.2.D7≠0:=by simpa using hn
   obtain⟨q,e⟩: ∃q:Nat,x3.2.2.D7.toNat=q+1:=⟨x3.2.2.D7.toNat-1,by omega⟩
   refine fin ⟨⟨A16.of 0 (List.set (A16.l x4.1.B1.X) x3.2.2.D7.toNat x4.2),x4.1.B1.Pc,x4.1.B1.B4⟩,x4.1.Mem,x4.1.A2,x4.1.A7,x4.1.A6,x4.1.C5,x4.1.A1,x4.1.A0,x4.1.A3,x4.1.A4⟩ ⟨⟨Z51 k.ok.cpu.x u _,k.ok.cpu.pc,k.ok.cpu.csr⟩,k.ok.mem,k.ok.disk,k.ok.nic,k.ok.target,k.ok.given⟩ ⟨?_,km.st,km.en,km.rt,km.ve⟩ (k.dev (dev _ _)) kt kw
   show(A16.of 0 (List.set (A16.l x4.1.B1.X) x3.2.2.D7.toNat x4.2)).a0=0
   rw[e]
   exact km.x0
 · refine Q0c (Z6o ok3 _ e3 _) λx5 h5=> ?_
   obtain⟨k,u⟩:=h5
   have kc:x5.1.B1=x3.1:=k.cpu
   exact⟨u,fin x5.1 k.ok (by rw[kc];exact f1) (k.dev (dev _ _)) (k.cnt.trans hct2) (λe=>by have:x5.1.A3=x2.A3:=k.wait;rw[this,hw]at e;cases e.1)⟩
 · exact⟨Nat.zero_le _,fin ⟨x3.1,x3.2.1,x2.A2,x2.A7,x2.A6,x2.C5,x2.A1,x2.A0,true,x2.A4⟩ ⟨e1,e2,b2.disk,b2.nic,b2.target,b2.given⟩ f1 (dev _ _) hct2 (λe=>by have e2:x2.A4=true:=e.2;rw[hh2]at e2;cases e2)⟩
 · exact⟨Nat.zero_le _,fin ⟨x3.1,x3.2.1,x2.A2,x2.A7,x2.A6,x2.C5,x2.A1,x2.A0,x2.A3,true⟩ ⟨e1,e2,b2.disk,b2.nic,b2.target,b2.given⟩ f1 (dev _ _) hct2 (λe=>by have e2:x2.A3=true:=e.1;rw[hw]at e2;cases e2)⟩
 · exact⟨Nat.zero_le _,fin ⟨x3.1,x3.2.1,x2.A2,x2.A7,x2.A6,x2.C5,x2.A1,x2.A0,x2.A3,x2.A4⟩ ok3 f1 (dev _ _) hct2 (λe=>by have e2:x2.A3=true:=e.1;rw[hw]at e2;cases e2)⟩
theorem Z7y{P:Nat}{m:Q00}(h:okM P m){e:Q0p}(he:U e.N):(Q2o m e).w (λr=>(Q16 m=true→Q16 r.1=true)∧r.1.A0=m.A0∧U r.1.A1.C0):=by
 obtain⟨h1,h2,h3,h4,h5,h7⟩:=h
 have hcl:Q01 m.Mem=m.Mem:=rfl
 have pg: ∀{m':List Int},Q0u P m'→Q0q m'=Q0q m.Mem:=λh=>by rw[Q38 h,Q38 h2]
 have keep:(Q16 m=true→Q16 m=true)∧m.A0=m.A0∧U m.A1.C0:=⟨λh=>h,rfl,h5.2⟩
 unfold Q2o
 refine w_an (Q7e h2) (w_lv λl hl=> ?_)
 rw[hcl]at hl;subst hl
 refine Q0c (Z7d (m:=⟨_,_,_,_,_,_,m.A1,_,_,_⟩) h5.2) λx1 _=>w_br (λ_=>keep) λ_=>w_br (λ_=>keep) λ_=> ?_
 refine w_br (λ_=>w_br (λ_=>w_br (λ_=>w_lv λx hx=> ?_) (λ_=>keep)) (λ_=>keep)) λ_=>w_br (λ_=>w_br (λ_=>w_br (λ_=>Q0c (ctype_w _ _) λx hx=> ?_) (λ_=>keep)) (λ_=>keep)) λ_=>w_br (λhk=>Q0c (Zbb h2 h3 e) λx hx=> ?_) λ_=>w_br (λhk=>w_br (λ_=>Q0c (receive_w h2 h4 _) λx hx=> ?_) (λ_=>keep)) λ_=>w_br (λ_=>w_br (λ_=> ?_) (λ_=>keep)) (λ_=>keep)
 · exact⟨Qn4 rfl rfl rfl rfl rfl (λh=>h) (λh=>by rw[hx];exact fire_may _ h) (λ_ h=>h) (λ_ h=>h) rfl,rfl,h5.2⟩
 · exact⟨Qn4 rfl rfl rfl rfl rfl hx (λh=>h) (λ_ h=>h) (λ_ h=>h) rfl,rfl,h5.2⟩
 · obtain⟨a1,a2,a3,a4,a5⟩:=hx
   exact⟨Qn4 (pg a2) rfl rfl rfl rfl (λh=>h) (λh=>h) a5 (λ_ h=>h) rfl,rfl,h5.2⟩
 · obtain⟨a1,a2,a3,a4,a5⟩:=hx
   exact⟨Qn4 (pg a2) rfl rfl rfl rfl (λh=>h) (λh=>h) (λ_ h=>h) a5 rfl,rfl,h5.2⟩
 · exact⟨Qn4 rfl rfl rfl rfl rfl (λh=>h) (λh=>h) (λ_ h=>h) (λ_ h=>h) rfl,rfl,h5.2⟩
structure okW(m:Q00):Prop where
 cpu:Q2n m.B1
 u: ∀w∈m.Mem,U w
 len:m.Mem.length≤1024
 disk:Q7h m.A6
 nic:Qfd m.C5
 bal:okB m.A1
 cnt:0≤m.A0
theorem Qoz{a:Int}(h:U a):(BitVec.ofInt 32 a).toNat=a.toNat:=by
 obtain⟨h1,h2⟩:=h
 rw[BitVec.toNat_ofInt];omega
theorem Z4x{a b:Int}(ha:U a)(hb:U b):iand .u32 a b=((a.toNat&&&b.toNat:Nat):Int):=by
 have l:=(BitVec.ofInt 32 a&&&BitVec.ofInt 32 b).isLt
 have e:(BitVec.ofInt 32 a&&&BitVec.ofInt 32 b).toNat=a.toNat&&&b.toNat:=by rw[BitVec.toNat_and,Qoz ha,Qoz hb]
 show IntKind.wrap .u32 ((BitVec.ofInt 32 a&&&BitVec.ofInt 32 b).toNat:Int)=_
 rw[IntKind.wrap_u32,←e];omega
theorem or_nat{a b:Int}(ha:U a)(hb:U b):ior .u32 a b=((a.toNat|||b.toNat:Nat):Int):=by
 have l:=(BitVec.ofInt 32 a|||BitVec.ofInt 32 b).isLt
 have e:(BitVec.ofInt 32 a|||BitVec.ofInt 32 b).toNat=a.toNat|||b.toNat:=by rw[BitVec.toNat_or,Qoz ha,Qoz hb]
 show IntKind.wrap .u32 ((BitVec.ofInt 32 a|||BitVec.ofInt 32 b).toNat:Int)=_
 rw[IntKind.wrap_u32,←e];omega
theorem Qz3{a:Int}(ha:U a)(k:Nat)(hk:k≤32){q:Int}(hq:q=((2^k-1:Nat):Int)):iand .u32 a q=a%2^k:=by
 have hp:2^k≤2^32:=Nat.pow_le_pow_right (by decide) hk
 have h1:(2:Nat)^32=4294967296:=by decide
 have hpos:=Nat.two_pow_pos k
 subst hq
 rw[Z4x ha ⟨by omega,by omega⟩,Int.toNat_natCast,Nat.and_two_pow_sub_one_eq_mod]
 have:=ha.1
 rw[Int.natCast_emod,Int.toNat_of_nonneg this]
 simp
theorem m15{a:Int}(ha:U a):iand .u32 a 15=a%16:=Qz3 ha 4 (by decide) rfl
theorem m255{a:Int}(ha:U a):iand .u32 a 255=a%256:=Qz3 ha 8 (by decide) rfl
theorem m65535{a:Int}(ha:U a):iand .u32 a 65535=a%65536:=Qz3 ha 16 (by decide) rfl
theorem Qm8(p:Int→Bool)(N:Nat)(h:(List.range N).all (λn=>p n)=true){s:Int}(h0:0≤s)(h1:s<N):p s=true:=by
 have:=List.all_eq_true.1 h s.toNat (List.mem_range.2 (by omega))
 rwa [Int.toNat_of_nonneg h0]at this
theorem w64{x:Int}(h0: -9223372036854775808≤x)(h1:x<9223372036854775808):IntKind.wrap .i64 x=x:=by rw[IntKind.wrap_i64];omega
theorem shr0(a:Int):ishr .u32 a 0=a:=by have:=Ql5 (a:=a) 0 (by decide);simpa using this
theorem fld(w:Int):Q2v w 24 8=iand .u32 (ishr .u32 w 24) 255∧Q2v w 20 4=iand .u32 (ishr .u32 w 20) 15∧Q2v w 16 4=iand .u32 (ishr .u32 w 16) 15∧Q2v w 0 16=iand .u32 (ishr .u32 w 0) 65535∧Q2v w 8 8=iand .u32 (ishr .u32 w 8) 255:=
 ⟨by kernel_rfl,by kernel_rfl,by kernel_rfl,by kernel_rfl,by kernel_rfl⟩
def useOf(f:Int):Q7i×Bool:=
 bif f==1 then(⟨false,false,false,0,0⟩,true) else bif f==2 then(⟨true,true,true,0,0⟩,true) else bif f==3 then(⟨true,true,false,-32768,32767⟩,true)
 else bif f==4 then(⟨true,true,false,0,65535⟩,true) else bif f==5 then(⟨true,true,false,0,31⟩,true) else bif f==6 then(⟨true,false,false,0,65535⟩,true)
 else bif f==7 then(⟨true,false,false,-32768,32767⟩,true) else bif f==8 then(⟨true,false,false,0,7⟩,true) else bif f==9 then(⟨true,false,false,0,11⟩,true) else(⟨false,false,false,0,0⟩,false)
def sameU(x y:Q7i×Bool):Bool:=x.1.a==y.1.a&&x.1.b==y.1.b&&x.1.c==y.1.c&&x.1.low==y.1.low&&x.1.D1==y.1.D1&&x.2==y.2
theorem sameU_eq{x y:Q7i×Bool}(h:sameU x y=true):x=y:=by
 obtain⟨⟨a,b,c,d,e⟩,f⟩:=x
 obtain⟨⟨a',b',c',d',e'⟩,f'⟩:=y
 simp only[sameU,Bool.and_eq_true,beq_iff_eq]at h
 obtain⟨⟨⟨⟨⟨rfl,rfl⟩,rfl⟩,rfl⟩,rfl⟩,rfl⟩:=h
 rfl
theorem use_eq{op:Int}(h0:0≤op)(h1:op<256):Quq op=useOf (Q23 op):=by
 exact sameU_eq (Qm8 (λop=>sameU (Quq op) (useOf (Q23 op))) 256 (by kernel_rfl) h0 h1)
theorem form_le{op:Int}(h0:0≤op)(h1:op<256):Q23 op=0∨Q23 op=1∨Q23 op=2∨Q23 op=3∨Q23 op=4∨Q23 op=5∨Q23 op=6∨Q23 op=7∨Q23 op=8∨Q23 op=9:=by
 have:=of_decide_eq_true (Qm8 (λop=>decide (0≤Q23 op∧Q23 op≤9)) 256 (by kernel_rfl) h0 h1)
 omega
theorem priv_eq{op:Int}(h0:0≤op)(h1:op<256):Q79 op=Q3n op:=by
 exact eq_of_beq (Qm8 (λop=>Q79 op==Q3n op) 256 (by kernel_rfl) h0 h1)
theorem cond_iff{a x y:Bool}:(cond a x y=true)↔((a=true∧x=true)∨(a=false∧y=true)):=by cases a<;>simp
theorem Qzt{i:Q0g}(h0:0≤i.Op)(h1:i.Op<256)(hi:IntKind.wrap .i64 i.Imm=i.Imm):Qbz i=Q5v i:=by
 rw[Bool.eq_iff_iff]
 simp only[Qbz,Qeo,Tree.m,letv,Q5v,Qc,use_eq h0 h1,hi]
 rcases form_le h0 h1 with h|h|h|h|h|h|h|h|h|h<;>rw[h]<;>
 simp [useOf,Q7x,Qbj,Q6k,Q9z,Qh,Qhn,Tree.m,letv,cond_iff]<;>omega
theorem sx16{x:Int}(h0:0≤x)(h1:x<65536):IntKind.wrap .i32 (Q28 x 16)=IntKind.wrap .i32 (IntKind.wrap .i16 x):=by
 have e:Q28 x 16=IntKind.wrap .u32 (ishr .i32 (IntKind.wrap .i32 (ishl .u32 x 16)) 16):=by kernel_rfl
 have e2: ∀y,ishr .i32 y 16=y/65536:=λy=>by
   show Int.fdiv y 65536=_
   rw[Int.fdiv_eq_ediv_of_nonneg _ (by decide)]
 have e3:ishl .u32 x 16=IntKind.wrap .u32 (x*65536):=rfl
 have e4:IntKind.wrap .i16 x=(x+32768)%65536-32768:=by
   simp [IntKind.wrap,IntKind.bits,IntKind.signed]
   split<;>omega
 rw[e,e2,e3,e4]
 simp only[IntKind.wrap_i32,IntKind.wrap_u32]
 omega
theorem sx8{x:Int}(h0:0≤x)(h1:x<256):Q28 x 8=Q3p x 8:=by
 exact eq_of_beq (Qm8 (λx=>Q28 x 8==Q3p x 8) 256 (by kernel_rfl) h0 h1)
theorem decode_eq{w:Int}(hw:U w):Qdv w=Q1r w:=by
 obtain⟨f1,f2,f3,f4,_⟩:=fld w
 obtain⟨w0,w1⟩:=hw
 have s24:ishr .u32 w 24=w/16777216:=by have:=Ql5 (a:=w) 24 (by decide);simpa using this
 have s20:U (ishr .u32 w 20):=Qph ⟨w0,w1⟩ _
 have s16:U (ishr .u32 w 16):=Qph ⟨w0,w1⟩ _
 rw[m255 (Qph ⟨w0,w1⟩ _),s24]at f1
 rw[m15 s20]at f2
 rw[m15 s16]at f3
 rw[shr0]at f4
 have g1:w/16777216%256=w/16777216:=by omega
 rw[g1]at f1
 have o0:0≤w/16777216:=by omega
 have o1:w/16777216<256:=by omega
 have eo:IntKind.wrap .i64 (w/16777216)=w/16777216:=w64 (by omega) (by omega)
 have i32: ∀x,IntKind.wrap .i64 (IntKind.wrap .i32 x)=IntKind.wrap .i32 x:=λx=>by rw[IntKind.wrap_i64,IntKind.wrap_i32];omega
 have l0:=m65535 ⟨w0,w1⟩
 have lx:=sx16 (x:=iand .u32 w 65535) (by omega) (by omega)
 simp only[Qdv,Q4k,Q1r,Q6p,Tree.m,letv,f1,f2,f3,f4,s24,eo,use_eq o0 o1,m15 s20,m15 s16,lx]
 generalize w/16777216=op at*
 generalize IntKind.wrap .i64 (ishr .u32 w 20%16)=a
 generalize IntKind.wrap .i64 (ishr .u32 w 16%16)=b
 generalize iand .u32 w 65535=l
 rw[Qzt (i:=⟨op,a,b,IntKind.wrap .i64 l,0⟩) o0 o1 rfl,Qzt (i:=⟨op,a,b,0,IntKind.wrap .i32 (IntKind.wrap .i16 l)⟩) o0 o1 (i32 _),Qzt (i:=⟨op,a,b,0,IntKind.wrap .i32 l⟩) o0 o1 (i32 _)]
 rcases form_le o0 o1 with h|h|h|h|h|h|h|h|h|h<;>rw[h]<;>rfl
theorem put_nat(x v:BitVec 32)(s:Nat)(hs:s≤24):((x&&&~~~(255#32<<<s))|||((v&&&255#32)<<<s)).toNat=2^(s+8)*(x.toNat/2^(s+8))+(2^s*(v.toNat%256)+x.toNat%2^s):=by
  have hx:=x.isLt
  have h1:x.toNat%2^s<2^s:=Nat.mod_lt _ (Nat.two_pow_pos s)
  have h2:2^s*(v.toNat%256)+x.toNat%2^s<2^(s+8):=by
    have:v.toNat%256<256:=Nat.mod_lt _ (by decide)
    have h3:2^s*(v.toNat%256)≤2^s*255:=Nat.mul_le_mul_left _ (by omega)
    have:2^(s+8)=2^s*256:=by rw[Nat.pow_add]
    omega
  rw[Nat.two_pow_add_eq_or_of_lt h2,Nat.two_pow_add_eq_or_of_lt h1]
  apply Nat.eq_of_testBit_eq
  intro i
  rw[BitVec.testBit_toNat]
  simp only[BitVec.getLsbD_or,BitVec.getLsbD_and,BitVec.getLsbD_not,BitVec.getLsbD_shiftLeft,Nat.testBit_or,Nat.testBit_two_pow_mul,Nat.testBit_mod_two_pow,Nat.testBit_div_two_pow,BitVec.getLsbD_ofNat]
  have e255: ∀j,Nat.testBit 255 j=decide (j<8):=λj=>by
    rw[show 255=2^8-1 from rfl,Nat.testBit_two_pow_sub_one]
  have e256: ∀n j,Nat.testBit (n%256) j=(decide (j<8)&&Nat.testBit n j):=λn j=>by
    rw[show 256=2^8 from rfl,Nat.testBit_mod_two_pow]
  rw[e255,e256]
  by_cases hi:i<32
  · by_cases a1:i<s
    · have a2: ¬(s≤i):=by omega
      have a3: ¬(s+8≤i):=by omega
      simp [hi,a1,a2,a3,BitVec.getLsbD]
    · by_cases a4:s+8≤i
      · have a2: ¬(i-s<8):=by omega
        have a5:i-(s+8)+(s+8)=i:=by omega
        have a6:s≤i:=by omega
        simp [hi,a1,a2,a4,a5,a6,BitVec.getLsbD]
      · have a2:(i-s<8):=by omega
        have a6:s≤i:=by omega
        have a7:i-s<32:=by omega
        simp [hi,a1,a2,a4,a6,a7,BitVec.getLsbD]
  · have a0:x.toNat.testBit i=false:=Nat.testBit_lt_two_pow (Nat.lt_of_lt_of_le hx (Nat.pow_le_pow_right (by decide) (by omega)))
    have a1: ¬(i<s):=by omega
    have a2: ¬(i-s<8):=by omega
    have a4:s+8≤i:=by omega
    have a5:i-(s+8)+(s+8)=i:=by omega
    simp [hi,a0,a1,a2,a4,a5]
theorem Qxf(b:BitVec 32):BitVec.ofInt 32 (IntKind.wrap .u32 (b.toNat:Int))=b:=by
 have:=b.isLt
 rw[IntKind.wrap_u32]
 apply BitVec.eq_of_toNat_eq
 rw[BitVec.toNat_ofInt];omega
theorem Zaf(x:Int):BitVec.ofInt 32 (IntKind.wrap .u32 x)=BitVec.ofInt 32 x:=by
 apply BitVec.eq_of_toNat_eq
 rw[BitVec.toNat_ofInt,BitVec.toNat_ofInt,IntKind.wrap_u32]
 have:((2^32:Nat):Int)=4294967296:=by decide
 rw[this,Int.emod_emod_of_dvd _ (Int.dvd_refl _)]
theorem Z1s{x:Int}(hx:U x)(s:Nat)(hs:s≤32):BitVec.ofInt 32 (ishl .u32 x s)=BitVec.ofInt 32 x<<<s:=by
 obtain⟨n,rfl⟩: ∃n:Nat,x=n:=⟨x.toNat,by have:=hx.1;omega⟩
 have e:min (Int.toNat (s:Int)) IntKind.u32.bits=s:=by show min (Int.toNat (s:Int)) 32=s;omega
 unfold ishl
 rw[e,Zaf]
 have e2:((n:Int)*2^s)=((n*2^s:Nat):Int):=by simp
 have:=hx.2
 rw[e2,BitVec.ofInt_natCast,BitVec.ofInt_natCast]
 apply BitVec.eq_of_toNat_eq
 rw[BitVec.toNat_shiftLeft,BitVec.toNat_ofNat,BitVec.toNat_ofNat,Nat.shiftLeft_eq,Nat.mod_mul_mod]
def putW(W v:Int)(s:Nat):Int:=ior .u32 (Qd8 .u32 W (ishl .u32 255 s)) (ishl .u32 (iand .u32 v 255) s)
theorem put_num{W v:Int}(hW:U W)(hv:U v)(s:Nat)(hs:s≤24):putW W v s=2^(s+8)*(W/2^(s+8))+(2^s*(v%256)+W%2^s):=by
 have e:=put_nat (BitVec.ofInt 32 W) (BitVec.ofInt 32 v) s hs
 have l:=((BitVec.ofInt 32 W&&&~~~(255#32<<<s))|||((BitVec.ofInt 32 v&&&255#32)<<<s)).isLt
 have h1:BitVec.ofInt 32 (Qd8 .u32 W (ishl .u32 255 s))=BitVec.ofInt 32 W&&&~~~(255#32<<<s):=by
   show BitVec.ofInt 32 (IntKind.wrap .u32 (BitVec.ofInt 32 W&&&~~~BitVec.ofInt 32 (ishl .u32 255 s)).toNat)=_
   rw[Qxf,Z1s ⟨by decide,by decide⟩ s (by omega)]
   rfl
 have h2:BitVec.ofInt 32 (ishl .u32 (iand .u32 v 255) s)=(BitVec.ofInt 32 v&&&255#32)<<<s:=by
   rw[Z1s (Z5q _ _) s (by omega)]
   congr 1
   show BitVec.ofInt 32 (IntKind.wrap .u32 (BitVec.ofInt 32 v&&&BitVec.ofInt 32 255).toNat)=_
   rw[Qxf];rfl
 show IntKind.wrap .u32 ((BitVec.ofInt 32 (Qd8 .u32 W (ishl .u32 255 s))|||BitVec.ofInt 32 (ishl .u32 (iand .u32 v 255) s)).toNat:Int)=_
 rw[h1,h2]
 have lw:IntKind.wrap .u32 ((((BitVec.ofInt 32 W&&&~~~(255#32<<<s))|||((BitVec.ofInt 32 v&&&255#32)<<<s)).toNat:Nat):Int)=(((BitVec.ofInt 32 W&&&~~~(255#32<<<s))|||((BitVec.ofInt 32 v&&&255#32)<<<s)).toNat:Nat):=by rw[IntKind.wrap_u32];omega
 rw[lw,e,Qoz hW,Qoz hv]
 obtain⟨n,rfl⟩: ∃n:Nat,W=n:=⟨W.toNat,by have:=hW.1;omega⟩
 obtain⟨k,rfl⟩: ∃n:Nat,v=n:=⟨v.toNat,by have:=hv.1;omega⟩
 simp
def dig(w:Int)(k:Nat):Int:=if k=0 then w%256 else if k=1 then w/256%256 else if k=2 then w/65536%256 else w/16777216%256
def byt(m:List Int)(a:Nat):Int:=dig (m.getD (a/4) 0) (a%4)
theorem dig_lt(w:Int)(k:Nat):0≤dig w k∧dig w k<256:=by
 unfold dig
 split
 · omega
 · split
   · omega
   · split<;>omega
theorem dig_ext{w v:Int}(hw:U w)(hv:U v)(h: ∀k,k<4→dig w k=dig v k):w=v:=by
 have h0:=h 0 (by omega)
 have h1:=h 1 (by omega)
 have h2:=h 2 (by omega)
 have h3:=h 3 (by omega)
 simp [dig]at h0 h1 h2 h3
 obtain⟨a,b⟩:=hw
 obtain⟨c,d⟩:=hv
 omega
theorem Z5{m n:List Int}(hl:m.length=n.length)(hm: ∀w∈m,U w)(hn: ∀w∈n,U w)(h: ∀a,byt m a=byt n a):m=n:=by
 refine List.ext_getElem hl λi h1 h2=> ?_
 have e1:m[i]=m.getD i 0:=by simp [List.getD,h1]
 have e2:n[i]=n.getD i 0:=by simp [List.getD,h2]
 rw[e1,e2]
 refine dig_ext (Qgq hm i) (Qgq hn i) λk hk=> ?_
 have:=h (4*i+k)
 simp only[byt]at this
 rwa [show(4*i+k)/4=i by omega,show(4*i+k)%4=k by omega]at this
theorem Qmh{l:List Int}{i:Nat}(h:i<l.length)(v:Int):(l.set i v).getD i 0=v:=by
 simp [List.getD,h]
theorem Z5p{m:List Int}{i:Nat}(hi:i<m.length)(v:Int)(a:Nat):byt (m.set i v) a=if a/4=i then dig v (a%4) else byt m a:=by
 unfold byt
 split
 · rename_i h;rw[h,Qmh hi]
 · rename_i h;rw[getDset _ _ _ _ (λe=>h e.symm)]
theorem put_dig{W v:Int}(hW:U W)(hv:U v){j:Nat}(hj:j<4){k:Nat}(hk:k<4):dig (putW W v (8*j)) k=if k=j then v%256 else dig W k:=by
 have h:=put_num hW hv (8*j) (by omega)
 rw[h]
 obtain⟨w0,w1⟩:=hW
 have h0:0≤v%256:=by omega
 have h1:v%256<256:=by omega
 generalize v%256=b at*
 clear h
 have hj:j=0∨j=1∨j=2∨j=3:=by omega
 have hk:k=0∨k=1∨k=2∨k=3:=by omega
 rcases hj with rfl|rfl|rfl|rfl<;>rcases hk with rfl|rfl|rfl|rfl<;>simp [dig]<;>omega
theorem puts_eq{m:List Int}{a v:Int}(ha:U a):Q97 m a 1 v=m.set (a/4).toNat (putW (m.getD (a/4).toNat 0) v (8*(a%4).toNat)):=by
 obtain⟨a0,a1⟩:=ha
 have e1:IntKind.wrap .u32 (Int.tdiv a 4)=a/4:=by rw[IntKind.wrap_u32,Int.tdiv_eq_ediv_of_nonneg a0];omega
 have e2:IntKind.wrap .u32 (8*Int.tmod a 4)=((8*(a%4).toNat:Nat):Int):=by rw[IntKind.wrap_u32,Int.tmod_eq_emod_of_nonneg a0];omega
 have e3:((1:Int)==4)=false:=rfl
 simp only[Q97,Qdu,Tree.m,e1,e2,e3,cond_false]
 rfl
theorem puts_byte{P:Nat}{m:List Int}(h:Q0u P m){a v:Int}(ha:U a)(hl:a<128*P)(hv:U v):Q0u P (Q97 m a 1 v)∧ ∀b:Nat,byt (Q97 m a 1 v) b=if(b:Int)=a then v%256 else byt m b:=by
 have hlen:=h.len
 have a0:=ha.1
 rw[puts_eq ha]
 have hi:(a/4).toNat<m.length:=by omega
 refine⟨⟨by rw[List.length_set];exact hlen,h.p1,h.p2,Qvh h.u (U_or _ _) _⟩,λb=> ?_⟩
 rw[Z5p hi]
 by_cases hb:b/4=(a/4).toNat
 · rw[if_pos hb,put_dig (Qgq h.u _) hv (by omega) (by omega)]
   by_cases hc:b%4=(a%4).toNat
   · rw[if_pos hc,if_pos (by omega)]
   · rw[if_neg hc,if_neg (by omega),byt,hb]
 · rw[if_neg hb,if_neg (by omega)]
theorem fill_b{P:Nat}{m:List Int}(h:Q0u P m){frame:Int}(f0:0≤frame)(f1:frame<P)(s:List UInt8):(Q9f m frame s).w (λr=>Q0u P r∧ ∀b:Nat,byt r b=if frame*128≤b∧(b:Int)<frame*128+min s.length 128 then((s.getD (b-frame*128).toNat 0).toNat:Int) else byt m b):=by
 unfold Q9f
 have h3:=h.p2
 refine w_lp (inv:=λz=>0≤z.1∧z.1≤min s.length 128∧Q0u P z.2∧ ∀b:Nat,byt z.2 b=if frame*128≤b∧(b:Int)<frame*128+z.1 then((s.getD (b-frame*128).toNat 0).toNat:Int) else byt m b) (μ:=Qdx m frame s) ⟨show(0:Int)≤0 by decide,by show(0:Int)≤_;omega,h,λb=>by rw[if_neg];show¬(_∧_<_+(0:Int));omega⟩ (Nat.lt_succ_self _) (λv0 hv0=> ?_)
 obtain⟨i,mm⟩:=v0
 obtain⟨i0,i1,hm,hy⟩:=hv0
 have i0:0≤i:=i0
 have i1:i≤min s.length 128:=i1
 have hm:Q0u P mm:=hm
 have fin: ∀r:List Int,r=mm→i=min s.length 128→Q0u P r∧ ∀b:Nat,byt r b=if frame*128≤b∧(b:Int)<frame*128+min s.length 128 then((s.getD (b-frame*128).toNat 0).toNat:Int) else byt m b:=λr hr hi=>by
   subst hr;refine⟨hm,λb=> ?_⟩
   rw[hy b];simp only[hi]
 refine w_br (λh1=>w_br (λh2=>w_cn ?_ ?_) (λh2=>fin mm rfl ?_)) (λh1=>fin mm rfl ?_)
 · have:=of_decide_eq_true h1
   simp [Nat.blt];omega
 · have h1:i<s.length:=of_decide_eq_true h1
   have h2:i<128:=of_decide_eq_true h2
   have e:IntKind.wrap IntKind.u32 (IntKind.wrap IntKind.i64 (IntKind.wrap IntKind.i64 (frame*128)+i))=frame*128+i:=by
     rw[IntKind.wrap_u32,IntKind.wrap_i64,IntKind.wrap_i64];omega
   show(Tree.an (Qfu mm (IntKind.wrap IntKind.u32 (IntKind.wrap IntKind.i64 (IntKind.wrap IntKind.i64 (frame*128)+i))) 1 _) (Tree.lv _ _)).w _
   rw[e]
   have hu:U (frame*128+i):=⟨by omega,by omega⟩
   have hvU: ∀n:Nat,U (IntKind.wrap .u32 (n:Int)):=λn=>Q0k _
   obtain⟨g1,_⟩:=Tree.pp (put_w hm (size:=1) (addr:=frame*128+i) hu (by rw[hm.len];omega) (hvU (UInt8.toNat (s.getD i.toNat 0))))
   obtain⟨g2,g3⟩:=puts_byte hm hu (by omega) (hvU (UInt8.toNat (s.getD i.toNat 0)))
   refine w_an g1 (w_lv λx0 hx0=> ?_)
   rw[hx0]
   have ew:IntKind.i64.wrap (i+1)=i+1:=by rw[IntKind.wrap_i64];omega
   refine w_nx ?_
   show(0≤IntKind.i64.wrap (i+1)∧IntKind.i64.wrap (i+1)≤min s.length 128∧Q0u P _∧ ∀b:Nat,byt _ b=if frame*128≤b∧(b:Int)<frame*128+IntKind.i64.wrap (i+1) then _ else _)∧(128-IntKind.i64.wrap (i+1)).toNat<(128-i).toNat
   rw[ew]
   refine⟨⟨by omega,by omega,g2,λb=> ?_⟩,by omega⟩
   rw[show Q97 mm (frame*128+i) 1 _=_ from rfl,g3 b]
   by_cases hb:(b:Int)=frame*128+i
   · rw[if_pos hb,if_pos (by omega),IntKind.wrap_u32]
     have:=(s.getD i.toNat 0).toNat_lt
     rw[show(b-frame*128).toNat=i.toNat by omega];omega
   · rw[if_neg hb,hy b]
     show(if frame*128≤(b:Int)∧(b:Int)<frame*128+i then _ else _)=_
     by_cases hc:frame*128≤(b:Int)∧(b:Int)<frame*128+i
     · rw[if_pos hc,if_pos (by omega)]
     · rw[if_neg hc,if_neg (by omega)]
 · have h1:i<s.length:=of_decide_eq_true h1
   have h2: ¬i<128:=of_decide_eq_false h2
   omega
 · have h1: ¬i<s.length:=of_decide_eq_false h1
   omega
theorem or_add{x y:Int}(hx:U x)(hy:U y)(k:Nat)(hk:x<2^k)(h:x+y*2^k<4294967296):ior .u32 x (y*2^k)=x+y*2^k:=by
 obtain⟨n,rfl⟩: ∃n:Nat,x=n:=⟨x.toNat,by have:=hx.1;omega⟩
 obtain⟨z,rfl⟩: ∃n:Nat,y=n:=⟨y.toNat,by have:=hy.1;omega⟩
 have e:((z:Int)*2^k)=((z*2^k:Nat):Int):=by simp
 rw[e]at h⊢
 have hn:n<2^k:=by exact_mod_cast hk
 rw[or_nat hx ⟨by omega,by omega⟩,Int.toNat_natCast,Int.toNat_natCast,Nat.or_comm,Nat.mul_comm,←Nat.two_pow_add_eq_or_of_lt hn]
 omega
theorem four{a b c d:Int}(ha:0≤a∧a<256)(hb:0≤b∧b<256)(hc:0≤c∧c<256)(hd:0≤d∧d<256):ior .u32 (ior .u32 (ior .u32 (IntKind.wrap .u32 a) (ishl .u32 (IntKind.wrap .u32 b) 8)) (ishl .u32 (IntKind.wrap .u32 c) 16)) (ishl .u32 (IntKind.wrap .u32 d) 24)=a+b*2^8+c*2^16+d*2^24:=by
 have w: ∀{x:Int},0≤x∧x<256→IntKind.wrap .u32 x=x:=λhx=>by rw[IntKind.wrap_u32];omega
 have s8: ∀{x:Int},0≤x∧x<256→ishl .u32 x 8=x*2^8:=fun{x} hx=>by show IntKind.wrap .u32 (x*2^8)=_;rw[IntKind.wrap_u32];omega
 have s16: ∀{x:Int},0≤x∧x<256→ishl .u32 x 16=x*2^16:=fun{x} hx=>by show IntKind.wrap .u32 (x*2^16)=_;rw[IntKind.wrap_u32];omega
 have s24: ∀{x:Int},0≤x∧x<256→ishl .u32 x 24=x*2^24:=fun{x} hx=>by show IntKind.wrap .u32 (x*2^24)=_;rw[IntKind.wrap_u32];omega
 rw[w ha,w hb,w hc,w hd,s8 hb,s16 hc,s24 hd]
 rw[or_add ⟨by omega,by omega⟩ ⟨by omega,by omega⟩ 8 (by omega) (by omega),or_add ⟨by omega,by omega⟩ ⟨by omega,by omega⟩ 16 (by omega) (by omega),or_add ⟨by omega,by omega⟩ ⟨by omega,by omega⟩ 24 (by omega) (by omega)]
theorem four_dig{a b c d:Int}(ha:0≤a∧a<256)(hb:0≤b∧b<256)(hc:0≤c∧c<256)(hd:0≤d∧d<256)(k:Nat)(hk:k<4):dig (a+b*2^8+c*2^16+d*2^24) k=if k=0 then a else if k=1 then b else if k=2 then c else d:=by
 have hk:k=0∨k=1∨k=2∨k=3:=by omega
 rcases hk with rfl|rfl|rfl|rfl<;>simp [dig]<;>omega
theorem Z0r{P:Nat}{m:List Int}(h:Q0u P m)(f:Int):Q4j m f=decide (0≤f∧f<P):=by
 have hp:=Q38 h
 simp only[Q4j,Q75,Tree.m,letv,hp]
 by_cases h1:0≤f
 · rw[decide_eq_true h1];simp [h1]
 · rw[decide_eq_false h1];simp [h1]
theorem getD_cut(s:List UInt8)(a b k:Nat)(h:k<b):(List.take b (List.drop a s)).getD k 0=s.getD (a+k) 0:=by
 simp [List.getD_eq_getElem?_getD,List.getElem?_take,h]
theorem u8I(x:UInt8):0≤(x.toNat:Int)∧(x.toNat:Int)<256:=by have:=x.toNat_lt;omega
theorem Qt8{P:Nat}{m:List Int}(h:Q0u P m){f:Int}(f0:0≤f)(f1:f<P){s:List UInt8}(hs:s.length=128):(Q2a m f s).w (λr=>r.2=true∧Q0u P r.1∧ ∀b:Nat,byt r.1 b=if f*128≤b∧(b:Int)<f*128+128 then((s.getD (b-f*128).toNat 0).toNat:Int) else byt m b):=by
  have hcl:Q01 m=m:=rfl
  have h2:=h.p2
  unfold Q2a
  refine w_an (Q7e h) (w_lv λx0 hx0=>w_lv λx1 hx1=> ?_)
  rw[hcl]at hx0;subst hx0
  rw[Z0r h,decide_eq_true ⟨f0,f1⟩]at hx1
  subst hx1
  refine w_br (λhb=>by cases hb) λ_=>w_br (λhb=>by simp [hs]at hb) λ_=> ?_
  refine w_lp (inv:=λz:Int×List Int=>0≤z.1∧z.1≤32∧Q0u P z.2∧ ∀b:Nat,byt z.2 b=if f*128≤b∧(b:Int)<f*128+4*z.1 then((s.getD (b-f*128).toNat 0).toNat:Int) else byt x0 b) (μ:=Q8s x0 f s) ⟨show(0:Int)≤0 by decide,show(0:Int)≤32 by decide,h,λb=>by rw[if_neg];show¬(_∧_<_+4*(0:Int));omega⟩ (Nat.lt_succ_self _) λz ⟨z1,z2,z3,z4⟩=> ?_
  refine w_br (λhb=> ?_) (λhb=>⟨rfl,z3,λb=> ?_⟩)
  · have hb:=of_decide_eq_true hb
    have e1:IntKind.i64.wrap (4*z.1)=4*z.1:=by rw[IntKind.wrap_i64];omega
    have e2:IntKind.i64.wrap (IntKind.i64.wrap (4*z.1)+4)=4*z.1+4:=by rw[IntKind.wrap_i64,IntKind.wrap_i64];omega
    have e3:IntKind.i64.wrap (IntKind.i64.wrap (f*32)+z.1)=f*32+z.1:=by rw[IntKind.wrap_i64,IntKind.wrap_i64];omega
    have hl:=z3.len
    have cut:Int.toNat (IntKind.i64.wrap (IntKind.i64.wrap (4*z.1)+4))-Int.toNat (IntKind.i64.wrap (4*z.1))=4:=by rw[e2,e1];omega
    have hlen:(List.take (Int.toNat (IntKind.i64.wrap (IntKind.i64.wrap (4*z.1)+4))-Int.toNat (IntKind.i64.wrap (4*z.1))) (List.drop (Int.toNat (IntKind.i64.wrap (4*z.1))) s)).length=4:=by
      rw[cut,e1,List.length_take,List.length_drop];omega
    refine w_cn (decide_eq_true (by rw[e2,e1];omega)) ?_
    refine w_cn (decide_eq_true (by rw[hlen];decide)) (w_cn (decide_eq_true (by rw[hlen];decide)) (w_cn (decide_eq_true (by rw[hlen];decide)) (w_cn (decide_eq_true (by rw[hlen];decide)) (w_cn (by rw[e3];simp [Nat.blt];omega) (w_nx ?_)))))
    have ew:IntKind.i64.wrap (z.1+1)=z.1+1:=by rw[IntKind.wrap_i64];omega
    rw[cut]
    refine⟨⟨by show 0≤IntKind.i64.wrap (z.1+1);rw[ew];omega,by show IntKind.i64.wrap (z.1+1)≤32;rw[ew];omega,?_,?_⟩,by show(32-IntKind.i64.wrap (z.1+1)).toNat<(32-z.1).toNat;rw[ew];omega⟩
    · show Q0u P (List.set _ _ _)
      exact⟨by rw[List.length_set];exact hl,z3.p1,z3.p2,Qvh z3.u (U_or _ _) _⟩
    · intro b
      show byt (List.set z.2 (Int.toNat (IntKind.i64.wrap (IntKind.i64.wrap (f*32)+z.1))) _) b=if f*128≤(b:Int)∧(b:Int)<f*128+4*IntKind.i64.wrap (z.1+1) then _ else _
      rw[e3,ew,four (u8I _) (u8I _) (u8I _) (u8I _),Z5p (by omega)]
      have g: ∀k:Nat,k<4→(List.take 4 (List.drop (Int.toNat (IntKind.i64.wrap (4*z.1))) s)).getD k 0=s.getD ((4*z.1).toNat+k) 0:=λk hk=>by rw[e1];exact getD_cut _ _ _ _ hk
      by_cases hc:b/4=(f*32+z.1).toNat
      · have hin:f*128≤(b:Int)∧(b:Int)<f*128+4*(z.1+1):=by omega
        rw[if_pos hc,four_dig (u8I _) (u8I _) (u8I _) (u8I _) _ (by omega),if_pos hin]
        have hb4:b%4=0∨b%4=1∨b%4=2∨b%4=3:=by omega
        have gi:(b-f*128).toNat=(4*z.1).toNat+b%4:=by omega
        rw[gi]
        rcases hb4 with h4|h4|h4|h4<;>rw[h4]
        · rw[if_pos rfl,←g 0 (by omega)];rfl
        · rw[if_neg (by decide),if_pos rfl,←g 1 (by omega)];rfl
        · rw[if_neg (by decide),if_neg (by decide),if_pos rfl,←g 2 (by omega)];rfl
        · rw[if_neg (by decide),if_neg (by decide),if_neg (by decide),←g 3 (by omega)];rfl
      · rw[if_neg hc,z4 b]
        by_cases hd:f*128≤(b:Int)∧(b:Int)<f*128+4*z.1
        · rw[if_pos hd,if_pos (by omega)]
        · rw[if_neg hd,if_neg (by omega)]
  · have hb:=of_decide_eq_false hb
    show byt z.2 b=_
    rw[z4 b,show z.1=32 by omega]
    rfl
theorem Qzn{α:Type}(l l2:List α)(k:Nat)(z:α):(l++l2).getD k z=if k<l.length then l.getD k z else l2.getD (k-l.length) z:=by
 simp only[List.getD_eq_getElem?_getD,List.getElem?_append]
 split<;>rfl
theorem u8w{x:Int}:IntKind.wrap .u8 x=x%256:=IntKind.wrap_u8 x
theorem shr_c(W:Int):ishr .u32 W 8=W/256∧ishr .u32 W 16=W/65536∧ishr .u32 W 24=W/16777216:=by
 refine⟨?_,?_,?_⟩
 · show Int.fdiv W 256=_;rw[Int.fdiv_eq_ediv_of_nonneg _ (by decide)]
 · show Int.fdiv W 65536=_;rw[Int.fdiv_eq_ediv_of_nonneg _ (by decide)]
 · show Int.fdiv W 16777216=_;rw[Int.fdiv_eq_ediv_of_nonneg _ (by decide)]
theorem b4d(W:Int){k:Nat}(hk:k<4):[IntKind.wrap .u8 W,IntKind.wrap .u8 (ishr .u32 W 8),IntKind.wrap .u8 (ishr .u32 W 16),IntKind.wrap .u8 (ishr .u32 W 24)].getD k 0=dig W k:=by
 obtain⟨a,b,c⟩:=shr_c W
 have hk:k=0∨k=1∨k=2∨k=3:=by omega
 rcases hk with rfl|rfl|rfl|rfl<;>simp [dig,a,b,c,u8w]
theorem Qj(l:List Int)(k:Nat)(h:0≤l.getD k 0∧l.getD k 0<256)(hk:k<l.length):(((bytesOf l).getD k 0).toNat:Int)=l.getD k 0:=by
 have e:(bytesOf l).getD k 0=UInt8.ofNat (l.getD k 0).toNat:=by
   simp [bytesOf,List.getD_eq_getElem?_getD,hk]
 rw[e,UInt8.toNat_ofNat']
 omega
theorem Z61(l:List UInt8)(k:Nat)(hk:k<l.length):(Q4q l).getD k 0=((l.getD k 0).toNat:Int):=by
 simp [Q4q,List.getD_eq_getElem?_getD,hk]
theorem text_b(w:List Int)(h:w.length≤32):(Q4b w).w (λr=>r.length=4*w.length∧ ∀k:Nat,k<4*w.length→((r.getD k 0).toNat:Int)=dig (w.getD (k/4) 0) (k%4)):=by
 have e0:IntKind.i64.wrap (4*(w.length:Int))=4*w.length:=by rw[IntKind.wrap_i64];omega
 unfold Q4b
 refine w_cn (by rw[e0];simp [Nat.blt,D.plain];omega) ?_
 refine w_lp (inv:=λz:Int×List Int=>0≤z.1∧z.1≤w.length∧(z.2.length:Int)=4*z.1∧ ∀k:Nat,(k:Int)<4*z.1→z.2.getD k 0=dig (w.getD (k/4) 0) (k%4)) (μ:=Q63 w) ⟨by decide,by show(0:Int)≤w.length;omega,rfl,λk hk=>by have hk:(k:Int)<4*0:=hk;omega⟩ (Nat.lt_succ_self _) λz ⟨z1,z2,z3,z4⟩=> ?_
 refine w_br (λhb=> ?_) (λhb=> ?_)
 · have hb:=of_decide_eq_true hb
   have ew:IntKind.i64.wrap (z.1+1)=z.1+1:=by rw[IntKind.wrap_i64];omega
   refine w_cn (by simp [Nat.blt];omega) (w_cn (decide_eq_true (by omega)) (w_nx ?_))
   show(_∧_∧_∧ ∀k:Nat,(k:Int)<4*IntKind.i64.wrap (z.1+1)→(z.2++_).getD k 0=_)∧(_:Nat)<_
   refine⟨⟨by rw[ew];omega,by rw[ew];omega,by rw[ew,List.length_append];simp only[List.length_cons,List.length_nil];omega,λk hk=> ?_⟩,by show(w.length-IntKind.i64.wrap (z.1+1)).toNat<(w.length-z.1).toNat;rw[ew];omega⟩
   rw[ew]at hk
   rw[Qzn]
   split
   · exact z4 k (by omega)
   · rename_i hn
     rw[b4d _ (by omega),show z.1.toNat=k/4 by omega,show k-z.2.length=k%4 by omega]
 · have hb:=of_decide_eq_false hb
   show(bytesOf z.2).length=_∧ ∀k:Nat,_→(((bytesOf z.2).getD k 0).toNat:Int)=_
   refine⟨by rw[Qfa];omega,λk hk=> ?_⟩
   have e:=z4 k (by omega)
   have:=dig_lt (w.getD (k/4) 0) (k%4)
   rw[Qj _ _ (by rw[e];exact this) (by omega),e]
def isPg(m:List Int)(f:Int)(r:List UInt8):Prop:=r.length=128∧ ∀k:Nat,k<128→((r.getD k 0).toNat:Int)=byt m ((f*128).toNat+k)
theorem pg_ext{m:List Int}{f:Int}{r s:List UInt8}(a:isPg m f r)(b:isPg m f s):r=s:=by
 obtain⟨a1,a2⟩:=a
 obtain⟨b1,b2⟩:=b
 refine List.ext_getElem (by omega) λi h1 h2=> ?_
 have e:=(a2 i (by omega)).trans (b2 i (by omega)).symm
 have e1:r[i]=r.getD i 0:=by simp [List.getD,h1]
 have e2:s[i]=s.getD i 0:=by simp [List.getD,h2]
 rw[e1,e2]
 exact UInt8.toNat_inj.1 (by omega)
theorem mpage_b{P:Nat}{m:List Int}(h:Q0u P m){f:Int}(f0:0≤f)(f1:f<P):(Q3f m f).w (λr=>isPg m f r.1∧r.2=true):=by
 have hl:=h.len
 have h2:=h.p2
 unfold Q3f
 refine w_lv λx0 hx0=> ?_
 rw[Z0r h,decide_eq_true ⟨f0,f1⟩]at hx0
 subst hx0
 refine w_br (λhb=>by cases hb) (λhb=> ?_)
 have e1:IntKind.i64.wrap (f*32)=f*32:=by rw[IntKind.wrap_i64];omega
 have e2:IntKind.i64.wrap (IntKind.i64.wrap (f*32)+32)=f*32+32:=by rw[IntKind.wrap_i64,IntKind.wrap_i64];omega
 have cut:Int.toNat (IntKind.i64.wrap (IntKind.i64.wrap (f*32)+32))-Int.toNat (IntKind.i64.wrap (f*32))=32:=by rw[e2,e1];omega
 have hlen:(List.take 32 (List.drop (Int.toNat (IntKind.i64.wrap (f*32))) m)).length=32:=by
   rw[e1,List.length_take,List.length_drop];omega
 refine w_cn (by rw[e2,e1];simp [Nat.blt];omega) ?_
 rw[cut]
 refine w_an (by show List.length _≤1000000000000;rw[hlen];decide) (w_lv λx1 h1=> ?_)
 have t:=(Tree.pp (text_b _ (Nat.le_of_eq hlen))).2
 rw[hlen,show(Q4b (List.take 32 (List.drop (Int.toNat (IntKind.i64.wrap (f*32))) m))).m=x1 from h1.symm]at t
 refine⟨⟨t.1,λk hk=> ?_⟩,rfl⟩
 show((x1.getD k 0).toNat:Int)=_
 rw[t.2 k hk,byt,e1]
 have g:(List.take 32 (List.drop (Int.toNat (f*32)) m)).getD (k/4) 0=m.getD ((f*32).toNat+k/4) 0:=by
   simp [List.getD_eq_getElem?_getD,List.getElem?_take,show k/4<32 by omega]
 rw[g,show((f*128).toNat+k)/4=(f*32).toNat+k/4 by omega,show((f*128).toNat+k)%4=k%4 by omega]
theorem low_eq(x:Int):Z7a x 4=bytesOf [IntKind.wrap .u8 (ishr .u32 x 0),IntKind.wrap .u8 (ishr .u32 x 8),IntKind.wrap .u8 (ishr .u32 x 16),IntKind.wrap .u8 (ishr .u32 x 24)]:=by kernel_rfl
theorem rpage_b{P:Nat}{m:List Int}(hm:Q0u P m){frame:Int}(f0:0≤frame)(f1:frame<P):(Q9c m frame).w (λr=>isPg m frame r.1∧r.2=true):=by
 have hp:=Qbl hm
 have hl:=hm.len
 have h2:=hm.p2
 unfold Q9c
 refine w_br (λh=>by have:=of_decide_eq_true h;omega) (λh=>w_lv λx0 hx=>w_br (λh1=>by have:=of_decide_eq_true h1;rw[hx,hp]at this;omega) (λh1=> ?_))
 refine w_lp (inv:=λz:Int×List Int=>0≤z.1∧z.1≤32∧(z.2.length:Int)=4*z.1∧ ∀k:Nat,(k:Int)<4*z.1→z.2.getD k 0=byt m ((frame*128).toNat+k)) (μ:=Qee m frame) ⟨by decide,by decide,rfl,λk hk=>by have hk:(k:Int)<4*0:=hk;omega⟩ (Nat.lt_succ_self _) (λz hz=> ?_)
 obtain⟨z1,z2,z3,z4⟩:=hz
 refine w_br (λhb=> ?_) (λhb=> ?_)
 · have hb:=of_decide_eq_true hb
   have e:IntKind.wrap IntKind.i64 (IntKind.wrap IntKind.i64 (frame*32)+z.1)=frame*32+z.1:=by rw[IntKind.wrap_i64,IntKind.wrap_i64];omega
   refine w_cn (by rw[e];simp [Nat.blt];omega) (w_an (show(4:Int)≤1000000000000 by decide) (w_lv λx1 h4=> ?_))
   rw[low_eq,shr0,e]at h4
   have l4:x1.length=4:=by rw[h4];rfl
   refine w_cn (decide_eq_true (by rw[Qk,l4];omega)) (w_nx ?_)
   show(0≤IntKind.i64.wrap (z.1+1)∧IntKind.i64.wrap (z.1+1)≤32∧((z.2++Q4q x1).length:Int)=4*IntKind.i64.wrap (z.1+1)∧ ∀k:Nat,(k:Int)<4*IntKind.i64.wrap (z.1+1)→(z.2++Q4q x1).getD k 0=_)∧(32-IntKind.i64.wrap (z.1+1)).toNat<(32-z.1).toNat
   have ew:IntKind.i64.wrap (z.1+1)=z.1+1:=by rw[IntKind.wrap_i64];omega
   rw[ew]
   refine⟨⟨by omega,by omega,by rw[List.length_append,Qk,l4];omega,λk hk=> ?_⟩,by omega⟩
   rw[Qzn]
   split
   · exact z4 k (by omega)
   · rename_i hn
     have hk4:k-z.2.length<4:=by omega
     rw[Z61 _ _ (by omega),h4]
     have d:=b4d (m.getD (frame*32+z.1).toNat 0) hk4
     rw[Qj _ _ (by rw[d];exact dig_lt _ _) (by simpa using hk4),d,byt]
     rw[show((frame*128).toNat+k)/4=(frame*32+z.1).toNat by omega,show((frame*128).toNat+k)%4=k-z.2.length by omega]
 · have hb:=of_decide_eq_false hb
   refine⟨⟨?_,λk hk=> ?_⟩,rfl⟩
   · show(bytesOf z.2).length=128
     rw[Qfa];omega
   · show(((bytesOf z.2).getD k 0).toNat:Int)=_
     have e:=z4 k (by omega)
     rw[Qj _ _ (by rw[e];exact dig_lt _ _) (by omega),e]
theorem Z4p{P:Nat}{m:List Int}(h:Q0u P m)(f:Int):Q4u m f=Qgc m f:=by
 by_cases hf:0≤f∧f<P
 · have a:=(Tree.pp (mpage_b h hf.1 hf.2)).2
   have b:=(Tree.pp (rpage_b h hf.1 hf.2)).2
   exact Prod.ext (pg_ext a.1 b.1) (a.2.trans b.2.symm)
 · have hp:=Qbl h
   have e1:Q4u m f=([],false):=by
     simp only[Q4u,Q3f,Tree.m,letv,Z0r h,decide_eq_false hf];rfl
   have e2:Qgc m f=([],false):=by
     simp only[Qgc,Q9c,Tree.m,letv,hp]
     by_cases h0:f<0
     · rw[decide_eq_true h0];rfl
     · rw[decide_eq_false h0,decide_eq_true (show f≥P by omega)];rfl
   rw[e1,e2]
section
variable {P:Nat} {m:List Int} (h:Q0u P m)
include h
theorem Z40{f:Int}(f0:0≤f)(f1:f<P){s:List UInt8}(hs:s.length=128):Q2p m f s=(Qjq m f s,true):=by
 have a:=(Tree.pp (Qt8 h f0 f1 hs)).2
 have b:=(Tree.pp (fill_b h f0 f1 s)).2
 refine Prod.ext (Z5 (a.2.1.len.trans b.1.len.symm) a.2.1.u b.1.u λk=> ?_) a.1
 have e:((min s.length 128:Nat):Int)=128:=by rw[hs];rfl
 have b2:=b.2 k
 have a2:=a.2.2 k
 rw[e]at b2
 exact a2.trans b2.symm
theorem Z3h{f:Int}(f0:0≤f)(f1:f<P){s r:List UInt8}(hs:s.length≤128)(hr:isPg m f r):Q2p m f (s++r.drop s.length)=(Qjq m f s,true):=by
  have hl:(s++r.drop s.length).length=128:=by have:=hr.1;simp;omega
  have a:=(Tree.pp (Qt8 h f0 f1 hl)).2
  have b:=(Tree.pp (fill_b h f0 f1 s)).2
  refine Prod.ext (Z5 (a.2.1.len.trans b.1.len.symm) a.2.1.u b.1.u λk=> ?_) a.1
  have b2:=b.2 k
  have a2:=a.2.2 k
  refine a2.trans (Eq.trans ?_ b2.symm)
  by_cases hc:f*128≤(k:Int)∧(k:Int)<f*128+128
  · rw [if_pos hc,Qzn]
    by_cases hd:(k-f*128).toNat<s.length
    · rw[if_pos hd,if_pos (by omega)]
    · rw[if_neg hd,if_neg (by omega)]
      have e:(r.drop s.length).getD ((k-f*128).toNat-s.length) 0=r.getD (k-f*128).toNat 0:=by
        simp [List.getD_eq_getElem?_getD,show s.length+((k-f*128).toNat-s.length)=(k-f*128).toNat by omega]
      rw[e,hr.2 _ (by omega),show(f*128).toNat+(k-f*128).toNat=k by omega]
  · rw[if_neg hc,if_neg (by omega)]
theorem Qds{a:Int}(ha:U a){size:Int}(hs:size=1∨size=4):Q2 m a size=decide (a%size=0∧a<128*P):=by
 have hq:=Qbl h
 have h2:=h.p2
 have a0:=ha.1
 have e:IntKind.wrap IntKind.u32 size=size:=by rcases hs with rfl|rfl<;>decide
 have e0:decide (IntKind.wrap IntKind.u32 size≠0)=true:=by rcases hs with rfl|rfl<;>decide
 have t:Int.tmod a (IntKind.wrap IntKind.u32 size)=a%size:=by rw[e,Int.tmod_eq_emod_of_nonneg a0]
 have l: ∀x,x=Q4 m→a%size=0→decide (a<IntKind.wrap IntKind.u32 (IntKind.wrap IntKind.i64 (128*x)))=decide (a%size=0∧a<128*P):=λx hx hz=>by
   rw[hx,hq,IntKind.wrap_u32,IntKind.wrap_i64]
   exact decide_eq_decide.2 ⟨λh=>⟨hz,by omega⟩,λh=>by omega⟩
 refine Tree.post (Q8j m a size) (W:=λb=>b=decide (a%size=0∧a<128*P)) ?_
 unfold Q8j
 refine w_br (λh1=>w_br (λh4=> ?_) (λ_=> ?_)) (λ_=> ?_)
 · have h1: ¬size=1:=by simpa using h1
   have h4: ¬size=4:=by simpa using h4
   omega
 all_goals
   refine w_cn e0 (w_br (λhb=>w_lv λx hx=>l x hx ?_) (λhb=> ?_))
   · rw[t]at hb;exact eq_of_beq hb
   · rw[t]at hb
     exact(decide_eq_false (λh=>by rw[h.1]at hb;cases hb)).symm
theorem Qu2{a:Int}(ha:U a){size:Int}(hs:size=1∨size=4):Qde m a size=Q2 m a size:=by
 rw[Qds h ha hs]
 have hq:=Qut h
 have h2:=h.p2
 have a0:=ha.1
 have a1:=ha.2
 have e:IntKind.wrap IntKind.u32 size=size:=by rcases hs with rfl|rfl<;>decide
 have e0:decide (IntKind.wrap IntKind.u32 size≠0)=true:=by rcases hs with rfl|rfl<;>decide
 have t:Int.tmod a (IntKind.wrap IntKind.u32 size)=a%size:=by rw[e,Int.tmod_eq_emod_of_nonneg a0]
 have l: ∀x,x=Q0q m→a%size=0→decide (IntKind.wrap IntKind.u64 (IntKind.wrap IntKind.u64 a+IntKind.wrap IntKind.u64 size)≤IntKind.wrap IntKind.u64 (IntKind.wrap IntKind.u64 x*128))=decide (a%size=0∧a<128*P):=λx hx hz=>by
   rw[hx,hq]
   simp only[IntKind.wrap_u64]
   refine decide_eq_decide.2 ⟨λh=>⟨hz,?_⟩,λh=> ?_⟩<;>rcases hs with rfl|rfl<;>omega
 refine Tree.post (Q30 m a size) (W:=λb=>b=decide (a%size=0∧a<128*P)) ?_
 unfold Q30
 refine w_br (λh1=>w_br (λh4=> ?_) (λ_=> ?_)) (λ_=> ?_)
 · have h1: ¬size=1:=by simpa using h1
   have h4: ¬size=4:=by simpa using h4
   omega
 all_goals
   refine w_cn e0 (w_br (λhb=> ?_) (λhb=>w_lv λx hx=>l x hx ?_))
   · rw[t]at hb
     exact(decide_eq_false (λh=>by rw[h.1]at hb;cases hb)).symm
   · rw[t]at hb;simpa using hb
end
theorem fldj(w:Int):Q2v w 0 8=iand .u32 (ishr .u32 w 0) 255∧Q2v w 8 8=iand .u32 (ishr .u32 w 8) 255∧Q2v w 16 8=iand .u32 (ishr .u32 w 16) 255∧Q2v w 24 8=iand .u32 (ishr .u32 w 24) 255:=
 ⟨by kernel_rfl,by kernel_rfl,by kernel_rfl,by kernel_rfl⟩
theorem setj(w v:Int):Q6w w 0 8 v=putW w v 0∧Q6w w 8 8 v=putW w v 8∧Q6w w 16 8 v=putW w v 16∧Q6w w 24 8 v=putW w v 24:=
 ⟨by kernel_rfl,by kernel_rfl,by kernel_rfl,by kernel_rfl⟩
theorem sh_same{a:Int}(ha:U a):IntKind.wrap .i64 (IntKind.wrap .i64 (Int.tmod a 4)*8)=8*(a%4)∧IntKind.wrap .u32 (8*Int.tmod a 4)=8*(a%4):=by
 obtain⟨a0,a1⟩:=ha
 rw[Int.tmod_eq_emod_of_nonneg a0]
 exact⟨by rw[IntKind.wrap_i64,IntKind.wrap_i64];omega,by rw[IntKind.wrap_u32];omega⟩
section
variable {P:Nat} {m:List Int} (h:Q0u P m)
include h
theorem Qj4{a:Int}(ha:U a){size:Int}(hs:size=1∨size=4):Q41 m a size=Q11 m a size:=by
 have e:=Qu2 h ha hs
 obtain⟨s1,s2⟩:=sh_same ha
 have f:Q2v (m.getD (Int.toNat (IntKind.wrap .u32 (Int.tdiv a 4))) 0) (8*(a%4)) 8=iand .u32 (ishr .u32 (m.getD (Int.toNat (IntKind.wrap .u32 (Int.tdiv a 4))) 0) (8*(a%4))) 255:=by
   obtain⟨f0,f1,f2,f3⟩:=fldj (m.getD (Int.toNat (IntKind.wrap .u32 (Int.tdiv a 4))) 0)
   have:a%4=0∨a%4=1∨a%4=2∨a%4=3:=by omega
   rcases this with h|h|h|h<;>rw[h]
   · exact f0
   · exact f1
   · exact f2
   · exact f3
 simp only[Q41,Q3g,Q11,Q45,Tree.m,letv,e,s1,s2,f]
omit h in
theorem Qza(a:Int)(size:Int):(Q11 m a size).2=Q2 m a size:=by
 simp only[Q11,Q45,Tree.m,letv]
 cases Q2 m a size
 · rfl
 · cases size==1<;>rfl
theorem Qx3{a:Int}(ha:U a){size:Int}(hs:size=1∨size=4)(v:Int):Q86 m a size v=bif Q2 m a size then(Q97 m a size v,true) else(m,false):=by
 have hcl:Q01 m=m:=rfl
 have e:=Qu2 h ha hs
 obtain⟨s1,s2⟩:=sh_same ha
 have f: ∀w,Q6w w (8*(a%4)) 8 v=ior .u32 (Qd8 .u32 w (ishl .u32 255 (8*(a%4)))) (ishl .u32 (iand .u32 v 255) (8*(a%4))):=λw=>by
   obtain⟨f0,f1,f2,f3⟩:=setj w v
   have:a%4=0∨a%4=1∨a%4=2∨a%4=3:=by omega
   rcases this with h|h|h|h<;>rw[h]
   · exact f0
   · exact f1
   · exact f2
   · exact f3
 simp only[Q86,Q4f,Q97,Qdu,Tree.m,letv,hcl,e,s1,s2,f]
 rcases hs with rfl|rfl<;>cases Q2 m a _<;>rfl
end
section
variable {P:Nat} {m:List Int} (h:Q0u P m)
include h
theorem walk_same{root va:Int}(hr:U root)(hv:U va){access:Int}(ha:access=1∨access=2∨access=3):Qew m root va access=Q5w m root va access:=by
 have hp:=Qbl h
 have h2:=h.p2
 have hlen:=h.len
 obtain⟨r1,r2⟩:=hr
 obtain⟨v1,v2⟩:=hv
 have hpg: ∀{f:Int},U f→Q8i m f=decide (f<P):=λhf=>pageP_eq h hf
 have eP:IntKind.wrap .u32 (P:Int)=P:=by rw[IntKind.wrap_u32];omega
 have kn:Qdr access=true:=by rcases ha with rfl|rfl|rfl<;>rfl
 have ca:Qfz access=(Q1z access,true):=by rcases ha with rfl|rfl|rfl<;>rfl
 simp only[Qew,Q5i,Q5w,Q9g,Tree.m,letv,hp,eP,kn,ca,hpg ⟨r1,r2⟩]
 by_cases c1:va≥4096
 · rw[decide_eq_true c1];rfl
 by_cases c2:root<P
 · have eE:IntKind.wrap IntKind.u32 (IntKind.wrap IntKind.u32 (root*128)+IntKind.wrap IntKind.u32 (4*IntKind.wrap IntKind.u32 (Int.tdiv va 128)))=root*128+4*(va/128):=by
     rw[Int.tdiv_eq_ediv_of_nonneg v1,IntKind.wrap_u32,IntKind.wrap_u32,IntKind.wrap_u32,IntKind.wrap_u32];omega
   have hE:U (root*128+4*(va/128)):=⟨by omega,by omega⟩
   have wi:Q2 m (root*128+4*(va/128)) 4=true:=by
     rw[Qds h hE (.inr rfl)];exact decide_eq_true ⟨by omega,by omega⟩
   rw[decide_eq_false c1,decide_eq_true c2,decide_eq_false (show¬root≥P by omega),eE,Qj4 h hE (.inr rfl),Qza,wi]
   have ld:(Q11 m (root*128+4*(va/128)) 4).1=m.getD (Int.toNat (IntKind.wrap .u32 (Int.tdiv (root*128+4*(va/128)) 4))) 0:=by
     simp only[Q11,Q45,Tree.m,letv,wi];rfl
   rw[ld]
   generalize m.getD (Int.toNat (IntKind.wrap .u32 (Int.tdiv (root*128+4*(va/128)) 4))) 0=w
   have fo:Qbp w=iand .u32 (ishr .u32 w 8) 255:=(fld w).2.2.2.2
   rw[fo,hpg (Z5q _ _)]
   have hge:decide (iand .u32 (ishr .u32 w 8) 255≥(P:Int))=!decide (iand .u32 (ishr .u32 w 8) 255<(P:Int)):=by
     by_cases hq:iand .u32 (ishr .u32 w 8) 255<(P:Int)
     · rw[decide_eq_true hq,decide_eq_false (by omega)];rfl
     · rw[decide_eq_false hq,decide_eq_true (by omega)];rfl
   rw[hge]
   generalize decide (iand .u32 (ishr .u32 w 8) 255<(P:Int))=d
   rcases ha with rfl|rfl|rfl
   · show _=(bif iand .u32 w 1==0 then _ else bif iand .u32 w 4==0 then _ else bif !d then _ else _)
     have:Q8x w 1=(bif iand .u32 w 1==0 then false else !(iand .u32 w 4==0)):=rfl
     rw[this]
     cases iand .u32 w 1==0<;>cases iand .u32 w 4==0<;>cases d<;>rfl
   · show _=(bif iand .u32 w 1==0 then _ else bif !d then _ else _)
     have:Q8x w 2=(bif iand .u32 w 1==0 then false else true):=rfl
     rw[this]
     cases iand .u32 w 1==0<;>cases d<;>rfl
   · show _=(bif iand .u32 w 1==0 then _ else bif iand .u32 w 2==0 then _ else bif !d then _ else _)
     have:Q8x w 3=(bif iand .u32 w 1==0 then false else !(iand .u32 w 2==0)):=rfl
     rw[this]
     cases iand .u32 w 1==0<;>cases iand .u32 w 2==0<;>cases d<;>rfl
 · rw[decide_eq_false c1,decide_eq_false c2,decide_eq_true (show root≥P by omega)];rfl
theorem Za5{a:Int}(ha:U a)(access:Int):Q9k m a access=Qn2 m a access:=by
 have hcl:Q01 m=m:=rfl
 have hl:=h.len
 have a0:=ha.1
 simp only[Q9k,Q4i,Qn2,Qf,Tree.m,letv,Qj4 h ha (.inr rfl),Qza,Qx3 h ha (.inr rfl),hcl]
 cases hw:Q2 m a 4
 · rfl
 · rw[Qds h ha (.inr rfl)]at hw
   have hw:=of_decide_eq_true hw
   have wi:Q2 m a 4=true:=by rw[Qds h ha (.inr rfl)];exact decide_eq_true hw
   have ld:(Q11 m a 4).1=m.getD (Int.toNat (IntKind.wrap .u32 (Int.tdiv a 4))) 0:=by
     simp only[Q11,Q45,Tree.m,letv,wi];rfl
   have pu: ∀v,Q97 m a 4 v=m.set (Int.toNat (IntKind.wrap .u32 (Int.tdiv a 4))) v:=λv=>rfl
   rw[ld,pu,pu]
   have hi:Int.toNat (IntKind.wrap .u32 (Int.tdiv a 4))<m.length:=by
     rw[Int.tdiv_eq_ediv_of_nonneg a0,IntKind.wrap_u32];omega
   generalize Int.toNat (IntKind.wrap .u32 (Int.tdiv a 4))=i at*
   rw[Qmh hi,List.set_set]
   rfl
end
theorem Qj5{c:Q02}(h0:0≤c.B4.a0)(h:c.B4.a0≤31)(k b:Int):Q3w c k b=Q2u c k b:=by
 have e:=eq_of_beq (Qm8 (λs=>Qd8 .u32 (ior .u32 (Q7g (Q7g s 1 8) 2 16) 1) 2==ior .u32 (Qd8 .u32 (ior .u32 (ior .u32 (Qd8 .u32 s 24) (IntKind.wrap .u32 (8*Qad (iand .u32 s 1 !=0)))) (IntKind.wrap .u32 (16*Qad (iand .u32 s 2 !=0)))) 2) 1) 32 (by kernel_rfl) h0 (by omega))
 simp only[Q3w,Qgj,Q2u,Qhw,Tree.m,letv,e]
theorem Z73{c:Q02}(h0:0≤c.B4.a0)(h:c.B4.a0≤31):Qba c=Qhb c:=by
 have e:=eq_of_beq (Qm8 (λs=>Q7g (Q7g s 8 1) 16 2==ior .u32 (ior .u32 (Qd8 .u32 s 3) (IntKind.wrap .u32 (1*Qad (iand .u32 s 8 !=0)))) (IntKind.wrap .u32 (2*Qad (iand .u32 s 16 !=0)))) 32 (by kernel_rfl) h0 (by omega))
 simp only[Qba,Qcb,Qhb,Qdi,Tree.m,letv,e]
theorem Qxu{c:Q02}(h0:0≤c.B4.a0)(h:c.B4.a0≤31):Qk2 c=(!Q8e c&&(iand .u32 c.B4.a0 4 !=0)):=
 eq_of_beq (Qm8 (λs=>(iand .u32 s 5==4)==(!(iand .u32 s 1 !=0)&&(iand .u32 s 4 !=0))) 32 (by kernel_rfl) h0 (by omega))
theorem Qrz(c:Q02){r:Int}(hr:0≤r∧r<16)(v:Int):Q8p c r v=Q1o c r v:=by
 simp only[Q8p,Q7p,Q1o,Qdt,Tree.m]
 by_cases h:r=0
 · subst h;rfl
 · rw[decide_eq_true (show r>0 by omega),decide_eq_true hr.2,show(r !=0)=true by simpa using h];rfl
theorem div_same{a b:Int}(ha:U a)(hb:U b):Q9b a b=Qb1 a b:=by
  obtain⟨a0,a1⟩:=ha
  obtain⟨b0,b1⟩:=hb
  have i: ∀x,IntKind.wrap .i64 (IntKind.wrap .i32 x)=IntKind.wrap .i32 x:=λx=>by rw[IntKind.wrap_i64,IntKind.wrap_i32];omega
  have r32: ∀x,-2147483648≤IntKind.wrap .i32 x∧IntKind.wrap .i32 x<2147483648:=λx=>by rw[IntKind.wrap_i32];omega
  have q32: ∀x y:Int,-2147483648≤x∧x<2147483648→ -2147483648≤Int.tdiv x y∧Int.tdiv x y≤2147483648:=λx y hx=>by
    have h1:(Int.tdiv x y).natAbs≤x.natAbs:=by rw[Int.natAbs_tdiv];exact Nat.div_le_self _ _
    omega
  simp only[Q9b,Q5b,Qb1,Qa1,Tree.m,i]
  cases hb:b==0
  · have w: ∀z,IntKind.wrap .u32 (IntKind.wrap .i32 z)=IntKind.wrap .u32 z:=λz=>by rw[IntKind.wrap_i32,IntKind.wrap_u32,IntKind.wrap_u32];omega
    have w2:IntKind.wrap .i64 (Int.tdiv (IntKind.wrap .i32 a) (IntKind.wrap .i32 b))=Int.tdiv (IntKind.wrap .i32 a) (IntKind.wrap .i32 b):=by
      have:=q32 _ (IntKind.wrap .i32 b) (r32 a)
      rw[IntKind.wrap_i64];omega
    rw[w,w2]
    cases h1:a==2147483648
    · rfl
    · cases h2:b==4294967295
      · rfl
      · have h1:=eq_of_beq h1
        have h2:=eq_of_beq h2
        subst h1;subst h2
        rfl
  · rfl
theorem alu_same{op a b:Int}(h0:1≤op)(h1:op≤23)(ha:U a)(hb:U b):Q3m op a b=Qbi op a b:=by
 have sub:IntKind.wrap .u32 (a+IntKind.wrap .u32 (0-b))=IntKind.wrap .u32 (a-b):=by
   rw[IntKind.wrap_u32,IntKind.wrap_u32,IntKind.wrap_u32];omega
 have hop:op=1∨op=2∨op=3∨op=4∨op=5∨op=6∨op=7∨op=8∨op=9∨op=10∨op=11∨op=12∨op=13∨op=14∨op=15∨op=16∨op=17∨op=18∨op=19∨op=20∨op=21∨op=22∨op=23:=by omega
 have d:=div_same ha hb
 rcases hop with rfl|rfl|rfl|rfl|rfl|rfl|rfl|rfl|rfl|rfl|rfl|rfl|rfl|rfl|rfl|rfl|rfl|rfl|rfl|rfl|rfl|rfl|rfl
 · rfl
 · show(IntKind.wrap .u32 (a+IntKind.wrap .u32 (0-b)),true)=(IntKind.wrap .u32 (a-b),true)
   rw[sub]
 · rfl
 · rfl
 · rfl
 · rfl
 · rfl
 · rfl
 · rfl
 · show((Q9b a b).1,true)=((Qb1 a b).1,true)
   rw[d]
 · show((Q9b a b).2,true)=((Qb1 a b).2,true)
   rw[d]
 all_goals rfl
theorem Qjh{P:Nat}{m:List Int}(h:Q0u P m){c:Q02}(hc:Q2n c)(hst:c.B4.a0≤31){va:Int}(hv:U va){size:Int}(hs:size=1∨size=4){access:Int}(ha:access=1∨access=2∨access=3):Q1t c m va size access=((Q0w c m va size access).1,(Q0w c m va size access).2.2,(Q0w c m va size access).2.1):=by
 have hcl:Q01 m=m:=rfl
 have kn:Qdr access=true:=by rcases ha with rfl|rfl|rfl<;>rfl
 have ca:Qlx access=(Q1z access,true):=by rcases ha with rfl|rfl|rfl<;>rfl
 have pg:=Qxu hc.a0.1 hst
 have wk:=walk_same h hc.a6 hv ha
 have tc:Q9k m (Q5w m c.B4.a6 va access).E0 access=Qn2 m (Q5w m c.B4.a6 va access).E0 access:=Za5 h (Tree.pp (walk_w h hc.a6 hv access)).2.2.1 access
 have sz:(bif size !=1 then bif size !=4 then false else true else true)=true:=by rcases hs with rfl|rfl<;>rfl
 simp only[Q1t,Q3i,Q0w,Q82,Tree.m,letv,hcl,kn,ca,pg,wk,tc,Qj4 h hv hs,Qza]
 rcases hs with rfl|rfl<;>
 · show(bif _ then _ else _)=_
   cases Int.tmod va _ !=0<;>cases Q8e c<;>cases iand .u32 c.B4.a0 4 !=0<;>cases(Q5w m c.B4.a6 va access).D8 !=0<;>cases Q2 m va _<;>rfl
theorem Qs0{α:Type}{Q:α→Prop}{c:Bool}{x y:α}(hx:Q x)(hy:Q y):Q (cond c x y):=by cases c<;>assumption
theorem walk_al(m:List Int)(root:Int){va:Int}(hv:U va)(access:Int):(Q5w m root va access).D8=0→(Q5w m root va access).Addr%4=va%4:=by
 have hc:Q1z access≠0:=by
   simp only[Q1z,Q92,Tree.m]
   cases access==1<;>cases access==3<;>simp
 have q :(λt:Q12=>t.D8=0→t.Addr%4=va%4) (Q5w m root va access):=by
   simp only[Q5w,Q9g,Tree.m,letv]
   repeat'(first
     |exact λe=>absurd e hc
     | (intro _
        show IntKind.wrap .u32 (IntKind.wrap .u32 (_*128)+Int.tmod va 128)%4=va%4
        rw[Int.tmod_eq_emod_of_nonneg hv.1,IntKind.wrap_u32,IntKind.wrap_u32];omega)
     |refine Qs0 (Q:=λt:Q12=>t.D8=0→t.Addr%4=va%4) ?_ ?_)
 exact q
theorem reach_al{c:Q02}{m:List Int}{va:Int}(hv:U va){size:Int}(hs:size=1∨size=4){access:Int}(ha:access=1∨access=2∨access=3):(Q0w c m va size access).2.1=0→(Q0w c m va size access).1%size=0:=by
  have kn:Qdr access=true:=by rcases ha with rfl|rfl|rfl<;>rfl
  have hc:Q1z access≠0:=by
    simp only[Q1z,Q92,Tree.m]
    cases access==1<;>cases access==3<;>simp
  rcases hs with rfl|rfl
  · intro _;omega
  simp only[Q0w,Q82,Tree.m,letv,kn]
  show(bif Int.tmod va 4 !=0 then((0:Int),(3:Int),m) else _).2.1=0→(bif Int.tmod va 4 !=0 then((0:Int),(3:Int),m) else _).1%4=0
  rw[Int.tmod_eq_emod_of_nonneg hv.1]
  cases hz:va%4 !=0
  · have hz:va%4=0:=by simpa using hz
    have w:=walk_al m c.B4.a6 hv access
    cases hp:Qk2 c
    · cases hw:Q2 m va 4
      · exact λe=>absurd e hc
      · exact λ_=>hz
    · cases hq:(Q5w m c.B4.a6 va access).D8 !=0
      · have hq:(Q5w m c.B4.a6 va access).D8=0:=by simpa using hq
        exact λ_=>(w hq).trans hz
      · have hq: ¬(Q5w m c.B4.a6 va access).D8=0:=by simpa using hq
        exact λe=>absurd e hq
  · intro e;cases e
def eff0:Q0z:={B2:=0,C8:=0,D7:=0,Value:=0}
def Q50(c:Q02)(m:List Int)(i:Q0g):Q02×List Int×Q0z:=
 bif i.Op==32 then((Q5d c m i).1,(Q5d c m i).2,eff0) else bif i.Op==33 then((Q5d c m i).1,(Q5d c m i).2,eff0) else bif i.Op==34 then((Q5d c m i).1,(Q5d c m i).2,eff0)
 else bif i.Op==35 then((Q6y c m i).1,(Q6y c m i).2,eff0) else bif i.Op==36 then((Q6y c m i).1,(Q6y c m i).2,eff0) else((Qhy c i).1,m,(Qhy c i).2)
def regX(c:Q02)(r:Int):Int:=List.getD (A16.l c.X) r.toNat 0
def Qfc(c:Q02)(m:List Int)(i:Q0g):Q02×Q0z×List Int:=
 bif decide (i.Op≥56) then((Qi c i).1,(Qi c i).2,m) else bif decide (i.Op≥40) then(Z1t c i,eff0,m) else bif decide (i.Op≥32) then((Q5e c m i).1,eff0,(Q5e c m i).2)
 else bif i.Op==24 then({X:=(Q1o c i.A (ishl .u32 (IntKind.wrap .u32 i.Imm) 16)).X,Pc:=IntKind.wrap .u32 ((Q1o c i.A (ishl .u32 (IntKind.wrap .u32 i.Imm) 16)).Pc+4),B4:=(Q1o c i.A (ishl .u32 (IntKind.wrap .u32 i.Imm) 16)).B4},eff0,m)
 else bif decide (i.Op≤13) then
   ({X:=(Q1o c i.A (Qbi i.Op (regX c i.B) (regX c i.C)).1).X,Pc:=IntKind.wrap .u32 ((Q1o c i.A (Qbi i.Op (regX c i.B) (regX c i.C)).1).Pc+4),B4:=(Q1o c i.A (Qbi i.Op (regX c i.B) (regX c i.C)).1).B4},eff0,m)
 else({X:=(Q1o c i.A (Qbi i.Op (regX c i.B) (IntKind.wrap .u32 i.Imm)).1).X,Pc:=IntKind.wrap .u32 ((Q1o c i.A (Qbi i.Op (regX c i.B) (IntKind.wrap .u32 i.Imm)).1).Pc+4),B4:=(Q1o c i.A (Qbi i.Op (regX c i.B) (IntKind.wrap .u32 i.Imm)).1).B4},eff0,m)
def isOp(op:Int):Prop:=op=1∨op=2∨op=3∨op=4∨op=5∨op=6∨op=7∨op=8∨op=9∨op=10∨op=11∨op=12∨op=13∨op=16∨op=17∨op=18∨op=19∨op=20∨op=21∨op=22∨op=23∨op=24∨op=32∨op=33∨op=34∨op=35∨op=36∨op=40∨op=41∨op=42∨op=43∨op=44∨op=45∨op=48∨op=49∨op=56∨op=57∨op=58∨op=59∨op=60∨op=61∨op=62∨op=63∨op=64
theorem set_pc(c:Q02)(r v:Int):(Q1o c r v).Pc=c.Pc∧(Q1o c r v).B4=c.B4:=by
 simp only[Q1o,Qdt,Tree.m]
 cases decide (r>0)
 · exact⟨rfl,rfl⟩
 · cases decide (r<16)<;>exact⟨rfl,rfl⟩
def adv(c:Q02):Q02:={X:=c.X,Pc:=IntKind.wrap .u32 (c.Pc+4),B4:=c.B4}
def va(c:Q02)(B Imm:Int):Int:=IntKind.wrap .u32 (List.getD (A16.l c.X) B.toNat 0+IntKind.wrap .u32 Imm)
def ldP(c:Q02)(A v size:Int)(f:Int→Int)(y:Int×List Int×Int):Q02×List Int:=bif y.2.2 !=0 then(Q3w c y.2.2 v,y.2.1) else(adv (Q8p c A (f (Q41 y.2.1 y.1 size).1)),y.2.1)
def ldR(c:Q02)(A v size:Int)(f:Int→Int)(x:Int×Int×List Int):Q02×List Int:=bif x.2.1 !=0 then(Q2u c x.2.1 v,x.2.2) else(adv (Q1o c A (f (Q11 x.2.2 x.1 size).1)),x.2.2)
def stP(c:Q02)(A v size:Int)(y:Int×List Int×Int):Q02×List Int:=bif y.2.2 !=0 then(Q3w c y.2.2 v,y.2.1) else(adv c,(Q86 y.2.1 y.1 size (List.getD (A16.l c.X) A.toNat 0)).1)
def stR(c:Q02)(A v size:Int)(x:Int×Int×List Int):Q02×List Int:=bif x.2.1 !=0 then(Q2u c x.2.1 v,x.2.2) else(adv c,Q97 x.2.2 x.1 size (List.getD (A16.l c.X) A.toNat 0))
theorem ld_eq(c:Q02)(m:List Int)(A B C Imm:Int):
   (Q5d c m ⟨32,A,B,C,Imm⟩=ldP c A (va c B Imm) 4 (λv=>v) (Q1t c m (va c B Imm) 4 2)∧Q5e c m ⟨32,A,B,C,Imm⟩=ldR c A (va c B Imm) 4 (λv=>v) (Q0w c m (va c B Imm) 4 2))∧
   (Q5d c m ⟨33,A,B,C,Imm⟩=ldP c A (va c B Imm) 1 (λv=>Q28 v 8) (Q1t c m (va c B Imm) 1 2)∧Q5e c m ⟨33,A,B,C,Imm⟩=ldR c A (va c B Imm) 1 (λv=>Q3p v 8) (Q0w c m (va c B Imm) 1 2))∧
   (Q5d c m ⟨34,A,B,C,Imm⟩=ldP c A (va c B Imm) 1 (λv=>v) (Q1t c m (va c B Imm) 1 2)∧Q5e c m ⟨34,A,B,C,Imm⟩=ldR c A (va c B Imm) 1 (λv=>v) (Q0w c m (va c B Imm) 1 2))∧
   (Q6y c m ⟨35,A,B,C,Imm⟩=stP c A (va c B Imm) 4 (Q1t c m (va c B Imm) 4 3)∧Q5e c m ⟨35,A,B,C,Imm⟩=stR c A (va c B Imm) 4 (Q0w c m (va c B Imm) 4 3))∧
   (Q6y c m ⟨36,A,B,C,Imm⟩=stP c A (va c B Imm) 1 (Q1t c m (va c B Imm) 1 3)∧Q5e c m ⟨36,A,B,C,Imm⟩=stR c A (va c B Imm) 1 (Q0w c m (va c B Imm) 1 3)):=
 ⟨⟨by kernel_rfl,by kernel_rfl⟩,⟨by kernel_rfl,by kernel_rfl⟩,⟨by kernel_rfl,by kernel_rfl⟩,⟨by kernel_rfl,by kernel_rfl⟩,⟨by kernel_rfl,by kernel_rfl⟩⟩
theorem sx_load{P:Nat}{m:List Int}(h:Q0u P m)(a:Int):Q28 (Q11 m a 1).1 8=Q3p (Q11 m a 1).1 8:=by
 have: ∀x:Int×Bool,(∃w,U w∧x=(iand .u32 w 255,true))∨x=(0,false)→Q28 x.1 8=Q3p x.1 8:=λx hx=>by
   rcases hx with⟨w,hw,rfl⟩|rfl
   · have e:=m255 hw
     exact sx8 (by show 0≤iand .u32 w 255;omega) (by show iand .u32 w 255<256;omega)
   · rfl
 refine this _ ?_
 simp only[Q11,Q45,Tree.m,letv]
 cases Q2 m a 1
 · exact .inr rfl
 · exact .inl ⟨_,Qph (Qgq h.u _) _,rfl⟩
section
variable {P:Nat} {m:List Int} (h:Q0u P m) {c:Q02} (hc:Q2n c) (hst:c.B4.a0≤31)
include h hc hst
omit hst in
theorem Z6v{v:Int}(hv:U v){size:Int}(hs:size=1∨size=4)(access:Int):Q0u P (Q0w c m v size access).2.2∧U (Q0w c m v size access).1∧((Q0w c m v size access).2.1=0→(Q0w c m v size access).1<128*P):=(Tree.pp (Z0d h hc hv hs access)).2
theorem Z6t{A v:Int}(hA:0≤A∧A<16)(hv:U v){size:Int}(hs:size=1∨size=4){f g:Int→Int}(hf: ∀{m':List Int},Q0u P m'→ ∀a,f (Q11 m' a size).1=g (Q11 m' a size).1):ldP c A v size f (Q1t c m v size 2)=ldR c A v size g (Q0w c m v size 2):=by
 rw[Qjh h hc hst hv hs (.inr (.inl rfl))]
 obtain⟨k,u,_⟩:=Z6v h hc hv hs 2
 generalize Q0w c m v size 2=x at*
 simp only[ldP,ldR,Qj4 k u hs,Qj5 hc.a0.1 hst,Qrz c hA,hf k]
theorem st_same{A v:Int}(hv:U v){size:Int}(hs:size=1∨size=4):stP c A v size (Q1t c m v size 3)=stR c A v size (Q0w c m v size 3):=by
 rw[Qjh h hc hst hv hs (.inr (.inr rfl))]
 obtain⟨k,u,b⟩:=Z6v h hc hv hs 3
 have al:=reach_al (c:=c) (m:=m) hv hs (access:=3) (.inr (.inr rfl))
 generalize Q0w c m v size 3=x at*
 simp only[stP,stR,Qx3 k u hs,Qj5 hc.a0.1 hst,Qds k u hs]
 cases hq:x.2.1 !=0
 · have hq:x.2.1=0:=by simpa using hq
   rw[decide_eq_true ⟨al hq,b hq⟩];rfl
 · rfl
end
theorem write_pc(c:Q02)(k v:Int):(Qgb c k v).Pc=c.Pc:=by
 simp only[Qgb,Qc4,Tree.m]
 repeat'(first|rfl|refine Qs0 (Q:=λx:Q02=>x.Pc=c.Pc) ?_ ?_)
def setP(c:Q02)(A v p:Int):Q02:={X:=(Q8p c A v).X,Pc:=p,B4:=(Q8p c A v).B4}
def setR(c:Q02)(A v p:Int):Q02:={X:=(Q1o c A v).X,Pc:=p,B4:=(Q1o c A v).B4}
def nxt(c:Q02):Int:=IntKind.wrap .u32 (c.Pc+4)
theorem Z3w(c:Q02){A:Int}(hA:0≤A∧A<16)(v p:Int):setP c A v p=setR c A v p:=by
 unfold setP setR;rw[Qrz c hA]
theorem Z6g(c:Q02)(A v:Int):adv (Q1o c A v)=setR c A v (nxt c):=by
 unfold adv setR nxt;rw[(set_pc c A v).1]
theorem brc(t:Bool)(x y:Q02)(m:List Int):((bif t then(x,eff0) else(y,eff0)).1,m,(bif t then(x,eff0) else(y,eff0)).2)=((bif t then x else y),m,eff0):=by cases t<;>rfl
def isOpB(op:Int):Bool:=decide (op=1)||decide (op=2)||decide (op=3)||decide (op=4)||decide (op=5)||decide (op=6)||decide (op=7)||decide (op=8)||decide (op=9)||decide (op=10)||decide (op=11)||decide (op=12)||decide (op=13)||decide (op=16)||decide (op=17)||decide (op=18)||decide (op=19)||decide (op=20)||decide (op=21)||decide (op=22)||decide (op=23)||decide (op=24)||decide (op=32)||decide (op=33)||decide (op=34)||decide (op=35)||decide (op=36)||decide (op=40)||decide (op=41)||decide (op=42)||decide (op=43)||decide (op=44)||decide (op=45)||decide (op=48)||decide (op=49)||decide (op=56)||decide (op=57)||decide (op=58)||decide (op=59)||decide (op=60)||decide (op=61)||decide (op=62)||decide (op=63)||decide (op=64)
section
variable {P:Nat} {m:List Int} (h:Q0u P m) {c:Q02} (hc:Q2n c) (hst:c.B4.a0≤31) {A B C Imm:Int} (hA:0≤A∧A<16)
include h hc hst hA
theorem post_same{op:Int}(hop:isOp op):Q50 c m ⟨op,A,B,C,Imm⟩=((Qfc c m ⟨op,A,B,C,Imm⟩).1,(Qfc c m ⟨op,A,B,C,Imm⟩).2.2,(Qfc c m ⟨op,A,B,C,Imm⟩).2.1):=by
 have alu: ∀{k y:Int},1≤k→k≤23→U y→((setP c A (Q3m k (regX c B) y).1 (nxt c),m,eff0):Q02×List Int×Q0z)=(adv (Q1o c A (Qbi k (regX c B) y).1),m,eff0):=λh1 h2 hy=>by
   rw[alu_same h1 h2 (show U (regX c B) from hc.r _) hy,Z6g,Z3w c hA]
 have uC:U (regX c C):=hc.r _
 have uI:U (IntKind.wrap .u32 Imm):=Q0k _
 obtain⟨⟨l1,l2⟩,⟨l3,l4⟩,⟨l5,l6⟩,⟨l7,l8⟩,⟨l9,l10⟩⟩:=ld_eq c m A B C Imm
 have hva:U (va c B Imm):=Q0k _
 rcases hop with rfl|rfl|rfl|rfl|rfl|rfl|rfl|rfl|rfl|rfl|rfl|rfl|rfl|rfl|rfl|rfl|rfl|rfl|rfl|rfl|rfl|rfl|rfl|rfl|rfl|rfl|rfl|rfl|rfl|rfl|rfl|rfl|rfl|rfl|rfl|rfl|rfl|rfl|rfl|rfl|rfl|rfl|rfl|rfl
 · exact(show Q50 c m ⟨1,A,B,C,Imm⟩=(setP c A (Q3m 1 (regX c B) (regX c C)).1 (nxt c),m,eff0) by kernel_rfl).trans ((alu (by decide) (by decide) uC).trans (by kernel_rfl))
 · exact(show Q50 c m ⟨2,A,B,C,Imm⟩=(setP c A (Q3m 2 (regX c B) (regX c C)).1 (nxt c),m,eff0) by kernel_rfl).trans ((alu (by decide) (by decide) uC).trans (by kernel_rfl))
 · exact(show Q50 c m ⟨3,A,B,C,Imm⟩=(setP c A (Q3m 3 (regX c B) (regX c C)).1 (nxt c),m,eff0) by kernel_rfl).trans ((alu (by decide) (by decide) uC).trans (by kernel_rfl))
 · exact(show Q50 c m ⟨4,A,B,C,Imm⟩=(setP c A (Q3m 4 (regX c B) (regX c C)).1 (nxt c),m,eff0) by kernel_rfl).trans ((alu (by decide) (by decide) uC).trans (by kernel_rfl))
 · exact(show Q50 c m ⟨5,A,B,C,Imm⟩=(setP c A (Q3m 5 (regX c B) (regX c C)).1 (nxt c),m,eff0) by kernel_rfl).trans ((alu (by decide) (by decide) uC).trans (by kernel_rfl))
 · exact(show Q50 c m ⟨6,A,B,C,Imm⟩=(setP c A (Q3m 6 (regX c B) (regX c C)).1 (nxt c),m,eff0) by kernel_rfl).trans ((alu (by decide) (by decide) uC).trans (by kernel_rfl))
 · exact(show Q50 c m ⟨7,A,B,C,Imm⟩=(setP c A (Q3m 7 (regX c B) (regX c C)).1 (nxt c),m,eff0) by kernel_rfl).trans ((alu (by decide) (by decide) uC).trans (by kernel_rfl))
 · exact(show Q50 c m ⟨8,A,B,C,Imm⟩=(setP c A (Q3m 8 (regX c B) (regX c C)).1 (nxt c),m,eff0) by kernel_rfl).trans ((alu (by decide) (by decide) uC).trans (by kernel_rfl))
 · exact(show Q50 c m ⟨9,A,B,C,Imm⟩=(setP c A (Q3m 9 (regX c B) (regX c C)).1 (nxt c),m,eff0) by kernel_rfl).trans ((alu (by decide) (by decide) uC).trans (by kernel_rfl))
 · exact(show Q50 c m ⟨10,A,B,C,Imm⟩=(setP c A (Q3m 10 (regX c B) (regX c C)).1 (nxt c),m,eff0) by kernel_rfl).trans ((alu (by decide) (by decide) uC).trans (by kernel_rfl))
 · exact(show Q50 c m ⟨11,A,B,C,Imm⟩=(setP c A (Q3m 11 (regX c B) (regX c C)).1 (nxt c),m,eff0) by kernel_rfl).trans ((alu (by decide) (by decide) uC).trans (by kernel_rfl))
 · exact(show Q50 c m ⟨12,A,B,C,Imm⟩=(setP c A (Q3m 12 (regX c B) (regX c C)).1 (nxt c),m,eff0) by kernel_rfl).trans ((alu (by decide) (by decide) uC).trans (by kernel_rfl))
 · exact(show Q50 c m ⟨13,A,B,C,Imm⟩=(setP c A (Q3m 13 (regX c B) (regX c C)).1 (nxt c),m,eff0) by kernel_rfl).trans ((alu (by decide) (by decide) uC).trans (by kernel_rfl))
 · exact(show Q50 c m ⟨16,A,B,C,Imm⟩=(setP c A (Q3m 16 (regX c B) (IntKind.wrap .u32 Imm)).1 (nxt c),m,eff0) by kernel_rfl).trans ((alu (by decide) (by decide) uI).trans (by kernel_rfl))
 · exact(show Q50 c m ⟨17,A,B,C,Imm⟩=(setP c A (Q3m 17 (regX c B) (IntKind.wrap .u32 Imm)).1 (nxt c),m,eff0) by kernel_rfl).trans ((alu (by decide) (by decide) uI).trans (by kernel_rfl))
 · exact(show Q50 c m ⟨18,A,B,C,Imm⟩=(setP c A (Q3m 18 (regX c B) (IntKind.wrap .u32 Imm)).1 (nxt c),m,eff0) by kernel_rfl).trans ((alu (by decide) (by decide) uI).trans (by kernel_rfl))
 · exact(show Q50 c m ⟨19,A,B,C,Imm⟩=(setP c A (Q3m 19 (regX c B) (IntKind.wrap .u32 Imm)).1 (nxt c),m,eff0) by kernel_rfl).trans ((alu (by decide) (by decide) uI).trans (by kernel_rfl))
 · exact(show Q50 c m ⟨20,A,B,C,Imm⟩=(setP c A (Q3m 20 (regX c B) (IntKind.wrap .u32 Imm)).1 (nxt c),m,eff0) by kernel_rfl).trans ((alu (by decide) (by decide) uI).trans (by kernel_rfl))
 · exact(show Q50 c m ⟨21,A,B,C,Imm⟩=(setP c A (Q3m 21 (regX c B) (IntKind.wrap .u32 Imm)).1 (nxt c),m,eff0) by kernel_rfl).trans ((alu (by decide) (by decide) uI).trans (by kernel_rfl))
 · exact(show Q50 c m ⟨22,A,B,C,Imm⟩=(setP c A (Q3m 22 (regX c B) (IntKind.wrap .u32 Imm)).1 (nxt c),m,eff0) by kernel_rfl).trans ((alu (by decide) (by decide) uI).trans (by kernel_rfl))
 · exact(show Q50 c m ⟨23,A,B,C,Imm⟩=(setP c A (Q3m 23 (regX c B) (IntKind.wrap .u32 Imm)).1 (nxt c),m,eff0) by kernel_rfl).trans ((alu (by decide) (by decide) uI).trans (by kernel_rfl))
 · refine(show Q50 c m ⟨24,A,B,C,Imm⟩=(setP c A (ishl .u32 (IntKind.wrap .u32 Imm) 16) (nxt c),m,eff0) by kernel_rfl).trans ?_
   rw[Z3w c hA,←Z6g];kernel_rfl
 · have e:=Z6t h hc hst hA hva (.inr rfl) (f:=λv=>v) (g:=λv=>v) (λ_ _=>rfl)
   rw[←l1,←l2]at e
   refine(show Q50 c m ⟨32,A,B,C,Imm⟩=((Q5d c m ⟨32,A,B,C,Imm⟩).1,(Q5d c m ⟨32,A,B,C,Imm⟩).2,eff0) by kernel_rfl).trans ?_
   rw[e];kernel_rfl
 · have e:=Z6t h hc hst hA hva (.inl rfl) (f:=λv=>Q28 v 8) (g:=λv=>Q3p v 8) (λhm a=>sx_load hm a)
   rw[←l3,←l4]at e
   refine(show Q50 c m ⟨33,A,B,C,Imm⟩=((Q5d c m ⟨33,A,B,C,Imm⟩).1,(Q5d c m ⟨33,A,B,C,Imm⟩).2,eff0) by kernel_rfl).trans ?_
   rw[e];kernel_rfl
 · have e:=Z6t h hc hst hA hva (.inl rfl) (f:=λv=>v) (g:=λv=>v) (λ_ _=>rfl)
   rw[←l5,←l6]at e
   refine(show Q50 c m ⟨34,A,B,C,Imm⟩=((Q5d c m ⟨34,A,B,C,Imm⟩).1,(Q5d c m ⟨34,A,B,C,Imm⟩).2,eff0) by kernel_rfl).trans ?_
   rw[e];kernel_rfl
 · have e:=st_same h hc hst (A:=A) hva (.inr rfl)
   rw[←l7,←l8]at e
   refine(show Q50 c m ⟨35,A,B,C,Imm⟩=((Q6y c m ⟨35,A,B,C,Imm⟩).1,(Q6y c m ⟨35,A,B,C,Imm⟩).2,eff0) by kernel_rfl).trans ?_
   rw[e];kernel_rfl
 · have e:=st_same h hc hst (A:=A) hva (.inl rfl)
   rw[←l9,←l10]at e
   refine(show Q50 c m ⟨36,A,B,C,Imm⟩=((Q6y c m ⟨36,A,B,C,Imm⟩).1,(Q6y c m ⟨36,A,B,C,Imm⟩).2,eff0) by kernel_rfl).trans ?_
   rw[e];kernel_rfl
 · exact(show Q50 c m ⟨40,A,B,C,Imm⟩=((bif(Q2b 40 (regX c A) (regX c B)) then((⟨c.X,IntKind.wrap .u32 (c.Pc+IntKind.wrap .u32 (4*IntKind.wrap .u32 Imm)),c.B4⟩:Q02),eff0) else(⟨c.X,nxt c,c.B4⟩,eff0)).1,m,(bif(Q2b 40 (regX c A) (regX c B)) then((⟨c.X,IntKind.wrap .u32 (c.Pc+IntKind.wrap .u32 (4*IntKind.wrap .u32 Imm)),c.B4⟩:Q02),eff0) else(⟨c.X,nxt c,c.B4⟩,eff0)).2) by kernel_rfl).trans ((brc (Q2b 40 (regX c A) (regX c B)) ⟨c.X,IntKind.wrap .u32 (c.Pc+IntKind.wrap .u32 (4*IntKind.wrap .u32 Imm)),c.B4⟩ ⟨c.X,nxt c,c.B4⟩ m).trans (by kernel_rfl))
 · exact(show Q50 c m ⟨41,A,B,C,Imm⟩=((bif(Q2b 41 (regX c A) (regX c B)) then((⟨c.X,IntKind.wrap .u32 (c.Pc+IntKind.wrap .u32 (4*IntKind.wrap .u32 Imm)),c.B4⟩:Q02),eff0) else(⟨c.X,nxt c,c.B4⟩,eff0)).1,m,(bif(Q2b 41 (regX c A) (regX c B)) then((⟨c.X,IntKind.wrap .u32 (c.Pc+IntKind.wrap .u32 (4*IntKind.wrap .u32 Imm)),c.B4⟩:Q02),eff0) else(⟨c.X,nxt c,c.B4⟩,eff0)).2) by kernel_rfl).trans ((brc (Q2b 41 (regX c A) (regX c B)) ⟨c.X,IntKind.wrap .u32 (c.Pc+IntKind.wrap .u32 (4*IntKind.wrap .u32 Imm)),c.B4⟩ ⟨c.X,nxt c,c.B4⟩ m).trans (by kernel_rfl))
 · exact(show Q50 c m ⟨42,A,B,C,Imm⟩=((bif(Q2b 42 (regX c A) (regX c B)) then((⟨c.X,IntKind.wrap .u32 (c.Pc+IntKind.wrap .u32 (4*IntKind.wrap .u32 Imm)),c.B4⟩:Q02),eff0) else(⟨c.X,nxt c,c.B4⟩,eff0)).1,m,(bif(Q2b 42 (regX c A) (regX c B)) then((⟨c.X,IntKind.wrap .u32 (c.Pc+IntKind.wrap .u32 (4*IntKind.wrap .u32 Imm)),c.B4⟩:Q02),eff0) else(⟨c.X,nxt c,c.B4⟩,eff0)).2) by kernel_rfl).trans ((brc (Q2b 42 (regX c A) (regX c B)) ⟨c.X,IntKind.wrap .u32 (c.Pc+IntKind.wrap .u32 (4*IntKind.wrap .u32 Imm)),c.B4⟩ ⟨c.X,nxt c,c.B4⟩ m).trans (by kernel_rfl))
 · exact(show Q50 c m ⟨43,A,B,C,Imm⟩=((bif(Q2b 43 (regX c A) (regX c B)) then((⟨c.X,IntKind.wrap .u32 (c.Pc+IntKind.wrap .u32 (4*IntKind.wrap .u32 Imm)),c.B4⟩:Q02),eff0) else(⟨c.X,nxt c,c.B4⟩,eff0)).1,m,(bif(Q2b 43 (regX c A) (regX c B)) then((⟨c.X,IntKind.wrap .u32 (c.Pc+IntKind.wrap .u32 (4*IntKind.wrap .u32 Imm)),c.B4⟩:Q02),eff0) else(⟨c.X,nxt c,c.B4⟩,eff0)).2) by kernel_rfl).trans ((brc (Q2b 43 (regX c A) (regX c B)) ⟨c.X,IntKind.wrap .u32 (c.Pc+IntKind.wrap .u32 (4*IntKind.wrap .u32 Imm)),c.B4⟩ ⟨c.X,nxt c,c.B4⟩ m).trans (by kernel_rfl))
 · exact(show Q50 c m ⟨44,A,B,C,Imm⟩=((bif(Q2b 44 (regX c A) (regX c B)) then((⟨c.X,IntKind.wrap .u32 (c.Pc+IntKind.wrap .u32 (4*IntKind.wrap .u32 Imm)),c.B4⟩:Q02),eff0) else(⟨c.X,nxt c,c.B4⟩,eff0)).1,m,(bif(Q2b 44 (regX c A) (regX c B)) then((⟨c.X,IntKind.wrap .u32 (c.Pc+IntKind.wrap .u32 (4*IntKind.wrap .u32 Imm)),c.B4⟩:Q02),eff0) else(⟨c.X,nxt c,c.B4⟩,eff0)).2) by kernel_rfl).trans ((brc (Q2b 44 (regX c A) (regX c B)) ⟨c.X,IntKind.wrap .u32 (c.Pc+IntKind.wrap .u32 (4*IntKind.wrap .u32 Imm)),c.B4⟩ ⟨c.X,nxt c,c.B4⟩ m).trans (by kernel_rfl))
 · exact(show Q50 c m ⟨45,A,B,C,Imm⟩=((bif(Q2b 45 (regX c A) (regX c B)) then((⟨c.X,IntKind.wrap .u32 (c.Pc+IntKind.wrap .u32 (4*IntKind.wrap .u32 Imm)),c.B4⟩:Q02),eff0) else(⟨c.X,nxt c,c.B4⟩,eff0)).1,m,(bif(Q2b 45 (regX c A) (regX c B)) then((⟨c.X,IntKind.wrap .u32 (c.Pc+IntKind.wrap .u32 (4*IntKind.wrap .u32 Imm)),c.B4⟩:Q02),eff0) else(⟨c.X,nxt c,c.B4⟩,eff0)).2) by kernel_rfl).trans ((brc (Q2b 45 (regX c A) (regX c B)) ⟨c.X,IntKind.wrap .u32 (c.Pc+IntKind.wrap .u32 (4*IntKind.wrap .u32 Imm)),c.B4⟩ ⟨c.X,nxt c,c.B4⟩ m).trans (by kernel_rfl))
 · refine(show Q50 c m ⟨48,A,B,C,Imm⟩=(setP c A (nxt c) (IntKind.wrap .u32 ((Q8p c A (nxt c)).Pc+IntKind.wrap .u32 (4*IntKind.wrap .u32 Imm))),m,eff0) by kernel_rfl).trans ?_
   rw[Z3w c hA,Qrz c hA,(set_pc c A (nxt c)).1];kernel_rfl
 · refine(show Q50 c m ⟨49,A,B,C,Imm⟩=(setP c A (nxt c) (va c B Imm),m,eff0) by kernel_rfl).trans ?_
   rw[Z3w c hA];kernel_rfl
 · refine(show Q50 c m ⟨56,A,B,C,Imm⟩=(Q3w c 7 0,m,eff0) by kernel_rfl).trans ?_
   rw[Qj5 hc.a0.1 hst];kernel_rfl
 · refine(show Q50 c m ⟨57,A,B,C,Imm⟩=(Qba c,m,eff0) by kernel_rfl).trans ?_
   rw[Z73 hc.a0.1 hst];kernel_rfl
 · refine(show Q50 c m ⟨58,A,B,C,Imm⟩=(setP c A (List.getD (A8.l c.B4) Imm.toNat 0) (nxt c),m,eff0) by kernel_rfl).trans ?_
   rw[Z3w c hA,←Z6g];kernel_rfl
 · have e:=write_pc c (IntKind.wrap .i64 Imm) (regX c A)
   refine(show Q50 c m ⟨59,A,B,C,Imm⟩=((⟨(Qgb c (IntKind.wrap .i64 Imm) (regX c A)).X,IntKind.wrap .u32 (c.Pc+4),(Qgb c (IntKind.wrap .i64 Imm) (regX c A)).B4⟩:Q02),m,eff0) by kernel_rfl).trans ?_
   rw[←e];kernel_rfl
 · exact(show Q50 c m ⟨60,A,B,C,Imm⟩=((Qfc c m ⟨60,A,B,C,Imm⟩).1,(Qfc c m ⟨60,A,B,C,Imm⟩).2.2,(Qfc c m ⟨60,A,B,C,Imm⟩).2.1) by kernel_rfl)
 · exact(show Q50 c m ⟨61,A,B,C,Imm⟩=((Qfc c m ⟨61,A,B,C,Imm⟩).1,(Qfc c m ⟨61,A,B,C,Imm⟩).2.2,(Qfc c m ⟨61,A,B,C,Imm⟩).2.1) by kernel_rfl)
 · exact(show Q50 c m ⟨62,A,B,C,Imm⟩=((Qfc c m ⟨62,A,B,C,Imm⟩).1,(Qfc c m ⟨62,A,B,C,Imm⟩).2.2,(Qfc c m ⟨62,A,B,C,Imm⟩).2.1) by kernel_rfl)
 · exact(show Q50 c m ⟨63,A,B,C,Imm⟩=((Qfc c m ⟨63,A,B,C,Imm⟩).1,(Qfc c m ⟨63,A,B,C,Imm⟩).2.2,(Qfc c m ⟨63,A,B,C,Imm⟩).2.1) by kernel_rfl)
 · exact(show Q50 c m ⟨64,A,B,C,Imm⟩=((Qfc c m ⟨64,A,B,C,Imm⟩).1,(Qfc c m ⟨64,A,B,C,Imm⟩).2.2,(Qfc c m ⟨64,A,B,C,Imm⟩).2.1) by kernel_rfl)
end
theorem form_op{op:Int}(h0:0≤op)(h1:op<256)(h:Q23 op≠0):isOp op:=by
 have e:=of_decide_eq_true (Qm8 (λop=>decide (Q23 op=0∨isOpB op=true)) 256 (by kernel_rfl) h0 h1)
 rcases e with e|e
 · exact absurd e h
 · simpa only[isOpB,isOp,Bool.or_eq_true,decide_eq_true_eq,or_assoc] using e
theorem isOp_le{op:Int}(o:isOp op):1≤op∧op≤64:=by
 unfold isOp at o
 rcases o with h|h|h|h|h|h|h|h|h|h|h|h|h|h|h|h|h|h|h|h|h|h|h|h|h|h|h|h|h|h|h|h|h|h|h|h|h|h|h|h|h|h|h|h<;>(rw[h];decide)
theorem decode_op{w:Int}(hw:U w):(Q1r w).2=true→isOp (Q1r w).1.Op:=by
  have s24:ishr .u32 w 24=w/16777216:=by have:=Ql5 (a:=w) 24 (by decide);simpa using this
  obtain⟨w0,w1⟩:=hw
  have eo:IntKind.wrap .i64 (w/16777216)=w/16777216:=w64 (by omega) (by omega)
  have q:(λr:Q0g×Bool=>r.2=true→isOp r.1.Op) (Q1r w):=by
    simp only[Q1r,Q6p,Tree.m,letv,s24,eo]
    cases hf:Q23 (w/16777216)==0
    · have g:isOp (w/16777216):=form_op (by omega) (by omega) (by simpa using hf)
      repeat'(first
        |exact λ_=>g
        |exact λe=>Bool.noConfusion (show false=true from e)
        |refine Qs0 (Q:=λr:Q0g×Bool=>r.2=true→isOp r.1.Op) ?_ ?_)
    · exact λe=>Bool.noConfusion (show false=true from e)
  exact q
section
variable (c:Q02) (m:List Int)
def doR(x:Int×Int×List Int)(w:Int)(d:Q0g×Bool):Q02×Q0z×List Int:=
 bif x.2.1 !=0 then(Q2u c x.2.1 c.Pc,eff0,x.2.2) else bif !d.2 then(Q2u c 1 w,eff0,x.2.2) else bif Q3n d.1.Op then(bif iand .u32 c.B4.a0 1==0 then(Q2u c 2 w,eff0,x.2.2) else Qfc c x.2.2 d.1) else Qfc c x.2.2 d.1
def doP(y:Int×List Int×Int)(d:Q0g×Bool):Q02×List Int×Q0z:=
 bif y.2.2 !=0 then(Q3w c y.2.2 c.Pc,y.2.1,eff0) else bif !d.2 then(Q3w c 1 y.1,y.2.1,eff0) else bif Q79 d.1.Op then(bif !Q8e c then(Q3w c 2 y.1,y.2.1,eff0) else Q50 c y.2.1 d.1) else Q50 c y.2.1 d.1
theorem do_eq:Qay c m=doR c (Q0w c m c.Pc 4 1) (Q11 (Q0w c m c.Pc 4 1).2.2 (Q0w c m c.Pc 4 1).1 4).1 (Q1r (Q11 (Q0w c m c.Pc 4 1).2.2 (Q0w c m c.Pc 4 1).1 4).1):=by kernel_rfl
theorem exec_eq:Q4a c m=doP c (Qjk c m) (Qdv (Qjk c m).1):=by kernel_rfl
theorem fetch_eq:Qjk c m=bif(Q1t c m c.Pc 4 1).2.2 !=0 then(0,(Q1t c m c.Pc 4 1).2.1,(Q1t c m c.Pc 4 1).2.2) else((Q41 (Q1t c m c.Pc 4 1).2.1 (Q1t c m c.Pc 4 1).1 4).1,(Q1t c m c.Pc 4 1).2.1,0):=by kernel_rfl
end
theorem Z3x{P:Nat}{m:List Int}(h:Q0u P m){c:Q02}(hc:Q2n c)(hst:c.B4.a0≤31):Q4a c m=((Qay c m).1,(Qay c m).2.2,(Qay c m).2.1):=by
  obtain⟨k,u,b⟩:=Z6v h hc hc.pc (.inr rfl) 1
  have tr: ∀k b,Q3w c k b=Q2u c k b:=Qj5 hc.a0.1 hst
  rw[exec_eq,do_eq,fetch_eq,Qjh h hc hst hc.pc (.inr rfl) (.inl rfl)]
  generalize Q0w c m c.Pc 4 1=x at*
  cases hx:x.2.1 !=0
  · rw [Qj4 k u (.inr rfl)]
    have hw:U (Q11 x.2.2 x.1 4).1:=(Tree.pp (Z7b k u (.inr rfl))).2
    generalize(Q11 x.2.2 x.1 4).1=w at*
    show doP c (w,x.2.2,0) (Qdv w)=_
    rw[decode_eq hw]
    have o:=decode_op hw
    have i:=Tree.post _ (Z7r w)
    change(Q1r w).2=true→Qcg (Q1r w).1 at i
    generalize Q1r w=d at*
    obtain⟨⟨op,A,B,C,Imm⟩,ok⟩:=d
    cases ok
    · simp only[doP,doR,hx,tr];rfl
    · have o:isOp op:=o rfl
      have i:=i rfl
      have p:=post_same (C:=C) (B:=B) (Imm:=Imm) k hc hst i.a o
      have pv:Q79 op=Q3n op:=priv_eq (by have:=isOp_le o;omega) (by have:=isOp_le o;omega)
      have kn:(!Q8e c)=(iand .u32 c.B4.a0 1==0):=by
        show(!(!(iand .u32 c.B4.a0 1==0)))=_
        exact Bool.not_not _
      simp only[doP,doR,hx,tr,pv,kn,p]
      cases Q3n op
      · rfl
      · cases iand .u32 c.B4.a0 1==0<;>rfl
  · simp only[doP,doR,hx,cond_true,tr]
theorem ge_not{a b:Int}:decide (a≥b)=!decide (a<b):=by
 by_cases h:a<b
 · rw[decide_eq_true h,decide_eq_false (by omega)];rfl
 · rw[decide_eq_false h,decide_eq_true (by omega)];rfl
def bits(g:Int)(l:List Nat)(s:Int):Int:=l.foldl (λ(a:Int) (i:Nat)=>IntKind.wrap .i64 (a+IntKind.wrap .i64 (iand .u32 (ishr .u32 g (i:Int)) 1))) s
theorem given_eq(b:Q07):Qdw b=bits b.C0 [0,1,2,3,4,5,6,7,8,9,10,11,12,13,14,15,16,17,18,19,20,21,22,23,24,25,26,27,28,29,30,31] 0:=by kernel_rfl
theorem bit_eq{g:Int}(hg:U g){i:Nat}(hi:i≤32):IntKind.wrap .i64 (iand .u32 (ishr .u32 g (i:Int)) 1)=g/2^i%2:=by
 rw[and1 (Qph hg _),Ql5 i hi]
 have:0≤g/2^i%2∧g/2^i%2<2:=by omega
 exact w64 (by omega) (by omega)
theorem bits_sum{g:Int}(hg:U g)(l:List Nat): ∀s:Int,(∀i∈l,i≤32)→0≤s→s+l.length≤1000→bits g l s=s+(l.map λi=>g/2^i%2).sum:=by
 induction l with
 |nil=>intro s _ _ _;simp [bits]
 | cons i l ih=>
   intro s hl h0 h1
   have h1:s+(l.length+1)≤1000:=by simpa using h1
   have hb:0≤g/2^i%2∧g/2^i%2<2:=by omega
   have e:bits g (i::l) s=bits g l (s+g/2^i%2):=by
     show bits g l (IntKind.wrap .i64 (s+IntKind.wrap .i64 (iand .u32 (ishr .u32 g (i:Int)) 1)))=_
     rw[bit_eq hg (hl i (by simp)),w64 (by omega) (by omega)]
   rw[e,ih _ (λj hj=>hl j (by simp [hj])) (by omega) (by omega)]
   simp;omega
theorem Za3(n:Q0n)(port:Int):Qtv n port=Qkd n port:=by
 simp only[Qtv,Qmi,Qkd,Qfm,Tree.m]
 cases n.C4<;>cases n.B7<;>rfl
theorem Qvm(t:Q0i):Q4w t=Qd1 t:=by
 simp only[Q4w,Qhv,Qd1,Qjn,Tree.m]
 cases t.D5<;>cases t.D4<;>rfl
theorem Z3y(n:Q0n)(p:Int):Q5x n p=Qhj n p:=by
 simp only[Q5x,Qge,Qhj,Qmy,Tree.m]
 cases n.C4<;>cases n.B7<;>rfl
theorem Qyu(d:Q0a)(p:Int):Q18 d p=Qfk d p:=by
  simp only[Q18,Q59,Q7n,Q6,Qfk,Qky,Tree.m,letv,ge_not]
  cases decide (d.Blocks>64)
  · by_cases s:d.B8=0∨d.B8=1∨d.B8=2∨d.B8=3
    · rcases s with s|s|s|s<;>rw[s]
      · rfl
      · by_cases c1:d.D6=1
        · rw[c1];cases decide (d.B5<d.Blocks)<;>cases decide (IntKind.wrap .i64 d.A9<p)<;>cases decide (d.C1=[])<;>rfl
        · by_cases c2:d.D6=2
          · rw[c2];cases decide (d.B5<d.Blocks)<;>cases decide (IntKind.wrap .i64 d.A9<p)<;>cases(d.C1.length:Int)==128<;>rfl
          · rw[show(d.D6==1)=false by simpa using c1,show(d.D6==2)=false by simpa using c2]
            cases decide (d.B5<d.Blocks)<;>cases decide (IntKind.wrap .i64 d.A9<p)<;>rfl
      · rfl
      · rfl
    · rw[show(d.B8==0)=false by simp;omega,show(d.B8==1)=false by simp;omega,show(d.B8==2)=false by simp;omega,show(d.B8==3)=false by simp;omega]
      by_cases n:d.B8<0
      · rw[decide_eq_true n];rfl
      · rw[decide_eq_false n,decide_eq_true (show d.B8>3 by omega)];rfl
  · rfl
theorem con_same(c:Q0b):Q7w c=Q6h c:=by
 show(!decide (c.C9=[]))=decide ((c.C9.length:Int)>0)
 cases c.C9 with
 |nil=>rfl
 |cons a l=>rw[decide_eq_false (by simp),decide_eq_true (by simp)];rfl
theorem len_nil(k:List UInt8):decide (k=[])=((k.length:Int)==0):=by
 cases k with
 |nil=>rfl
 | cons a l=>
   rw[decide_eq_false (by simp)]
   exact(beq_eq_false_iff_ne.2 (by simp;omega)).symm
theorem Za2(c:Q0b)(port:Int):Qkg c port=Q78 c port:=by
 simp only[Qkg,Q83,Q78,Q7,Tree.m,len_nil]
 cases port==0
 · rfl
 · cases(c.C9.length:Int)==0<;>rfl
theorem arm_same(t:Q0i)(v:Int):Qgt t v=Z0e v:=by
 simp only[Qgt,Qhk,Z0e,Qxj,Tree.m]
 cases h:v==0
 · rw[show(v !=0)=true by simp only[bne,h];rfl];rfl
 · rw[show(v !=0)=false by simp only[bne,h];rfl,eq_of_beq h];rfl
section
variable {P:Nat} {m:List Int} (h:Q0u P m)
include h
theorem Qx5(f:Int):Q7r m f=Q22 m f:=by
 have a:=Q38 h
 have b:=Qbl h
 simp only[Q7r,Qa9,Q22,Qh4,Tree.m,letv,a,b]
theorem Qy2(f:Int):Q89 m f=Q22 m f:=by
 have a:=Q38 h
 have b:=Qbl h
 simp only[Q89,Qc5,Q22,Qh4,Tree.m,letv,a,b]
theorem Z2(d:Q0a)(port:Int)(v:Int)(at0:Int):Qrv d m port v at0=Qjc d m port v at0:=by
  have pg:=Qx5 h
  have pa:=Z4p h
  have rq: ∀d a,Qfl d a=Qjj d a:=λ_ _=>rfl
  simp only[Qrv,Q9m,Qpd,Q67,Qjc,Q90,Tree.m,letv,pg,pa,rq]
  cases port==4
  · cases port==5
    · cases h6:port==6
      · rw[show(port !=6)=true by simp only[bne,h6];rfl];rfl
      · rw [show(port !=6)=false by simp only[bne,h6];rfl]
        by_cases v1:v=1
        · subst v1
          cases hs:d.B8==0
          · rw[show(d.B8 !=0)=true by simp only[bne,hs];rfl];rfl
          · rw[show(d.B8 !=0)=false by simp only[bne,hs];rfl];rfl
        · by_cases v2:v=2
          · subst v2
            cases hs:d.B8==0
            · rw[show(d.B8 !=0)=true by simp only[bne,hs];rfl];rfl
            · rw[show(d.B8 !=0)=false by simp only[bne,hs];rfl];rfl
          · rw[show(v==1)=false by simpa using v1,show(v==2)=false by simpa using v2]
            cases v==0
            · rfl
            · have:Q8 d=(bif d.B8==2 then true else d.B8==3):=rfl
              rw[this]
              cases d.B8==2<;>cases d.B8==3<;>rfl
    · rfl
  · rfl
theorem Z63(n:Q0n)(port:Int)(v:Int)(at0:Int):Z16 n m port v at0=Qls n m port v at0:=by
  have pg:=Qy2 h
  have pa:=Z4p h
  simp only[Z16,Qcc,Qzk,Q9n,Qls,Qaf,Tree.m,letv,pg,pa]
  have g1:decide (n.D9≥1)=!decide (n.D9<1):=ge_not
  have g2:decide (n.D9≤128)=!decide (n.D9>128):=by
    by_cases h:n.D9>128
    · rw[decide_eq_true h,decide_eq_false (by omega)];rfl
    · rw[decide_eq_false h,decide_eq_true (by omega)];rfl
  rw[g1,g2]
  cases port==7
  · cases port==8
    · cases h9:port==9
      · rw[show(port !=9)=true by simp only[bne,h9];rfl];rfl
      · rw [show(port !=9)=false by simp only[bne,h9];rfl]
        by_cases v1:v=1
        · subst v1
          cases decide (n.D9<1)<;>cases decide (n.D9>128)<;>cases Q22 m n.B0<;>rfl
        · by_cases v2:v=2
          · subst v2;rfl
          · rw[show(v==1)=false by simpa using v1,show(v==2)=false by simpa using v2]
            cases v==0<;>rfl
    · rfl
  · rfl
theorem Qz6{d:Q0a}(hd:Q7h d)(e:Q0p):Qdl d m e=((Qes d m e).1,(Qes d m e).2.2,(Qes d m e).2.1):=by
  have hcl:Q01 m=m:=rfl
  have pg:=Qx5 h d.A9
  have lp:decide ((e.C3.length:Int)>0)=!decide (e.C3=[]):=by
    cases e.C3 with
    |nil=>rfl
    |cons a l=>rw[decide_eq_true (by simp),decide_eq_false (by simp)];rfl
  have bad:(e.C3.length:Int)≠128→Q22 m d.A9=true→Q2p m (IntKind.wrap .i64 d.A9) e.C3=(m,false):=λhl hp=>by
    rw[Qh9 h hd.opFrame]at hp
    have hp:=of_decide_eq_true hp
    have h1:=hd.opFrame.1
    have h3:=h.p2
    have ew:IntKind.i64.wrap d.A9=d.A9:=w64 (by omega) (by omega)
    simp only[Q2p,Q2a,Tree.m,letv,hcl,ew,Z0r h,decide_eq_true (⟨h1,hp⟩:0≤d.A9∧d.A9<P),show((e.C3.length:Int) !=128)=true by simpa using hl]
    rfl
  have good:(e.C3.length:Int)=128→Q22 m d.A9=true→Q2p m (IntKind.wrap .i64 d.A9) e.C3=(Qjq m (IntKind.wrap .i64 d.A9) e.C3,true):=λhl hp=>by
    rw[Qh9 h hd.opFrame]at hp
    have hp:=of_decide_eq_true hp
    have h1:=hd.opFrame.1
    have h3:=h.p2
    have ew:IntKind.i64.wrap d.A9=d.A9:=w64 (by omega) (by omega)
    rw[ew];exact Z40 h h1 hp (by omega)
  simp only[Qdl,Q3k,Qes,Qa2,Tree.m,letv,hcl,pg,lp]
  cases d.B8 !=1
  · cases e.B2 !=4
    · cases decide (e.N>1)
      · cases e.N==1
        · cases decide (e.C3=[])<;>rfl
        · cases hc:d.D6==1
          · cases decide (e.C3=[])<;>rfl
          · by_cases hl:(e.C3.length:Int)=128
            · rw[show((e.C3.length:Int) !=128)=false by simpa using hl]
              cases hp:Q22 m d.A9
              · rfl
              · rw[good hl hp];rfl
            · rw[show((e.C3.length:Int) !=128)=true by simpa using hl]
              cases hp:Q22 m d.A9
              · rfl
              · rw[bad hl hp];rfl
      · rfl
    · rfl
  · rfl
theorem Z46{n:Q0n}(hn:Qfd n)(frame:List UInt8):Qhg n m frame=((Qf4 n m frame).1,(Qf4 n m frame).2.2,(Qf4 n m frame).2.1):=by
  have hcl:Q01 m=m:=rfl
  have pg:=Qy2 h n.B9
  simp only[Qhg,Q5f,Qf4,Qa4,Tree.m,letv,hcl,pg]
  cases !n.C4
  · cases decide ((frame.length:Int)<1)
    · cases hf:decide ((frame.length:Int)>128)
      · cases hp:Q22 m n.B9
        · rfl
        · rw[Qh9 h hn.buffer]at hp
          have hp:=of_decide_eq_true hp
          have h1:=hn.buffer.1
          have h3:=h.p2
          have ew:IntKind.i64.wrap n.B9=n.B9:=w64 (by omega) (by omega)
          have hf:=of_decide_eq_false hf
          obtain⟨b1,b2⟩:=(Tree.pp (mpage_b h h1 hp)).2
          change isPg m n.B9 (Q4u m n.B9).1 at b1
          have tk:List.take (Int.toNat ((Q4u m n.B9).1.length:Int)-Int.toNat (frame.length:Int)) (List.drop (Int.toNat (frame.length:Int)) (Q4u m n.B9).1)=(Q4u m n.B9).1.drop frame.length:=by
            rw[Int.toNat_natCast,Int.toNat_natCast]
            exact List.take_of_length_le (by simp)
          rw[ew,tk,Z3h h h1 hp (by omega) b1]
          rfl
      · rfl
    · rfl
  · rfl
end
def ptab:List UInt8:=(List.range 256).map λn=>UInt8.ofNat (n%2+n/2%2+n/4%2+n/8%2+n/16%2+n/32%2+n/64%2+n/128%2)
def pt(n:Int):Int:=((UInt8.toNat (ptab.getD n.toNat 0):Nat):Int)
theorem pop_form(x:Int):Q5a x=IntKind.wrap .i64 (IntKind.wrap .u8 (IntKind.wrap .u8 (IntKind.wrap .u8 (pt (ishr .u32 x 24)+pt (iand .u32 (ishr .u32 x 16) 255))+pt (iand .u32 (ishr .u32 x 8) 255))+pt (iand .u32 x 255))):=by kernel_rfl
theorem pt8{a:Int}(h0:0≤a)(h1:a<256):pt a=a%2+a/2%2+a/4%2+a/8%2+a/16%2+a/32%2+a/64%2+a/128%2:=
 eq_of_beq (Qm8 (λa=>pt a==a%2+a/2%2+a/4%2+a/8%2+a/16%2+a/32%2+a/64%2+a/128%2) 256 (by kernel_rfl) h0 h1)
theorem given_sum{g:Int}(hg:U g):bits g [0,1,2,3,4,5,6,7,8,9,10,11,12,13,14,15,16,17,18,19,20,21,22,23,24,25,26,27,28,29,30,31] 0=pt (g%256)+pt (g/256%256)+pt (g/65536%256)+pt (g/16777216):=by
 rw[bits_sum hg _ 0 (by decide) (by decide) (by decide),pt8 (by omega) (by omega),pt8 (by omega) (by omega),pt8 (by omega) (by omega),pt8 (by have:=hg.1;omega) (by have:=hg.2;omega)]
 obtain⟨g0,g1⟩:=hg
 simp only[List.map_cons,List.map_nil,List.sum_cons,List.sum_nil]
 have e: ∀i j:Nat,∀k:Int,i<8→k=2^j→g/2^(i+j)%2=(g/k%256)/2^i%2:=λi j k hi hk=>by
   subst hk
   rw[Nat.add_comm,Int.pow_add,←Int.ediv_ediv_of_nonneg (Int.le_of_lt (Int.pow_pos (by decide)))]
   generalize g/2^j=x
   have:i=0∨i=1∨i=2∨i=3∨i=4∨i=5∨i=6∨i=7:=by omega
   rcases this with rfl|rfl|rfl|rfl|rfl|rfl|rfl|rfl<;>simp<;>omega
 have e0: ∀i:Nat,i<8→g/2^i%2=(g%256)/2^i%2:=λi hi=>by have:=e i 0 1 hi rfl;simpa using this
 have e24:g/16777216%256=g/16777216:=by omega
 rw[e0 0 (by decide),e0 1 (by decide),e0 2 (by decide),e0 3 (by decide),e0 4 (by decide),e0 5 (by decide),e0 6 (by decide),e0 7 (by decide)]
 rw[e 0 8 256 (by decide) (by decide),e 1 8 256 (by decide) (by decide),e 2 8 256 (by decide) (by decide),e 3 8 256 (by decide) (by decide),e 4 8 256 (by decide) (by decide),e 5 8 256 (by decide) (by decide),e 6 8 256 (by decide) (by decide),e 7 8 256 (by decide) (by decide)]
 rw[e 0 16 65536 (by decide) (by decide),e 1 16 65536 (by decide) (by decide),e 2 16 65536 (by decide) (by decide),e 3 16 65536 (by decide) (by decide),e 4 16 65536 (by decide) (by decide),e 5 16 65536 (by decide) (by decide),e 6 16 65536 (by decide) (by decide),e 7 16 65536 (by decide) (by decide)]
 rw[e 0 24 16777216 (by decide) (by decide),e 1 24 16777216 (by decide) (by decide),e 2 24 16777216 (by decide) (by decide),e 3 24 16777216 (by decide) (by decide),e 4 24 16777216 (by decide) (by decide),e 5 24 16777216 (by decide) (by decide),e 6 24 16777216 (by decide) (by decide),e 7 24 16777216 (by decide) (by decide),e24]
 generalize g%256=a
 generalize g/256%256=b
 generalize g/65536%256=c
 generalize g/16777216=d
 simp only[show(2:Int)^0=1 from rfl,show(2:Int)^1=2 from rfl,show(2:Int)^2=4 from rfl,show(2:Int)^3=8 from rfl,show(2:Int)^4=16 from rfl,show(2:Int)^5=32 from rfl,show(2:Int)^6=64 from rfl,show(2:Int)^7=128 from rfl,Int.ediv_one]
 omega
theorem pt_le{a:Int}(h0:0≤a)(h1:a<256):0≤pt a∧pt a≤8:=by rw[pt8 h0 h1];omega
theorem Qy8{b:Q07}(hg:U b.C0):Qa6 b=Qdw b∧0≤Qdw b∧Qdw b≤32:=by
 obtain⟨s8,s16,s24⟩:=shr_c b.C0
 have u8:U (ishr .u32 b.C0 8):=Qph hg _
 have u16:U (ishr .u32 b.C0 16):=Qph hg _
 have e:Qa6 b=Q5a b.C0:=rfl
 rw[e,pop_form,given_eq,given_sum hg,m255 u8,m255 u16,m255 hg,s8,s16,s24]
 obtain⟨g0,g1⟩:=hg
 have p0:=pt_le (a:=b.C0%256) (by omega) (by omega)
 have p1:=pt_le (a:=b.C0/256%256) (by omega) (by omega)
 have p2:=pt_le (a:=b.C0/65536%256) (by omega) (by omega)
 have p3:=pt_le (a:=b.C0/16777216) (by omega) (by omega)
 have w8: ∀x,IntKind.wrap .u8 x=x%256:=λx=>IntKind.wrap_u8 x
 rw[w8,w8,w8,IntKind.wrap_i64]
 omega
theorem Z4a{b:Q07}(h:okB b):Q60 b=Q4x b:=by
 obtain⟨e,l0,l1⟩:=Qy8 h.2
 obtain⟨t0,t1⟩:=h.1
 simp only[Q60,Q2x,Q4x,Qbr,Tree.m,letv,e]
 rw[IntKind.wrap_u32,IntKind.wrap_u64,IntKind.wrap_u64,Int.emod_eq_of_lt l0 (by omega),Int.emod_eq_of_lt l0 (by omega),Int.emod_eq_of_lt t0 (by omega)]
theorem Z9e{b:Q07}(h:okB b)(port:Int):Qjx b port=Q7b b port:=by
 simp only[Qjx,Q6b,Q7b,Q6z,Tree.m,letv,(Qy8 h.2).1]
theorem bit_pow(g:Int)(z:Nat):g%2^(z+1)=g%2^z+2^z*(g/2^z%2):=by
 have hp:(0:Int)<2^z:=Int.pow_pos (by decide)
 have h1:=Int.mul_ediv_add_emod g (2^z)
 have h2:=Int.mul_ediv_add_emod (g/2^z) 2
 have h3:(g/2^z)/2=g/2^(z+1):=by rw[Int.pow_succ,Int.ediv_ediv_of_nonneg (Int.le_of_lt hp)]
 have h4:=Int.mul_ediv_add_emod g (2^(z+1))
 rw[h3]at h2
 have h5:(2:Int)^(z+1)*(g/2^(z+1))=2^z*(2*(g/2^(z+1))):=by rw[Int.pow_succ,Int.mul_assoc]
 have h6:(2:Int)^z*(g/2^z)=2^z*(2*(g/2^(z+1)))+2^z*(g/2^z%2):=by rw[←Int.mul_add,h2]
 omega
theorem rbal_w{b:Q07}(hg:U b.C0){P:Nat}(hP:P≤32):(Qar b P).w (λr=>r=decide (b.C0<2^P)):=by
 unfold Qar
 have fin: ∀v:Int,0≤v→v≤32→IntKind.wrap .u64 v=(v.toNat:Int):=λv h0 h1=>by rw[IntKind.wrap_u64];omega
 refine w_lp (inv:=λz:Int=>0≤z∧z≤32∧b.C0%2^z.toNat<2^P) (μ:=Qck b P) ⟨by decide,by decide,by have:(0:Int)<2^P:=Int.pow_pos (by decide);simpa using this⟩ (Nat.lt_succ_self _) λz ⟨z0,z1,z2⟩=> ?_
 refine w_br (λhb=> ?_) (λhb=> ?_)
 · have hb:=of_decide_eq_true hb
   have ew:IntKind.i64.wrap (z+1)=z+1:=w64 (by omega) (by omega)
   have bt:iand .u32 (ishr .u32 b.C0 (IntKind.wrap .u64 z)) 1=b.C0/2^z.toNat%2:=by
     rw[fin z z0 z1,and1 (Qph hg _),Ql5 _ (by omega)]
   have bp:=bit_pow b.C0 z.toNat
   have zt:(z+1).toNat=z.toNat+1:=by omega
   refine w_cn (decide_eq_true (by rw[IntKind.wrap_u64];omega)) ?_
   rw[bt]
   refine w_br (λe=>w_br (λhp=> ?_) (λhp=>w_nx ?_)) (λe=>w_nx ?_)
   · have e:=eq_of_beq e
     have hp:=of_decide_eq_true hp
     show false=_
     refine(decide_eq_false λhlt=> ?_).symm
     have hle:(2:Int)^P≤2^z.toNat:=by exact_mod_cast Nat.pow_le_pow_right (show 0<2 by decide) (show P≤z.toNat by omega)
     have:b.C0/2^z.toNat=0:=Int.ediv_eq_zero_of_lt hg.1 (by omega)
     rw[this]at e;cases e
   · have e:=eq_of_beq e
     have hp:=of_decide_eq_false hp
     show(0≤IntKind.i64.wrap (z+1)∧IntKind.i64.wrap (z+1)≤32∧b.C0%2^(IntKind.i64.wrap (z+1)).toNat<2^P)∧(32-IntKind.i64.wrap (z+1)).toNat<(32-z).toNat
     rw[ew,zt]
     have hle:(2:Int)^(z.toNat+1)≤2^P:=by exact_mod_cast Nat.pow_le_pow_right (show 0<2 by decide) (show z.toNat+1≤P by omega)
     have:=Int.emod_lt_of_pos b.C0 (show(0:Int)<2^(z.toNat+1) from Int.pow_pos (by decide))
     exact⟨⟨by omega,by omega,by omega⟩,by omega⟩
   · have e: ¬b.C0/2^z.toNat%2=1:=by simpa using e
     have e:b.C0/2^z.toNat%2=0:=by omega
     rw[e]at bp
     show(0≤IntKind.i64.wrap (z+1)∧IntKind.i64.wrap (z+1)≤32∧b.C0%2^(IntKind.i64.wrap (z+1)).toNat<2^P)∧(32-IntKind.i64.wrap (z+1)).toNat<(32-z).toNat
     rw[ew,zt,bp]
     exact⟨⟨by omega,by omega,by omega⟩,by omega⟩
 · have hb:=of_decide_eq_false hb
   have:z=32:=by omega
   subst this
   show true=_
   refine(decide_eq_true ?_).symm
   have h2:b.C0%2^(32:Int).toNat=b.C0:=Int.emod_eq_of_lt hg.1 hg.2
   rwa [h2]at z2
theorem Z4z{b:Q07}(hg:U b.C0){P:Nat}(hP:P≤32):Q2z b P=Q9v b P:=by
 have r:=(Tree.pp (rbal_w hg hP)).2
 change Q9v b P=_ at r
 rw[r,Bool.eq_iff_iff,Qu6 hg,decide_eq_true_eq]
theorem zeros:strings_Repeat [(0:UInt8)] 128=List.replicate 128 0:=by kernel_rfl
theorem give_b{P:Nat}{m:List Int}(hm:Q0u P m){b:Q07}{port:Int}{v:Int}(hv:U v)(hp:v<P)(h10:port=10)(hb:(iand .u32 (ishr .u32 b.C0 v) 1==0)=true):(Q4v b m port v).w (λr=>r.1={C6:=b.C6,C0:=ior .u32 b.C0 (ishl .u32 1 v)}∧Q0u P r.2∧ ∀k:Nat,byt r.2 k=if v*128≤k∧(k:Int)<v*128+128 then 0 else byt m k):=by
 have hv0:decide (0≤v)=true:=decide_eq_true hv.1
 have h2:=hm.p2
 have pg:Q22 m v=true:=by rw[Qh9 hm hv];exact decide_eq_true hp
 obtain⟨v1,v2⟩:=hv
 subst h10
 unfold Q4v
 refine w_br (λ_=>w_lv λx0 hx=>w_br (λ_=>w_cn hv0 (w_br (λ_=>w_cn hv0 ?_) (λh=>by rw[hb]at h;cases h))) (λh=>by rw[hx,pg]at h;cases h)) (λh=>by cases h)
 refine w_lp (inv:=λz=>0≤z.1∧z.1≤32∧Q0u P z.2∧ ∀k:Nat,byt z.2 k=if v*128≤k∧(k:Int)<v*128+4*z.1 then 0 else byt m k) (μ:=Qf2 b m 10 v) ⟨show(0:Int)≤0 by decide,show(0:Int)≤32 by decide,hm,λk=>by rw[if_neg];show¬(_∧_<_+4*(0:Int));omega⟩ (Nat.lt_succ_self _) (λz hz=> ?_)
 obtain⟨z1,z2,z3,z4⟩:=hz
 have hl:=z3.len
 refine w_br (λh=> ?_) (λh=>⟨rfl,z3,λk=> ?_⟩)
 · have h:=of_decide_eq_true h
   have e:IntKind.wrap IntKind.i64 (IntKind.wrap IntKind.i64 (IntKind.wrap IntKind.i64 v*32)+z.1)=v*32+z.1:=by rw[IntKind.wrap_i64,IntKind.wrap_i64,IntKind.wrap_i64];omega
   refine w_cn (by rw[e];simp [Nat.blt];omega) (w_nx ?_)
   have ew:IntKind.i64.wrap (z.1+1)=z.1+1:=by rw[IntKind.wrap_i64];omega
   show(0≤IntKind.i64.wrap (z.1+1)∧IntKind.i64.wrap (z.1+1)≤32∧Q0u P (List.set _ _ _)∧ ∀k:Nat,byt (List.set z.2 (Int.toNat (IntKind.wrap IntKind.i64 (IntKind.wrap IntKind.i64 (IntKind.wrap IntKind.i64 v*32)+z.1))) 0) k=if v*128≤(k:Int)∧(k:Int)<v*128+4*IntKind.i64.wrap (z.1+1) then 0 else _)∧(32-IntKind.i64.wrap (z.1+1)).toNat<(32-z.1).toNat
   rw[ew,e]
   refine⟨⟨by omega,by omega,⟨by simp [hl],z3.p1,z3.p2,Qvh z3.u U_0 _⟩,λk=> ?_⟩,by omega⟩
   rw[Z5p (by omega)]
   by_cases hc:k/4=(v*32+z.1).toNat
   · rw[if_pos hc,if_pos (by omega)]
     have:k%4=0∨k%4=1∨k%4=2∨k%4=3:=by omega
     rcases this with h|h|h|h<;>rw[h]<;>rfl
   · rw[if_neg hc,z4 k]
     by_cases hd:v*128≤(k:Int)∧(k:Int)<v*128+4*z.1
     · rw[if_pos hd,if_pos (by omega)]
     · rw[if_neg hd,if_neg (by omega)]
 · have h:=of_decide_eq_false h
   show byt z.2 k=_
   rw[z4 k,show z.1=32 by omega];rfl
theorem bitv{g v:Int}(hg:U g)(v0:0≤v)(v1:v<32):(iand .u32 g (ishl .u32 1 v)==0)=(iand .u32 (ishr .u32 g v) 1==0):=by
 obtain⟨z,rfl⟩: ∃z:Nat,v=z:=⟨v.toNat,by omega⟩
 obtain⟨n,rfl⟩: ∃n:Nat,g=n:=⟨g.toNat,by have:=hg.1;omega⟩
 have hz:z<32:=by omega
 have hlt:(2:Nat)^z<4294967296:=by have:=Nat.pow_lt_pow_right (show 1<2 by omega) hz;simpa using this
 rw[and1 (Qph hg _),Ql5 z (by omega),shl_one v0 v1,Int.toNat_natCast]
 have hc:((2:Int)^z)=((2^z:Nat):Int):=by simp
 generalize hq:2^z=q at*
 rw[hc,Z4x hg ⟨by omega,by omega⟩,Int.toNat_natCast,Int.toNat_natCast,←hq]
 have e1:(n&&&2^z)=0↔n/2^z%2=0:=by
   have t:n.testBit z=decide (n/2^z%2=1):=Nat.testBit_eq_decide_div_mod_eq
   constructor
   · intro h
     have h2:(n&&&2^z).testBit z=false:=by rw[h];exact Nat.zero_testBit z
     rw[Nat.testBit_and,Nat.testBit_two_pow_self,Bool.and_true,t]at h2
     have:=of_decide_eq_false h2
     omega
   · intro h
     have t0:n.testBit z=false:=by rw[t];exact decide_eq_false (by omega)
     apply Nat.eq_of_testBit_eq
     intro i
     rw[Nat.testBit_and,Nat.testBit_two_pow,Nat.zero_testBit]
     by_cases hi:z=i
     · subst hi;rw[t0];rfl
     · rw[decide_eq_false hi,Bool.and_false]
 rw[Bool.eq_iff_iff,beq_iff_eq,beq_iff_eq]
 constructor
 · intro h;have:=e1.1 (by omega);omega
 · intro h;have:=e1.2 (by omega);omega
theorem Z71{P:Nat}{m:List Int}(h:Q0u P m){b:Q07}(hb:okB b)(port:Int){v:Int}(hv:U v):Q6r b m port v=Q76 b m port v:=by
  have hcl:Q01 m=m:=rfl
  have hp:=Q38 h
  have h2:=h.p2
  have ew:IntKind.i64.wrap v=v:=w64 (by have:=hv.1;omega) (by have:=hv.2;omega)
  have pe:=Qh9 h hv
  by_cases h32:v<32
  · have bv :=bitv hb.2 hv.1 h32
    by_cases h10:port=10
    · by_cases hP:v<P
      · cases hz:iand .u32 (ishr .u32 b.C0 v) 1==0
        · simp only[Q6r,Q2r,Q76,Q4v,Tree.m,letv,hcl,hp,ew,pe,bv,hz,h10,decide_eq_true hP,decide_eq_false (show¬v≥32 by omega)]
          rfl
        · obtain⟨g1,g2,g3⟩:=(Tree.pp (give_b h hv hP h10 hz)).2
          change(Q76 b m port v).1=_ at g1
          change Q0u P (Q76 b m port v).2 at g2
          change∀k:Nat,byt (Q76 b m port v).2 k=_ at g3
          obtain⟨s1,s2,s3⟩:=(Tree.pp (Qt8 h hv.1 hP (s:=List.replicate 128 0) (by simp))).2
          have em:(Q2p m v (List.replicate 128 0)).1=(Q76 b m port v).2:=by
            refine Z5 (s2.len.trans g2.len.symm) s2.u g2.u λk=> ?_
            rw[g3 k]
            refine(s3 k).trans ?_
            by_cases hk:v*128≤(k:Int)∧(k:Int)<v*128+128
            · rw[if_pos hk,if_pos hk]
              have:(List.replicate 128 (0:UInt8)).getD ((k:Int)-v*128).toNat 0=0:=by
                rw[List.getD_eq_getElem?_getD,List.getElem?_replicate]
                split<;>rfl
              rw[this];rfl
            · rw[if_neg hk,if_neg hk]
          have el:Q6r b m port v=({C6:=b.C6,C0:=ior .u32 b.C0 (ishl .u32 1 v)},(Q2p m v (List.replicate 128 0)).1):=by
            simp only[Q6r,Q2r,Tree.m,letv,hcl,hp,ew,bv,hz,h10,decide_eq_true hP,decide_eq_false (show¬v≥32 by omega),zeros]
            rfl
          rw[el,em,←g1]
      · simp only[Q6r,Q2r,Q76,Q4v,Tree.m,letv,hcl,hp,ew,pe,h10,decide_eq_false hP,decide_eq_false (show¬v≥32 by omega)]
        rfl
    · simp only[Q6r,Q2r,Q76,Q4v,Tree.m,letv,hcl,decide_eq_true h32,decide_eq_false (show¬v≥32 by omega),show(port==10)=false by simpa using h10]
      cases port==11<;>rfl
  · simp only[Q6r,Q2r,Q76,Q4v,Tree.m,letv,hcl,pe,decide_eq_false h32,decide_eq_true (show v≥32 by omega),decide_eq_false (show¬v<P by omega)]
    cases port==10<;>cases port==11<;>rfl
structure okV(m:Q00):Prop where
 cpu:Q2n m.B1
 mem: ∀w∈m.Mem,U w
 disk:Q7h m.A6
 nic:Qfd m.C5
 bal:okB m.A1
 cnt:0≤m.A0
theorem Qji(m:List Int)(hm: ∀w∈m,U w):Q0q m=Q4 m∧(Q0q m=0∨ ∃P:Nat,1≤P∧Q0u P m):=by
 refine⟨rfl,?_⟩
 simp only[Q0q,Q93,Tree.m]
 cases h1:Int.tmod (m.length:Int) 32 !=0
 · cases h2:decide ((m.length:Int)>1024)
   · have h1:Int.tmod (m.length:Int) 32=0:=by simpa using h1
     have h2:=of_decide_eq_false h2
     rw[Int.tmod_eq_emod_of_nonneg (by omega)]at h1
     by_cases h0:m.length=0
     · left;rw[h0];rfl
     · right;exact⟨m.length/32,by omega,⟨by omega,by omega,by omega,hm⟩⟩
   · left;rfl
 · left;rfl
theorem rcnd{a x:Bool}:(bif !a then false else x)=true↔a=true∧x=true:=by cases a<;>simp
theorem rmay_iff(m:Q00):Qdf m=true↔ ¬(Q4 m.Mem<1)∧Q5s m.B1∧Qjl m.A2=true∧Qd1 m.A7=true∧Qfk m.A6 (Q4 m.Mem)=true∧Qhj m.C5 (Q4 m.Mem)=true∧Q9v m.A1 (Q4 m.Mem)=true∧m.A0≤1152921504606846976∧ ¬(m.A3=true∧m.A4=true):=by
 simp only[Qdf,Qxs,Tree.m,letv]
 rw[cnd2,cnd2,cnd2,cnd2,cnd2,cnd2,rcnd,rcnd,rcnd,rcnd,rcnd]
 simp only[decide_eq_false_iff_not,Int.not_lt,bne_eq_false_iff_eq,gt_iff_lt]
 have l:((bif decide (m.A0≤1152921504606846976) then(bif m.A3 then !m.A4 else true) else false)=true)↔m.A0≤1152921504606846976∧ ¬(m.A3=true∧m.A4=true):=by
   by_cases hc:m.A0≤1152921504606846976
   · rw[decide_eq_true hc]
     cases m.A3<;>cases m.A4<;>simp [hc]
   · rw[decide_eq_false hc];simp [hc]
 rw[l]
 constructor
 · rintro⟨a1,a2,a3,a4,a5,a6,a7⟩
   exact⟨by omega,⟨a2,a3,a4,a5,a6⟩,a7⟩
 · rintro⟨a1,⟨a2,a3,a4,a5,a6⟩,a7⟩
   exact⟨by omega,a2,a3,a4,a5,a6,a7⟩
theorem Z11{m:Q00}(h:okV m):Q16 m=Qdf m:=by
 rw[Bool.eq_iff_iff,Qhu,rmay_iff,dev_eq]
 obtain⟨e,c⟩:=Qji m.Mem h.mem
 simp only[Bool.and_eq_true,←e]
 rcases c with c|⟨P,hP,hm⟩
 · constructor
   · rintro⟨a,_⟩;exact absurd c a
   · rintro⟨a,_⟩;omega
 · rw[Q38 hm,Qvm,Qyu,Z3y,Z4z h.bal.2 hm.p2]
   constructor
   · rintro⟨a1,a2,a3,a4,a5,a6,a7,a8,a9⟩;exact⟨by omega,a2,a5,a6,a7,a8,a9,a3,a4⟩
   · rintro⟨a1,a2,a5,a6,a7,a8,a9,a3,a4⟩;exact⟨by omega,a2,a3,a4,a5,a6,a7,a8,a9⟩
def Z0b(a b c d e:Bool):Int:=ior .u32 (ior .u32 (ior .u32 (ior .u32 (Q91 a 0) (Q91 b 1)) (Q91 c 2)) (Q91 d 3)) (Q91 e 4)
theorem mlines(m:Q00):Qa7 m=Z0b (Qd6 m.A7) (Q7w m.A2) (Q8 m.A6) (Qhd m.C5) (Q60 m.A1):=by
 unfold Qa7 Q3t
 simp only[Tree.m,letv]
 generalize Qd6 m.A7=a
 generalize Q7w m.A2=b
 generalize Q8 m.A6=c
 generalize Qhd m.C5=d
 generalize Q60 m.A1=e
 cases a<;>cases b<;>cases c<;>cases d<;>cases e<;>kernel_rfl
theorem Zax(a b c d e:Bool):0≤Z0b a b c d e∧Z0b a b c d e<32:=by
 cases a<;>cases b<;>cases c<;>cases d<;>cases e<;>decide
theorem rlines(m:Q00):Qgz m=Z0b (Qb0 m.A7) (Q6h m.A2) (Qcs m.A6) (Qet m.C5) (Q4x m.A1):=rfl
section
variable {m:Q00} (h:okV m)
include h
theorem Zaq:Qa7 m=Qgz m:=by
 rw[mlines,rlines,con_same,Z4a h.bal];rfl
theorem Qqf:Q5 m=Q35 m:=by
 have e:=Zaq h
 simp only[Q5,Q1y,Q35,Q96,Tree.m,letv,e]
theorem Z4b:Q2w m=Qeu m:=by
 have e:=Qqf h
 simp only[Q2w,Q29,Qeu,Qlf,Tree.m,letv,e]
theorem Qmt:Q25 m=!Q1q m:=by
 have e1:=Z11 h
 have e2:=Z4b h
 have e3:decide (m.A0≥1152921504606846976)=!decide (m.A0<1152921504606846976):=ge_not
 simp only[Q25,Q2m,Q1q,Qcl,Tree.m,letv,e1,e2,e3]
 cases Qdf m<;>cases m.A4<;>cases Qeu m<;>cases decide (m.A0<1152921504606846976)<;>rfl
theorem Qxt:0≤Q35 m∧Q35 m<32:=by
 have e:Q35 m=iand .u32 (Qgz m) m.B1.B4.a7:=rfl
 have l:=Zax (Qb0 m.A7) (Q6h m.A2) (Qcs m.A6) (Qet m.C5) (Q4x m.A1)
 rw[←rlines]at l
 rw[e,Z4x ⟨l.1,by omega⟩ h.cpu.a7]
 have:=Nat.and_le_left (n:=(Qgz m).toNat) (m:=m.B1.B4.a7.toNat)
 omega
def low(l:Int):Int:=if l%2=1 then 0 else if l/2%2=1 then 1 else if l/4%2=1 then 2 else if l/8%2=1 then 3 else 4
end
theorem cases32{l:Int}(h0:0≤l)(h1:l<32):l=0∨l=1∨l=2∨l=3∨l=4∨l=5∨l=6∨l=7∨l=8∨l=9∨l=10∨l=11∨l=12∨l=13∨l=14∨l=15∨l=16∨l=17∨l=18∨l=19∨l=20∨l=21∨l=22∨l=23∨l=24∨l=25∨l=26∨l=27∨l=28∨l=29∨l=30∨l=31:=by omega
def intr(m:Q00)(l:Int):Q02:=bif iand .u32 m.B1.B4.a0 2==0 then m.B1 else bif l==0 then m.B1 else Q2u m.B1 (IntKind.wrap .i64 (16+low l)) 0
theorem rintr{m:Q00}(h:okV m):Q0j m=intr m (Q35 m):=by
 obtain⟨l0,l1⟩:=Qxt h
 unfold Q0j Q5g
 simp only[Tree.m,letv]
 revert l0 l1
 generalize Q35 m=l
 intro l0 l1
 unfold intr
 cases iand .u32 m.B1.B4.a0 2==0
 · rcases cases32 l0 l1 with rfl|rfl|rfl|rfl|rfl|rfl|rfl|rfl|rfl|rfl|rfl|rfl|rfl|rfl|rfl|rfl|rfl|rfl|rfl|rfl|rfl|rfl|rfl|rfl|rfl|rfl|rfl|rfl|rfl|rfl|rfl|rfl<;>kernel_rfl
 · rfl
def beg(m:Q00)(c:Q02):Q00:={B1:=c,Mem:=m.Mem,A2:=m.A2,A7:=m.A7,A6:=m.A6,C5:=m.C5,A1:=m.A1,A0:=m.A0,A3:=false,A4:=m.A4}
theorem Qyd{m:Q00}(h:okV m)(hst:m.B1.B4.a0≤31):Q0h m=beg m (Q0j m):=by
 obtain⟨l0,l1⟩:=Qxt h
 have tr: ∀k b,Q3w m.B1 k b=Q2u m.B1 k b:=Qj5 h.cpu.a0.1 hst
 have e:Q5 (beg m m.B1)=Q35 m:=Qqf (m:=beg m m.B1) ⟨h.cpu,h.mem,h.disk,h.nic,h.bal,h.cnt⟩
 rw[rintr h]
 unfold Q0h Q1w
 simp only[Tree.m,letv]
 rw[show Q5 {B1:=m.B1,Mem:=m.Mem,A2:=m.A2,A7:=m.A7,A6:=m.A6,C5:=m.C5,A1:=m.A1,A0:=m.A0,A3:=false,A4:=m.A4}=Q35 m from e]
 revert l0 l1
 generalize Q35 m=l
 intro l0 l1
 unfold intr
 simp only[←tr]
 cases iand .u32 m.B1.B4.a0 2==0
 · rcases cases32 l0 l1 with rfl|rfl|rfl|rfl|rfl|rfl|rfl|rfl|rfl|rfl|rfl|rfl|rfl|rfl|rfl|rfl|rfl|rfl|rfl|rfl|rfl|rfl|rfl|rfl|rfl|rfl|rfl|rfl|rfl|rfl|rfl|rfl<;>(show _=_;kernel_rfl)
 · rfl
theorem ports{p:Int}:p=0∨p=1∨p=2∨p=3∨p=4∨p=5∨p=6∨p=7∨p=8∨p=9∨p=10∨p=11∨p<0∨12≤p:=by omega
theorem in_same{m:Q00}(hb:okB m.A1)(port clock:Int):Q0t m port clock=((Qg5 m port clock).2,(Qg5 m port clock).1):=by
 have e1:=Za2 m.A2
 have e2: ∀p,Qpf m.A6 p=Qlg m.A6 p:=λ_=>rfl
 have e3:=Za3 m.C5
 have e4:=Z9e hb
 have e5:Qrk m.A7=Qj2 m.A7:=rfl
 simp only[Q0t,Q20,Qg5,Qn7,Tree.m,letv,e1,e2,e3,e4,e5]
 rcases ports (p:=port) with rfl|rfl|rfl|rfl|rfl|rfl|rfl|rfl|rfl|rfl|rfl|rfl|h|h
 all_goals first|rfl|skip
 · have n: ∀k:Int,0≤k→(port==k)=false:=λk hk=>beq_eq_false_iff_ne.2 (by omega)
   have c:Q78 m.A2 port=(m.A2,0):=by
     simp only[Q78,Q7,Tree.m,n 0 (by decide),n 1 (by decide),cond_false]
   simp only[n 0 (by decide),n 1 (by decide),n 2 (by decide),n 3 (by decide),n 4 (by decide),n 5 (by decide),n 6 (by decide),n 7 (by decide),n 8 (by decide),n 9 (by decide),n 10 (by decide),n 11 (by decide),cond_false,decide_eq_true (show port≤1 by omega),cond_true,c]
 · have n: ∀k:Int,k<12→(port==k)=false:=λk hk=>beq_eq_false_iff_ne.2 (by omega)
   have c:Q7b m.A1 port=0:=by
     simp only[Q7b,Q6z,Tree.m,n 10 (by decide),n 11 (by decide),cond_false]
   simp only[n 0 (by decide),n 1 (by decide),n 2 (by decide),n 3 (by decide),n 4 (by decide),n 5 (by decide),n 6 (by decide),n 7 (by decide),n 8 (by decide),n 9 (by decide),n 10 (by decide),n 11 (by decide),cond_false,decide_eq_false (show¬port≤1 by omega),decide_eq_false (show¬port≤6 by omega),decide_eq_false (show¬port≤9 by omega),c]
theorem out_same{P:Nat}{m:Q00}(hm:Q0u P m.Mem)(hb:okB m.A1)(port:Int){v:Int}(hv:U v):Q2c m port v m.A0=((Qdj m port v).2,(Qdj m port v).1):=by
 have e1:=Z2 hm m.A6
 have e2:=Z63 hm m.C5
 have e3:=Z71 hm hb port hv
 have e4:=arm_same m.A7 v
 simp only[Q2c,Q27,Qdj,Qgf,Tree.m,letv,e1,e2,e3,e4]
 rcases ports (p:=port) with rfl|rfl|rfl|rfl|rfl|rfl|rfl|rfl|rfl|rfl|rfl|rfl|h|h
 all_goals first|rfl|skip
 · have n: ∀k:Int,0≤k→(port==k)=false:=λk hk=>beq_eq_false_iff_ne.2 (by omega)
   simp only[n 0 (by decide),n 1 (by decide),n 2 (by decide),n 3 (by decide),n 4 (by decide),n 5 (by decide),n 6 (by decide),n 7 (by decide),n 8 (by decide),n 9 (by decide),n 10 (by decide),n 11 (by decide),cond_false,decide_eq_true (show port≤2 by omega),cond_true]
 · have n: ∀k:Int,k<12→(port==k)=false:=λk hk=>beq_eq_false_iff_ne.2 (by omega)
   have c:Q76 m.A1 m.Mem port v=(m.A1,m.Mem):=by
     simp only[Q76,Q4v,Tree.m,n 10 (by decide),n 11 (by decide),cond_false]
   simp only[n 0 (by decide),n 1 (by decide),n 2 (by decide),n 3 (by decide),n 4 (by decide),n 5 (by decide),n 6 (by decide),n 7 (by decide),n 8 (by decide),n 9 (by decide),n 10 (by decide),n 11 (by decide),cond_false,decide_eq_false (show¬port≤2 by omega),decide_eq_false (show¬port≤6 by omega),decide_eq_false (show¬port≤9 by omega),c]
def tick(n:Q00)(c:Q02)(w h:Bool):Q00:={B1:=c,Mem:=n.Mem,A2:=n.A2,A7:=n.A7,A6:=n.A6,C5:=n.C5,A1:=n.A1,A0:=IntKind.wrap .u64 (n.A0+1),A3:=w,A4:=h}
def withX(m:Q00)(c:Q02)(mem:List Int):Q00:={B1:=c,Mem:=mem,A2:=m.A2,A7:=m.A7,A6:=m.A6,C5:=m.C5,A1:=m.A1,A0:=m.A0,A3:=false,A4:=m.A4}
def finP(n:Q00)(e:Q0z)(clock at0:Int):Q00×List Q06:=
 bif e.B2==1 then
   (bif e.D7 !=0 then(tick (Q0t n e.C8 clock).1 {X:=A16.of 0 (List.set (A16.l (Q0t n e.C8 clock).1.B1.X) e.D7.toNat (Q0t n e.C8 clock).2),Pc:=(Q0t n e.C8 clock).1.B1.Pc,B4:=(Q0t n e.C8 clock).1.B1.B4} (Q0t n e.C8 clock).1.A3 (Q0t n e.C8 clock).1.A4,[])
   else(tick (Q0t n e.C8 clock).1 (Q0t n e.C8 clock).1.B1 (Q0t n e.C8 clock).1.A3 (Q0t n e.C8 clock).1.A4,[]))
 else bif e.B2==2 then(tick (Q2c n e.C8 e.Value at0).1 (Q2c n e.C8 e.Value at0).1.B1 (Q2c n e.C8 e.Value at0).1.A3 (Q2c n e.C8 e.Value at0).1.A4,(Q2c n e.C8 e.Value at0).2)
 else bif e.B2==3 then(tick n n.B1 true n.A4,[]) else bif e.B2==4 then(tick n n.B1 n.A3 true,[]) else(tick n n.B1 n.A3 n.A4,[])
def finR(n:Q00)(e:Q0z)(clock:Int):List Q06×Q00:=
 bif e.B2==1 then([],tick (Qg5 n e.C8 clock).2 (Q1o (Qg5 n e.C8 clock).2.B1 e.D7 (Qg5 n e.C8 clock).1) (Qg5 n e.C8 clock).2.A3 (Qg5 n e.C8 clock).2.A4)
 else bif e.B2==2 then((Qdj n e.C8 e.Value).1,tick (Qdj n e.C8 e.Value).2 (Qdj n e.C8 e.Value).2.B1 (Qdj n e.C8 e.Value).2.A3 (Qdj n e.C8 e.Value).2.A4)
 else bif e.B2==3 then([],tick n n.B1 true n.A4) else bif e.B2==4 then([],tick n n.B1 n.A3 true) else([],tick n n.B1 n.A3 n.A4)
theorem adv_eq(m:Q00)(clock:Int):Q09 m clock=finR (withX m (Qay (Q0j m) m.Mem).1 (Qay (Q0j m) m.Mem).2.2) (Qay (Q0j m) m.Mem).2.1 clock:=by kernel_rfl
theorem Z8x(m:Q00)(clock:Int):Q24 m clock=bif !Q25 m then(m,[]) else finP {B1:=(Q4a (Q0h m).B1 (Q0h m).Mem).1,Mem:=(Q4a (Q0h m).B1 (Q0h m).Mem).2.1,A2:=(Q0h m).A2,A7:=(Q0h m).A7,A6:=(Q0h m).A6,C5:=(Q0h m).C5,A1:=(Q0h m).A1,A0:=(Q0h m).A0,A3:=(Q0h m).A3,A4:=(Q0h m).A4} (Q4a (Q0h m).B1 (Q0h m).Mem).2.2 clock m.A0:=by kernel_rfl
theorem copy_eq(m:List Int):Qsl m=m:=by
 simp [Qsl,Qlm,Tree.m]
theorem own_eq(m:Q00):Z17 m=m:=by
 simp only[Z17,Qpa,Tree.m,letv,copy_eq]
def Z1x(m:Q00)(clock:Int):Q00×List Q06:=bif Q1q m then(m,[]) else((Q09 m clock).2,(Q09 m clock).1)
def Qfo(m:Q00)(e:Q0p):Tree (Q00×Bool):=
 .an (Z2o m) (.lv (Z17 m) λ(x0:Q00)=> .lv (Qdf x0) λ(x1:Bool)=> .br (!x1) (.lf (x0,false)) (.an (Qv3 x0 e) (.lv (Q2f x0 e) λ(x2:Bool×Q00)=> .lf (x2.2,x2.1))))
def Qgn(m:Q00)(e:Q0p):Q00×Bool:=(Qfo m e).m
theorem Qyx(m:Q00)(clock:Int):Z1x m clock=bif Q1q m then(m,[]) else((Q09 m clock).2,(Q09 m clock).1):=rfl
theorem fin_same{P:Nat}{n:Q00}(hm:Q0u P n.Mem)(hb:okB n.A1){e:Q0z}(hr:0≤e.D7∧e.D7<16)(hv:U e.Value)(clock:Int):finP n e clock n.A0=((finR n e clock).2,(finR n e clock).1):=by
 unfold finP finR
 rw[in_same hb e.C8 clock,out_same hm hb e.C8 hv]
 cases e.B2==1
 · cases e.B2==2
   · cases e.B2==3
     · cases e.B2==4<;>rfl
     · rfl
   · rfl
 · generalize Qg5 n e.C8 clock=r
   have s:=Qrz r.2.B1 hr r.1
   show(bif e.D7 !=0 then _ else _)=(tick r.2 (Q1o r.2.B1 e.D7 r.1) r.2.A3 r.2.A4,[])
   rw[←s]
   simp only[Q8p,Q7p,Tree.m]
   cases e.D7 !=0<;>rfl
theorem Z3v{m:Q00}(h:okV m)(clock:Int):Q24 m clock=Z1x m clock:=by
 rw[Z8x,Qyx,Qmt h]
 cases hs:Q1q m
 · have hr:Q25 m=true:=by rw[Qmt h,hs];rfl
   obtain⟨hm,hh,hct⟩:=Qrp hr
   obtain⟨g1,g2,g3,g4,g5⟩:=(Qhu m).1 hm
   rcases(Qji m.Mem h.mem).2 with c|⟨P,hP,hmem⟩
   · exact absurd c g1
   have okm:okS P m:=⟨h.cpu,hmem,h.disk,h.nic,h.bal.1,h.bal.2⟩
   obtain⟨b1,b2,b3,_⟩:=(Tree.pp (Qth okm g2)).2
   change Q5s (Q0h m).B1 at b1
   change okS P (Q0h m) at b2
   change(Q0h m).Mem=m.Mem at b3
   have be:=Qyd h g2.st
   have b1':Q5s (Q0j m):=by have:=b1;rw[be]at this;exact this
   have b2':Q2n (Q0j m):=by have:=b2.cpu;rw[be]at this;exact this
   have ex:=Z3x hmem b2' b1'.st
   have er:=(Tree.pp (Z9 b2' hmem)).2
   change 0≤(Q4a (Q0j m) m.Mem).2.2.D7∧(Q4a (Q0j m) m.Mem).2.2.D7<16 at er
   obtain⟨d1,d2,d3⟩:=(Tree.pp (do_w b2' hmem)).2
   change U (Qay (Q0j m) m.Mem).2.1.Value at d2
   change Q0u P (Qay (Q0j m) m.Mem).2.2 at d3
   rw[ex]at er
   rw[adv_eq,be]
   show finP {B1:=(Q4a (Q0j m) m.Mem).1,Mem:=(Q4a (Q0j m) m.Mem).2.1,A2:=m.A2,A7:=m.A7,A6:=m.A6,C5:=m.C5,A1:=m.A1,A0:=m.A0,A3:=false,A4:=m.A4} (Q4a (Q0j m) m.Mem).2.2 clock m.A0=_
   rw[ex]
   exact fin_same (n:=withX m (Qay (Q0j m) m.Mem).1 (Qay (Q0j m) m.Mem).2.2) d3 h.bal er d2 clock
 · rfl
theorem Qxh{m:Q00}(h:okV m)(e:Q0p):Q6s m e=Qgn m e:=by
 have hcl:Q01 m.Mem=m.Mem:=rfl
 have mm:=Z11 h
 have t1:Qgg m.A7=Z1u m.A7:=rfl
 have t2: ∀b,Qj6 m.A2 b=Qmp m.A2 b:=λ_=>rfl
 simp only[Q6s,Q2o,Qgn,Qfo,Q2f,Qc7,Tree.m,letv,own_eq,hcl,t1,t2]
 rw[show Q16 {B1:=m.B1,Mem:=m.Mem,A2:=m.A2,A7:=m.A7,A6:=m.A6,C5:=m.C5,A1:=m.A1,A0:=m.A0,A3:=m.A3,A4:=m.A4}=Qdf m from mm]
 cases hM:Qdf m
 · rfl
 have hM':Q16 m=true:=mm.trans hM
 rcases(Qji m.Mem h.mem).2 with c|⟨P,hP,hmem⟩
 · exact absurd c ((Qhu m).1 hM').1
 have cs:=Qz6 hmem h.disk e
 have rs:=Z46 hmem h.nic e.C3
 clear mm hM hM' hcl h
 obtain⟨c,mem,con,ti,d,n,b,ct,w,hl⟩:=m
 cases hl
 · by_cases k2:e.B2=2
   · rw[k2];cases e.N==0<;>cases decide (e.C3=[])<;>rfl
   by_cases k3:e.B2=3
   · rw[k3];cases decide (e.N≤255)<;>cases decide (e.C3=[])<;>rfl
   by_cases k4:e.B2=4
   · rw[k4,cs];rfl
   by_cases k5:e.B2=5
   · rw[k5,rs];cases e.N==0<;>rfl
   by_cases k6:e.B2=6
   · rw[k6];cases decide (e.C3=[])<;>rfl
   · rw[show(e.B2==2)=false by simpa using k2,show(e.B2==3)=false by simpa using k3,show(e.B2==4)=false by simpa using k4,show(e.B2==5)=false by simpa using k5,show(e.B2==6)=false by simpa using k6]
     rfl
 · rfl
section
variable {m:Q00} (h:okV m) (hl:m.Mem.length≤1024)
include h
theorem may_P(hm:Q16 m=true): ∃P,okS P m∧okM P m:=by
 rcases(Qji m.Mem h.mem).2 with c|⟨P,hP,hmem⟩
 · exact absurd c ((Qhu m).1 hm).1
 · exact⟨P,⟨h.cpu,hmem,h.disk,h.nic,h.bal.1,h.bal.2⟩,⟨h.cpu,hmem,h.disk,h.nic,h.bal,h.cnt⟩⟩
include hl
theorem stepV_pre{clock:Int}(hk:U clock):Q57 m clock∧(Q24 m clock).2.length≤1∧(Q24 m clock).1.Mem.length≤1024:=by
 cases hr:Q25 m
 · have e:Q24 m clock=(m,[]):=by rw[Z8x,hr];rfl
   rw[e]
   refine⟨?_,Nat.zero_le _,hl⟩
   have hcl:Q01 m.Mem=m.Mem:=rfl
   show(Q1x m clock).p
   unfold Tree.p Q1x
   refine w_an (by show m.Mem.length≤35184372088832;omega) (w_lv λl hl=> ?_)
   rw[hcl]at hl;subst hl
   refine w_an (Tree.pp (Z5m (m:=⟨_,_,_,_,_,_,m.A1,_,_,_⟩) h.bal.2)).1 (w_lv λx1 hx1=>w_br (λ_=>trivial) (λhb=> ?_))
   have:x1=false:=hx1.trans hr
   rw[this]at hb;cases hb
 · obtain⟨P,s,_⟩:=may_P h (Qrp hr).1
   have g:=Tree.pp (step_w0 s h.cnt hk)
   have ml:=g.2.2.ok.mem.len
   have mp:=g.2.2.ok.mem.p2
   exact⟨g.1,g.2.1,by show(Q1x m clock).m.1.Mem.length≤1024;omega⟩
omit h hl in
theorem mapply_w{P:Nat}(h:okM P m){e:Q0p}(he:U e.N):(Qc7 m e).w (λx=>okM P x.2):=by
 have k:=h
 obtain⟨h1,h2,h3,h4,h5,h7⟩:=h
 unfold Qc7
 repeat'(first
   |exact k
   |exact⟨h1,h2,h3,h4,⟨he,h5.2⟩,h7⟩
   |exact w_lv λ_ _=>⟨h1,h2,h3,h4,h5,h7⟩
   |exact Q0c (type_w _ _) λ_ _=>⟨h1,h2,h3,h4,h5,h7⟩
   |exact Q0c (finish_w h2 h3 _) λx hx=>⟨h1,hx.2,hx.1,h4,h5,h7⟩
   |exact Q0c (accept_w h2 h4 _) λx hx=>⟨h1,hx.2,h3,hx.1,h5,h7⟩
   |refine w_br (λ_=> ?_) (λ_=> ?_))
theorem Z9i{e:Q0p}(he:U e.N):Q8g m e:=by
 cases hm:Q16 m
 · have hcl:Q01 m.Mem=m.Mem:=rfl
   show(Q2o m e).p
   unfold Tree.p Q2o
   refine w_an (by show m.Mem.length≤35184372088832;omega) (w_lv λl hl=> ?_)
   rw[hcl]at hl;subst hl
   refine w_an (Tree.pp (Z7d (m:=⟨_,_,_,_,_,_,m.A1,_,_,_⟩) h.bal.2)).1 (w_lv λx1 hx1=>w_br (λ_=>trivial) (λhb=> ?_))
   have:x1=false:=hx1.trans hm
   rw[this]at hb;cases hb
 · obtain⟨P,s,o⟩:=may_P h hm
   exact(Tree.pp (Z7y o he)).1
end
def Tree.V{β:Type}(t:Tree β)(W:β→Prop):Prop:=W t.m
section
variable {α β:Type} {W:β→Prop} {c:Bool} {t e:Tree β}
theorem v_lf{x:β}(h:W x):Tree.V (.lf x) W:=h
theorem v_br(h:c=true→Tree.V t W)(g:c=false→Tree.V e W):Tree.V (.br c t e) W:=by
 cases c
 · exact g rfl
 · exact h rfl
theorem v_cn(g:Tree.V t W):Tree.V (.cn c t) W:=g
theorem v_an{p:Prop}(g:Tree.V t W):Tree.V (.an p t) W:=g
theorem v_lv{x:α}{k:α→Tree β}(h: ∀y,y=x→Tree.V (k y) W):Tree.V (.lv x k) W:=h x rfl
end
structure good(P:Nat)(m:Q00):Prop where
 ok:okM P m
 may:Q16 m=true
section
variable {P:Nat} {m:Q00} (h:good P m)
include h
theorem good.v:okV m:=⟨h.ok.cpu,h.ok.mem.u,h.ok.disk,h.ok.nic,h.ok.target,h.ok.cnt⟩
theorem good.s:okS P m:=⟨h.ok.cpu,h.ok.mem,h.ok.disk,h.ok.nic,h.ok.target.1,h.ok.target.2⟩
theorem good.rmay:Qdf m=true:=(Z11 h.v).symm.trans h.may
theorem Qmn{e:Q0p}(he:U e.N):good P (Q2f m e).2∧(Q2f m e).2.A0=m.A0:=by
 have o:okM P (Q2f m e).2:=Tree.post _ (mapply_w h.ok he)
 have a:=(Tree.pp (Z7y h.ok he)).2
 change(Q16 m=true→Q16 (Q6s m e).1=true)∧(Q6s m e).1.A0=m.A0∧_ at a
 have e1:Qgn m e=((Q2f m e).2,(Q2f m e).1):=by
   simp only[Qgn,Qfo,Tree.m,letv,own_eq,h.rmay];rfl
 rw[Qxh h.v e,e1]at a
 exact⟨⟨o,a.1 h.may⟩,a.2.1⟩
theorem stuck_iff:Q1q m=false↔m.A4=false∧Qeu m=false∧m.A0<1152921504606846976:=by
 simp only[Q1q,Qcl,Tree.m,letv,h.rmay]
 cases m.A4<;>cases Qeu m<;>simp
theorem Qbn(hs:Q1q m=false){clock:Int}(hc:U clock):good P (Q09 m clock).2∧(Q09 m clock).2.A0=m.A0+1∧(Q09 m clock).1.length≤1:=by
 have o:=Tree.post _ (Z9d h.ok hc)
 change(Q09 m clock).1.length≤1∧okM P (Q09 m clock).2∧(Q09 m clock).2.A0=IntKind.wrap .u64 (m.A0+1) at o
 have s:=(Tree.pp (step_w0 h.s h.ok.cnt hc)).2
 change _∧Good P m (Q24 m clock).1 at s
 have e:Q24 m clock=((Q09 m clock).2,(Q09 m clock).1):=by rw[Z3v h.v,Qyx,hs];rfl
 rw[e]at s
 have hct:=((stuck_iff h).1 hs).2.2
 have h0:=h.ok.cnt
 refine⟨⟨o.2.1,s.2.may h.may⟩,?_,o.1⟩
 rw[o.2.2,IntKind.wrap_u64];omega
end
structure goodR(P:Nat)(k:Int)(r:Q1):Prop where
 m:good P r.B6
 clock:U r.Clock
 cnt:r.B6.A0≤k
def okQ(l:List Q0p):Prop:=l.length≤16∧ ∀q∈l,U q.N
theorem Z9s(w:Int):IntKind.wrap .i64 (Q1r w).1.Imm=(Q1r w).1.Imm:=by
 show Tree.V (Q6p w) (λr=>IntKind.wrap .i64 r.1.Imm=r.1.Imm)
 have e: ∀x,IntKind.wrap .i64 (IntKind.wrap .i32 x)=IntKind.wrap .i32 x:=λx=>by rw[IntKind.wrap_i64,IntKind.wrap_i32];omega
 unfold Q6p
 refine v_lv λx0 _=> ?_
 have l: ∀i:Q0g,IntKind.wrap .i64 i.Imm=i.Imm→Tree.V (Tree.lv (Q5v i) λx=> .br (!x) (.lf ((⟨0,0,0,0,0⟩:Q0g),false)) (.lf (i,true))) (λr=>IntKind.wrap .i64 r.1.Imm=r.1.Imm):=λi hi=>v_lv λx hx=>v_br (λ_=>v_lf rfl) (λhb=>v_lf hi)
 exact v_br (λ_=>v_lf rfl) (λ_=>v_br (λ_=>l _ rfl) (λ_=>v_br (λ_=>l _ (e _)) (λ_=>v_br (λ_=>l _ (e _)) (λ_=>l _ (e _)))))
def ioP(e:Q0z):Bool:=bif e.B2==1 then e.C8==2 else false
def readsC(c:Q02)(m:List Int):Bool:=
 bif iand .u32 c.B4.a0 1==0 then false else bif(Q11 m c.Pc 4).2 then bif(Q1r (Q11 m c.Pc 4).1).2 then bif(Q1r (Q11 m c.Pc 4).1).1.Op==60 then(Q1r (Q11 m c.Pc 4).1).1.Imm==2 else false else false else false
theorem reads_def(m:Q00):Qgd m=readsC (Q0j m) m.Mem:=rfl
theorem sys_io(c:Q02)(i:Q0g):ioP (Qi c i).2=(bif i.Op==60 then IntKind.wrap .i64 i.Imm==2 else false):=by
 show Tree.V (Q8b c i) (λr=>ioP r.2=_)
 have no: ∀{k:Int},i.Op=k→k≠60→ ∀e:Q0z,e.B2≠1→ioP e=(bif i.Op==60 then IntKind.wrap .i64 i.Imm==2 else false):=λh g e he=>by
   unfold ioP
   rw[h,show(_==(60:Int))=false from beq_false_of_ne g,show(e.B2==1)=false from beq_false_of_ne he];rfl
 have eq: ∀{k:Int},(i.Op==k)=true→i.Op=k:=λh=>eq_of_beq h
 unfold Q8b
 refine v_br (λh=>v_lv λ_ _=>v_lf (no (eq h) (by decide) _ (show(0:Int)≠1 by decide))) λ_=>v_br (λh=>v_lv λ_ _=>v_lf (no (eq h) (by decide) _ (show(0:Int)≠1 by decide))) λ_=>v_br (λh=>v_cn (v_an (v_lv λ_ _=>v_lf (no (eq h) (by decide) _ (show(0:Int)≠1 by decide))))) λ_=>v_br (λh=>v_cn (v_an (v_lv λ_ _=>v_lf (no (eq h) (by decide) _ (show(0:Int)≠1 by decide))))) λ_=>v_br (λh=>v_lf ?_) λh60=> ?_
 · show(bif(1:Int)==1 then IntKind.wrap .i64 i.Imm==2 else false)=_
   rw[h];rfl
 · have n60:i.Op≠60:=λe=>by rw[e]at h60;cases h60
   refine v_br (λh=>v_cn (v_lf (no (eq h) (by decide) _ (by show(2:Int)≠1;decide)))) λ_=>v_br (λh=>v_lf (no (eq h) (by decide) _ (show(3:Int)≠1 by decide))) λ_=>v_br (λh=>v_lf (no (eq h) (by decide) _ (show(5:Int)≠1 by decide))) λ_=>v_br (λh=>v_lf (no (eq h) (by decide) _ (show(4:Int)≠1 by decide))) λ_=>v_lf (no rfl n60 _ (show(0:Int)≠1 by decide))
theorem post_io(c:Q02)(m:List Int)(i:Q0g):ioP (Qfc c m i).2.1=(bif i.Op==60 then IntKind.wrap .i64 i.Imm==2 else false):=by
 unfold Qfc
 cases h:decide (i.Op≥56)
 · have h:=of_decide_eq_false h
   rw[show(i.Op==60)=false from beq_false_of_ne (by omega)]
   cases decide (i.Op≥40)<;>cases decide (i.Op≥32)<;>cases i.Op==24<;>cases decide (i.Op≤13)<;>rfl
 · exact sys_io c i
theorem do_reads{P:Nat}{m:List Int}(h:Q0u P m){c:Q02}(hc:Q2n c)(hst:c.B4.a0≤31):ioP (Qay c m).2.1=readsC c m:=by
  rw[do_eq]
  unfold readsC
  cases hk:iand .u32 c.B4.a0 1==0
  · have hp:Qk2 c=false:=by
      rw[Qxu hc.a0.1 hst,show Q8e c=true from by show(iand .u32 c.B4.a0 1 !=0)=true;rw[bne,hk];rfl]
      rfl
    have wi:=Qds h hc.pc (size:=4) (.inr rfl)
    have kn:Qdr 1=true:=rfl
    have p0:=hc.pc.1
    have tm:Int.tmod c.Pc (IntKind.wrap .u32 4)=c.Pc%4:=by
      rw[show IntKind.wrap .u32 4=4 from rfl,Int.tmod_eq_emod_of_nonneg p0]
    have rc:Q0w c m c.Pc 4 1=bif c.Pc%4 !=0 then(0,3,m) else bif !Q2 m c.Pc 4 then(0,Q1z 1,m) else(c.Pc,0,m):=by
      simp only[Q0w,Q82,Tree.m,letv,kn,hp,tm]
      rfl
    rw[rc]
    cases h4:(c.Pc%4 !=0)
    · cases hw:Q2 m c.Pc 4
      · have l2:(Q11 m c.Pc 4).2=false:=by
          simp only[Q11,Q45,Tree.m,letv,hw];rfl
        rw[l2]
        show ioP (doR c (0,Q1z 1,m) _ _).2.1=false
        unfold doR
        rw[show((0,Q1z 1,m):Int×Int×List Int).2.1=Q1z 1 from rfl,show(Q1z 1 !=0)=true by decide]
        rfl
      · have l2:(Q11 m c.Pc 4).2=true:=by
          simp only[Q11,Q45,Tree.m,letv,hw];rfl
        rw[l2]
        show ioP (doR c (c.Pc,0,m) (Q11 m c.Pc 4).1 (Q1r (Q11 m c.Pc 4).1)).2.1=_
        have im:=Z9s (Q11 m c.Pc 4).1
        generalize Q11 m c.Pc 4=x at*
        generalize Q1r x.1=d at*
        unfold doR
        cases d.2
        · rfl
        · rw[hk]
          have:=post_io c m d.1
          rw[im]at this
          cases Q3n d.1.Op<;>exact this
    · have hw:Q2 m c.Pc 4=false:=by
        rw[wi]
        refine decide_eq_false λe=> ?_
        rw[e.1]at h4;cases h4
      have l2:(Q11 m c.Pc 4).2=false:=by
        simp only[Q11,Q45,Tree.m,letv,hw];rfl
      rw[l2];rfl
  · have us : ∀x w d,ioP (doR c x w d).2.1=false:=λx w d=>by
      unfold doR
      cases x.2.1 !=0
      · cases d.2
        · rfl
        · cases hp:Q3n d.1.Op
          · have:=post_io c x.2.2 d.1
            rw[show(d.1.Op==60)=false from beq_false_of_ne λe=>by rw[e]at hp;cases hp]at this
            exact this
          · rw[hk];rfl
      · rfl
    exact us _ _ _
theorem Qny{m:Q00}(h:okV m):Q21 m=Q19 m:=by
 have rd:Q19 m=bif Q1q m then false else Qgd m:=rfl
 have pd:Q21 m=bif !Q25 m then false else ioP (Q4a (Q0h m).B1 (Q0h m).Mem).2.2:=rfl
 rw[rd,pd,Qmt h]
 cases hs:Q1q m
 · have hr:Q25 m=true:=by rw[Qmt h,hs];rfl
   obtain⟨hm,hh,hct⟩:=Qrp hr
   obtain⟨g1,g2,g3,g4,g5⟩:=(Qhu m).1 hm
   rcases(Qji m.Mem h.mem).2 with c|⟨P,hP,hmem⟩
   · exact absurd c g1
   have okm:okS P m:=⟨h.cpu,hmem,h.disk,h.nic,h.bal.1,h.bal.2⟩
   obtain⟨b1,b2,b3,_⟩:=(Tree.pp (Qth okm g2)).2
   change Q5s (Q0h m).B1 at b1
   change okS P (Q0h m) at b2
   have be:=Qyd h g2.st
   have b1':Q5s (Q0j m):=by have:=b1;rw[be]at this;exact this
   have b2':Q2n (Q0j m):=by have:=b2.cpu;rw[be]at this;exact this
   have ex:=Z3x hmem b2' b1'.st
   rw[be,reads_def,←do_reads hmem b2' b1'.st]
   show ioP (Q4a (Q0j m) m.Mem).2.2=_
   rw[ex];rfl
 · rfl
theorem midle_w{m:Q00}(h:U m.A1.C0):Q47 m:=by
 show(Q29 m).p
 unfold Tree.p Q29
 refine w_br (λ_=>w_an ?_ (w_lv λ_ _=>trivial)) (λ_=>trivial)
 show(Q1y m).p
 unfold Tree.p Q1y
 exact Q0c (Z8j h) λ_ _=>trivial
theorem reads_w0{P:Nat}{m:Q00}(h:okS P m):(Q1f m).w (λ_=>True):=by
 unfold Q1f
 exact Q0c (Z5m h.given) λ_ _=>w_br (λ_=>trivial) (λ_=>Q0c (beginP_w h) λx1 h1=>Q0c (execP_w h1.cpu h1.mem) λx2 _=>w_br (λ_=>trivial) (λ_=>trivial))
section
variable {P:Nat} {m:Q00} (h:good P m)
include h
theorem good.len:m.Mem.length≤1024:=by have:=h.ok.mem.len;have:=h.ok.mem.p2;omega
theorem good.app(e:Q0p):Q6s m e=((Q2f m e).2,(Q2f m e).1):=by
 rw[Qxh h.v]
 simp only[Qgn,Qfo,Tree.m,letv,own_eq,h.rmay];rfl
theorem good.step(hs:Q1q m=false)(clock:Int):Q24 m clock=((Q09 m clock).2,(Q09 m clock).1):=by
 rw[Z3v h.v,Qyx,hs];rfl
theorem good.idle:Q2w m=Qeu m:=Z4b h.v
end
theorem Qwx{P:Nat}{m:Q00}(h:good P m):Q1q m=bif m.A4 then true else bif Q2w m then true else m.A0==1152921504606846976:=by
 have hc:=((Qhu m).1 h.may).2.2.1
 have e:decide (m.A0≥1152921504606846976)=(m.A0==1152921504606846976):=by
   by_cases g:m.A0=1152921504606846976
   · rw[g];rfl
   · rw[show(m.A0==1152921504606846976)=false from beq_false_of_ne g,decide_eq_false (by omega)]
 rw[h.idle,←e]
 simp only[Q1q,Qcl,Tree.m,letv,h.rmay];rfl
set_option synthInstance.maxHeartbeats 2000000
set_option synthInstance.maxSize 100000
noncomputable section
instance Qqz (s:(List Int)):Ck (Q03 s):=let d:Decidable (Q03 s):=(by delta Q03;infer_instance);⟨@decide _ d,@of_decide_eq_true _ d⟩
instance Zbc (m:(List Int)) (addr:Int) (size:Int):Ck (Q8c m addr size):=ckT (t:=Q30 m addr size) (by delta Q30;infer_instance)
instance bits_mask_ck (n:Int):Ck (Qd5 n):=ckT (t:=Q9a n) (by delta Q9a;infer_instance)
instance bits_Field_ck (w:Int) (low:Int) (n:Int):Ck (Q4h w low n):=ckT (t:=Q7t w low n) (by delta Q7t;infer_instance)
instance isa_Decode_ck (w:Int):Ck (Qbm w):=ckT (t:=Q4k w) (by delta Q4k;infer_instance)
instance memory_Load_ck (m:(List Int)) (addr:Int) (size:Int):Ck (Q2q m addr size):=ckT (t:=Q3g m addr size) (by delta Q3g;infer_instance)
instance cpu_Resolve_ck (c:Q02) (m:(List Int)) (va:Int) (size:Int) (access:Int):Ck (Q62 c m va size access):=ckT (t:=Q3i c m va size access) (by delta Q3i;infer_instance)
instance cpu_Fetch_ck (c:Q02) (m:(List Int)):Ck (Qda c m):=ckT (t:=Q6n c m) (by delta Q6n;infer_instance)
instance cpu_Exec_ck (c:Q02) (m:(List Int)):Ck (Qby c m):=ckT (t:=Q4m c m) (by delta Q4m;infer_instance)
instance Z87 (x:Int):Ck (Q6i x):=ckT (t:=Q1j x) (by delta Q1j;infer_instance)
instance balloon_May_ck (b:Q07) (pages:Int):Ck (Q9y b pages):=ckT (t:=Q33 b pages) (by delta Q33;infer_instance)
instance Z4n (m:Q00):Ck (Q37 m):=ckT (t:=Q1e m) (by delta Q1e;infer_instance)
instance machine_May_ck (m:Q00):Ck (Q5u m):=ckT (t:=Q4d m) (by delta Q4d;infer_instance)
instance machine_Idle_ck (m:Q00):Ck (Q47 m):=ckT (t:=Q29 m) (by delta Q29;infer_instance)
instance machine_runs_ck (m:Q00):Ck (Q72 m):=ckT (t:=Q2m m) (by delta Q2m;infer_instance)
instance Zbd (m:Q00):Ck (Q5y m):=ckT (t:=Q1w m) (by delta Q1w;infer_instance)
instance machine_Step_ck (m:Q00) (clock:Int):Ck (Q57 m clock):=ckT (t:=Q1x m clock) (by delta Q1x;infer_instance)
instance ref1_New_ck (pages:Int):Ck (Qfh pages):=ckT (t:=Qb6 pages) (by delta Qb6;infer_instance)
instance ref7_New_ck (pages:Int) (blocks:Int) (image:(List Int)):Ck (Qc0 pages blocks image):=ckT (t:=Qbg pages blocks image) (by delta Qbg;infer_instance)
instance Z4g (m:Q00):Ck (Q2l m):=ckT (t:=Q1f m) (by delta Q1f;infer_instance)
instance bare_Ordered_ck (script:(List Q0f)):Ck (Q1v script):=let d:Decidable (Q1v script):=(by delta Q1v;infer_instance);⟨@decide _ d,@of_decide_eq_true _ d⟩
instance bare_check_ck (m:Q00) (script:(List Q0f)) (until0:Int):Ck (Qbk m script until0):=ckT (t:=Q5c m script until0) (by delta Q5c;infer_instance)
instance bare_Run_ck (m:Q00) (script:(List Q0f)) (until0:Int):Ck (Qcf m script until0):=ckT (t:=Q7c m script until0) (by delta Q7c;infer_instance)
instance Qpu (b:(List Int)) (s:(List UInt8)):Ck (Q2e b s):=ckT (t:=Q0y b s) (by delta Q0y;infer_instance)
instance Qqq (s:(List (List UInt8))):Ck (Q0m s):=let d:Decidable (Q0m s):=(by delta Q0m;infer_instance);⟨@decide _ d,@of_decide_eq_true _ d⟩
instance bare_See_ck (disk:(List (List UInt8))) (l:(List Q06)):Ck (Qc3 disk l):=ckT (t:=Q8d disk l) (by delta Q8d;infer_instance)
theorem awake_pre:Q7q:=ck (ckT (t:=Q9u) (by delta Q9u;infer_instance)) (by kernel_rfl)
theorem Z9b:Qey=true:=by kernel_rfl
theorem aw13k{β:Type}{W:β→Prop}{k:Bool→Tree β}(h:(k true).w W):(Tree.an Q7q (.lv Qey k)).w W:=w_an awake_pre (w_lv λx e=>by rw[e,Z9b];exact h)
end
structure goodP(P:Nat)(k:Int)(r:Q1):Prop where
 g:goodR P k r
 q:okQ r.Queue
 l:(r.Log.length:Int)≤3*k
def evOK(e:Q0p):Prop:=Qts e=true∧e.B2≠1
structure logOK(c0:Int)(r:Q1):Prop where
 pw:r.Log.Pairwise λa b=>a.At≤b.At∧(a.C2.B2=1→a.At<b.At∧(b.C2.B2=1→a.C2.N≤b.C2.N))
 all: ∀e∈r.Log,c0≤e.At∧e.At≤r.B6.A0∧Qts e.C2=true∧(e.C2.B2=1→e.At<r.B6.A0∧e.C2.N<r.Clock∧0≤e.C2.N)
 q: ∀e∈r.Queue,evOK e
 c:c0≤r.B6.A0
theorem logOK.with{c0:Int}{r x:Q1}(h:logOK c0 r)(hl:x.Log=r.Log)(hm:x.B6.A0=r.B6.A0)(hc:r.Clock≤x.Clock)(hq: ∀e∈x.Queue,evOK e):logOK c0 x:=
 ⟨by rw[hl];exact h.pw,by
   rw[hl,hm]
   exact λe he=>⟨(h.all e he).1,(h.all e he).2.1,(h.all e he).2.2.1,λk=>⟨((h.all e he).2.2.2 k).1,by have:=((h.all e he).2.2.2 k).2.1;omega,((h.all e he).2.2.2 k).2.2⟩⟩,hq,by rw[hm];exact h.c⟩
structure logP(c0 k B:Int)(r:Q1):Prop where
 p:goodP 8 k r
 l:logOK c0 r
 b:r.Clock≤B
inductive Q7k:Q00→List Q0f→List Q06→Q00→Prop
 |nil {m:Q00}:Q7k m [] [] m
 |ev {m n:Q00} {e:Q0p} {L:List Q0f} {o:List Q06}:True→e.B2≠1→U e.N→Q7k (Q2f m e).2 L o n→Q7k m ({At:=m.A0,C2:=e}::L) o n
 |rd {m n:Q00} {c:Int} {L:List Q0f} {o:List Q06}:Q1q m=false→Q19 m=true→U c→Q7k (Q09 m c).2 L o n→Q7k m ({At:=m.A0,C2:={B2:=1,N:=c,C3:=[]}}::L) ((Q09 m c).1++o) n
 |st {m n:Q00} {c:Int} {L:List Q0f} {o:List Q06}:Q1q m=false→Q19 m=false→U c→Q7k (Q09 m c).2 L o n→Q7k m L ((Q09 m c).1++o) n
theorem Q7k.trans{a b c:Q00}{L M:List Q0f}{o p:List Q06}(h:Q7k a L o b)(g:Q7k b M p c):Q7k a (L++M) (o++p) c:=by
 induction h with
 |nil=>exact g
 |ev h1 h2 h3 _ ih=>exact .ev h1 h2 h3 (ih g)
 |rd h1 h2 h3 _ ih=>rw[List.append_assoc];exact .rd h1 h2 h3 (ih g)
 |st h1 h2 h3 _ ih=>rw[List.append_assoc];exact .st h1 h2 h3 (ih g)
theorem Q7k.good{P:Nat}{a b:Q00}{L:List Q0f}{o:List Q06}(h:Q7k a L o b):good P a→good P b∧a.A0≤b.A0∧ ∀e∈L,a.A0≤e.At:=by
 induction h with
 |nil=>exact λg=>⟨g,Int.le_refl _,λe he=>by cases he⟩
 | ev h1 h2 h3 _ ih=>
   intro g
   obtain⟨g1,c1⟩:=Qmn g h3
   obtain⟨p,q,r⟩:=ih g1
   rw[c1]at q r
   exact⟨p,q,λe he=>(List.mem_cons.1 he).elim (λh=>by rw[h];exact Int.le_refl _) (λh=>r e h)⟩
 | rd h1 h2 h3 _ ih=>
   intro g
   obtain⟨g1,c1,_⟩:=Qbn g h1 h3
   obtain⟨p,q,r⟩:=ih g1
   rw[c1]at q r
   exact⟨p,by omega,λe he=>(List.mem_cons.1 he).elim (λh=>by rw[h];exact Int.le_refl _) (λh=>by have:=r e h;omega)⟩
 | st h1 h2 h3 _ ih=>
   intro g
   obtain⟨g1,c1,_⟩:=Qbn g h1 h3
   obtain⟨p,q,r⟩:=ih g1
   rw[c1]at q r
   exact⟨p,by omega,λe he=>by have:=r e he;omega⟩
def Qxg(r x:Q1)(o:List Q06):Prop:= ∃L,x.Log=r.Log++L∧Q7k r.B6 L o x.B6
theorem Qxg.rfl{r:Q1}:Qxg r r []:=⟨[],(List.append_nil _).symm, .nil⟩
theorem Qxg.trans{a b c:Q1}{o p:List Q06}(h:Qxg a b o)(g:Qxg b c p):Qxg a c (o++p):=by
 obtain⟨L,l1,l2⟩:=h
 obtain⟨M,m1,m2⟩:=g
 exact⟨L++M,by rw[m1,l1,List.append_assoc],l2.trans m2⟩
theorem Qnr{l:List Q0f}{i:Nat}(h:i<l.length):l.getD i (RK.dflt RK.apiEntry)=l[i]:=by
 rw[List.getD_eq_getElem?_getD,List.getElem?_eq_getElem h];rfl
theorem ordered_w{s:List Q0f}(hl:s.length≤1000000)(hp:s.Pairwise λa b=>a.At≤b.At∧(a.C2.B2=1→a.At<b.At∧(b.C2.B2=1→a.C2.N≤b.C2.N))):(Q77 s).w (λb=>b=true):=by
 unfold Q77
 refine w_lp (inv:=λz:Int=>1≤z∧(z≤s.length∨z=1)) (μ:=Q3v s) ⟨Int.le_refl 1, .inr rfl⟩ (Nat.lt_succ_self _) λi ⟨a,b⟩=> ?_
 refine w_br (λhb=> ?_) (λ_=>rfl)
 have hb:=of_decide_eq_true hb
 have ew:IntKind.i64.wrap (i+1)=i+1:=by rw[IntKind.wrap_i64];omega
 have em:IntKind.i64.wrap (i-1)=i-1:=by rw[IntKind.wrap_i64];omega
 have hlt:i.toNat<s.length:=by omega
 have hlt':(i-1).toNat<s.length:=by omega
 have q:=List.pairwise_iff_getElem.1 hp (i-1).toNat i.toNat hlt' hlt (by omega)
 rw[←Qnr hlt,←Qnr hlt']at q
 have nx:(1≤IntKind.i64.wrap (i+1)∧(IntKind.i64.wrap (i+1)≤s.length∨IntKind.i64.wrap (i+1)=1))∧Q3v s (IntKind.i64.wrap (i+1))<Q3v s i:=by
   show _∧(s.length-IntKind.i64.wrap (i+1)).toNat<(s.length-i).toNat
   rw[ew];omega
 refine w_cn (by rw[em];simp [Nat.blt];omega) (w_cn (by simp [Nat.blt];omega) (w_br (λh=> ?_) λ_=>w_br (λh1=>w_br (λh2=> ?_) λ_=>w_nx nx) λ_=>w_nx nx))
 · have h:=of_decide_eq_true h
   rw[em]at h
   have:=q.1;omega
 · rw[em]at h1 h2
   have h1:=eq_of_beq h1
   have:=(q.2 (eq_of_beq h2)).1;omega
theorem drop_at{l:List Q0f}{i:Nat}{e:Q0f}{L:List Q0f}(h:l.drop i=e::L):i<l.length∧l.getD i (RK.dflt RK.apiEntry)=e∧l.drop (i+1)=L:=by
 have hlt:i<l.length:=by
   by_cases g:i<l.length
   · exact g
   · rw[List.drop_eq_nil_of_le (by omega)]at h;cases h
 rw[List.drop_eq_getElem_cons hlt]at h
 injection h with h1 h2
 exact⟨hlt,by rw[Qnr hlt,h1],h2⟩
theorem Zb3{P:Nat}{a b:Q00}{L:List Q0f}{o:List Q06}(h:Q7k a L o b)(g:good P a)(hc:a.A0<b.A0):
   (∃e M,L={At:=a.A0,C2:=e}::M∧e.B2≠1∧U e.N∧True∧Q7k (Q2f a e).2 M o b)∨
   (∃c M p,L={At:=a.A0,C2:={B2:=1,N:=c,C3:=[]}}::M∧Q1q a=false∧Q19 a=true∧U c∧o=(Q09 a c).1++p∧Q7k (Q09 a c).2 M p b)∨
   (∃p,Q1q a=false∧Q19 a=false∧(∀e∈L,a.A0<e.At)∧o=(Q09 a 0).1++p∧Q7k (Q09 a 0).2 L p b):=by
 cases h with
 |nil=>omega
 |ev h1 h2 h3 h4=>exact .inl ⟨_,_,rfl,h2,h3,h1,h4⟩
 |rd h1 h2 h3 h4=>exact .inr (.inl ⟨_,_,_,rfl,h1,h2,h3,rfl,h4⟩)
 | @st _ _ c _ _ h1 h2 h3 h4=>
   refine .inr (.inr ?_)
   have e:Q09 a c=Q09 a 0:=by
     have s1:=g.step h1 c
     have s0:=g.step h1 0
     have:=Qxr (m:=a) (by rw[Qny g.v];exact h2) c 0
     rw[s1,s0]at this
     injection this with p q
     exact Prod.ext q p
   obtain⟨g1,c1,_⟩:=Qbn g h1 h3
   have r:=(h4.good g1).2.2
   rw[c1]at r
   rw[e]at h4
   exact⟨_,h1,h2,λe he=>by have:=r e he;omega,by rw[e],h4⟩
theorem check_w{P:Nat}{m:Q00}(g:good P m){s:List Q0f}(hs:s.length≤400){until0:Int}(h1:m.A0≤until0)(h2:until0≤m.A0+4000)
   (hp:s.Pairwise λa b=>a.At≤b.At∧(a.C2.B2=1→a.At<b.At∧(b.C2.B2=1→a.C2.N≤b.C2.N))) (ha: ∀e∈s,m.A0≤e.At):(Q5c m s until0).w (λx=>x=0):=by
 have c0:=g.ok.cnt
 have ord:Qfp s=true:=Tree.post _ (ordered_w (by omega) hp)
 unfold Q5c
 refine w_an (Tree.pp (Z7d g.ok.target.2)).1 (w_lv λx0 e0=>w_br (λh=>by rw[e0,g.may]at h;cases h) λ_=>w_br (λh=>absurd (of_decide_eq_true h) (by omega)) λ_=>w_br (λh=> ?_) λ_=>w_br (λh=>absurd (of_decide_eq_true h) (by omega)) λ_=>w_an (show s.length≤1000000000000 by omega) (w_lv λx1 e1=>w_br (λh=>by rw[e1,ord]at h;cases h) λ_=> ?_))
 · have h:=of_decide_eq_true h
   rw[IntKind.wrap_u64]at h;omega
 · refine w_lp (inv:=λi:Int=>0≤i∧i≤s.length) (μ:=Qig m s until0) ⟨Int.le_refl 0,by omega⟩ (Nat.lt_succ_self _) λi ⟨v1,v2⟩=> ?_
   refine w_br (λhb=> ?_) (λhb=>rfl)
   have hb:=of_decide_eq_true hb
   have hlt:i.toNat<s.length:=by omega
   have ew:IntKind.i64.wrap (i+1)=i+1:=by rw[IntKind.wrap_i64];omega
   have hin:=ha (s.getD i.toNat (RK.dflt RK.apiEntry)) (by rw[Qnr hlt];exact List.getElem_mem hlt)
   refine w_cn (by simp [Nat.blt];omega) (w_br (λh=>absurd (of_decide_eq_true h) (by omega)) λ_=>w_nx ?_)
   show(0≤IntKind.i64.wrap (i+1)∧IntKind.i64.wrap (i+1)≤s.length)∧(s.length-IntKind.i64.wrap (i+1)).toNat<(s.length-i).toNat
   rw[ew];omega
def evF:Q00→List Q0f→Q00×List Q0f
 |m,[]=>(m,[])
 |m,e::L=>bif e.At==m.A0 then(bif e.C2.B2 !=1 then evF (Q2f m e.C2).2 L else(m,e::L)) else(m,e::L)
def stepF(p:Q00×List Q0f)(out:List Q06):Q00×List Q0f×List Q06:=
 bif Q19 p.1 then((Q09 p.1 (p.2.headD (RK.dflt RK.apiEntry)).C2.N).2,p.2.tail,out++(Q09 p.1 (p.2.headD (RK.dflt RK.apiEntry)).C2.N).1) else((Q09 p.1 0).2,p.2,out++(Q09 p.1 0).1)
def Qfj(s:Q00×List Q0f×List Q06):Q00×List Q0f×List Q06:=stepF (evF s.1 s.2.1) s.2.2
theorem Qkb(m:Q00)(L:List Q0f)(out:List Q06):Qfj (m,L,out)=stepF (evF m L) out:=rfl
def Q6q:Nat→Q00×List Q0f×List Q06→Q00×List Q0f×List Q06
 |0,s=>s
 |n+1,s=>Q6q n (Qfj s)
theorem Z5h(a b:Nat): ∀s,Q6q (a+b) s=Q6q b (Q6q a s):=by
 induction a with
 |zero=>intro s;rw[Nat.zero_add];rfl
 |succ a ih=>intro s;rw[show a+1+b=(a+b)+1 by omega];exact ih _
theorem evF_ev{m:Q00}{e:Q0p}{L:List Q0f}(hk:e.B2≠1):evF m ({At:=m.A0,C2:=e}::L)=evF (Q2f m e).2 L:=by
 conv=>lhs;unfold evF
 rw[show(m.A0==m.A0)=true from beq_self_eq_true _,show(e.B2 !=1)=true by simpa using hk];rfl
theorem evF_rd{m:Q00}{c:Int}{L:List Q0f}:evF m ({At:=m.A0,C2:={B2:=1,N:=c,C3:=[]}}::L)=(m,{At:=m.A0,C2:={B2:=1,N:=c,C3:=[]}}::L):=by
 conv=>lhs;unfold evF
 rw[show(m.A0==m.A0)=true from beq_self_eq_true _];rfl
theorem evF_st{m:Q00}{L:List Q0f}(h: ∀e∈L,m.A0<e.At):evF m L=(m,L):=by
 cases L with
 |nil=>rfl
 | cons e L=>
   unfold evF
   rw[show(e.At==m.A0)=false from beq_false_of_ne (by have:=h e (by simp);omega)];rfl
theorem Z79{m:Q00}{c:Int}{L:List Q0f}{out:List Q06}(h:Q19 m=true):Qfj (m,{At:=m.A0,C2:={B2:=1,N:=c,C3:=[]}}::L,out)=((Q09 m c).2,L,out++(Q09 m c).1):=by
 rw[Qkb,evF_rd]
 unfold stepF
 rw[show Q19 (m,({At:=m.A0,C2:={B2:=1,N:=c,C3:=[]}}::L:List Q0f)).1=true from h];rfl
theorem Z82{m:Q00}{L:List Q0f}{out:List Q06}(h:Q19 m=false)(hl: ∀e∈L,m.A0<e.At):Qfj (m,L,out)=((Q09 m 0).2,L,out++(Q09 m 0).1):=by
 rw[Qkb,evF_st hl]
 unfold stepF
 rw[show Q19 (m,L).1=false from h];rfl
theorem Z8o{m:Q00}{e:Q0p}{L:List Q0f}{out:List Q06}(hk:e.B2≠1):Qfj (m,{At:=m.A0,C2:=e}::L,out)=Qfj ((Q2f m e).2,L,out):=by
 rw[Qkb,evF_ev hk,Qkb]
theorem Z34(n:Nat)(s:Q00×List Q0f×List Q06):Q6q (n+1) s=Qfj (Q6q n s):=by
 rw[Z5h];rfl
theorem runK_w{P:Nat}{m n:Q00}(g:good P m){s:List Q0f}(hs:s.length≤400){O:List Q06}(tr:Q7k m s O n)(hO:O.length≤1000000)(k:Nat)(hk:k≤4000){until0:Int}(hu:until0=m.A0+k)(hn:until0≤n.A0)
    (hp:s.Pairwise λa b=>a.At≤b.At∧(a.C2.B2=1→a.At<b.At∧(b.C2.B2=1→a.C2.N≤b.C2.N))):
    (Q7c m s until0).w (λx=>x.2.2.2=0∧(x.1,s.drop x.2.2.1.toNat,x.2.1)=Q6q k (m,s,[])∧0≤x.2.2.1∧x.2.2.1≤s.length):=by
  obtain⟨gn,cn0,ha⟩:=tr.good g
  have n60:n.A0≤1152921504606846976:=((Qhu n).1 gn.may).2.2.1
  unfold Q7c
  refine Q0c (check_w g hs (by omega) (by omega) hp ha) λx0 e0=>w_br (λh=>by rw[e0]at h;cases h) λ_=>w_an (Q7e g.ok.mem) (w_lv λx1 e1=> ?_)
  have hcl:Q01 m.Mem=m.Mem:=rfl
  rw[hcl]at e1
  subst e1
  refine w_lp (inv:=λv:Int×Q00×List Q06=>0≤v.1∧v.1≤s.length∧good P v.2.1∧(∃o,O=v.2.2++o∧Q7k v.2.1 (s.drop v.1.toNat) o n)∧ ∃q:Nat,q≤k∧v.2.1.A0=m.A0+q∧(v.2.1,s.drop v.1.toNat,v.2.2)=Q6q q (m,s,[])) (μ:=Qla m s until0) ⟨Int.le_refl 0,by show(0:Int)≤_;omega,g,⟨O,rfl,tr⟩,0,Nat.zero_le _,by show m.A0=m.A0+((0:Nat):Int);omega,rfl⟩ (Nat.lt_succ_self _) λv ⟨a1,a2,a3,⟨o,a4,a5⟩,q,b0,bc,bq⟩=> ?_
  obtain⟨u,x,out⟩:=v
  have a1:0≤u:=a1
  have a2:u≤s.length:=a2
  have a3:good P x:=a3
  have a4:O=out++o:=a4
  have a5:Q7k x (s.drop u.toNat) o n:=a5
  have bc:x.A0=m.A0+q:=bc
  have bq:(x,s.drop u.toNat,out)=Q6q q (m,s,[]):=bq
  have lO:O.length=out.length+o.length:=by rw[a4,List.length_append]
  refine w_br (λhb=>w_br (λ_=> ?_) (λh=>absurd (of_decide_eq_false h) (by have hb:x.A0<until0:=of_decide_eq_true hb;show¬ ¬x.A0<_;omega))) (λhb=> ?_)
  · have hb:x.A0<until0:=of_decide_eq_true hb
    refine w_lp (inv:=λw:Int×Q00=>0≤w.1∧w.1≤s.length∧good P w.2∧w.2.A0=x.A0∧Q7k w.2 (s.drop w.1.toNat) o n∧Qfj (w.2,s.drop w.1.toNat,out)=Q6q (q+1) (m,s,[])) (μ:=Ql0 m s until0 (u,x,out)) ⟨a1,a2,a3,rfl,a5,by rw[Z34,←bq]⟩ (Nat.lt_succ_self _) λw ⟨b1,b2,b3,b4,b5,b6⟩=> ?_
    obtain⟨i,y⟩:=w
    have b1:0≤i:=b1
    have b2:i≤s.length:=b2
    have b3:good P y:=b3
    have b4:y.A0=x.A0:=b4
    have b5:Q7k y (s.drop i.toNat) o n:=b5
    have b6:Qfj (y,s.drop i.toNat,out)=Q6q (q+1) (m,s,[]):=b6
    have y0:=b3.ok.cnt
    have cq:y.A0+1=m.A0+((q+1:Nat):Int):=by omega
    have ip:Q47 y:=midle_w b3.ok.target.2
    have rp:Q2l y:=(Tree.pp (reads_w0 b3.s)).1
    have sp:=λ(c:Int) (hc:U c)=>(stepV_pre b3.v b3.len (clock:=c) hc).1
    have sg:=Qwx b3
    have rs:=Qny b3.v
    have ew:IntKind.i64.wrap (i+1)=i+1:=by rw[IntKind.wrap_i64];omega
    have cc:i<s.length→ ∀k:Nat,(Nat.beq 4 4&&Nat.blt 0 4&&decide (0≤i∧i<((s.length:Nat):Int)))=true:=λh k=>by simp [Nat.blt];omega
    rcases Zb3 b5 b3 (by omega) with⟨e,M,l1,l2,l3,l4,l5⟩|⟨c,M,p,l1,l2,l3,l4,l5,l6⟩|⟨p,l1,l2,l3,l4,l5⟩
    · obtain⟨d1,d2,d3⟩:=drop_at l1
      have hi:i<s.length:=by omega
      obtain⟨g1,c1⟩:=Qmn b3 l3
      refine w_br (λ_=>w_cn (cc hi 0) (w_br (λ_=>w_cn (cc hi 0) (w_br (λ_=>w_cn (cc hi 0) (w_an ?_ (w_lv λx2 e2=>w_nx ?_))) (λh=> ?_))) (λh=> ?_))) (λh=>absurd (of_decide_eq_false h) (λz=>z hi))
      · rw[d2];exact Z9i b3.v b3.len l3
      · rw[d2,b3.app]at e2
        show(0≤IntKind.i64.wrap (i+1)∧IntKind.i64.wrap (i+1)≤s.length∧good P x2.1∧x2.1.A0=x.A0∧Q7k x2.1 (s.drop (IntKind.i64.wrap (i+1)).toNat) o n∧Qfj (x2.1,s.drop (IntKind.i64.wrap (i+1)).toNat,out)=Q6q (q+1) (m,s,[]))∧(s.length-IntKind.i64.wrap (i+1)).toNat<(s.length-i).toNat
        rw[ew,show(i+1).toNat=i.toNat+1 by omega,d3,e2]
        rw[l1,Z8o l2]at b6
        exact⟨⟨by omega,by omega,g1,by show(Q2f y e).2.A0=_;omega,l5,b6⟩,by omega⟩
      · rw[d2]at h
        have h:e.B2=1:=by simpa using h
        exact absurd h l2
      · rw[d2]at h;simp at h
    · obtain⟨d1,d2,d3⟩:=drop_at l1
      have hi:i<s.length:=by omega
      obtain⟨g1,c1,o1⟩:=Qbn b3 l2 l4
      have ms:=b3.step l2 c
      rw[l2]at sg
      have hh:y.A4=false:=by
        cases hh:y.A4
        · rfl
        · rw[hh]at sg;cases sg
      have hid:Q2w y=false:=by
        cases hid:Q2w y
        · rfl
        · rw[hh,hid]at sg;cases sg
      have hr:Q21 y=true:=rs.trans l3
      have lo:o.length=(Q09 y c).1.length+p.length:=by rw[l5,List.length_append]
      refine w_br (λ_=>w_cn (cc hi 0) (w_br (λ_=>w_cn (cc hi 0) (w_br (λh=> ?_) (λ_=> ?_))) (λh=> ?_))) (λh=>absurd (of_decide_eq_false h) (λz=>z hi))
      · rw[d2]at h;cases h
      · refine w_br (λh=>by rw[hh]at h;cases h) λ_=>w_an ip (w_lv λx3 e3=>w_br (λh=>by rw[e3,hid]at h;cases h) λ_=>w_br (λ_=>w_cn (cc hi 0) (w_an rp (w_lv λx4 e4=>w_br (λh=> ?_) λ_=>w_br (λ_=>w_cn (cc hi 0) (w_an ?_ (w_lv λx5 e5=> ?_))) λh=> ?_))) λh=>absurd (of_decide_eq_false h) (λz=>z hi))
        · rw[e4,hr,d2]at h;simp at h
        · rw[d2];exact sp c l4
        · rw[d2]at e5
          have e5:x5=((Q09 y c).2,(Q09 y c).1):=e5.trans ms
          refine w_cn (decide_eq_true (by rw[e5];show 40*(out.length+(Q09 y c).1.length)≤_;omega)) (w_nx ?_)
          show(0≤IntKind.i64.wrap (i+1)∧IntKind.i64.wrap (i+1)≤s.length∧good P x5.1∧(∃o',O=(out++x5.2)++o'∧Q7k x5.1 (s.drop (IntKind.i64.wrap (i+1)).toNat) o' n)∧ ∃q:Nat,q≤k∧x5.1.A0=m.A0+q∧(x5.1,s.drop (IntKind.i64.wrap (i+1)).toNat,out++x5.2)=Q6q q (m,s,[]))∧(until0-x5.1.A0).toNat<(until0-x.A0).toNat
          rw[ew,show(i+1).toNat=i.toNat+1 by omega,d3,e5]
          rw[l1,Z79 l3]at b6
          exact⟨⟨by omega,by omega,g1,⟨p,by rw[a4,l5,List.append_assoc],l6⟩,q+1,by omega,by show(Q09 y c).2.A0=_;omega,b6⟩,by show(until0-(Q09 y c).2.A0).toNat<_;omega⟩
        · rw[d2]at h;simp at h
      · rw[d2]at h;simp at h
    · obtain⟨g1,c1,o1⟩:=Qbn b3 l1 U_0
      have ms:=b3.step l1 0
      rw[l1]at sg
      have hh:y.A4=false:=by
        cases hh:y.A4
        · rfl
        · rw[hh]at sg;cases sg
      have hid:Q2w y=false:=by
        cases hid:Q2w y
        · rfl
        · rw[hh,hid]at sg;cases sg
      have hr:Q21 y=false:=rs.trans l2
      have lo:o.length=(Q09 y 0).1.length+p.length:=by rw[l4,List.length_append]
      have ne:i<s.length→((s.getD i.toNat (RK.dflt RK.apiEntry)).At==y.A0)=false:=λhi=>by
        have hlt:i.toNat<s.length:=by omega
        refine beq_false_of_ne λq=> ?_
        have:=l3 (s.getD i.toNat (RK.dflt RK.apiEntry)) (by rw[Qnr hlt,List.drop_eq_getElem_cons hlt];exact List.mem_cons_self)
        omega
      have fin: ∀x5:Q00×List Q06,x5=Q24 y 0→decide (40*(out.length+x5.2.length)≤140737488355328)=true∧((0≤i∧i≤s.length∧good P x5.1∧(∃o',O=(out++x5.2)++o'∧Q7k x5.1 (s.drop i.toNat) o' n)∧ ∃q:Nat,q≤k∧x5.1.A0=m.A0+q∧(x5.1,s.drop i.toNat,out++x5.2)=Q6q q (m,s,[]))∧(until0-x5.1.A0).toNat<(until0-x.A0).toNat):=λx5 e5=>by
        have e5:x5=((Q09 y 0).2,(Q09 y 0).1):=e5.trans ms
        rw[e5]
        exact⟨decide_eq_true (by show 40*(out.length+(Q09 y 0).1.length)≤_;omega),⟨b1,b2,g1,⟨p,by rw[a4,l4,List.append_assoc],l5⟩,q+1,by omega,by show(Q09 y 0).2.A0=_;omega,by rw[Z82 l2 l3]at b6;exact b6⟩,by show(until0-(Q09 y 0).2.A0).toNat<_;omega⟩
      refine w_br (λhi=>w_cn (cc (of_decide_eq_true hi) 0) (w_br (λh=>by rw[ne (of_decide_eq_true hi)]at h;cases h) λ_=> ?_)) (λhi=> ?_)
      · have hi:i<s.length:=of_decide_eq_true hi
        refine w_br (λh=>by rw[hh]at h;cases h) λ_=>w_an ip (w_lv λx3 e3=>w_br (λh=>by rw[e3,hid]at h;cases h) λ_=>w_br (λ_=>w_cn (cc hi 0) (w_an rp (w_lv λx4 e4=>w_br (λh=>by rw[e4,hr,ne hi]at h;cases h) λ_=>w_br (λh=>by rw[ne hi]at h;cases h) λ_=>w_an (sp 0 U_0) (w_lv λx6 e6=>w_cn (fin x6 e6).1 (w_nx (fin x6 e6).2))))) λh=>absurd (of_decide_eq_false h) (λz=>z hi))
      · have hi: ¬i<s.length:=of_decide_eq_false hi
        refine w_br (λh=>by rw[hh]at h;cases h) λ_=>w_an ip (w_lv λx3 e3=>w_br (λh=>by rw[e3,hid]at h;cases h) λ_=>w_br (λh=>absurd (of_decide_eq_true h) hi) λ_=>w_an rp (w_lv λx4 e4=>w_br (λh=>by rw[e4,hr]at h;cases h) λ_=>w_an (sp 0 U_0) (w_lv λx6 e6=>w_cn (fin x6 e6).1 (w_nx (fin x6 e6).2))))
  · have hb: ¬x.A0<until0:=of_decide_eq_false hb
    have qk:q=k:=by omega
    rw[qk]at bq
    exact⟨rfl,bq,a1,a2⟩
theorem adv_c0{P:Nat}{m:Q00}(g:good P m)(h1:Q1q m=false)(h2:Q19 m=false)(c:Int):Q09 m c=Q09 m 0:=by
 have s1:=g.step h1 c
 have s0:=g.step h1 0
 have:=Qxr (m:=m) (by rw[Qny g.v];exact h2) c 0
 rw[s1,s0]at this
 injection this with p q
 exact Prod.ext q p
theorem Za6{P:Nat}{a b:Q00}{L:List Q0f}{o:List Q06}(h:Q7k a L o b):good P a→ ∀{M:List Q0f} (out:List Q06),(∀e∈L,e.At<b.A0)→(∀e∈M,b.A0≤e.At)→
   Q6q (b.A0-a.A0).toNat (a,L++M,out)=(b,M,out++o):=by
 induction h with
 | nil=>
   intro g M out _ _
   rw[show∀x:Int,(x-x).toNat=0 from λx=>by omega]
   show(_,[]++M,out)=(_,M,out++[]);rw[List.append_nil];rfl
 | @ev m n e L o h1 h2 h3 h4 ih=>
   intro g M out k1 k2
   obtain⟨g1,c1⟩:=Qmn g h3
   have hc:m.A0<n.A0:=k1 {At:=m.A0,C2:=e} (by simp)
   have:=ih g1 (M:=M) out (λe' he=>k1 e' (by simp [he])) k2
   rw[c1]at this
   rw[←this]
   obtain⟨k,hk⟩: ∃k,(n.A0-m.A0).toNat=k+1:=⟨(n.A0-m.A0).toNat-1,by omega⟩
   rw[hk]
   show Q6q k (Qfj (m,{At:=m.A0,C2:=e}::(L++M),out))=Q6q k (Qfj ((Q2f m e).2,L++M,out))
   rw[Z8o h2]
 | @rd m n c L o h1 h2 h3 h4 ih=>
   intro g M out k1 k2
   obtain⟨g1,c1,_⟩:=Qbn g h1 h3
   obtain⟨_,cc,_⟩:=h4.good g1
   have:=ih g1 (M:=M) (out++(Q09 m c).1) (λe' he=>k1 e' (by simp [he])) k2
   rw[c1,List.append_assoc]at this
   rw[←this]
   rw[c1]at cc
   have hk:(n.A0-m.A0).toNat=(n.A0-(m.A0+1)).toNat+1:=by omega
   rw[hk]
   show Q6q _ (Qfj (m,{At:=m.A0,C2:={B2:=1,N:=c,C3:=[]}}::(L++M),out))=_
   rw[Z79 h2]
 | @st m n c L o h1 h2 h3 h4 ih=>
   intro g M out k1 k2
   obtain⟨g1,c1,_⟩:=Qbn g h1 h3
   obtain⟨_,cc,ca⟩:=h4.good g1
   have:=ih g1 (M:=M) (out++(Q09 m c).1) (λe' he=>k1 e' he) k2
   rw[c1,List.append_assoc]at this
   rw[←this]
   rw[c1]at cc ca
   have hk:(n.A0-m.A0).toNat=(n.A0-(m.A0+1)).toNat+1:=by omega
   rw[hk]
   show Q6q _ (Qfj (m,L++M,out))=_
   rw[Z82 h2 (λe he=> ?_),adv_c0 g h1 h2 c]
   rcases List.mem_append.1 he with he|he
   · have:=ca e he;omega
   · have:=k2 e he;omega
theorem cut_w{P:Nat}{a n x:Q00}{s L1 L2:List Q0f}{O o1 o2:List Q06}(g:good P a)(hs:s.length≤400)(tr:Q7k a s O n)(hO:O.length≤1000000)(e:s=L1++L2)(t1:Q7k a L1 o1 x)(t2:Q7k x L2 o2 n){until0:Int}(hx:x.A0=until0)(hL: ∀e∈L1,e.At<until0)(hk:until0≤a.A0+4000)
   (hp:s.Pairwise λa b=>a.At≤b.At∧(a.C2.B2=1→a.At<b.At∧(b.C2.B2=1→a.C2.N≤b.C2.N))):
   (Q7c a s until0).w (λr=>r=(x,o1,(L1.length:Int),0)):=by
 obtain⟨gx,c1,_⟩:=t1.good g
 obtain⟨gn,c2,a2⟩:=t2.good gx
 have w:=runK_w g hs tr hO (until0-a.A0).toNat (by omega) (until0:=until0) (by omega) (by omega) hp
 refine Tree.mono _ (λr hr=> ?_) w
 obtain⟨q1,q2,q3,q4⟩:=hr
 have rc:=Za6 t1 g (M:=L2) [] (λe he=>by rw[hx];exact hL e he) a2
 rw[hx]at rc
 rw[e,rc,←e]at q2
 obtain⟨m,o,i,f⟩:=r
 simp only[Prod.mk.injEq,List.nil_append]at q1 q2 q3 q4
 obtain⟨r1,r2,r3⟩:=q2
 have hl:(s.drop i.toNat).length=L2.length:=by rw[r2]
 rw[List.length_drop,e,List.length_append]at hl
 rw[e,List.length_append]at q4
 have hi:i=L1.length:=by omega
 rw[r1,r3,hi,q1]
theorem trace_len{P:Nat}{a b:Q00}{L:List Q0f}{o:List Q06}(h:Q7k a L o b):good P a→(o.length:Int)≤b.A0-a.A0:=by
 induction h with
 |nil=>intro _;show((0:Nat):Int)≤_;omega
 | ev h1 h2 h3 h4 ih=>
   intro g
   obtain⟨g1,c1⟩:=Qmn g h3
   have:=ih g1
   omega
 | rd h1 h2 h3 h4 ih=>
   intro g
   obtain⟨g1,c1,o1⟩:=Qbn g h1 h3
   have:=ih g1
   rw[List.length_append];omega
 | st h1 h2 h3 h4 ih=>
   intro g
   obtain⟨g1,c1,o1⟩:=Qbn g h1 h3
   have:=ih g1
   rw[List.length_append];omega
structure recOf(m:Q00)(x:Q1×List Q06):Prop where
 len:x.1.Log.length≤400
 tr:Q7k m x.1.Log x.2 x.1.B6
 outs:x.2.length≤330
 lo:m.A0≤x.1.B6.A0
 hi:x.1.B6.A0≤m.A0+330
 pw:x.1.Log.Pairwise λa b=>a.At≤b.At∧(a.C2.B2=1→a.At<b.At∧(b.C2.B2=1→a.C2.N≤b.C2.N))
 good:good 8 x.1.B6
set_option synthInstance.maxHeartbeats 2000000
set_option synthInstance.maxSize 100000
noncomputable section
instance Zbe (w:Int) (low:Int) (n:Int) (v:Int):Ck (Qbd w low n v):=ckT (t:=Q4r w low n v) (by delta Q4r;infer_instance)
instance memory_Store_ck (m:(List Int)) (addr:Int) (size:Int) (v:Int):Ck (Q73 m addr size v):=ckT (t:=Q4f m addr size v) (by delta Q4f;infer_instance)
instance Z7x (x:Int) (n:Int):Ck (Q6f x n):=ckT (t:=Q39 x n) (by delta Q39;infer_instance)
instance isa_Decode_ckf (w:Int):Ck (Qbm w):=ckT (t:=Q4k w) (by delta Q4k;infer_instance)
instance bits_Divide_ck (a:Int) (b:Int):Ck (Qa8 a b):=ckT (t:=Q5b a b) (by delta Q5b;infer_instance)
instance cpu_Alu_ck (op:Int) (a:Int) (b:Int):Ck (Qh5 op a b):=ckT (t:=Qf3 op a b) (by delta Qf3;infer_instance)
instance memory_Load_ckf (m:(List Int)) (addr:Int) (size:Int):Ck (Q2q m addr size):=ckT (t:=Q3g m addr size) (by delta Q3g;infer_instance)
instance Zaj (pte:Int):Ck (Q7f pte):=ckT (t:=Q40 pte) (by delta Q40;infer_instance)
instance paging_Walk_ck (m:(List Int)) (root:Int) (va:Int) (access:Int):Ck (Qag m root va access):=ckT (t:=Q5i m root va access) (by delta Q5i;infer_instance)
instance paging_Touch_ck (m:(List Int)) (entry:Int) (access:Int):Ck (Q98 m entry access):=ckT (t:=Q4i m entry access) (by delta Q4i;infer_instance)
instance cpu_Resolve_ckf (c:Q02) (m:(List Int)) (va:Int) (size:Int) (access:Int):Ck (Q62 c m va size access):=ckT (t:=Q3i c m va size access) (by delta Q3i;infer_instance)
instance cpu_Fetch_ckf (c:Q02) (m:(List Int)):Ck (Qda c m):=ckT (t:=Q6n c m) (by delta Q6n;infer_instance)
instance cpu_set_ck (c:Q02) (register:Int) (v:Int):Ck (Q5q c register v):=ckT (t:=Q7p c register v) (by delta Q7p;infer_instance)
instance cpu_load_ck (c:Q02) (m:(List Int)) (i:Q0g):Ck (Qj3 c m i):=ckT (t:=Q87 c m i) (by delta Q87;infer_instance)
instance cpu_store_ck (c:Q02) (m:(List Int)) (i:Q0g):Ck (Qhe c m i):=ckT (t:=Q6m c m i) (by delta Q6m;infer_instance)
instance cpu_Write_ck (c:Q02) (csr:Int) (v:Int):Ck (Qhx c csr v):=ckT (t:=Q6u c csr v) (by delta Q6u;infer_instance)
instance cpu_execute_ck (c:Q02) (i:Q0g):Ck (Qe5 c i):=ckT (t:=Q32 c i) (by delta Q32;infer_instance)
instance cpu_Exec_ckf (c:Q02) (m:(List Int)):Ck (Qby c m):=ckT (t:=Q4m c m) (by delta Q4m;infer_instance)
instance Z5y (x:Int):Ck (Q6i x):=ckT (t:=Q1j x) (by delta Q1j;infer_instance)
instance balloon_May_ckf (b:Q07) (pages:Int):Ck (Q9y b pages):=ckT (t:=Q33 b pages) (by delta Q33;infer_instance)
instance Z1e (m:Q00):Ck (Q37 m):=ckT (t:=Q1e m) (by delta Q1e;infer_instance)
instance machine_May_ckf (m:Q00):Ck (Q5u m):=ckT (t:=Q4d m) (by delta Q4d;infer_instance)
instance Qxb (x:Int):Ck (Q5o x):=ckT (t:=Q1s x) (by delta Q1s;infer_instance)
instance Zbf (b:Q07):Ck (Q8h b):=ckT (t:=Q4t b) (by delta Q4t;infer_instance)
instance Z7u (b:Q07):Ck (Q9d b):=ckT (t:=Q2x b) (by delta Q2x;infer_instance)
instance Zbm (m:Q00):Ck (Qbc m):=ckT (t:=Q3t m) (by delta Q3t;infer_instance)
instance Z8f (m:Q00):Ck (Q6e m):=ckT (t:=Q1y m) (by delta Q1y;infer_instance)
instance Zbn (m:Q00):Ck (Q47 m):=ckT (t:=Q29 m) (by delta Q29;infer_instance)
instance Zbk (m:Q00):Ck (Q72 m):=ckT (t:=Q2m m) (by delta Q2m;infer_instance)
instance Z98 (m:Q00):Ck (Q5y m):=ckT (t:=Q1w m) (by delta Q1w;infer_instance)
instance balloon_In_ck (b:Q07) (port:Int):Ck (Qg4 b port):=ckT (t:=Q6b b port) (by delta Q6b;infer_instance)
instance Z5j (m:Q00) (port:Int) (clock:Int):Ck (Q8t m port clock):=ckT (t:=Q20 m port clock) (by delta Q20;infer_instance)
instance memory_text_ck (words:(List Int)):Ck (Q4s words):=let d:Decidable (Q4s words):=(by delta Q4s;infer_instance);⟨@decide _ d,@of_decide_eq_true _ d⟩
instance memory_Page_ck (m:(List Int)) (frame:Int):Ck (Q80 m frame):=ckT (t:=Q3f m frame) (by delta Q3f;infer_instance)
instance disk_issue_ck (d0:Q0a) (m:(List Int)) (cmd:Int) (at0:Int):Ck (Qg9 d0 m cmd at0):=ckT (t:=Q67 d0 m cmd at0) (by delta Q67;infer_instance)
instance disk_Out_ck (d0:Q0a) (m:(List Int)) (port:Int) (v:Int) (at0:Int):Ck (Qio d0 m port v at0):=ckT (t:=Q9m d0 m port v at0) (by delta Q9m;infer_instance)
instance nic_send_ck (n:Q0n) (m:(List Int)) (at0:Int):Ck (Qju n m at0):=ckT (t:=Q9n n m at0) (by delta Q9n;infer_instance)
instance nic_Out_ck (n:Q0n) (m:(List Int)) (port:Int) (v:Int) (at0:Int):Ck (Qly n m port v at0):=ckT (t:=Qcc n m port v at0) (by delta Qcc;infer_instance)
instance Z9q (m:(List Int)) (frame:Int) (s:(List UInt8)):Ck (Q5j m frame s):=ckT (t:=Q2a m frame s) (by delta Q2a;infer_instance)
instance Z9k (s:(List UInt8)) (count:Int):Ck (Q3x s count):=let d:Decidable (Q3x s count):=(by delta Q3x;infer_instance);⟨@decide _ d,@of_decide_eq_true _ d⟩
instance balloon_Out_ck (b:Q07) (m:(List Int)) (port:Int) (v:Int):Ck (Qe2 b m port v):=ckT (t:=Q2r b m port v) (by delta Q2r;infer_instance)
instance Z4w (m:Q00) (port:Int) (v:Int) (at0:Int):Ck (Q7y m port v at0):=ckT (t:=Q27 m port v at0) (by delta Q27;infer_instance)
instance Zbi (m:Q00) (clock:Int):Ck (Q57 m clock):=ckT (t:=Q1x m clock) (by delta Q1x;infer_instance)
instance make_Round_ck (n:Int) (k:Int):Ck (Q2y n k):=ckT (t:=Qca n k) (by delta Qca;infer_instance)
instance make_Inst_ck (n:Int):Ck (Qmb n):=ckT (t:=Qho n) (by delta Qho;infer_instance)
instance make_Code_ck (l:(List Int)):Ck (Qzm l):=ckT (t:=Qlt l) (by delta Qlt;infer_instance)
instance ref1_New_ckf (pages:Int):Ck (Qfh pages):=ckT (t:=Qb6 pages) (by delta Qb6;infer_instance)
instance ref7_New_ckf (pages:Int) (blocks:Int) (image:(List Int)):Ck (Qc0 pages blocks image):=ckT (t:=Qbg pages blocks image) (by delta Qbg;infer_instance)
instance Zaw (a:(List Int)) (b:(List Int)):Ck (Q7j a b):=let d:Decidable (Q7j a b):=(by delta Q7j;infer_instance);⟨@decide _ d,@of_decide_eq_true _ d⟩
instance ref7_Same_ck (a:Q00) (b:Q00):Ck (Z19 a b):=ckT (t:=Qlu a b) (by delta Qlu;infer_instance)
instance Z1f (m:Q00):Ck (Q2l m):=ckT (t:=Q1f m) (by delta Q1f;infer_instance)
instance console_Type_ck (c:Q0b) (b:Int):Ck (Qcn c b):=ckT (t:=Q5p c b) (by delta Q5p;infer_instance)
instance Zbh (d0:Q0a) (m:(List Int)) (e:Q0p):Ck (Qb7 d0 m e):=ckT (t:=Q3k d0 m e) (by delta Q3k;infer_instance)
instance nic_Receive_ck (n:Q0n) (m:(List Int)) (frame:(List UInt8)):Ck (Qef n m frame):=ckT (t:=Q5f n m frame) (by delta Q5f;infer_instance)
instance Zbj (m:Q00) (e:Q0p):Ck (Q8g m e):=ckT (t:=Q2o m e) (by delta Q2o;infer_instance)
instance Zbg (script:(List Q0f)):Ck (Q1v script):=let d:Decidable (Q1v script):=(by delta Q1v;infer_instance);⟨@decide _ d,@of_decide_eq_true _ d⟩
instance bare_check_ckf (m:Q00) (script:(List Q0f)) (until0:Int):Ck (Qbk m script until0):=ckT (t:=Q5c m script until0) (by delta Q5c;infer_instance)
instance bare_Run_ckf (m:Q00) (script:(List Q0f)) (until0:Int):Ck (Qcf m script until0):=ckT (t:=Q7c m script until0) (by delta Q7c;infer_instance)
instance Qor (b:(List Int)) (s:(List UInt8)):Ck (Q2e b s):=ckT (t:=Q0y b s) (by delta Q0y;infer_instance)
instance Qqb (s:(List (List UInt8))):Ck (Q0m s):=let d:Decidable (Q0m s):=(by delta Q0m;infer_instance);⟨@decide _ d,@of_decide_eq_true _ d⟩
instance bare_See_ckf (disk:(List (List UInt8))) (l:(List Q06)):Ck (Qc3 disk l):=ckT (t:=Q8d disk l) (by delta Q8d;infer_instance)
end
def gM(mem:List Int)(x1 x2 x3 pc en:Int)(keys:List UInt8)(w:Bool)(c:Int):Q00:={B1:={X:={a0:=0,a1:=x1,a2:=x2,a3:=x3,a4:=0,a5:=0,a6:=0,a7:=0,a8:=0,a9:=0,a10:=0,a11:=0,a12:=0,a13:=0,a14:=0,a15:=0},Pc:=pc,B4:={a0:=1,a1:=0,a2:=0,a3:=0,a4:=0,a5:=0,a6:=0,a7:=en}},Mem:=mem,A2:={C9:=keys},A7:={D5:=false,C7:=0,D4:=false},A6:={Blocks:=0,B3:=0,B0:=0,B8:=0,D6:=0,B5:=0,A9:=0,C1:=[]},C5:={B0:=0,D9:=0,C4:=false,B9:=0,B7:=false,F0:=0},A1:={C6:=0,C0:=0},A0:=c,A3:=w,A4:=false}
theorem key_apply(mem:List Int)(x1 x2 x3 pc en:Int)(keys:List UInt8)(w:Bool)(c n:Int)(hn:n≤255)(hk:keys.length<16):
   Q2f (gM mem x1 x2 x3 pc en keys w c) {B2:=3,N:=n,C3:=[]}=(true,gM mem x1 x2 x3 pc en (keys++[UInt8.ofNat (IntKind.wrap .u8 n).toNat]) w c):=by
 have h1:decide (n≤255)=true:=decide_eq_true hn
 have h2:decide ((keys.length:Int)≥16)=false:=decide_eq_false (by omega)
 have ht:Qmp {C9:=keys} (IntKind.wrap .u8 n)=({C9:=keys++[UInt8.ofNat (IntKind.wrap .u8 n).toNat]},true):=by
   show(bif decide ((keys.length:Int)≥16) then _ else _)=_
   rw[h2];rfl
 have step: ∀r:Q0b×Bool,Qmp {C9:=keys} (IntKind.wrap .u8 n)=r→Q2f (gM mem x1 x2 x3 pc en keys w c) {B2:=3,N:=n,C3:=[]}=(r.2,{gM mem x1 x2 x3 pc en keys w c with A2:=r.1}):=by
   intro r hr
   subst hr
   show(bif decide (n≤255) then _ else _)=_
   rw[h1];rfl
 rw[step _ ht];rfl
def kv(k:UInt8):Int:=IntKind.wrap .u32 ((k.toNat:Nat):Int)
abbrev SeeS:=List (List UInt8)×List (List UInt8)×List Int
def seeS(s:SeeS)(z:Q06):SeeS:=
 bif z.B2==1 then(s.1,s.2.1,s.2.2++Q4q z.C3) else bif z.B2==2 then(s.1++[z.C3],s.2.1,s.2.2) else bif z.B2==4 then bif decide (z.B3<(s.2.1.length:Int)) then(s.1,s.2.1.set z.B3.toNat z.C3,s.2.2) else s else s
def viewS(s:SeeS):Q2t:={A2:=bytesOf s.2.2,D2:=s.1,A6:=s.2.1}
theorem seeS_disk(s:SeeS)(z:Q06):(seeS s z).2.1.length=s.2.1.length:=by
 unfold seeS
 cases z.B2==1<;>cases z.B2==2<;>cases z.B2==4<;>cases decide (z.B3<(s.2.1.length:Int))<;>simp
theorem Z6h(s:SeeS)(z:Q06):(seeS s z).1.length≤s.1.length+1:=by
 unfold seeS
 cases z.B2==1<;>cases z.B2==2<;>cases z.B2==4<;>cases decide (z.B3<(s.2.1.length:Int))<;>simp
theorem Qng(l:List UInt8):(Q4q l).length=l.length:=by simp [Q4q]
theorem seeS_con(s:SeeS)(z:Q06):(seeS s z).2.2.length≤s.2.2.length+z.C3.length:=by
 unfold seeS
 cases z.B2==1<;>cases z.B2==2<;>cases z.B2==4<;>cases decide (z.B3<(s.2.1.length:Int))<;>simp [Qng]
theorem takeS{α β:Type}(f:β→α→β)(b:β)(l:List α)(i:Nat)(h:i<l.length):(l.take (i+1)).foldl f b=f ((l.take i).foldl f b) l[i]:=by
 rw[List.take_succ_eq_append_getElem h,List.foldl_append];rfl
theorem bsee_w{disk:List (List UInt8)}{l:List Q06}(hd:disk.length≤100000)(hl:l.length≤100000)(hz: ∀z∈l,U z.B3∧z.C3.length≤1000):
    (Q8d disk l).w (λv=>v=viewS (l.foldl seeS ([],disk,[]))):=by
  unfold Q8d
  refine w_an (show disk.length≤1000000000000 by omega) (w_lv λx0 h0=> ?_)
  have h0:x0=disk:=h0
  rw[h0]
  refine w_lp (inv:=λv:Int×Q2t×List Int=>0≤v.1∧v.1≤l.length∧ ∃S:SeeS,S=(l.take v.1.toNat).foldl seeS ([],disk,[])∧v.2.1={A2:=[],D2:=S.1,A6:=S.2.1}∧v.2.2=S.2.2∧(S.1.length:Int)≤v.1∧S.2.1.length=disk.length∧(S.2.2.length:Int)≤1000*v.1) (μ:=Ql1 disk l)
    ⟨Int.le_refl 0,by show(0:Int)≤_;omega,([],disk,[]),rfl,rfl,rfl,Int.le_refl _,rfl,by show((0:Nat):Int)≤1000*0;omega⟩ (Nat.lt_succ_self _) λv ⟨v1,v2,S,s1,s2,s3,s4,s5,s6⟩=> ?_
  obtain⟨i,V,con⟩:=v
  have v1:0≤i:=v1
  have v2:i≤l.length:=v2
  have s1:S=(l.take i.toNat).foldl seeS ([],disk,[]):=s1
  have s2:V={A2:=[],D2:=S.1,A6:=S.2.1}:=s2
  have s3:con=S.2.2:=s3
  have s4:(S.1.length:Int)≤i:=s4
  have s6:(S.2.2.length:Int)≤1000*i:=s6
  subst s2
  subst s3
  have ew:IntKind.i64.wrap (i+1)=i+1:=by rw[IntKind.wrap_i64];omega
  refine w_br (λhb=> ?_) λhb=> ?_
  · have hi:i<l.length:=of_decide_eq_true hb
    have hlt:i.toNat<l.length:=by omega
    have cc:(Nat.beq 4 4&&Nat.blt 0 4&&decide (0≤i∧i<((l.length:Nat):Int)))=true:=by simp [Nat.blt];omega
    have eg:l.getD i.toNat (RK.dflt RK.apiOutput)=l[i.toNat]:=by rw[List.getD_eq_getElem?_getD,List.getElem?_eq_getElem hlt];rfl
    obtain⟨z1,z2⟩:=hz (l.getD i.toNat (RK.dflt RK.apiOutput)) (by rw[eg];exact List.getElem_mem hlt)
    have tk:=takeS seeS ([],disk,[]) l i.toNat hlt
    rw[←s1,←eg]at tk
    have nx: ∀S':SeeS,S'=seeS S (l.getD i.toNat (RK.dflt RK.apiOutput))→(0≤IntKind.i64.wrap (i+1)∧IntKind.i64.wrap (i+1)≤l.length∧ ∃S:SeeS,S=(l.take (IntKind.i64.wrap (i+1)).toNat).foldl seeS ([],disk,[])∧({A2:=[],D2:=S'.1,A6:=S'.2.1}:Q2t)={A2:=[],D2:=S.1,A6:=S.2.1}∧S'.2.2=S.2.2∧(S.1.length:Int)≤IntKind.i64.wrap (i+1)∧S.2.1.length=disk.length∧(S.2.2.length:Int)≤1000*IntKind.i64.wrap (i+1))∧(l.length-IntKind.i64.wrap (i+1)).toNat<(l.length-i).toNat:=by
      intro S' hS
      have f1:=Z6h S (l.getD i.toNat (RK.dflt RK.apiOutput))
      have f2:=seeS_disk S (l.getD i.toNat (RK.dflt RK.apiOutput))
      have f3:=seeS_con S (l.getD i.toNat (RK.dflt RK.apiOutput))
      rw[←hS]at f1 f2 f3 tk
      rw[ew,show(i+1).toNat=i.toNat+1 by omega]
      exact⟨⟨by omega,by omega,S',tk.symm,rfl,rfl,by omega,by omega,by omega⟩,by omega⟩
    refine w_cn cc ?_
    dsimp only
    refine w_br (λh1=> ?_) λh1=>w_br (λh2=>w_cn (decide_eq_true (by omega)) (w_nx ?_)) λh2=>w_br (λh4=>w_br (λhbk=> ?_) λhbk=>w_nx ?_) λh4=>w_nx ?_
    · refine w_an (show(Q0y S.2.2 (l.getD i.toNat (RK.dflt RK.apiOutput)).C3).p from w_lv λx hx=>w_cn (decide_eq_true ?_) trivial) (w_lv λx hx=>w_nx ?_)
      · have hx:x=S.2.2:=hx
        rw[hx,Qng];omega
      · have hx:x=((((l.getD i.toNat (RK.dflt RK.apiOutput)).C3.length:Nat):Int),(),S.2.2++Q4q (l.getD i.toNat (RK.dflt RK.apiOutput)).C3):=hx
        rw[hx]
        exact nx (S.1,S.2.1,S.2.2++Q4q (l.getD i.toNat (RK.dflt RK.apiOutput)).C3) (by unfold seeS;rw[h1];rfl)
    · exact nx (S.1++[(l.getD i.toNat (RK.dflt RK.apiOutput)).C3],S.2.1,S.2.2) (by unfold seeS;rw[h1,h2];rfl)
    · have hbk:=of_decide_eq_true hbk
      rw[IntKind.wrap_u64,IntKind.wrap_u64]at hbk
      obtain⟨u1,u2⟩:=z1
      have hb:(l.getD i.toNat (RK.dflt RK.apiOutput)).B3<(S.2.1.length:Int):=by omega
      refine w_cn (by rw[decide_eq_true ⟨u1,hb⟩];rfl) (w_nx (nx (S.1,S.2.1.set (l.getD i.toNat (RK.dflt RK.apiOutput)).B3.toNat (l.getD i.toNat (RK.dflt RK.apiOutput)).C3,S.2.2) ?_))
      unfold seeS;rw[h1,h2,h4,decide_eq_true hb];rfl
    · have hbk:=of_decide_eq_false hbk
      rw[IntKind.wrap_u64,IntKind.wrap_u64]at hbk
      obtain⟨u1,u2⟩:=z1
      have hb: ¬(l.getD i.toNat (RK.dflt RK.apiOutput)).B3<(S.2.1.length:Int):=by omega
      exact nx S (by unfold seeS;rw[h1,h2,h4,decide_eq_false hb];rfl)
    · exact nx S (by unfold seeS;rw[h1,h2,h4];rfl)
  · have hi: ¬i<l.length:=of_decide_eq_false hb
    refine w_lv λx hx=> ?_
    have hx:x=(bytesOf S.2.2,S.2.2):=hx
    show({A2:=x.1,D2:=S.1,A6:=S.2.1}:Q2t)=_
    rw[hx,←List.take_of_length_le (l:=l) (i:=i.toNat) (by omega),←s1];rfl
theorem Z5s(a b:List Int):bytesOf (a++b)=bytesOf a++bytesOf b:=by simp [bytesOf]
theorem byte_id(b:UInt8):UInt8.ofNat b.toNat=b:=by simp
theorem Z8y: ∀l:List UInt8,bytesOf (Q4q l)=l
 |[]=>rfl
 | b::l=>by
   show UInt8.ofNat (((b.toNat:Nat):Int)).toNat::bytesOf (Q4q l)=b::l
   rw[Z8y l,Int.toNat_natCast,byte_id]
theorem Z2m: ∀(l:List Q06),(∀z∈l,z.B2=1)→ ∀S:SeeS,bytesOf (l.foldl seeS S).2.2=bytesOf S.2.2++l.flatMap (·.C3)
 |[],_,S=>by simp
 | z::l,h,S=>by
   have hz:seeS S z=(S.1,S.2.1,S.2.2++Q4q z.C3):=by unfold seeS;rw[h z (by simp)];rfl
   rw[List.foldl_cons,Z2m l (λy hy=>h y (by simp [hy])),hz,Z5s,Z8y,List.flatMap_cons,List.append_assoc]
set_option synthInstance.maxHeartbeats 2000000
set_option synthInstance.maxSize 100000
noncomputable section
theorem echo_pre:Qhi:=ck (ckT (t:=Qek) (by delta Qek;infer_instance)) (by kernel_rfl)
end
def Z6w:List Int:=[1007681537,672202751,1008730112,1025507328,805371900,0,0,0,0,0,0,0,0,0,0,0,0,0,0,0,0,0,0,0,0,0,0,0,0,0,0,0]
def eM(x1 x2 pc:Int)(keys:List UInt8)(c:Int):Q00:=gM Z6w x1 x2 0 pc 0 keys false c
theorem echo_eq:Qtd=eM 0 0 0 [] 0:=by kernel_rfl
theorem eadv0(x1 x2 c:Int)(ks:List UInt8)(clk:Int):Q09 (eM x1 x2 0 ks c) clk=([],eM (IntKind.wrap .u32 (ks.length:Int)) x2 4 ks (IntKind.wrap .u64 (c+1))):=by kernel_rfl
theorem eadv4(x2 c:Int)(ks:List UInt8)(clk:Int):Q09 (eM 0 x2 4 ks c) clk=([],eM 0 x2 0 ks (IntKind.wrap .u64 (c+1))):=by kernel_rfl
theorem eadv4'(x1 x2 c:Int)(ks:List UInt8)(clk:Int)(h:0<x1)(h1:x1<16):Q09 (eM x1 x2 4 ks c) clk=([],eM x1 x2 8 ks (IntKind.wrap .u64 (c+1))):=by
 rcases(by omega:x1=1∨x1=2∨x1=3∨x1=4∨x1=5∨x1=6∨x1=7∨x1=8∨x1=9∨x1=10∨x1=11∨x1=12∨x1=13∨x1=14∨x1=15) with rfl|rfl|rfl|rfl|rfl|rfl|rfl|rfl|rfl|rfl|rfl|rfl|rfl|rfl|rfl<;>kernel_rfl
theorem eadv8(x1 x2 c:Int)(k:UInt8)(ks:List UInt8)(clk:Int):Q09 (eM x1 x2 8 (k::ks) c) clk=([],eM x1 (kv k) 12 (List.take (((k::ks).length:Int).toNat-(1:Int).toNat) ks) (IntKind.wrap .u64 (c+1))):=by kernel_rfl
theorem eadv12(x1 x2 c:Int)(ks:List UInt8)(clk:Int):Q09 (eM x1 x2 12 ks c) clk=([{B2:=1,At:=c,B3:=0,C3:=[UInt8.ofNat (IntKind.wrap .u8 x2).toNat]}],eM x1 x2 16 ks (IntKind.wrap .u64 (c+1))):=by kernel_rfl
theorem eadv16(x1 x2 c:Int)(ks:List UInt8)(clk:Int):Q09 (eM x1 x2 16 ks c) clk=([],eM x1 x2 0 ks (IntKind.wrap .u64 (c+1))):=by kernel_rfl
theorem ereads(x1 x2 c pc:Int)(ks:List UInt8)(h:pc=0∨pc=4∨pc=8∨pc=12∨pc=16):Qgd (eM x1 x2 pc ks c)=false:=by
 rcases h with rfl|rfl|rfl|rfl|rfl<;>kernel_rfl
structure EV(x1 x2 pc:Int)(ks:List UInt8)(c:Int):Prop where
 g:good 1 (eM x1 x2 pc ks c)
 c0:0≤c
 pc:pc=0∨(pc=4∧(x1=0∨(0<x1∧x1<16∧ks≠[])))∨(pc=8∧ks≠[])∨pc=12∨pc=16
def pend(pc x2:Int)(ks:List UInt8):List UInt8:=if pc=12 then UInt8.ofNat (IntKind.wrap .u8 x2).toNat::ks else ks
def dr(x1 pc:Int)(ks:List UInt8):Int:=
 if pc=4 then(if x1=0 then(if ks.length=0 then 0 else 5*ks.length+1) else 5*ks.length-1) else if pc=8 then 5*ks.length-2 else if pc=12 then 5*ks.length+2 else if pc=16 then 5*ks.length+1 else 5*ks.length
theorem Qcy{ks:List UInt8}(h:ks≠[]):0<ks.length:=List.length_pos_iff.2 h
theorem Z1j{x1 x2 pc:Int}{ks:List UInt8}{c:Int}(h:EV x1 x2 pc ks c):0≤dr x1 pc ks:=by
 rcases h.pc with rfl|⟨rfl,hq⟩|⟨rfl,hq⟩|rfl|rfl
 · simp [dr];omega
 · rcases hq with rfl|⟨h1,h2,h3⟩
   · simp only[dr,if_true];split<;>omega
   · have:=Qcy h3
     have h0: ¬x1=0:=by omega
     simp only[dr,if_true,if_neg h0];omega
 · have:=Qcy hq
   simp [dr];omega
 · simp [dr];omega
 · simp [dr];omega
theorem estep{x1 x2 pc:Int}{ks:List UInt8}{c:Int}(h:EV x1 x2 pc ks c)(hc:c<1000000)(hk:ks.length<16):
    ∃y1 y2 qc js o,Q1q (eM x1 x2 pc ks c)=false∧Q19 (eM x1 x2 pc ks c)=false∧Q09 (eM x1 x2 pc ks c) 0=(o,eM y1 y2 qc js (c+1))∧EV y1 y2 qc js (c+1)∧(∀z∈o,z.B2=1∧U z.B3∧z.C3.length≤1000)∧o.flatMap (·.C3)++pend qc y2 js=pend pc x2 ks∧dr y1 qc js≤max 0 (dr x1 pc ks-1)∧js.length≤ks.length:=by
  have c0:=h.c0
  have wc:IntKind.wrap .u64 (c+1)=c+1:=by rw[IntKind.wrap_u64];omega
  have idl: ∀p,Q2w (eM x1 x2 p ks c)=false:=λp=>by kernel_rfl
  have st:Q1q (eM x1 x2 pc ks c)=false:=by
    rw[Qwx h.g,idl]
    show(bif false then true else bif false then true else(c==1152921504606846976))=false
    exact beq_false_of_ne (by omega)
  have rd:Q19 (eM x1 x2 pc ks c)=false:=by
    have e:Q19 (eM x1 x2 pc ks c)=bif Q1q (eM x1 x2 pc ks c) then false else Qgd (eM x1 x2 pc ks c):=rfl
    rw[e,st,ereads x1 x2 c pc ks (by rcases h.pc with h|⟨h,_⟩|⟨h,_⟩|h|h<;>simp [h])];rfl
  have gn:=(Qbn h.g st (clock:=0) U_0).1
  have mk: ∀{y1 y2 qc:Int} {js:List UInt8} {o:List Q06},Q09 (eM x1 x2 pc ks c) 0=(o,eM y1 y2 qc js (IntKind.wrap .u64 (c+1)))→(qc=0∨(qc=4∧(y1=0∨(0<y1∧y1<16∧js≠[])))∨(qc=8∧js≠[])∨qc=12∨qc=16)→
      Q09 (eM x1 x2 pc ks c) 0=(o,eM y1 y2 qc js (c+1))∧EV y1 y2 qc js (c+1):=by
    intro y1 y2 qc js o e hp
    rw[wc]at e
    rw[e]at gn
    exact⟨e,gn,by omega,hp⟩
  have nl: ∀z∈([]:List Q06),z.B2=1∧U z.B3∧z.C3.length≤1000:=λz hz=>absurd hz List.not_mem_nil
  rcases h.pc with rfl|⟨rfl,hx⟩|⟨rfl,hx⟩|rfl|rfl
  · have wl:IntKind.wrap .u32 ((ks.length:Nat):Int)=ks.length:=by rw[IntKind.wrap_u32];omega
    have e:=eadv0 x1 x2 c ks 0
    rw[wl]at e
    obtain⟨e1,e2⟩:=mk e (.inr (.inl ⟨rfl,by
      by_cases h0:ks=[]
      · left;rw[h0];rfl
      · right;have:=Qcy h0;exact⟨by omega,by omega,h0⟩⟩))
    refine⟨_,_,_,_,_,st,rd,e1,e2,nl,by simp [pend],?_,Nat.le_refl _⟩
    have e0:dr x1 0 ks=5*ks.length:=by simp [dr]
    rw[e0]
    by_cases h0:ks=[]
    · rw[h0];simp [dr];exact Int.le_max_left _ _
    · have hl:=Qcy h0
      have h1: ¬((ks.length:Nat):Int)=0:=by omega
      have e4:dr ((ks.length:Nat):Int) 4 ks=5*ks.length-1:=by unfold dr;rw[if_pos rfl,if_neg h1]
      rw[e4];omega
  · rcases hx with rfl|⟨h1,h2,h3⟩
    · obtain⟨e1,e2⟩:=mk (eadv4 x2 c ks 0) (.inl rfl)
      refine⟨_,_,_,_,_,st,rd,e1,e2,nl,by simp [pend],?_,Nat.le_refl _⟩
      have e0:dr 0 0 ks=5*ks.length:=by simp [dr]
      rw[e0]
      by_cases h0:ks.length=0
      · have e4:dr 0 4 ks=0:=by unfold dr;rw[if_pos rfl,if_pos rfl,if_pos h0]
        rw[e4];omega
      · have e4:dr 0 4 ks=5*ks.length+1:=by unfold dr;rw[if_pos rfl,if_pos rfl,if_neg h0]
        rw[e4];omega
    · obtain⟨e1,e2⟩:=mk (eadv4' x1 x2 c ks 0 h1 h2) (.inr (.inr (.inl ⟨rfl,h3⟩)))
      refine⟨_,_,_,_,_,st,rd,e1,e2,nl,by simp [pend],?_,Nat.le_refl _⟩
      have:=Qcy h3
      have h0: ¬x1=0:=by omega
      simp [dr,h0]
      omega
  · cases ks with
    |nil=>exact absurd rfl hx
    | cons k ks=>
      have e:=eadv8 x1 x2 c k ks 0
      have tk:List.take (((k::ks).length:Int).toNat-(1:Int).toNat) ks=ks:=by
        rw[List.take_of_length_le];rw[List.length_cons];omega
      rw[tk]at e
      obtain⟨e1,e2⟩:=mk e (.inr (.inr (.inr (.inl rfl))))
      refine⟨_,_,_,_,_,st,rd,e1,e2,nl,?_,?_,by rw[List.length_cons];omega⟩
      · have kl:k.toNat<256:=k.toNat_lt
        have w6:kv k=k.toNat:=by unfold kv;rw[IntKind.wrap_u32];omega
        have w7:UInt8.ofNat (IntKind.wrap .u8 (kv k)).toNat=k:=by
          rw[w6,IntKind.wrap_u8,show((k.toNat:Nat):Int)%256=k.toNat by omega,Int.toNat_natCast,byte_id]
        show []++pend 12 (kv k) ks=pend 8 x2 (k::ks)
        simp [pend,w7]
      · simp [dr]
        omega
  · obtain⟨e1,e2⟩:=mk (eadv12 x1 x2 c ks 0) (.inr (.inr (.inr (.inr rfl))))
    refine⟨_,_,_,_,_,st,rd,e1,e2,λz hz=>by rw[List.mem_singleton.1 hz];exact⟨rfl,U_0,by simp⟩,by simp [pend],?_,Nat.le_refl _⟩
    simp [dr]
    omega
  · obtain⟨e1,e2⟩:=mk (eadv16 x1 x2 c ks 0) (.inl rfl)
    refine⟨_,_,_,_,_,st,rd,e1,e2,nl,by simp [pend],?_,Nat.le_refl _⟩
    simp [dr]
    omega
def okO(o:List Q06):Prop:= ∀z∈o,z.B2=1∧U z.B3∧z.C3.length≤1000
theorem okO.app{a b:List Q06}(h:okO a)(g:okO b):okO (a++b):=λz hz=>(List.mem_append.1 hz).elim (h z) (g z)
theorem esteps(n:Nat): ∀{x1 x2 pc:Int} {ks:List UInt8} {c:Int},EV x1 x2 pc ks c→c+n<1000000→ks.length<16→
   ∃y1 y2 qc js o,Q7k (eM x1 x2 pc ks c) [] o (eM y1 y2 qc js (c+n))∧EV y1 y2 qc js (c+n)∧okO o∧o.flatMap (·.C3)++pend qc y2 js=pend pc x2 ks∧dr y1 qc js≤max 0 (dr x1 pc ks-n)∧js.length≤ks.length:=by
 induction n with
 | zero=>
   intro x1 x2 pc ks c h _ _
   have:=Z1j h
   have e:c+((0:Nat):Int)=c:=by omega
   rw[e]
   exact⟨x1,x2,pc,ks,[], .nil,h,λz hz=>absurd hz List.not_mem_nil,rfl,by omega,Nat.le_refl _⟩
 | succ n ih=>
   intro x1 x2 pc ks c h hc hk
   obtain⟨y1,y2,qc,js,o,s1,s2,s3,s4,s5,s6,s7,s8⟩:=estep h (by omega) hk
   obtain⟨z1,z2,rc,is,p,t1,t2,t3,t4,t5,t6⟩:=ih s4 (by omega) (by omega)
   have e:c+1+(n:Int)=c+((n+1:Nat):Int):=by omega
   rw[e]at t1 t2
   refine⟨z1,z2,rc,is,o++p,?_,t2,okO.app s5 t3,?_,by omega,by omega⟩
   · have:=Q7k.st (c:=0) (m:=eM x1 x2 pc ks c) (L:=[]) (o:=p) (n:=eM z1 z2 rc is (c+((n+1:Nat):Int))) s1 s2 U_0 (by rw[s3];exact t1)
     rw[s3]at this;exact this
   · rw[List.flatMap_append,List.append_assoc,t4,s6]
def keyB(s:List Q0f):List UInt8:=s.map λe=>UInt8.ofNat (IntKind.wrap .u8 e.C2.N).toNat
def isKey(e:Q0f):Prop:=e.C2.B2=3∧e.C2.C3=[]∧0≤e.C2.N∧e.C2.N≤255
theorem escript(B T:Int)(hT:T<1000000)(hBT:B≤T): ∀(s:List Q0f) {x1 x2 pc:Int} {ks:List UInt8} {c:Int},EV x1 x2 pc ks c→c≤B→ks.length+s.length<16→(∀e∈s,isKey e∧c≤e.At∧e.At≤B)→(s.Pairwise λa b=>a.At≤b.At)→
    ∃y1 y2 qc js o,Q7k (eM x1 x2 pc ks c) s o (eM y1 y2 qc js T)∧EV y1 y2 qc js T∧okO o∧o.flatMap (·.C3)++pend qc y2 js=pend pc x2 ks++keyB s∧dr y1 qc js≤max 0 (dr x1 pc ks+6*s.length-(T-B)):=by
  intro s
  induction s with
  | nil=>
    intro x1 x2 pc ks c h hc hk _ _
    obtain⟨y1,y2,qc,js,o,t1,t2,t3,t4,t5,t6⟩:=esteps (T-c).toNat h (by omega) (by simpa using hk)
    have e:c+(((T-c).toNat:Nat):Int)=T:=by omega
    rw[e]at t1 t2
    refine⟨y1,y2,qc,js,o,t1,t2,t3,by rw[t4];simp [keyB],?_⟩
    have e0:(([]:List Q0f).length:Int)=0:=rfl
    rw[e0];omega
  | cons e s ih=>
    intro x1 x2 pc ks c h hc hk hs hp
    obtain⟨⟨k1,k2,k3,k4⟩,e1,e2⟩:=hs e (by simp)
    obtain⟨p1,p2⟩:=List.pairwise_cons.1 hp
    rw[List.length_cons]at hk
    obtain⟨y1,y2,qc,js,o,t1,t2,t3,t4,t5,t6⟩:=esteps (e.At-c).toNat h (by omega) (by omega)
    have ee:c+(((e.At-c).toNat:Nat):Int)=e.At:=by omega
    rw[ee]at t1 t2
    have ap:Q2f (eM y1 y2 qc js e.At) e.C2=(true,eM y1 y2 qc (js++[UInt8.ofNat (IntKind.wrap .u8 e.C2.N).toNat]) e.At):=by
      obtain⟨A,K,N,D⟩:=e
      have k1:K=3:=k1
      have k2:D=[]:=k2
      subst k1;subst k2
      exact key_apply Z6w y1 y2 0 qc 0 js false A N k4 (by omega)
    have g2:=(Qmn t2.g (e:=e.C2) ⟨k3,by omega⟩).1
    rw[ap]at g2
    generalize hb:UInt8.ofNat (IntKind.wrap .u8 e.C2.N).toNat=b at*
    have ev2:EV y1 y2 qc (js++[b]) e.At:=⟨g2,t2.c0,by
      rcases t2.pc with h|⟨h,h'⟩|⟨h,_⟩|h|h
      · exact .inl h
      · exact .inr (.inl ⟨h,h'.imp id fun⟨a,b,_⟩=>⟨a,b,by simp⟩⟩)
      · exact .inr (.inr (.inl ⟨h,by simp⟩))
      · exact .inr (.inr (.inr (.inl h)))
      · exact .inr (.inr (.inr (.inr h)))⟩
    have d0:=Z1j h
    have d2:dr y1 qc (js++[b])≤dr y1 qc js+6:=by
      unfold dr
      rw[List.length_append,List.length_singleton]
      have:((js.length+1:Nat):Int)=js.length+1:=by omega
      rw[this]
      split
      · split
        · rw[if_neg (by omega)]
          split<;>omega
        · omega
      · split
        · omega
        · split
          · omega
          · split<;>omega
    obtain⟨z1,z2,rc,is,p,u1,u2,u3,u4,u5⟩:=ih ev2 e2 (by rw[List.length_append,List.length_singleton];omega) (λf hf=>⟨(hs f (by simp [hf])).1,p1 f hf,(hs f (by simp [hf])).2.2⟩) p2
    refine⟨z1,z2,rc,is,o++p,?_,u2,okO.app t3 u3,?_,?_⟩
    · have tv:=Q7k.ev (m:=eM y1 y2 qc js e.At) (e:=e.C2) (L:=s) (o:=p) (n:=eM z1 z2 rc is T) trivial (by rw[k1];decide) ⟨k3,by omega⟩ (by rw[ap];exact u1)
      exact t1.trans tv
    · rw[List.flatMap_append,List.append_assoc,u4]
      have pb:pend qc y2 (js++[b])=pend qc y2 js++[b]:=by unfold pend;split<;>simp
      rw[pb,List.append_assoc,←List.append_assoc,←List.append_assoc,t4]
      simp [keyB,hb]
    · rw[List.length_cons]
      omega
theorem dr_zero{x1 x2 pc:Int}{ks:List UInt8}{c:Int}(h:EV x1 x2 pc ks c)(hd:dr x1 pc ks≤0):pend pc x2 ks=[]:=by
 rcases h.pc with rfl|⟨rfl,hq⟩|⟨rfl,hq⟩|rfl|rfl
 · simp [dr]at hd
   simp [pend];exact List.eq_nil_of_length_eq_zero (by omega)
 · rcases hq with rfl|⟨h1,h2,h3⟩
   · simp only[dr,if_true]at hd
     split at hd
     · simp [pend];exact List.eq_nil_of_length_eq_zero (by assumption)
     · omega
   · have:=Qcy h3
     have h0: ¬x1=0:=by omega
     simp only[dr,if_true,if_neg h0]at hd
     omega
 · have:=Qcy hq
   simp [dr]at hd;omega
 · simp [dr]at hd;omega
 · simp [dr]at hd;omega
theorem at_pre(gaps:List Int)(i:Int)(hg:gaps.length*8≤reachBytes):Qm3 gaps i:=by
 show(Qja gaps i).p
 unfold Tree.p Qja
 refine w_br (λ_=>trivial) λh=> ?_
 have h: ¬((gaps.length:Nat):Int)=0:=by simpa using h
 have hb:reachBytes≤4611686018427387904:=by decide
 have rr:=Qtm (n:=i) (k:=(gaps.length:Int)) (by omega) (by omega)
 refine w_an (Z2u h) (w_lv λx hx=>w_cn ?_ trivial)
 rw[hx,decide_eq_true rr];rfl
theorem echo_g:good 1 (eM 0 0 0 [] 0):=by
 refine⟨⟨⟨U_all 16,⟨by decide,by decide⟩,λw hw=>by
   have:w=1∨w=0:=by simp [eM,gM,A8.l]at hw;omega
   rcases this with rfl|rfl<;>exact⟨by decide,by decide⟩⟩,⟨rfl,by omega,by omega,(asm_gen Z6w (by kernel_rfl)).2⟩,⟨U_0,U_0,U_0,U_0⟩,⟨U_0,U_0,U_0,U_0⟩,⟨U_0,U_0⟩,by decide⟩,by kernel_rfl⟩
theorem drivers(keys gaps:List Int)(hk: ∀n∈keys,0≤n∧n≤255)(hg:gaps.length*8≤reachBytes):Qc1 keys gaps∧Qau keys gaps=true:=by
  refine Tree.pp (W:=λr=>r=true) ?_
  unfold Q6x
  refine w_br (λ_=>aw13k rfl) λh12=>w_an echo_pre (w_lv λm hm=> ?_)
  have h12: ¬((keys.length:Nat):Int)>12:=of_decide_eq_false h12
  rw[hm,echo_eq]
  refine w_lp (inv:=λv:List UInt8×Int×Int×List Q0f=>0≤v.2.2.1∧v.2.2.1≤keys.length∧(v.2.2.2.length:Int)=v.2.2.1∧20≤v.2.1∧v.2.1≤20+14*v.2.2.1∧(∀e∈v.2.2.2,isKey e∧0≤e.At∧e.At≤v.2.1)∧(v.2.2.2.Pairwise λa b=>a.At≤b.At)∧v.1=keyB v.2.2.2∧(v.1.length:Int)=v.2.2.1) (μ:=Q9x keys gaps)
    ⟨Int.le_refl 0,by show(0:Int)≤_;omega,rfl,by decide,by decide,λe he=>absurd he List.not_mem_nil, .nil,rfl,rfl⟩ (Nat.lt_succ_self _) λv ⟨v1,v2,v3,v4,v5,v6,v7,v8,v9⟩=> ?_
  obtain⟨want,pos,i,s⟩:=v
  have v1:0≤i:=v1
  have v2:i≤keys.length:=v2
  have v3:(s.length:Int)=i:=v3
  have v4:20≤pos:=v4
  have v5:pos≤20+14*i:=v5
  have v6: ∀e∈s,isKey e∧0≤e.At∧e.At≤pos:=v6
  have v7:s.Pairwise λa b=>a.At≤b.At:=v7
  have v8:want=keyB s:=v8
  have v9:(want.length:Int)=i:=v9
  refine w_br (λhb=> ?_) λhb=> ?_
  · have hi:i<keys.length:=of_decide_eq_true hb
    have hlt:i.toNat<keys.length:=by omega
    have ew:IntKind.i64.wrap (i+1)=i+1:=by rw[IntKind.wrap_i64];omega
    have eg:keys.getD i.toNat 0=keys[i.toNat]:=by rw[List.getD_eq_getElem?_getD,List.getElem?_eq_getElem hlt];rfl
    have kr:=hk (keys.getD i.toNat 0) (by rw[eg];exact List.getElem_mem hlt)
    refine w_an (at_pre gaps i hg) (w_lv λx2 _=>w_an (Z2u (by decide)) (w_lv λx3 h3=> ?_))
    have rr:=Qtm (n:=x2) (k:=15) (by decide) (by decide)
    rw[←h3]at rr
    have wx:IntKind.wrap .u64 x3=x3:=by rw[IntKind.wrap_u64];omega
    have wp:IntKind.wrap .u64 (pos+x3)=pos+x3:=by rw[IntKind.wrap_u64];omega
    have wk:IntKind.wrap .u32 (keys.getD i.toNat 0)=keys.getD i.toNat 0:=by rw[IntKind.wrap_u32];omega
    have cc:(Nat.beq 1 1&&Nat.blt 0 1&&decide (0≤i∧i<((keys.length:Nat):Int)))=true:=by rw[decide_eq_true ⟨v1,hi⟩];rfl
    refine w_cn cc (w_cn (decide_eq_true (by show 40*(s.length+1)≤_;omega)) (w_cn cc (w_cn (decide_eq_true (by show want.length+1≤maxLen;unfold maxLen;omega)) (w_nx ?_))))
    show(0≤IntKind.i64.wrap (i+1)∧IntKind.i64.wrap (i+1)≤keys.length∧((s++[({At:=IntKind.wrap .u64 (pos+IntKind.wrap .u64 x3),C2:={B2:=3,N:=IntKind.wrap .u32 (keys.getD i.toNat 0),C3:=[]}}:Q0f)]).length:Int)=IntKind.i64.wrap (i+1)∧20≤IntKind.wrap .u64 (pos+IntKind.wrap .u64 x3)∧IntKind.wrap .u64 (pos+IntKind.wrap .u64 x3)≤20+14*IntKind.i64.wrap (i+1)∧
      (∀e∈s++[({At:=IntKind.wrap .u64 (pos+IntKind.wrap .u64 x3),C2:={B2:=3,N:=IntKind.wrap .u32 (keys.getD i.toNat 0),C3:=[]}}:Q0f)],isKey e∧0≤e.At∧e.At≤IntKind.wrap .u64 (pos+IntKind.wrap .u64 x3))∧((s++[({At:=IntKind.wrap .u64 (pos+IntKind.wrap .u64 x3),C2:={B2:=3,N:=IntKind.wrap .u32 (keys.getD i.toNat 0),C3:=[]}}:Q0f)]).Pairwise λa b=>a.At≤b.At)∧
      want++[UInt8.ofNat (keys.getD i.toNat 0).toNat]=keyB (s++[({At:=IntKind.wrap .u64 (pos+IntKind.wrap .u64 x3),C2:={B2:=3,N:=IntKind.wrap .u32 (keys.getD i.toNat 0),C3:=[]}}:Q0f)])∧((want++[UInt8.ofNat (keys.getD i.toNat 0).toNat]).length:Int)=IntKind.i64.wrap (i+1))∧(keys.length-IntKind.i64.wrap (i+1)).toNat<(keys.length-i).toNat
    rw[ew,wx,wp,wk]
    have w8:IntKind.wrap .u8 (keys.getD i.toNat 0)=keys.getD i.toNat 0:=by rw[IntKind.wrap_u8];omega
    refine⟨⟨by omega,by omega,by rw[List.length_append,List.length_singleton];omega,by omega,by omega,λe he=> ?_,?_,?_,by rw[List.length_append,List.length_singleton];omega⟩,by omega⟩
    · rcases List.mem_append.1 he with he|he
      · obtain⟨a,b,c⟩:=v6 e he
        exact⟨a,b,by omega⟩
      · rw[List.mem_singleton.1 he]
        exact⟨⟨rfl,rfl,kr.1,kr.2⟩,by show 0≤pos+x3;omega,Int.le_refl _⟩
    · refine List.pairwise_append.2 ⟨v7,List.pairwise_singleton _ _,λa ha b hb=> ?_⟩
      rw[List.mem_singleton.1 hb]
      have:=(v6 a ha).2.2
      show a.At≤pos+x3;omega
    · rw[v8]
      unfold keyB
      rw[List.map_append]
      show _=_++[UInt8.ofNat (IntKind.wrap .u8 (keys.getD i.toNat 0)).toNat]
      rw[w8]
  · have hi: ¬i<keys.length:=of_decide_eq_false hb
    have sl:s.length=keys.length:=by omega
    obtain⟨y1,y2,qc,js,o,t1,t2,t3,t4,t5⟩:=escript 188 400 (by decide) (by decide) s (x1:=0) (x2:=0) (pc:=0) (ks:=[]) (c:=0) ⟨echo_g,by decide, .inl rfl⟩ (by decide) (by simp;omega) (λe he=>by obtain⟨a,b,c⟩:=v6 e he;exact⟨a,b,by omega⟩) v7
    have d0:dr 0 0 []=0:=rfl
    rw[d0]at t5
    have pe:=dr_zero t2 (by omega)
    rw[pe,List.append_nil]at t4
    have t4:o.flatMap (·.C3)=keyB s:=by rw[t4];rfl
    have ol:=trace_len t1 echo_g
    have ol:(o.length:Int)≤400-0:=ol
    have pw:s.Pairwise λa b=>a.At≤b.At∧(a.C2.B2=1→a.At<b.At∧(b.C2.B2=1→a.C2.N≤b.C2.N)):=
      List.Pairwise.imp_of_mem (fun{a b} ha hb h=>⟨h,λh1=>absurd ((v6 a ha).1.1.symm.trans h1) (by decide)⟩) v7
    refine Q0c (cut_w echo_g (s:=s) (by omega) t1 (by omega) (List.append_nil s).symm t1 .nil (until0:=400) rfl (λe he=>by have:=(v6 e he).2.2;omega) (by show(400:Int)≤0+4000;decide) pw) λx4 h4=> ?_
    rw[h4]
    have sv:=bsee_w (disk:=[]) (l:=o) (by simp) (by omega) (λz hz=>(t3 z hz).2)
    refine w_br (λ_=>w_br (λ_=>w_br (λ_=>Q0c sv λx5 h5=>w_br (λ_=>aw13k rfl) λh=>absurd (of_decide_eq_false h) (λz=>z ?_)) λh=>by simp [eM,gM]at h) λh=> ?_) λh=>by simp at h
    · rw[h5]
      show bytesOf (o.foldl seeS ([],[],[])).2.2=want
      rw[Z2m o (λz hz=>(t3 z hz).1),t4,v8];rfl
    · have h: ¬((s.length:Nat):Int)=((keys.length:Nat):Int):=by simpa using h
      omega
end Go.Proofs.YtjaifpiopmhmlaaGreat

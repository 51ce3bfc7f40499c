/-
  A part of the proof.
-/
import Derived.Test.YtpcbkbalabgnlaaGreatRecordQueueLaws2
import Derived.Test.YtpcbkbalabgnlaaGreatRecordQueueNewsB
import Derived.Test.YtpcbkbalabgnlaaGreatRecordQueueZg
import Derived.Test.YtpcbkbalabgnlaaGreatRecordQueueZt
import Derived.Test.YtpcbkbalabgnlaaGreatRecordQueueFe
set_option linter.unusedVariables false
set_option linter.unusedSimpArgs false
namespace Go.Proofs.YtpcbkbalabgnlaaGreat
open Go Go.GD
set_option maxRecDepth 100000
end Go.Proofs.YtpcbkbalabgnlaaGreat
namespace Go.Proofs.YtpcbkbalabgnlaaGreat
open Go Go.GD
set_option maxRecDepth 100000
theorem Qnp(steps:Int):0≤Q18 steps∧Q18 steps≤4000:=by
 refine Tree.post (Qf0 steps) (W:=λr=>0≤r∧r≤4000) ?_
 unfold Qf0
 refine w_lf ?_
 constructor<;>(repeat' split)<;>omega
end Go.Proofs.YtpcbkbalabgnlaaGreat
namespace Go.Proofs.YtpcbkbalabgnlaaGreat
open Go Go.GD
set_option maxRecDepth 100000
section
variable {P:Nat} {m:Q00} (h:okM P m)
include h
theorem min_w(port:Int){clock:Int}(hc:U clock):(Qnk m port clock).w (λx=>U x.1∧okM P x.2∧x.2.A4=m.A4):=by
 have k:=(⟨h,rfl⟩:okM P m∧m.A4=m.A4)
 obtain⟨h1,h2,h3,h4,h5,h7⟩:=h
 unfold Qnk
 exact w_br (λ_=>w_lv λx hx=>⟨hx▸Z7b _ _,⟨⟨h1,h2,h3,h4,h5,h7⟩,rfl⟩⟩) (λ_=>w_br (λ_=>⟨hc,k⟩) (λ_=>w_br (λ_=>w_lv λx hx=>⟨hx▸timerIn_w _,k⟩) (λ_=>w_br (λ_=>w_lv λx hx=>⟨hx▸diskIn_w h3 _,k⟩) (λ_=>w_br (λ_=>w_lv λx hx=>⟨hx▸nicIn_w h4 _,k⟩) (λ_=>w_lv λx hx=>⟨hx▸Z7v h5.1 _,k⟩)))))
theorem mout_w(port:Int){v:Int}(hv:U v):(Qh6 m port v).w (λx=>x.1.length≤1∧okM P x.2∧x.2.A4=m.A4):=by
 have k:=(⟨h,rfl⟩:okM P m∧m.A4=m.A4)
 obtain⟨h1,h2,h3,h4,h5,h7⟩:=h
 unfold Qh6
 exact w_br (λ_=>⟨Nat.le_refl _,k⟩) (λ_=>w_br (λ_=>⟨Nat.zero_le _,k⟩) (λ_=>w_br (λ_=>w_lv λ_ _=>⟨Nat.zero_le _,⟨⟨h1,h2,h3,h4,h5,h7⟩,rfl⟩⟩) (λ_=>w_br (λ_=>Q0d (diskOut_w h2 h3 _ hv _) λx hx=>⟨hx.2,⟨⟨h1,h2,hx.1,h4,h5,h7⟩,rfl⟩⟩) (λ_=>w_br (λ_=>Q0d (nicOut_w h2 h4 _ hv _) λx hx=>⟨hx.2,⟨⟨h1,h2,h3,hx.1,h5,h7⟩,rfl⟩⟩) (λ_=>Q0d (give_w h2 h5 _ hv) λx hx=>⟨Nat.zero_le _,⟨⟨h1,hx.2,h3,h4,hx.1,h7⟩,rfl⟩⟩)))))
theorem Zao{clock:Int}(hc:U clock):(Qgi m clock).w (λx=>x.1.length≤1∧okM P x.2∧x.2.A4=IntKind.wrap .u64 (m.A4+1)):=by
 obtain⟨h1,h2,h3,h4,h5,h7⟩:=h
 unfold Qgi
 refine Q0d (Qze h1) λx0 c0=>Q0d (do_w c0 h2) λx1 hx=> ?_
 obtain⟨c1,v1,m1⟩:=hx
 refine w_br (λ_=>Z8x (min_w (m:=⟨_,_,_,_,_,_,_,_,_,_⟩) ⟨c1,m1,h3,h4,h5,h7⟩ _ hc) λx2 hx=> ?_) (λ_=>w_br (λ_=>Q0d (mout_w (m:=⟨_,_,_,_,_,_,_,_,_,_⟩) ⟨c1,m1,h3,h4,h5,h7⟩ _ v1) λx4 hx=> ?_) (λ_=> ?_))
 · obtain⟨u,⟨k1,k2,k3,k4,k5,k7⟩,k6⟩:=hx
   exact Q0d (Qzz k1 _ u) λx3 h3=>⟨Nat.zero_le _,⟨h3,k2,k3,k4,k5,w0 _⟩,congrArg (λn=>IntKind.wrap .u64 (n+1)) k6⟩
 · obtain⟨u,⟨k1,k2,k3,k4,k5,k7⟩,k6⟩:=hx
   exact⟨u,⟨k1,k2,k3,k4,k5,w0 _⟩,congrArg (λn=>IntKind.wrap .u64 (n+1)) k6⟩
 · repeat'(first
     |exact⟨Nat.zero_le _,⟨c1,m1,h3,h4,h5,w0 _⟩,rfl⟩
     |refine w_br (λ_=> ?_) (λ_=> ?_))
end
theorem U_all(n:Nat): ∀w∈List.replicate n (0:Int),U w:=λw hw=>by rw[(List.mem_replicate.1 hw).2];exact U_0
end Go.Proofs.YtpcbkbalabgnlaaGreat
namespace Go.Proofs.YtpcbkbalabgnlaaGreat
open Go Go.GD
set_option maxRecDepth 100000
set_option synthInstance.maxHeartbeats 2000000
set_option synthInstance.maxSize 100000
noncomputable section
instance ref1_lines_ck (src:(List UInt8)):Ck (Qgq src):=ckT (t:=Qd9 src) (by delta Qd9;infer_instance)
instance ref1_tokens_ck (s:(List UInt8)):Ck (Qf4 s):=ckT (t:=Qba s) (by delta Qba;infer_instance)
instance ref1_digits_ck (n:Int):Ck (Q3c n):=let d:Decidable (Q3c n):=(by delta Q3c;infer_instance);⟨@decide _ d,@of_decide_eq_true _ d⟩
instance ref1_Decimal_ck (n:Int):Ck (Qdl n):=ckT (t:=Q6h n) (by delta Q6h;infer_instance)
instance ref1_reg_ck (r:Int):Ck (Qjh r):=ckT (t:=Qcl r) (by delta Qcl;infer_instance)
instance ref1_name_ck (s:(List UInt8)):Ck (Qe2 s):=ckT (t:=Qey s) (by delta Qey;infer_instance)
instance Zcu (op:Int):Ck (Qca op):=ckT (t:=Q88 op) (by delta Q88;infer_instance)
instance Za4 (s:(List UInt8)):Ck (Q3j s):=ckT (t:=Q7q s) (by delta Q7q;infer_instance)
instance ref1_pattern_ck (what:(List UInt8)):Ck (Q5z what):=ckT (t:=Qa4 what) (by delta Qa4;infer_instance)
instance ref1_number_ck (s:(List UInt8)):Ck (Qf3 s):=ckT (t:=Qb1 s) (by delta Qb1;infer_instance)
instance ref1_matched_ck (l:(List Q0e)) (p:(List UInt8)):Ck (Q5w l p):=ckT (t:=Q9t l p) (by delta Q9t;infer_instance)
instance ref1_parsed_ck (s:(List UInt8)):Ck (Qfm s):=ckT (t:=Qbi s) (by delta Qbi;infer_instance)
instance ref1_address_ck (l:(List Q1z)) (label:(List UInt8)):Ck (Q3l l label):=let d:Decidable (Q3l l label):=(by delta Q3l;infer_instance);⟨@decide _ d,@of_decide_eq_true _ d⟩
instance ref1_read_ck (src:(List UInt8)):Ck (Qhq src):=ckT (t:=Qfj src) (by delta Qfj;infer_instance)
instance ref1_inst_ck (st:Q06) (v:Int):Ck (Q8y st v):=ckT (t:=Qfa st v) (by delta Qfa;infer_instance)
instance Zcn (src:(List UInt8)):Ck (Qby src):=ckT (t:=Q8p src) (by delta Q8p;infer_instance)
def inU(x:Int):Bool:=decide (0≤x)&&decide (x<4294967296)
theorem asm_gen(l:List Int)(h:(Nat.ble l.length 160&&List.all l inU)=true):l.length≤160∧ ∀w∈l,U w:=by
 rw[Bool.and_eq_true]at h
 refine⟨Nat.le_of_ble_eq_true h.1,λw hw=> ?_⟩
 have:=List.all_eq_true.1 h.2 w hw
 simp only[inU,Bool.and_eq_true,decide_eq_true_eq]at this
 exact this
end
end Go.Proofs.YtpcbkbalabgnlaaGreat
namespace Go.Proofs.YtpcbkbalabgnlaaGreat
open Go Go.GD
set_option maxRecDepth 100000
end Go.Proofs.YtpcbkbalabgnlaaGreat
namespace Go.Proofs.YtpcbkbalabgnlaaGreat
open Go Go.GD
set_option maxRecDepth 100000
end Go.Proofs.YtpcbkbalabgnlaaGreat
namespace Go.Proofs.YtpcbkbalabgnlaaGreat
open Go Go.GD
set_option maxRecDepth 100000
noncomputable section
end
end Go.Proofs.YtpcbkbalabgnlaaGreat
namespace Go.Proofs.YtpcbkbalabgnlaaGreat
open Go Go.GD
attribute [local irreducible] Q2h
set_option maxRecDepth 100000
end Go.Proofs.YtpcbkbalabgnlaaGreat
namespace Go.Proofs.YtpcbkbalabgnlaaGreat
open Go Go.GD
set_option maxRecDepth 100000
def out(f:Int)(m m':List Int):Prop:= ∀j:Nat,¬(f*32≤j∧(j:Int)<f*32+32)→m'.getD j 0=m.getD j 0
theorem Qkq(f:Int)(m:List Int):out f m m:=λ_ _=>rfl
theorem getDset(l:List Int)(i j:Nat)(v:Int)(h:i≠j):(l.set i v).getD j 0=l.getD j 0:=by
 simp only[List.getD_eq_getElem?_getD,List.getElem?_set_ne h]
theorem Q3p{P:Nat}{m:List Int}(h:Q0u P m):Q0n m=P:=by
 obtain⟨h1,h2,h3,_⟩:=h
 simp only[Q0n,Q9z,Tree.m]
 have e:(m.length:Int)=32*P:=by omega
 rw[e]
 have e1:(Int.tmod (32*(P:Int)) 32 !=0)=false:=by simp [Int.mul_tmod_right]
 have e2:decide ((32*(P:Int))>1024)=false:=decide_eq_false (by omega)
 rw[e1,e2]
 simp only[cond_false]
 rw[Int.mul_tdiv_cancel_left _ (by decide),IntKind.wrap_i64];omega
theorem has_eq{P:Nat}{m:List Int}(h:Q0u P m)(f:Int):Q51 m f=true→0≤f∧f<P:=by
 have hp:=Q3p h
 simp only[Q51,Q7s,Tree.m,letv,hp]
 cases h1:decide (f≥0)
 · intro h;cases h
 · intro h;exact⟨of_decide_eq_true h1,of_decide_eq_true h⟩
theorem Qun{P:Nat}{m:List Int}(h:Q0u P m)(f:Int)(s:List UInt8):(Q2 m f s).w (λr=>Q0u P r.1∧out f m r.1∧(r.2=false→r.1=m)):=by
 have hcl:Q02 m=m:=rfl
 have h2:=h.p2
 unfold Q2
 refine w_an (Q8e h) (w_lv λx0 hx0=>w_lv λx1 hx1=> ?_)
 rw[hcl]at hx0;subst hx0
 refine w_br (λ_=>⟨h,Qkq _ _,λ_=>rfl⟩) λhb=>w_br (λ_=>⟨h,Qkq _ _,λ_=>rfl⟩) λhs=> ?_
 have hb:x1=true:=by simpa using hb
 obtain⟨f0,f1⟩:=has_eq h f (hx1.symm.trans hb)
 have hs:(s.length:Int)=128:=by simpa using hs
 refine w_lp (inv:=λz:Int×List Int=>0≤z.1∧z.1≤32∧Q0u P z.2∧out f x0 z.2) (μ:=Q9l x0 f s) ⟨show(0:Int)≤0 by decide,show(0:Int)≤32 by decide,h,Qkq _ _⟩ (Nat.lt_succ_self _) λz ⟨z1,z2,z3,z4⟩=> ?_
 refine w_br (λhb=> ?_) (λ_=>⟨z3,z4,λh=>by cases h⟩)
 have hb:=of_decide_eq_true hb
 have e1:IntKind.i64.wrap (4*z.1)=4*z.1:=by rw[IntKind.wrap_i64];omega
 have e2:IntKind.i64.wrap (IntKind.i64.wrap (4*z.1)+4)=4*z.1+4:=by rw[IntKind.wrap_i64,IntKind.wrap_i64];omega
 have e3:IntKind.i64.wrap (IntKind.i64.wrap (f*32)+z.1)=f*32+z.1:=by rw[IntKind.wrap_i64,IntKind.wrap_i64];omega
 have hl:=z3.len
 have hlen:(List.take (Int.toNat (IntKind.i64.wrap (IntKind.i64.wrap (4*z.1)+4))-Int.toNat (IntKind.i64.wrap (4*z.1))) (List.drop (Int.toNat (IntKind.i64.wrap (4*z.1))) s)).length=4:=by
   rw[e2,e1,List.length_take,List.length_drop];omega
 refine w_cn (decide_eq_true (by rw[e2,e1];omega)) ?_
 refine w_cn (decide_eq_true (by rw[hlen];decide)) (w_cn (decide_eq_true (by rw[hlen];decide)) (w_cn (decide_eq_true (by rw[hlen];decide)) (w_cn (decide_eq_true (by rw[hlen];decide)) (w_cn (by rw[e3];simp [Nat.blt];omega) (w_nx ?_)))))
 show(_∧_∧Q0u P (List.set _ _ _)∧out f x0 (List.set _ _ _))∧(_:Nat)<_
 have ew:IntKind.i64.wrap (z.1+1)=z.1+1:=by rw[IntKind.wrap_i64];omega
 rw[e3]
 refine⟨⟨by rw[ew];omega,by rw[ew];omega,⟨by rw[List.length_set];exact hl,z3.p1,z3.p2,Qw1 z3.u (U_or _ _) _⟩,λj hj=> ?_⟩,by show(32-IntKind.i64.wrap (z.1+1)).toNat<(32-z.1).toNat;rw[ew];omega⟩
 rw[getDset _ _ _ _ (by omega)]
 exact z4 j hj
theorem text_w(w:List Int)(h:w.length≤32):(Q4w w).w (λr=>r.length=4*w.length):=by
 have e0:IntKind.i64.wrap (4*(w.length:Int))=4*w.length:=by rw[IntKind.wrap_i64];omega
 unfold Q4w
 refine w_cn (by rw[e0];simp [Nat.blt,D.plain];omega) ?_
 refine w_lp (inv:=λz:Int×List Int=>0≤z.1∧z.1≤w.length∧(z.2.length:Int)=4*z.1) (μ:=Q70 w) ⟨by decide,by show(0:Int)≤w.length;omega,rfl⟩ (Nat.lt_succ_self _) λz ⟨z1,z2,z3⟩=> ?_
 refine w_br (λhb=> ?_) (λhb=> ?_)
 · have hb:=of_decide_eq_true hb
   have ew:IntKind.i64.wrap (z.1+1)=z.1+1:=by rw[IntKind.wrap_i64];omega
   refine w_cn (by simp [Nat.blt];omega) (w_cn (decide_eq_true (by omega)) (w_nx ?_))
   show(_∧_∧_)∧(_:Nat)<_
   refine⟨⟨by rw[ew];omega,by rw[ew];omega,by rw[ew,List.length_append];simp only[List.length_cons,List.length_nil];omega⟩,by show(w.length-IntKind.i64.wrap (z.1+1)).toNat<(w.length-z.1).toNat;rw[ew];omega⟩
 · have hb:=of_decide_eq_false hb
   show(bytesOf z.2).length=_
   rw[Qfu];omega
theorem Z7x{P:Nat}{m:List Int}(h:Q0u P m)(f:Int):(Q3e m f).w (λr=>0≤f→f<P→r.1.length=128):=by
 have hl:=h.len
 have h2:=h.p2
 unfold Q3e
 refine w_lv λx0 hx0=>w_br (λhb=>λf0 f1=> ?_) (λhb=> ?_)
 · have hp:=Q3p h
   have hb:x0=false:=by simpa using hb
   rw[hb]at hx0
   simp only[Q51,Q7s,Tree.m,letv,hp]at hx0
   rw[decide_eq_true f0]at hx0
   exact absurd f1 (of_decide_eq_false hx0.symm)
 · have hb:x0=true:=by simpa using hb
   obtain⟨f0,f1⟩:=has_eq h f (hx0.symm.trans hb)
   have e1:IntKind.i64.wrap (f*32)=f*32:=by rw[IntKind.wrap_i64];omega
   have e2:IntKind.i64.wrap (IntKind.i64.wrap (f*32)+32)=f*32+32:=by rw[IntKind.wrap_i64,IntKind.wrap_i64];omega
   have hlen:(List.take (Int.toNat (IntKind.i64.wrap (IntKind.i64.wrap (f*32)+32))-Int.toNat (IntKind.i64.wrap (f*32))) (List.drop (Int.toNat (IntKind.i64.wrap (f*32))) m)).length=32:=by
     rw[e2,e1,List.length_take,List.length_drop];omega
   refine w_cn (by rw[e2,e1];simp [Nat.blt];omega) ?_
   refine w_an (by show List.length _≤1000000000000;rw[hlen];decide) (w_lv λx1 h1=> ?_)
   have h1:x1.length=4*(List.take (Int.toNat (IntKind.i64.wrap (IntKind.i64.wrap (f*32)+32))-Int.toNat (IntKind.i64.wrap (f*32))) (List.drop (Int.toNat (IntKind.i64.wrap (f*32))) m)).length:=by rw[h1];exact(Tree.pp (text_w _ (Nat.le_of_eq hlen))).2
   intro _ _
   show x1.length=128
   rw[h1,hlen]
end Go.Proofs.YtpcbkbalabgnlaaGreat
namespace Go.Proofs.YtpcbkbalabgnlaaGreat
open Go Go.GD
set_option maxRecDepth 100000
theorem Z8c{f:Int}(hf:U f){P:Nat}(hP:P≤32)(h:decide (IntKind.u64.wrap f<IntKind.u64.wrap (P:Int))=true):0≤f∧f<P:=by
 have h:=of_decide_eq_true h
 obtain⟨h1,h2⟩:=hf
 rw[IntKind.wrap_u64,IntKind.wrap_u64,Int.emod_eq_of_lt h1 (by omega),Int.emod_eq_of_lt (by omega) (by omega)]at h
 exact⟨h1,h⟩
theorem Zap{P:Nat}{m:List Int}(h:Q0u P m){d:Q0b}(hd:Q85 d)(e:Q08):(Q44 d m e).w (λr=>Q85 r.1∧Q0u P r.2.1∧out d.B0 m r.2.1∧(r.2.2=false→r.2.1=m)∧(∀p,Q1e d p=true→Q1e r.1 p=true)):=by
 have hcl:Q02 m=m:=rfl
 have keep: ∀b:Bool,Q85 d∧Q0u P m∧out d.B0 m m∧(b=false→m=m)∧(∀p,Q1e d p=true→Q1e d p=true):=λb=>⟨hd,h,Qkq _ _,λ_=>rfl,λ_ h=>h⟩
 have blk: ∀{p:Int},Q1e d p=true→decide (d.Blocks>64)=false:=fun{p} hm=>by
   cases hb:decide (d.Blocks>64)
   · rfl
   · have:Q1e d p=false:=by simp only[Q1e,Q5x,Tree.m];rw[hb];rfl
     rw[this]at hm;cases hm
 have m2: ∀p,Q1e d p=true→Q1e {Blocks:=d.Blocks,C1:=d.C1,B3:=d.B3,B9:=2,D7:=0,B6:=0,B0:=0,C3:=[]} p=true:=λp hm=>by
   simp only[Q1e,Q5x,Tree.m];rw[blk hm];rfl
 have m3: ∀p,Q1e d p=true→Q1e {Blocks:=d.Blocks,C1:=d.C1,B3:=d.B3,B9:=3,D7:=0,B6:=0,B0:=0,C3:=[]} p=true:=λp hm=>by
   simp only[Q1e,Q5x,Tree.m];rw[blk hm];rfl
 unfold Q44
 refine w_br (λ_=>w_an (Q8e h) (w_lv λx hx=>by rw[hcl]at hx;subst hx;exact keep _)) λ_=>w_br (λ_=>w_an (Q8e h) (w_lv λx hx=>by rw[hcl]at hx;subst hx;exact keep _)) λ_=>w_br (λ_=>w_an (Q8e h) (w_lv λx hx=>by rw[hcl]at hx;subst hx;exact keep _)) λ_=>w_an (Q8e h) (w_lv λx3 hx3=> ?_)
 rw[hcl]at hx3;subst hx3
 have fin: ∀{m':List Int},Q0u P m'→out d.B0 x3 m'→(Tree.br (e.N==1) (.lf (({Blocks:=d.Blocks,C1:=d.C1,B3:=d.B3,B9:=2,D7:=0,B6:=0,B0:=0,C3:=[]}:Q0b),m',true)) (.lf (({Blocks:=d.Blocks,C1:=d.C1,B3:=d.B3,B9:=3,D7:=0,B6:=0,B0:=0,C3:=[]}:Q0b),m',true))).w (λr=>Q85 r.1∧Q0u P r.2.1∧out d.B0 x3 r.2.1∧(r.2.2=false→r.2.1=x3)∧(∀p,Q1e d p=true→Q1e r.1 p=true)):=λhm ho=>
   w_br (λ_=>⟨⟨hd.block,hd.frame,U_0,U_0⟩,hm,ho,(λh=>by cases h),m2⟩) (λ_=>⟨⟨hd.block,hd.frame,U_0,U_0⟩,hm,ho,(λh=>by cases h),m3⟩)
 have nod:(Tree.br (!decide (e.C5=[])) (.lf (d,x3,false)) (Tree.br (e.N==1) (.lf (({Blocks:=d.Blocks,C1:=d.C1,B3:=d.B3,B9:=2,D7:=0,B6:=0,B0:=0,C3:=[]}:Q0b),x3,true)) (.lf (({Blocks:=d.Blocks,C1:=d.C1,B3:=d.B3,B9:=3,D7:=0,B6:=0,B0:=0,C3:=[]}:Q0b),x3,true)))).w (λr=>Q85 r.1∧Q0u P r.2.1∧out d.B0 x3 r.2.1∧(r.2.2=false→r.2.1=x3)∧(∀p,Q1e d p=true→Q1e r.1 p=true)):=
   w_br (λ_=>keep _) (λ_=>fin h (Qkq _ _))
 refine w_br (λ_=>w_br (λ_=>w_lv λx4 hx4=>w_br (λ_=>keep _) λhb=> ?_) (λ_=>nod)) (λ_=>nod)
 have hp:=Q3p h
 have hb:x4=true:=by simpa using hb
 rw[hb]at hx4
 simp only[Q8t,Qbk,Tree.m,letv,hp]at hx4
 obtain⟨f0,f1⟩:=Z8c hd.opFrame h.p2 hx4.symm
 have ef:IntKind.i64.wrap d.B0=d.B0:=by have:=h.p2;rw[IntKind.wrap_i64];omega
 refine Q0d (Qun h _ _) λx5 ⟨h5,o5,k5⟩=> ?_
 rw[ef]at o5
 exact w_br (λhf=>⟨hd,h5,o5,λ_=>k5 (by simpa using hf),λ_ h=>h⟩) (λ_=>fin h5 o5)
theorem receive_w{P:Nat}{m:List Int}(h:Q0u P m){n:Q0k}(hn:Qg0 n)(frame:List UInt8):(Q6g n m frame).w (λr=>Qg0 r.1∧Q0u P r.2.1∧out n.C0 m r.2.1∧(r.2.2=false→r.2.1=m)∧(∀p,Q6y n p=true→Q6y r.1 p=true)):=by
 have hcl:Q02 m=m:=rfl
 have keep:Qg0 n∧Q0u P m∧out n.C0 m m∧(false=false→m=m)∧(∀p,Q6y n p=true→Q6y n p=true):=⟨hn,h,Qkq _ _,λ_=>rfl,λ_ h=>h⟩
 unfold Q6g
 refine w_br (λ_=>w_an (Q8e h) (w_lv λx hx=>by rw[hcl]at hx;subst hx;exact keep)) λhpo=>w_br (λ_=>w_an (Q8e h) (w_lv λx hx=>by rw[hcl]at hx;subst hx;exact keep)) λl1=>w_br (λ_=>w_an (Q8e h) (w_lv λx hx=>by rw[hcl]at hx;subst hx;exact keep)) λl2=>w_lv λx3 hx3=>w_br (λ_=>w_an (Q8e h) (w_lv λx hx=>by rw[hcl]at hx;subst hx;exact keep)) λhb=> ?_
 have l1:=of_decide_eq_false l1
 have l2:=of_decide_eq_false l2
 have hp:=Q3p h
 have hb:x3=true:=by simpa using hb
 rw[hb]at hx3
 simp only[Q94,Qcx,Tree.m,letv,hp]at hx3
 obtain⟨f0,f1⟩:=Z8c hn.buffer h.p2 hx3.symm
 have ef:IntKind.i64.wrap n.C0=n.C0:=by have:=h.p2;rw[IntKind.wrap_i64];omega
 refine Q0d (Z7x h _) λx5 h5=> ?_
 rw[ef]at h5
 have h5:=h5 f0 f1
 have hmax:(maxLen:Nat)=9223372036854775807:=rfl
 refine w_cn (decide_eq_true (by omega)) (w_cn (decide_eq_true (by simp only[List.length_take,List.length_drop,hmax];omega)) (Q0d (Qun h _ _) λx6 ⟨h6,o6,_⟩=> ?_))
 rw[ef]at o6
 have hg:IntKind.u32.wrap (frame.length:Int)=frame.length:=by rw[IntKind.wrap_u32];omega
 refine⟨⟨hn.frame,hn.len,U_0,Q0j _⟩,h6,o6,(λh=>by cases h),λp _=> ?_⟩
 simp only[Q6y,Qgv,Tree.m]
 rw[hg,decide_eq_true (show(frame.length:Int)≥1 by omega),decide_eq_true (show(frame.length:Int)≤128 by omega)]
 rfl
theorem ctype_w(c:Q0c)(b:Int):(Q6j c b).w (λr=>Q3 c=true→Q3 r.1=true):=by
 have hmax:(maxLen:Nat)=9223372036854775807:=rfl
 unfold Q6j
 refine w_br (λ_=>λh=>h) (λhb=> ?_)
 have hb:=of_decide_eq_false hb
 refine w_cn (decide_eq_true (by rw[hmax];omega)) ?_
 intro _
 show decide (((c.D2++[_]).length:Int)≤16)=true
 rw[List.length_append,List.length_singleton]
 exact decide_eq_true (by omega)
theorem fire_may(t:Q0h)(h:Q5o t=true):Q5o (Qh3 t).1=true:=by
 simp only[Qh3,Qjr,Tree.m]
 cases ha:t.D6
 · exact h
 · rfl
end Go.Proofs.YtpcbkbalabgnlaaGreat
namespace Go.Proofs.YtpcbkbalabgnlaaGreat
open Go Go.GD
set_option maxRecDepth 100000
theorem dev_eq(m:Q00):Q0v m=(Q3 m.A2&&(Q5o m.A9&&(Q1e m.B2 (Q0n m.Mem)&&(Q6y m.C6 (Q0n m.Mem)&&Q3g m.A1 (Q0n m.Mem))))):=by
 simp only[Q0v,Q1n,Tree.m,letv]
 cases Q3 m.A2<;>cases Q5o m.A9<;>cases Q1e m.B2 (Q0n m.Mem)<;>cases Q6y m.C6 (Q0n m.Mem)<;>rfl
theorem bal_eq{b c:Q07}(h:c.C2=b.C2)(p:Int):Q3g c p=Q3g b p:=by
 simp only[Q3g,Q3y,Tree.m,h]
theorem cnd{a x y:Bool}(h:x=true→y=true):(bif a then false else x)=true→(bif a then false else y)=true:=by cases a<;>simp_all
def chain(b1 b2 b3 b4 b5 b6 b7 w h dev:Bool):Bool:=bif b1 then false else bif b2 then false else bif b3 then false else bif b4 then false else bif b5 then false else bif b6 then false else bif b7 then false else bif w then(bif h then false else dev) else dev
theorem Zax{b1 b2 b3 b4 b5 b6 b7 w h d d':Bool}(hd:d=true→d'=true):chain b1 b2 b3 b4 b5 b6 b7 w h d=true→chain b1 b2 b3 b4 b5 b6 b7 w h d'=true:=by
 refine cnd (cnd (cnd (cnd (cnd (cnd (cnd ?_))))))
 cases w
 · exact hd
 · cases h
   · exact hd
   · exact λh=>h
def mayC(p:Int)(c:Q03)(ct:Int)(w h dev:Bool):Bool:=chain (p==0) (c.X.a0 !=0) (decide (c.B5.a0>31)) (decide (c.B5.a7>31)) (decide (c.B5.a6>255)) (Int.tmod c.B5.a1 4 !=0) (decide (ct>1152921504606846976)) w h dev
theorem mayC_mono{p:Int}{c:Q03}{ct:Int}{w h d d':Bool}(hd:d=true→d'=true)(g:mayC p c ct w h d=true):mayC p c ct w h d'=true:=Zax hd g
theorem may_eq(m:Q00):Q1c m=mayC (Q0n m.Mem) m.B4 m.A4 m.A3 m.A6 (Q0v m):=rfl
theorem Qo0{m n:Q00}(hp:Q0n n.Mem=Q0n m.Mem)(hcpu:n.B4=m.B4)(hct:n.A4=m.A4)(hw:n.A3=m.A3)(hh:n.A6=m.A6)
   (hc:Q3 m.A2=true→Q3 n.A2=true) (ht:Q5o m.A9=true→Q5o n.A9=true) (hd: ∀p,Q1e m.B2 p=true→Q1e n.B2 p=true) (hn: ∀p,Q6y m.C6 p=true→Q6y n.C6 p=true) (hb:n.A1.C2=m.A1.C2) (h:Q1c m=true):Q1c n=true:=by
 have dev:Q0v m=true→Q0v n=true:=λh=>by
   rw[dev_eq]at h⊢
   simp only[Bool.and_eq_true]at h⊢
   rw[hp,bal_eq hb]
   exact⟨hc h.1,ht h.2.1,hd _ h.2.2.1,hn _ h.2.2.2.1,h.2.2.2.2⟩
 rw[may_eq]at h⊢
 rw[hp,hcpu,hct,hw,hh]
 exact mayC_mono dev h
end Go.Proofs.YtpcbkbalabgnlaaGreat
namespace Go.Proofs.YtpcbkbalabgnlaaGreat
open Go Go.GD
set_option maxRecDepth 100000
section
variable {P:Nat} {m:List Int} (h:Q0u P m)
include h
theorem dpage{f:Int}(hf:U f){b:Bool}(hx:b=Q8t m f)(hb:b=true):0≤f∧f<P:=by
 have hp:=Q3p h
 rw[hb]at hx
 simp only[Q8t,Qbk,Tree.m,letv,hp]at hx
 exact Z8c hf h.p2 hx.symm
theorem npage{f:Int}(hf:U f){b:Bool}(hx:b=Q94 m f)(hb:b=true):0≤f∧f<P:=by
 have hp:=Q3p h
 rw[hb]at hx
 simp only[Q94,Qcx,Tree.m,letv,hp]at hx
 exact Z8c hf h.p2 hx.symm
def keepD(P:Nat)(d d':Q0b):Prop:=Q85 d'∧(Q1e d P=true→Q1e d' P=true)
theorem issue_w{d:Q0b}(hd:Q85 d){cmd:Int}(hc:cmd=1∨cmd=2)(at0:Int):(Q64 d m cmd at0).w (λr=>keepD P d r.1∧r.2.length≤1):=by
 have h2:=h.p2
 have st3:(d.B9 !=0)=false→keepD P d {Blocks:=d.Blocks,C1:=d.C1,B3:=d.B3,B9:=3,D7:=d.D7,B6:=d.B6,B0:=d.B0,C3:=d.C3}:=λhs=>by
   have hs:d.B9=0:=by simpa using hs
   refine⟨⟨hd.block,hd.frame,hd.opBlock,hd.opFrame⟩,λhm=> ?_⟩
   simp only[Q1e,Q5x,Tree.m,hs]at hm⊢
   exact hm
 have blk:Q1e d P=true→decide (d.Blocks>64)=false:=λhm=>by
   cases hb:decide (d.Blocks>64)
   · rfl
   · have:Q1e d P=false:=by simp only[Q1e,Q5x,Tree.m];rw[hb];rfl
     rw[this]at hm;cases hm
 unfold Q64
 refine w_br (λ_=>⟨⟨hd,λh=>h⟩,Nat.zero_le _⟩) λhs=>w_br (λ_=>⟨st3 hs,Nat.zero_le _⟩) λhb=>w_lv λx0 hx=>w_br (λ_=>⟨st3 hs,Nat.zero_le _⟩) λhp=> ?_
 have hb:=of_decide_eq_false hb
 obtain⟨f0,f1⟩:=dpage h hd.frame hx (by simpa using hp)
 have ef:IntKind.i64.wrap d.B3=d.B3:=by rw[IntKind.wrap_i64];omega
 have e1:decide (d.C1<d.Blocks)=true:=decide_eq_true (by omega)
 have e2:decide (IntKind.i64.wrap d.B3<(P:Int))=true:=by rw[ef];exact decide_eq_true f1
 refine w_br (λhcm=>Q0d (Z7x h _) λx1 h1=> ?_) (λhcm=> ?_)
 · rw[ef]at h1
   have h1:=h1 f0 f1
   have hcm:=eq_of_beq hcm
   subst hcm
   refine w_lv λx2 _=>⟨⟨⟨hd.block,hd.frame,hd.block,hd.frame⟩,λhm=> ?_⟩,Nat.le_refl _⟩
   simp only[Q1e,Q5x,Q8l,Q7,Tree.m,letv,blk hm,e1,e2,h1]
   rfl
 · have hc:cmd=1:=by
     rcases hc with h|h
     · exact h
     · rw[h]at hcm;exact absurd hcm (by decide)
   subst hc
   refine w_lv λx2 _=>⟨⟨⟨hd.block,hd.frame,hd.block,hd.frame⟩,λhm=> ?_⟩,Nat.le_refl _⟩
   simp only[Q1e,Q5x,Q8l,Q7,Tree.m,letv,blk hm,e1,e2]
   rfl
theorem diskP_w{d:Q0b}(hd:Q85 d)(port:Int){v:Int}(hv:U v)(at0:Int):(Q8x d m port v at0).w (λr=>keepD P d r.1∧r.2.length≤1):=by
 have keep:keepD P d d:=⟨hd,λh=>h⟩
 have e1: ∀{k:Int},(v==k)=true→IntKind.i64.wrap v=k:=λhk=>by
   have:=eq_of_beq hk
   obtain⟨a,b⟩:=hv
   rw[IntKind.wrap_i64];omega
 unfold Q8x
 refine w_br (λ_=>⟨⟨⟨hv,hd.frame,hd.opBlock,hd.opFrame⟩,λh=>h⟩,Nat.zero_le _⟩) λ_=>w_br (λ_=>⟨⟨⟨hd.block,hv,hd.opBlock,hd.opFrame⟩,λh=>h⟩,Nat.zero_le _⟩) λ_=>w_br (λ_=>w_br (λhk=>Q0d (issue_w h hd (.inl (e1 hk)) _) λx hx=>hx) λ_=>w_br (λhk=>Q0d (issue_w h hd (.inr (e1 hk)) _) λx hx=>hx) λ_=>w_br (λ_=>w_lv λx hx=>w_br (λhb=> ?_) (λ_=>⟨keep,Nat.zero_le _⟩)) (λ_=>⟨keep,Nat.zero_le _⟩)) (λ_=>⟨keep,Nat.zero_le _⟩)
 refine⟨⟨⟨hd.block,hd.frame,hd.opBlock,hd.opFrame⟩,λhm=> ?_⟩,Nat.zero_le _⟩
 rw[hb]at hx
 simp only[Q8r,Qgj,Tree.m]at hx
 cases h2:d.B9==2
 · rw[h2]at hx
   have h3:d.B9=3:=eq_of_beq hx.symm
   simp only[Q1e,Q5x,Tree.m,h3]at hm⊢
   exact hm
 · have h3:d.B9=2:=eq_of_beq h2
   simp only[Q1e,Q5x,Tree.m,h3]at hm⊢
   exact hm
def keepN(P:Nat)(n n':Q0k):Prop:=Qg0 n'∧(Q6y n P=true→Q6y n' P=true)
theorem send_w{n:Q0k}(hn:Qg0 n)(at0:Int):(Q9b n m at0).w (λr=>r.length≤1):=by
 have h2:=h.p2
 unfold Q9b
 refine w_br (λ_=>Nat.zero_le _) λl1=>w_br (λ_=>Nat.zero_le _) λl2=>w_lv λx0 hx=>w_br (λ_=>Nat.zero_le _) λhp=>Q0d (Z7x h _) λx1 h1=> ?_
 have l1:=of_decide_eq_false l1
 have l2:=of_decide_eq_false l2
 obtain⟨f0,f1⟩:=npage h hn.frame hx (by simpa using hp)
 have ef:IntKind.i64.wrap n.B3=n.B3:=by rw[IntKind.wrap_i64];omega
 rw[ef]at h1
 have h1:=h1 f0 f1
 exact w_cn (decide_eq_true (by omega)) (Nat.le_refl _)
theorem nicP_w{n:Q0k}(hn:Qg0 n)(port:Int){v:Int}(hv:U v)(at0:Int):(Qbl n m port v at0).w (λr=>keepN P n r.1∧r.2.length≤1):=by
 have h2:=h.p2
 have keep:keepN P n n:=⟨hn,λh=>h⟩
 unfold Qbl
 refine w_br (λ_=>⟨⟨⟨hv,hn.len,hn.buffer,hn.got⟩,λh=>h⟩,Nat.zero_le _⟩) λ_=>w_br (λ_=>⟨⟨⟨hn.frame,hv,hn.buffer,hn.got⟩,λh=>h⟩,Nat.zero_le _⟩) λ_=>w_br (λ_=>w_br (λ_=>Q0d (send_w h hn _) λx hx=>⟨keep,hx⟩) λ_=>w_br (λ_=>w_lv λx hx=>w_br (λhb=>w_br (λnp=>w_br (λnr=> ?_) (λ_=>⟨keep,Nat.zero_le _⟩)) (λ_=>⟨keep,Nat.zero_le _⟩)) (λ_=>⟨keep,Nat.zero_le _⟩)) λ_=>w_br (λ_=> ?_) (λ_=>⟨keep,Nat.zero_le _⟩)) (λ_=>⟨keep,Nat.zero_le _⟩)
 · obtain⟨f0,f1⟩:=npage h hn.frame hx hb
   have np:n.C4=false:=by simpa using np
   have nr:n.B7=false:=by simpa using nr
   have e2:decide (IntKind.i64.wrap n.B3≥(P:Int))=false:=decide_eq_false (by rw[IntKind.wrap_i64];omega)
   refine⟨⟨⟨hn.frame,hn.len,hn.frame,hn.got⟩,λhm=> ?_⟩,Nat.zero_le _⟩
   simp only[Q6y,Qgv,Tree.m,np,nr,e2]at hm⊢
   cases hb:(n.C0 !=0)
   · rw[hb]at hm;exact hm
   · rw[hb]at hm;cases hm
 · refine⟨⟨⟨hn.frame,hn.len,hn.buffer,U_0⟩,λhm=> ?_⟩,Nat.zero_le _⟩
   simp only[Q6y,Qgv,Tree.m]at hm⊢
   revert hm
   cases n.C4<;>cases n.B7<;>cases decide (IntKind.i64.wrap n.C0≥(P:Int))<;>cases(n.C0 !=0)<;>simp
end
theorem arm_may(t:Q0h)(v:Int):Q5o (Qhf t v)=true:=by
 simp only[Qhf,Qi2,Q5o,Qhy,Tree.m]
 cases h:(v !=0)
 · have:v=0:=by simpa using h
   subst this;rfl
 · rfl
end Go.Proofs.YtpcbkbalabgnlaaGreat
namespace Go.Proofs.YtpcbkbalabgnlaaGreat
open Go Go.GD
set_option maxRecDepth 100000
theorem Qlo{a:Int}(k:Nat)(hk:k≤32):ishr .u32 a k=a/2^k:=by
 unfold ishr
 have e:min (k:Int).toNat IntKind.u32.bits=k:=by show min (k:Int).toNat 32=k;omega
 have hp:(0:Int)<2^k:=Int.pow_pos (by decide)
 rw[e,Int.fdiv_eq_ediv_of_nonneg _ (Int.le_of_lt hp)]
def Zbs(x:Int)(n:Nat):Prop:=x<2^n∧(n=0∨(2:Int)^(n-1)≤x)
theorem Z12{x q:Int}{n k:Nat}(hq:q=x/2^k)(h0:0<q)(h:Zbs q n):Zbs x (n+k):=by
 have hp:(0:Int)<2^k:=Int.pow_pos (by decide)
 obtain⟨h1,h2⟩:=h
 have hn:n≠0:=λe=>by subst e;simp at h1;omega
 refine⟨?_, .inr ?_⟩
 · rw[Int.pow_add]
   have:x<(x/2^k+1)*2^k:=Int.lt_ediv_add_one_mul_self x hp
   have h3:(x/2^k+1)*2^k≤2^n*2^k:=Int.mul_le_mul_of_nonneg_right (by omega) (Int.le_of_lt hp)
   omega
 · have h2:=h2.resolve_left hn
   have e:n+k-1=(n-1)+k:=by omega
   rw[e,Int.pow_add]
   have h3:(2:Int)^(n-1)*2^k≤q*2^k:=Int.mul_le_mul_of_nonneg_right h2 (Int.le_of_lt hp)
   have h4:q*2^k≤x:=by rw[hq];exact Int.ediv_mul_le x (Int.ne_of_gt hp)
   omega
theorem isLen_le{x:Int}{n p:Nat}(h:Zbs x n)(hx:x<2^p):n≤p:=by
  obtain⟨h1,h2⟩:=h
  rcases h2 with h2|h2
  · omega
  · rcases Nat.lt_or_ge p n with hlt|hge
    · have:(2:Int)^p≤2^(n-1):=by
        have:=Nat.pow_le_pow_right (show 0<2 by omega) (show p≤n-1 by omega)
        exact_mod_cast this
      omega
    · exact hge
theorem Z8{x:Int}{n p:Nat}(h:Zbs x n)(hn:n≤p):x<2^p:=by
 have:(2:Int)^n≤2^p:=by
   have:=Nat.pow_le_pow_right (show 0<2 by omega) hn
   exact_mod_cast this
 exact Int.lt_of_lt_of_le h.1 this
def lenChk(i:Nat):Bool:=match(Q1j (i:Int)) with
 | .ofNat n=>decide ((i:Int)<2^n)&&(Nat.beq n 0||decide ((2:Int)^(n-1)≤i))&&decide (n≤8)
 |_=>false
theorem Qo6{q:Int}(h0:0≤q)(h1:q<256): ∃n:Nat,Q1j q=n∧Zbs q n∧n≤8:=by
 have all:List.all (List.range 256) lenChk=true:=by kernel_rfl
 have:=List.all_eq_true.1 all q.toNat (List.mem_range.2 (by omega))
 have hq:((q.toNat:Nat):Int)=q:=by omega
 unfold lenChk at this
 rw[hq]at this
 split at this
 · rename_i n hn
   simp only[Bool.and_eq_true,Bool.or_eq_true,decide_eq_true_eq]at this
   refine⟨n,hn,⟨this.1.1,?_⟩,this.2⟩
   rcases this.1.2 with h|h
   · exact .inl (Nat.eq_of_beq_eq_true h)
   · exact .inr h
 · cases this
theorem len_24{x:Int}(h:U x)(hx:16777216≤x):Q1j x=24+Q1j (x/16777216):=by
 obtain⟨h0,h1⟩:=h
 have s16:ishr .u32 x 16=x/65536:=Qlo 16 (by omega)
 have s24:ishr .u32 (x/65536) 8=x/16777216:=by rw[show((8:Int))=((8:Nat):Int) from rfl,Qlo 8 (by omega)];omega
 have d1:decide (x≥65536)=true:=decide_eq_true (by omega)
 have d2:decide (x/65536≥256)=true:=decide_eq_true (by omega)
 have d3:decide (x/16777216≥65536)=false:=decide_eq_false (by omega)
 have d4:decide (x/16777216≥256)=false:=decide_eq_false (by omega)
 have u:IntKind.u8.wrap (x/16777216)=x/16777216:=by rw[IntKind.wrap_u8];omega
 simp only[Q1j,Q1s,Tree.m,s16,s24,d1,d2,d3,d4,u,cond_true,cond_false]
 generalize(List.getD _ (Int.toNat (x/16777216)) (0:UInt8))=b
 have hb:=UInt8.toNat_lt b
 rw[IntKind.wrap_i64,IntKind.wrap_i64,IntKind.wrap_i64,IntKind.wrap_i64]
 omega
theorem len_16{x:Int}(h0:65536≤x)(h1:x<16777216):Q1j x=16+Q1j (x/65536):=by
 have s16:ishr .u32 x 16=x/65536:=Qlo 16 (by omega)
 have d1:decide (x≥65536)=true:=decide_eq_true (by omega)
 have d2:decide (x/65536≥256)=false:=decide_eq_false (by omega)
 have d3:decide (x/65536≥65536)=false:=decide_eq_false (by omega)
 have u:IntKind.u8.wrap (x/65536)=x/65536:=by rw[IntKind.wrap_u8];omega
 simp only[Q1j,Q1s,Tree.m,s16,d1,d2,d3,u,cond_true,cond_false]
 generalize(List.getD _ (Int.toNat (x/65536)) (0:UInt8))=b
 have hb:=UInt8.toNat_lt b
 rw[IntKind.wrap_i64,IntKind.wrap_i64,IntKind.wrap_i64]
 omega
theorem len_8{x:Int}(h0:256≤x)(h1:x<65536):Q1j x=8+Q1j (x/256):=by
 have s8:ishr .u32 x 8=x/256:=Qlo 8 (by omega)
 have d1:decide (x≥65536)=false:=decide_eq_false (by omega)
 have d2:decide (x≥256)=true:=decide_eq_true (by omega)
 have d3:decide (x/256≥65536)=false:=decide_eq_false (by omega)
 have d4:decide (x/256≥256)=false:=decide_eq_false (by omega)
 have u:IntKind.u8.wrap (x/256)=x/256:=by rw[IntKind.wrap_u8];omega
 simp only[Q1j,Q1s,Tree.m,s8,d1,d2,d3,d4,u,cond_true,cond_false]
 generalize(List.getD _ (Int.toNat (x/256)) (0:UInt8))=b
 have hb:=UInt8.toNat_lt b
 rw[IntKind.wrap_i64,IntKind.wrap_i64,IntKind.wrap_i64,IntKind.wrap_i64]
 omega
theorem Zak{x:Int}(h:U x): ∃n:Nat,Q1j x=n∧Zbs x n:=by
  obtain⟨h0,h1⟩:=h
  rcases Int.lt_or_le x 256 with a|a
  · obtain⟨n,e,l,_⟩:=Qo6 h0 a
    exact⟨n,e,l⟩
  · rcases Int.lt_or_le x 65536 with b|b
    · obtain⟨n,e,l,_⟩:=Qo6 (q:=x/256) (by omega) (by omega)
      exact⟨n+8,by rw[len_8 a b,e];omega,Z12 (k:=8) rfl (by omega) l⟩
    · rcases Int.lt_or_le x 16777216 with c|c
      · obtain⟨n,e,l,_⟩:=Qo6 (q:=x/65536) (by omega) (by omega)
        exact⟨n+16,by rw[len_16 b c,e];omega,Z12 (k:=16) rfl (by omega) l⟩
      · obtain⟨n,e,l,_⟩:=Qo6 (q:=x/16777216) (by omega) (by omega)
        exact⟨n+24,by rw[len_24 ⟨h0,h1⟩ c,e];omega,Z12 (k:=24) rfl (by omega) l⟩
theorem Qto{b:Q07}(h:U b.C2){P:Nat}:Q3g b P=true↔b.C2<2^P:=by
 obtain⟨n,e,l⟩:=Zak h
 have hp:(if(0:Int)>(P:Int) then(0:Int) else P)=P:=by rw[if_neg (by omega)]
 simp only[Q3g,Q3y,Tree.m,letv,e,hp,decide_eq_true_eq]
 constructor
 · intro h;exact Z8 l (by omega)
 · intro h;have:=isLen_le l h;omega
end Go.Proofs.YtpcbkbalabgnlaaGreat
namespace Go.Proofs.YtpcbkbalabgnlaaGreat
open Go Go.GD
set_option maxRecDepth 100000
theorem Qzg{a:Int}(h:U a){P:Nat}(h1:a<2^P):(BitVec.ofInt 32 a).toNat<2^P:=by
 obtain⟨a0,a1⟩:=h
 rw[BitVec.toNat_ofInt,Int.emod_eq_of_lt a0 (by omega)]
 have:((2^P:Nat):Int)=(2:Int)^P:=by exact_mod_cast rfl
 omega
theorem or_lt{a b:Int}(ha:U a)(hb:U b){P:Nat}(hP:P≤32)(h1:a<2^P)(h2:b<2^P):ior .u32 a b<2^P:=by
 have e:(BitVec.ofInt 32 a|||BitVec.ofInt 32 b).toNat<2^P:=by
   rw[BitVec.toNat_or]
   exact Nat.or_lt_two_pow (Qzg ha h1) (Qzg hb h2)
 have hc:((2^P:Nat):Int)=(2:Int)^P:=by exact_mod_cast rfl
 have l:=(BitVec.ofInt 32 a|||BitVec.ofInt 32 b).isLt
 show IntKind.wrap .u32 ((BitVec.ofInt 32 a|||BitVec.ofInt 32 b).toNat:Int)<2^P
 rw[IntKind.wrap_u32]
 omega
theorem andn_lt{a b:Int}(ha:U a){P:Nat}(h1:a<2^P):Qe8 .u32 a b<2^P:=by
 have e:(BitVec.ofInt 32 a&&&~~~BitVec.ofInt 32 b).toNat<2^P:=by
   rw[BitVec.toNat_and]
   exact Nat.lt_of_le_of_lt Nat.and_le_left (Qzg ha h1)
 have hc:((2^P:Nat):Int)=(2:Int)^P:=by exact_mod_cast rfl
 have l:=(BitVec.ofInt 32 a&&&~~~BitVec.ofInt 32 b).isLt
 show IntKind.wrap .u32 ((BitVec.ofInt 32 a&&&~~~BitVec.ofInt 32 b).toNat:Int)<2^P
 rw[IntKind.wrap_u32]
 omega
theorem shl_one{v:Int}(h0:0≤v)(h1:v<32):ishl .u32 1 v=2^v.toNat:=by
 have e:min v.toNat IntKind.u32.bits=v.toNat:=by show min v.toNat 32=v.toNat;omega
 obtain⟨n,rfl⟩: ∃n:Nat,v=n:=⟨v.toNat,by omega⟩
 have hn:n<32:=by omega
 have hlt:(2:Nat)^n<4294967296:=by
   have:=Nat.pow_lt_pow_right (show 1<2 by omega) hn
   simpa using this
 have hc:((2^n:Nat):Int)=(2:Int)^n:=by exact_mod_cast rfl
 unfold ishl
 rw[e,IntKind.wrap_u32,Int.one_mul,Int.toNat_natCast,←hc]
 clear hc e
 generalize(2:Nat)^n=z at*
 omega
def keepB(P:Nat)(b b':Q07):Prop:=okB b'∧(Q3g b P=true→Q3g b' P=true)
theorem Zab{P:Nat}{m:List Int}(h:Q0u P m){b:Q07}(hb:okB b)(port:Int){v:Int}(hv:U v):(Q2e b m port v).w (λr=>keepB P b r.1∧Q0u P r.2):=by
 have hcl:Q02 m=m:=rfl
 have h2:=h.p2
 have hp:=Q3p h
 have keep:(Tree.an (Q04 m) (.lv (Q02 m) λx=> .lf (b,x))).w (λr=>keepB P b r.1∧Q0u P r.2):=w_an (Q8e h) (w_lv λx hx=>by rw[hcl]at hx;subst hx;exact⟨⟨hb,λh=>h⟩,h⟩)
 unfold Q2e
 refine w_br (λ_=>keep) λhlt=>w_cn (decide_eq_true hv.1) (w_br (λ_=>w_lv λx1 hx=>w_br (λhpg=>w_br (λ_=>w_an ⟨by decide,by decide,by decide⟩ (w_lv λx2 _=>Q0d (Qun h _ _) λx3 ⟨h3,_⟩=> ?_)) (λ_=>keep)) (λ_=>keep)) (λ_=>w_br (λ_=>w_an (Q8e h) (w_lv λx hx=> ?_)) (λ_=>keep)))
 · have hlt:=of_decide_eq_false hlt
   have hpg:=of_decide_eq_true hpg
   rw[hx,hp]at hpg
   obtain⟨v0,v1⟩:=hv
   have ev:IntKind.i64.wrap v=v:=by rw[IntKind.wrap_i64];omega
   rw[ev]at hpg
   refine⟨⟨⟨hb.1,Q0j _⟩,λhm=> ?_⟩,h3⟩
   rw[Qto hb.2]at hm
   rw[Qto (Q0j _)]
   have hs:ishl .u32 1 v<2^P:=by
     rw[shl_one v0 (by omega)]
     have:=Nat.pow_lt_pow_right (show 1<2 by omega) (show v.toNat<P by omega)
     exact_mod_cast this
   exact or_lt hb.2 (Q0j _) h2 hm hs
 · rw[hcl]at hx;subst hx
   refine⟨⟨⟨hb.1,Q0j _⟩,λhm=> ?_⟩,h⟩
   rw[Qto hb.2]at hm
   rw[Qto (Q0j _)]
   exact andn_lt hb.2 hm
end Go.Proofs.YtpcbkbalabgnlaaGreat
namespace Go.Proofs.YtpcbkbalabgnlaaGreat
open Go Go.GD
set_option maxRecDepth 100000
structure kept(P:Nat)(m n:Q00):Prop where
 ok:okS P n
 dev:Q0v m=true→Q0v n=true
 cpu:n.B4=m.B4
 cnt:n.A4=m.A4
 wait:n.A3=m.A3
 halt:n.A6=m.A6
theorem Z3m{P:Nat}{m:Q00}(h:okS P m):kept P m m:=⟨h,λh=>h,rfl,rfl,rfl,rfl⟩
theorem Qkb{P:Nat}{m n:Q00}(hm:Q0u P m.Mem)(hn:Q0u P n.Mem)(hc:Q3 m.A2=true→Q3 n.A2=true)(ht:Q5o m.A9=true→Q5o n.A9=true)
   (hd:Q1e m.B2 P=true→Q1e n.B2 P=true) (hk:Q6y m.C6 P=true→Q6y n.C6 P=true) (hb:Q3g m.A1 P=true→Q3g n.A1 P=true) (h:Q0v m=true):Q0v n=true:=by
 rw[dev_eq]at h⊢
 rw[Q3p hm]at h
 rw[Q3p hn]
 simp only[Bool.and_eq_true]at h⊢
 exact⟨hc h.1,ht h.2.1,hd h.2.2.1,hk h.2.2.2.1,hb h.2.2.2.2⟩
theorem Z6t{P:Nat}{m:Q00}(h:okS P m)(port:Int){v:Int}(hv:U v)(at0:Int):(Q1x m port v at0).w (λr=>kept P m r.1∧r.2.length≤1):=by
 have k:=Z3m h
 obtain⟨h1,h2,h3,h4,h5,h6⟩:=h
 have id: ∀{p:Prop},p→p:=λh=>h
 have D: ∀(x:Q0b×List Q0a),(keepD P m.B2 x.1∧x.2.length≤1)→kept P m {B4:=m.B4,Mem:=m.Mem,A2:=m.A2,A9:=m.A9,B2:=x.1,C6:=m.C6,A1:=m.A1,A4:=m.A4,A3:=m.A3,A6:=m.A6}∧x.2.length≤1:=λx hx=>
   ⟨⟨⟨h1,h2,hx.1.1,h4,h5,h6⟩,Qkb h2 h2 id id hx.1.2 id id,rfl,rfl,rfl,rfl⟩,hx.2⟩
 have N: ∀(x:Q0k×List Q0a),(keepN P m.C6 x.1∧x.2.length≤1)→kept P m {B4:=m.B4,Mem:=m.Mem,A2:=m.A2,A9:=m.A9,B2:=m.B2,C6:=x.1,A1:=m.A1,A4:=m.A4,A3:=m.A3,A6:=m.A6}∧x.2.length≤1:=λx hx=>
   ⟨⟨⟨h1,h2,h3,hx.1.1,h5,h6⟩,Qkb h2 h2 id id id hx.1.2 id,rfl,rfl,rfl,rfl⟩,hx.2⟩
 have B: ∀(x:Q07×List Int),(keepB P m.A1 x.1∧Q0u P x.2)→kept P m {B4:=m.B4,Mem:=x.2,A2:=m.A2,A9:=m.A9,B2:=m.B2,C6:=m.C6,A1:=x.1,A4:=m.A4,A3:=m.A3,A6:=m.A6}∧([]:List Q0a).length≤1:=λx hx=>
   ⟨⟨⟨h1,hx.2,h3,h4,hx.1.1.1,hx.1.1.2⟩,Qkb h2 hx.2 id id id id hx.1.2,rfl,rfl,rfl,rfl⟩,Nat.zero_le _⟩
 unfold Q1x
 repeat'(first
   |exact⟨k,Nat.le_refl _⟩
   |exact⟨k,Nat.zero_le _⟩
   |exact w_lv λx hx=>⟨⟨⟨h1,h2,h3,h4,h5,h6⟩,Qkb h2 h2 id (λ_=>by rw[hx];exact arm_may _ _) id id id,rfl,rfl,rfl,rfl⟩,Nat.zero_le _⟩
   |exact Q0d (diskP_w h2 h3 _ hv _) λx hx=>D x hx
   |exact Q0d (nicP_w h2 h4 _ hv _) λx hx=>N x hx
   |exact Q0d (Zab h2 ⟨h5,h6⟩ _ hv) λx hx=>B x hx
   |refine w_br (λ_=> ?_) (λ_=> ?_))
theorem Qz6(c:Q0c)(port:Int):(Q8c c port).w (λr=>U r.2∧(Q3 c=true→Q3 r.1=true)):=by
 have u1:U 4294967295:=⟨by omega,by omega⟩
 unfold Q8c
 refine w_br (λ_=>w_br (λ_=>⟨u1,λh=>h⟩) (λhb=>w_cn ?_ (w_cn ?_ ⟨Q0j _,λhm=> ?_⟩))) (λ_=>w_br (λ_=>⟨Q0j _,λh=>h⟩) (λ_=>⟨U_0,λh=>h⟩))
 · have hb:=of_decide_eq_false hb
   have:0<c.D2.length:=List.length_pos_iff.2 hb
   simp [Nat.blt];omega
 · have hb:=of_decide_eq_false hb
   have:0<c.D2.length:=List.length_pos_iff.2 hb
   exact decide_eq_true (by omega)
 · have hm:decide ((c.D2.length:Int)≤16)=true:=hm
   have hm:=of_decide_eq_true hm
   show decide (((List.take _ (List.drop _ c.D2)).length:Int)≤16)=true
   refine decide_eq_true ?_
   rw[List.length_take,List.length_drop];omega
theorem Zci{P:Nat}{m:Q00}(h:okS P m)(port:Int){clock:Int}(hc:U clock):(Q26 m port clock).w (λr=>kept P m r.1∧U r.2):=by
 have k:=Z3m h
 obtain⟨h1,h2,h3,h4,h5,h6⟩:=h
 have id: ∀{p:Prop},p→p:=λh=>h
 have ti: ∀t,U (Qsd t):=λt=>by
   refine Tree.post (Qkk t) (W:=U) ?_
   unfold Qkk
   exact w_br (λ_=>⟨by omega,by omega⟩) (λ_=>U_0)
 have di: ∀p,U (Qpt m.B2 p):=λp=>by
   refine Tree.post (Qnu m.B2 p) (W:=U) ?_
   unfold Qnu
   exact w_br (λ_=>h3.block) (λ_=>w_br (λ_=>h3.frame) (λ_=>w_br (λ_=>Q0j _) (λ_=>U_0)))
 have ni: ∀p,U (Qv6 m.C6 p):=λp=>by
   refine Tree.post (Qo8 m.C6 p) (W:=U) ?_
   unfold Qo8
   exact w_br (λ_=>h4.frame) (λ_=>w_br (λ_=>h4.got) (λ_=>w_br (λ_=>w_br (λ_=>w_br (λ_=>Q0j _) (λ_=>Q0j _)) (λ_=>w_br (λ_=>Q0j _) (λ_=>U_0))) (λ_=>U_0)))
 have bi: ∀p,(Q62 m.A1 p).w U:=λp=>by
   unfold Q62
   exact w_br (λ_=>h5) (λ_=>w_br (λ_=>Q0d (Z9h h6) λ_ _=>Q0j _) (λ_=>U_0))
 have C: ∀(x:Q0c×Int),(U x.2∧(Q3 m.A2=true→Q3 x.1=true))→kept P m {B4:=m.B4,Mem:=m.Mem,A2:=x.1,A9:=m.A9,B2:=m.B2,C6:=m.C6,A1:=m.A1,A4:=m.A4,A3:=m.A3,A6:=m.A6}∧U x.2:=λx hx=>
   ⟨⟨⟨h1,h2,h3,h4,h5,h6⟩,Qkb h2 h2 hx.2 id id id id,rfl,rfl,rfl,rfl⟩,hx.1⟩
 unfold Q26
 repeat'(first
   |exact⟨k,hc⟩
   |exact⟨k,U_0⟩
   |exact Q0d (Qz6 _ _) λx hx=>C x hx
   |exact Z8x (Qz6 _ _) λx hx=>C x hx
   |exact w_lv λx hx=>⟨k,by rw[hx];exact ti _⟩
   |exact w_lv λx hx=>⟨k,by rw[hx];exact di _⟩
   |exact w_lv λx hx=>⟨k,by rw[hx];exact ni _⟩
   |exact Q0d (bi _) λx hx=>⟨k,hx⟩
   |refine w_br (λ_=> ?_) (λ_=> ?_))
end Go.Proofs.YtpcbkbalabgnlaaGreat
namespace Go.Proofs.YtpcbkbalabgnlaaGreat
open Go Go.GD
set_option maxRecDepth 100000
structure Q6n(c:Q03):Prop where
 x0:c.X.a0=0
 st:c.B5.a0≤31
 en:c.B5.a7≤31
 rt:c.B5.a6≤255
 ve:Int.tmod c.B5.a1 4=0
theorem Q6n.pc{c:Q03}(h:Q6n c)(p:Int):Q6n {X:=c.X,Pc:=p,B5:=c.B5}:=⟨h.x0,h.st,h.en,h.rt,h.ve⟩
theorem and31(a:Int):iand .u32 a 31≤31:=by
 have e:(BitVec.ofInt 32 a&&&BitVec.ofInt 32 31).toNat≤31:=by
   rw[BitVec.toNat_and]
   exact Nat.le_trans Nat.and_le_right (by decide)
 show IntKind.wrap .u32 ((BitVec.ofInt 32 a&&&BitVec.ofInt 32 31).toNat:Int)≤31
 rw[IntKind.wrap_u32];omega
theorem and255'(a:Int):iand .u32 a 255≤255:=by have:=and255 a;omega
theorem andn3(a:Int):Int.tmod (Qe8 .u32 a 3) 4=0:=by
 have e:(BitVec.ofInt 32 a&&&~~~BitVec.ofInt 32 3).toNat%4=0:=by
   rw[BitVec.toNat_and,show(~~~BitVec.ofInt 32 3).toNat=4294967292 by decide]
   have:=Nat.and_mod_two_pow (a:=(BitVec.ofInt 32 a).toNat) (b:=4294967292) (n:=2)
   simpa using this
 have l:=(BitVec.ofInt 32 a&&&~~~BitVec.ofInt 32 3).isLt
 show Int.tmod (IntKind.wrap .u32 ((BitVec.ofInt 32 a&&&~~~BitVec.ofInt 32 3).toNat:Int)) 4=0
 rw[IntKind.wrap_u32,Int.tmod_eq_emod_of_nonneg (by omega)]
 omega
theorem fin32{f:Int→Int}(h:(List.range 32).all (λn=>decide (f n≤31))=true){s:Int}(h0:0≤s)(h1:s≤31):f s≤31:=by
 have:=List.all_eq_true.1 h s.toNat (List.mem_range.2 (by omega))
 have e:((s.toNat:Nat):Int)=s:=by omega
 rw[e]at this
 exact of_decide_eq_true this
theorem Qi9{c:Q03}(h:Q2q c)(m:Q6n c)(k b:Int):Q6n (Q4e c k b):=
 ⟨m.x0,fin32 (f:=λs=>Qe8 .u32 (ior .u32 (Q82 (Q82 s 1 8) 2 16) 1) 2) (by kernel_rfl) h.a0.1 m.st,m.en,m.rt,m.ve⟩
theorem Zb8{c:Q03}(h:Q2q c)(m:Q6n c):Q6n (Qck c):=
 ⟨m.x0,fin32 (f:=λs=>Q82 (Q82 s 8 1) 16 2) (by kernel_rfl) h.a0.1 m.st,m.en,m.rt,m.ve⟩
theorem Qpe{c:Q03}(m:Q6n c){r:Int}(hr:0≤r∧r<16)(v:Int):(Q7u c r v).w Q6n:=by
 unfold Q7u
 refine w_br (λhn=>w_cn (rc hr) ?_) (λ_=>m)
 have hn:r≠0:=by simpa using hn
 obtain⟨n,e⟩: ∃n:Nat,r.toNat=n+1:=⟨r.toNat-1,by omega⟩
 refine⟨?_,m.st,m.en,m.rt,m.ve⟩
 show(A16.of 0 (List.set (A16.l c.X) r.toNat v)).a0=0
 rw[e]
 exact m.x0
theorem write_may{c:Q03}(m:Q6n c)(k v:Int):(Q6i c k v).w Q6n:=by
 unfold Q6i
 refine w_br (λhk=>w_cn (by rw[eq_of_beq hk];decide) ?_) λ_=>w_br (λhk=>w_cn (by rw[eq_of_beq hk];decide) ?_) λ_=>w_br (λhk=>w_cn (by rw[eq_of_beq hk];decide) ?_) λ_=>w_br (λhk=>w_cn (by rw[eq_of_beq hk];decide) ?_) λ_=>w_br (λhk=>w_cn (by rw[eq_of_beq hk];decide) ?_) λ_=>w_br (λhk=>w_cn (by rw[eq_of_beq hk];decide) ?_) λ_=>w_br (λhk=>w_cn (by rw[eq_of_beq hk];decide) ?_) λ_=>w_br (λhk=>w_cn (by rw[eq_of_beq hk];decide) ?_) (λ_=>m)
 all_goals(have hk:=eq_of_beq hk;subst hk)
 · exact⟨m.x0,and31 _,m.en,m.rt,m.ve⟩
 · exact⟨m.x0,m.st,and31 _,m.rt,m.ve⟩
 · exact⟨m.x0,m.st,m.en,and255' _,m.ve⟩
 · exact⟨m.x0,m.st,m.en,m.rt,andn3 _⟩
 · exact⟨m.x0,m.st,m.en,m.rt,m.ve⟩
 · exact⟨m.x0,m.st,m.en,m.rt,m.ve⟩
 · exact⟨m.x0,m.st,m.en,m.rt,m.ve⟩
 · exact⟨m.x0,m.st,m.en,m.rt,m.ve⟩
section
variable {c:Q03} (h:Q2q c) (m:Q6n c) {i:Q0g} (hi:Qda i)
include h m hi
theorem Z7k:(Q2y c i).w (λr=>Q6n r.1):=by
 unfold Q2y
 refine w_cn (rc hi.a) (w_cn (rc hi.b) ?_)
 repeat'(first
   |refine w_br (λ_=> ?_) (λ_=> ?_)
   |exact Q0d (Qpe m hi.a _) λx hx=>hx.pc _
   |exact w_lv λx _=>w_br (λ_=>m.pc _) (λ_=>m.pc _)
   |exact w_lv λx hx=>by rw[hx];exact Qi9 h m _ _
   |exact w_lv λx hx=>by rw[hx];exact Zb8 h m
   |exact w_cn (by have:=hi.csr (by simp_all);simp [Nat.blt];omega) (Q0d (Qpe m hi.a _) λx hx=>hx.pc _)
   |exact Q0d (write_may m _ _) λx hx=>hx.pc _
   |refine w_cn (rc hi.c) ?_
   |exact Q0d (Qy7 _ (h.r _) (Q0j _)) λy hy=>Q0d (Qpe m hi.a _) λx hx=>hx.pc _
   |exact Q0d (Qy7 _ (h.r _) (h.r _)) λy hy=>Q0d (Qpe m hi.a _) λx hx=>hx.pc _
   |refine w_lf ?_)
 all_goals exact m.pc _
theorem load_may{P:Nat}{mem:List Int}(hm:Q0u P mem):(Q8 c mem i).w (λr=>Q6n r.1):=by
 have w:=Qzy i.Op
 unfold Q8
 refine w_cn (rc hi.b) (w_lv λx0 h0=> ?_)
 rw[←h0]at w
 refine Q0d (Qhb hm (Q0j _) w 2) λx1 h1=>w_br (λ_=>w_lv λy hy=>by rw[hy];exact Qi9 h m _ _) (λ_=>w_lv λx3 h3=> ?_)
 rw[h0,←h3]at w
 exact Q0d (Qm h1.2 h1.1 w) λx4 h4=>w_br (λ_=>Q0d (Qot h4.1 8) λy hy=>Q0d (Qpe m hi.a _) λx hx=>hx.pc _) (λ_=>Q0d (Qpe m hi.a _) λx hx=>hx.pc _)
theorem store_may{P:Nat}{mem:List Int}(hm:Q0u P mem):(Q6k c mem i).w (λr=>Q6n r.1):=by
 have w:=Qzy i.Op
 unfold Q6k
 refine w_cn (rc hi.b) (w_lv λx0 h0=> ?_)
 rw[←h0]at w
 refine Q0d (Qhb hm (Q0j _) w 3) λx1 h1=>w_br (λ_=>w_lv λy hy=>by rw[hy];exact Qi9 h m _ _) (λ_=>w_lv λx3 h3=>w_cn (rc hi.a) ?_)
 rw[h0,←h3]at w
 exact Q0d (Qsg h1.2 h1.1 w (h.r _)) λx hx=>m.pc _
end
theorem exec_may{c:Q03}(h:Q2q c)(m:Q6n c){P:Nat}{mem:List Int}(hm:Q0u P mem):(Q6 c mem).w (λr=>Q6n r.1):=by
 unfold Q6
 refine Q0d (Z1 hm h) λx0 h0=>w_br (λ_=>w_lv λy hy=>by rw[hy];exact Qi9 h m _ _) (λ_=>Q0d (Qvm _) λx2 h2=>w_br (λ_=>w_lv λy hy=>by rw[hy];exact Qi9 h m _ _) (λhb=> ?_))
 have hi:=h2 (by simpa using hb)
 refine w_lv λx4 _=> ?_
 repeat'(first
   |refine w_br (λ_=> ?_) (λ_=> ?_)
   |exact Q0d (load_may h m hi h0.2) λx hx=>hx
   |exact Q0d (store_may h m hi h0.2) λx hx=>hx
   |exact Q0d (Z7k h m hi) λx hx=>hx
   |exact w_lv λy hy=>by rw[hy];exact Qi9 h m _ _
   |refine w_lv λ_ _=> ?_)
end Go.Proofs.YtpcbkbalabgnlaaGreat
namespace Go.Proofs.YtpcbkbalabgnlaaGreat
open Go Go.GD
set_option maxRecDepth 100000
theorem Z67{c:Q03}(h:Q2q c){i:Q0g}(hi:Qda i):(Q2y c i).w (λr=>0≤r.2.D9∧r.2.D9<16):=by
 have z:(0:Int)≤0∧(0:Int)<16:=⟨by decide,by decide⟩
 unfold Q2y
 refine w_cn (rc hi.a) (w_cn (rc hi.b) ?_)
 repeat'(first
   |refine w_br (λ_=> ?_) (λ_=> ?_)
   |exact Q0d (Qlq h hi.a (Q0j _)) λx hx=>z
   |exact w_lv λx _=>w_br (λ_=>z) (λ_=>z)
   |exact w_lv λx hx=>z
   |exact w_cn (by have:=hi.csr (by simp_all);simp [Nat.blt];omega) (Q0d (Qlq h hi.a (h.a _)) λx hx=>z)
   |exact Q0d (Z9o h _ (h.r _)) λx hx=>z
   |refine w_cn (rc hi.c) ?_
   |exact Q0d (Qy7 _ (h.r _) (Q0j _)) λy hy=>Q0d (Qlq h hi.a hy) λx hx=>z
   |exact Q0d (Qy7 _ (h.r _) (h.r _)) λy hy=>Q0d (Qlq h hi.a hy) λx hx=>z
   |refine w_lf ?_)
 all_goals first|exact z|exact hi.a
theorem Z82{c:Q03}(h:Q2q c){P:Nat}{mem:List Int}(hm:Q0u P mem):(Q6 c mem).w (λr=>0≤r.2.2.D9∧r.2.2.D9<16):=by
 have z:(0:Int)≤0∧(0:Int)<16:=⟨by decide,by decide⟩
 unfold Q6
 refine Q0d (Z1 hm h) λx0 h0=>w_br (λ_=>w_lv λy hy=>z) (λ_=>Q0d (Qvm _) λx2 h2=>w_br (λ_=>w_lv λy hy=>z) (λhb=> ?_))
 have hi:=h2 (by simpa using hb)
 refine w_lv λx4 _=> ?_
 repeat'(first
   |refine w_br (λ_=> ?_) (λ_=> ?_)
   |exact Q0d (Qtf h hi h0.2) λx hx=>z
   |exact Q0d (Qr8 h hi h0.2) λx hx=>z
   |exact Q0d (Z67 h hi) λx hx=>hx
   |exact w_lv λy hy=>z
   |refine w_lv λ_ _=> ?_)
theorem cnd2{a x:Bool}:(bif a then false else x)=true↔a=false∧x=true:=by cases a<;>simp
theorem Qj9(m:Q00):Q1c m=true↔Q0n m.Mem≠0∧Q6n m.B4∧m.A4≤1152921504606846976∧ ¬(m.A3=true∧m.A6=true)∧Q0v m=true:=by
  rw[may_eq]
  unfold mayC chain
  rw[cnd2,cnd2,cnd2,cnd2,cnd2,cnd2,cnd2]
  simp only[decide_eq_false_iff_not,Int.not_lt,beq_eq_false_iff_ne,bne_eq_false_iff_eq,gt_iff_lt]
  constructor
  · rintro⟨a1,a2,a3,a4,a5,a6,a7,a8⟩
    refine⟨a1,⟨a2,a3,a4,a5,a6⟩,a7,?_,?_⟩
    · rintro⟨w,h⟩;rw[w,h]at a8;cases a8
    · revert a8;cases m.A3
      · exact λh=>h
      · cases m.A6
        · exact λh=>h
        · intro h;cases h
  · rintro⟨a1,⟨a2,a3,a4,a5,a6⟩,a7,a8,a9⟩
    refine⟨a1,a2,a3,a4,a5,a6,a7,?_⟩
    rw[a9]
    cases hw:m.A3
    · rfl
    · cases hh:m.A6
      · rfl
      · exact absurd ⟨hw,hh⟩ a8
theorem Qsw{m:Q00}(h:Q2n m=true):Q1c m=true∧m.A6=false∧m.A4<1152921504606846976:=by
  simp only[Q2n,Q3a,Tree.m,letv]at h
  cases h1:Q1c m
  · rw[h1]at h;cases h
  · cases h2:m.A6
    · rw[h1,h2]at h
      cases h3:Q6e m
      · rw[h3]at h
        have h:decide (m.A4<1152921504606846976)=true:=h
        exact⟨rfl,rfl,of_decide_eq_true h⟩
      · rw[h3]at h;cases h
    · rw[h1,h2]at h;cases h
theorem Quv{P:Nat}{m:Q00}(h:okS P m)(g:Q6n m.B4):(Q2c m).w (λr=>Q6n r.B4∧okS P r∧r.Mem=m.Mem∧r.A3=false∧r.A6=m.A6∧r.A4=m.A4∧r.A2=m.A2∧r.A9=m.A9∧r.B2=m.B2∧r.C6=m.C6∧r.A1=m.A1):=by
 obtain⟨h1,h2,h3,h4,h5,h6⟩:=h
 unfold Q2c
 refine w_br (λ_=>⟨g,⟨h1,h2,h3,h4,h5,h6⟩,rfl,rfl,rfl,rfl,rfl,rfl,rfl,rfl,rfl⟩) (λ_=>Q0d (Qps (m:=⟨_,_,_,_,_,_,m.A1,_,_,_⟩) h6) λx0 _=>w_lp (inv:=λz=>0≤z∧z≤5) (μ:=Qan m) ⟨by omega,by omega⟩ (Nat.lt_succ_self _) (λz hz=> ?_))
 obtain⟨z1,z2⟩:=hz
 refine w_br (λhb=>w_cn (decide_eq_true z1) (w_br (λ_=>w_lv λx1 hx=>⟨by rw[hx];exact Qi9 h1 g _ _,⟨by rw[hx];exact Qjp h1 _ U_0,h2,h3,h4,h5,h6⟩,rfl,rfl,rfl,rfl,rfl,rfl,rfl,rfl,rfl⟩) (λ_=>w_nx ?_))) (λ_=>⟨g,⟨h1,h2,h3,h4,h5,h6⟩,rfl,rfl,rfl,rfl,rfl,rfl,rfl,rfl,rfl⟩)
 have hb:=of_decide_eq_true hb
 show(0≤IntKind.i64.wrap (z+1)∧IntKind.i64.wrap (z+1)≤5)∧(5-IntKind.i64.wrap (z+1)).toNat<(5-z).toNat
 have ew:IntKind.i64.wrap (z+1)=z+1:=by rw[IntKind.wrap_i64];omega
 rw[ew];omega
end Go.Proofs.YtpcbkbalabgnlaaGreat
namespace Go.Proofs.YtpcbkbalabgnlaaGreat
open Go Go.GD
set_option maxRecDepth 100000
structure Good(P:Nat)(m r:Q00):Prop where
 ok:okS P r
 cnt:0≤r.A4
 may:Q1c m=true→Q1c r=true
 or:r=m∨r.A4=m.A4+1
end Go.Proofs.YtpcbkbalabgnlaaGreat
namespace Go.Proofs.YtpcbkbalabgnlaaGreat
open Go Go.GD
set_option maxRecDepth 100000
end Go.Proofs.YtpcbkbalabgnlaaGreat
namespace Go.Proofs.YtpcbkbalabgnlaaGreat
open Go Go.GD
set_option maxRecDepth 100000
theorem step_w0{P:Nat}{m:Q00}(h:okS P m)(hc0:0≤m.A4){clock:Int}(hk:U clock):(Q2v m clock).w (λr=>r.2.length≤1∧Good P m r.1):=by
 have hcl:Q02 m.Mem=m.Mem:=rfl
 unfold Q2v
 refine w_an (Q8e h.mem) (w_lv λl hl=> ?_)
 rw[hcl]at hl;subst hl
 refine w_an (Tree.pp (Z7q (m:=⟨_,_,_,_,_,_,m.A1,_,_,_⟩) h.given)).1 (w_lv λx1 hx1=>w_br (λ_=>⟨Nat.zero_le _,h,hc0,λh=>h, .inl rfl⟩) (λhb=> ?_))
 have hr:Q2n m=true:=by rw[←show x1=Q2n m from hx1];simpa using hb
 obtain⟨hm,hh,hct⟩:=Qsw hr
 obtain⟨g1,g2,g3,g4,g5⟩:=(Qj9 m).1 hm
 have hP:(P:Int)≠0:=by rw[←Q3p h.mem];exact g1
 have fin: ∀(n:Q00),okS P n→Q6n n.B4→Q0v n=true→n.A4=m.A4→ ¬(n.A3=true∧n.A6=true)→Good P m {B4:=n.B4,Mem:=n.Mem,A2:=n.A2,A9:=n.A9,B2:=n.B2,C6:=n.C6,A1:=n.A1,A4:=IntKind.wrap .u64 (n.A4+1),A3:=n.A3,A6:=n.A6}:=λn a b c d e=>by
   have ec:IntKind.wrap .u64 (n.A4+1)=m.A4+1:=by rw[d,IntKind.wrap_u64];omega
   refine⟨⟨a.cpu,a.mem,a.disk,a.nic,a.target,a.given⟩,?_,λ_=>(Qj9 _).2 ⟨?_,b,?_,e,c⟩, .inr ec⟩
   · show 0≤IntKind.wrap .u64 (n.A4+1);omega
   · show Q0n n.Mem≠0;rw[Q3p a.mem];exact hP
   · show IntKind.wrap .u64 (n.A4+1)≤_;omega
 refine Q0d (Quv (m:=⟨_,_,m.A2,m.A9,m.B2,m.C6,m.A1,m.A4,m.A3,m.A6⟩) ⟨h.cpu,h.mem,h.disk,h.nic,h.target,h.given⟩ g2) λx2 hx2=> ?_
 obtain⟨b1,b2,b3,b4,b5,b6,b7,b8,b9,b10,b11⟩:=hx2
 have ex:=Tree.pp (execP_w b2.cpu b2.mem)
 have em:=Tree.pp (exec_may b2.cpu b1 b2.mem)
 have er:=Tree.pp (Z82 b2.cpu b2.mem)
 refine w_an ex.1 (w_lv λx3 h3=> ?_)
 obtain⟨e1,e2,e3⟩:Q2q x3.1∧Q0u P x3.2.1∧U x3.2.2.Value:=by rw[h3];exact ex.2
 have f1:Q6n x3.1:=by rw[h3];exact em.2
 have r1:0≤x3.2.2.D9∧x3.2.2.D9<16:=by rw[h3];exact er.2
 have ok3:okS P ⟨x3.1,x3.2.1,x2.A2,x2.A9,x2.B2,x2.C6,x2.A1,x2.A4,x2.A3,x2.A6⟩:=⟨e1,e2,b2.disk,b2.nic,b2.target,b2.given⟩
 have dev: ∀(w h:Bool),Q0v ⟨x3.1,x3.2.1,x2.A2,x2.A9,x2.B2,x2.C6,x2.A1,x2.A4,w,h⟩=true:=λw hh=>by
   have id: ∀{p:Prop},p→p:=λh=>h
   refine Qkb (m:=m) (P:=P) h.mem e2 ?_ ?_ ?_ ?_ ?_ g5
   · show _→Q3 x2.A2=true;rw[b7];exact id
   · show _→Q5o x2.A9=true;rw[b8];exact id
   · show _→Q1e x2.B2 P=true;rw[b9];exact id
   · show _→Q6y x2.C6 P=true;rw[b10];exact id
   · show _→Q3g x2.A1 P=true;rw[b11];exact id
 have hw:x2.A3=false:=b4
 have hh2:x2.A6=false:=b5.trans hh
 have hct2:x2.A4=m.A4:=b6
 refine w_br (λ_=> ?_) λ_=>w_br (λ_=> ?_) λ_=>w_br (λ_=> ?_) λ_=>w_br (λ_=> ?_) λ_=> ?_
 · refine Q0d (Zci ok3 _ hk) λx4 h4=> ?_
   obtain⟨k,u⟩:=h4
   have kc:x4.1.B4=x3.1:=k.cpu
   have kt:x4.1.A4=m.A4:=k.cnt.trans hct2
   have kw: ¬(x4.1.A3=true∧x4.1.A6=true):=λe=>by have:x4.1.A3=x2.A3:=k.wait;rw[this,hw]at e;cases e.1
   have km:Q6n x4.1.B4:=by rw[kc];exact f1
   refine w_br (λhn=>w_cn (rc r1) ⟨Nat.zero_le _,?_⟩) (λ_=>⟨Nat.zero_le _,fin x4.1 k.ok km (k.dev (dev _ _)) kt kw⟩)
   have hn:x3.2.2.D9≠0:=by simpa using hn
   obtain⟨q,e⟩: ∃q:Nat,x3.2.2.D9.toNat=q+1:=⟨x3.2.2.D9.toNat-1,by omega⟩
   refine fin ⟨⟨A16.of 0 (List.set (A16.l x4.1.B4.X) x3.2.2.D9.toNat x4.2),x4.1.B4.Pc,x4.1.B4.B5⟩,x4.1.Mem,x4.1.A2,x4.1.A9,x4.1.B2,x4.1.C6,x4.1.A1,x4.1.A4,x4.1.A3,x4.1.A6⟩ ⟨⟨Z7w k.ok.cpu.x u _,k.ok.cpu.pc,k.ok.cpu.csr⟩,k.ok.mem,k.ok.disk,k.ok.nic,k.ok.target,k.ok.given⟩ ⟨?_,km.st,km.en,km.rt,km.ve⟩ (k.dev (dev _ _)) kt kw
   show(A16.of 0 (List.set (A16.l x4.1.B4.X) x3.2.2.D9.toNat x4.2)).a0=0
   rw[e]
   exact km.x0
 · refine Q0d (Z6t ok3 _ e3 _) λx5 h5=> ?_
   obtain⟨k,u⟩:=h5
   have kc:x5.1.B4=x3.1:=k.cpu
   exact⟨u,fin x5.1 k.ok (by rw[kc];exact f1) (k.dev (dev _ _)) (k.cnt.trans hct2) (λe=>by have:x5.1.A3=x2.A3:=k.wait;rw[this,hw]at e;cases e.1)⟩
 · exact⟨Nat.zero_le _,fin ⟨x3.1,x3.2.1,x2.A2,x2.A9,x2.B2,x2.C6,x2.A1,x2.A4,true,x2.A6⟩ ⟨e1,e2,b2.disk,b2.nic,b2.target,b2.given⟩ f1 (dev _ _) hct2 (λe=>by have e2:x2.A6=true:=e.2;rw[hh2]at e2;cases e2)⟩
 · exact⟨Nat.zero_le _,fin ⟨x3.1,x3.2.1,x2.A2,x2.A9,x2.B2,x2.C6,x2.A1,x2.A4,x2.A3,true⟩ ⟨e1,e2,b2.disk,b2.nic,b2.target,b2.given⟩ f1 (dev _ _) hct2 (λe=>by have e2:x2.A3=true:=e.1;rw[hw]at e2;cases e2)⟩
 · exact⟨Nat.zero_le _,fin ⟨x3.1,x3.2.1,x2.A2,x2.A9,x2.B2,x2.C6,x2.A1,x2.A4,x2.A3,x2.A6⟩ ok3 f1 (dev _ _) hct2 (λe=>by have e2:x2.A3=true:=e.1;rw[hw]at e2;cases e2)⟩
theorem Z81{P:Nat}{m:Q00}(h:okM P m){e:Q08}(he:U e.N):(Q2t m e).w (λr=>(Q1c m=true→Q1c r.1=true)∧r.1.A4=m.A4∧U r.1.A1.C2):=by
 obtain⟨h1,h2,h3,h4,h5,h7⟩:=h
 have hcl:Q02 m.Mem=m.Mem:=rfl
 have pg: ∀{m':List Int},Q0u P m'→Q0n m'=Q0n m.Mem:=λh=>by rw[Q3p h,Q3p h2]
 have keep:(Q1c m=true→Q1c m=true)∧m.A4=m.A4∧U m.A1.C2:=⟨λh=>h,rfl,h5.2⟩
 unfold Q2t
 refine w_an (Q8e h2) (w_lv λl hl=> ?_)
 rw[hcl]at hl;subst hl
 refine Q0d (Z8k (m:=⟨_,_,_,_,_,_,m.A1,_,_,_⟩) h5.2) λx1 _=>w_br (λ_=>keep) λ_=>w_br (λ_=>keep) λ_=> ?_
 refine w_br (λ_=>w_br (λ_=>w_br (λ_=>w_lv λx hx=> ?_) (λ_=>keep)) (λ_=>keep)) λ_=>w_br (λ_=>w_br (λ_=>w_br (λ_=>Q0d (ctype_w _ _) λx hx=> ?_) (λ_=>keep)) (λ_=>keep)) λ_=>w_br (λhk=>Q0d (Zap h2 h3 e) λx hx=> ?_) λ_=>w_br (λhk=>w_br (λ_=>Q0d (receive_w h2 h4 _) λx hx=> ?_) (λ_=>keep)) λ_=>w_br (λ_=>w_br (λ_=> ?_) (λ_=>keep)) (λ_=>keep)
 · exact⟨Qo0 rfl rfl rfl rfl rfl (λh=>h) (λh=>by rw[hx];exact fire_may _ h) (λ_ h=>h) (λ_ h=>h) rfl,rfl,h5.2⟩
 · exact⟨Qo0 rfl rfl rfl rfl rfl hx (λh=>h) (λ_ h=>h) (λ_ h=>h) rfl,rfl,h5.2⟩
 · obtain⟨a1,a2,a3,a4,a5⟩:=hx
   exact⟨Qo0 (pg a2) rfl rfl rfl rfl (λh=>h) (λh=>h) a5 (λ_ h=>h) rfl,rfl,h5.2⟩
 · obtain⟨a1,a2,a3,a4,a5⟩:=hx
   exact⟨Qo0 (pg a2) rfl rfl rfl rfl (λh=>h) (λh=>h) (λ_ h=>h) a5 rfl,rfl,h5.2⟩
 · exact⟨Qo0 rfl rfl rfl rfl rfl (λh=>h) (λh=>h) (λ_ h=>h) (λ_ h=>h) rfl,rfl,h5.2⟩
end Go.Proofs.YtpcbkbalabgnlaaGreat
namespace Go.Proofs.YtpcbkbalabgnlaaGreat
open Go Go.GD
set_option maxRecDepth 100000
structure okW(m:Q00):Prop where
 cpu:Q2q m.B4
 u: ∀w∈m.Mem,U w
 len:m.Mem.length≤1024
 disk:Q85 m.B2
 nic:Qg0 m.C6
 bal:okB m.A1
 cnt:0≤m.A4
end Go.Proofs.YtpcbkbalabgnlaaGreat
namespace Go.Proofs.YtpcbkbalabgnlaaGreat
open Go Go.GD
set_option maxRecDepth 100000
theorem Qq4{a:Int}(h:U a):(BitVec.ofInt 32 a).toNat=a.toNat:=by
 obtain⟨h1,h2⟩:=h
 rw[BitVec.toNat_ofInt];omega
theorem Z6d{a b:Int}(ha:U a)(hb:U b):iand .u32 a b=((a.toNat&&&b.toNat:Nat):Int):=by
 have l:=(BitVec.ofInt 32 a&&&BitVec.ofInt 32 b).isLt
 have e:(BitVec.ofInt 32 a&&&BitVec.ofInt 32 b).toNat=a.toNat&&&b.toNat:=by rw[BitVec.toNat_and,Qq4 ha,Qq4 hb]
 show IntKind.wrap .u32 ((BitVec.ofInt 32 a&&&BitVec.ofInt 32 b).toNat:Int)=_
 rw[IntKind.wrap_u32,←e];omega
theorem or_nat{a b:Int}(ha:U a)(hb:U b):ior .u32 a b=((a.toNat|||b.toNat:Nat):Int):=by
 have l:=(BitVec.ofInt 32 a|||BitVec.ofInt 32 b).isLt
 have e:(BitVec.ofInt 32 a|||BitVec.ofInt 32 b).toNat=a.toNat|||b.toNat:=by rw[BitVec.toNat_or,Qq4 ha,Qq4 hb]
 show IntKind.wrap .u32 ((BitVec.ofInt 32 a|||BitVec.ofInt 32 b).toNat:Int)=_
 rw[IntKind.wrap_u32,←e];omega
theorem Z0f{a:Int}(ha:U a)(k:Nat)(hk:k≤32){q:Int}(hq:q=((2^k-1:Nat):Int)):iand .u32 a q=a%2^k:=by
 have hp:2^k≤2^32:=Nat.pow_le_pow_right (by decide) hk
 have h1:(2:Nat)^32=4294967296:=by decide
 have hpos:=Nat.two_pow_pos k
 subst hq
 rw[Z6d ha ⟨by omega,by omega⟩,Int.toNat_natCast,Nat.and_two_pow_sub_one_eq_mod]
 have:=ha.1
 rw[Int.natCast_emod,Int.toNat_of_nonneg this]
 simp
theorem m15{a:Int}(ha:U a):iand .u32 a 15=a%16:=Z0f ha 4 (by decide) rfl
theorem m255{a:Int}(ha:U a):iand .u32 a 255=a%256:=Z0f ha 8 (by decide) rfl
theorem m65535{a:Int}(ha:U a):iand .u32 a 65535=a%65536:=Z0f ha 16 (by decide) rfl
theorem Qo7(p:Int→Bool)(N:Nat)(h:(List.range N).all (λn=>p n)=true){s:Int}(h0:0≤s)(h1:s<N):p s=true:=by
 have:=List.all_eq_true.1 h s.toNat (List.mem_range.2 (by omega))
 rwa [Int.toNat_of_nonneg h0]at this
theorem w64{x:Int}(h0: -9223372036854775808≤x)(h1:x<9223372036854775808):IntKind.wrap .i64 x=x:=by rw[IntKind.wrap_i64];omega
theorem shr0(a:Int):ishr .u32 a 0=a:=by have:=Qlo (a:=a) 0 (by decide);simpa using this
theorem fld(w:Int):Q35 w 24 8=iand .u32 (ishr .u32 w 24) 255∧Q35 w 20 4=iand .u32 (ishr .u32 w 20) 15∧Q35 w 16 4=iand .u32 (ishr .u32 w 16) 15∧Q35 w 0 16=iand .u32 (ishr .u32 w 0) 65535∧Q35 w 8 8=iand .u32 (ishr .u32 w 8) 255:=
 ⟨by kernel_rfl,by kernel_rfl,by kernel_rfl,by kernel_rfl,by kernel_rfl⟩
def useOf(f:Int):Q84×Bool:=
 bif f==1 then(⟨false,false,false,0,0⟩,true) else bif f==2 then(⟨true,true,true,0,0⟩,true) else bif f==3 then(⟨true,true,false,-32768,32767⟩,true)
 else bif f==4 then(⟨true,true,false,0,65535⟩,true) else bif f==5 then(⟨true,true,false,0,31⟩,true) else bif f==6 then(⟨true,false,false,0,65535⟩,true)
 else bif f==7 then(⟨true,false,false,-32768,32767⟩,true) else bif f==8 then(⟨true,false,false,0,7⟩,true) else bif f==9 then(⟨true,false,false,0,11⟩,true) else(⟨false,false,false,0,0⟩,false)
def sameU(x y:Q84×Bool):Bool:=x.1.a==y.1.a&&x.1.b==y.1.b&&x.1.c==y.1.c&&x.1.low==y.1.low&&x.1.D3==y.1.D3&&x.2==y.2
theorem sameU_eq{x y:Q84×Bool}(h:sameU x y=true):x=y:=by
 obtain⟨⟨a,b,c,d,e⟩,f⟩:=x
 obtain⟨⟨a',b',c',d',e'⟩,f'⟩:=y
 simp only[sameU,Bool.and_eq_true,beq_iff_eq]at h
 obtain⟨⟨⟨⟨⟨rfl,rfl⟩,rfl⟩,rfl⟩,rfl⟩,rfl⟩:=h
 rfl
theorem use_eq{op:Int}(h0:0≤op)(h1:op<256):Que op=useOf (Q29 op):=by
 exact sameU_eq (Qo7 (λop=>sameU (Que op) (useOf (Q29 op))) 256 (by kernel_rfl) h0 h1)
theorem form_le{op:Int}(h0:0≤op)(h1:op<256):Q29 op=0∨Q29 op=1∨Q29 op=2∨Q29 op=3∨Q29 op=4∨Q29 op=5∨Q29 op=6∨Q29 op=7∨Q29 op=8∨Q29 op=9:=by
 have:=of_decide_eq_true (Qo7 (λop=>decide (0≤Q29 op∧Q29 op≤9)) 256 (by kernel_rfl) h0 h1)
 omega
theorem priv_eq{op:Int}(h0:0≤op)(h1:op<256):Q7y op=Q46 op:=by
 exact eq_of_beq (Qo7 (λop=>Q7y op==Q46 op) 256 (by kernel_rfl) h0 h1)
theorem cond_iff{a x y:Bool}:(cond a x y=true)↔((a=true∧x=true)∨(a=false∧y=true)):=by cases a<;>simp
theorem Qzd{i:Q0g}(h0:0≤i.Op)(h1:i.Op<256)(hi:IntKind.wrap .i64 i.Imm=i.Imm):Qcy i=Q6x i:=by
 rw[Bool.eq_iff_iff]
 simp only[Qcy,Qfs,Tree.m,letv,Q6x,Qd3,use_eq h0 h1,hi]
 rcases form_le h0 h1 with h|h|h|h|h|h|h|h|h|h<;>rw[h]<;>
 simp [useOf,Q8n,Qcs,Q7i,Qbr,Qhk,Qhv,Tree.m,letv,cond_iff]<;>omega
theorem sx16{x:Int}(h0:0≤x)(h1:x<65536):IntKind.wrap .i32 (Q28 x 16)=IntKind.wrap .i32 (IntKind.wrap .i16 x):=by
 have e:Q28 x 16=IntKind.wrap .u32 (ishr .i32 (IntKind.wrap .i32 (ishl .u32 x 16)) 16):=by kernel_rfl
 have e2: ∀y,ishr .i32 y 16=y/65536:=λy=>by
   show Int.fdiv y 65536=_
   rw[Int.fdiv_eq_ediv_of_nonneg _ (by decide)]
 have e3:ishl .u32 x 16=IntKind.wrap .u32 (x*65536):=rfl
 have e4:IntKind.wrap .i16 x=(x+32768)%65536-32768:=by
   simp [IntKind.wrap,IntKind.bits,IntKind.signed]
   split<;>omega
 rw[e,e2,e3,e4]
 simp only[IntKind.wrap_i32,IntKind.wrap_u32]
 omega
theorem sx8{x:Int}(h0:0≤x)(h1:x<256):Q28 x 8=Q41 x 8:=by
 exact eq_of_beq (Qo7 (λx=>Q28 x 8==Q41 x 8) 256 (by kernel_rfl) h0 h1)
theorem decode_eq{w:Int}(hw:U w):Qel w=Q1w w:=by
 obtain⟨f1,f2,f3,f4,_⟩:=fld w
 obtain⟨w0,w1⟩:=hw
 have s24:ishr .u32 w 24=w/16777216:=by have:=Qlo (a:=w) 24 (by decide);simpa using this
 have s20:U (ishr .u32 w 20):=Qq ⟨w0,w1⟩ _
 have s16:U (ishr .u32 w 16):=Qq ⟨w0,w1⟩ _
 rw[m255 (Qq ⟨w0,w1⟩ _),s24]at f1
 rw[m15 s20]at f2
 rw[m15 s16]at f3
 rw[shr0]at f4
 have g1:w/16777216%256=w/16777216:=by omega
 rw[g1]at f1
 have o0:0≤w/16777216:=by omega
 have o1:w/16777216<256:=by omega
 have eo:IntKind.wrap .i64 (w/16777216)=w/16777216:=w64 (by omega) (by omega)
 have i32: ∀x,IntKind.wrap .i64 (IntKind.wrap .i32 x)=IntKind.wrap .i32 x:=λx=>by rw[IntKind.wrap_i64,IntKind.wrap_i32];omega
 have l0:=m65535 ⟨w0,w1⟩
 have lx:=sx16 (x:=iand .u32 w 65535) (by omega) (by omega)
 simp only[Qel,Q6f,Q1w,Q7j,Tree.m,letv,f1,f2,f3,f4,s24,eo,use_eq o0 o1,m15 s20,m15 s16,lx]
 generalize w/16777216=op at*
 generalize IntKind.wrap .i64 (ishr .u32 w 20%16)=a
 generalize IntKind.wrap .i64 (ishr .u32 w 16%16)=b
 generalize iand .u32 w 65535=l
 rw[Qzd (i:=⟨op,a,b,IntKind.wrap .i64 l,0⟩) o0 o1 rfl,Qzd (i:=⟨op,a,b,0,IntKind.wrap .i32 (IntKind.wrap .i16 l)⟩) o0 o1 (i32 _),Qzd (i:=⟨op,a,b,0,IntKind.wrap .i32 l⟩) o0 o1 (i32 _)]
 rcases form_le o0 o1 with h|h|h|h|h|h|h|h|h|h<;>rw[h]<;>rfl
end Go.Proofs.YtpcbkbalabgnlaaGreat
namespace Go.Proofs.YtpcbkbalabgnlaaGreat
open Go Go.GD
set_option maxRecDepth 100000
theorem put_nat(x v:BitVec 32)(s:Nat)(hs:s≤24):((x&&&~~~(255#32<<<s))|||((v&&&255#32)<<<s)).toNat=2^(s+8)*(x.toNat/2^(s+8))+(2^s*(v.toNat%256)+x.toNat%2^s):=by
  have hx:=x.isLt
  have h1:x.toNat%2^s<2^s:=Nat.mod_lt _ (Nat.two_pow_pos s)
  have h2:2^s*(v.toNat%256)+x.toNat%2^s<2^(s+8):=by
    have:v.toNat%256<256:=Nat.mod_lt _ (by decide)
    have h3:2^s*(v.toNat%256)≤2^s*255:=Nat.mul_le_mul_left _ (by omega)
    have:2^(s+8)=2^s*256:=by rw[Nat.pow_add]
    omega
  rw[Nat.two_pow_add_eq_or_of_lt h2,Nat.two_pow_add_eq_or_of_lt h1]
  apply Nat.eq_of_testBit_eq
  intro i
  rw[BitVec.testBit_toNat]
  simp only[BitVec.getLsbD_or,BitVec.getLsbD_and,BitVec.getLsbD_not,BitVec.getLsbD_shiftLeft,Nat.testBit_or,Nat.testBit_two_pow_mul,Nat.testBit_mod_two_pow,Nat.testBit_div_two_pow,BitVec.getLsbD_ofNat]
  have e255: ∀j,Nat.testBit 255 j=decide (j<8):=λj=>by
    rw[show 255=2^8-1 from rfl,Nat.testBit_two_pow_sub_one]
  have e256: ∀n j,Nat.testBit (n%256) j=(decide (j<8)&&Nat.testBit n j):=λn j=>by
    rw[show 256=2^8 from rfl,Nat.testBit_mod_two_pow]
  rw[e255,e256]
  by_cases hi:i<32
  · by_cases a1:i<s
    · have a2: ¬(s≤i):=by omega
      have a3: ¬(s+8≤i):=by omega
      simp [hi,a1,a2,a3,BitVec.getLsbD]
    · by_cases a4:s+8≤i
      · have a2: ¬(i-s<8):=by omega
        have a5:i-(s+8)+(s+8)=i:=by omega
        have a6:s≤i:=by omega
        simp [hi,a1,a2,a4,a5,a6,BitVec.getLsbD]
      · have a2:(i-s<8):=by omega
        have a6:s≤i:=by omega
        have a7:i-s<32:=by omega
        simp [hi,a1,a2,a4,a6,a7,BitVec.getLsbD]
  · have a0:x.toNat.testBit i=false:=Nat.testBit_lt_two_pow (Nat.lt_of_lt_of_le hx (Nat.pow_le_pow_right (by decide) (by omega)))
    have a1: ¬(i<s):=by omega
    have a2: ¬(i-s<8):=by omega
    have a4:s+8≤i:=by omega
    have a5:i-(s+8)+(s+8)=i:=by omega
    simp [hi,a0,a1,a2,a4,a5]
theorem Qyk(b:BitVec 32):BitVec.ofInt 32 (IntKind.wrap .u32 (b.toNat:Int))=b:=by
 have:=b.isLt
 rw[IntKind.wrap_u32]
 apply BitVec.eq_of_toNat_eq
 rw[BitVec.toNat_ofInt];omega
theorem Zbf(x:Int):BitVec.ofInt 32 (IntKind.wrap .u32 x)=BitVec.ofInt 32 x:=by
 apply BitVec.eq_of_toNat_eq
 rw[BitVec.toNat_ofInt,BitVec.toNat_ofInt,IntKind.wrap_u32]
 have:((2^32:Nat):Int)=4294967296:=by decide
 rw[this,Int.emod_emod_of_dvd _ (Int.dvd_refl _)]
theorem Z4r{x:Int}(hx:U x)(s:Nat)(hs:s≤32):BitVec.ofInt 32 (ishl .u32 x s)=BitVec.ofInt 32 x<<<s:=by
 obtain⟨n,rfl⟩: ∃n:Nat,x=n:=⟨x.toNat,by have:=hx.1;omega⟩
 have e:min (Int.toNat (s:Int)) IntKind.u32.bits=s:=by show min (Int.toNat (s:Int)) 32=s;omega
 unfold ishl
 rw[e,Zbf]
 have e2:((n:Int)*2^s)=((n*2^s:Nat):Int):=by simp
 have:=hx.2
 rw[e2,BitVec.ofInt_natCast,BitVec.ofInt_natCast]
 apply BitVec.eq_of_toNat_eq
 rw[BitVec.toNat_shiftLeft,BitVec.toNat_ofNat,BitVec.toNat_ofNat,Nat.shiftLeft_eq,Nat.mod_mul_mod]
def putW(W v:Int)(s:Nat):Int:=ior .u32 (Qe8 .u32 W (ishl .u32 255 s)) (ishl .u32 (iand .u32 v 255) s)
theorem put_num{W v:Int}(hW:U W)(hv:U v)(s:Nat)(hs:s≤24):putW W v s=2^(s+8)*(W/2^(s+8))+(2^s*(v%256)+W%2^s):=by
 have e:=put_nat (BitVec.ofInt 32 W) (BitVec.ofInt 32 v) s hs
 have l:=((BitVec.ofInt 32 W&&&~~~(255#32<<<s))|||((BitVec.ofInt 32 v&&&255#32)<<<s)).isLt
 have h1:BitVec.ofInt 32 (Qe8 .u32 W (ishl .u32 255 s))=BitVec.ofInt 32 W&&&~~~(255#32<<<s):=by
   show BitVec.ofInt 32 (IntKind.wrap .u32 (BitVec.ofInt 32 W&&&~~~BitVec.ofInt 32 (ishl .u32 255 s)).toNat)=_
   rw[Qyk,Z4r ⟨by decide,by decide⟩ s (by omega)]
   rfl
 have h2:BitVec.ofInt 32 (ishl .u32 (iand .u32 v 255) s)=(BitVec.ofInt 32 v&&&255#32)<<<s:=by
   rw[Z4r (Z7m _ _) s (by omega)]
   congr 1
   show BitVec.ofInt 32 (IntKind.wrap .u32 (BitVec.ofInt 32 v&&&BitVec.ofInt 32 255).toNat)=_
   rw[Qyk];rfl
 show IntKind.wrap .u32 ((BitVec.ofInt 32 (Qe8 .u32 W (ishl .u32 255 s))|||BitVec.ofInt 32 (ishl .u32 (iand .u32 v 255) s)).toNat:Int)=_
 rw[h1,h2]
 have lw:IntKind.wrap .u32 ((((BitVec.ofInt 32 W&&&~~~(255#32<<<s))|||((BitVec.ofInt 32 v&&&255#32)<<<s)).toNat:Nat):Int)=(((BitVec.ofInt 32 W&&&~~~(255#32<<<s))|||((BitVec.ofInt 32 v&&&255#32)<<<s)).toNat:Nat):=by rw[IntKind.wrap_u32];omega
 rw[lw,e,Qq4 hW,Qq4 hv]
 obtain⟨n,rfl⟩: ∃n:Nat,W=n:=⟨W.toNat,by have:=hW.1;omega⟩
 obtain⟨k,rfl⟩: ∃n:Nat,v=n:=⟨v.toNat,by have:=hv.1;omega⟩
 simp
def dig(w:Int)(k:Nat):Int:=if k=0 then w%256 else if k=1 then w/256%256 else if k=2 then w/65536%256 else w/16777216%256
def byt(m:List Int)(a:Nat):Int:=dig (m.getD (a/4) 0) (a%4)
theorem dig_lt(w:Int)(k:Nat):0≤dig w k∧dig w k<256:=by
 unfold dig
 split
 · omega
 · split
   · omega
   · split<;>omega
theorem dig_ext{w v:Int}(hw:U w)(hv:U v)(h: ∀k,k<4→dig w k=dig v k):w=v:=by
 have h0:=h 0 (by omega)
 have h1:=h 1 (by omega)
 have h2:=h 2 (by omega)
 have h3:=h 3 (by omega)
 simp [dig]at h0 h1 h2 h3
 obtain⟨a,b⟩:=hw
 obtain⟨c,d⟩:=hv
 omega
theorem Z7h{m n:List Int}(hl:m.length=n.length)(hm: ∀w∈m,U w)(hn: ∀w∈n,U w)(h: ∀a,byt m a=byt n a):m=n:=by
 refine List.ext_getElem hl λi h1 h2=> ?_
 have e1:m[i]=m.getD i 0:=by simp [List.getD,h1]
 have e2:n[i]=n.getD i 0:=by simp [List.getD,h2]
 rw[e1,e2]
 refine dig_ext (Qh hm i) (Qh hn i) λk hk=> ?_
 have:=h (4*i+k)
 simp only[byt]at this
 rwa [show(4*i+k)/4=i by omega,show(4*i+k)%4=k by omega]at this
theorem Qn7{l:List Int}{i:Nat}(h:i<l.length)(v:Int):(l.set i v).getD i 0=v:=by
 simp [List.getD,h]
theorem Z7r{m:List Int}{i:Nat}(hi:i<m.length)(v:Int)(a:Nat):byt (m.set i v) a=if a/4=i then dig v (a%4) else byt m a:=by
 unfold byt
 split
 · rename_i h;rw[h,Qn7 hi]
 · rename_i h;rw[getDset _ _ _ _ (λe=>h e.symm)]
theorem put_dig{W v:Int}(hW:U W)(hv:U v){j:Nat}(hj:j<4){k:Nat}(hk:k<4):dig (putW W v (8*j)) k=if k=j then v%256 else dig W k:=by
 have h:=put_num hW hv (8*j) (by omega)
 rw[h]
 obtain⟨w0,w1⟩:=hW
 have h0:0≤v%256:=by omega
 have h1:v%256<256:=by omega
 generalize v%256=b at*
 clear h
 have hj:j=0∨j=1∨j=2∨j=3:=by omega
 have hk:k=0∨k=1∨k=2∨k=3:=by omega
 rcases hj with rfl|rfl|rfl|rfl<;>rcases hk with rfl|rfl|rfl|rfl<;>simp [dig]<;>omega
theorem puts_eq{m:List Int}{a v:Int}(ha:U a):Qa9 m a 1 v=m.set (a/4).toNat (putW (m.getD (a/4).toNat 0) v (8*(a%4).toNat)):=by
 obtain⟨a0,a1⟩:=ha
 have e1:IntKind.wrap .u32 (Int.tdiv a 4)=a/4:=by rw[IntKind.wrap_u32,Int.tdiv_eq_ediv_of_nonneg a0];omega
 have e2:IntKind.wrap .u32 (8*Int.tmod a 4)=((8*(a%4).toNat:Nat):Int):=by rw[IntKind.wrap_u32,Int.tmod_eq_emod_of_nonneg a0];omega
 have e3:((1:Int)==4)=false:=rfl
 simp only[Qa9,Qee,Tree.m,e1,e2,e3,cond_false]
 rfl
theorem puts_byte{P:Nat}{m:List Int}(h:Q0u P m){a v:Int}(ha:U a)(hl:a<128*P)(hv:U v):Q0u P (Qa9 m a 1 v)∧ ∀b:Nat,byt (Qa9 m a 1 v) b=if(b:Int)=a then v%256 else byt m b:=by
 have hlen:=h.len
 have a0:=ha.1
 rw[puts_eq ha]
 have hi:(a/4).toNat<m.length:=by omega
 refine⟨⟨by rw[List.length_set];exact hlen,h.p1,h.p2,Qw1 h.u (U_or _ _) _⟩,λb=> ?_⟩
 rw[Z7r hi]
 by_cases hb:b/4=(a/4).toNat
 · rw[if_pos hb,put_dig (Qh h.u _) hv (by omega) (by omega)]
   by_cases hc:b%4=(a%4).toNat
   · rw[if_pos hc,if_pos (by omega)]
   · rw[if_neg hc,if_neg (by omega),byt,hb]
 · rw[if_neg hb,if_neg (by omega)]
theorem fill_b{P:Nat}{m:List Int}(h:Q0u P m){frame:Int}(f0:0≤frame)(f1:frame<P)(s:List UInt8):(Qaj m frame s).w (λr=>Q0u P r∧ ∀b:Nat,byt r b=if frame*128≤b∧(b:Int)<frame*128+min s.length 128 then((s.getD (b-frame*128).toNat 0).toNat:Int) else byt m b):=by
 unfold Qaj
 have h3:=h.p2
 refine w_lp (inv:=λz=>0≤z.1∧z.1≤min s.length 128∧Q0u P z.2∧ ∀b:Nat,byt z.2 b=if frame*128≤b∧(b:Int)<frame*128+z.1 then((s.getD (b-frame*128).toNat 0).toNat:Int) else byt m b) (μ:=Qet m frame s) ⟨show(0:Int)≤0 by decide,by show(0:Int)≤_;omega,h,λb=>by rw[if_neg];show¬(_∧_<_+(0:Int));omega⟩ (Nat.lt_succ_self _) (λv0 hv0=> ?_)
 obtain⟨i,mm⟩:=v0
 obtain⟨i0,i1,hm,hy⟩:=hv0
 have i0:0≤i:=i0
 have i1:i≤min s.length 128:=i1
 have hm:Q0u P mm:=hm
 have fin: ∀r:List Int,r=mm→i=min s.length 128→Q0u P r∧ ∀b:Nat,byt r b=if frame*128≤b∧(b:Int)<frame*128+min s.length 128 then((s.getD (b-frame*128).toNat 0).toNat:Int) else byt m b:=λr hr hi=>by
   subst hr;refine⟨hm,λb=> ?_⟩
   rw[hy b];simp only[hi]
 refine w_br (λh1=>w_br (λh2=>w_cn ?_ ?_) (λh2=>fin mm rfl ?_)) (λh1=>fin mm rfl ?_)
 · have:=of_decide_eq_true h1
   simp [Nat.blt];omega
 · have h1:i<s.length:=of_decide_eq_true h1
   have h2:i<128:=of_decide_eq_true h2
   have e:IntKind.wrap IntKind.u32 (IntKind.wrap IntKind.i64 (IntKind.wrap IntKind.i64 (frame*128)+i))=frame*128+i:=by
     rw[IntKind.wrap_u32,IntKind.wrap_i64,IntKind.wrap_i64];omega
   show(Tree.an (Qg5 mm (IntKind.wrap IntKind.u32 (IntKind.wrap IntKind.i64 (IntKind.wrap IntKind.i64 (frame*128)+i))) 1 _) (Tree.lv _ _)).w _
   rw[e]
   have hu:U (frame*128+i):=⟨by omega,by omega⟩
   have hvU: ∀n:Nat,U (IntKind.wrap .u32 (n:Int)):=λn=>Q0j _
   obtain⟨g1,_⟩:=Tree.pp (put_w hm (size:=1) (addr:=frame*128+i) hu (by rw[hm.len];omega) (hvU (UInt8.toNat (s.getD i.toNat 0))))
   obtain⟨g2,g3⟩:=puts_byte hm hu (by omega) (hvU (UInt8.toNat (s.getD i.toNat 0)))
   refine w_an g1 (w_lv λx0 hx0=> ?_)
   rw[hx0]
   have ew:IntKind.i64.wrap (i+1)=i+1:=by rw[IntKind.wrap_i64];omega
   refine w_nx ?_
   show(0≤IntKind.i64.wrap (i+1)∧IntKind.i64.wrap (i+1)≤min s.length 128∧Q0u P _∧ ∀b:Nat,byt _ b=if frame*128≤b∧(b:Int)<frame*128+IntKind.i64.wrap (i+1) then _ else _)∧(128-IntKind.i64.wrap (i+1)).toNat<(128-i).toNat
   rw[ew]
   refine⟨⟨by omega,by omega,g2,λb=> ?_⟩,by omega⟩
   rw[show Qa9 mm (frame*128+i) 1 _=_ from rfl,g3 b]
   by_cases hb:(b:Int)=frame*128+i
   · rw[if_pos hb,if_pos (by omega),IntKind.wrap_u32]
     have:=(s.getD i.toNat 0).toNat_lt
     rw[show(b-frame*128).toNat=i.toNat by omega];omega
   · rw[if_neg hb,hy b]
     show(if frame*128≤(b:Int)∧(b:Int)<frame*128+i then _ else _)=_
     by_cases hc:frame*128≤(b:Int)∧(b:Int)<frame*128+i
     · rw[if_pos hc,if_pos (by omega)]
     · rw[if_neg hc,if_neg (by omega)]
 · have h1:i<s.length:=of_decide_eq_true h1
   have h2: ¬i<128:=of_decide_eq_false h2
   omega
 · have h1: ¬i<s.length:=of_decide_eq_false h1
   omega
theorem or_add{x y:Int}(hx:U x)(hy:U y)(k:Nat)(hk:x<2^k)(h:x+y*2^k<4294967296):ior .u32 x (y*2^k)=x+y*2^k:=by
 obtain⟨n,rfl⟩: ∃n:Nat,x=n:=⟨x.toNat,by have:=hx.1;omega⟩
 obtain⟨z,rfl⟩: ∃n:Nat,y=n:=⟨y.toNat,by have:=hy.1;omega⟩
 have e:((z:Int)*2^k)=((z*2^k:Nat):Int):=by simp
 rw[e]at h⊢
 have hn:n<2^k:=by exact_mod_cast hk
 rw[or_nat hx ⟨by omega,by omega⟩,Int.toNat_natCast,Int.toNat_natCast,Nat.or_comm,Nat.mul_comm,←Nat.two_pow_add_eq_or_of_lt hn]
 omega
theorem four{a b c d:Int}(ha:0≤a∧a<256)(hb:0≤b∧b<256)(hc:0≤c∧c<256)(hd:0≤d∧d<256):ior .u32 (ior .u32 (ior .u32 (IntKind.wrap .u32 a) (ishl .u32 (IntKind.wrap .u32 b) 8)) (ishl .u32 (IntKind.wrap .u32 c) 16)) (ishl .u32 (IntKind.wrap .u32 d) 24)=a+b*2^8+c*2^16+d*2^24:=by
 have w: ∀{x:Int},0≤x∧x<256→IntKind.wrap .u32 x=x:=λhx=>by rw[IntKind.wrap_u32];omega
 have s8: ∀{x:Int},0≤x∧x<256→ishl .u32 x 8=x*2^8:=fun{x} hx=>by show IntKind.wrap .u32 (x*2^8)=_;rw[IntKind.wrap_u32];omega
 have s16: ∀{x:Int},0≤x∧x<256→ishl .u32 x 16=x*2^16:=fun{x} hx=>by show IntKind.wrap .u32 (x*2^16)=_;rw[IntKind.wrap_u32];omega
 have s24: ∀{x:Int},0≤x∧x<256→ishl .u32 x 24=x*2^24:=fun{x} hx=>by show IntKind.wrap .u32 (x*2^24)=_;rw[IntKind.wrap_u32];omega
 rw[w ha,w hb,w hc,w hd,s8 hb,s16 hc,s24 hd]
 rw[or_add ⟨by omega,by omega⟩ ⟨by omega,by omega⟩ 8 (by omega) (by omega),or_add ⟨by omega,by omega⟩ ⟨by omega,by omega⟩ 16 (by omega) (by omega),or_add ⟨by omega,by omega⟩ ⟨by omega,by omega⟩ 24 (by omega) (by omega)]
theorem four_dig{a b c d:Int}(ha:0≤a∧a<256)(hb:0≤b∧b<256)(hc:0≤c∧c<256)(hd:0≤d∧d<256)(k:Nat)(hk:k<4):dig (a+b*2^8+c*2^16+d*2^24) k=if k=0 then a else if k=1 then b else if k=2 then c else d:=by
 have hk:k=0∨k=1∨k=2∨k=3:=by omega
 rcases hk with rfl|rfl|rfl|rfl<;>simp [dig]<;>omega
theorem Qzx{P:Nat}{m:List Int}(h:Q0u P m)(f:Int):Q51 m f=decide (0≤f∧f<P):=by
 have hp:=Q3p h
 simp only[Q51,Q7s,Tree.m,letv,hp]
 by_cases h1:0≤f
 · rw[decide_eq_true h1];simp [h1]
 · rw[decide_eq_false h1];simp [h1]
theorem getD_cut(s:List UInt8)(a b k:Nat)(h:k<b):(List.take b (List.drop a s)).getD k 0=s.getD (a+k) 0:=by
 simp [List.getD_eq_getElem?_getD,List.getElem?_take,h]
theorem u8I(x:UInt8):0≤(x.toNat:Int)∧(x.toNat:Int)<256:=by have:=x.toNat_lt;omega
theorem Qu9{P:Nat}{m:List Int}(h:Q0u P m){f:Int}(f0:0≤f)(f1:f<P){s:List UInt8}(hs:s.length=128):(Q2 m f s).w (λr=>r.2=true∧Q0u P r.1∧ ∀b:Nat,byt r.1 b=if f*128≤b∧(b:Int)<f*128+128 then((s.getD (b-f*128).toNat 0).toNat:Int) else byt m b):=by
  have hcl:Q02 m=m:=rfl
  have h2:=h.p2
  unfold Q2
  refine w_an (Q8e h) (w_lv λx0 hx0=>w_lv λx1 hx1=> ?_)
  rw[hcl]at hx0;subst hx0
  rw[Qzx h,decide_eq_true ⟨f0,f1⟩]at hx1
  subst hx1
  refine w_br (λhb=>by cases hb) λ_=>w_br (λhb=>by simp [hs]at hb) λ_=> ?_
  refine w_lp (inv:=λz:Int×List Int=>0≤z.1∧z.1≤32∧Q0u P z.2∧ ∀b:Nat,byt z.2 b=if f*128≤b∧(b:Int)<f*128+4*z.1 then((s.getD (b-f*128).toNat 0).toNat:Int) else byt x0 b) (μ:=Q9l x0 f s) ⟨show(0:Int)≤0 by decide,show(0:Int)≤32 by decide,h,λb=>by rw[if_neg];show¬(_∧_<_+4*(0:Int));omega⟩ (Nat.lt_succ_self _) λz ⟨z1,z2,z3,z4⟩=> ?_
  refine w_br (λhb=> ?_) (λhb=>⟨rfl,z3,λb=> ?_⟩)
  · have hb:=of_decide_eq_true hb
    have e1:IntKind.i64.wrap (4*z.1)=4*z.1:=by rw[IntKind.wrap_i64];omega
    have e2:IntKind.i64.wrap (IntKind.i64.wrap (4*z.1)+4)=4*z.1+4:=by rw[IntKind.wrap_i64,IntKind.wrap_i64];omega
    have e3:IntKind.i64.wrap (IntKind.i64.wrap (f*32)+z.1)=f*32+z.1:=by rw[IntKind.wrap_i64,IntKind.wrap_i64];omega
    have hl:=z3.len
    have cut:Int.toNat (IntKind.i64.wrap (IntKind.i64.wrap (4*z.1)+4))-Int.toNat (IntKind.i64.wrap (4*z.1))=4:=by rw[e2,e1];omega
    have hlen:(List.take (Int.toNat (IntKind.i64.wrap (IntKind.i64.wrap (4*z.1)+4))-Int.toNat (IntKind.i64.wrap (4*z.1))) (List.drop (Int.toNat (IntKind.i64.wrap (4*z.1))) s)).length=4:=by
      rw[cut,e1,List.length_take,List.length_drop];omega
    refine w_cn (decide_eq_true (by rw[e2,e1];omega)) ?_
    refine w_cn (decide_eq_true (by rw[hlen];decide)) (w_cn (decide_eq_true (by rw[hlen];decide)) (w_cn (decide_eq_true (by rw[hlen];decide)) (w_cn (decide_eq_true (by rw[hlen];decide)) (w_cn (by rw[e3];simp [Nat.blt];omega) (w_nx ?_)))))
    have ew:IntKind.i64.wrap (z.1+1)=z.1+1:=by rw[IntKind.wrap_i64];omega
    rw[cut]
    refine⟨⟨by show 0≤IntKind.i64.wrap (z.1+1);rw[ew];omega,by show IntKind.i64.wrap (z.1+1)≤32;rw[ew];omega,?_,?_⟩,by show(32-IntKind.i64.wrap (z.1+1)).toNat<(32-z.1).toNat;rw[ew];omega⟩
    · show Q0u P (List.set _ _ _)
      exact⟨by rw[List.length_set];exact hl,z3.p1,z3.p2,Qw1 z3.u (U_or _ _) _⟩
    · intro b
      show byt (List.set z.2 (Int.toNat (IntKind.i64.wrap (IntKind.i64.wrap (f*32)+z.1))) _) b=if f*128≤(b:Int)∧(b:Int)<f*128+4*IntKind.i64.wrap (z.1+1) then _ else _
      rw[e3,ew,four (u8I _) (u8I _) (u8I _) (u8I _),Z7r (by omega)]
      have g: ∀k:Nat,k<4→(List.take 4 (List.drop (Int.toNat (IntKind.i64.wrap (4*z.1))) s)).getD k 0=s.getD ((4*z.1).toNat+k) 0:=λk hk=>by rw[e1];exact getD_cut _ _ _ _ hk
      by_cases hc:b/4=(f*32+z.1).toNat
      · have hin:f*128≤(b:Int)∧(b:Int)<f*128+4*(z.1+1):=by omega
        rw[if_pos hc,four_dig (u8I _) (u8I _) (u8I _) (u8I _) _ (by omega),if_pos hin]
        have hb4:b%4=0∨b%4=1∨b%4=2∨b%4=3:=by omega
        have gi:(b-f*128).toNat=(4*z.1).toNat+b%4:=by omega
        rw[gi]
        rcases hb4 with h4|h4|h4|h4<;>rw[h4]
        · rw[if_pos rfl,←g 0 (by omega)];rfl
        · rw[if_neg (by decide),if_pos rfl,←g 1 (by omega)];rfl
        · rw[if_neg (by decide),if_neg (by decide),if_pos rfl,←g 2 (by omega)];rfl
        · rw[if_neg (by decide),if_neg (by decide),if_neg (by decide),←g 3 (by omega)];rfl
      · rw[if_neg hc,z4 b]
        by_cases hd:f*128≤(b:Int)∧(b:Int)<f*128+4*z.1
        · rw[if_pos hd,if_pos (by omega)]
        · rw[if_neg hd,if_neg (by omega)]
  · have hb:=of_decide_eq_false hb
    show byt z.2 b=_
    rw[z4 b,show z.1=32 by omega]
    rfl
end Go.Proofs.YtpcbkbalabgnlaaGreat
namespace Go.Proofs.YtpcbkbalabgnlaaGreat
open Go Go.GD
set_option maxRecDepth 100000
theorem Qzm{α:Type}(l l2:List α)(k:Nat)(z:α):(l++l2).getD k z=if k<l.length then l.getD k z else l2.getD (k-l.length) z:=by
 simp only[List.getD_eq_getElem?_getD,List.getElem?_append]
 split<;>rfl
theorem u8w{x:Int}:IntKind.wrap .u8 x=x%256:=IntKind.wrap_u8 x
theorem shr_c(W:Int):ishr .u32 W 8=W/256∧ishr .u32 W 16=W/65536∧ishr .u32 W 24=W/16777216:=by
 refine⟨?_,?_,?_⟩
 · show Int.fdiv W 256=_;rw[Int.fdiv_eq_ediv_of_nonneg _ (by decide)]
 · show Int.fdiv W 65536=_;rw[Int.fdiv_eq_ediv_of_nonneg _ (by decide)]
 · show Int.fdiv W 16777216=_;rw[Int.fdiv_eq_ediv_of_nonneg _ (by decide)]
theorem b4d(W:Int){k:Nat}(hk:k<4):[IntKind.wrap .u8 W,IntKind.wrap .u8 (ishr .u32 W 8),IntKind.wrap .u8 (ishr .u32 W 16),IntKind.wrap .u8 (ishr .u32 W 24)].getD k 0=dig W k:=by
 obtain⟨a,b,c⟩:=shr_c W
 have hk:k=0∨k=1∨k=2∨k=3:=by omega
 rcases hk with rfl|rfl|rfl|rfl<;>simp [dig,a,b,c,u8w]
theorem Qk2(l:List Int)(k:Nat)(h:0≤l.getD k 0∧l.getD k 0<256)(hk:k<l.length):(((bytesOf l).getD k 0).toNat:Int)=l.getD k 0:=by
 have e:(bytesOf l).getD k 0=UInt8.ofNat (l.getD k 0).toNat:=by
   simp [bytesOf,List.getD_eq_getElem?_getD,hk]
 rw[e,UInt8.toNat_ofNat']
 omega
theorem Z68(l:List UInt8)(k:Nat)(hk:k<l.length):(Q9x l).getD k 0=((l.getD k 0).toNat:Int):=by
 simp [Q9x,List.getD_eq_getElem?_getD,hk]
theorem text_b(w:List Int)(h:w.length≤32):(Q4w w).w (λr=>r.length=4*w.length∧ ∀k:Nat,k<4*w.length→((r.getD k 0).toNat:Int)=dig (w.getD (k/4) 0) (k%4)):=by
 have e0:IntKind.i64.wrap (4*(w.length:Int))=4*w.length:=by rw[IntKind.wrap_i64];omega
 unfold Q4w
 refine w_cn (by rw[e0];simp [Nat.blt,D.plain];omega) ?_
 refine w_lp (inv:=λz:Int×List Int=>0≤z.1∧z.1≤w.length∧(z.2.length:Int)=4*z.1∧ ∀k:Nat,(k:Int)<4*z.1→z.2.getD k 0=dig (w.getD (k/4) 0) (k%4)) (μ:=Q70 w) ⟨by decide,by show(0:Int)≤w.length;omega,rfl,λk hk=>by have hk:(k:Int)<4*0:=hk;omega⟩ (Nat.lt_succ_self _) λz ⟨z1,z2,z3,z4⟩=> ?_
 refine w_br (λhb=> ?_) (λhb=> ?_)
 · have hb:=of_decide_eq_true hb
   have ew:IntKind.i64.wrap (z.1+1)=z.1+1:=by rw[IntKind.wrap_i64];omega
   refine w_cn (by simp [Nat.blt];omega) (w_cn (decide_eq_true (by omega)) (w_nx ?_))
   show(_∧_∧_∧ ∀k:Nat,(k:Int)<4*IntKind.i64.wrap (z.1+1)→(z.2++_).getD k 0=_)∧(_:Nat)<_
   refine⟨⟨by rw[ew];omega,by rw[ew];omega,by rw[ew,List.length_append];simp only[List.length_cons,List.length_nil];omega,λk hk=> ?_⟩,by show(w.length-IntKind.i64.wrap (z.1+1)).toNat<(w.length-z.1).toNat;rw[ew];omega⟩
   rw[ew]at hk
   rw[Qzm]
   split
   · exact z4 k (by omega)
   · rename_i hn
     rw[b4d _ (by omega),show z.1.toNat=k/4 by omega,show k-z.2.length=k%4 by omega]
 · have hb:=of_decide_eq_false hb
   show(bytesOf z.2).length=_∧ ∀k:Nat,_→(((bytesOf z.2).getD k 0).toNat:Int)=_
   refine⟨by rw[Qfu];omega,λk hk=> ?_⟩
   have e:=z4 k (by omega)
   have:=dig_lt (w.getD (k/4) 0) (k%4)
   rw[Qk2 _ _ (by rw[e];exact this) (by omega),e]
def isPg(m:List Int)(f:Int)(r:List UInt8):Prop:=r.length=128∧ ∀k:Nat,k<128→((r.getD k 0).toNat:Int)=byt m ((f*128).toNat+k)
theorem pg_ext{m:List Int}{f:Int}{r s:List UInt8}(a:isPg m f r)(b:isPg m f s):r=s:=by
 obtain⟨a1,a2⟩:=a
 obtain⟨b1,b2⟩:=b
 refine List.ext_getElem (by omega) λi h1 h2=> ?_
 have e:=(a2 i (by omega)).trans (b2 i (by omega)).symm
 have e1:r[i]=r.getD i 0:=by simp [List.getD,h1]
 have e2:s[i]=s.getD i 0:=by simp [List.getD,h2]
 rw[e1,e2]
 exact UInt8.toNat_inj.1 (by omega)
theorem mpage_b{P:Nat}{m:List Int}(h:Q0u P m){f:Int}(f0:0≤f)(f1:f<P):(Q3e m f).w (λr=>isPg m f r.1∧r.2=true):=by
 have hl:=h.len
 have h2:=h.p2
 unfold Q3e
 refine w_lv λx0 hx0=> ?_
 rw[Qzx h,decide_eq_true ⟨f0,f1⟩]at hx0
 subst hx0
 refine w_br (λhb=>by cases hb) (λhb=> ?_)
 have e1:IntKind.i64.wrap (f*32)=f*32:=by rw[IntKind.wrap_i64];omega
 have e2:IntKind.i64.wrap (IntKind.i64.wrap (f*32)+32)=f*32+32:=by rw[IntKind.wrap_i64,IntKind.wrap_i64];omega
 have cut:Int.toNat (IntKind.i64.wrap (IntKind.i64.wrap (f*32)+32))-Int.toNat (IntKind.i64.wrap (f*32))=32:=by rw[e2,e1];omega
 have hlen:(List.take 32 (List.drop (Int.toNat (IntKind.i64.wrap (f*32))) m)).length=32:=by
   rw[e1,List.length_take,List.length_drop];omega
 refine w_cn (by rw[e2,e1];simp [Nat.blt];omega) ?_
 rw[cut]
 refine w_an (by show List.length _≤1000000000000;rw[hlen];decide) (w_lv λx1 h1=> ?_)
 have t:=(Tree.pp (text_b _ (Nat.le_of_eq hlen))).2
 rw[hlen,show(Q4w (List.take 32 (List.drop (Int.toNat (IntKind.i64.wrap (f*32))) m))).m=x1 from h1.symm]at t
 refine⟨⟨t.1,λk hk=> ?_⟩,rfl⟩
 show((x1.getD k 0).toNat:Int)=_
 rw[t.2 k hk,byt,e1]
 have g:(List.take 32 (List.drop (Int.toNat (f*32)) m)).getD (k/4) 0=m.getD ((f*32).toNat+k/4) 0:=by
   simp [List.getD_eq_getElem?_getD,List.getElem?_take,show k/4<32 by omega]
 rw[g,show((f*128).toNat+k)/4=(f*32).toNat+k/4 by omega,show((f*128).toNat+k)%4=k%4 by omega]
theorem low_eq(x:Int):Z8p x 4=bytesOf [IntKind.wrap .u8 (ishr .u32 x 0),IntKind.wrap .u8 (ishr .u32 x 8),IntKind.wrap .u8 (ishr .u32 x 16),IntKind.wrap .u8 (ishr .u32 x 24)]:=by kernel_rfl
theorem rpage_b{P:Nat}{m:List Int}(hm:Q0u P m){frame:Int}(f0:0≤frame)(f1:frame<P):(Qah m frame).w (λr=>isPg m frame r.1∧r.2=true):=by
 have hp:=Qco hm
 have hl:=hm.len
 have h2:=hm.p2
 unfold Qah
 refine w_br (λh=>by have:=of_decide_eq_true h;omega) (λh=>w_lv λx0 hx=>w_br (λh1=>by have:=of_decide_eq_true h1;rw[hx,hp]at this;omega) (λh1=> ?_))
 refine w_lp (inv:=λz:Int×List Int=>0≤z.1∧z.1≤32∧(z.2.length:Int)=4*z.1∧ ∀k:Nat,(k:Int)<4*z.1→z.2.getD k 0=byt m ((frame*128).toNat+k)) (μ:=Qfq m frame) ⟨by decide,by decide,rfl,λk hk=>by have hk:(k:Int)<4*0:=hk;omega⟩ (Nat.lt_succ_self _) (λz hz=> ?_)
 obtain⟨z1,z2,z3,z4⟩:=hz
 refine w_br (λhb=> ?_) (λhb=> ?_)
 · have hb:=of_decide_eq_true hb
   have e:IntKind.wrap IntKind.i64 (IntKind.wrap IntKind.i64 (frame*32)+z.1)=frame*32+z.1:=by rw[IntKind.wrap_i64,IntKind.wrap_i64];omega
   refine w_cn (by rw[e];simp [Nat.blt];omega) (w_an (show(4:Int)≤1000000000000 by decide) (w_lv λx1 h4=> ?_))
   rw[low_eq,shr0,e]at h4
   have l4:x1.length=4:=by rw[h4];rfl
   refine w_cn (decide_eq_true (by rw[Qkc,l4];omega)) (w_nx ?_)
   show(0≤IntKind.i64.wrap (z.1+1)∧IntKind.i64.wrap (z.1+1)≤32∧((z.2++Q9x x1).length:Int)=4*IntKind.i64.wrap (z.1+1)∧ ∀k:Nat,(k:Int)<4*IntKind.i64.wrap (z.1+1)→(z.2++Q9x x1).getD k 0=_)∧(32-IntKind.i64.wrap (z.1+1)).toNat<(32-z.1).toNat
   have ew:IntKind.i64.wrap (z.1+1)=z.1+1:=by rw[IntKind.wrap_i64];omega
   rw[ew]
   refine⟨⟨by omega,by omega,by rw[List.length_append,Qkc,l4];omega,λk hk=> ?_⟩,by omega⟩
   rw[Qzm]
   split
   · exact z4 k (by omega)
   · rename_i hn
     have hk4:k-z.2.length<4:=by omega
     rw[Z68 _ _ (by omega),h4]
     have d:=b4d (m.getD (frame*32+z.1).toNat 0) hk4
     rw[Qk2 _ _ (by rw[d];exact dig_lt _ _) (by simpa using hk4),d,byt]
     rw[show((frame*128).toNat+k)/4=(frame*32+z.1).toNat by omega,show((frame*128).toNat+k)%4=k-z.2.length by omega]
 · have hb:=of_decide_eq_false hb
   refine⟨⟨?_,λk hk=> ?_⟩,rfl⟩
   · show(bytesOf z.2).length=128
     rw[Qfu];omega
   · show(((bytesOf z.2).getD k 0).toNat:Int)=_
     have e:=z4 k (by omega)
     rw[Qk2 _ _ (by rw[e];exact dig_lt _ _) (by omega),e]
theorem Z3v{P:Nat}{m:List Int}(h:Q0u P m)(f:Int):Q5d m f=Qgw m f:=by
 by_cases hf:0≤f∧f<P
 · have a:=(Tree.pp (mpage_b h hf.1 hf.2)).2
   have b:=(Tree.pp (rpage_b h hf.1 hf.2)).2
   exact Prod.ext (pg_ext a.1 b.1) (a.2.trans b.2.symm)
 · have hp:=Qco h
   have e1:Q5d m f=([],false):=by
     simp only[Q5d,Q3e,Tree.m,letv,Qzx h,decide_eq_false hf];rfl
   have e2:Qgw m f=([],false):=by
     simp only[Qgw,Qah,Tree.m,letv,hp]
     by_cases h0:f<0
     · rw[decide_eq_true h0];rfl
     · rw[decide_eq_false h0,decide_eq_true (show f≥P by omega)];rfl
   rw[e1,e2]
section
variable {P:Nat} {m:List Int} (h:Q0u P m)
include h
theorem Z25{f:Int}(f0:0≤f)(f1:f<P){s:List UInt8}(hs:s.length=128):Q2r m f s=(Qjc m f s,true):=by
 have a:=(Tree.pp (Qu9 h f0 f1 hs)).2
 have b:=(Tree.pp (fill_b h f0 f1 s)).2
 refine Prod.ext (Z7h (a.2.1.len.trans b.1.len.symm) a.2.1.u b.1.u λk=> ?_) a.1
 have e:((min s.length 128:Nat):Int)=128:=by rw[hs];rfl
 have b2:=b.2 k
 have a2:=a.2.2 k
 rw[e]at b2
 exact a2.trans b2.symm
theorem Z2p{f:Int}(f0:0≤f)(f1:f<P){s r:List UInt8}(hs:s.length≤128)(hr:isPg m f r):Q2r m f (s++r.drop s.length)=(Qjc m f s,true):=by
  have hl:(s++r.drop s.length).length=128:=by have:=hr.1;simp;omega
  have a:=(Tree.pp (Qu9 h f0 f1 hl)).2
  have b:=(Tree.pp (fill_b h f0 f1 s)).2
  refine Prod.ext (Z7h (a.2.1.len.trans b.1.len.symm) a.2.1.u b.1.u λk=> ?_) a.1
  have b2:=b.2 k
  have a2:=a.2.2 k
  refine a2.trans (Eq.trans ?_ b2.symm)
  by_cases hc:f*128≤(k:Int)∧(k:Int)<f*128+128
  · rw [if_pos hc,Qzm]
    by_cases hd:(k-f*128).toNat<s.length
    · rw[if_pos hd,if_pos (by omega)]
    · rw[if_neg hd,if_neg (by omega)]
      have e:(r.drop s.length).getD ((k-f*128).toNat-s.length) 0=r.getD (k-f*128).toNat 0:=by
        simp [List.getD_eq_getElem?_getD,show s.length+((k-f*128).toNat-s.length)=(k-f*128).toNat by omega]
      rw[e,hr.2 _ (by omega),show(f*128).toNat+(k-f*128).toNat=k by omega]
  · rw[if_neg hc,if_neg (by omega)]
theorem Qek{a:Int}(ha:U a){size:Int}(hs:size=1∨size=4):Q23 m a size=decide (a%size=0∧a<128*P):=by
 have hq:=Qco h
 have h2:=h.p2
 have a0:=ha.1
 have e:IntKind.wrap IntKind.u32 size=size:=by rcases hs with rfl|rfl<;>decide
 have e0:decide (IntKind.wrap IntKind.u32 size≠0)=true:=by rcases hs with rfl|rfl<;>decide
 have t:Int.tmod a (IntKind.wrap IntKind.u32 size)=a%size:=by rw[e,Int.tmod_eq_emod_of_nonneg a0]
 have l: ∀x,x=Q4d m→a%size=0→decide (a<IntKind.wrap IntKind.u32 (IntKind.wrap IntKind.i64 (128*x)))=decide (a%size=0∧a<128*P):=λx hx hz=>by
   rw[hx,hq,IntKind.wrap_u32,IntKind.wrap_i64]
   exact decide_eq_decide.2 ⟨λh=>⟨hz,by omega⟩,λh=>by omega⟩
 refine Tree.post (Q9c m a size) (W:=λb=>b=decide (a%size=0∧a<128*P)) ?_
 unfold Q9c
 refine w_br (λh1=>w_br (λh4=> ?_) (λ_=> ?_)) (λ_=> ?_)
 · have h1: ¬size=1:=by simpa using h1
   have h4: ¬size=4:=by simpa using h4
   omega
 all_goals
   refine w_cn e0 (w_br (λhb=>w_lv λx hx=>l x hx ?_) (λhb=> ?_))
   · rw[t]at hb;exact eq_of_beq hb
   · rw[t]at hb
     exact(decide_eq_false (λh=>by rw[h.1]at hb;cases hb)).symm
theorem Qvk{a:Int}(ha:U a){size:Int}(hs:size=1∨size=4):Qe6 m a size=Q23 m a size:=by
 rw[Qek h ha hs]
 have hq:=Qvp h
 have h2:=h.p2
 have a0:=ha.1
 have a1:=ha.2
 have e:IntKind.wrap IntKind.u32 size=size:=by rcases hs with rfl|rfl<;>decide
 have e0:decide (IntKind.wrap IntKind.u32 size≠0)=true:=by rcases hs with rfl|rfl<;>decide
 have t:Int.tmod a (IntKind.wrap IntKind.u32 size)=a%size:=by rw[e,Int.tmod_eq_emod_of_nonneg a0]
 have l: ∀x,x=Q0n m→a%size=0→decide (IntKind.wrap IntKind.u64 (IntKind.wrap IntKind.u64 a+IntKind.wrap IntKind.u64 size)≤IntKind.wrap IntKind.u64 (IntKind.wrap IntKind.u64 x*128))=decide (a%size=0∧a<128*P):=λx hx hz=>by
   rw[hx,hq]
   simp only[IntKind.wrap_u64]
   refine decide_eq_decide.2 ⟨λh=>⟨hz,?_⟩,λh=> ?_⟩<;>rcases hs with rfl|rfl<;>omega
 refine Tree.post (Q2s m a size) (W:=λb=>b=decide (a%size=0∧a<128*P)) ?_
 unfold Q2s
 refine w_br (λh1=>w_br (λh4=> ?_) (λ_=> ?_)) (λ_=> ?_)
 · have h1: ¬size=1:=by simpa using h1
   have h4: ¬size=4:=by simpa using h4
   omega
 all_goals
   refine w_cn e0 (w_br (λhb=> ?_) (λhb=>w_lv λx hx=>l x hx ?_))
   · rw[t]at hb
     exact(decide_eq_false (λh=>by rw[h.1]at hb;cases hb)).symm
   · rw[t]at hb;simpa using hb
end
theorem fldj(w:Int):Q35 w 0 8=iand .u32 (ishr .u32 w 0) 255∧Q35 w 8 8=iand .u32 (ishr .u32 w 8) 255∧Q35 w 16 8=iand .u32 (ishr .u32 w 16) 255∧Q35 w 24 8=iand .u32 (ishr .u32 w 24) 255:=
 ⟨by kernel_rfl,by kernel_rfl,by kernel_rfl,by kernel_rfl⟩
theorem setj(w v:Int):Q7l w 0 8 v=putW w v 0∧Q7l w 8 8 v=putW w v 8∧Q7l w 16 8 v=putW w v 16∧Q7l w 24 8 v=putW w v 24:=
 ⟨by kernel_rfl,by kernel_rfl,by kernel_rfl,by kernel_rfl⟩
theorem sh_same{a:Int}(ha:U a):IntKind.wrap .i64 (IntKind.wrap .i64 (Int.tmod a 4)*8)=8*(a%4)∧IntKind.wrap .u32 (8*Int.tmod a 4)=8*(a%4):=by
 obtain⟨a0,a1⟩:=ha
 rw[Int.tmod_eq_emod_of_nonneg a0]
 exact⟨by rw[IntKind.wrap_i64,IntKind.wrap_i64];omega,by rw[IntKind.wrap_u32];omega⟩
section
variable {P:Nat} {m:List Int} (h:Q0u P m)
include h
theorem Qk5{a:Int}(ha:U a){size:Int}(hs:size=1∨size=4):Q4l m a size=Q15 m a size:=by
 have e:=Qvk h ha hs
 obtain⟨s1,s2⟩:=sh_same ha
 have f:Q35 (m.getD (Int.toNat (IntKind.wrap .u32 (Int.tdiv a 4))) 0) (8*(a%4)) 8=iand .u32 (ishr .u32 (m.getD (Int.toNat (IntKind.wrap .u32 (Int.tdiv a 4))) 0) (8*(a%4))) 255:=by
   obtain⟨f0,f1,f2,f3⟩:=fldj (m.getD (Int.toNat (IntKind.wrap .u32 (Int.tdiv a 4))) 0)
   have:a%4=0∨a%4=1∨a%4=2∨a%4=3:=by omega
   rcases this with h|h|h|h<;>rw[h]
   · exact f0
   · exact f1
   · exact f2
   · exact f3
 simp only[Q4l,Q4s,Q15,Q4m,Tree.m,letv,e,s1,s2,f]
omit h in
theorem Z1a(a:Int)(size:Int):(Q15 m a size).2=Q23 m a size:=by
 simp only[Q15,Q4m,Tree.m,letv]
 cases Q23 m a size
 · rfl
 · cases size==1<;>rfl
theorem Qxu{a:Int}(ha:U a){size:Int}(hs:size=1∨size=4)(v:Int):Q8u m a size v=bif Q23 m a size then(Qa9 m a size v,true) else(m,false):=by
 have hcl:Q02 m=m:=rfl
 have e:=Qvk h ha hs
 obtain⟨s1,s2⟩:=sh_same ha
 have f: ∀w,Q7l w (8*(a%4)) 8 v=ior .u32 (Qe8 .u32 w (ishl .u32 255 (8*(a%4)))) (ishl .u32 (iand .u32 v 255) (8*(a%4))):=λw=>by
   obtain⟨f0,f1,f2,f3⟩:=setj w v
   have:a%4=0∨a%4=1∨a%4=2∨a%4=3:=by omega
   rcases this with h|h|h|h<;>rw[h]
   · exact f0
   · exact f1
   · exact f2
   · exact f3
 simp only[Q8u,Q3x,Qa9,Qee,Tree.m,letv,hcl,e,s1,s2,f]
 rcases hs with rfl|rfl<;>cases Q23 m a _<;>rfl
end
end Go.Proofs.YtpcbkbalabgnlaaGreat
namespace Go.Proofs.YtpcbkbalabgnlaaGreat
open Go Go.GD
set_option maxRecDepth 100000
section
variable {P:Nat} {m:List Int} (h:Q0u P m)
include h
theorem walk_same{root va:Int}(hr:U root)(hv:U va){access:Int}(ha:access=1∨access=2∨access=3):Qff m root va access=Q71 m root va access:=by
 have hp:=Qco h
 have h2:=h.p2
 have hlen:=h.len
 obtain⟨r1,r2⟩:=hr
 obtain⟨v1,v2⟩:=hv
 have hpg: ∀{f:Int},U f→Q8w m f=decide (f<P):=λhf=>pageP_eq h hf
 have eP:IntKind.wrap .u32 (P:Int)=P:=by rw[IntKind.wrap_u32];omega
 have kn:Qeg access=true:=by rcases ha with rfl|rfl|rfl<;>rfl
 have ca:Qgn access=(Q21 access,true):=by rcases ha with rfl|rfl|rfl<;>rfl
 simp only[Qff,Q4t,Q71,Qae,Tree.m,letv,hp,eP,kn,ca,hpg ⟨r1,r2⟩]
 by_cases c1:va≥4096
 · rw[decide_eq_true c1];rfl
 by_cases c2:root<P
 · have eE:IntKind.wrap IntKind.u32 (IntKind.wrap IntKind.u32 (root*128)+IntKind.wrap IntKind.u32 (4*IntKind.wrap IntKind.u32 (Int.tdiv va 128)))=root*128+4*(va/128):=by
     rw[Int.tdiv_eq_ediv_of_nonneg v1,IntKind.wrap_u32,IntKind.wrap_u32,IntKind.wrap_u32,IntKind.wrap_u32];omega
   have hE:U (root*128+4*(va/128)):=⟨by omega,by omega⟩
   have wi:Q23 m (root*128+4*(va/128)) 4=true:=by
     rw[Qek h hE (.inr rfl)];exact decide_eq_true ⟨by omega,by omega⟩
   rw[decide_eq_false c1,decide_eq_true c2,decide_eq_false (show¬root≥P by omega),eE,Qk5 h hE (.inr rfl),Z1a,wi]
   have ld:(Q15 m (root*128+4*(va/128)) 4).1=m.getD (Int.toNat (IntKind.wrap .u32 (Int.tdiv (root*128+4*(va/128)) 4))) 0:=by
     simp only[Q15,Q4m,Tree.m,letv,wi];rfl
   rw[ld]
   generalize m.getD (Int.toNat (IntKind.wrap .u32 (Int.tdiv (root*128+4*(va/128)) 4))) 0=w
   have fo:Qcn w=iand .u32 (ishr .u32 w 8) 255:=(fld w).2.2.2.2
   rw[fo,hpg (Z7m _ _)]
   have hge:decide (iand .u32 (ishr .u32 w 8) 255≥(P:Int))=!decide (iand .u32 (ishr .u32 w 8) 255<(P:Int)):=by
     by_cases hq:iand .u32 (ishr .u32 w 8) 255<(P:Int)
     · rw[decide_eq_true hq,decide_eq_false (by omega)];rfl
     · rw[decide_eq_false hq,decide_eq_true (by omega)];rfl
   rw[hge]
   generalize decide (iand .u32 (ishr .u32 w 8) 255<(P:Int))=d
   rcases ha with rfl|rfl|rfl
   · show _=(bif iand .u32 w 1==0 then _ else bif iand .u32 w 4==0 then _ else bif !d then _ else _)
     have:Q9p w 1=(bif iand .u32 w 1==0 then false else !(iand .u32 w 4==0)):=rfl
     rw[this]
     cases iand .u32 w 1==0<;>cases iand .u32 w 4==0<;>cases d<;>rfl
   · show _=(bif iand .u32 w 1==0 then _ else bif !d then _ else _)
     have:Q9p w 2=(bif iand .u32 w 1==0 then false else true):=rfl
     rw[this]
     cases iand .u32 w 1==0<;>cases d<;>rfl
   · show _=(bif iand .u32 w 1==0 then _ else bif iand .u32 w 2==0 then _ else bif !d then _ else _)
     have:Q9p w 3=(bif iand .u32 w 1==0 then false else !(iand .u32 w 2==0)):=rfl
     rw[this]
     cases iand .u32 w 1==0<;>cases iand .u32 w 2==0<;>cases d<;>rfl
 · rw[decide_eq_false c1,decide_eq_false c2,decide_eq_true (show root≥P by omega)];rfl
theorem Zbg{a:Int}(ha:U a)(access:Int):Qas m a access=Qo1 m a access:=by
 have hcl:Q02 m=m:=rfl
 have hl:=h.len
 have a0:=ha.1
 simp only[Qas,Q3w,Qo1,Qfn,Tree.m,letv,Qk5 h ha (.inr rfl),Z1a,Qxu h ha (.inr rfl),hcl]
 cases hw:Q23 m a 4
 · rfl
 · rw[Qek h ha (.inr rfl)]at hw
   have hw:=of_decide_eq_true hw
   have wi:Q23 m a 4=true:=by rw[Qek h ha (.inr rfl)];exact decide_eq_true hw
   have ld:(Q15 m a 4).1=m.getD (Int.toNat (IntKind.wrap .u32 (Int.tdiv a 4))) 0:=by
     simp only[Q15,Q4m,Tree.m,letv,wi];rfl
   have pu: ∀v,Qa9 m a 4 v=m.set (Int.toNat (IntKind.wrap .u32 (Int.tdiv a 4))) v:=λv=>rfl
   rw[ld,pu,pu]
   have hi:Int.toNat (IntKind.wrap .u32 (Int.tdiv a 4))<m.length:=by
     rw[Int.tdiv_eq_ediv_of_nonneg a0,IntKind.wrap_u32];omega
   generalize Int.toNat (IntKind.wrap .u32 (Int.tdiv a 4))=i at*
   rw[Qn7 hi,List.set_set]
   rfl
end
theorem Qj6{c:Q03}(h0:0≤c.B5.a0)(h:c.B5.a0≤31)(k b:Int):Q4e c k b=Q34 c k b:=by
 have e:=eq_of_beq (Qo7 (λs=>Qe8 .u32 (ior .u32 (Q82 (Q82 s 1 8) 2 16) 1) 2==ior .u32 (Qe8 .u32 (ior .u32 (ior .u32 (Qe8 .u32 s 24) (IntKind.wrap .u32 (8*Qbq (iand .u32 s 1 !=0)))) (IntKind.wrap .u32 (16*Qbq (iand .u32 s 2 !=0)))) 2) 1) 32 (by kernel_rfl) h0 (by omega))
 simp only[Q4e,Qh0,Q34,Qic,Tree.m,letv,e]
theorem Z7c{c:Q03}(h0:0≤c.B5.a0)(h:c.B5.a0≤31):Qck c=Qib c:=by
 have e:=eq_of_beq (Qo7 (λs=>Q82 (Q82 s 8 1) 16 2==ior .u32 (ior .u32 (Qe8 .u32 s 3) (IntKind.wrap .u32 (1*Qbq (iand .u32 s 8 !=0)))) (IntKind.wrap .u32 (2*Qbq (iand .u32 s 16 !=0)))) 32 (by kernel_rfl) h0 (by omega))
 simp only[Qck,Qd1,Qib,Qe0,Tree.m,letv,e]
theorem Qy9{c:Q03}(h0:0≤c.B5.a0)(h:c.B5.a0≤31):Qkd c=(!Q91 c&&(iand .u32 c.B5.a0 4 !=0)):=
 eq_of_beq (Qo7 (λs=>(iand .u32 s 5==4)==(!(iand .u32 s 1 !=0)&&(iand .u32 s 4 !=0))) 32 (by kernel_rfl) h0 (by omega))
theorem Qsm(c:Q03){r:Int}(hr:0≤r∧r<16)(v:Int):Q9h c r v=Q1t c r v:=by
 simp only[Q9h,Q7u,Q1t,Qej,Tree.m]
 by_cases h:r=0
 · subst h;rfl
 · rw[decide_eq_true (show r>0 by omega),decide_eq_true hr.2,show(r !=0)=true by simpa using h];rfl
theorem div_same{a b:Int}(ha:U a)(hb:U b):Qaq a b=Qcf a b:=by
  obtain⟨a0,a1⟩:=ha
  obtain⟨b0,b1⟩:=hb
  have i: ∀x,IntKind.wrap .i64 (IntKind.wrap .i32 x)=IntKind.wrap .i32 x:=λx=>by rw[IntKind.wrap_i64,IntKind.wrap_i32];omega
  have r32: ∀x,-2147483648≤IntKind.wrap .i32 x∧IntKind.wrap .i32 x<2147483648:=λx=>by rw[IntKind.wrap_i32];omega
  have q32: ∀x y:Int,-2147483648≤x∧x<2147483648→ -2147483648≤Int.tdiv x y∧Int.tdiv x y≤2147483648:=λx y hx=>by
    have h1:(Int.tdiv x y).natAbs≤x.natAbs:=by rw[Int.natAbs_tdiv];exact Nat.div_le_self _ _
    omega
  simp only[Qaq,Q4y,Qcf,Qbj,Tree.m,i]
  cases hb:b==0
  · have w: ∀z,IntKind.wrap .u32 (IntKind.wrap .i32 z)=IntKind.wrap .u32 z:=λz=>by rw[IntKind.wrap_i32,IntKind.wrap_u32,IntKind.wrap_u32];omega
    have w2:IntKind.wrap .i64 (Int.tdiv (IntKind.wrap .i32 a) (IntKind.wrap .i32 b))=Int.tdiv (IntKind.wrap .i32 a) (IntKind.wrap .i32 b):=by
      have:=q32 _ (IntKind.wrap .i32 b) (r32 a)
      rw[IntKind.wrap_i64];omega
    rw[w,w2]
    cases h1:a==2147483648
    · rfl
    · cases h2:b==4294967295
      · rfl
      · have h1:=eq_of_beq h1
        have h2:=eq_of_beq h2
        subst h1;subst h2
        rfl
  · rfl
theorem alu_same{op a b:Int}(h0:1≤op)(h1:op≤23)(ha:U a)(hb:U b):Q45 op a b=Qcr op a b:=by
 have sub:IntKind.wrap .u32 (a+IntKind.wrap .u32 (0-b))=IntKind.wrap .u32 (a-b):=by
   rw[IntKind.wrap_u32,IntKind.wrap_u32,IntKind.wrap_u32];omega
 have hop:op=1∨op=2∨op=3∨op=4∨op=5∨op=6∨op=7∨op=8∨op=9∨op=10∨op=11∨op=12∨op=13∨op=14∨op=15∨op=16∨op=17∨op=18∨op=19∨op=20∨op=21∨op=22∨op=23:=by omega
 have d:=div_same ha hb
 rcases hop with rfl|rfl|rfl|rfl|rfl|rfl|rfl|rfl|rfl|rfl|rfl|rfl|rfl|rfl|rfl|rfl|rfl|rfl|rfl|rfl|rfl|rfl|rfl
 · rfl
 · show(IntKind.wrap .u32 (a+IntKind.wrap .u32 (0-b)),true)=(IntKind.wrap .u32 (a-b),true)
   rw[sub]
 · rfl
 · rfl
 · rfl
 · rfl
 · rfl
 · rfl
 · rfl
 · show((Qaq a b).1,true)=((Qcf a b).1,true)
   rw[d]
 · show((Qaq a b).2,true)=((Qcf a b).2,true)
   rw[d]
 all_goals rfl
theorem Qjl{P:Nat}{m:List Int}(h:Q0u P m){c:Q03}(hc:Q2q c)(hst:c.B5.a0≤31){va:Int}(hv:U va){size:Int}(hs:size=1∨size=4){access:Int}(ha:access=1∨access=2∨access=3):Q1y c m va size access=((Q0w c m va size access).1,(Q0w c m va size access).2.2,(Q0w c m va size access).2.1):=by
 have hcl:Q02 m=m:=rfl
 have kn:Qeg access=true:=by rcases ha with rfl|rfl|rfl<;>rfl
 have ca:Qmm access=(Q21 access,true):=by rcases ha with rfl|rfl|rfl<;>rfl
 have pg:=Qy9 hc.a0.1 hst
 have wk:=walk_same h hc.a6 hv ha
 have tc:Qas m (Q71 m c.B5.a6 va access).F1 access=Qo1 m (Q71 m c.B5.a6 va access).F1 access:=Zbg h (Tree.pp (walk_w h hc.a6 hv access)).2.2.1 access
 have sz:(bif size !=1 then bif size !=4 then false else true else true)=true:=by rcases hs with rfl|rfl<;>rfl
 simp only[Q1y,Q4v,Q0w,Q8m,Tree.m,letv,hcl,kn,ca,pg,wk,tc,Qk5 h hv hs,Z1a]
 rcases hs with rfl|rfl<;>
 · show(bif _ then _ else _)=_
   cases Int.tmod va _ !=0<;>cases Q91 c<;>cases iand .u32 c.B5.a0 4 !=0<;>cases(Q71 m c.B5.a6 va access).E0 !=0<;>cases Q23 m va _<;>rfl
end Go.Proofs.YtpcbkbalabgnlaaGreat
namespace Go.Proofs.YtpcbkbalabgnlaaGreat
open Go Go.GD
set_option maxRecDepth 100000
theorem Qvz{α:Type}{Q:α→Prop}{c:Bool}{x y:α}(hx:Q x)(hy:Q y):Q (cond c x y):=by cases c<;>assumption
theorem walk_al(m:List Int)(root:Int){va:Int}(hv:U va)(access:Int):(Q71 m root va access).E0=0→(Q71 m root va access).Addr%4=va%4:=by
 have hc:Q21 access≠0:=by
   simp only[Q21,Q9w,Tree.m]
   cases access==1<;>cases access==3<;>simp
 have q :(λt:Q16=>t.E0=0→t.Addr%4=va%4) (Q71 m root va access):=by
   simp only[Q71,Qae,Tree.m,letv]
   repeat'(first
     |exact λe=>absurd e hc
     | (intro _
        show IntKind.wrap .u32 (IntKind.wrap .u32 (_*128)+Int.tmod va 128)%4=va%4
        rw[Int.tmod_eq_emod_of_nonneg hv.1,IntKind.wrap_u32,IntKind.wrap_u32];omega)
     |refine Qvz (Q:=λt:Q16=>t.E0=0→t.Addr%4=va%4) ?_ ?_)
 exact q
theorem reach_al{c:Q03}{m:List Int}{va:Int}(hv:U va){size:Int}(hs:size=1∨size=4){access:Int}(ha:access=1∨access=2∨access=3):(Q0w c m va size access).2.1=0→(Q0w c m va size access).1%size=0:=by
  have kn:Qeg access=true:=by rcases ha with rfl|rfl|rfl<;>rfl
  have hc:Q21 access≠0:=by
    simp only[Q21,Q9w,Tree.m]
    cases access==1<;>cases access==3<;>simp
  rcases hs with rfl|rfl
  · intro _;omega
  simp only[Q0w,Q8m,Tree.m,letv,kn]
  show(bif Int.tmod va 4 !=0 then((0:Int),(3:Int),m) else _).2.1=0→(bif Int.tmod va 4 !=0 then((0:Int),(3:Int),m) else _).1%4=0
  rw[Int.tmod_eq_emod_of_nonneg hv.1]
  cases hz:va%4 !=0
  · have hz:va%4=0:=by simpa using hz
    have w:=walk_al m c.B5.a6 hv access
    cases hp:Qkd c
    · cases hw:Q23 m va 4
      · exact λe=>absurd e hc
      · exact λ_=>hz
    · cases hq:(Q71 m c.B5.a6 va access).E0 !=0
      · have hq:(Q71 m c.B5.a6 va access).E0=0:=by simpa using hq
        exact λ_=>(w hq).trans hz
      · have hq: ¬(Q71 m c.B5.a6 va access).E0=0:=by simpa using hq
        exact λe=>absurd e hq
  · intro e;cases e
def eff0:Q13:={B8:=0,C9:=0,D9:=0,Value:=0}
def Q5c(c:Q03)(m:List Int)(i:Q0g):Q03×List Int×Q13:=
 bif i.Op==32 then((Q6b c m i).1,(Q6b c m i).2,eff0) else bif i.Op==33 then((Q6b c m i).1,(Q6b c m i).2,eff0) else bif i.Op==34 then((Q6b c m i).1,(Q6b c m i).2,eff0)
 else bif i.Op==35 then((Q7o c m i).1,(Q7o c m i).2,eff0) else bif i.Op==36 then((Q7o c m i).1,(Q7o c m i).2,eff0) else((Qhs c i).1,m,(Qhs c i).2)
def regX(c:Q03)(r:Int):Int:=List.getD (A16.l c.X) r.toNat 0
def Qg(c:Q03)(m:List Int)(i:Q0g):Q03×Q13×List Int:=
 bif decide (i.Op≥56) then((Qi7 c i).1,(Qi7 c i).2,m) else bif decide (i.Op≥40) then(Z4i c i,eff0,m) else bif decide (i.Op≥32) then((Q68 c m i).1,eff0,(Q68 c m i).2)
 else bif i.Op==24 then({X:=(Q1t c i.A (ishl .u32 (IntKind.wrap .u32 i.Imm) 16)).X,Pc:=IntKind.wrap .u32 ((Q1t c i.A (ishl .u32 (IntKind.wrap .u32 i.Imm) 16)).Pc+4),B5:=(Q1t c i.A (ishl .u32 (IntKind.wrap .u32 i.Imm) 16)).B5},eff0,m)
 else bif decide (i.Op≤13) then
   ({X:=(Q1t c i.A (Qcr i.Op (regX c i.B) (regX c i.C)).1).X,Pc:=IntKind.wrap .u32 ((Q1t c i.A (Qcr i.Op (regX c i.B) (regX c i.C)).1).Pc+4),B5:=(Q1t c i.A (Qcr i.Op (regX c i.B) (regX c i.C)).1).B5},eff0,m)
 else({X:=(Q1t c i.A (Qcr i.Op (regX c i.B) (IntKind.wrap .u32 i.Imm)).1).X,Pc:=IntKind.wrap .u32 ((Q1t c i.A (Qcr i.Op (regX c i.B) (IntKind.wrap .u32 i.Imm)).1).Pc+4),B5:=(Q1t c i.A (Qcr i.Op (regX c i.B) (IntKind.wrap .u32 i.Imm)).1).B5},eff0,m)
def isOp(op:Int):Prop:=op=1∨op=2∨op=3∨op=4∨op=5∨op=6∨op=7∨op=8∨op=9∨op=10∨op=11∨op=12∨op=13∨op=16∨op=17∨op=18∨op=19∨op=20∨op=21∨op=22∨op=23∨op=24∨op=32∨op=33∨op=34∨op=35∨op=36∨op=40∨op=41∨op=42∨op=43∨op=44∨op=45∨op=48∨op=49∨op=56∨op=57∨op=58∨op=59∨op=60∨op=61∨op=62∨op=63∨op=64
theorem set_pc(c:Q03)(r v:Int):(Q1t c r v).Pc=c.Pc∧(Q1t c r v).B5=c.B5:=by
 simp only[Q1t,Qej,Tree.m]
 cases decide (r>0)
 · exact⟨rfl,rfl⟩
 · cases decide (r<16)<;>exact⟨rfl,rfl⟩
def adv(c:Q03):Q03:={X:=c.X,Pc:=IntKind.wrap .u32 (c.Pc+4),B5:=c.B5}
def va(c:Q03)(B Imm:Int):Int:=IntKind.wrap .u32 (List.getD (A16.l c.X) B.toNat 0+IntKind.wrap .u32 Imm)
def ldP(c:Q03)(A v size:Int)(f:Int→Int)(y:Int×List Int×Int):Q03×List Int:=bif y.2.2 !=0 then(Q4e c y.2.2 v,y.2.1) else(adv (Q9h c A (f (Q4l y.2.1 y.1 size).1)),y.2.1)
def ldR(c:Q03)(A v size:Int)(f:Int→Int)(x:Int×Int×List Int):Q03×List Int:=bif x.2.1 !=0 then(Q34 c x.2.1 v,x.2.2) else(adv (Q1t c A (f (Q15 x.2.2 x.1 size).1)),x.2.2)
def stP(c:Q03)(A v size:Int)(y:Int×List Int×Int):Q03×List Int:=bif y.2.2 !=0 then(Q4e c y.2.2 v,y.2.1) else(adv c,(Q8u y.2.1 y.1 size (List.getD (A16.l c.X) A.toNat 0)).1)
def stR(c:Q03)(A v size:Int)(x:Int×Int×List Int):Q03×List Int:=bif x.2.1 !=0 then(Q34 c x.2.1 v,x.2.2) else(adv c,Qa9 x.2.2 x.1 size (List.getD (A16.l c.X) A.toNat 0))
theorem ld_eq(c:Q03)(m:List Int)(A B C Imm:Int):
   (Q6b c m ⟨32,A,B,C,Imm⟩=ldP c A (va c B Imm) 4 (λv=>v) (Q1y c m (va c B Imm) 4 2)∧Q68 c m ⟨32,A,B,C,Imm⟩=ldR c A (va c B Imm) 4 (λv=>v) (Q0w c m (va c B Imm) 4 2))∧
   (Q6b c m ⟨33,A,B,C,Imm⟩=ldP c A (va c B Imm) 1 (λv=>Q28 v 8) (Q1y c m (va c B Imm) 1 2)∧Q68 c m ⟨33,A,B,C,Imm⟩=ldR c A (va c B Imm) 1 (λv=>Q41 v 8) (Q0w c m (va c B Imm) 1 2))∧
   (Q6b c m ⟨34,A,B,C,Imm⟩=ldP c A (va c B Imm) 1 (λv=>v) (Q1y c m (va c B Imm) 1 2)∧Q68 c m ⟨34,A,B,C,Imm⟩=ldR c A (va c B Imm) 1 (λv=>v) (Q0w c m (va c B Imm) 1 2))∧
   (Q7o c m ⟨35,A,B,C,Imm⟩=stP c A (va c B Imm) 4 (Q1y c m (va c B Imm) 4 3)∧Q68 c m ⟨35,A,B,C,Imm⟩=stR c A (va c B Imm) 4 (Q0w c m (va c B Imm) 4 3))∧
   (Q7o c m ⟨36,A,B,C,Imm⟩=stP c A (va c B Imm) 1 (Q1y c m (va c B Imm) 1 3)∧Q68 c m ⟨36,A,B,C,Imm⟩=stR c A (va c B Imm) 1 (Q0w c m (va c B Imm) 1 3)):=
 ⟨⟨by kernel_rfl,by kernel_rfl⟩,⟨by kernel_rfl,by kernel_rfl⟩,⟨by kernel_rfl,by kernel_rfl⟩,⟨by kernel_rfl,by kernel_rfl⟩,⟨by kernel_rfl,by kernel_rfl⟩⟩
theorem sx_load{P:Nat}{m:List Int}(h:Q0u P m)(a:Int):Q28 (Q15 m a 1).1 8=Q41 (Q15 m a 1).1 8:=by
 have: ∀x:Int×Bool,(∃w,U w∧x=(iand .u32 w 255,true))∨x=(0,false)→Q28 x.1 8=Q41 x.1 8:=λx hx=>by
   rcases hx with⟨w,hw,rfl⟩|rfl
   · have e:=m255 hw
     exact sx8 (by show 0≤iand .u32 w 255;omega) (by show iand .u32 w 255<256;omega)
   · rfl
 refine this _ ?_
 simp only[Q15,Q4m,Tree.m,letv]
 cases Q23 m a 1
 · exact .inr rfl
 · exact .inl ⟨_,Qq (Qh h.u _) _,rfl⟩
section
variable {P:Nat} {m:List Int} (h:Q0u P m) {c:Q03} (hc:Q2q c) (hst:c.B5.a0≤31)
include h hc hst
omit hst in
theorem Z7i{v:Int}(hv:U v){size:Int}(hs:size=1∨size=4)(access:Int):Q0u P (Q0w c m v size access).2.2∧U (Q0w c m v size access).1∧((Q0w c m v size access).2.1=0→(Q0w c m v size access).1<128*P):=(Tree.pp (Z05 h hc hv hs access)).2
theorem Z6a{A v:Int}(hA:0≤A∧A<16)(hv:U v){size:Int}(hs:size=1∨size=4){f g:Int→Int}(hf: ∀{m':List Int},Q0u P m'→ ∀a,f (Q15 m' a size).1=g (Q15 m' a size).1):ldP c A v size f (Q1y c m v size 2)=ldR c A v size g (Q0w c m v size 2):=by
 rw[Qjl h hc hst hv hs (.inr (.inl rfl))]
 obtain⟨k,u,_⟩:=Z7i h hc hv hs 2
 generalize Q0w c m v size 2=x at*
 simp only[ldP,ldR,Qk5 k u hs,Qj6 hc.a0.1 hst,Qsm c hA,hf k]
theorem st_same{A v:Int}(hv:U v){size:Int}(hs:size=1∨size=4):stP c A v size (Q1y c m v size 3)=stR c A v size (Q0w c m v size 3):=by
 rw[Qjl h hc hst hv hs (.inr (.inr rfl))]
 obtain⟨k,u,b⟩:=Z7i h hc hv hs 3
 have al:=reach_al (c:=c) (m:=m) hv hs (access:=3) (.inr (.inr rfl))
 generalize Q0w c m v size 3=x at*
 simp only[stP,stR,Qxu k u hs,Qj6 hc.a0.1 hst,Qek k u hs]
 cases hq:x.2.1 !=0
 · have hq:x.2.1=0:=by simpa using hq
   rw[decide_eq_true ⟨al hq,b hq⟩];rfl
 · rfl
end
end Go.Proofs.YtpcbkbalabgnlaaGreat
namespace Go.Proofs.YtpcbkbalabgnlaaGreat
open Go Go.GD
set_option maxRecDepth 100000
theorem write_pc(c:Q03)(k v:Int):(Qh9 c k v).Pc=c.Pc:=by
 simp only[Qh9,Qdd,Tree.m]
 repeat'(first|rfl|refine Qvz (Q:=λx:Q03=>x.Pc=c.Pc) ?_ ?_)
def setP(c:Q03)(A v p:Int):Q03:={X:=(Q9h c A v).X,Pc:=p,B5:=(Q9h c A v).B5}
def setR(c:Q03)(A v p:Int):Q03:={X:=(Q1t c A v).X,Pc:=p,B5:=(Q1t c A v).B5}
def nxt(c:Q03):Int:=IntKind.wrap .u32 (c.Pc+4)
theorem Z5n(c:Q03){A:Int}(hA:0≤A∧A<16)(v p:Int):setP c A v p=setR c A v p:=by
 unfold setP setR;rw[Qsm c hA]
theorem Z7j(c:Q03)(A v:Int):adv (Q1t c A v)=setR c A v (nxt c):=by
 unfold adv setR nxt;rw[(set_pc c A v).1]
theorem brc(t:Bool)(x y:Q03)(m:List Int):((bif t then(x,eff0) else(y,eff0)).1,m,(bif t then(x,eff0) else(y,eff0)).2)=((bif t then x else y),m,eff0):=by cases t<;>rfl
def isOpB(op:Int):Bool:=decide (op=1)||decide (op=2)||decide (op=3)||decide (op=4)||decide (op=5)||decide (op=6)||decide (op=7)||decide (op=8)||decide (op=9)||decide (op=10)||decide (op=11)||decide (op=12)||decide (op=13)||decide (op=16)||decide (op=17)||decide (op=18)||decide (op=19)||decide (op=20)||decide (op=21)||decide (op=22)||decide (op=23)||decide (op=24)||decide (op=32)||decide (op=33)||decide (op=34)||decide (op=35)||decide (op=36)||decide (op=40)||decide (op=41)||decide (op=42)||decide (op=43)||decide (op=44)||decide (op=45)||decide (op=48)||decide (op=49)||decide (op=56)||decide (op=57)||decide (op=58)||decide (op=59)||decide (op=60)||decide (op=61)||decide (op=62)||decide (op=63)||decide (op=64)
section
variable {P:Nat} {m:List Int} (h:Q0u P m) {c:Q03} (hc:Q2q c) (hst:c.B5.a0≤31) {A B C Imm:Int} (hA:0≤A∧A<16)
include h hc hst hA
theorem post_same{op:Int}(hop:isOp op):Q5c c m ⟨op,A,B,C,Imm⟩=((Qg c m ⟨op,A,B,C,Imm⟩).1,(Qg c m ⟨op,A,B,C,Imm⟩).2.2,(Qg c m ⟨op,A,B,C,Imm⟩).2.1):=by
 have alu: ∀{k y:Int},1≤k→k≤23→U y→((setP c A (Q45 k (regX c B) y).1 (nxt c),m,eff0):Q03×List Int×Q13)=(adv (Q1t c A (Qcr k (regX c B) y).1),m,eff0):=λh1 h2 hy=>by
   rw[alu_same h1 h2 (show U (regX c B) from hc.r _) hy,Z7j,Z5n c hA]
 have uC:U (regX c C):=hc.r _
 have uI:U (IntKind.wrap .u32 Imm):=Q0j _
 obtain⟨⟨l1,l2⟩,⟨l3,l4⟩,⟨l5,l6⟩,⟨l7,l8⟩,⟨l9,l10⟩⟩:=ld_eq c m A B C Imm
 have hva:U (va c B Imm):=Q0j _
 rcases hop with rfl|rfl|rfl|rfl|rfl|rfl|rfl|rfl|rfl|rfl|rfl|rfl|rfl|rfl|rfl|rfl|rfl|rfl|rfl|rfl|rfl|rfl|rfl|rfl|rfl|rfl|rfl|rfl|rfl|rfl|rfl|rfl|rfl|rfl|rfl|rfl|rfl|rfl|rfl|rfl|rfl|rfl|rfl|rfl
 · exact(show Q5c c m ⟨1,A,B,C,Imm⟩=(setP c A (Q45 1 (regX c B) (regX c C)).1 (nxt c),m,eff0) by kernel_rfl).trans ((alu (by decide) (by decide) uC).trans (by kernel_rfl))
 · exact(show Q5c c m ⟨2,A,B,C,Imm⟩=(setP c A (Q45 2 (regX c B) (regX c C)).1 (nxt c),m,eff0) by kernel_rfl).trans ((alu (by decide) (by decide) uC).trans (by kernel_rfl))
 · exact(show Q5c c m ⟨3,A,B,C,Imm⟩=(setP c A (Q45 3 (regX c B) (regX c C)).1 (nxt c),m,eff0) by kernel_rfl).trans ((alu (by decide) (by decide) uC).trans (by kernel_rfl))
 · exact(show Q5c c m ⟨4,A,B,C,Imm⟩=(setP c A (Q45 4 (regX c B) (regX c C)).1 (nxt c),m,eff0) by kernel_rfl).trans ((alu (by decide) (by decide) uC).trans (by kernel_rfl))
 · exact(show Q5c c m ⟨5,A,B,C,Imm⟩=(setP c A (Q45 5 (regX c B) (regX c C)).1 (nxt c),m,eff0) by kernel_rfl).trans ((alu (by decide) (by decide) uC).trans (by kernel_rfl))
 · exact(show Q5c c m ⟨6,A,B,C,Imm⟩=(setP c A (Q45 6 (regX c B) (regX c C)).1 (nxt c),m,eff0) by kernel_rfl).trans ((alu (by decide) (by decide) uC).trans (by kernel_rfl))
 · exact(show Q5c c m ⟨7,A,B,C,Imm⟩=(setP c A (Q45 7 (regX c B) (regX c C)).1 (nxt c),m,eff0) by kernel_rfl).trans ((alu (by decide) (by decide) uC).trans (by kernel_rfl))
 · exact(show Q5c c m ⟨8,A,B,C,Imm⟩=(setP c A (Q45 8 (regX c B) (regX c C)).1 (nxt c),m,eff0) by kernel_rfl).trans ((alu (by decide) (by decide) uC).trans (by kernel_rfl))
 · exact(show Q5c c m ⟨9,A,B,C,Imm⟩=(setP c A (Q45 9 (regX c B) (regX c C)).1 (nxt c),m,eff0) by kernel_rfl).trans ((alu (by decide) (by decide) uC).trans (by kernel_rfl))
 · exact(show Q5c c m ⟨10,A,B,C,Imm⟩=(setP c A (Q45 10 (regX c B) (regX c C)).1 (nxt c),m,eff0) by kernel_rfl).trans ((alu (by decide) (by decide) uC).trans (by kernel_rfl))
 · exact(show Q5c c m ⟨11,A,B,C,Imm⟩=(setP c A (Q45 11 (regX c B) (regX c C)).1 (nxt c),m,eff0) by kernel_rfl).trans ((alu (by decide) (by decide) uC).trans (by kernel_rfl))
 · exact(show Q5c c m ⟨12,A,B,C,Imm⟩=(setP c A (Q45 12 (regX c B) (regX c C)).1 (nxt c),m,eff0) by kernel_rfl).trans ((alu (by decide) (by decide) uC).trans (by kernel_rfl))
 · exact(show Q5c c m ⟨13,A,B,C,Imm⟩=(setP c A (Q45 13 (regX c B) (regX c C)).1 (nxt c),m,eff0) by kernel_rfl).trans ((alu (by decide) (by decide) uC).trans (by kernel_rfl))
 · exact(show Q5c c m ⟨16,A,B,C,Imm⟩=(setP c A (Q45 16 (regX c B) (IntKind.wrap .u32 Imm)).1 (nxt c),m,eff0) by kernel_rfl).trans ((alu (by decide) (by decide) uI).trans (by kernel_rfl))
 · exact(show Q5c c m ⟨17,A,B,C,Imm⟩=(setP c A (Q45 17 (regX c B) (IntKind.wrap .u32 Imm)).1 (nxt c),m,eff0) by kernel_rfl).trans ((alu (by decide) (by decide) uI).trans (by kernel_rfl))
 · exact(show Q5c c m ⟨18,A,B,C,Imm⟩=(setP c A (Q45 18 (regX c B) (IntKind.wrap .u32 Imm)).1 (nxt c),m,eff0) by kernel_rfl).trans ((alu (by decide) (by decide) uI).trans (by kernel_rfl))
 · exact(show Q5c c m ⟨19,A,B,C,Imm⟩=(setP c A (Q45 19 (regX c B) (IntKind.wrap .u32 Imm)).1 (nxt c),m,eff0) by kernel_rfl).trans ((alu (by decide) (by decide) uI).trans (by kernel_rfl))
 · exact(show Q5c c m ⟨20,A,B,C,Imm⟩=(setP c A (Q45 20 (regX c B) (IntKind.wrap .u32 Imm)).1 (nxt c),m,eff0) by kernel_rfl).trans ((alu (by decide) (by decide) uI).trans (by kernel_rfl))
 · exact(show Q5c c m ⟨21,A,B,C,Imm⟩=(setP c A (Q45 21 (regX c B) (IntKind.wrap .u32 Imm)).1 (nxt c),m,eff0) by kernel_rfl).trans ((alu (by decide) (by decide) uI).trans (by kernel_rfl))
 · exact(show Q5c c m ⟨22,A,B,C,Imm⟩=(setP c A (Q45 22 (regX c B) (IntKind.wrap .u32 Imm)).1 (nxt c),m,eff0) by kernel_rfl).trans ((alu (by decide) (by decide) uI).trans (by kernel_rfl))
 · exact(show Q5c c m ⟨23,A,B,C,Imm⟩=(setP c A (Q45 23 (regX c B) (IntKind.wrap .u32 Imm)).1 (nxt c),m,eff0) by kernel_rfl).trans ((alu (by decide) (by decide) uI).trans (by kernel_rfl))
 · refine(show Q5c c m ⟨24,A,B,C,Imm⟩=(setP c A (ishl .u32 (IntKind.wrap .u32 Imm) 16) (nxt c),m,eff0) by kernel_rfl).trans ?_
   rw[Z5n c hA,←Z7j];kernel_rfl
 · have e:=Z6a h hc hst hA hva (.inr rfl) (f:=λv=>v) (g:=λv=>v) (λ_ _=>rfl)
   rw[←l1,←l2]at e
   refine(show Q5c c m ⟨32,A,B,C,Imm⟩=((Q6b c m ⟨32,A,B,C,Imm⟩).1,(Q6b c m ⟨32,A,B,C,Imm⟩).2,eff0) by kernel_rfl).trans ?_
   rw[e];kernel_rfl
 · have e:=Z6a h hc hst hA hva (.inl rfl) (f:=λv=>Q28 v 8) (g:=λv=>Q41 v 8) (λhm a=>sx_load hm a)
   rw[←l3,←l4]at e
   refine(show Q5c c m ⟨33,A,B,C,Imm⟩=((Q6b c m ⟨33,A,B,C,Imm⟩).1,(Q6b c m ⟨33,A,B,C,Imm⟩).2,eff0) by kernel_rfl).trans ?_
   rw[e];kernel_rfl
 · have e:=Z6a h hc hst hA hva (.inl rfl) (f:=λv=>v) (g:=λv=>v) (λ_ _=>rfl)
   rw[←l5,←l6]at e
   refine(show Q5c c m ⟨34,A,B,C,Imm⟩=((Q6b c m ⟨34,A,B,C,Imm⟩).1,(Q6b c m ⟨34,A,B,C,Imm⟩).2,eff0) by kernel_rfl).trans ?_
   rw[e];kernel_rfl
 · have e:=st_same h hc hst (A:=A) hva (.inr rfl)
   rw[←l7,←l8]at e
   refine(show Q5c c m ⟨35,A,B,C,Imm⟩=((Q7o c m ⟨35,A,B,C,Imm⟩).1,(Q7o c m ⟨35,A,B,C,Imm⟩).2,eff0) by kernel_rfl).trans ?_
   rw[e];kernel_rfl
 · have e:=st_same h hc hst (A:=A) hva (.inl rfl)
   rw[←l9,←l10]at e
   refine(show Q5c c m ⟨36,A,B,C,Imm⟩=((Q7o c m ⟨36,A,B,C,Imm⟩).1,(Q7o c m ⟨36,A,B,C,Imm⟩).2,eff0) by kernel_rfl).trans ?_
   rw[e];kernel_rfl
 · exact(show Q5c c m ⟨40,A,B,C,Imm⟩=((bif(Q2d 40 (regX c A) (regX c B)) then((⟨c.X,IntKind.wrap .u32 (c.Pc+IntKind.wrap .u32 (4*IntKind.wrap .u32 Imm)),c.B5⟩:Q03),eff0) else(⟨c.X,nxt c,c.B5⟩,eff0)).1,m,(bif(Q2d 40 (regX c A) (regX c B)) then((⟨c.X,IntKind.wrap .u32 (c.Pc+IntKind.wrap .u32 (4*IntKind.wrap .u32 Imm)),c.B5⟩:Q03),eff0) else(⟨c.X,nxt c,c.B5⟩,eff0)).2) by kernel_rfl).trans ((brc (Q2d 40 (regX c A) (regX c B)) ⟨c.X,IntKind.wrap .u32 (c.Pc+IntKind.wrap .u32 (4*IntKind.wrap .u32 Imm)),c.B5⟩ ⟨c.X,nxt c,c.B5⟩ m).trans (by kernel_rfl))
 · exact(show Q5c c m ⟨41,A,B,C,Imm⟩=((bif(Q2d 41 (regX c A) (regX c B)) then((⟨c.X,IntKind.wrap .u32 (c.Pc+IntKind.wrap .u32 (4*IntKind.wrap .u32 Imm)),c.B5⟩:Q03),eff0) else(⟨c.X,nxt c,c.B5⟩,eff0)).1,m,(bif(Q2d 41 (regX c A) (regX c B)) then((⟨c.X,IntKind.wrap .u32 (c.Pc+IntKind.wrap .u32 (4*IntKind.wrap .u32 Imm)),c.B5⟩:Q03),eff0) else(⟨c.X,nxt c,c.B5⟩,eff0)).2) by kernel_rfl).trans ((brc (Q2d 41 (regX c A) (regX c B)) ⟨c.X,IntKind.wrap .u32 (c.Pc+IntKind.wrap .u32 (4*IntKind.wrap .u32 Imm)),c.B5⟩ ⟨c.X,nxt c,c.B5⟩ m).trans (by kernel_rfl))
 · exact(show Q5c c m ⟨42,A,B,C,Imm⟩=((bif(Q2d 42 (regX c A) (regX c B)) then((⟨c.X,IntKind.wrap .u32 (c.Pc+IntKind.wrap .u32 (4*IntKind.wrap .u32 Imm)),c.B5⟩:Q03),eff0) else(⟨c.X,nxt c,c.B5⟩,eff0)).1,m,(bif(Q2d 42 (regX c A) (regX c B)) then((⟨c.X,IntKind.wrap .u32 (c.Pc+IntKind.wrap .u32 (4*IntKind.wrap .u32 Imm)),c.B5⟩:Q03),eff0) else(⟨c.X,nxt c,c.B5⟩,eff0)).2) by kernel_rfl).trans ((brc (Q2d 42 (regX c A) (regX c B)) ⟨c.X,IntKind.wrap .u32 (c.Pc+IntKind.wrap .u32 (4*IntKind.wrap .u32 Imm)),c.B5⟩ ⟨c.X,nxt c,c.B5⟩ m).trans (by kernel_rfl))
 · exact(show Q5c c m ⟨43,A,B,C,Imm⟩=((bif(Q2d 43 (regX c A) (regX c B)) then((⟨c.X,IntKind.wrap .u32 (c.Pc+IntKind.wrap .u32 (4*IntKind.wrap .u32 Imm)),c.B5⟩:Q03),eff0) else(⟨c.X,nxt c,c.B5⟩,eff0)).1,m,(bif(Q2d 43 (regX c A) (regX c B)) then((⟨c.X,IntKind.wrap .u32 (c.Pc+IntKind.wrap .u32 (4*IntKind.wrap .u32 Imm)),c.B5⟩:Q03),eff0) else(⟨c.X,nxt c,c.B5⟩,eff0)).2) by kernel_rfl).trans ((brc (Q2d 43 (regX c A) (regX c B)) ⟨c.X,IntKind.wrap .u32 (c.Pc+IntKind.wrap .u32 (4*IntKind.wrap .u32 Imm)),c.B5⟩ ⟨c.X,nxt c,c.B5⟩ m).trans (by kernel_rfl))
 · exact(show Q5c c m ⟨44,A,B,C,Imm⟩=((bif(Q2d 44 (regX c A) (regX c B)) then((⟨c.X,IntKind.wrap .u32 (c.Pc+IntKind.wrap .u32 (4*IntKind.wrap .u32 Imm)),c.B5⟩:Q03),eff0) else(⟨c.X,nxt c,c.B5⟩,eff0)).1,m,(bif(Q2d 44 (regX c A) (regX c B)) then((⟨c.X,IntKind.wrap .u32 (c.Pc+IntKind.wrap .u32 (4*IntKind.wrap .u32 Imm)),c.B5⟩:Q03),eff0) else(⟨c.X,nxt c,c.B5⟩,eff0)).2) by kernel_rfl).trans ((brc (Q2d 44 (regX c A) (regX c B)) ⟨c.X,IntKind.wrap .u32 (c.Pc+IntKind.wrap .u32 (4*IntKind.wrap .u32 Imm)),c.B5⟩ ⟨c.X,nxt c,c.B5⟩ m).trans (by kernel_rfl))
 · exact(show Q5c c m ⟨45,A,B,C,Imm⟩=((bif(Q2d 45 (regX c A) (regX c B)) then((⟨c.X,IntKind.wrap .u32 (c.Pc+IntKind.wrap .u32 (4*IntKind.wrap .u32 Imm)),c.B5⟩:Q03),eff0) else(⟨c.X,nxt c,c.B5⟩,eff0)).1,m,(bif(Q2d 45 (regX c A) (regX c B)) then((⟨c.X,IntKind.wrap .u32 (c.Pc+IntKind.wrap .u32 (4*IntKind.wrap .u32 Imm)),c.B5⟩:Q03),eff0) else(⟨c.X,nxt c,c.B5⟩,eff0)).2) by kernel_rfl).trans ((brc (Q2d 45 (regX c A) (regX c B)) ⟨c.X,IntKind.wrap .u32 (c.Pc+IntKind.wrap .u32 (4*IntKind.wrap .u32 Imm)),c.B5⟩ ⟨c.X,nxt c,c.B5⟩ m).trans (by kernel_rfl))
 · refine(show Q5c c m ⟨48,A,B,C,Imm⟩=(setP c A (nxt c) (IntKind.wrap .u32 ((Q9h c A (nxt c)).Pc+IntKind.wrap .u32 (4*IntKind.wrap .u32 Imm))),m,eff0) by kernel_rfl).trans ?_
   rw[Z5n c hA,Qsm c hA,(set_pc c A (nxt c)).1];kernel_rfl
 · refine(show Q5c c m ⟨49,A,B,C,Imm⟩=(setP c A (nxt c) (va c B Imm),m,eff0) by kernel_rfl).trans ?_
   rw[Z5n c hA];kernel_rfl
 · refine(show Q5c c m ⟨56,A,B,C,Imm⟩=(Q4e c 7 0,m,eff0) by kernel_rfl).trans ?_
   rw[Qj6 hc.a0.1 hst];kernel_rfl
 · refine(show Q5c c m ⟨57,A,B,C,Imm⟩=(Qck c,m,eff0) by kernel_rfl).trans ?_
   rw[Z7c hc.a0.1 hst];kernel_rfl
 · refine(show Q5c c m ⟨58,A,B,C,Imm⟩=(setP c A (List.getD (A8.l c.B5) Imm.toNat 0) (nxt c),m,eff0) by kernel_rfl).trans ?_
   rw[Z5n c hA,←Z7j];kernel_rfl
 · have e:=write_pc c (IntKind.wrap .i64 Imm) (regX c A)
   refine(show Q5c c m ⟨59,A,B,C,Imm⟩=((⟨(Qh9 c (IntKind.wrap .i64 Imm) (regX c A)).X,IntKind.wrap .u32 (c.Pc+4),(Qh9 c (IntKind.wrap .i64 Imm) (regX c A)).B5⟩:Q03),m,eff0) by kernel_rfl).trans ?_
   rw[←e];kernel_rfl
 · exact(show Q5c c m ⟨60,A,B,C,Imm⟩=((Qg c m ⟨60,A,B,C,Imm⟩).1,(Qg c m ⟨60,A,B,C,Imm⟩).2.2,(Qg c m ⟨60,A,B,C,Imm⟩).2.1) by kernel_rfl)
 · exact(show Q5c c m ⟨61,A,B,C,Imm⟩=((Qg c m ⟨61,A,B,C,Imm⟩).1,(Qg c m ⟨61,A,B,C,Imm⟩).2.2,(Qg c m ⟨61,A,B,C,Imm⟩).2.1) by kernel_rfl)
 · exact(show Q5c c m ⟨62,A,B,C,Imm⟩=((Qg c m ⟨62,A,B,C,Imm⟩).1,(Qg c m ⟨62,A,B,C,Imm⟩).2.2,(Qg c m ⟨62,A,B,C,Imm⟩).2.1) by kernel_rfl)
 · exact(show Q5c c m ⟨63,A,B,C,Imm⟩=((Qg c m ⟨63,A,B,C,Imm⟩).1,(Qg c m ⟨63,A,B,C,Imm⟩).2.2,(Qg c m ⟨63,A,B,C,Imm⟩).2.1) by kernel_rfl)
 · exact(show Q5c c m ⟨64,A,B,C,Imm⟩=((Qg c m ⟨64,A,B,C,Imm⟩).1,(Qg c m ⟨64,A,B,C,Imm⟩).2.2,(Qg c m ⟨64,A,B,C,Imm⟩).2.1) by kernel_rfl)
end
theorem form_op{op:Int}(h0:0≤op)(h1:op<256)(h:Q29 op≠0):isOp op:=by
 have e:=of_decide_eq_true (Qo7 (λop=>decide (Q29 op=0∨isOpB op=true)) 256 (by kernel_rfl) h0 h1)
 rcases e with e|e
 · exact absurd e h
 · simpa only[isOpB,isOp,Bool.or_eq_true,decide_eq_true_eq,or_assoc] using e
end Go.Proofs.YtpcbkbalabgnlaaGreat
namespace Go.Proofs.YtpcbkbalabgnlaaGreat
open Go Go.GD
set_option maxRecDepth 100000
theorem isOp_le{op:Int}(o:isOp op):1≤op∧op≤64:=by
 unfold isOp at o
 rcases o with h|h|h|h|h|h|h|h|h|h|h|h|h|h|h|h|h|h|h|h|h|h|h|h|h|h|h|h|h|h|h|h|h|h|h|h|h|h|h|h|h|h|h|h<;>(rw[h];decide)
theorem decode_op{w:Int}(hw:U w):(Q1w w).2=true→isOp (Q1w w).1.Op:=by
  have s24:ishr .u32 w 24=w/16777216:=by have:=Qlo (a:=w) 24 (by decide);simpa using this
  obtain⟨w0,w1⟩:=hw
  have eo:IntKind.wrap .i64 (w/16777216)=w/16777216:=w64 (by omega) (by omega)
  have q:(λr:Q0g×Bool=>r.2=true→isOp r.1.Op) (Q1w w):=by
    simp only[Q1w,Q7j,Tree.m,letv,s24,eo]
    cases hf:Q29 (w/16777216)==0
    · have g:isOp (w/16777216):=form_op (by omega) (by omega) (by simpa using hf)
      repeat'(first
        |exact λ_=>g
        |exact λe=>Bool.noConfusion (show false=true from e)
        |refine Qvz (Q:=λr:Q0g×Bool=>r.2=true→isOp r.1.Op) ?_ ?_)
    · exact λe=>Bool.noConfusion (show false=true from e)
  exact q
section
variable (c:Q03) (m:List Int)
def doR(x:Int×Int×List Int)(w:Int)(d:Q0g×Bool):Q03×Q13×List Int:=
 bif x.2.1 !=0 then(Q34 c x.2.1 c.Pc,eff0,x.2.2) else bif !d.2 then(Q34 c 1 w,eff0,x.2.2) else bif Q46 d.1.Op then(bif iand .u32 c.B5.a0 1==0 then(Q34 c 2 w,eff0,x.2.2) else Qg c x.2.2 d.1) else Qg c x.2.2 d.1
def doP(y:Int×List Int×Int)(d:Q0g×Bool):Q03×List Int×Q13:=
 bif y.2.2 !=0 then(Q4e c y.2.2 c.Pc,y.2.1,eff0) else bif !d.2 then(Q4e c 1 y.1,y.2.1,eff0) else bif Q7y d.1.Op then(bif !Q91 c then(Q4e c 2 y.1,y.2.1,eff0) else Q5c c y.2.1 d.1) else Q5c c y.2.1 d.1
theorem do_eq:Qcd c m=doR c (Q0w c m c.Pc 4 1) (Q15 (Q0w c m c.Pc 4 1).2.2 (Q0w c m c.Pc 4 1).1 4).1 (Q1w (Q15 (Q0w c m c.Pc 4 1).2.2 (Q0w c m c.Pc 4 1).1 4).1):=by kernel_rfl
theorem exec_eq:Q7g c m=doP c (Qk0 c m) (Qel (Qk0 c m).1):=by kernel_rfl
theorem fetch_eq:Qk0 c m=bif(Q1y c m c.Pc 4 1).2.2 !=0 then(0,(Q1y c m c.Pc 4 1).2.1,(Q1y c m c.Pc 4 1).2.2) else((Q4l (Q1y c m c.Pc 4 1).2.1 (Q1y c m c.Pc 4 1).1 4).1,(Q1y c m c.Pc 4 1).2.1,0):=by kernel_rfl
end
theorem Z3k{P:Nat}{m:List Int}(h:Q0u P m){c:Q03}(hc:Q2q c)(hst:c.B5.a0≤31):Q7g c m=((Qcd c m).1,(Qcd c m).2.2,(Qcd c m).2.1):=by
  obtain⟨k,u,b⟩:=Z7i h hc hc.pc (.inr rfl) 1
  have tr: ∀k b,Q4e c k b=Q34 c k b:=Qj6 hc.a0.1 hst
  rw[exec_eq,do_eq,fetch_eq,Qjl h hc hst hc.pc (.inr rfl) (.inl rfl)]
  generalize Q0w c m c.Pc 4 1=x at*
  cases hx:x.2.1 !=0
  · rw [Qk5 k u (.inr rfl)]
    have hw:U (Q15 x.2.2 x.1 4).1:=(Tree.pp (Z8y k u (.inr rfl))).2
    generalize(Q15 x.2.2 x.1 4).1=w at*
    show doP c (w,x.2.2,0) (Qel w)=_
    rw[decode_eq hw]
    have o:=decode_op hw
    have i:=Tree.post _ (Z9z w)
    change(Q1w w).2=true→Qda (Q1w w).1 at i
    generalize Q1w w=d at*
    obtain⟨⟨op,A,B,C,Imm⟩,ok⟩:=d
    cases ok
    · simp only[doP,doR,hx,tr];rfl
    · have o:isOp op:=o rfl
      have i:=i rfl
      have p:=post_same (C:=C) (B:=B) (Imm:=Imm) k hc hst i.a o
      have pv:Q7y op=Q46 op:=priv_eq (by have:=isOp_le o;omega) (by have:=isOp_le o;omega)
      have kn:(!Q91 c)=(iand .u32 c.B5.a0 1==0):=by
        show(!(!(iand .u32 c.B5.a0 1==0)))=_
        exact Bool.not_not _
      simp only[doP,doR,hx,tr,pv,kn,p]
      cases Q46 op
      · rfl
      · cases iand .u32 c.B5.a0 1==0<;>rfl
  · simp only[doP,doR,hx,cond_true,tr]
end Go.Proofs.YtpcbkbalabgnlaaGreat
namespace Go.Proofs.YtpcbkbalabgnlaaGreat
open Go Go.GD
set_option maxRecDepth 100000
theorem ge_not{a b:Int}:decide (a≥b)=!decide (a<b):=by
 by_cases h:a<b
 · rw[decide_eq_true h,decide_eq_false (by omega)];rfl
 · rw[decide_eq_false h,decide_eq_true (by omega)];rfl
def bits(g:Int)(l:List Nat)(s:Int):Int:=l.foldl (λ(a:Int) (i:Nat)=>IntKind.wrap .i64 (a+IntKind.wrap .i64 (iand .u32 (ishr .u32 g (i:Int)) 1))) s
theorem given_eq(b:Q07):Qef b=bits b.C2 [0,1,2,3,4,5,6,7,8,9,10,11,12,13,14,15,16,17,18,19,20,21,22,23,24,25,26,27,28,29,30,31] 0:=by kernel_rfl
theorem bit_eq{g:Int}(hg:U g){i:Nat}(hi:i≤32):IntKind.wrap .i64 (iand .u32 (ishr .u32 g (i:Int)) 1)=g/2^i%2:=by
 rw[and1 (Qq hg _),Qlo i hi]
 have:0≤g/2^i%2∧g/2^i%2<2:=by omega
 exact w64 (by omega) (by omega)
theorem bits_sum{g:Int}(hg:U g)(l:List Nat): ∀s:Int,(∀i∈l,i≤32)→0≤s→s+l.length≤1000→bits g l s=s+(l.map λi=>g/2^i%2).sum:=by
 induction l with
 |nil=>intro s _ _ _;simp [bits]
 | cons i l ih=>
   intro s hl h0 h1
   have h1:s+(l.length+1)≤1000:=by simpa using h1
   have hb:0≤g/2^i%2∧g/2^i%2<2:=by omega
   have e:bits g (i::l) s=bits g l (s+g/2^i%2):=by
     show bits g l (IntKind.wrap .i64 (s+IntKind.wrap .i64 (iand .u32 (ishr .u32 g (i:Int)) 1)))=_
     rw[bit_eq hg (hl i (by simp)),w64 (by omega) (by omega)]
   rw[e,ih _ (λj hj=>hl j (by simp [hj])) (by omega) (by omega)]
   simp;omega
theorem Zb4(n:Q0k)(port:Int):Qv6 n port=Qkm n port:=by
 simp only[Qv6,Qo8,Qkm,Qgc,Tree.m]
 cases n.C4<;>cases n.B7<;>rfl
theorem Qx2(t:Q0h):Q5o t=Q7n t:=by
 simp only[Q5o,Qhy,Q7n,Qjs,Tree.m]
 cases t.D6<;>cases t.D5<;>rfl
theorem Z2t(n:Q0k)(p:Int):Q6y n p=Qhn n p:=by
 simp only[Q6y,Qgv,Qhn,Qnv,Tree.m]
 cases n.C4<;>cases n.B7<;>rfl
theorem Z13(d:Q0b)(p:Int):Q1e d p=Qg1 d p:=by
  simp only[Q1e,Q5x,Q8l,Q7,Qg1,Qln,Tree.m,letv,ge_not]
  cases decide (d.Blocks>64)
  · by_cases s:d.B9=0∨d.B9=1∨d.B9=2∨d.B9=3
    · rcases s with s|s|s|s<;>rw[s]
      · rfl
      · by_cases c1:d.D7=1
        · rw[c1];cases decide (d.B6<d.Blocks)<;>cases decide (IntKind.wrap .i64 d.B0<p)<;>cases decide (d.C3=[])<;>rfl
        · by_cases c2:d.D7=2
          · rw[c2];cases decide (d.B6<d.Blocks)<;>cases decide (IntKind.wrap .i64 d.B0<p)<;>cases(d.C3.length:Int)==128<;>rfl
          · rw[show(d.D7==1)=false by simpa using c1,show(d.D7==2)=false by simpa using c2]
            cases decide (d.B6<d.Blocks)<;>cases decide (IntKind.wrap .i64 d.B0<p)<;>rfl
      · rfl
      · rfl
    · rw[show(d.B9==0)=false by simp;omega,show(d.B9==1)=false by simp;omega,show(d.B9==2)=false by simp;omega,show(d.B9==3)=false by simp;omega]
      by_cases n:d.B9<0
      · rw[decide_eq_true n];rfl
      · rw[decide_eq_false n,decide_eq_true (show d.B9>3 by omega)];rfl
  · rfl
theorem con_same(c:Q0c):Q8o c=Q78 c:=by
 show(!decide (c.D2=[]))=decide ((c.D2.length:Int)>0)
 cases c.D2 with
 |nil=>rfl
 |cons a l=>rw[decide_eq_false (by simp),decide_eq_true (by simp)];rfl
theorem len_nil(k:List UInt8):decide (k=[])=((k.length:Int)==0):=by
 cases k with
 |nil=>rfl
 | cons a l=>
   rw[decide_eq_false (by simp)]
   exact(beq_eq_false_iff_ne.2 (by simp;omega)).symm
theorem Zbv(c:Q0c)(port:Int):Qka c port=Q7z c port:=by
 simp only[Qka,Q8c,Q7z,Q7p,Tree.m,len_nil]
 cases port==0
 · rfl
 · cases(c.D2.length:Int)==0<;>rfl
theorem arm_same(t:Q0h)(v:Int):Qhf t v=Z1l v:=by
 simp only[Qhf,Qi2,Z1l,Qxg,Tree.m]
 cases h:v==0
 · rw[show(v !=0)=true by simp only[bne,h];rfl];rfl
 · rw[show(v !=0)=false by simp only[bne,h];rfl,eq_of_beq h];rfl
section
variable {P:Nat} {m:List Int} (h:Q0u P m)
include h
theorem Qz0(f:Int):Q8t m f=Q25 m f:=by
 have a:=Q3p h
 have b:=Qco h
 simp only[Q8t,Qbk,Q25,Qie,Tree.m,letv,a,b]
theorem Qyc(f:Int):Q94 m f=Q25 m f:=by
 have a:=Q3p h
 have b:=Qco h
 simp only[Q94,Qcx,Q25,Qie,Tree.m,letv,a,b]
theorem Z5o(d:Q0b)(port:Int)(v:Int)(at0:Int):Qst d m port v at0=Qk4 d m port v at0:=by
  have pg:=Qz0 h
  have pa:=Z3v h
  have rq: ∀d a,Qg2 d a=Qju d a:=λ_ _=>rfl
  simp only[Qst,Q8x,Qq9,Q64,Qk4,Qa7,Tree.m,letv,pg,pa,rq]
  cases port==4
  · cases port==5
    · cases h6:port==6
      · rw[show(port !=6)=true by simp only[bne,h6];rfl];rfl
      · rw [show(port !=6)=false by simp only[bne,h6];rfl]
        by_cases v1:v=1
        · subst v1
          cases hs:d.B9==0
          · rw[show(d.B9 !=0)=true by simp only[bne,hs];rfl];rfl
          · rw[show(d.B9 !=0)=false by simp only[bne,hs];rfl];rfl
        · by_cases v2:v=2
          · subst v2
            cases hs:d.B9==0
            · rw[show(d.B9 !=0)=true by simp only[bne,hs];rfl];rfl
            · rw[show(d.B9 !=0)=false by simp only[bne,hs];rfl];rfl
          · rw[show(v==1)=false by simpa using v1,show(v==2)=false by simpa using v2]
            cases v==0
            · rfl
            · have:Q8r d=(bif d.B9==2 then true else d.B9==3):=rfl
              rw[this]
              cases d.B9==2<;>cases d.B9==3<;>rfl
    · rfl
  · rfl
theorem Z7f(n:Q0k)(port:Int)(v:Int)(at0:Int):Z01 n m port v at0=Qm5 n m port v at0:=by
  have pg:=Qyc h
  have pa:=Z3v h
  simp only[Z01,Qbl,Z04,Q9b,Qm5,Qb8,Tree.m,letv,pg,pa]
  have g1:decide (n.F0≥1)=!decide (n.F0<1):=ge_not
  have g2:decide (n.F0≤128)=!decide (n.F0>128):=by
    by_cases h:n.F0>128
    · rw[decide_eq_true h,decide_eq_false (by omega)];rfl
    · rw[decide_eq_false h,decide_eq_true (by omega)];rfl
  rw[g1,g2]
  cases port==7
  · cases port==8
    · cases h9:port==9
      · rw[show(port !=9)=true by simp only[bne,h9];rfl];rfl
      · rw [show(port !=9)=false by simp only[bne,h9];rfl]
        by_cases v1:v=1
        · subst v1
          cases decide (n.F0<1)<;>cases decide (n.F0>128)<;>cases Q25 m n.B3<;>rfl
        · by_cases v2:v=2
          · subst v2;rfl
          · rw[show(v==1)=false by simpa using v1,show(v==2)=false by simpa using v2]
            cases v==0<;>rfl
    · rfl
  · rfl
theorem Z0b{d:Q0b}(hd:Q85 d)(e:Q08):Qe3 d m e=((Qaf d m e).1,(Qaf d m e).2.2,(Qaf d m e).2.1):=by
  have hcl:Q02 m=m:=rfl
  have pg:=Qz0 h d.B0
  have lp:decide ((e.C5.length:Int)>0)=!decide (e.C5=[]):=by
    cases e.C5 with
    |nil=>rfl
    |cons a l=>rw[decide_eq_true (by simp),decide_eq_false (by simp)];rfl
  have bad:(e.C5.length:Int)≠128→Q25 m d.B0=true→Q2r m (IntKind.wrap .i64 d.B0) e.C5=(m,false):=λhl hp=>by
    rw[Qhp h hd.opFrame]at hp
    have hp:=of_decide_eq_true hp
    have h1:=hd.opFrame.1
    have h3:=h.p2
    have ew:IntKind.i64.wrap d.B0=d.B0:=w64 (by omega) (by omega)
    simp only[Q2r,Q2,Tree.m,letv,hcl,ew,Qzx h,decide_eq_true (⟨h1,hp⟩:0≤d.B0∧d.B0<P),show((e.C5.length:Int) !=128)=true by simpa using hl]
    rfl
  have good:(e.C5.length:Int)=128→Q25 m d.B0=true→Q2r m (IntKind.wrap .i64 d.B0) e.C5=(Qjc m (IntKind.wrap .i64 d.B0) e.C5,true):=λhl hp=>by
    rw[Qhp h hd.opFrame]at hp
    have hp:=of_decide_eq_true hp
    have h1:=hd.opFrame.1
    have h3:=h.p2
    have ew:IntKind.i64.wrap d.B0=d.B0:=w64 (by omega) (by omega)
    rw[ew];exact Z25 h h1 hp (by omega)
  simp only[Qe3,Q44,Qaf,Q7a,Tree.m,letv,hcl,pg,lp]
  cases d.B9 !=1
  · cases e.B8 !=4
    · cases decide (e.N>1)
      · cases e.N==1
        · cases decide (e.C5=[])<;>rfl
        · cases hc:d.D7==1
          · cases decide (e.C5=[])<;>rfl
          · by_cases hl:(e.C5.length:Int)=128
            · rw[show((e.C5.length:Int) !=128)=false by simpa using hl]
              cases hp:Q25 m d.B0
              · rfl
              · rw[good hl hp];rfl
            · rw[show((e.C5.length:Int) !=128)=true by simpa using hl]
              cases hp:Q25 m d.B0
              · rfl
              · rw[bad hl hp];rfl
      · rfl
    · rfl
  · rfl
theorem Z55{n:Q0k}(hn:Qg0 n)(frame:List UInt8):Qhu n m frame=((Qag n m frame).1,(Qag n m frame).2.2,(Qag n m frame).2.1):=by
  have hcl:Q02 m=m:=rfl
  have pg:=Qyc h n.C0
  simp only[Qhu,Q6g,Qag,Q79,Tree.m,letv,hcl,pg]
  cases !n.C4
  · cases decide ((frame.length:Int)<1)
    · cases hf:decide ((frame.length:Int)>128)
      · cases hp:Q25 m n.C0
        · rfl
        · rw[Qhp h hn.buffer]at hp
          have hp:=of_decide_eq_true hp
          have h1:=hn.buffer.1
          have h3:=h.p2
          have ew:IntKind.i64.wrap n.C0=n.C0:=w64 (by omega) (by omega)
          have hf:=of_decide_eq_false hf
          obtain⟨b1,b2⟩:=(Tree.pp (mpage_b h h1 hp)).2
          change isPg m n.C0 (Q5d m n.C0).1 at b1
          have tk:List.take (Int.toNat ((Q5d m n.C0).1.length:Int)-Int.toNat (frame.length:Int)) (List.drop (Int.toNat (frame.length:Int)) (Q5d m n.C0).1)=(Q5d m n.C0).1.drop frame.length:=by
            rw[Int.toNat_natCast,Int.toNat_natCast]
            exact List.take_of_length_le (by simp)
          rw[ew,tk,Z2p h h1 hp (by omega) b1]
          rfl
      · rfl
    · rfl
  · rfl
end
end Go.Proofs.YtpcbkbalabgnlaaGreat
namespace Go.Proofs.YtpcbkbalabgnlaaGreat
open Go Go.GD
set_option maxRecDepth 100000
def ptab:List UInt8:=(List.range 256).map λn=>UInt8.ofNat (n%2+n/2%2+n/4%2+n/8%2+n/16%2+n/32%2+n/64%2+n/128%2)
def pt(n:Int):Int:=((UInt8.toNat (ptab.getD n.toNat 0):Nat):Int)
theorem pop_form(x:Int):Q67 x=IntKind.wrap .i64 (IntKind.wrap .u8 (IntKind.wrap .u8 (IntKind.wrap .u8 (pt (ishr .u32 x 24)+pt (iand .u32 (ishr .u32 x 16) 255))+pt (iand .u32 (ishr .u32 x 8) 255))+pt (iand .u32 x 255))):=by kernel_rfl
theorem pt8{a:Int}(h0:0≤a)(h1:a<256):pt a=a%2+a/2%2+a/4%2+a/8%2+a/16%2+a/32%2+a/64%2+a/128%2:=
 eq_of_beq (Qo7 (λa=>pt a==a%2+a/2%2+a/4%2+a/8%2+a/16%2+a/32%2+a/64%2+a/128%2) 256 (by kernel_rfl) h0 h1)
theorem given_sum{g:Int}(hg:U g):bits g [0,1,2,3,4,5,6,7,8,9,10,11,12,13,14,15,16,17,18,19,20,21,22,23,24,25,26,27,28,29,30,31] 0=pt (g%256)+pt (g/256%256)+pt (g/65536%256)+pt (g/16777216):=by
 rw[bits_sum hg _ 0 (by decide) (by decide) (by decide),pt8 (by omega) (by omega),pt8 (by omega) (by omega),pt8 (by omega) (by omega),pt8 (by have:=hg.1;omega) (by have:=hg.2;omega)]
 obtain⟨g0,g1⟩:=hg
 simp only[List.map_cons,List.map_nil,List.sum_cons,List.sum_nil]
 have e: ∀i j:Nat,∀k:Int,i<8→k=2^j→g/2^(i+j)%2=(g/k%256)/2^i%2:=λi j k hi hk=>by
   subst hk
   rw[Nat.add_comm,Int.pow_add,←Int.ediv_ediv_of_nonneg (Int.le_of_lt (Int.pow_pos (by decide)))]
   generalize g/2^j=x
   have:i=0∨i=1∨i=2∨i=3∨i=4∨i=5∨i=6∨i=7:=by omega
   rcases this with rfl|rfl|rfl|rfl|rfl|rfl|rfl|rfl<;>simp<;>omega
 have e0: ∀i:Nat,i<8→g/2^i%2=(g%256)/2^i%2:=λi hi=>by have:=e i 0 1 hi rfl;simpa using this
 have e24:g/16777216%256=g/16777216:=by omega
 rw[e0 0 (by decide),e0 1 (by decide),e0 2 (by decide),e0 3 (by decide),e0 4 (by decide),e0 5 (by decide),e0 6 (by decide),e0 7 (by decide)]
 rw[e 0 8 256 (by decide) (by decide),e 1 8 256 (by decide) (by decide),e 2 8 256 (by decide) (by decide),e 3 8 256 (by decide) (by decide),e 4 8 256 (by decide) (by decide),e 5 8 256 (by decide) (by decide),e 6 8 256 (by decide) (by decide),e 7 8 256 (by decide) (by decide)]
 rw[e 0 16 65536 (by decide) (by decide),e 1 16 65536 (by decide) (by decide),e 2 16 65536 (by decide) (by decide),e 3 16 65536 (by decide) (by decide),e 4 16 65536 (by decide) (by decide),e 5 16 65536 (by decide) (by decide),e 6 16 65536 (by decide) (by decide),e 7 16 65536 (by decide) (by decide)]
 rw[e 0 24 16777216 (by decide) (by decide),e 1 24 16777216 (by decide) (by decide),e 2 24 16777216 (by decide) (by decide),e 3 24 16777216 (by decide) (by decide),e 4 24 16777216 (by decide) (by decide),e 5 24 16777216 (by decide) (by decide),e 6 24 16777216 (by decide) (by decide),e 7 24 16777216 (by decide) (by decide),e24]
 generalize g%256=a
 generalize g/256%256=b
 generalize g/65536%256=c
 generalize g/16777216=d
 simp only[show(2:Int)^0=1 from rfl,show(2:Int)^1=2 from rfl,show(2:Int)^2=4 from rfl,show(2:Int)^3=8 from rfl,show(2:Int)^4=16 from rfl,show(2:Int)^5=32 from rfl,show(2:Int)^6=64 from rfl,show(2:Int)^7=128 from rfl,Int.ediv_one]
 omega
theorem pt_le{a:Int}(h0:0≤a)(h1:a<256):0≤pt a∧pt a≤8:=by rw[pt8 h0 h1];omega
theorem Qy4{b:Q07}(hg:U b.C2):Qb7 b=Qef b∧0≤Qef b∧Qef b≤32:=by
 obtain⟨s8,s16,s24⟩:=shr_c b.C2
 have u8:U (ishr .u32 b.C2 8):=Qq hg _
 have u16:U (ishr .u32 b.C2 16):=Qq hg _
 have e:Qb7 b=Q67 b.C2:=rfl
 rw[e,pop_form,given_eq,given_sum hg,m255 u8,m255 u16,m255 hg,s8,s16,s24]
 obtain⟨g0,g1⟩:=hg
 have p0:=pt_le (a:=b.C2%256) (by omega) (by omega)
 have p1:=pt_le (a:=b.C2/256%256) (by omega) (by omega)
 have p2:=pt_le (a:=b.C2/65536%256) (by omega) (by omega)
 have p3:=pt_le (a:=b.C2/16777216) (by omega) (by omega)
 have w8: ∀x,IntKind.wrap .u8 x=x%256:=λx=>IntKind.wrap_u8 x
 rw[w8,w8,w8,IntKind.wrap_i64]
 omega
theorem Z48{b:Q07}(h:okB b):Q72 b=Q5g b:=by
 obtain⟨e,l0,l1⟩:=Qy4 h.2
 obtain⟨t0,t1⟩:=h.1
 simp only[Q72,Q2g,Q5g,Qd2,Tree.m,letv,e]
 rw[IntKind.wrap_u32,IntKind.wrap_u64,IntKind.wrap_u64,Int.emod_eq_of_lt l0 (by omega),Int.emod_eq_of_lt l0 (by omega),Int.emod_eq_of_lt t0 (by omega)]
theorem Zby{b:Q07}(h:okB b)(port:Int):Qkl b port=Q7w b port:=by
 simp only[Qkl,Q62,Q7w,Q7r,Tree.m,letv,(Qy4 h.2).1]
theorem bit_pow(g:Int)(z:Nat):g%2^(z+1)=g%2^z+2^z*(g/2^z%2):=by
 have hp:(0:Int)<2^z:=Int.pow_pos (by decide)
 have h1:=Int.mul_ediv_add_emod g (2^z)
 have h2:=Int.mul_ediv_add_emod (g/2^z) 2
 have h3:(g/2^z)/2=g/2^(z+1):=by rw[Int.pow_succ,Int.ediv_ediv_of_nonneg (Int.le_of_lt hp)]
 have h4:=Int.mul_ediv_add_emod g (2^(z+1))
 rw[h3]at h2
 have h5:(2:Int)^(z+1)*(g/2^(z+1))=2^z*(2*(g/2^(z+1))):=by rw[Int.pow_succ,Int.mul_assoc]
 have h6:(2:Int)^z*(g/2^z)=2^z*(2*(g/2^(z+1)))+2^z*(g/2^z%2):=by rw[←Int.mul_add,h2]
 omega
theorem rbal_w{b:Q07}(hg:U b.C2){P:Nat}(hP:P≤32):(Qc5 b P).w (λr=>r=decide (b.C2<2^P)):=by
 unfold Qc5
 have fin: ∀v:Int,0≤v→v≤32→IntKind.wrap .u64 v=(v.toNat:Int):=λv h0 h1=>by rw[IntKind.wrap_u64];omega
 refine w_lp (inv:=λz:Int=>0≤z∧z≤32∧b.C2%2^z.toNat<2^P) (μ:=Qd5 b P) ⟨by decide,by decide,by have:(0:Int)<2^P:=Int.pow_pos (by decide);simpa using this⟩ (Nat.lt_succ_self _) λz ⟨z0,z1,z2⟩=> ?_
 refine w_br (λhb=> ?_) (λhb=> ?_)
 · have hb:=of_decide_eq_true hb
   have ew:IntKind.i64.wrap (z+1)=z+1:=w64 (by omega) (by omega)
   have bt:iand .u32 (ishr .u32 b.C2 (IntKind.wrap .u64 z)) 1=b.C2/2^z.toNat%2:=by
     rw[fin z z0 z1,and1 (Qq hg _),Qlo _ (by omega)]
   have bp:=bit_pow b.C2 z.toNat
   have zt:(z+1).toNat=z.toNat+1:=by omega
   refine w_cn (decide_eq_true (by rw[IntKind.wrap_u64];omega)) ?_
   rw[bt]
   refine w_br (λe=>w_br (λhp=> ?_) (λhp=>w_nx ?_)) (λe=>w_nx ?_)
   · have e:=eq_of_beq e
     have hp:=of_decide_eq_true hp
     show false=_
     refine(decide_eq_false λhlt=> ?_).symm
     have hle:(2:Int)^P≤2^z.toNat:=by exact_mod_cast Nat.pow_le_pow_right (show 0<2 by decide) (show P≤z.toNat by omega)
     have:b.C2/2^z.toNat=0:=Int.ediv_eq_zero_of_lt hg.1 (by omega)
     rw[this]at e;cases e
   · have e:=eq_of_beq e
     have hp:=of_decide_eq_false hp
     show(0≤IntKind.i64.wrap (z+1)∧IntKind.i64.wrap (z+1)≤32∧b.C2%2^(IntKind.i64.wrap (z+1)).toNat<2^P)∧(32-IntKind.i64.wrap (z+1)).toNat<(32-z).toNat
     rw[ew,zt]
     have hle:(2:Int)^(z.toNat+1)≤2^P:=by exact_mod_cast Nat.pow_le_pow_right (show 0<2 by decide) (show z.toNat+1≤P by omega)
     have:=Int.emod_lt_of_pos b.C2 (show(0:Int)<2^(z.toNat+1) from Int.pow_pos (by decide))
     exact⟨⟨by omega,by omega,by omega⟩,by omega⟩
   · have e: ¬b.C2/2^z.toNat%2=1:=by simpa using e
     have e:b.C2/2^z.toNat%2=0:=by omega
     rw[e]at bp
     show(0≤IntKind.i64.wrap (z+1)∧IntKind.i64.wrap (z+1)≤32∧b.C2%2^(IntKind.i64.wrap (z+1)).toNat<2^P)∧(32-IntKind.i64.wrap (z+1)).toNat<(32-z).toNat
     rw[ew,zt,bp]
     exact⟨⟨by omega,by omega,by omega⟩,by omega⟩
 · have hb:=of_decide_eq_false hb
   have:z=32:=by omega
   subst this
   show true=_
   refine(decide_eq_true ?_).symm
   have h2:b.C2%2^(32:Int).toNat=b.C2:=Int.emod_eq_of_lt hg.1 hg.2
   rwa [h2]at z2
theorem Z7d{b:Q07}(hg:U b.C2){P:Nat}(hP:P≤32):Q3g b P=Qbb b P:=by
 have r:=(Tree.pp (rbal_w hg hP)).2
 change Qbb b P=_ at r
 rw[r,Bool.eq_iff_iff,Qto hg,decide_eq_true_eq]
end Go.Proofs.YtpcbkbalabgnlaaGreat
namespace Go.Proofs.YtpcbkbalabgnlaaGreat
open Go Go.GD
set_option maxRecDepth 100000
theorem zeros:strings_Repeat [(0:UInt8)] 128=List.replicate 128 0:=by kernel_rfl
theorem give_b{P:Nat}{m:List Int}(hm:Q0u P m){b:Q07}{port:Int}{v:Int}(hv:U v)(hp:v<P)(h10:port=10)(hb:(iand .u32 (ishr .u32 b.C2 v) 1==0)=true):(Q5b b m port v).w (λr=>r.1={C8:=b.C8,C2:=ior .u32 b.C2 (ishl .u32 1 v)}∧Q0u P r.2∧ ∀k:Nat,byt r.2 k=if v*128≤k∧(k:Int)<v*128+128 then 0 else byt m k):=by
 have hv0:decide (0≤v)=true:=decide_eq_true hv.1
 have h2:=hm.p2
 have pg:Q25 m v=true:=by rw[Qhp hm hv];exact decide_eq_true hp
 obtain⟨v1,v2⟩:=hv
 subst h10
 unfold Q5b
 refine w_br (λ_=>w_lv λx0 hx=>w_br (λ_=>w_cn hv0 (w_br (λ_=>w_cn hv0 ?_) (λh=>by rw[hb]at h;cases h))) (λh=>by rw[hx,pg]at h;cases h)) (λh=>by cases h)
 refine w_lp (inv:=λz=>0≤z.1∧z.1≤32∧Q0u P z.2∧ ∀k:Nat,byt z.2 k=if v*128≤k∧(k:Int)<v*128+4*z.1 then 0 else byt m k) (μ:=Qeu b m 10 v) ⟨show(0:Int)≤0 by decide,show(0:Int)≤32 by decide,hm,λk=>by rw[if_neg];show¬(_∧_<_+4*(0:Int));omega⟩ (Nat.lt_succ_self _) (λz hz=> ?_)
 obtain⟨z1,z2,z3,z4⟩:=hz
 have hl:=z3.len
 refine w_br (λh=> ?_) (λh=>⟨rfl,z3,λk=> ?_⟩)
 · have h:=of_decide_eq_true h
   have e:IntKind.wrap IntKind.i64 (IntKind.wrap IntKind.i64 (IntKind.wrap IntKind.i64 v*32)+z.1)=v*32+z.1:=by rw[IntKind.wrap_i64,IntKind.wrap_i64,IntKind.wrap_i64];omega
   refine w_cn (by rw[e];simp [Nat.blt];omega) (w_nx ?_)
   have ew:IntKind.i64.wrap (z.1+1)=z.1+1:=by rw[IntKind.wrap_i64];omega
   show(0≤IntKind.i64.wrap (z.1+1)∧IntKind.i64.wrap (z.1+1)≤32∧Q0u P (List.set _ _ _)∧ ∀k:Nat,byt (List.set z.2 (Int.toNat (IntKind.wrap IntKind.i64 (IntKind.wrap IntKind.i64 (IntKind.wrap IntKind.i64 v*32)+z.1))) 0) k=if v*128≤(k:Int)∧(k:Int)<v*128+4*IntKind.i64.wrap (z.1+1) then 0 else _)∧(32-IntKind.i64.wrap (z.1+1)).toNat<(32-z.1).toNat
   rw[ew,e]
   refine⟨⟨by omega,by omega,⟨by simp [hl],z3.p1,z3.p2,Qw1 z3.u U_0 _⟩,λk=> ?_⟩,by omega⟩
   rw[Z7r (by omega)]
   by_cases hc:k/4=(v*32+z.1).toNat
   · rw[if_pos hc,if_pos (by omega)]
     have:k%4=0∨k%4=1∨k%4=2∨k%4=3:=by omega
     rcases this with h|h|h|h<;>rw[h]<;>rfl
   · rw[if_neg hc,z4 k]
     by_cases hd:v*128≤(k:Int)∧(k:Int)<v*128+4*z.1
     · rw[if_pos hd,if_pos (by omega)]
     · rw[if_neg hd,if_neg (by omega)]
 · have h:=of_decide_eq_false h
   show byt z.2 k=_
   rw[z4 k,show z.1=32 by omega];rfl
theorem bitv{g v:Int}(hg:U g)(v0:0≤v)(v1:v<32):(iand .u32 g (ishl .u32 1 v)==0)=(iand .u32 (ishr .u32 g v) 1==0):=by
 obtain⟨z,rfl⟩: ∃z:Nat,v=z:=⟨v.toNat,by omega⟩
 obtain⟨n,rfl⟩: ∃n:Nat,g=n:=⟨g.toNat,by have:=hg.1;omega⟩
 have hz:z<32:=by omega
 have hlt:(2:Nat)^z<4294967296:=by have:=Nat.pow_lt_pow_right (show 1<2 by omega) hz;simpa using this
 rw[and1 (Qq hg _),Qlo z (by omega),shl_one v0 v1,Int.toNat_natCast]
 have hc:((2:Int)^z)=((2^z:Nat):Int):=by simp
 generalize hq:2^z=q at*
 rw[hc,Z6d hg ⟨by omega,by omega⟩,Int.toNat_natCast,Int.toNat_natCast,←hq]
 have e1:(n&&&2^z)=0↔n/2^z%2=0:=by
   have t:n.testBit z=decide (n/2^z%2=1):=Nat.testBit_eq_decide_div_mod_eq
   constructor
   · intro h
     have h2:(n&&&2^z).testBit z=false:=by rw[h];exact Nat.zero_testBit z
     rw[Nat.testBit_and,Nat.testBit_two_pow_self,Bool.and_true,t]at h2
     have:=of_decide_eq_false h2
     omega
   · intro h
     have t0:n.testBit z=false:=by rw[t];exact decide_eq_false (by omega)
     apply Nat.eq_of_testBit_eq
     intro i
     rw[Nat.testBit_and,Nat.testBit_two_pow,Nat.zero_testBit]
     by_cases hi:z=i
     · subst hi;rw[t0];rfl
     · rw[decide_eq_false hi,Bool.and_false]
 rw[Bool.eq_iff_iff,beq_iff_eq,beq_iff_eq]
 constructor
 · intro h;have:=e1.1 (by omega);omega
 · intro h;have:=e1.2 (by omega);omega
theorem Z6n{P:Nat}{m:List Int}(h:Q0u P m){b:Q07}(hb:okB b)(port:Int){v:Int}(hv:U v):Q7d b m port v=Q7v b m port v:=by
  have hcl:Q02 m=m:=rfl
  have hp:=Q3p h
  have h2:=h.p2
  have ew:IntKind.i64.wrap v=v:=w64 (by have:=hv.1;omega) (by have:=hv.2;omega)
  have pe:=Qhp h hv
  by_cases h32:v<32
  · have bv :=bitv hb.2 hv.1 h32
    by_cases h10:port=10
    · by_cases hP:v<P
      · cases hz:iand .u32 (ishr .u32 b.C2 v) 1==0
        · simp only[Q7d,Q2e,Q7v,Q5b,Tree.m,letv,hcl,hp,ew,pe,bv,hz,h10,decide_eq_true hP,decide_eq_false (show¬v≥32 by omega)]
          rfl
        · obtain⟨g1,g2,g3⟩:=(Tree.pp (give_b h hv hP h10 hz)).2
          change(Q7v b m port v).1=_ at g1
          change Q0u P (Q7v b m port v).2 at g2
          change∀k:Nat,byt (Q7v b m port v).2 k=_ at g3
          obtain⟨s1,s2,s3⟩:=(Tree.pp (Qu9 h hv.1 hP (s:=List.replicate 128 0) (by simp))).2
          have em:(Q2r m v (List.replicate 128 0)).1=(Q7v b m port v).2:=by
            refine Z7h (s2.len.trans g2.len.symm) s2.u g2.u λk=> ?_
            rw[g3 k]
            refine(s3 k).trans ?_
            by_cases hk:v*128≤(k:Int)∧(k:Int)<v*128+128
            · rw[if_pos hk,if_pos hk]
              have:(List.replicate 128 (0:UInt8)).getD ((k:Int)-v*128).toNat 0=0:=by
                rw[List.getD_eq_getElem?_getD,List.getElem?_replicate]
                split<;>rfl
              rw[this];rfl
            · rw[if_neg hk,if_neg hk]
          have el:Q7d b m port v=({C8:=b.C8,C2:=ior .u32 b.C2 (ishl .u32 1 v)},(Q2r m v (List.replicate 128 0)).1):=by
            simp only[Q7d,Q2e,Tree.m,letv,hcl,hp,ew,bv,hz,h10,decide_eq_true hP,decide_eq_false (show¬v≥32 by omega),zeros]
            rfl
          rw[el,em,←g1]
      · simp only[Q7d,Q2e,Q7v,Q5b,Tree.m,letv,hcl,hp,ew,pe,h10,decide_eq_false hP,decide_eq_false (show¬v≥32 by omega)]
        rfl
    · simp only[Q7d,Q2e,Q7v,Q5b,Tree.m,letv,hcl,decide_eq_true h32,decide_eq_false (show¬v≥32 by omega),show(port==10)=false by simpa using h10]
      cases port==11<;>rfl
  · simp only[Q7d,Q2e,Q7v,Q5b,Tree.m,letv,hcl,pe,decide_eq_false h32,decide_eq_true (show v≥32 by omega),decide_eq_false (show¬v<P by omega)]
    cases port==10<;>cases port==11<;>rfl
end Go.Proofs.YtpcbkbalabgnlaaGreat
namespace Go.Proofs.YtpcbkbalabgnlaaGreat
open Go Go.GD
set_option maxRecDepth 100000
structure okV(m:Q00):Prop where
 cpu:Q2q m.B4
 mem: ∀w∈m.Mem,U w
 disk:Q85 m.B2
 nic:Qg0 m.C6
 bal:okB m.A1
 cnt:0≤m.A4
theorem Qj2(m:List Int)(hm: ∀w∈m,U w):Q0n m=Q4d m∧(Q0n m=0∨ ∃P:Nat,1≤P∧Q0u P m):=by
 refine⟨rfl,?_⟩
 simp only[Q0n,Q9z,Tree.m]
 cases h1:Int.tmod (m.length:Int) 32 !=0
 · cases h2:decide ((m.length:Int)>1024)
   · have h1:Int.tmod (m.length:Int) 32=0:=by simpa using h1
     have h2:=of_decide_eq_false h2
     rw[Int.tmod_eq_emod_of_nonneg (by omega)]at h1
     by_cases h0:m.length=0
     · left;rw[h0];rfl
     · right;exact⟨m.length/32,by omega,⟨by omega,by omega,by omega,hm⟩⟩
   · left;rfl
 · left;rfl
theorem rcnd{a x:Bool}:(bif !a then false else x)=true↔a=true∧x=true:=by cases a<;>simp
theorem rmay_iff(m:Q00):Q7f m=true↔ ¬(Q4d m.Mem<1)∧Q6n m.B4∧Qk6 m.A2=true∧Q7n m.A9=true∧Qg1 m.B2 (Q4d m.Mem)=true∧Qhn m.C6 (Q4d m.Mem)=true∧Qbb m.A1 (Q4d m.Mem)=true∧m.A4≤1152921504606846976∧ ¬(m.A3=true∧m.A6=true):=by
 simp only[Q7f,Qz8,Tree.m,letv]
 rw[cnd2,cnd2,cnd2,cnd2,cnd2,cnd2,rcnd,rcnd,rcnd,rcnd,rcnd]
 simp only[decide_eq_false_iff_not,Int.not_lt,bne_eq_false_iff_eq,gt_iff_lt]
 have l:((bif decide (m.A4≤1152921504606846976) then(bif m.A3 then !m.A6 else true) else false)=true)↔m.A4≤1152921504606846976∧ ¬(m.A3=true∧m.A6=true):=by
   by_cases hc:m.A4≤1152921504606846976
   · rw[decide_eq_true hc]
     cases m.A3<;>cases m.A6<;>simp [hc]
   · rw[decide_eq_false hc];simp [hc]
 rw[l]
 constructor
 · rintro⟨a1,a2,a3,a4,a5,a6,a7⟩
   exact⟨by omega,⟨a2,a3,a4,a5,a6⟩,a7⟩
 · rintro⟨a1,⟨a2,a3,a4,a5,a6⟩,a7⟩
   exact⟨by omega,a2,a3,a4,a5,a6,a7⟩
theorem Qsl{m:Q00}(h:okV m):Q1c m=Q7f m:=by
 rw[Bool.eq_iff_iff,Qj9,rmay_iff,dev_eq]
 obtain⟨e,c⟩:=Qj2 m.Mem h.mem
 simp only[Bool.and_eq_true,←e]
 rcases c with c|⟨P,hP,hm⟩
 · constructor
   · rintro⟨a,_⟩;exact absurd c a
   · rintro⟨a,_⟩;omega
 · rw[Q3p hm,Qx2,Z13,Z2t,Z7d h.bal.2 hm.p2]
   constructor
   · rintro⟨a1,a2,a3,a4,a5,a6,a7,a8,a9⟩;exact⟨by omega,a2,a5,a6,a7,a8,a9,a3,a4⟩
   · rintro⟨a1,a2,a5,a6,a7,a8,a9,a3,a4⟩;exact⟨by omega,a2,a3,a4,a5,a6,a7,a8,a9⟩
def Z1t(a b c d e:Bool):Int:=ior .u32 (ior .u32 (ior .u32 (ior .u32 (Q9v a 0) (Q9v b 1)) (Q9v c 2)) (Q9v d 3)) (Q9v e 4)
theorem mlines(m:Q00):Qbc m=Z1t (Qe5 m.A9) (Q8o m.A2) (Q8r m.B2) (Qht m.C6) (Q72 m.A1):=by
 unfold Qbc Q3i
 simp only[Tree.m,letv]
 generalize Qe5 m.A9=a
 generalize Q8o m.A2=b
 generalize Q8r m.B2=c
 generalize Qht m.C6=d
 generalize Q72 m.A1=e
 cases a<;>cases b<;>cases c<;>cases d<;>cases e<;>kernel_rfl
theorem Za5(a b c d e:Bool):0≤Z1t a b c d e∧Z1t a b c d e<32:=by
 cases a<;>cases b<;>cases c<;>cases d<;>cases e<;>decide
theorem rlines(m:Q00):Qh8 m=Z1t (Qc0 m.A9) (Q78 m.A2) (Qdq m.B2) (Qft m.C6) (Q5g m.A1):=rfl
section
variable {m:Q00} (h:okV m)
include h
theorem Zbb:Qbc m=Qh8 m:=by
 rw[mlines,rlines,con_same,Z48 h.bal];rfl
theorem Qrb:Q5l m=Q3m m:=by
 have e:=Zbb h
 simp only[Q5l,Q1q,Q3m,Q9o,Tree.m,letv,e]
theorem Z5b:Q6e m=Qfv m:=by
 have e:=Qrb h
 simp only[Q6e,Q2w,Qfv,Qlx,Tree.m,letv,e]
theorem Qne:Q2n m=!Q19 m:=by
 have e1:=Qsl h
 have e2:=Z5b h
 have e3:decide (m.A4≥1152921504606846976)=!decide (m.A4<1152921504606846976):=ge_not
 simp only[Q2n,Q3a,Q19,Qdk,Tree.m,letv,e1,e2,e3]
 cases Q7f m<;>cases m.A6<;>cases Qfv m<;>cases decide (m.A4<1152921504606846976)<;>rfl
theorem Qyg:0≤Q3m m∧Q3m m<32:=by
 have e:Q3m m=iand .u32 (Qh8 m) m.B4.B5.a7:=rfl
 have l:=Za5 (Qc0 m.A9) (Q78 m.A2) (Qdq m.B2) (Qft m.C6) (Q5g m.A1)
 rw[←rlines]at l
 rw[e,Z6d ⟨l.1,by omega⟩ h.cpu.a7]
 have:=Nat.and_le_left (n:=(Qh8 m).toNat) (m:=m.B4.B5.a7.toNat)
 omega
def low(l:Int):Int:=if l%2=1 then 0 else if l/2%2=1 then 1 else if l/4%2=1 then 2 else if l/8%2=1 then 3 else 4
end
theorem cases32{l:Int}(h0:0≤l)(h1:l<32):l=0∨l=1∨l=2∨l=3∨l=4∨l=5∨l=6∨l=7∨l=8∨l=9∨l=10∨l=11∨l=12∨l=13∨l=14∨l=15∨l=16∨l=17∨l=18∨l=19∨l=20∨l=21∨l=22∨l=23∨l=24∨l=25∨l=26∨l=27∨l=28∨l=29∨l=30∨l=31:=by omega
def intr(m:Q00)(l:Int):Q03:=bif iand .u32 m.B4.B5.a0 2==0 then m.B4 else bif l==0 then m.B4 else Q34 m.B4 (IntKind.wrap .i64 (16+low l)) 0
theorem rintr{m:Q00}(h:okV m):Q0i m=intr m (Q3m m):=by
 obtain⟨l0,l1⟩:=Qyg h
 unfold Q0i Q63
 simp only[Tree.m,letv]
 revert l0 l1
 generalize Q3m m=l
 intro l0 l1
 unfold intr
 cases iand .u32 m.B4.B5.a0 2==0
 · rcases cases32 l0 l1 with rfl|rfl|rfl|rfl|rfl|rfl|rfl|rfl|rfl|rfl|rfl|rfl|rfl|rfl|rfl|rfl|rfl|rfl|rfl|rfl|rfl|rfl|rfl|rfl|rfl|rfl|rfl|rfl|rfl|rfl|rfl|rfl<;>kernel_rfl
 · rfl
def beg(m:Q00)(c:Q03):Q00:={B4:=c,Mem:=m.Mem,A2:=m.A2,A9:=m.A9,B2:=m.B2,C6:=m.C6,A1:=m.A1,A4:=m.A4,A3:=false,A6:=m.A6}
theorem Qyr{m:Q00}(h:okV m)(hst:m.B4.B5.a0≤31):Q0q m=beg m (Q0i m):=by
 obtain⟨l0,l1⟩:=Qyg h
 have tr: ∀k b,Q4e m.B4 k b=Q34 m.B4 k b:=Qj6 h.cpu.a0.1 hst
 have e:Q5l (beg m m.B4)=Q3m m:=Qrb (m:=beg m m.B4) ⟨h.cpu,h.mem,h.disk,h.nic,h.bal,h.cnt⟩
 rw[rintr h]
 unfold Q0q Q2c
 simp only[Tree.m,letv]
 rw[show Q5l {B4:=m.B4,Mem:=m.Mem,A2:=m.A2,A9:=m.A9,B2:=m.B2,C6:=m.C6,A1:=m.A1,A4:=m.A4,A3:=false,A6:=m.A6}=Q3m m from e]
 revert l0 l1
 generalize Q3m m=l
 intro l0 l1
 unfold intr
 simp only[←tr]
 cases iand .u32 m.B4.B5.a0 2==0
 · rcases cases32 l0 l1 with rfl|rfl|rfl|rfl|rfl|rfl|rfl|rfl|rfl|rfl|rfl|rfl|rfl|rfl|rfl|rfl|rfl|rfl|rfl|rfl|rfl|rfl|rfl|rfl|rfl|rfl|rfl|rfl|rfl|rfl|rfl|rfl<;>(show _=_;kernel_rfl)
 · rfl
end Go.Proofs.YtpcbkbalabgnlaaGreat
namespace Go.Proofs.YtpcbkbalabgnlaaGreat
open Go Go.GD
set_option maxRecDepth 100000
theorem ports{p:Int}:p=0∨p=1∨p=2∨p=3∨p=4∨p=5∨p=6∨p=7∨p=8∨p=9∨p=10∨p=11∨p<0∨12≤p:=by omega
theorem in_same{m:Q00}(hb:okB m.A1)(port clock:Int):Q1b m port clock=((Qgk m port clock).2,(Qgk m port clock).1):=by
 have e1:=Zbv m.A2
 have e2: ∀p,Qpt m.B2 p=Qm7 m.B2 p:=λ_=>rfl
 have e3:=Zb4 m.C6
 have e4:=Zby hb
 have e5:Qsd m.A9=Qj1 m.A9:=rfl
 simp only[Q1b,Q26,Qgk,Qnk,Tree.m,letv,e1,e2,e3,e4,e5]
 rcases ports (p:=port) with rfl|rfl|rfl|rfl|rfl|rfl|rfl|rfl|rfl|rfl|rfl|rfl|h|h
 all_goals first|rfl|skip
 · have n: ∀k:Int,0≤k→(port==k)=false:=λk hk=>beq_eq_false_iff_ne.2 (by omega)
   have c:Q7z m.A2 port=(m.A2,0):=by
     simp only[Q7z,Q7p,Tree.m,n 0 (by decide),n 1 (by decide),cond_false]
   simp only[n 0 (by decide),n 1 (by decide),n 2 (by decide),n 3 (by decide),n 4 (by decide),n 5 (by decide),n 6 (by decide),n 7 (by decide),n 8 (by decide),n 9 (by decide),n 10 (by decide),n 11 (by decide),cond_false,decide_eq_true (show port≤1 by omega),cond_true,c]
 · have n: ∀k:Int,k<12→(port==k)=false:=λk hk=>beq_eq_false_iff_ne.2 (by omega)
   have c:Q7w m.A1 port=0:=by
     simp only[Q7w,Q7r,Tree.m,n 10 (by decide),n 11 (by decide),cond_false]
   simp only[n 0 (by decide),n 1 (by decide),n 2 (by decide),n 3 (by decide),n 4 (by decide),n 5 (by decide),n 6 (by decide),n 7 (by decide),n 8 (by decide),n 9 (by decide),n 10 (by decide),n 11 (by decide),cond_false,decide_eq_false (show¬port≤1 by omega),decide_eq_false (show¬port≤6 by omega),decide_eq_false (show¬port≤9 by omega),c]
theorem out_same{P:Nat}{m:Q00}(hm:Q0u P m.Mem)(hb:okB m.A1)(port:Int){v:Int}(hv:U v):Q2j m port v m.A4=((Qdz m port v).2,(Qdz m port v).1):=by
 have e1:=Z5o hm m.B2
 have e2:=Z7f hm m.C6
 have e3:=Z6n hm hb port hv
 have e4:=arm_same m.A9 v
 simp only[Q2j,Q1x,Qdz,Qh6,Tree.m,letv,e1,e2,e3,e4]
 rcases ports (p:=port) with rfl|rfl|rfl|rfl|rfl|rfl|rfl|rfl|rfl|rfl|rfl|rfl|h|h
 all_goals first|rfl|skip
 · have n: ∀k:Int,0≤k→(port==k)=false:=λk hk=>beq_eq_false_iff_ne.2 (by omega)
   simp only[n 0 (by decide),n 1 (by decide),n 2 (by decide),n 3 (by decide),n 4 (by decide),n 5 (by decide),n 6 (by decide),n 7 (by decide),n 8 (by decide),n 9 (by decide),n 10 (by decide),n 11 (by decide),cond_false,decide_eq_true (show port≤2 by omega),cond_true]
 · have n: ∀k:Int,k<12→(port==k)=false:=λk hk=>beq_eq_false_iff_ne.2 (by omega)
   have c:Q7v m.A1 m.Mem port v=(m.A1,m.Mem):=by
     simp only[Q7v,Q5b,Tree.m,n 10 (by decide),n 11 (by decide),cond_false]
   simp only[n 0 (by decide),n 1 (by decide),n 2 (by decide),n 3 (by decide),n 4 (by decide),n 5 (by decide),n 6 (by decide),n 7 (by decide),n 8 (by decide),n 9 (by decide),n 10 (by decide),n 11 (by decide),cond_false,decide_eq_false (show¬port≤2 by omega),decide_eq_false (show¬port≤6 by omega),decide_eq_false (show¬port≤9 by omega),c]
def tick(n:Q00)(c:Q03)(w h:Bool):Q00:={B4:=c,Mem:=n.Mem,A2:=n.A2,A9:=n.A9,B2:=n.B2,C6:=n.C6,A1:=n.A1,A4:=IntKind.wrap .u64 (n.A4+1),A3:=w,A6:=h}
def withX(m:Q00)(c:Q03)(mem:List Int):Q00:={B4:=c,Mem:=mem,A2:=m.A2,A9:=m.A9,B2:=m.B2,C6:=m.C6,A1:=m.A1,A4:=m.A4,A3:=false,A6:=m.A6}
def finP(n:Q00)(e:Q13)(clock at0:Int):Q00×List Q0a:=
 bif e.B8==1 then
   (bif e.D9 !=0 then(tick (Q1b n e.C9 clock).1 {X:=A16.of 0 (List.set (A16.l (Q1b n e.C9 clock).1.B4.X) e.D9.toNat (Q1b n e.C9 clock).2),Pc:=(Q1b n e.C9 clock).1.B4.Pc,B5:=(Q1b n e.C9 clock).1.B4.B5} (Q1b n e.C9 clock).1.A3 (Q1b n e.C9 clock).1.A6,[])
   else(tick (Q1b n e.C9 clock).1 (Q1b n e.C9 clock).1.B4 (Q1b n e.C9 clock).1.A3 (Q1b n e.C9 clock).1.A6,[]))
 else bif e.B8==2 then(tick (Q2j n e.C9 e.Value at0).1 (Q2j n e.C9 e.Value at0).1.B4 (Q2j n e.C9 e.Value at0).1.A3 (Q2j n e.C9 e.Value at0).1.A6,(Q2j n e.C9 e.Value at0).2)
 else bif e.B8==3 then(tick n n.B4 true n.A6,[]) else bif e.B8==4 then(tick n n.B4 n.A3 true,[]) else(tick n n.B4 n.A3 n.A6,[])
def finR(n:Q00)(e:Q13)(clock:Int):List Q0a×Q00:=
 bif e.B8==1 then([],tick (Qgk n e.C9 clock).2 (Q1t (Qgk n e.C9 clock).2.B4 e.D9 (Qgk n e.C9 clock).1) (Qgk n e.C9 clock).2.A3 (Qgk n e.C9 clock).2.A6)
 else bif e.B8==2 then((Qdz n e.C9 e.Value).1,tick (Qdz n e.C9 e.Value).2 (Qdz n e.C9 e.Value).2.B4 (Qdz n e.C9 e.Value).2.A3 (Qdz n e.C9 e.Value).2.A6)
 else bif e.B8==3 then([],tick n n.B4 true n.A6) else bif e.B8==4 then([],tick n n.B4 n.A3 true) else([],tick n n.B4 n.A3 n.A6)
theorem adv_eq(m:Q00)(clock:Int):Q0t m clock=finR (withX m (Qcd (Q0i m) m.Mem).1 (Qcd (Q0i m) m.Mem).2.2) (Qcd (Q0i m) m.Mem).2.1 clock:=by kernel_rfl
theorem Z8u(m:Q00)(clock:Int):Q32 m clock=bif !Q2n m then(m,[]) else finP {B4:=(Q7g (Q0q m).B4 (Q0q m).Mem).1,Mem:=(Q7g (Q0q m).B4 (Q0q m).Mem).2.1,A2:=(Q0q m).A2,A9:=(Q0q m).A9,B2:=(Q0q m).B2,C6:=(Q0q m).C6,A1:=(Q0q m).A1,A4:=(Q0q m).A4,A3:=(Q0q m).A3,A6:=(Q0q m).A6} (Q7g (Q0q m).B4 (Q0q m).Mem).2.2 clock m.A4:=by kernel_rfl
theorem copy_eq(m:List Int):Qu5 m=m:=by
 simp [Qu5,Qmo,Tree.m]
theorem Z9i(m:Q00):Qsh m=m:=by
 simp only[Qsh,Qpl,Tree.m,letv,copy_eq]
def Z5h(m:Q00)(clock:Int):Q00×List Q0a:=bif Q19 m then(m,[]) else((Q0t m clock).2,(Q0t m clock).1)
theorem Qzu(m:Q00)(clock:Int):Z5h m clock=bif Q19 m then(m,[]) else((Q0t m clock).2,(Q0t m clock).1):=rfl
theorem fin_same{P:Nat}{n:Q00}(hm:Q0u P n.Mem)(hb:okB n.A1){e:Q13}(hr:0≤e.D9∧e.D9<16)(hv:U e.Value)(clock:Int):finP n e clock n.A4=((finR n e clock).2,(finR n e clock).1):=by
 unfold finP finR
 rw[in_same hb e.C9 clock,out_same hm hb e.C9 hv]
 cases e.B8==1
 · cases e.B8==2
   · cases e.B8==3
     · cases e.B8==4<;>rfl
     · rfl
   · rfl
 · generalize Qgk n e.C9 clock=r
   have s:=Qsm r.2.B4 hr r.1
   show(bif e.D9 !=0 then _ else _)=(tick r.2 (Q1t r.2.B4 e.D9 r.1) r.2.A3 r.2.A6,[])
   rw[←s]
   simp only[Q9h,Q7u,Tree.m]
   cases e.D9 !=0<;>rfl
theorem Z57{m:Q00}(h:okV m)(clock:Int):Q32 m clock=Z5h m clock:=by
 rw[Z8u,Qzu,Qne h]
 cases hs:Q19 m
 · have hr:Q2n m=true:=by rw[Qne h,hs];rfl
   obtain⟨hm,hh,hct⟩:=Qsw hr
   obtain⟨g1,g2,g3,g4,g5⟩:=(Qj9 m).1 hm
   rcases(Qj2 m.Mem h.mem).2 with c|⟨P,hP,hmem⟩
   · exact absurd c g1
   have okm:okS P m:=⟨h.cpu,hmem,h.disk,h.nic,h.bal.1,h.bal.2⟩
   obtain⟨b1,b2,b3,_⟩:=(Tree.pp (Quv okm g2)).2
   change Q6n (Q0q m).B4 at b1
   change okS P (Q0q m) at b2
   change(Q0q m).Mem=m.Mem at b3
   have be:=Qyr h g2.st
   have b1':Q6n (Q0i m):=by have:=b1;rw[be]at this;exact this
   have b2':Q2q (Q0i m):=by have:=b2.cpu;rw[be]at this;exact this
   have ex:=Z3k hmem b2' b1'.st
   have er:=(Tree.pp (Z82 b2' hmem)).2
   change 0≤(Q7g (Q0i m) m.Mem).2.2.D9∧(Q7g (Q0i m) m.Mem).2.2.D9<16 at er
   obtain⟨d1,d2,d3⟩:=(Tree.pp (do_w b2' hmem)).2
   change U (Qcd (Q0i m) m.Mem).2.1.Value at d2
   change Q0u P (Qcd (Q0i m) m.Mem).2.2 at d3
   rw[ex]at er
   rw[adv_eq,be]
   show finP {B4:=(Q7g (Q0i m) m.Mem).1,Mem:=(Q7g (Q0i m) m.Mem).2.1,A2:=m.A2,A9:=m.A9,B2:=m.B2,C6:=m.C6,A1:=m.A1,A4:=m.A4,A3:=false,A6:=m.A6} (Q7g (Q0i m) m.Mem).2.2 clock m.A4=_
   rw[ex]
   exact fin_same (n:=withX m (Qcd (Q0i m) m.Mem).1 (Qcd (Q0i m) m.Mem).2.2) d3 h.bal er d2 clock
 · rfl
end Go.Proofs.YtpcbkbalabgnlaaGreat
namespace Go.Proofs.YtpcbkbalabgnlaaGreat
open Go Go.GD
set_option maxRecDepth 100000
theorem Qy3{m:Q00}(h:okV m)(e:Q08):Q7c m e=Qhg m e:=by
 have hcl:Q02 m.Mem=m.Mem:=rfl
 have mm:=Qsl h
 have t1:Qh3 m.A9=Qna m.A9:=rfl
 have t2: ∀b,Qjk m.A2 b=Qn0 m.A2 b:=λ_=>rfl
 simp only[Q7c,Q2t,Qhg,Qge,Q1v,Q8q,Tree.m,letv,Z9i,hcl,t1,t2]
 rw[show Q1c {B4:=m.B4,Mem:=m.Mem,A2:=m.A2,A9:=m.A9,B2:=m.B2,C6:=m.C6,A1:=m.A1,A4:=m.A4,A3:=m.A3,A6:=m.A6}=Q7f m from mm]
 cases hM:Q7f m
 · rfl
 have hM':Q1c m=true:=mm.trans hM
 rcases(Qj2 m.Mem h.mem).2 with c|⟨P,hP,hmem⟩
 · exact absurd c ((Qj9 m).1 hM').1
 have cs:=Z0b hmem h.disk e
 have rs:=Z55 hmem h.nic e.C5
 clear mm hM hM' hcl h
 obtain⟨c,mem,con,ti,d,n,b,ct,w,hl⟩:=m
 cases hl
 · by_cases k2:e.B8=2
   · rw[k2];cases e.N==0<;>cases decide (e.C5=[])<;>rfl
   by_cases k3:e.B8=3
   · rw[k3];cases decide (e.N≤255)<;>cases decide (e.C5=[])<;>rfl
   by_cases k4:e.B8=4
   · rw[k4,cs];rfl
   by_cases k5:e.B8=5
   · rw[k5,rs];cases e.N==0<;>rfl
   by_cases k6:e.B8=6
   · rw[k6];cases decide (e.C5=[])<;>rfl
   · rw[show(e.B8==2)=false by simpa using k2,show(e.B8==3)=false by simpa using k3,show(e.B8==4)=false by simpa using k4,show(e.B8==5)=false by simpa using k5,show(e.B8==6)=false by simpa using k6]
     rfl
 · rfl
end Go.Proofs.YtpcbkbalabgnlaaGreat
namespace Go.Proofs.YtpcbkbalabgnlaaGreat
open Go Go.GD
attribute [local irreducible] Q2h
set_option maxRecDepth 100000
section
variable {m:Q00} (h:okV m) (hl:m.Mem.length≤1024)
include h
theorem may_P(hm:Q1c m=true): ∃P,okS P m∧okM P m:=by
 rcases(Qj2 m.Mem h.mem).2 with c|⟨P,hP,hmem⟩
 · exact absurd c ((Qj9 m).1 hm).1
 · exact⟨P,⟨h.cpu,hmem,h.disk,h.nic,h.bal.1,h.bal.2⟩,⟨h.cpu,hmem,h.disk,h.nic,h.bal,h.cnt⟩⟩
include hl
theorem stepV_pre{clock:Int}(hk:U clock):Q2z m clock∧(Q32 m clock).2.length≤1∧(Q32 m clock).1.Mem.length≤1024:=by
 cases hr:Q2n m
 · have e:Q32 m clock=(m,[]):=by rw[Z8u,hr];rfl
   rw[e]
   refine⟨?_,Nat.zero_le _,hl⟩
   have hcl:Q02 m.Mem=m.Mem:=rfl
   show(Q2v m clock).p
   unfold Tree.p Q2v
   refine w_an (by show m.Mem.length≤35184372088832;omega) (w_lv λl hl=> ?_)
   rw[hcl]at hl;subst hl
   refine w_an (Tree.pp (Z7q (m:=⟨_,_,_,_,_,_,m.A1,_,_,_⟩) h.bal.2)).1 (w_lv λx1 hx1=>w_br (λ_=>trivial) (λhb=> ?_))
   have:x1=false:=hx1.trans hr
   rw[this]at hb;cases hb
 · obtain⟨P,s,_⟩:=may_P h (Qsw hr).1
   have g:=Tree.pp (step_w0 s h.cnt hk)
   have ml:=g.2.2.ok.mem.len
   have mp:=g.2.2.ok.mem.p2
   exact⟨g.1,g.2.1,by show(Q2v m clock).m.1.Mem.length≤1024;omega⟩
omit h hl in
theorem mapply_w{P:Nat}(h:okM P m){e:Q08}(he:U e.N):(Q8q m e).w (λx=>okM P x.2):=by
 have k:=h
 obtain⟨h1,h2,h3,h4,h5,h7⟩:=h
 unfold Q8q
 repeat'(first
   |exact k
   |exact⟨h1,h2,h3,h4,⟨he,h5.2⟩,h7⟩
   |exact w_lv λ_ _=>⟨h1,h2,h3,h4,h5,h7⟩
   |exact Q0d (type_w _ _) λ_ _=>⟨h1,h2,h3,h4,h5,h7⟩
   |exact Q0d (finish_w h2 h3 _) λx hx=>⟨h1,hx.2,hx.1,h4,h5,h7⟩
   |exact Q0d (accept_w h2 h4 _) λx hx=>⟨h1,hx.2,h3,hx.1,h5,h7⟩
   |refine w_br (λ_=> ?_) (λ_=> ?_))
theorem Zc1{e:Q08}(he:U e.N):Q8v m e:=by
 cases hm:Q1c m
 · have hcl:Q02 m.Mem=m.Mem:=rfl
   show(Q2t m e).p
   unfold Tree.p Q2t
   refine w_an (by show m.Mem.length≤35184372088832;omega) (w_lv λl hl=> ?_)
   rw[hcl]at hl;subst hl
   refine w_an (Tree.pp (Z8k (m:=⟨_,_,_,_,_,_,m.A1,_,_,_⟩) h.bal.2)).1 (w_lv λx1 hx1=>w_br (λ_=>trivial) (λhb=> ?_))
   have:x1=false:=hx1.trans hm
   rw[this]at hb;cases hb
 · obtain⟨P,s,o⟩:=may_P h hm
   exact(Tree.pp (Z81 o he)).1
end
end Go.Proofs.YtpcbkbalabgnlaaGreat
namespace Go.Proofs.YtpcbkbalabgnlaaGreat
open Go Go.GD
attribute [local irreducible] Q2h
set_option maxRecDepth 100000
def Tree.V{β:Type}(t:Tree β)(W:β→Prop):Prop:=W t.m
section
variable {α β:Type} {W:β→Prop} {c:Bool} {t e:Tree β}
theorem v_lf{x:β}(h:W x):Tree.V (.lf x) W:=h
theorem v_nx{f:Prop}{x:β}{hf:f}(h:W x):Tree.V (.nx f x hf) W:=h
theorem v_br(h:c=true→Tree.V t W)(g:c=false→Tree.V e W):Tree.V (.br c t e) W:=by
 cases c
 · exact g rfl
 · exact h rfl
theorem v_cn(g:Tree.V t W):Tree.V (.cn c t) W:=g
theorem v_an{p:Prop}(g:Tree.V t W):Tree.V (.an p t) W:=g
theorem v_lv{x:α}{k:α→Tree β}(h: ∀y,y=x→Tree.V (k y) W):Tree.V (.lv x k) W:=h x rfl
theorem v_lp{d:Inhabited β}{n:Nat}{f:Prop}{x:α}{k:α→Tree (α⊕β)}{hf:f}{inv:α→Prop}{μ:α→Nat}(h:inv x)(hn:μ x<n)(g: ∀y,inv y→Tree.V (k y) (Sum.elim (λz=>inv z∧μ z<μ y) W)):Tree.V (.lp d n f x k hf) W:=by
 refine run_ind (P:=inv) (R:=W) (μ:=μ) (λa ha=> ?_) n x h hn
 have:=g a ha
 unfold Tree.V at this
 revert this
 cases(k a).m with
 |inl z=>exact λh=>h
 |inr b=>exact λh=>h
end
def withM(r:Q01)(m:Q00):Q01:={A0:=m,B1:=r.B1,D0:=r.D0,A7:=r.A7}
def Q73(r:Q01)(e:Q08):Q01:=
 bif(Q1v r.A0 e).1 then{A0:=(Q1v r.A0 e).2,B1:=r.B1,D0:=r.D0++[{At:=(Q1v r.A0 e).2.A4,D8:=e}],A7:=r.A7} else withM r (Q1v r.A0 e).2
def Q38(r:Q01):Q01:=bif Qki r.A0.A9 r.B1 then Q73 r {B8:=2,N:=0,C5:=[]} else r
def readF(r:Q01):Q01:=bif Q6w r.A0 then{A0:=r.A0,B1:=r.B1,D0:=r.D0++[{At:=r.A0.A4,D8:={B8:=1,N:=r.B1,C5:=[]}}],A7:=r.A7} else r
def Qua(r:Q01):Q01:={A0:=(Q0t r.A0 r.B1).2,B1:=IntKind.wrap .u32 (r.B1+1),D0:=(readF r).D0,A7:=r.A7}
def recF:Nat→Q01→List Q0a→Q01×List Q0a
 |0,r,o=>(r,o)
 |n+1,r,o=>bif Q19 (Q38 r).A0 then(Q38 r,o) else recF n (Qua (Q38 r)) (o++(Q0t (Q38 r).A0 (Q38 r).B1).1)
def noQ(r:Q01):Q01:={A0:=r.A0,B1:=r.B1,D0:=r.D0,A7:=[]}
def advF(r:Q01)(steps clock:Int):Q01×List Q0a:=
 bif !Q7f r.A0 then(r,[]) else recF (Q18 steps).toNat (noQ (r.A7.foldl Q73 {A0:=r.A0,B1:=if clock>r.B1 then clock else r.B1,D0:=r.D0,A7:=r.A7})) []
theorem Qje(r:Q01)(e:Q08):(Q73 r e).A7=r.A7:=by
 unfold Q73;cases(Q1v r.A0 e).1<;>rfl
theorem own19_eq(r:Q01):Qtt r=r:=by
 simp only[Qtt,Qma,Tree.m,letv,Z9i]
end Go.Proofs.YtpcbkbalabgnlaaGreat
namespace Go.Proofs.YtpcbkbalabgnlaaGreat
open Go Go.GD
attribute [local irreducible] Q2h
set_option maxRecDepth 100000
structure good(P:Nat)(m:Q00):Prop where
 ok:okM P m
 may:Q1c m=true
section
variable {P:Nat} {m:Q00} (h:good P m)
include h
theorem good.v:okV m:=⟨h.ok.cpu,h.ok.mem.u,h.ok.disk,h.ok.nic,h.ok.target,h.ok.cnt⟩
theorem good.s:okS P m:=⟨h.ok.cpu,h.ok.mem,h.ok.disk,h.ok.nic,h.ok.target.1,h.ok.target.2⟩
theorem good.rmay:Q7f m=true:=(Qsl h.v).symm.trans h.may
theorem app_keep{e:Q08}(he:U e.N):good P (Q1v m e).2∧(Q1v m e).2.A4=m.A4:=by
 have o:okM P (Q1v m e).2:=Tree.post _ (mapply_w h.ok he)
 have a:=(Tree.pp (Z81 h.ok he)).2
 change(Q1c m=true→Q1c (Q7c m e).1=true)∧(Q7c m e).1.A4=m.A4∧_ at a
 have e1:Qhg m e=((Q1v m e).2,(Q1v m e).1):=by
   simp only[Qhg,Qge,Tree.m,letv,Z9i,h.rmay];rfl
 rw[Qy3 h.v e,e1]at a
 exact⟨⟨o,a.1 h.may⟩,a.2.1⟩
theorem stuck_iff:Q19 m=false↔m.A6=false∧Qfv m=false∧m.A4<1152921504606846976:=by
 simp only[Q19,Qdk,Tree.m,letv,h.rmay]
 cases m.A6<;>cases Qfv m<;>simp
theorem Qss(hs:Q19 m=false){clock:Int}(hc:U clock):good P (Q0t m clock).2∧(Q0t m clock).2.A4=m.A4+1∧(Q0t m clock).1.length≤1:=by
 have o:=Tree.post _ (Zao h.ok hc)
 change(Q0t m clock).1.length≤1∧okM P (Q0t m clock).2∧(Q0t m clock).2.A4=IntKind.wrap .u64 (m.A4+1) at o
 have s:=(Tree.pp (step_w0 h.s h.ok.cnt hc)).2
 change _∧Good P m (Q32 m clock).1 at s
 have e:Q32 m clock=((Q0t m clock).2,(Q0t m clock).1):=by rw[Z57 h.v,Qzu,hs];rfl
 rw[e]at s
 have hct:=((stuck_iff h).1 hs).2.2
 have h0:=h.ok.cnt
 refine⟨⟨o.2.1,s.2.may h.may⟩,?_,o.1⟩
 rw[o.2.2,IntKind.wrap_u64];omega
end
structure Qbt(P:Nat)(k:Int)(r:Q01):Prop where
 m:good P r.A0
 clock:U r.B1
 cnt:r.A0.A4≤k
theorem Qlu{P:Nat}{k:Int}{r:Q01}(h:Qbt P k r){e:Q08}(he:U e.N):Qbt P k (Q73 r e)∧(Q73 r e).A0.A4=r.A0.A4:=by
 obtain⟨a,b⟩:=app_keep h.m he
 have hc:=h.cnt
 unfold Q73
 cases(Q1v r.A0 e).1
 · exact⟨⟨a,h.clock,by show(Q1v r.A0 e).2.A4≤k;omega⟩,b⟩
 · exact⟨⟨a,h.clock,by show(Q1v r.A0 e).2.A4≤k;omega⟩,b⟩
theorem Qoz{P:Nat}{k:Int}{r:Q01}(h:Qbt P k r):Qbt P k (Q38 r)∧(Q38 r).A0.A4=r.A0.A4:=by
 unfold Q38
 cases Qki r.A0.A9 r.B1
 · exact⟨h,rfl⟩
 · exact Qlu h U_0
theorem Qq7{P:Nat}{k:Int}{r:Q01}(h:Qbt P k r)(hs:Q19 r.A0=false):Qbt P (k+1) (Qua r):=by
 obtain⟨a,b,_⟩:=Qss h.m hs h.clock
 have hc:=h.cnt
 exact⟨a,Q0j _,by show(Q0t r.A0 r.B1).2.A4≤k+1;omega⟩
theorem recF_keep{P:Nat}(n:Nat): ∀{k:Int} {r:Q01} {o:List Q0a},Qbt P k r→Qbt P (k+n) (recF n r o).1:=by
 induction n with
 |zero=>intro k r o h;exact⟨h.m,h.clock,by have:=h.cnt;show r.A0.A4≤k+(0:Nat);omega⟩
 | succ n ih=>
   intro k r o h
   obtain⟨f,fc⟩:=Qoz h
   unfold recF
   cases hs:Q19 (Q38 r).A0
   · have t:=ih (o:=o++(Q0t (Q38 r).A0 (Q38 r).B1).1) (Qq7 f hs)
     exact⟨t.m,t.clock,by have:=t.cnt;show(recF n _ _).1.A0.A4≤_;omega⟩
   · exact⟨f.m,f.clock,by have:=f.cnt;show(Q38 r).A0.A4≤_;omega⟩
theorem Qz4{P:Nat}{k:Int}(l:List Q08): ∀{r:Q01},Qbt P k r→(∀q∈l,U q.N)→Qbt P k (l.foldl Q73 r)∧(l.foldl Q73 r).A7=r.A7:=by
 induction l with
 |nil=>intro r h _;exact⟨h,rfl⟩
 | cons e l ih=>
   intro r h hu
   obtain⟨a,b⟩:=ih (Qlu h (hu e (by simp))).1 (λq hq=>hu q (by simp [hq]))
   exact⟨a,b.trans (Qje r e)⟩
theorem Qz(n:Nat): ∀(r:Q01) (o:List Q0a),(recF n r o).1.A7=r.A7:=by
 induction n with
 |zero=>intro r o;rfl
 | succ n ih=>
   intro r o
   have f:(Q38 r).A7=r.A7:=by
     unfold Q38;cases Qki r.A0.A9 r.B1
     · rfl
     · exact Qje _ _
   unfold recF
   cases Q19 (Q38 r).A0
   · exact(ih _ _).trans f
   · exact f
def okQ(l:List Q08):Prop:=l.length≤16∧ ∀q∈l,U q.N
theorem advF_keep{P:Nat}{k:Int}{r:Q01}(h:Qbt P k r)(hq:okQ r.A7)(steps:Int){clock:Int}(hc:U clock):Qbt P (k+4000) (advF r steps clock).1∧okQ (advF r steps clock).1.A7:=by
 obtain⟨l0,l1⟩:=Qnp steps
 unfold advF
 rw[h.m.rmay]
 have hcl:U (if clock>r.B1 then clock else r.B1):=by split<;>first|exact hc|exact h.clock
 obtain⟨a,b⟩:=Qz4 r.A7 (r:={A0:=r.A0,B1:=if clock>r.B1 then clock else r.B1,D0:=r.D0,A7:=r.A7}) ⟨h.m,hcl,h.cnt⟩ hq.2
 have c:=recF_keep (Q18 steps).toNat (o:=[]) (r:=noQ (r.A7.foldl Q73 {A0:=r.A0,B1:=if clock>r.B1 then clock else r.B1,D0:=r.D0,A7:=r.A7})) ⟨a.m,a.clock,a.cnt⟩
 refine⟨⟨c.m,c.clock,?_⟩,?_⟩
 · have:=c.cnt
   show(recF _ _ _).1.A0.A4≤_
   omega
 · show okQ (recF _ _ _).1.A7
   rw[Qz];exact⟨Nat.zero_le _,λq hq=>by cases hq⟩
theorem event_U(n:Int):U (Qku n).N:=Tree.post _ (event_w n)
theorem Qev(r:Q01)(e:Q08):Q8a r e=bif !Q5j e then(r,false) else bif e.B8==1 then(r,false) else bif decide ((r.A7.length:Int)≥16) then(r,false) else({A0:=r.A0,B1:=r.B1,D0:=r.D0,A7:=r.A7++[e]},true):=by
 simp only[Q8a,Qlj,Tree.m,letv,own19_eq]
theorem Z6h{P:Nat}{k:Int}{r:Q01}(h:Qbt P k r)(hq:okQ r.A7){e:Q08}(he:U e.N):Qbt P k (Q8a r e).1∧okQ (Q8a r e).1.A7:=by
  rw[Qev]
  cases Q5j e
  · exact⟨h,hq⟩
  · cases e.B8==1
    · cases hl:decide ((r.A7.length:Int)≥16)
      · have hl:=of_decide_eq_false hl
        refine⟨⟨h.m,h.clock,h.cnt⟩,?_,λq hm=> ?_⟩
        · show(r.A7++[e]).length≤16
          rw[List.length_append,List.length_singleton];omega
        · have hm:q∈r.A7++[e]:=hm
          rcases List.mem_append.1 hm with hm|hm
          · exact hq.2 q hm
          · rw[List.mem_singleton.1 hm];exact he
      · exact⟨h,hq⟩
    · exact⟨h,hq⟩
end Go.Proofs.YtpcbkbalabgnlaaGreat
namespace Go.Proofs.YtpcbkbalabgnlaaGreat
open Go Go.GD
attribute [local irreducible] Q2h
set_option maxRecDepth 100000
end Go.Proofs.YtpcbkbalabgnlaaGreat
namespace Go.Proofs.YtpcbkbalabgnlaaGreat
open Go Go.GD
set_option maxRecDepth 100000
set_option synthInstance.maxHeartbeats 2000000
set_option synthInstance.maxSize 100000
noncomputable section
instance Qsc (s:(List Int)):Ck (Q04 s):=let d:Decidable (Q04 s):=(by delta Q04;infer_instance);⟨@decide _ d,@of_decide_eq_true _ d⟩
instance Zcx (m:(List Int)) (addr:Int) (size:Int):Ck (Q59 m addr size):=ckT (t:=Q2s m addr size) (by delta Q2s;infer_instance)
instance bits_mask_ck (n:Int):Ck (Q96 n):=ckT (t:=Q8b n) (by delta Q8b;infer_instance)
instance bits_Field_ck (w:Int) (low:Int) (n:Int):Ck (Q39 w low n):=ckT (t:=Q74 w low n) (by delta Q74;infer_instance)
instance Zcl (w:Int) (low:Int) (n:Int) (v:Int):Ck (Q6s w low n v):=ckT (t:=Q40 w low n v) (by delta Q40;infer_instance)
instance memory_Store_ck (m:(List Int)) (addr:Int) (size:Int) (v:Int):Ck (Q4j m addr size v):=ckT (t:=Q3x m addr size v) (by delta Q3x;infer_instance)
instance Z9a (x:Int) (n:Int):Ck (Q3s x n):=ckT (t:=Q33 x n) (by delta Q33;infer_instance)
instance isa_Decode_ck (w:Int):Ck (Qa5 w):=ckT (t:=Q6f w) (by delta Q6f;infer_instance)
instance bits_Divide_ck (a:Int) (b:Int):Ck (Q6v a b):=ckT (t:=Q4y a b) (by delta Q4y;infer_instance)
instance cpu_Alu_ck (op:Int) (a:Int) (b:Int):Ck (Qcc op a b):=ckT (t:=Qd0 op a b) (by delta Qd0;infer_instance)
instance memory_Load_ck (m:(List Int)) (addr:Int) (size:Int):Ck (Q2a m addr size):=ckT (t:=Q4s m addr size) (by delta Q4s;infer_instance)
instance Zcc (pte:Int):Ck (Q4c pte):=ckT (t:=Q3n pte) (by delta Q3n;infer_instance)
instance paging_Walk_ck (m:(List Int)) (root:Int) (va:Int) (access:Int):Ck (Q6u m root va access):=ckT (t:=Q4t m root va access) (by delta Q4t;infer_instance)
instance paging_Touch_ck (m:(List Int)) (entry:Int) (access:Int):Ck (Q60 m entry access):=ckT (t:=Q3w m entry access) (by delta Q3w;infer_instance)
instance cpu_Resolve_ck (c:Q03) (m:(List Int)) (va:Int) (size:Int) (access:Int):Ck (Q5m c m va size access):=ckT (t:=Q4v c m va size access) (by delta Q4v;infer_instance)
instance cpu_Fetch_ck (c:Q03) (m:(List Int)):Ck (Qb c m):=ckT (t:=Q8s c m) (by delta Q8s;infer_instance)
instance cpu_set_ck (c:Q03) (register:Int) (v:Int):Ck (Q4i c register v):=ckT (t:=Q7u c register v) (by delta Q7u;infer_instance)
instance cpu_load_ck (c:Q03) (m:(List Int)) (i:Q0g):Ck (Qct c m i):=ckT (t:=Q8 c m i) (by delta Q8;infer_instance)
instance cpu_store_ck (c:Q03) (m:(List Int)) (i:Q0g):Ck (Qbo c m i):=ckT (t:=Q6k c m i) (by delta Q6k;infer_instance)
instance cpu_Write_ck (c:Q03) (csr:Int) (v:Int):Ck (Qb2 c csr v):=ckT (t:=Q6i c csr v) (by delta Q6i;infer_instance)
instance cpu_execute_ck (c:Q03) (i:Q0g):Ck (Q8h c i):=ckT (t:=Q2y c i) (by delta Q2y;infer_instance)
instance cpu_Exec_ck (c:Q03) (m:(List Int)):Ck (Qax c m):=ckT (t:=Q6 c m) (by delta Q6;infer_instance)
instance Z9n (x:Int):Ck (Q5p x):=ckT (t:=Q1s x) (by delta Q1s;infer_instance)
instance balloon_May_ck (b:Q07) (pages:Int):Ck (Q89 b pages):=ckT (t:=Q3y b pages) (by delta Q3y;infer_instance)
instance Z28 (m:Q00):Ck (Q2p m):=ckT (t:=Q1n m) (by delta Q1n;infer_instance)
instance machine_May_ck (m:Q00):Ck (Q5r m):=ckT (t:=Q6c m) (by delta Q6c;infer_instance)
instance Qyd (x:Int):Ck (Q2u x):=ckT (t:=Q1i x) (by delta Q1i;infer_instance)
instance Zcq (b:Q07):Ck (Q5a b):=ckT (t:=Q4a b) (by delta Q4a;infer_instance)
instance Z8e (b:Q07):Ck (Q5s b):=ckT (t:=Q2g b) (by delta Q2g;infer_instance)
instance Zcj (m:Q00):Ck (Q6z m):=ckT (t:=Q3i m) (by delta Q3i;infer_instance)
instance Z8g (m:Q00):Ck (Q3u m):=ckT (t:=Q1q m) (by delta Q1q;infer_instance)
instance machine_Idle_ck (m:Q00):Ck (Q2x m):=ckT (t:=Q2w m) (by delta Q2w;infer_instance)
instance machine_runs_ck (m:Q00):Ck (Q5y m):=ckT (t:=Q3a m) (by delta Q3a;infer_instance)
instance Zcr (m:Q00):Ck (Q56 m):=ckT (t:=Q2c m) (by delta Q2c;infer_instance)
instance balloon_In_ck (b:Q07) (port:Int):Ck (Qa1 b port):=ckT (t:=Q62 b port) (by delta Q62;infer_instance)
instance Z69 (m:Q00) (port:Int) (clock:Int):Ck (Q4p m port clock):=ckT (t:=Q26 m port clock) (by delta Q26;infer_instance)
instance memory_text_ck (words:(List Int)):Ck (Q3d words):=let d:Decidable (Q3d words):=(by delta Q3d;infer_instance);⟨@decide _ d,@of_decide_eq_true _ d⟩
instance memory_Page_ck (m:(List Int)) (frame:Int):Ck (Q5h m frame):=ckT (t:=Q3e m frame) (by delta Q3e;infer_instance)
instance disk_issue_ck (d0:Q0b) (m:(List Int)) (cmd:Int) (at0:Int):Ck (Qa8 d0 m cmd at0):=ckT (t:=Q64 d0 m cmd at0) (by delta Q64;infer_instance)
instance disk_Out_ck (d0:Q0b) (m:(List Int)) (port:Int) (v:Int) (at0:Int):Ck (Qdf d0 m port v at0):=ckT (t:=Q8x d0 m port v at0) (by delta Q8x;infer_instance)
instance nic_send_ck (n:Q0k) (m:(List Int)) (at0:Int):Ck (Qd6 n m at0):=ckT (t:=Q9b n m at0) (by delta Q9b;infer_instance)
instance nic_Out_ck (n:Q0k) (m:(List Int)) (port:Int) (v:Int) (at0:Int):Ck (Qeo n m port v at0):=ckT (t:=Qbl n m port v at0) (by delta Qbl;infer_instance)
instance Zb5 (m:(List Int)) (frame:Int) (s:(List UInt8)):Ck (Q3h m frame s):=ckT (t:=Q2 m frame s) (by delta Q2;infer_instance)
instance Zb6 (s:(List UInt8)) (count:Int):Ck (Q2o s count):=let d:Decidable (Q2o s count):=(by delta Q2o;infer_instance);⟨@decide _ d,@of_decide_eq_true _ d⟩
instance balloon_Out_ck (b:Q07) (m:(List Int)) (port:Int) (v:Int):Ck (Q8j b m port v):=ckT (t:=Q2e b m port v) (by delta Q2e;infer_instance)
instance Z5q (m:Q00) (port:Int) (v:Int) (at0:Int):Ck (Q48 m port v at0):=ckT (t:=Q1x m port v at0) (by delta Q1x;infer_instance)
instance machine_Step_ck (m:Q00) (clock:Int):Ck (Q2z m clock):=ckT (t:=Q2v m clock) (by delta Q2v;infer_instance)
instance make_Round_ck (n:Int) (k:Int):Ck (Q52 n k):=ckT (t:=Qcu n k) (by delta Qcu;infer_instance)
instance make_Inst_ck (n:Int):Ck (Qeb n):=ckT (t:=Qfh n) (by delta Qfh;infer_instance)
instance make_Code_ck (l:(List Int)):Ck (Qhw l):=ckT (t:=Qi8 l) (by delta Qi8;infer_instance)
instance ref1_New_ck (pages:Int):Ck (Qd4 pages):=ckT (t:=Qeh pages) (by delta Qeh;infer_instance)
instance ref7_New_ck (pages:Int) (blocks:Int) (image:(List Int)):Ck (Qav pages blocks image):=ckT (t:=Qei pages blocks image) (by delta Qei;infer_instance)
instance Zc0 (a:(List Int)) (b:(List Int)):Ck (Q4g a b):=let d:Decidable (Q4g a b):=(by delta Q4g;infer_instance);⟨@decide _ d,@of_decide_eq_true _ d⟩
instance ref7_Same_ck (a:Q00) (b:Q00):Ck (Qhl a b):=ckT (t:=Qhz a b) (by delta Qhz;infer_instance)
instance Z40 (m:Q00):Ck (Q24 m):=ckT (t:=Q20 m) (by delta Q20;infer_instance)
instance console_Type_ck (c:Q0c) (b:Int):Ck (Qdo c b):=ckT (t:=Q6j c b) (by delta Q6j;infer_instance)
instance Zct (d0:Q0b) (m:(List Int)) (e:Q08):Ck (Qc7 d0 m e):=ckT (t:=Q44 d0 m e) (by delta Q44;infer_instance)
instance nic_Receive_ck (n:Q0k) (m:(List Int)) (frame:(List UInt8)):Ck (Qes n m frame):=ckT (t:=Q6g n m frame) (by delta Q6g;infer_instance)
instance Zcp (m:Q00) (e:Q08):Ck (Q8v m e):=ckT (t:=Q2t m e) (by delta Q2t;infer_instance)
instance Qm6 (s:(List Q1p)):Ck (Q0r s):=let d:Decidable (Q0r s):=(by delta Q0r;infer_instance);⟨@decide _ d,@of_decide_eq_true _ d⟩
instance Qme (s:(List Q08)):Ck (Q0s s):=let d:Decidable (Q0s s):=(by delta Q0s;infer_instance);⟨@decide _ d,@of_decide_eq_true _ d⟩
instance Zcw (r:Q01):Ck (Q3r r):=ckT (t:=Q5e r) (by delta Q5e;infer_instance)
instance record_New_ck (m:Q00):Ck (Qcq m):=ckT (t:=Q8k m) (by delta Q8k;infer_instance)
instance Zck (r:Q01) (e:Q08):Ck (Q57 r e):=ckT (t:=Q5f r e) (by delta Q5f;infer_instance)
instance record_Cut_ck (r:Q01):Ck (Qgo r):=ckT (t:=Qdb r) (by delta Qdb;infer_instance)
instance Z5y (e:Q08) (fr0:Q01):Ck (Q6p e fr0):=ckT (t:=Q3b e fr0) (by delta Q3b;infer_instance)
instance Z5r (e:Q08) (fr0:Q01):Ck (Q8d e fr0):=ckT (t:=Q30 e fr0) (by delta Q30;infer_instance)
instance Z5t (e:Q08) (fr0:Q01):Ck (Q6q e fr0):=ckT (t:=Q3f e fr0) (by delta Q3f;infer_instance)
instance Zae (r:Q01) (steps:Int) (clock:Int):Ck (Q81 r steps clock):=ckT (t:=Q3k r steps clock) (by delta Q3k;infer_instance)
theorem awake_pre:Q5n:=ck (ckT (t:=Qb6) (by delta Qb6;infer_instance)) (by kernel_rfl)
theorem Za3:Qac=true:=by kernel_rfl
end
end Go.Proofs.YtpcbkbalabgnlaaGreat
namespace Go.Proofs.YtpcbkbalabgnlaaGreat
open Go Go.GD
attribute [local irreducible] Q2h
set_option maxRecDepth 100000
theorem Za9(w:Int):IntKind.wrap .i64 (Q1w w).1.Imm=(Q1w w).1.Imm:=by
 show Tree.V (Q7j w) (λr=>IntKind.wrap .i64 r.1.Imm=r.1.Imm)
 have e: ∀x,IntKind.wrap .i64 (IntKind.wrap .i32 x)=IntKind.wrap .i32 x:=λx=>by rw[IntKind.wrap_i64,IntKind.wrap_i32];omega
 unfold Q7j
 refine v_lv λx0 _=> ?_
 have l: ∀i:Q0g,IntKind.wrap .i64 i.Imm=i.Imm→Tree.V (Tree.lv (Q6x i) λx=> .br (!x) (.lf ((⟨0,0,0,0,0⟩:Q0g),false)) (.lf (i,true))) (λr=>IntKind.wrap .i64 r.1.Imm=r.1.Imm):=λi hi=>v_lv λx hx=>v_br (λ_=>v_lf rfl) (λhb=>v_lf hi)
 exact v_br (λ_=>v_lf rfl) (λ_=>v_br (λ_=>l _ rfl) (λ_=>v_br (λ_=>l _ (e _)) (λ_=>v_br (λ_=>l _ (e _)) (λ_=>l _ (e _)))))
def ioP(e:Q13):Bool:=bif e.B8==1 then e.C9==2 else false
def readsC(c:Q03)(m:List Int):Bool:=
 bif iand .u32 c.B5.a0 1==0 then false else bif(Q15 m c.Pc 4).2 then bif(Q1w (Q15 m c.Pc 4).1).2 then bif(Q1w (Q15 m c.Pc 4).1).1.Op==60 then(Q1w (Q15 m c.Pc 4).1).1.Imm==2 else false else false else false
theorem reads_def(m:Q00):Qpi m=readsC (Q0i m) m.Mem:=rfl
theorem sys_io(c:Q03)(i:Q0g):ioP (Qi7 c i).2=(bif i.Op==60 then IntKind.wrap .i64 i.Imm==2 else false):=by
 show Tree.V (Q9 c i) (λr=>ioP r.2=_)
 have no: ∀{k:Int},i.Op=k→k≠60→ ∀e:Q13,e.B8≠1→ioP e=(bif i.Op==60 then IntKind.wrap .i64 i.Imm==2 else false):=λh g e he=>by
   unfold ioP
   rw[h,show(_==(60:Int))=false from beq_false_of_ne g,show(e.B8==1)=false from beq_false_of_ne he];rfl
 have eq: ∀{k:Int},(i.Op==k)=true→i.Op=k:=λh=>eq_of_beq h
 unfold Q9
 refine v_br (λh=>v_lv λ_ _=>v_lf (no (eq h) (by decide) _ (show(0:Int)≠1 by decide))) λ_=>v_br (λh=>v_lv λ_ _=>v_lf (no (eq h) (by decide) _ (show(0:Int)≠1 by decide))) λ_=>v_br (λh=>v_cn (v_an (v_lv λ_ _=>v_lf (no (eq h) (by decide) _ (show(0:Int)≠1 by decide))))) λ_=>v_br (λh=>v_cn (v_an (v_lv λ_ _=>v_lf (no (eq h) (by decide) _ (show(0:Int)≠1 by decide))))) λ_=>v_br (λh=>v_lf ?_) λh60=> ?_
 · show(bif(1:Int)==1 then IntKind.wrap .i64 i.Imm==2 else false)=_
   rw[h];rfl
 · have n60:i.Op≠60:=λe=>by rw[e]at h60;cases h60
   refine v_br (λh=>v_cn (v_lf (no (eq h) (by decide) _ (by show(2:Int)≠1;decide)))) λ_=>v_br (λh=>v_lf (no (eq h) (by decide) _ (show(3:Int)≠1 by decide))) λ_=>v_br (λh=>v_lf (no (eq h) (by decide) _ (show(5:Int)≠1 by decide))) λ_=>v_br (λh=>v_lf (no (eq h) (by decide) _ (show(4:Int)≠1 by decide))) λ_=>v_lf (no rfl n60 _ (show(0:Int)≠1 by decide))
theorem post_io(c:Q03)(m:List Int)(i:Q0g):ioP (Qg c m i).2.1=(bif i.Op==60 then IntKind.wrap .i64 i.Imm==2 else false):=by
 unfold Qg
 cases h:decide (i.Op≥56)
 · have h:=of_decide_eq_false h
   rw[show(i.Op==60)=false from beq_false_of_ne (by omega)]
   cases decide (i.Op≥40)<;>cases decide (i.Op≥32)<;>cases i.Op==24<;>cases decide (i.Op≤13)<;>rfl
 · exact sys_io c i
theorem do_reads{P:Nat}{m:List Int}(h:Q0u P m){c:Q03}(hc:Q2q c)(hst:c.B5.a0≤31):ioP (Qcd c m).2.1=readsC c m:=by
  rw[do_eq]
  unfold readsC
  cases hk:iand .u32 c.B5.a0 1==0
  · have hp:Qkd c=false:=by
      rw[Qy9 hc.a0.1 hst,show Q91 c=true from by show(iand .u32 c.B5.a0 1 !=0)=true;rw[bne,hk];rfl]
      rfl
    have wi:=Qek h hc.pc (size:=4) (.inr rfl)
    have kn:Qeg 1=true:=rfl
    have p0:=hc.pc.1
    have tm:Int.tmod c.Pc (IntKind.wrap .u32 4)=c.Pc%4:=by
      rw[show IntKind.wrap .u32 4=4 from rfl,Int.tmod_eq_emod_of_nonneg p0]
    have rc:Q0w c m c.Pc 4 1=bif c.Pc%4 !=0 then(0,3,m) else bif !Q23 m c.Pc 4 then(0,Q21 1,m) else(c.Pc,0,m):=by
      simp only[Q0w,Q8m,Tree.m,letv,kn,hp,tm]
      rfl
    rw[rc]
    cases h4:(c.Pc%4 !=0)
    · cases hw:Q23 m c.Pc 4
      · have l2:(Q15 m c.Pc 4).2=false:=by
          simp only[Q15,Q4m,Tree.m,letv,hw];rfl
        rw[l2]
        show ioP (doR c (0,Q21 1,m) _ _).2.1=false
        unfold doR
        rw[show((0,Q21 1,m):Int×Int×List Int).2.1=Q21 1 from rfl,show(Q21 1 !=0)=true by decide]
        rfl
      · have l2:(Q15 m c.Pc 4).2=true:=by
          simp only[Q15,Q4m,Tree.m,letv,hw];rfl
        rw[l2]
        show ioP (doR c (c.Pc,0,m) (Q15 m c.Pc 4).1 (Q1w (Q15 m c.Pc 4).1)).2.1=_
        have im:=Za9 (Q15 m c.Pc 4).1
        generalize Q15 m c.Pc 4=x at*
        generalize Q1w x.1=d at*
        unfold doR
        cases d.2
        · rfl
        · rw[hk]
          have:=post_io c m d.1
          rw[im]at this
          cases Q46 d.1.Op<;>exact this
    · have hw:Q23 m c.Pc 4=false:=by
        rw[wi]
        refine decide_eq_false λe=> ?_
        rw[e.1]at h4;cases h4
      have l2:(Q15 m c.Pc 4).2=false:=by
        simp only[Q15,Q4m,Tree.m,letv,hw];rfl
      rw[l2];rfl
  · have us : ∀x w d,ioP (doR c x w d).2.1=false:=λx w d=>by
      unfold doR
      cases x.2.1 !=0
      · cases d.2
        · rfl
        · cases hp:Q46 d.1.Op
          · have:=post_io c x.2.2 d.1
            rw[show(d.1.Op==60)=false from beq_false_of_ne λe=>by rw[e]at hp;cases hp]at this
            exact this
          · rw[hk];rfl
      · rfl
    exact us _ _ _
theorem Zay{m:Q00}(h:okV m):Q61 m=Q6w m:=by
 have rd:Q6w m=bif Q19 m then false else Qpi m:=rfl
 have pd:Q61 m=bif !Q2n m then false else ioP (Q7g (Q0q m).B4 (Q0q m).Mem).2.2:=rfl
 rw[rd,pd,Qne h]
 cases hs:Q19 m
 · have hr:Q2n m=true:=by rw[Qne h,hs];rfl
   obtain⟨hm,hh,hct⟩:=Qsw hr
   obtain⟨g1,g2,g3,g4,g5⟩:=(Qj9 m).1 hm
   rcases(Qj2 m.Mem h.mem).2 with c|⟨P,hP,hmem⟩
   · exact absurd c g1
   have okm:okS P m:=⟨h.cpu,hmem,h.disk,h.nic,h.bal.1,h.bal.2⟩
   obtain⟨b1,b2,b3,_⟩:=(Tree.pp (Quv okm g2)).2
   change Q6n (Q0q m).B4 at b1
   change okS P (Q0q m) at b2
   have be:=Qyr h g2.st
   have b1':Q6n (Q0i m):=by have:=b1;rw[be]at this;exact this
   have b2':Q2q (Q0i m):=by have:=b2.cpu;rw[be]at this;exact this
   have ex:=Z3k hmem b2' b1'.st
   rw[be,reads_def,←do_reads hmem b2' b1'.st]
   show ioP (Q7g (Q0i m) m.Mem).2.2=_
   rw[ex];rfl
 · rfl
theorem fin_no(d:Q0b)(m:List Int)(e:Q08):(Qaf d m e).2.1=false→Qaf d m e=(d,false,m):=by
 show Tree.V (Q7a d m e) (λr=>r.2.1=false→r=(d,false,m))
 have no: ∀{p:Prop},true=false→p:=λh=>by cases h
 unfold Q7a
 repeat'(first
   |exact v_lf λ_=>rfl
   |exact v_lf no
   |exact v_an (v_lv λ_ _=>v_lf no)
   |refine v_lv λ_ _=> ?_
   |refine v_an ?_
   |refine v_br (λ_=> ?_) (λ_=> ?_))
theorem acc_no(n:Q0k)(m:List Int)(s:List UInt8):(Qag n m s).2.1=false→Qag n m s=(n,false,m):=by
 show Tree.V (Q79 n m s) (λr=>r.2.1=false→r=(n,false,m))
 have no: ∀{p:Prop},true=false→p:=λh=>by cases h
 unfold Q79
 repeat'(first
   |exact v_lf λ_=>rfl
   |exact v_an (v_lv λ_ _=>v_lf no)
   |refine v_lv λ_ _=> ?_
   |refine v_br (λ_=> ?_) (λ_=> ?_))
theorem fire_no(t:Q0h):(Qna t).2=false→(Qna t).1=t:=by
 show Tree.V (Qm3 t) (λr=>r.2=false→r.1=t)
 have no: ∀{p:Prop},true=false→p:=λh=>by cases h
 unfold Qm3
 repeat'(first
   |exact v_lf λ_=>rfl
   |exact v_lf no
   |refine v_br (λ_=> ?_) (λ_=> ?_))
theorem type_no(c:Q0c)(b:Int):(Qn0 c b).2=false→(Qn0 c b).1=c:=by
 show Tree.V (Qc9 c b) (λr=>r.2=false→r.1=c)
 have no: ∀{p:Prop},true=false→p:=λh=>by cases h
 unfold Qc9
 exact v_br (λ_=>v_lf λ_=>rfl) (λ_=>v_cn (v_lf no))
theorem app_no(m:Q00)(e:Q08):(Q1v m e).1=false→(Q1v m e).2=m:=by
 show Tree.V (Q8q m e) (λr=>r.1=false→r.2=m)
 have no: ∀{p:Prop},true=false→p:=λh=>by cases h
 unfold Q8q
 repeat'(first
   |exact v_lf λ_=>rfl
   |exact v_lf no
   |exact v_lv λx hx=>v_lf λh=>by rw[hx]at h⊢;rw[fire_no _ h]
   |exact v_an (v_lv λx hx=>v_lf λh=>by rw[hx]at h⊢;rw[fin_no _ _ _ h])
   |exact v_an (v_lv λx hx=>v_lf λh=>by rw[hx]at h⊢;rw[acc_no _ _ _ h])
   |exact v_an (v_lv λx hx=>v_lf λh=>by rw[hx]at h⊢;rw[type_no _ _ h])
   |refine v_br (λ_=> ?_) (λ_=> ?_))
end Go.Proofs.YtpcbkbalabgnlaaGreat
namespace Go.Proofs.YtpcbkbalabgnlaaGreat
open Go Go.GD
attribute [local irreducible] Q2h
set_option maxRecDepth 100000
theorem midle_w{m:Q00}(h:U m.A1.C2):Q2x m:=by
 show(Q2w m).p
 unfold Tree.p Q2w
 refine w_br (λ_=>w_an ?_ (w_lv λ_ _=>trivial)) (λ_=>trivial)
 show(Q1q m).p
 unfold Tree.p Q1q
 exact Q0d (Z88 h) λ_ _=>trivial
theorem reads_w0{P:Nat}{m:Q00}(h:okS P m):(Q20 m).w (λ_=>True):=by
 unfold Q20
 exact Q0d (Z7q h.given) λ_ _=>w_br (λ_=>trivial) (λ_=>Q0d (beginP_w h) λx1 h1=>Q0d (execP_w h1.cpu h1.mem) λx2 _=>w_br (λ_=>trivial) (λ_=>trivial))
theorem Zcb{e:Q08}(h:U e.N):Qcp e=Q5j e:=by
 obtain⟨h0,h1⟩:=h
 have d: ∀b:Bool,(bif e.N==1 then(bif decide (e.C5=[]) then true else b) else(bif e.N==0 then decide (e.C5=[]) else false))=(bif decide (e.N≤1) then(bif decide (e.C5=[]) then true else(bif e.N==1 then b else false)) else false):=λb=>by
   rcases(by omega:e.N=0∨e.N=1∨2≤e.N) with k|k|k
   · rw[k];cases decide (e.C5=[])<;>rfl
   · rw[k];cases decide (e.C5=[])<;>rfl
   · rw[show(e.N==1)=false from beq_false_of_ne (by omega),show(e.N==0)=false from beq_false_of_ne (by omega),decide_eq_false (show¬e.N≤1 by omega)];rfl
 simp only[Qcp,Qdn,Q5j,Qnf,Tree.m,d]
theorem Qtz(r:Q01):Q9a r=r:=rfl
theorem Qoo{r:Q01}(hm:r.A0.Mem.length≤1024)(hl:r.D0.length≤1000000)(hq:r.A7.length≤1000000):Q3r r:=by
 show(Q5e r).p
 unfold Tree.p Q5e
 exact w_an (by show r.A0.Mem.length≤35184372088832;omega) (w_lv λ_ _=>w_an (by show r.D0.length≤3518437208883;omega) (w_lv λ_ _=>w_an (by show r.A7.length≤3518437208883;omega) (w_lv λ_ _=>trivial)))
section
variable {P:Nat} {m:Q00} (h:good P m)
include h
theorem good.len:m.Mem.length≤1024:=by have:=h.ok.mem.len;have:=h.ok.mem.p2;omega
theorem good.app(e:Q08):Q7c m e=((Q1v m e).2,(Q1v m e).1):=by
 rw[Qy3 h.v]
 simp only[Qhg,Qge,Tree.m,letv,Z9i,h.rmay];rfl
theorem good.step(hs:Q19 m=false)(clock:Int):Q32 m clock=((Q0t m clock).2,(Q0t m clock).1):=by
 rw[Z57 h.v,Qzu,hs];rfl
theorem good.idle:Q6e m=Qfv m:=Z5b h.v
end
theorem rlog_w(e:Q08){r:Q01}(hl:r.D0.length≤1000000):(Q3b e r).w (λx=>x={A0:=r.A0,B1:=r.B1,D0:=r.D0++[{At:=r.A0.A4,D8:=e}],A7:=r.A7}):=by
 unfold Q3b
 exact w_cn (decide_eq_true (by omega)) rfl
theorem rlogR_w(e:Q08){r:Q01}(hl:r.D0.length≤1000000):(Q30 e r).w (λx=>x={A0:=r.A0,B1:=r.B1,D0:=r.D0++[{At:=r.A0.A4,D8:=e}],A7:=r.A7}):=by
 unfold Q30
 exact w_cn (decide_eq_true (by omega)) rfl
theorem Z8d{P:Nat}{r:Q01}(h:good P r.A0){e:Q08}(he:U e.N)(hl:r.D0.length≤1000000):(Q3f e r).w (λx=>x=Q73 r e):=by
 unfold Q3f
 refine w_an (Zc1 h.v h.len he) (w_lv λx0 e0=> ?_)
 rw[h.app]at e0
 refine w_br (λhb=>Q0d (rlogR_w e (r:=⟨x0.1,r.B1,r.D0,r.A7⟩) hl) λx1 e1=> ?_) (λhb=> ?_)
 · have hb:(Q1v r.A0 e).1=true:=by rw[e0]at hb;exact hb
   show x1=_
   unfold Q73
   rw[e1,hb,e0];rfl
 · have hb:(Q1v r.A0 e).1=false:=by rw[e0]at hb;exact hb
   show r=_
   unfold Q73
   rw[hb,app_no _ _ hb];rfl
theorem Qpc(r:Q01)(e:Q08):(Q73 r e).D0.length≤r.D0.length+1:=by
 unfold Q73
 cases(Q1v r.A0 e).1
 · exact Nat.le_succ _
 · show(r.D0++[_]).length≤_
   rw[List.length_append,List.length_singleton];omega
theorem Z2v(r:Q01):(Q38 r).D0.length≤r.D0.length+1:=by
 unfold Q38
 cases Qki r.A0.A9 r.B1
 · exact Nat.le_succ _
 · exact Qpc _ _
theorem readF_log(r:Q01):(readF r).D0.length≤r.D0.length+1:=by
 unfold readF
 cases Q6w r.A0
 · exact Nat.le_succ _
 · show(r.D0++[_]).length≤_
   rw[List.length_append,List.length_singleton];omega
theorem Zbe{P:Nat}{m:Q00}(h:good P m):Q19 m=bif m.A6 then true else bif Q6e m then true else m.A4==1152921504606846976:=by
 have hc:=((Qj9 m).1 h.may).2.2.1
 have e:decide (m.A4≥1152921504606846976)=(m.A4==1152921504606846976):=by
   by_cases g:m.A4=1152921504606846976
   · rw[g];rfl
   · rw[show(m.A4==1152921504606846976)=false from beq_false_of_ne g,decide_eq_false (by omega)]
 rw[h.idle,←e]
 simp only[Q19,Qdk,Tree.m,letv,h.rmay];rfl
theorem tick_read{r:Q01}(hr:Q6w r.A0=true):Qua r={A0:=(Q0t r.A0 r.B1).2,B1:=IntKind.wrap .u32 (r.B1+1),D0:=r.D0++[{At:=r.A0.A4,D8:={B8:=1,N:=r.B1,C5:=[]}}],A7:=r.A7}:=by
 unfold Qua readF;rw[hr];rfl
theorem tick_no{r:Q01}(hr:Q6w r.A0=false):Qua r={A0:=(Q0t r.A0 r.B1).2,B1:=IntKind.wrap .u32 (r.B1+1),D0:=r.D0,A7:=r.A7}:=by
 unfold Qua readF;rw[hr];rfl
theorem Z27(r:Q01):(Qua r).D0.length≤r.D0.length+1:=readF_log r
theorem Zbx{n:Nat}{r:Q01}{o:List Q0a}(hs:Q19 (Q38 r).A0=true):recF (n+1) r o=(Q38 r,o):=by
 conv=>lhs;unfold recF
 rw[hs];rfl
theorem recF_go{n:Nat}{r:Q01}{o:List Q0a}(hs:Q19 (Q38 r).A0=false):recF (n+1) r o=recF n (Qua (Q38 r)) (o++(Q0t (Q38 r).A0 (Q38 r).B1).1):=by
 conv=>lhs;unfold recF
 rw[hs];rfl
theorem advF_may{r:Q01}(h:Q7f r.A0=true)(steps clock:Int):advF r steps clock=recF (Q18 steps).toNat (noQ (r.A7.foldl Q73 {A0:=r.A0,B1:=if clock>r.B1 then clock else r.B1,D0:=r.D0,A7:=r.A7})) []:=by
 unfold advF;rw[h];rfl
theorem radv_w{P:Nat}{k:Int}{r:Q01}(h:Qbt P k r)(steps:Int){clock:Int}(hc:U clock)(hl:r.D0.length≤900000)(hq:r.A7.length≤1000)(hu: ∀q∈r.A7,U q.N):
    (Q3k r steps clock).w (λx=>x=advF r steps clock):=by
  obtain⟨lim0,lim1⟩:=Qnp steps
  have lim:(if 4000<(if 0>steps then 0 else steps) then 4000 else(if 0>steps then 0 else steps))=Q18 steps:=rfl
  have hA:=advF_may h.m.rmay steps clock
  unfold Q3k
  refine w_an (Qoo h.m.len (by omega) (by omega)) (w_lv λx0 e0=> ?_)
  rw[Qtz]at e0
  subst e0
  refine w_an (Tree.pp (Z8k h.m.ok.target.2)).1 (w_lv λx1 e1=>w_br (λhb=>by rw[e1,h.m.may]at hb;cases hb) λhb=> ?_)
  have hcl:U (if clock>x0.B1 then clock else x0.B1):=by split<;>first|exact hc|exact h.clock
  generalize hr0:({A0:=x0.A0,B1:=if clock>x0.B1 then clock else x0.B1,D0:=x0.D0,A7:=x0.A7}:Q01)=r0 at*
  have hQ:r0.A7=x0.A7:=by rw[←hr0]
  have hL:r0.D0=x0.D0:=by rw[←hr0]
  have g0:Qbt P k r0:=by rw[←hr0];exact⟨h.m,hcl,h.cnt⟩
  refine w_lp (inv:=λz:Int×Q01=>0≤z.1∧z.1≤x0.A7.length∧z.2.A7=x0.A7∧Qbt P k z.2∧(z.2.D0.length:Int)≤x0.D0.length+z.1∧(x0.A7.drop z.1.toNat).foldl Q73 z.2=x0.A7.foldl Q73 r0) (μ:=Qdx x0 steps clock) ⟨Int.le_refl 0,by show(0:Int)≤_;omega,hQ,g0,by rw[hL];omega,rfl⟩ (Nat.lt_succ_self _) λz ⟨z0,z1,z2,z3,z4,z5⟩=> ?_
  refine w_br (λhb=> ?_) (λhb=> ?_)
  · have hb:=of_decide_eq_true hb
    have hlt:z.1.toNat<x0.A7.length:=by omega
    have ed:x0.A7.getD z.1.toNat (RK.dflt RK.apiEvent)=x0.A7[z.1.toNat]:=by rw[List.getD_eq_getElem?_getD,List.getElem?_eq_getElem hlt];rfl
    have hm:x0.A7.getD z.1.toNat (RK.dflt RK.apiEvent)∈x0.A7:=by rw[ed];exact List.getElem_mem hlt
    refine w_cn (by simp [Nat.blt];omega) (Q0d (Z8d z3.m (hu _ hm) (by omega)) λx2 e2=>w_nx ?_)
    have ew:IntKind.i64.wrap (z.1+1)=z.1+1:=by rw[IntKind.wrap_i64];omega
    have q2:x2.A7=x0.A7:=by rw[e2,Qje,z2]
    have l2:=Qpc z.2 (x0.A7.getD z.1.toNat (RK.dflt RK.apiEvent))
    rw[←e2]at l2
    have g2:=(Qlu z3 (hu _ hm)).1
    rw[←e2]at g2
    show(0≤IntKind.i64.wrap (z.1+1)∧IntKind.i64.wrap (z.1+1)≤x0.A7.length∧x2.A7=x0.A7∧Qbt P k x2∧(x2.D0.length:Int)≤x0.D0.length+IntKind.i64.wrap (z.1+1)∧(x0.A7.drop (IntKind.i64.wrap (z.1+1)).toNat).foldl Q73 x2=_)∧(x2.A7.length-IntKind.i64.wrap (z.1+1)).toNat<(z.2.A7.length-z.1).toNat
    rw[ew,q2,z2]
    refine⟨⟨by omega,by omega,rfl,g2,by omega,?_⟩,by omega⟩
    rw[←z5,List.drop_eq_getElem_cons hlt,List.foldl_cons,show(z.1+1).toNat=z.1.toNat+1 by omega,e2,ed]
  · have hb:=of_decide_eq_false hb
    obtain⟨zi,zr⟩:=z
    have hb: ¬zi<x0.A7.length:=hb
    have ze:zr=x0.A7.foldl Q73 r0:=by
      rw[←z5,List.drop_eq_nil_of_le (by show x0.A7.length≤zi.toNat;omega)];rfl
    rw[←ze]at hA
    have z3:Qbt P k zr:=z3
    have z4:(zr.D0.length:Int)≤x0.D0.length+zi:=z4
    have z1:zi≤x0.A7.length:=z1
    refine w_lp (inv:=λy:Int×Q01×List Q0a=>0≤y.1∧y.1≤Q18 steps∧Qbt P (k+y.1) y.2.1∧(y.2.1.D0.length:Int)≤zr.D0.length+2*y.1∧(y.2.2.length:Int)≤y.1∧recF (Q18 steps-y.1).toNat y.2.1 y.2.2=advF x0 steps clock) (μ:=Q6o x0 steps clock (zi,zr)) ⟨Int.le_refl 0,by show(0:Int)≤_;omega,⟨z3.m,z3.clock,by have:=z3.cnt;show zr.A0.A4≤k+0;omega⟩,by show(zr.D0.length:Int)≤_+2*0;omega,Int.le_refl 0,by rw[hA];show recF (Q18 steps-0).toNat _ _=_;rw[Int.sub_zero];rfl⟩ (Nat.lt_succ_self _) λy ⟨y0,y1,y2,y3,y4,y5⟩=> ?_
    obtain⟨yi,yr,yo⟩:=y
    have y0:0≤yi:=y0
    have y1:yi≤Q18 steps:=y1
    have y2:Qbt P (k+yi) yr:=y2
    have y3:(yr.D0.length:Int)≤zr.D0.length+2*yi:=y3
    have y4:(yo.length:Int)≤yi:=y4
    change recF (Q18 steps-yi).toNat yr yo=_ at y5
    refine w_br (λhb=> ?_) (λhb=> ?_)
    · have hb:yi<Q18 steps:=of_decide_eq_true hb
      have ew:IntKind.i64.wrap (yi+1)=yi+1:=by rw[IntKind.wrap_i64];omega
      have en:(Q18 steps-yi).toNat=(Q18 steps-(yi+1)).toNat+1:=by omega
      rw[en]at y5
      obtain⟨gf,gc⟩:=Qoz y2
      have lf:=Z2v yr
      have mu: ∀q,Q6o x0 steps clock (zi,zr) (IntKind.wrap .i64 (yi+1),q)<Q6o x0 steps clock (zi,zr) (yi,yr,yo):=λq=>by
        show(4000-IntKind.wrap .i64 (yi+1)).toNat<(4000-yi).toNat
        rw[ew];omega
      have nxt: ∀(x:Q01) (o:List Q0a),Q19 (Q38 yr).A0=false→x=Qua (Q38 yr)→o=yo++(Q0t (Q38 yr).A0 (Q38 yr).B1).1→(0≤IntKind.wrap .i64 (yi+1)∧IntKind.wrap .i64 (yi+1)≤Q18 steps∧Qbt P (k+IntKind.wrap .i64 (yi+1)) x∧(x.D0.length:Int)≤zr.D0.length+2*IntKind.wrap .i64 (yi+1)∧(o.length:Int)≤IntKind.wrap .i64 (yi+1)∧recF (Q18 steps-IntKind.wrap .i64 (yi+1)).toNat x o=advF x0 steps clock):=λx o hs hx ho=>by
        have t:=Qq7 gf hs
        have lt:=Z27 (Q38 yr)
        obtain⟨_,_,a3⟩:=Qss gf.m hs gf.clock
        rw[ew,hx,ho]
        refine⟨by omega,by omega,⟨t.m,t.clock,by have:=t.cnt;omega⟩,by omega,by rw[List.length_append];omega,?_⟩
        rw[←y5,recF_go hs]
      have stk: ∀(x:Q01),Q19 (Q38 yr).A0=true→x=Q38 yr→(x,yo)=advF x0 steps clock:=λx hs hx=>by
        rw[←y5,Zbx hs,hx]
      have sg:=Zbe gf.m
      have cn: ∀(o:List Q0a),Q19 (Q38 yr).A0=false→o=(Q0t (Q38 yr).A0 (Q38 yr).B1).1→decide (40*(yo.length+o.length)≤140737488355328)=true:=λo hs ho=>decide_eq_true (by
        obtain⟨_,_,a3⟩:=Qss gf.m hs gf.clock
        rw[ho];omega)
      have sp:=(stepV_pre gf.m.v gf.m.len (clock:=(Q38 yr).B1) gf.clock).1
      have ms:=λhs=>gf.m.step hs (Q38 yr).B1
      have rs:=Zay gf.m.v
      have rp:Q24 (Q38 yr).A0:=(Tree.pp (reads_w0 gf.m.s)).1
      have ip:Q2x (Q38 yr).A0:=midle_w gf.m.ok.target.2
      have lw:=λe=>rlog_w e (r:=Q38 yr) (by omega)
      have tr:=tick_read (r:=Q38 yr)
      have tn:=tick_no (r:=Q38 yr)
      have fin: ∀f:Q01,f=Q38 yr→Qbt P (k+yi) yr→f=f:=λ_ _ _=>rfl
      refine w_lv λx3 e3=>w_br (λhd=>Q0d (Z8d y2.m U_0 (by omega)) λx4 e4=> ?_) (λhd=> ?_)
      · have e5:x4=Q38 yr:=by
          have e3:x3=Qki yr.A0.A9 yr.B1:=e3
          rw[e4];unfold Q38;rw[←e3,hd];rfl
        rw[←e5]at nxt stk sg cn sp ms rs rp ip lw tr tn
        refine w_br (λhh=>stk _ (by rw[sg,hh];rfl) rfl) λhh=>w_an ip (w_lv λx5 i5=>w_br (λhi=>stk _ (by rw[sg,hh,←i5,hi];rfl) rfl) λhi=>w_br (λhct=>stk _ (by rw[sg,hh,←i5,hi,hct];rfl) rfl) λhct=> ?_)
        have hs:Q19 x4.A0=false:=by rw[sg,hh,←i5,hi,hct];rfl
        refine w_an rp (w_lv λx6 e6=>w_br (λhr=>Q0d (lw _) λx7 e7=> ?_) (λhr=>w_an sp (w_lv λx9 e9=>w_cn (cn _ hs (by rw[e9,ms hs])) (w_nx ⟨nxt _ _ hs (by rw[e9,ms hs,tn (by rw[←rs,←e6,hr])]) (by rw[e9,ms hs]),mu _⟩))))
        subst e7
        refine w_an sp (w_lv λx8 e8=>w_cn (cn _ hs (by rw[e8];exact congrArg Prod.snd (ms hs))) (w_nx ⟨nxt _ _ hs ?_ ?_,mu _⟩))
        · rw[tr (by rw[←rs,←e6,hr]),e8]
          exact congrArg (λq:Q00×List Q0a=>({A0:=q.1,B1:=IntKind.wrap .u32 (x4.B1+1),D0:=x4.D0++[{At:=x4.A0.A4,D8:={B8:=1,N:=x4.B1,C5:=[]}}],A7:=x4.A7}:Q01)) (ms hs)
        · rw[e8];exact congrArg (λq:Q00×List Q0a=>yo++q.2) (ms hs)
      · have e5:yr=Q38 yr:=by
          have e3:x3=Qki yr.A0.A9 yr.B1:=e3
          unfold Q38;rw[←e3,hd];rfl
        rw[←e5]at nxt stk sg cn sp ms rs rp ip lw tr tn
        refine w_br (λhh=>stk _ (by rw[sg,hh];rfl) rfl) λhh=>w_an ip (w_lv λx5 i5=>w_br (λhi=>stk _ (by rw[sg,hh,←i5,hi];rfl) rfl) λhi=>w_br (λhct=>stk _ (by rw[sg,hh,←i5,hi,hct];rfl) rfl) λhct=> ?_)
        have hs:Q19 yr.A0=false:=by rw[sg,hh,←i5,hi,hct];rfl
        refine w_an rp (w_lv λx6 e6=>w_br (λhr=>Q0d (lw _) λx7 e7=> ?_) (λhr=>w_an sp (w_lv λx9 e9=>w_cn (cn _ hs (by rw[e9,ms hs])) (w_nx ⟨nxt _ _ hs (by rw[e9,ms hs,tn (by rw[←rs,←e6,hr])]) (by rw[e9,ms hs]),mu _⟩))))
        subst e7
        refine w_an sp (w_lv λx8 e8=>w_cn (cn _ hs (by rw[e8];exact congrArg Prod.snd (ms hs))) (w_nx ⟨nxt _ _ hs ?_ ?_,mu _⟩))
        · rw[tr (by rw[←rs,←e6,hr]),e8]
          exact congrArg (λq:Q00×List Q0a=>({A0:=q.1,B1:=IntKind.wrap .u32 (yr.B1+1),D0:=yr.D0++[{At:=yr.A0.A4,D8:={B8:=1,N:=yr.B1,C5:=[]}}],A7:=yr.A7}:Q01)) (ms hs)
        · rw[e8];exact congrArg (λq:Q00×List Q0a=>yo++q.2) (ms hs)
    · have hb: ¬yi<Q18 steps:=of_decide_eq_false hb
      show(yr,yo)=_
      rw[←y5,show(Q18 steps-yi).toNat=0 by omega];rfl
end Go.Proofs.YtpcbkbalabgnlaaGreat
namespace Go.Proofs.YtpcbkbalabgnlaaGreat
open Go Go.GD
attribute [local irreducible] Q2h
set_option maxRecDepth 100000
theorem recF_st{n:Nat}{r:Q01}{o:List Q0a}(hs:Q19 (Q38 r).A0=true):recF (n+1) r o=(Q38 r,o):=by
 conv=>lhs;unfold recF
 rw[hs];rfl
theorem recF_nx{n:Nat}{r:Q01}{o:List Q0a}(hs:Q19 (Q38 r).A0=false):recF (n+1) r o=recF n (Qua (Q38 r)) (o++(Q0t (Q38 r).A0 (Q38 r).B1).1):=by
 conv=>lhs;unfold recF
 rw[hs];rfl
theorem Z7n{r:Q01}(h:Q7f r.A0=true)(steps clock:Int):advF r steps clock=recF (Q18 steps).toNat (noQ (r.A7.foldl Q73 {A0:=r.A0,B1:=if clock>r.B1 then clock else r.B1,D0:=r.D0,A7:=r.A7})) []:=by
 unfold advF;rw[h];rfl
end Go.Proofs.YtpcbkbalabgnlaaGreat
namespace Go.Proofs.YtpcbkbalabgnlaaGreat
open Go Go.GD
attribute [local irreducible] Q2h
set_option maxRecDepth 100000
structure Qnb(P:Nat)(k:Int)(r:Q01):Prop where
 g:Qbt P k r
 q:okQ r.A7
 l:(r.D0.length:Int)≤3*k
theorem recF_log(n:Nat): ∀(r:Q01) (o:List Q0a),(recF n r o).1.D0.length≤r.D0.length+2*n:=by
 induction n with
 |zero=>intro r o;exact Nat.le_refl _
 | succ n ih=>
   intro r o
   have f:=Z2v r
   cases hs:Q19 (Q38 r).A0
   · rw[recF_nx hs]
     have:=ih (Qua (Q38 r)) (o++(Q0t (Q38 r).A0 (Q38 r).B1).1)
     have:=Z27 (Q38 r)
     omega
   · rw[recF_st hs]
     show(Q38 r).D0.length≤_
     omega
theorem foldl_log(l:List Q08): ∀r:Q01,(l.foldl Q73 r).D0.length≤r.D0.length+l.length:=by
 induction l with
 |nil=>intro r;exact Nat.le_refl _
 | cons e l ih=>
   intro r
   have:=ih (Q73 r e)
   have:=Qpc r e
   rw[List.foldl_cons,List.length_cons];omega
theorem advF_log(r:Q01)(steps clock:Int):(advF r steps clock).1.D0.length≤r.D0.length+r.A7.length+8000:=by
 obtain⟨l0,l1⟩:=Qnp steps
 cases hm:Q7f r.A0
 · unfold advF;rw[hm]
   show r.D0.length≤_
   omega
 · rw[Z7n hm]
   have a:=recF_log (Q18 steps).toNat (noQ (r.A7.foldl Q73 {A0:=r.A0,B1:=if clock>r.B1 then clock else r.B1,D0:=r.D0,A7:=r.A7})) []
   have b:=foldl_log r.A7 {A0:=r.A0,B1:=if clock>r.B1 then clock else r.B1,D0:=r.D0,A7:=r.A7}
   have b:(noQ (r.A7.foldl Q73 {A0:=r.A0,B1:=if clock>r.B1 then clock else r.B1,D0:=r.D0,A7:=r.A7})).D0.length≤r.D0.length+r.A7.length:=b
   omega
theorem recF_outs{P:Nat}(n:Nat): ∀{k:Int} {r:Q01} (o:List Q0a),Qbt P k r→(recF n r o).2.length≤o.length+n:=by
 induction n with
 |zero=>intro k r o _;exact Nat.le_refl _
 | succ n ih=>
   intro k r o h
   obtain⟨f,_⟩:=Qoz h
   cases hs:Q19 (Q38 r).A0
   · rw[recF_nx hs]
     have:=ih (o++(Q0t (Q38 r).A0 (Q38 r).B1).1) (Qq7 f hs)
     obtain⟨_,_,a3⟩:=Qss f.m hs f.clock
     rw[List.length_append]at this
     omega
   · rw[recF_st hs]
     show o.length≤_
     omega
theorem Zb2{P:Nat}{k:Int}{r:Q01}(h:Qbt P k r)(hq:okQ r.A7){clock:Int}(hc:U clock):Qbt P k (noQ (r.A7.foldl Q73 {A0:=r.A0,B1:=if clock>r.B1 then clock else r.B1,D0:=r.D0,A7:=r.A7})):=by
 have hcl:U (if clock>r.B1 then clock else r.B1):=by split<;>first|exact hc|exact h.clock
 obtain⟨a,b⟩:=Qz4 r.A7 (r:={A0:=r.A0,B1:=if clock>r.B1 then clock else r.B1,D0:=r.D0,A7:=r.A7}) ⟨h.m,hcl,h.cnt⟩ hq.2
 exact⟨a.m,a.clock,a.cnt⟩
theorem advF_outs{P:Nat}{k:Int}{r:Q01}(h:Qbt P k r)(hq:okQ r.A7)(steps:Int){clock:Int}(hc:U clock):(advF r steps clock).2.length≤4000:=by
 obtain⟨l0,l1⟩:=Qnp steps
 rw[Z7n h.m.rmay]
 have:=recF_outs (Q18 steps).toNat [] (Zb2 h hq hc)
 have e:([]:List Q0a).length=0:=rfl
 omega
theorem advP{P:Nat}{k:Int}{r:Q01}(h:Qnb P k r)(steps:Int){clock:Int}(hc:U clock):Qnb P (k+4000) (advF r steps clock).1:=by
 obtain⟨a,b⟩:=advF_keep h.g h.q steps hc
 have c:=advF_log r steps clock
 have d:=h.q.1
 have e:=h.l
 exact⟨a,b,by omega⟩
theorem arriveP{P:Nat}{k:Int}{r:Q01}(h:Qnb P k r){e:Q08}(he:U e.N):Qnb P k (Q8a r e).1:=by
 obtain⟨a,b⟩:=Z6h h.g h.q he
 refine⟨a,b,?_⟩
 have:=h.l
 rw[Qev]
 cases Q5j e<;>cases e.B8==1<;>cases decide ((r.A7.length:Int)≥16)<;>exact this
theorem newP{P:Nat}{m:Q00}(h:good P m)(hc:m.A4≤87):Qnb P 87 {A0:=m,B1:=0,D0:=[],A7:=[]}:=
 ⟨⟨h,U_0,hc⟩,⟨Nat.zero_le _,λq hq=>by cases hq⟩,by show((0:Nat):Int)≤_;omega⟩
theorem rnew_w{m:Q00}(h:m.Mem.length≤1024):(Q8k m).w (λx=>x={A0:=m,B1:=0,D0:=[],A7:=[]}):=by
 unfold Q8k
 refine w_an (Qoo (r:=⟨m,0,[],[]⟩) h (Nat.zero_le _) (Nat.zero_le _)) (w_lv λx hx=> ?_)
 show x=_
 rw[hx,Qtz]
theorem Z2f{r:Q01}(hm:r.A0.Mem.length≤1024)(hl:r.D0.length≤1000000)(hq:r.A7.length≤1000000){e:Q08}(he:U e.N):(Q5f r e).w (λx=>x=Q8a r e):=by
 have hv:=Zcb he
 unfold Q5f
 refine w_an (Qoo hm hl hq) (w_lv λx0 h0=>w_lv λx1 h1=> ?_)
 rw[Qtz]at h0
 subst h0
 rw[h1,hv]
 refine w_br (λhb=> ?_) λhb=>w_br (λhk=> ?_) λhk=>w_br (λhl=> ?_) λhl=>w_cn (decide_eq_true (by omega)) ?_
 · show(x0,false)=_;rw[Qev,hb];rfl
 · show(x0,false)=_;rw[Qev,hb,hk];rfl
 · show(x0,false)=_;rw[Qev,hb,hk,hl];rfl
 · show(_,true)=_;rw[Qev,hb,hk,hl];rfl
theorem advP_w{P:Nat}{k:Int}{r:Q01}(h:Qnb P k r)(hk:k≤250000)(steps:Int){clock:Int}(hc:U clock):(Q3k r steps clock).w (λx=>x=advF r steps clock∧Qnb P (k+4000) x.1∧x.2.length≤4000):=
 Tree.mono _ (λx hx=>by rw[hx];exact⟨rfl,advP h steps hc,advF_outs h.g h.q steps hc⟩) (radv_w h.g steps hc (by have:=h.l;omega) (by have:=h.q.1;omega) h.q.2)
theorem aw21{W:Bool→Prop}(h:W true):(Tree.an Q5n (.lv Qac λx=> .lf x)).w W:=w_an awake_pre (w_lv λx e=>by show W x;rw[e,Za3];exact h)
end Go.Proofs.YtpcbkbalabgnlaaGreat
namespace Go.Proofs.YtpcbkbalabgnlaaGreat
open Go Go.GD
set_option maxRecDepth 100000
set_option synthInstance.maxHeartbeats 2000000
set_option synthInstance.maxSize 100000
noncomputable section
theorem echo_pre:Qig:=ck (ckT (t:=Qf9) (by delta Qf9;infer_instance)) (by kernel_rfl)
end
def Qlv:List Int:=[1007681537,672202751,1008730112,1025507328,805371900,0,0,0,0,0,0,0,0,0,0,0,0,0,0,0,0,0,0,0,0,0,0,0,0,0,0,0]
def Z7e(mem:List Int)(pc c:Int)(t:Q0h):Q00:={B4:={X:={a0:=0,a1:=0,a2:=0,a3:=0,a4:=0,a5:=0,a6:=0,a7:=0,a8:=0,a9:=0,a10:=0,a11:=0,a12:=0,a13:=0,a14:=0,a15:=0},Pc:=pc,B5:={a0:=1,a1:=0,a2:=0,a3:=0,a4:=0,a5:=0,a6:=0,a7:=0}},Mem:=mem,A2:={D2:=[]},A9:=t,B2:={Blocks:=0,C1:=0,B3:=0,B9:=0,D7:=0,B6:=0,B0:=0,C3:=[]},C6:={B3:=0,F0:=0,C4:=false,C0:=0,B7:=false,F2:=0},A1:={C8:=0,C2:=0},A4:=c,A3:=false,A6:=false}
theorem echo_eq:Qjz=Z7e Qlv 0 0 {D6:=false,C7:=0,D5:=false}:=by kernel_rfl
theorem echo_may(pc c:Int)(t:Q0h)(ht:Q7n t=true):Q7f (Z7e Qlv pc c t)=decide (c≤1152921504606846976):=by
 have e:Q7f (Z7e Qlv pc c t)=bif !Q7n t then false else bif decide (c≤1152921504606846976) then true else false:=by kernel_rfl
 rw[e,ht]
 cases decide (c≤1152921504606846976)<;>rfl
theorem Zal{pc c:Int}{t:Q0h}(hp:pc=0∨pc=4)(h0:0≤c)(hc:c<1152921504606846976)(ht:Q7n t=true):good 1 (Z7e Qlv pc c t):=by
 have up:U pc:=by rcases hp with rfl|rfl<;>exact⟨by decide,by decide⟩
 have ok:okM 1 (Z7e Qlv pc c t):=⟨⟨U_all 16,up,λw hw=>by
   have:w=1∨w=0:=by simpa [Z7e,A8.l] using hw
   rcases this with rfl|rfl<;>exact⟨by decide,by decide⟩⟩,⟨rfl,by omega,by omega,(asm_gen Qlv (by kernel_rfl)).2⟩,⟨U_0,U_0,U_0,U_0⟩,⟨U_0,U_0,U_0,U_0⟩,⟨U_0,U_0⟩,h0⟩
 refine⟨ok,?_⟩
 have v:okV (Z7e Qlv pc c t):=⟨ok.cpu,ok.mem.u,ok.disk,ok.nic,ok.target,ok.cnt⟩
 rw[Qsl v,echo_may pc c t ht]
 exact decide_eq_true (by omega)
theorem echo_good:good 1 Qjz∧Qjz.A4=0:=by
 rw[echo_eq]
 exact⟨Zal (.inl rfl) (by decide) (by decide) rfl,rfl⟩
end Go.Proofs.YtpcbkbalabgnlaaGreat
namespace Go.Proofs.YtpcbkbalabgnlaaGreat
open Go Go.GD
attribute [local irreducible] Q2h
set_option maxRecDepth 100000
theorem and255i(a:Int):0≤iand .i64 a 255∧iand .i64 a 255≤255:=by
 unfold iand
 rw[IntKind.wrap_i64]
 have:(BitVec.ofInt IntKind.i64.bits a&&&BitVec.ofInt IntKind.i64.bits 255).toNat≤255:=by
   show(BitVec.ofInt 64 a&&&BitVec.ofInt 64 255).toNat≤255
   rw[BitVec.toNat_and]
   exact Nat.le_trans Nat.and_le_right (by decide)
 omega
theorem wrap255(a:Int):0≤IntKind.wrap .u32 (iand .i64 a 255)∧IntKind.wrap .u32 (iand .i64 a 255)≤255:=by
 have:=and255i a
 rw[IntKind.wrap_u32];omega
theorem Z8q(n k:Int)(h0:0≤k)(h1:k≤1000):(Qob n k).length=k.toNat:=by
 show Tree.V (Qci n k) (λs=>s.length=k.toNat)
 unfold Qci
 refine v_lp (inv:=λv:Int×List Int=>0≤v.1∧v.1≤k∧v.2.length=v.1.toNat) (μ:=Qb4 n k) ⟨Int.le_refl 0,h0,rfl⟩ (Nat.lt_succ_self _) λv ⟨a,b,c⟩=> ?_
 refine v_br (λhb=> ?_) (λhb=> ?_)
 · have hb:=of_decide_eq_true hb
   have e:IntKind.i64.wrap (v.1+1)=v.1+1:=by rw[IntKind.wrap_i64];omega
   refine v_lv λx _=>v_cn (v_nx ?_)
   show(0≤IntKind.i64.wrap (v.1+1)∧IntKind.i64.wrap (v.1+1)≤k∧(v.2++[_]).length=(IntKind.i64.wrap (v.1+1)).toNat)∧(k-IntKind.i64.wrap (v.1+1)).toNat<(k-v.1).toNat
   rw[e,List.length_append,List.length_singleton]
   exact⟨⟨by omega,by omega,by omega⟩,by omega⟩
 · have hb:=of_decide_eq_false hb
   refine v_lf ?_
   show(bytesOf v.2).length=_
   unfold bytesOf
   rw[List.length_map,c];omega
theorem mix_pos(n k:Int):0≤Qnj n k:=by
 show Tree.V (Qk8 n k) (λx=>0≤x)
 unfold Qk8
 refine v_lv λx hx=>v_lf ?_
 have r:0≤x.1∧x.1<18446744073709551616:=by
   rw[hx]
   show 0≤IntKind.wrap .u64 _∧IntKind.wrap .u64 _<_
   rw[IntKind.wrap_u64];omega
 show 0≤IntKind.wrap .i64 (x.1.fdiv 2)
 rw[Int.fdiv_eq_ediv_of_nonneg _ (by decide),IntKind.wrap_i64];omega
def evOK(e:Q08):Prop:=Q5j e=true∧e.B8≠1
theorem Z3t{n:Int}(h:n≤255):Q5j {B8:=3,N:=n,C5:=[]}=true:=by
 show(bif decide (n≤255) then decide (([]:List UInt8)=[]) else false)=true
 rw[decide_eq_true h];rfl
theorem Zaf{s:List UInt8}(h:s.length=128):Q5j {B8:=4,N:=1,C5:=s}=true:=by
 show(bif decide (s=[]) then true else(s.length:Int)==128)=true
 rw[h];cases decide (s=[])<;>rfl
theorem valid_net{s:List UInt8}(h1:1≤s.length)(h2:s.length≤128):Q5j {B8:=5,N:=0,C5:=s}=true:=by
 show(bif decide ((s.length:Int)≥1) then decide ((s.length:Int)≤128) else false)=true
 rw[decide_eq_true (show(s.length:Int)≥1 by omega),decide_eq_true (show(s.length:Int)≤128 by omega)];rfl
theorem event_ok(n:Int):evOK (Qku n):=by
 show Tree.V (Q8i n) evOK
 unfold Q8i
 refine v_lv λx hx=> ?_
 have x0:0≤x:=by rw[hx];exact mix_pos n 2
 have i2: ∀k:Int,k≠1→ ¬k=1:=λ_ h=>h
 refine v_br (λ_=>v_lf ⟨rfl,by decide⟩) λ_=>v_br (λ_=>v_lf ⟨Z3t (wrap255 _).2,by show(3:Int)≠1;decide⟩) λ_=>v_br (λ_=>v_lf ⟨Z3t (wrap255 _).2,by show(3:Int)≠1;decide⟩) λ_=>v_br (λ_=>v_lf ⟨rfl,by decide⟩) λ_=>v_br (λ_=>v_an (v_lv λy hy=>v_lf ⟨Zaf ?_,by show(4:Int)≠1;decide⟩)) λ_=>v_br (λ_=>v_an (v_lv λy hy=>v_lf ⟨?_,by show(5:Int)≠1;decide⟩)) λ_=>v_br (λ_=>v_lf ⟨rfl,by decide⟩) λ_=>v_lf ⟨rfl,by show(6:Int)≠1;decide⟩
 · rw[hy,Z8q _ _ (by decide) (by decide)];rfl
 · have s0:0≤ishr .i64 x 8:=by
     unfold ishr
     exact Int.fdiv_nonneg x0 (Int.le_of_lt (Int.pow_pos (by decide)))
   have t1:=Int.tmod_lt_of_pos (ishr .i64 x 8) (b:=40) (by decide)
   have t0:=Int.tmod_nonneg 40 s0
   have e:IntKind.i64.wrap (1+Int.tmod (ishr .i64 x 8) 40)=1+Int.tmod (ishr .i64 x 8) 40:=by rw[IntKind.wrap_i64];omega
   rw[e]at hy
   have:=Z8q x (1+Int.tmod (ishr .i64 x 8) 40) (by omega) (by omega)
   rw[←hy]at this
   exact valid_net (by omega) (by omega)
structure logOK(c0:Int)(r:Q01):Prop where
 pw:r.D0.Pairwise λa b=>a.At≤b.At∧(a.D8.B8=1→a.At<b.At∧(b.D8.B8=1→a.D8.N≤b.D8.N))
 all: ∀e∈r.D0,c0≤e.At∧e.At≤r.A0.A4∧Q5j e.D8=true∧(e.D8.B8=1→e.At<r.A0.A4∧e.D8.N<r.B1∧0≤e.D8.N)
 q: ∀e∈r.A7,evOK e
 c:c0≤r.A0.A4
theorem logOK.with{c0:Int}{r x:Q01}(h:logOK c0 r)(hl:x.D0=r.D0)(hm:x.A0.A4=r.A0.A4)(hc:r.B1≤x.B1)(hq: ∀e∈x.A7,evOK e):logOK c0 x:=
 ⟨by rw[hl];exact h.pw,by
   rw[hl,hm]
   exact λe he=>⟨(h.all e he).1,(h.all e he).2.1,(h.all e he).2.2.1,λk=>⟨((h.all e he).2.2.2 k).1,by have:=((h.all e he).2.2.2 k).2.1;omega,((h.all e he).2.2.2 k).2.2⟩⟩,hq,by rw[hm];exact h.c⟩
structure logP(c0 k B:Int)(r:Q01):Prop where
 p:Qnb 8 k r
 l:logOK c0 r
 b:r.B1≤B
end Go.Proofs.YtpcbkbalabgnlaaGreat
namespace Go.Proofs.YtpcbkbalabgnlaaGreat
open Go Go.GD
attribute [local irreducible] Q2h
set_option maxRecDepth 100000
theorem Z30{r:Q01}{e:Q08}(he:evOK e):Q8a r e=bif decide ((r.A7.length:Int)≥16) then(r,false) else({A0:=r.A0,B1:=r.B1,D0:=r.D0,A7:=r.A7++[e]},true):=by
 rw[Qev,he.1,show(e.B8==1)=false from beq_false_of_ne he.2];rfl
theorem queues(many n:Int):Qd7 many n∧Qc2 many n=true:=by
  have aw:(Tree.an Q5n (.lv Qac λx=> .lf x)).w (λr=>r=true):=aw21 rfl
  refine Tree.pp (W:=λr=>r=true) ?_
  unfold Q7h
  refine w_br (λ_=>aw) λh0=>w_br (λ_=>aw) λh40=>w_an echo_pre (w_lv λm hm=> ?_)
  have h0:=of_decide_eq_false h0
  have h40:=of_decide_eq_false h40
  have gm:good 1 m∧m.A4=0:=by rw[hm];exact echo_good
  refine Q0d (rnew_w gm.1.len) λx3 e3=> ?_
  have p3:Qnb 1 87 x3:=by rw[e3];exact newP gm.1 (by rw[gm.2];decide)
  have q3:x3.A7=[]:=by rw[e3]
  refine w_lp (inv:=λv:Int×Int×Q01=>0≤v.2.1∧v.2.1≤many∧Qnb 1 87 v.2.2∧v.1=(if 16<v.2.1 then 16 else v.2.1)∧(v.2.2.A7.length:Int)=v.1) (μ:=Q4u many n) ⟨Int.le_refl 0,by show(0:Int)≤many;omega,p3,rfl,by show(x3.A7.length:Int)=0;rw[q3];rfl⟩ (Nat.lt_succ_self _) λv ⟨a1,a2,a3,a4,a5⟩=> ?_
  obtain⟨k,i,r⟩:=v
  have a1:0≤i:=a1
  have a2:i≤many:=a2
  have a3:Qnb 1 87 r:=a3
  have a4:k=if 16<i then 16 else i:=a4
  have a5:(r.A7.length:Int)=k:=a5
  have hl:=a3.l
  have hq:=a3.q.1
  refine w_br (λhb=> ?_) (λhb=> ?_)
  · have hb:i<many:=of_decide_eq_true hb
    have ew:IntKind.i64.wrap (i+1)=i+1:=by rw[IntKind.wrap_i64];omega
    have mu: ∀q s,Q4u many n (q,IntKind.wrap .i64 (i+1),s)<Q4u many n (k,i,r):=λq s=>by
      show(many-IntKind.wrap .i64 (i+1)).toNat<(many-i).toNat
      rw[ew];omega
    refine w_an (Tree.pp (event_w _)).1 (w_lv λx4 e4=> ?_)
    have u4:U x4.N:=by rw[e4];exact event_U _
    have v4:evOK x4:=by rw[e4];exact event_ok _
    refine Q0d (Z2f a3.g.m.len (by omega) (by omega) u4) λx5 e5=> ?_
    have p5:Qnb 1 87 x5.1:=by rw[e5];exact arriveP a3 u4
    rw[Z30 v4]at e5
    refine w_br (λht=>w_nx ⟨?_,mu _ _⟩) (λht=>w_nx ⟨?_,mu _ _⟩)
    · have hd:decide ((r.A7.length:Int)≥16)=false:=by
        cases hd:decide ((r.A7.length:Int)≥16)
        · rfl
        · rw[hd]at e5;rw[e5]at ht;cases ht
      rw[hd]at e5
      have hd:=of_decide_eq_false hd
      have kw:IntKind.i64.wrap (k+1)=k+1:=by rw[IntKind.wrap_i64];omega
      show 0≤IntKind.i64.wrap (i+1)∧IntKind.i64.wrap (i+1)≤many∧Qnb 1 87 x5.1∧IntKind.i64.wrap (k+1)=(if 16<IntKind.i64.wrap (i+1) then 16 else IntKind.i64.wrap (i+1))∧(x5.1.A7.length:Int)=IntKind.i64.wrap (k+1)
      rw[ew,kw]
      refine⟨by omega,by omega,p5,by split at a4<;>split<;>omega,?_⟩
      rw[e5]
      show((r.A7++[x4]).length:Int)=_
      rw[List.length_append,List.length_singleton];omega
    · have hd:decide ((r.A7.length:Int)≥16)=true:=by
        cases hd:decide ((r.A7.length:Int)≥16)
        · rw[hd]at e5;rw[e5]at ht;cases ht
        · rfl
      rw[hd]at e5
      have hd:=of_decide_eq_true hd
      show 0≤IntKind.i64.wrap (i+1)∧IntKind.i64.wrap (i+1)≤many∧Qnb 1 87 x5.1∧k=(if 16<IntKind.i64.wrap (i+1) then 16 else IntKind.i64.wrap (i+1))∧(x5.1.A7.length:Int)=k
      rw[ew]
      refine⟨by omega,by omega,p5,by split at a4<;>split<;>omega,?_⟩
      rw[e5];exact a5
  · have hb: ¬i<many:=of_decide_eq_false hb
    refine Q0d (advP_w a3 (by decide) 0 U_0) λx6 ⟨e6,p6,_⟩=> ?_
    have q6:x6.1.A7=[]:=by
      rw[e6,Z7n a3.g.m.rmay,Qz];rfl
    refine Q0d (Z2f p6.g.m.len (by have:=p6.l;omega) (by rw[q6];decide) (by show U 65;exact⟨by decide,by decide⟩)) λx7 e7=> ?_
    have t7:x7.2=true:=by
      rw[e7,Z30 ⟨rfl,by show(3:Int)≠1;decide⟩,q6];rfl
    have t1:(k==if 16<many then 16 else many)=true:=by rw[a4,show i=many by omega];exact beq_self_eq_true _
    refine w_br (λ_=>w_br (λ_=>w_br (λ_=>w_br (λ_=>aw) λh=> ?_) λh=> ?_) λh=> ?_) λh=> ?_
    · rw[t7]at h;cases h
    · rw[q6]at h;cases h
    · rw[a5]at h;simp at h
    · rw[t1]at h;cases h
end Go.Proofs.YtpcbkbalabgnlaaGreat

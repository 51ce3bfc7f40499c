/-
  A part of the proof.
-/
import Derived.Test.YtpcbkbalabgnlaaGreatRecordTimerLaws2
import Derived.Test.YtpcbkbalabgnlaaGreatRecordTimerNewsB
import Derived.Test.YtpcbkbalabgnlaaGreatRecordTimerZg
import Derived.Test.YtpcbkbalabgnlaaGreatRecordTimerZt
import Derived.Test.YtpcbkbalabgnlaaGreatRecordTimerFe
set_option linter.unusedVariables false
set_option linter.unusedSimpArgs false
namespace Go.Proofs.YtpcbkbalabgnlaaGreat
open Go Go.GD
set_option maxRecDepth 100000
end Go.Proofs.YtpcbkbalabgnlaaGreat
namespace Go.Proofs.YtpcbkbalabgnlaaGreat
open Go Go.GD
set_option maxRecDepth 100000
theorem limited_w(steps:Int):0≤Q18 steps∧Q18 steps≤4000:=by
 refine Tree.post (Qex steps) (W:=λr=>0≤r∧r≤4000) ?_
 unfold Qex
 refine w_lf ?_
 constructor<;>(repeat' split)<;>omega
end Go.Proofs.YtpcbkbalabgnlaaGreat
namespace Go.Proofs.YtpcbkbalabgnlaaGreat
open Go Go.GD
set_option maxRecDepth 100000
section
variable {P:Nat} {m:Q00} (h:okM P m)
include h
theorem min_w(port:Int){clock:Int}(hc:U clock):(Qn m port clock).w (λx=>U x.1∧okM P x.2∧x.2.A4=m.A4):=by
 have k:=(⟨h,rfl⟩:okM P m∧m.A4=m.A4)
 obtain⟨h1,h2,h3,h4,h5,h7⟩:=h
 unfold Qn
 exact w_br (λ_=>w_lv λx hx=>⟨hx▸Z5s _ _,⟨⟨h1,h2,h3,h4,h5,h7⟩,rfl⟩⟩) (λ_=>w_br (λ_=>⟨hc,k⟩) (λ_=>w_br (λ_=>w_lv λx hx=>⟨hx▸timerIn_w _,k⟩) (λ_=>w_br (λ_=>w_lv λx hx=>⟨hx▸diskIn_w h3 _,k⟩) (λ_=>w_br (λ_=>w_lv λx hx=>⟨hx▸nicIn_w h4 _,k⟩) (λ_=>w_lv λx hx=>⟨hx▸Z64 h5.1 _,k⟩)))))
theorem mout_w(port:Int){v:Int}(hv:U v):(Qgm m port v).w (λx=>x.1.length≤1∧okM P x.2∧x.2.A4=m.A4):=by
 have k:=(⟨h,rfl⟩:okM P m∧m.A4=m.A4)
 obtain⟨h1,h2,h3,h4,h5,h7⟩:=h
 unfold Qgm
 exact w_br (λ_=>⟨Nat.le_refl _,k⟩) (λ_=>w_br (λ_=>⟨Nat.zero_le _,k⟩) (λ_=>w_br (λ_=>w_lv λ_ _=>⟨Nat.zero_le _,⟨⟨h1,h2,h3,h4,h5,h7⟩,rfl⟩⟩) (λ_=>w_br (λ_=>Q0c (diskOut_w h2 h3 _ hv _) λx hx=>⟨hx.2,⟨⟨h1,h2,hx.1,h4,h5,h7⟩,rfl⟩⟩) (λ_=>w_br (λ_=>Q0c (nicOut_w h2 h4 _ hv _) λx hx=>⟨hx.2,⟨⟨h1,h2,h3,hx.1,h5,h7⟩,rfl⟩⟩) (λ_=>Q0c (give_w h2 h5 _ hv) λx hx=>⟨Nat.zero_le _,⟨⟨h1,hx.2,h3,h4,hx.1,h7⟩,rfl⟩⟩)))))
theorem Z9v{clock:Int}(hc:U clock):(Qgh m clock).w (λx=>x.1.length≤1∧okM P x.2∧x.2.A4=IntKind.wrap .u64 (m.A4+1)):=by
 obtain⟨h1,h2,h3,h4,h5,h7⟩:=h
 unfold Qgh
 refine Q0c (Qzs h1) λx0 c0=>Q0c (do_w c0 h2) λx1 hx=> ?_
 obtain⟨c1,v1,m1⟩:=hx
 refine w_br (λ_=>Z8t (min_w (m:=⟨_,_,_,_,_,_,_,_,_,_⟩) ⟨c1,m1,h3,h4,h5,h7⟩ _ hc) λx2 hx=> ?_) (λ_=>w_br (λ_=>Q0c (mout_w (m:=⟨_,_,_,_,_,_,_,_,_,_⟩) ⟨c1,m1,h3,h4,h5,h7⟩ _ v1) λx4 hx=> ?_) (λ_=> ?_))
 · obtain⟨u,⟨k1,k2,k3,k4,k5,k7⟩,k6⟩:=hx
   exact Q0c (Qz4 k1 _ u) λx3 h3=>⟨Nat.zero_le _,⟨h3,k2,k3,k4,k5,w0 _⟩,congrArg (λn=>IntKind.wrap .u64 (n+1)) k6⟩
 · obtain⟨u,⟨k1,k2,k3,k4,k5,k7⟩,k6⟩:=hx
   exact⟨u,⟨k1,k2,k3,k4,k5,w0 _⟩,congrArg (λn=>IntKind.wrap .u64 (n+1)) k6⟩
 · repeat'(first
     |exact⟨Nat.zero_le _,⟨c1,m1,h3,h4,h5,w0 _⟩,rfl⟩
     |refine w_br (λ_=> ?_) (λ_=> ?_))
end
theorem U_all(n:Nat): ∀w∈List.replicate n (0:Int),U w:=λw hw=>by rw[(List.mem_replicate.1 hw).2];exact U_0
end Go.Proofs.YtpcbkbalabgnlaaGreat
namespace Go.Proofs.YtpcbkbalabgnlaaGreat
open Go Go.GD
set_option maxRecDepth 100000
set_option synthInstance.maxHeartbeats 2000000
set_option synthInstance.maxSize 100000
noncomputable section
instance ref1_lines_ck (src:(List UInt8)):Ck (Qgb src):=ckT (t:=Qd4 src) (by delta Qd4;infer_instance)
instance ref1_tokens_ck (s:(List UInt8)):Ck (Qff s):=ckT (t:=Qbb s) (by delta Qbb;infer_instance)
instance ref1_digits_ck (n:Int):Ck (Q3f n):=let d:Decidable (Q3f n):=(by delta Q3f;infer_instance);⟨@decide _ d,@of_decide_eq_true _ d⟩
instance ref1_Decimal_ck (n:Int):Ck (Qdo n):=ckT (t:=Q6j n) (by delta Q6j;infer_instance)
instance ref1_reg_ck (r:Int):Ck (Qiz r):=ckT (t:=Qby r) (by delta Qby;infer_instance)
instance ref1_name_ck (s:(List UInt8)):Ck (Qe5 s):=ckT (t:=Qfp s) (by delta Qfp;infer_instance)
instance Zbl (op:Int):Ck (Qbs op):=ckT (t:=Q8e op) (by delta Q8e;infer_instance)
instance Z9z (s:(List UInt8)):Ck (Q3d s):=ckT (t:=Q7k s) (by delta Q7k;infer_instance)
instance ref1_pattern_ck (what:(List UInt8)):Ck (Q5y what):=ckT (t:=Q9w what) (by delta Q9w;infer_instance)
instance ref1_number_ck (s:(List UInt8)):Ck (Qf6 s):=ckT (t:=Qbd s) (by delta Qbd;infer_instance)
instance ref1_matched_ck (l:(List Q0e)) (p:(List UInt8)):Ck (Q6 l p):=ckT (t:=Q9r l p) (by delta Q9r;infer_instance)
instance ref1_parsed_ck (s:(List UInt8)):Ck (Qet s):=ckT (t:=Qbl s) (by delta Qbl;infer_instance)
instance ref1_address_ck (l:(List Q1y)) (label:(List UInt8)):Ck (Q3k l label):=let d:Decidable (Q3k l label):=(by delta Q3k;infer_instance);⟨@decide _ d,@of_decide_eq_true _ d⟩
instance ref1_read_ck (src:(List UInt8)):Ck (Qhq src):=ckT (t:=Qeg src) (by delta Qeg;infer_instance)
instance ref1_inst_ck (st:Q06) (v:Int):Ck (Q98 st v):=ckT (t:=Qer st v) (by delta Qer;infer_instance)
instance Zby (src:(List UInt8)):Ck (Qbv src):=ckT (t:=Q87 src) (by delta Q87;infer_instance)
def inU(x:Int):Bool:=decide (0≤x)&&decide (x<4294967296)
theorem asm_gen(l:List Int)(h:(Nat.ble l.length 160&&List.all l inU)=true):l.length≤160∧ ∀w∈l,U w:=by
 rw[Bool.and_eq_true]at h
 refine⟨Nat.le_of_ble_eq_true h.1,λw hw=> ?_⟩
 have:=List.all_eq_true.1 h.2 w hw
 simp only[inU,Bool.and_eq_true,decide_eq_true_eq]at this
 exact this
end
end Go.Proofs.YtpcbkbalabgnlaaGreat
namespace Go.Proofs.YtpcbkbalabgnlaaGreat
open Go Go.GD
set_option maxRecDepth 100000
end Go.Proofs.YtpcbkbalabgnlaaGreat
namespace Go.Proofs.YtpcbkbalabgnlaaGreat
open Go Go.GD
set_option maxRecDepth 100000
end Go.Proofs.YtpcbkbalabgnlaaGreat
namespace Go.Proofs.YtpcbkbalabgnlaaGreat
open Go Go.GD
set_option maxRecDepth 100000
noncomputable section
end
end Go.Proofs.YtpcbkbalabgnlaaGreat
namespace Go.Proofs.YtpcbkbalabgnlaaGreat
open Go Go.GD
attribute [local irreducible] Q2y
set_option maxRecDepth 100000
end Go.Proofs.YtpcbkbalabgnlaaGreat
namespace Go.Proofs.YtpcbkbalabgnlaaGreat
open Go Go.GD
set_option maxRecDepth 100000
def out(f:Int)(m m':List Int):Prop:= ∀j:Nat,¬(f*32≤j∧(j:Int)<f*32+32)→m'.getD j 0=m.getD j 0
theorem Qkb(f:Int)(m:List Int):out f m m:=λ_ _=>rfl
theorem getDset(l:List Int)(i j:Nat)(v:Int)(h:i≠j):(l.set i v).getD j 0=l.getD j 0:=by
 simp only[List.getD_eq_getElem?_getD,List.getElem?_set_ne h]
theorem Q3o{P:Nat}{m:List Int}(h:Q0u P m):Q0o m=P:=by
 obtain⟨h1,h2,h3,_⟩:=h
 simp only[Q0o,Q9x,Tree.m]
 have e:(m.length:Int)=32*P:=by omega
 rw[e]
 have e1:(Int.tmod (32*(P:Int)) 32 !=0)=false:=by simp [Int.mul_tmod_right]
 have e2:decide ((32*(P:Int))>1024)=false:=decide_eq_false (by omega)
 rw[e1,e2]
 simp only[cond_false]
 rw[Int.mul_tdiv_cancel_left _ (by decide),IntKind.wrap_i64];omega
theorem has_eq{P:Nat}{m:List Int}(h:Q0u P m)(f:Int):Q55 m f=true→0≤f∧f<P:=by
 have hp:=Q3o h
 simp only[Q55,Q7o,Tree.m,letv,hp]
 cases h1:decide (f≥0)
 · intro h;cases h
 · intro h;exact⟨of_decide_eq_true h1,of_decide_eq_true h⟩
theorem Qv5{P:Nat}{m:List Int}(h:Q0u P m)(f:Int)(s:List UInt8):(Q1z m f s).w (λr=>Q0u P r.1∧out f m r.1∧(r.2=false→r.1=m)):=by
 have hcl:Q02 m=m:=rfl
 have h2:=h.p2
 unfold Q1z
 refine w_an (Q8i h) (w_lv λx0 hx0=>w_lv λx1 hx1=> ?_)
 rw[hcl]at hx0;subst hx0
 refine w_br (λ_=>⟨h,Qkb _ _,λ_=>rfl⟩) λhb=>w_br (λ_=>⟨h,Qkb _ _,λ_=>rfl⟩) λhs=> ?_
 have hb:x1=true:=by simpa using hb
 obtain⟨f0,f1⟩:=has_eq h f (hx1.symm.trans hb)
 have hs:(s.length:Int)=128:=by simpa using hs
 refine w_lp (inv:=λz:Int×List Int=>0≤z.1∧z.1≤32∧Q0u P z.2∧out f x0 z.2) (μ:=Q9c x0 f s) ⟨show(0:Int)≤0 by decide,show(0:Int)≤32 by decide,h,Qkb _ _⟩ (Nat.lt_succ_self _) λz ⟨z1,z2,z3,z4⟩=> ?_
 refine w_br (λhb=> ?_) (λ_=>⟨z3,z4,λh=>by cases h⟩)
 have hb:=of_decide_eq_true hb
 have e1:IntKind.i64.wrap (4*z.1)=4*z.1:=by rw[IntKind.wrap_i64];omega
 have e2:IntKind.i64.wrap (IntKind.i64.wrap (4*z.1)+4)=4*z.1+4:=by rw[IntKind.wrap_i64,IntKind.wrap_i64];omega
 have e3:IntKind.i64.wrap (IntKind.i64.wrap (f*32)+z.1)=f*32+z.1:=by rw[IntKind.wrap_i64,IntKind.wrap_i64];omega
 have hl:=z3.len
 have hlen:(List.take (Int.toNat (IntKind.i64.wrap (IntKind.i64.wrap (4*z.1)+4))-Int.toNat (IntKind.i64.wrap (4*z.1))) (List.drop (Int.toNat (IntKind.i64.wrap (4*z.1))) s)).length=4:=by
   rw[e2,e1,List.length_take,List.length_drop];omega
 refine w_cn (decide_eq_true (by rw[e2,e1];omega)) ?_
 refine w_cn (decide_eq_true (by rw[hlen];decide)) (w_cn (decide_eq_true (by rw[hlen];decide)) (w_cn (decide_eq_true (by rw[hlen];decide)) (w_cn (decide_eq_true (by rw[hlen];decide)) (w_cn (by rw[e3];simp [Nat.blt];omega) (w_nx ?_)))))
 show(_∧_∧Q0u P (List.set _ _ _)∧out f x0 (List.set _ _ _))∧(_:Nat)<_
 have ew:IntKind.i64.wrap (z.1+1)=z.1+1:=by rw[IntKind.wrap_i64];omega
 rw[e3]
 refine⟨⟨by rw[ew];omega,by rw[ew];omega,⟨by rw[List.length_set];exact hl,z3.p1,z3.p2,Qw2 z3.u (U_or _ _) _⟩,λj hj=> ?_⟩,by show(32-IntKind.i64.wrap (z.1+1)).toNat<(32-z.1).toNat;rw[ew];omega⟩
 rw[getDset _ _ _ _ (by omega)]
 exact z4 j hj
theorem text_w(w:List Int)(h:w.length≤32):(Q5 w).w (λr=>r.length=4*w.length):=by
 have e0:IntKind.i64.wrap (4*(w.length:Int))=4*w.length:=by rw[IntKind.wrap_i64];omega
 unfold Q5
 refine w_cn (by rw[e0];simp [Nat.blt,D.plain];omega) ?_
 refine w_lp (inv:=λz:Int×List Int=>0≤z.1∧z.1≤w.length∧(z.2.length:Int)=4*z.1) (μ:=Q6s w) ⟨by decide,by show(0:Int)≤w.length;omega,rfl⟩ (Nat.lt_succ_self _) λz ⟨z1,z2,z3⟩=> ?_
 refine w_br (λhb=> ?_) (λhb=> ?_)
 · have hb:=of_decide_eq_true hb
   have ew:IntKind.i64.wrap (z.1+1)=z.1+1:=by rw[IntKind.wrap_i64];omega
   refine w_cn (by simp [Nat.blt];omega) (w_cn (decide_eq_true (by omega)) (w_nx ?_))
   show(_∧_∧_)∧(_:Nat)<_
   refine⟨⟨by rw[ew];omega,by rw[ew];omega,by rw[ew,List.length_append];simp only[List.length_cons,List.length_nil];omega⟩,by show(w.length-IntKind.i64.wrap (z.1+1)).toNat<(w.length-z.1).toNat;rw[ew];omega⟩
 · have hb:=of_decide_eq_false hb
   show(bytesOf z.2).length=_
   rw[Qeo];omega
theorem Z6z{P:Nat}{m:List Int}(h:Q0u P m)(f:Int):(Q3b m f).w (λr=>0≤f→f<P→r.1.length=128):=by
 have hl:=h.len
 have h2:=h.p2
 unfold Q3b
 refine w_lv λx0 hx0=>w_br (λhb=>λf0 f1=> ?_) (λhb=> ?_)
 · have hp:=Q3o h
   have hb:x0=false:=by simpa using hb
   rw[hb]at hx0
   simp only[Q55,Q7o,Tree.m,letv,hp]at hx0
   rw[decide_eq_true f0]at hx0
   exact absurd f1 (of_decide_eq_false hx0.symm)
 · have hb:x0=true:=by simpa using hb
   obtain⟨f0,f1⟩:=has_eq h f (hx0.symm.trans hb)
   have e1:IntKind.i64.wrap (f*32)=f*32:=by rw[IntKind.wrap_i64];omega
   have e2:IntKind.i64.wrap (IntKind.i64.wrap (f*32)+32)=f*32+32:=by rw[IntKind.wrap_i64,IntKind.wrap_i64];omega
   have hlen:(List.take (Int.toNat (IntKind.i64.wrap (IntKind.i64.wrap (f*32)+32))-Int.toNat (IntKind.i64.wrap (f*32))) (List.drop (Int.toNat (IntKind.i64.wrap (f*32))) m)).length=32:=by
     rw[e2,e1,List.length_take,List.length_drop];omega
   refine w_cn (by rw[e2,e1];simp [Nat.blt];omega) ?_
   refine w_an (by show List.length _≤1000000000000;rw[hlen];decide) (w_lv λx1 h1=> ?_)
   have h1:x1.length=4*(List.take (Int.toNat (IntKind.i64.wrap (IntKind.i64.wrap (f*32)+32))-Int.toNat (IntKind.i64.wrap (f*32))) (List.drop (Int.toNat (IntKind.i64.wrap (f*32))) m)).length:=by rw[h1];exact(Tree.pp (text_w _ (Nat.le_of_eq hlen))).2
   intro _ _
   show x1.length=128
   rw[h1,hlen]
end Go.Proofs.YtpcbkbalabgnlaaGreat
namespace Go.Proofs.YtpcbkbalabgnlaaGreat
open Go Go.GD
set_option maxRecDepth 100000
theorem Z8{f:Int}(hf:U f){P:Nat}(hP:P≤32)(h:decide (IntKind.u64.wrap f<IntKind.u64.wrap (P:Int))=true):0≤f∧f<P:=by
 have h:=of_decide_eq_true h
 obtain⟨h1,h2⟩:=hf
 rw[IntKind.wrap_u64,IntKind.wrap_u64,Int.emod_eq_of_lt h1 (by omega),Int.emod_eq_of_lt (by omega) (by omega)]at h
 exact⟨h1,h⟩
theorem Zbd{P:Nat}{m:List Int}(h:Q0u P m){d:Q0b}(hd:Q7y d)(e:Q09):(Q4a d m e).w (λr=>Q7y r.1∧Q0u P r.2.1∧out d.A9 m r.2.1∧(r.2.2=false→r.2.1=m)∧(∀p,Q1e d p=true→Q1e r.1 p=true)):=by
 have hcl:Q02 m=m:=rfl
 have keep: ∀b:Bool,Q7y d∧Q0u P m∧out d.A9 m m∧(b=false→m=m)∧(∀p,Q1e d p=true→Q1e d p=true):=λb=>⟨hd,h,Qkb _ _,λ_=>rfl,λ_ h=>h⟩
 have blk: ∀{p:Int},Q1e d p=true→decide (d.Blocks>64)=false:=fun{p} hm=>by
   cases hb:decide (d.Blocks>64)
   · rfl
   · have:Q1e d p=false:=by simp only[Q1e,Q5u,Tree.m];rw[hb];rfl
     rw[this]at hm;cases hm
 have m2: ∀p,Q1e d p=true→Q1e {Blocks:=d.Blocks,C0:=d.C0,B1:=d.B1,B8:=2,D9:=0,B6:=0,A9:=0,C2:=[]} p=true:=λp hm=>by
   simp only[Q1e,Q5u,Tree.m];rw[blk hm];rfl
 have m3: ∀p,Q1e d p=true→Q1e {Blocks:=d.Blocks,C0:=d.C0,B1:=d.B1,B8:=3,D9:=0,B6:=0,A9:=0,C2:=[]} p=true:=λp hm=>by
   simp only[Q1e,Q5u,Tree.m];rw[blk hm];rfl
 unfold Q4a
 refine w_br (λ_=>w_an (Q8i h) (w_lv λx hx=>by rw[hcl]at hx;subst hx;exact keep _)) λ_=>w_br (λ_=>w_an (Q8i h) (w_lv λx hx=>by rw[hcl]at hx;subst hx;exact keep _)) λ_=>w_br (λ_=>w_an (Q8i h) (w_lv λx hx=>by rw[hcl]at hx;subst hx;exact keep _)) λ_=>w_an (Q8i h) (w_lv λx3 hx3=> ?_)
 rw[hcl]at hx3;subst hx3
 have fin: ∀{m':List Int},Q0u P m'→out d.A9 x3 m'→(Tree.br (e.N==1) (.lf (({Blocks:=d.Blocks,C0:=d.C0,B1:=d.B1,B8:=2,D9:=0,B6:=0,A9:=0,C2:=[]}:Q0b),m',true)) (.lf (({Blocks:=d.Blocks,C0:=d.C0,B1:=d.B1,B8:=3,D9:=0,B6:=0,A9:=0,C2:=[]}:Q0b),m',true))).w (λr=>Q7y r.1∧Q0u P r.2.1∧out d.A9 x3 r.2.1∧(r.2.2=false→r.2.1=x3)∧(∀p,Q1e d p=true→Q1e r.1 p=true)):=λhm ho=>
   w_br (λ_=>⟨⟨hd.block,hd.frame,U_0,U_0⟩,hm,ho,(λh=>by cases h),m2⟩) (λ_=>⟨⟨hd.block,hd.frame,U_0,U_0⟩,hm,ho,(λh=>by cases h),m3⟩)
 have nod:(Tree.br (!decide (e.C8=[])) (.lf (d,x3,false)) (Tree.br (e.N==1) (.lf (({Blocks:=d.Blocks,C0:=d.C0,B1:=d.B1,B8:=2,D9:=0,B6:=0,A9:=0,C2:=[]}:Q0b),x3,true)) (.lf (({Blocks:=d.Blocks,C0:=d.C0,B1:=d.B1,B8:=3,D9:=0,B6:=0,A9:=0,C2:=[]}:Q0b),x3,true)))).w (λr=>Q7y r.1∧Q0u P r.2.1∧out d.A9 x3 r.2.1∧(r.2.2=false→r.2.1=x3)∧(∀p,Q1e d p=true→Q1e r.1 p=true)):=
   w_br (λ_=>keep _) (λ_=>fin h (Qkb _ _))
 refine w_br (λ_=>w_br (λ_=>w_lv λx4 hx4=>w_br (λ_=>keep _) λhb=> ?_) (λ_=>nod)) (λ_=>nod)
 have hp:=Q3o h
 have hb:x4=true:=by simpa using hb
 rw[hb]at hx4
 simp only[Q8a,Qb9,Tree.m,letv,hp]at hx4
 obtain⟨f0,f1⟩:=Z8 hd.opFrame h.p2 hx4.symm
 have ef:IntKind.i64.wrap d.A9=d.A9:=by have:=h.p2;rw[IntKind.wrap_i64];omega
 refine Q0c (Qv5 h _ _) λx5 ⟨h5,o5,k5⟩=> ?_
 rw[ef]at o5
 exact w_br (λhf=>⟨hd,h5,o5,λ_=>k5 (by simpa using hf),λ_ h=>h⟩) (λ_=>fin h5 o5)
theorem receive_w{P:Nat}{m:List Int}(h:Q0u P m){n:Q0m}(hn:Qft n)(frame:List UInt8):(Q6f n m frame).w (λr=>Qft r.1∧Q0u P r.2.1∧out n.B9 m r.2.1∧(r.2.2=false→r.2.1=m)∧(∀p,Q6t n p=true→Q6t r.1 p=true)):=by
 have hcl:Q02 m=m:=rfl
 have keep:Qft n∧Q0u P m∧out n.B9 m m∧(false=false→m=m)∧(∀p,Q6t n p=true→Q6t n p=true):=⟨hn,h,Qkb _ _,λ_=>rfl,λ_ h=>h⟩
 unfold Q6f
 refine w_br (λ_=>w_an (Q8i h) (w_lv λx hx=>by rw[hcl]at hx;subst hx;exact keep)) λhpo=>w_br (λ_=>w_an (Q8i h) (w_lv λx hx=>by rw[hcl]at hx;subst hx;exact keep)) λl1=>w_br (λ_=>w_an (Q8i h) (w_lv λx hx=>by rw[hcl]at hx;subst hx;exact keep)) λl2=>w_lv λx3 hx3=>w_br (λ_=>w_an (Q8i h) (w_lv λx hx=>by rw[hcl]at hx;subst hx;exact keep)) λhb=> ?_
 have l1:=of_decide_eq_false l1
 have l2:=of_decide_eq_false l2
 have hp:=Q3o h
 have hb:x3=true:=by simpa using hb
 rw[hb]at hx3
 simp only[Q97,Qco,Tree.m,letv,hp]at hx3
 obtain⟨f0,f1⟩:=Z8 hn.buffer h.p2 hx3.symm
 have ef:IntKind.i64.wrap n.B9=n.B9:=by have:=h.p2;rw[IntKind.wrap_i64];omega
 refine Q0c (Z6z h _) λx5 h5=> ?_
 rw[ef]at h5
 have h5:=h5 f0 f1
 have hmax:(maxLen:Nat)=9223372036854775807:=rfl
 refine w_cn (decide_eq_true (by omega)) (w_cn (decide_eq_true (by simp only[List.length_take,List.length_drop,hmax];omega)) (Q0c (Qv5 h _ _) λx6 ⟨h6,o6,_⟩=> ?_))
 rw[ef]at o6
 have hg:IntKind.u32.wrap (frame.length:Int)=frame.length:=by rw[IntKind.wrap_u32];omega
 refine⟨⟨hn.frame,hn.len,U_0,Q0j _⟩,h6,o6,(λh=>by cases h),λp _=> ?_⟩
 simp only[Q6t,Qh1,Tree.m]
 rw[hg,decide_eq_true (show(frame.length:Int)≥1 by omega),decide_eq_true (show(frame.length:Int)≤128 by omega)]
 rfl
theorem ctype_w(c:Q0d)(b:Int):(Q6i c b).w (λr=>Q30 c=true→Q30 r.1=true):=by
 have hmax:(maxLen:Nat)=9223372036854775807:=rfl
 unfold Q6i
 refine w_br (λ_=>λh=>h) (λhb=> ?_)
 have hb:=of_decide_eq_false hb
 refine w_cn (decide_eq_true (by rw[hmax];omega)) ?_
 intro _
 show decide (((c.D3++[_]).length:Int)≤16)=true
 rw[List.length_append,List.length_singleton]
 exact decide_eq_true (by omega)
theorem fire_may(t:Q0g)(h:Q5o t=true):Q5o (Qgu t).1=true:=by
 simp only[Qgu,Qji,Tree.m]
 cases ha:t.D4
 · exact h
 · rfl
end Go.Proofs.YtpcbkbalabgnlaaGreat
namespace Go.Proofs.YtpcbkbalabgnlaaGreat
open Go Go.GD
set_option maxRecDepth 100000
theorem dev_eq(m:Q00):Q0v m=(Q30 m.A2&&(Q5o m.A7&&(Q1e m.B0 (Q0o m.Mem)&&(Q6t m.C5 (Q0o m.Mem)&&Q3c m.A1 (Q0o m.Mem))))):=by
 simp only[Q0v,Q1n,Tree.m,letv]
 cases Q30 m.A2<;>cases Q5o m.A7<;>cases Q1e m.B0 (Q0o m.Mem)<;>cases Q6t m.C5 (Q0o m.Mem)<;>rfl
theorem bal_eq{b c:Q07}(h:c.C1=b.C1)(p:Int):Q3c c p=Q3c b p:=by
 simp only[Q3c,Q3y,Tree.m,h]
theorem cnd{a x y:Bool}(h:x=true→y=true):(bif a then false else x)=true→(bif a then false else y)=true:=by cases a<;>simp_all
def chain(b1 b2 b3 b4 b5 b6 b7 w h dev:Bool):Bool:=bif b1 then false else bif b2 then false else bif b3 then false else bif b4 then false else bif b5 then false else bif b6 then false else bif b7 then false else bif w then(bif h then false else dev) else dev
theorem Zai{b1 b2 b3 b4 b5 b6 b7 w h d d':Bool}(hd:d=true→d'=true):chain b1 b2 b3 b4 b5 b6 b7 w h d=true→chain b1 b2 b3 b4 b5 b6 b7 w h d'=true:=by
 refine cnd (cnd (cnd (cnd (cnd (cnd (cnd ?_))))))
 cases w
 · exact hd
 · cases h
   · exact hd
   · exact λh=>h
def mayC(p:Int)(c:Q03)(ct:Int)(w h dev:Bool):Bool:=chain (p==0) (c.X.a0 !=0) (decide (c.B5.a0>31)) (decide (c.B5.a7>31)) (decide (c.B5.a6>255)) (Int.tmod c.B5.a1 4 !=0) (decide (ct>1152921504606846976)) w h dev
theorem mayC_mono{p:Int}{c:Q03}{ct:Int}{w h d d':Bool}(hd:d=true→d'=true)(g:mayC p c ct w h d=true):mayC p c ct w h d'=true:=Zai hd g
theorem may_eq(m:Q00):Q1c m=mayC (Q0o m.Mem) m.B2 m.A4 m.A3 m.A6 (Q0v m):=rfl
theorem Qng{m n:Q00}(hp:Q0o n.Mem=Q0o m.Mem)(hcpu:n.B2=m.B2)(hct:n.A4=m.A4)(hw:n.A3=m.A3)(hh:n.A6=m.A6)
   (hc:Q30 m.A2=true→Q30 n.A2=true) (ht:Q5o m.A7=true→Q5o n.A7=true) (hd: ∀p,Q1e m.B0 p=true→Q1e n.B0 p=true) (hn: ∀p,Q6t m.C5 p=true→Q6t n.C5 p=true) (hb:n.A1.C1=m.A1.C1) (h:Q1c m=true):Q1c n=true:=by
 have dev:Q0v m=true→Q0v n=true:=λh=>by
   rw[dev_eq]at h⊢
   simp only[Bool.and_eq_true]at h⊢
   rw[hp,bal_eq hb]
   exact⟨hc h.1,ht h.2.1,hd _ h.2.2.1,hn _ h.2.2.2.1,h.2.2.2.2⟩
 rw[may_eq]at h⊢
 rw[hp,hcpu,hct,hw,hh]
 exact mayC_mono dev h
end Go.Proofs.YtpcbkbalabgnlaaGreat
namespace Go.Proofs.YtpcbkbalabgnlaaGreat
open Go Go.GD
set_option maxRecDepth 100000
section
variable {P:Nat} {m:List Int} (h:Q0u P m)
include h
theorem dpage{f:Int}(hf:U f){b:Bool}(hx:b=Q8a m f)(hb:b=true):0≤f∧f<P:=by
 have hp:=Q3o h
 rw[hb]at hx
 simp only[Q8a,Qb9,Tree.m,letv,hp]at hx
 exact Z8 hf h.p2 hx.symm
theorem npage{f:Int}(hf:U f){b:Bool}(hx:b=Q97 m f)(hb:b=true):0≤f∧f<P:=by
 have hp:=Q3o h
 rw[hb]at hx
 simp only[Q97,Qco,Tree.m,letv,hp]at hx
 exact Z8 hf h.p2 hx.symm
def keepD(P:Nat)(d d':Q0b):Prop:=Q7y d'∧(Q1e d P=true→Q1e d' P=true)
theorem issue_w{d:Q0b}(hd:Q7y d){cmd:Int}(hc:cmd=1∨cmd=2)(at0:Int):(Q6c d m cmd at0).w (λr=>keepD P d r.1∧r.2.length≤1):=by
 have h2:=h.p2
 have st3:(d.B8 !=0)=false→keepD P d {Blocks:=d.Blocks,C0:=d.C0,B1:=d.B1,B8:=3,D9:=d.D9,B6:=d.B6,A9:=d.A9,C2:=d.C2}:=λhs=>by
   have hs:d.B8=0:=by simpa using hs
   refine⟨⟨hd.block,hd.frame,hd.opBlock,hd.opFrame⟩,λhm=> ?_⟩
   simp only[Q1e,Q5u,Tree.m,hs]at hm⊢
   exact hm
 have blk:Q1e d P=true→decide (d.Blocks>64)=false:=λhm=>by
   cases hb:decide (d.Blocks>64)
   · rfl
   · have:Q1e d P=false:=by simp only[Q1e,Q5u,Tree.m];rw[hb];rfl
     rw[this]at hm;cases hm
 unfold Q6c
 refine w_br (λ_=>⟨⟨hd,λh=>h⟩,Nat.zero_le _⟩) λhs=>w_br (λ_=>⟨st3 hs,Nat.zero_le _⟩) λhb=>w_lv λx0 hx=>w_br (λ_=>⟨st3 hs,Nat.zero_le _⟩) λhp=> ?_
 have hb:=of_decide_eq_false hb
 obtain⟨f0,f1⟩:=dpage h hd.frame hx (by simpa using hp)
 have ef:IntKind.i64.wrap d.B1=d.B1:=by rw[IntKind.wrap_i64];omega
 have e1:decide (d.C0<d.Blocks)=true:=decide_eq_true (by omega)
 have e2:decide (IntKind.i64.wrap d.B1<(P:Int))=true:=by rw[ef];exact decide_eq_true f1
 refine w_br (λhcm=>Q0c (Z6z h _) λx1 h1=> ?_) (λhcm=> ?_)
 · rw[ef]at h1
   have h1:=h1 f0 f1
   have hcm:=eq_of_beq hcm
   subst hcm
   refine w_lv λx2 _=>⟨⟨⟨hd.block,hd.frame,hd.block,hd.frame⟩,λhm=> ?_⟩,Nat.le_refl _⟩
   simp only[Q1e,Q5u,Q8b,Q6r,Tree.m,letv,blk hm,e1,e2,h1]
   rfl
 · have hc:cmd=1:=by
     rcases hc with h|h
     · exact h
     · rw[h]at hcm;exact absurd hcm (by decide)
   subst hc
   refine w_lv λx2 _=>⟨⟨⟨hd.block,hd.frame,hd.block,hd.frame⟩,λhm=> ?_⟩,Nat.le_refl _⟩
   simp only[Q1e,Q5u,Q8b,Q6r,Tree.m,letv,blk hm,e1,e2]
   rfl
theorem diskP_w{d:Q0b}(hd:Q7y d)(port:Int){v:Int}(hv:U v)(at0:Int):(Q8t d m port v at0).w (λr=>keepD P d r.1∧r.2.length≤1):=by
 have keep:keepD P d d:=⟨hd,λh=>h⟩
 have e1: ∀{k:Int},(v==k)=true→IntKind.i64.wrap v=k:=λhk=>by
   have:=eq_of_beq hk
   obtain⟨a,b⟩:=hv
   rw[IntKind.wrap_i64];omega
 unfold Q8t
 refine w_br (λ_=>⟨⟨⟨hv,hd.frame,hd.opBlock,hd.opFrame⟩,λh=>h⟩,Nat.zero_le _⟩) λ_=>w_br (λ_=>⟨⟨⟨hd.block,hv,hd.opBlock,hd.opFrame⟩,λh=>h⟩,Nat.zero_le _⟩) λ_=>w_br (λ_=>w_br (λhk=>Q0c (issue_w h hd (.inl (e1 hk)) _) λx hx=>hx) λ_=>w_br (λhk=>Q0c (issue_w h hd (.inr (e1 hk)) _) λx hx=>hx) λ_=>w_br (λ_=>w_lv λx hx=>w_br (λhb=> ?_) (λ_=>⟨keep,Nat.zero_le _⟩)) (λ_=>⟨keep,Nat.zero_le _⟩)) (λ_=>⟨keep,Nat.zero_le _⟩)
 refine⟨⟨⟨hd.block,hd.frame,hd.opBlock,hd.opFrame⟩,λhm=> ?_⟩,Nat.zero_le _⟩
 rw[hb]at hx
 simp only[Q85,Qgg,Tree.m]at hx
 cases h2:d.B8==2
 · rw[h2]at hx
   have h3:d.B8=3:=eq_of_beq hx.symm
   simp only[Q1e,Q5u,Tree.m,h3]at hm⊢
   exact hm
 · have h3:d.B8=2:=eq_of_beq h2
   simp only[Q1e,Q5u,Tree.m,h3]at hm⊢
   exact hm
def keepN(P:Nat)(n n':Q0m):Prop:=Qft n'∧(Q6t n P=true→Q6t n' P=true)
theorem send_w{n:Q0m}(hn:Qft n)(at0:Int):(Q94 n m at0).w (λr=>r.length≤1):=by
 have h2:=h.p2
 unfold Q94
 refine w_br (λ_=>Nat.zero_le _) λl1=>w_br (λ_=>Nat.zero_le _) λl2=>w_lv λx0 hx=>w_br (λ_=>Nat.zero_le _) λhp=>Q0c (Z6z h _) λx1 h1=> ?_
 have l1:=of_decide_eq_false l1
 have l2:=of_decide_eq_false l2
 obtain⟨f0,f1⟩:=npage h hn.frame hx (by simpa using hp)
 have ef:IntKind.i64.wrap n.B1=n.B1:=by rw[IntKind.wrap_i64];omega
 rw[ef]at h1
 have h1:=h1 f0 f1
 exact w_cn (decide_eq_true (by omega)) (Nat.le_refl _)
theorem nicP_w{n:Q0m}(hn:Qft n)(port:Int){v:Int}(hv:U v)(at0:Int):(Qay n m port v at0).w (λr=>keepN P n r.1∧r.2.length≤1):=by
 have h2:=h.p2
 have keep:keepN P n n:=⟨hn,λh=>h⟩
 unfold Qay
 refine w_br (λ_=>⟨⟨⟨hv,hn.len,hn.buffer,hn.got⟩,λh=>h⟩,Nat.zero_le _⟩) λ_=>w_br (λ_=>⟨⟨⟨hn.frame,hv,hn.buffer,hn.got⟩,λh=>h⟩,Nat.zero_le _⟩) λ_=>w_br (λ_=>w_br (λ_=>Q0c (send_w h hn _) λx hx=>⟨keep,hx⟩) λ_=>w_br (λ_=>w_lv λx hx=>w_br (λhb=>w_br (λnp=>w_br (λnr=> ?_) (λ_=>⟨keep,Nat.zero_le _⟩)) (λ_=>⟨keep,Nat.zero_le _⟩)) (λ_=>⟨keep,Nat.zero_le _⟩)) λ_=>w_br (λ_=> ?_) (λ_=>⟨keep,Nat.zero_le _⟩)) (λ_=>⟨keep,Nat.zero_le _⟩)
 · obtain⟨f0,f1⟩:=npage h hn.frame hx hb
   have np:n.C4=false:=by simpa using np
   have nr:n.B7=false:=by simpa using nr
   have e2:decide (IntKind.i64.wrap n.B1≥(P:Int))=false:=decide_eq_false (by rw[IntKind.wrap_i64];omega)
   refine⟨⟨⟨hn.frame,hn.len,hn.frame,hn.got⟩,λhm=> ?_⟩,Nat.zero_le _⟩
   simp only[Q6t,Qh1,Tree.m,np,nr,e2]at hm⊢
   cases hb:(n.B9 !=0)
   · rw[hb]at hm;exact hm
   · rw[hb]at hm;cases hm
 · refine⟨⟨⟨hn.frame,hn.len,hn.buffer,U_0⟩,λhm=> ?_⟩,Nat.zero_le _⟩
   simp only[Q6t,Qh1,Tree.m]at hm⊢
   revert hm
   cases n.C4<;>cases n.B7<;>cases decide (IntKind.i64.wrap n.B9≥(P:Int))<;>cases(n.B9 !=0)<;>simp
end
theorem arm_may(t:Q0g)(v:Int):Q5o (Qgo t v)=true:=by
 simp only[Qgo,Qhr,Q5o,Qhy,Tree.m]
 cases h:(v !=0)
 · have:v=0:=by simpa using h
   subst this;rfl
 · rfl
end Go.Proofs.YtpcbkbalabgnlaaGreat
namespace Go.Proofs.YtpcbkbalabgnlaaGreat
open Go Go.GD
set_option maxRecDepth 100000
theorem Ql9{a:Int}(k:Nat)(hk:k≤32):ishr .u32 a k=a/2^k:=by
 unfold ishr
 have e:min (k:Int).toNat IntKind.u32.bits=k:=by show min (k:Int).toNat 32=k;omega
 have hp:(0:Int)<2^k:=Int.pow_pos (by decide)
 rw[e,Int.fdiv_eq_ediv_of_nonneg _ (Int.le_of_lt hp)]
def Z9s(x:Int)(n:Nat):Prop:=x<2^n∧(n=0∨(2:Int)^(n-1)≤x)
theorem Z0z{x q:Int}{n k:Nat}(hq:q=x/2^k)(h0:0<q)(h:Z9s q n):Z9s x (n+k):=by
 have hp:(0:Int)<2^k:=Int.pow_pos (by decide)
 obtain⟨h1,h2⟩:=h
 have hn:n≠0:=λe=>by subst e;simp at h1;omega
 refine⟨?_, .inr ?_⟩
 · rw[Int.pow_add]
   have:x<(x/2^k+1)*2^k:=Int.lt_ediv_add_one_mul_self x hp
   have h3:(x/2^k+1)*2^k≤2^n*2^k:=Int.mul_le_mul_of_nonneg_right (by omega) (Int.le_of_lt hp)
   omega
 · have h2:=h2.resolve_left hn
   have e:n+k-1=(n-1)+k:=by omega
   rw[e,Int.pow_add]
   have h3:(2:Int)^(n-1)*2^k≤q*2^k:=Int.mul_le_mul_of_nonneg_right h2 (Int.le_of_lt hp)
   have h4:q*2^k≤x:=by rw[hq];exact Int.ediv_mul_le x (Int.ne_of_gt hp)
   omega
theorem isLen_le{x:Int}{n p:Nat}(h:Z9s x n)(hx:x<2^p):n≤p:=by
  obtain⟨h1,h2⟩:=h
  rcases h2 with h2|h2
  · omega
  · rcases Nat.lt_or_ge p n with hlt|hge
    · have:(2:Int)^p≤2^(n-1):=by
        have:=Nat.pow_le_pow_right (show 0<2 by omega) (show p≤n-1 by omega)
        exact_mod_cast this
      omega
    · exact hge
theorem Z53{x:Int}{n p:Nat}(h:Z9s x n)(hn:n≤p):x<2^p:=by
 have:(2:Int)^n≤2^p:=by
   have:=Nat.pow_le_pow_right (show 0<2 by omega) hn
   exact_mod_cast this
 exact Int.lt_of_lt_of_le h.1 this
def lenChk(i:Nat):Bool:=match(Q1k (i:Int)) with
 | .ofNat n=>decide ((i:Int)<2^n)&&(Nat.beq n 0||decide ((2:Int)^(n-1)≤i))&&decide (n≤8)
 |_=>false
theorem Qmx{q:Int}(h0:0≤q)(h1:q<256): ∃n:Nat,Q1k q=n∧Z9s q n∧n≤8:=by
 have all:List.all (List.range 256) lenChk=true:=by kernel_rfl
 have:=List.all_eq_true.1 all q.toNat (List.mem_range.2 (by omega))
 have hq:((q.toNat:Nat):Int)=q:=by omega
 unfold lenChk at this
 rw[hq]at this
 split at this
 · rename_i n hn
   simp only[Bool.and_eq_true,Bool.or_eq_true,decide_eq_true_eq]at this
   refine⟨n,hn,⟨this.1.1,?_⟩,this.2⟩
   rcases this.1.2 with h|h
   · exact .inl (Nat.eq_of_beq_eq_true h)
   · exact .inr h
 · cases this
theorem len_24{x:Int}(h:U x)(hx:16777216≤x):Q1k x=24+Q1k (x/16777216):=by
 obtain⟨h0,h1⟩:=h
 have s16:ishr .u32 x 16=x/65536:=Ql9 16 (by omega)
 have s24:ishr .u32 (x/65536) 8=x/16777216:=by rw[show((8:Int))=((8:Nat):Int) from rfl,Ql9 8 (by omega)];omega
 have d1:decide (x≥65536)=true:=decide_eq_true (by omega)
 have d2:decide (x/65536≥256)=true:=decide_eq_true (by omega)
 have d3:decide (x/16777216≥65536)=false:=decide_eq_false (by omega)
 have d4:decide (x/16777216≥256)=false:=decide_eq_false (by omega)
 have u:IntKind.u8.wrap (x/16777216)=x/16777216:=by rw[IntKind.wrap_u8];omega
 simp only[Q1k,Q1q,Tree.m,s16,s24,d1,d2,d3,d4,u,cond_true,cond_false]
 generalize(List.getD _ (Int.toNat (x/16777216)) (0:UInt8))=b
 have hb:=UInt8.toNat_lt b
 rw[IntKind.wrap_i64,IntKind.wrap_i64,IntKind.wrap_i64,IntKind.wrap_i64]
 omega
theorem len_16{x:Int}(h0:65536≤x)(h1:x<16777216):Q1k x=16+Q1k (x/65536):=by
 have s16:ishr .u32 x 16=x/65536:=Ql9 16 (by omega)
 have d1:decide (x≥65536)=true:=decide_eq_true (by omega)
 have d2:decide (x/65536≥256)=false:=decide_eq_false (by omega)
 have d3:decide (x/65536≥65536)=false:=decide_eq_false (by omega)
 have u:IntKind.u8.wrap (x/65536)=x/65536:=by rw[IntKind.wrap_u8];omega
 simp only[Q1k,Q1q,Tree.m,s16,d1,d2,d3,u,cond_true,cond_false]
 generalize(List.getD _ (Int.toNat (x/65536)) (0:UInt8))=b
 have hb:=UInt8.toNat_lt b
 rw[IntKind.wrap_i64,IntKind.wrap_i64,IntKind.wrap_i64]
 omega
theorem len_8{x:Int}(h0:256≤x)(h1:x<65536):Q1k x=8+Q1k (x/256):=by
 have s8:ishr .u32 x 8=x/256:=Ql9 8 (by omega)
 have d1:decide (x≥65536)=false:=decide_eq_false (by omega)
 have d2:decide (x≥256)=true:=decide_eq_true (by omega)
 have d3:decide (x/256≥65536)=false:=decide_eq_false (by omega)
 have d4:decide (x/256≥256)=false:=decide_eq_false (by omega)
 have u:IntKind.u8.wrap (x/256)=x/256:=by rw[IntKind.wrap_u8];omega
 simp only[Q1k,Q1q,Tree.m,s8,d1,d2,d3,d4,u,cond_true,cond_false]
 generalize(List.getD _ (Int.toNat (x/256)) (0:UInt8))=b
 have hb:=UInt8.toNat_lt b
 rw[IntKind.wrap_i64,IntKind.wrap_i64,IntKind.wrap_i64,IntKind.wrap_i64]
 omega
theorem Zba{x:Int}(h:U x): ∃n:Nat,Q1k x=n∧Z9s x n:=by
  obtain⟨h0,h1⟩:=h
  rcases Int.lt_or_le x 256 with a|a
  · obtain⟨n,e,l,_⟩:=Qmx h0 a
    exact⟨n,e,l⟩
  · rcases Int.lt_or_le x 65536 with b|b
    · obtain⟨n,e,l,_⟩:=Qmx (q:=x/256) (by omega) (by omega)
      exact⟨n+8,by rw[len_8 a b,e];omega,Z0z (k:=8) rfl (by omega) l⟩
    · rcases Int.lt_or_le x 16777216 with c|c
      · obtain⟨n,e,l,_⟩:=Qmx (q:=x/65536) (by omega) (by omega)
        exact⟨n+16,by rw[len_16 b c,e];omega,Z0z (k:=16) rfl (by omega) l⟩
      · obtain⟨n,e,l,_⟩:=Qmx (q:=x/16777216) (by omega) (by omega)
        exact⟨n+24,by rw[len_24 ⟨h0,h1⟩ c,e];omega,Z0z (k:=24) rfl (by omega) l⟩
theorem Qsm{b:Q07}(h:U b.C1){P:Nat}:Q3c b P=true↔b.C1<2^P:=by
 obtain⟨n,e,l⟩:=Zba h
 have hp:(if(0:Int)>(P:Int) then(0:Int) else P)=P:=by rw[if_neg (by omega)]
 simp only[Q3c,Q3y,Tree.m,letv,e,hp,decide_eq_true_eq]
 constructor
 · intro h;exact Z53 l (by omega)
 · intro h;have:=isLen_le l h;omega
end Go.Proofs.YtpcbkbalabgnlaaGreat
namespace Go.Proofs.YtpcbkbalabgnlaaGreat
open Go Go.GD
set_option maxRecDepth 100000
theorem Z0j{a:Int}(h:U a){P:Nat}(h1:a<2^P):(BitVec.ofInt 32 a).toNat<2^P:=by
 obtain⟨a0,a1⟩:=h
 rw[BitVec.toNat_ofInt,Int.emod_eq_of_lt a0 (by omega)]
 have:((2^P:Nat):Int)=(2:Int)^P:=by exact_mod_cast rfl
 omega
theorem or_lt{a b:Int}(ha:U a)(hb:U b){P:Nat}(hP:P≤32)(h1:a<2^P)(h2:b<2^P):ior .u32 a b<2^P:=by
 have e:(BitVec.ofInt 32 a|||BitVec.ofInt 32 b).toNat<2^P:=by
   rw[BitVec.toNat_or]
   exact Nat.or_lt_two_pow (Z0j ha h1) (Z0j hb h2)
 have hc:((2^P:Nat):Int)=(2:Int)^P:=by exact_mod_cast rfl
 have l:=(BitVec.ofInt 32 a|||BitVec.ofInt 32 b).isLt
 show IntKind.wrap .u32 ((BitVec.ofInt 32 a|||BitVec.ofInt 32 b).toNat:Int)<2^P
 rw[IntKind.wrap_u32]
 omega
theorem andn_lt{a b:Int}(ha:U a){P:Nat}(h1:a<2^P):Qdr .u32 a b<2^P:=by
 have e:(BitVec.ofInt 32 a&&&~~~BitVec.ofInt 32 b).toNat<2^P:=by
   rw[BitVec.toNat_and]
   exact Nat.lt_of_le_of_lt Nat.and_le_left (Z0j ha h1)
 have hc:((2^P:Nat):Int)=(2:Int)^P:=by exact_mod_cast rfl
 have l:=(BitVec.ofInt 32 a&&&~~~BitVec.ofInt 32 b).isLt
 show IntKind.wrap .u32 ((BitVec.ofInt 32 a&&&~~~BitVec.ofInt 32 b).toNat:Int)<2^P
 rw[IntKind.wrap_u32]
 omega
theorem shl_one{v:Int}(h0:0≤v)(h1:v<32):ishl .u32 1 v=2^v.toNat:=by
 have e:min v.toNat IntKind.u32.bits=v.toNat:=by show min v.toNat 32=v.toNat;omega
 obtain⟨n,rfl⟩: ∃n:Nat,v=n:=⟨v.toNat,by omega⟩
 have hn:n<32:=by omega
 have hlt:(2:Nat)^n<4294967296:=by
   have:=Nat.pow_lt_pow_right (show 1<2 by omega) hn
   simpa using this
 have hc:((2^n:Nat):Int)=(2:Int)^n:=by exact_mod_cast rfl
 unfold ishl
 rw[e,IntKind.wrap_u32,Int.one_mul,Int.toNat_natCast,←hc]
 clear hc e
 generalize(2:Nat)^n=z at*
 omega
def keepB(P:Nat)(b b':Q07):Prop:=okB b'∧(Q3c b P=true→Q3c b' P=true)
theorem Z9l{P:Nat}{m:List Int}(h:Q0u P m){b:Q07}(hb:okB b)(port:Int){v:Int}(hv:U v):(Q2f b m port v).w (λr=>keepB P b r.1∧Q0u P r.2):=by
 have hcl:Q02 m=m:=rfl
 have h2:=h.p2
 have hp:=Q3o h
 have keep:(Tree.an (Q04 m) (.lv (Q02 m) λx=> .lf (b,x))).w (λr=>keepB P b r.1∧Q0u P r.2):=w_an (Q8i h) (w_lv λx hx=>by rw[hcl]at hx;subst hx;exact⟨⟨hb,λh=>h⟩,h⟩)
 unfold Q2f
 refine w_br (λ_=>keep) λhlt=>w_cn (decide_eq_true hv.1) (w_br (λ_=>w_lv λx1 hx=>w_br (λhpg=>w_br (λ_=>w_an ⟨by decide,by decide,by decide⟩ (w_lv λx2 _=>Q0c (Qv5 h _ _) λx3 ⟨h3,_⟩=> ?_)) (λ_=>keep)) (λ_=>keep)) (λ_=>w_br (λ_=>w_an (Q8i h) (w_lv λx hx=> ?_)) (λ_=>keep)))
 · have hlt:=of_decide_eq_false hlt
   have hpg:=of_decide_eq_true hpg
   rw[hx,hp]at hpg
   obtain⟨v0,v1⟩:=hv
   have ev:IntKind.i64.wrap v=v:=by rw[IntKind.wrap_i64];omega
   rw[ev]at hpg
   refine⟨⟨⟨hb.1,Q0j _⟩,λhm=> ?_⟩,h3⟩
   rw[Qsm hb.2]at hm
   rw[Qsm (Q0j _)]
   have hs:ishl .u32 1 v<2^P:=by
     rw[shl_one v0 (by omega)]
     have:=Nat.pow_lt_pow_right (show 1<2 by omega) (show v.toNat<P by omega)
     exact_mod_cast this
   exact or_lt hb.2 (Q0j _) h2 hm hs
 · rw[hcl]at hx;subst hx
   refine⟨⟨⟨hb.1,Q0j _⟩,λhm=> ?_⟩,h⟩
   rw[Qsm hb.2]at hm
   rw[Qsm (Q0j _)]
   exact andn_lt hb.2 hm
end Go.Proofs.YtpcbkbalabgnlaaGreat
namespace Go.Proofs.YtpcbkbalabgnlaaGreat
open Go Go.GD
set_option maxRecDepth 100000
structure kept(P:Nat)(m n:Q00):Prop where
 ok:okS P n
 dev:Q0v m=true→Q0v n=true
 cpu:n.B2=m.B2
 cnt:n.A4=m.A4
 wait:n.A3=m.A3
 halt:n.A6=m.A6
theorem Z1t{P:Nat}{m:Q00}(h:okS P m):kept P m m:=⟨h,λh=>h,rfl,rfl,rfl,rfl⟩
theorem Qkj{P:Nat}{m n:Q00}(hm:Q0u P m.Mem)(hn:Q0u P n.Mem)(hc:Q30 m.A2=true→Q30 n.A2=true)(ht:Q5o m.A7=true→Q5o n.A7=true)
   (hd:Q1e m.B0 P=true→Q1e n.B0 P=true) (hk:Q6t m.C5 P=true→Q6t n.C5 P=true) (hb:Q3c m.A1 P=true→Q3c n.A1 P=true) (h:Q0v m=true):Q0v n=true:=by
 rw[dev_eq]at h⊢
 rw[Q3o hm]at h
 rw[Q3o hn]
 simp only[Bool.and_eq_true]at h⊢
 exact⟨hc h.1,ht h.2.1,hd h.2.2.1,hk h.2.2.2.1,hb h.2.2.2.2⟩
theorem Z5z{P:Nat}{m:Q00}(h:okS P m)(port:Int){v:Int}(hv:U v)(at0:Int):(Q1v m port v at0).w (λr=>kept P m r.1∧r.2.length≤1):=by
 have k:=Z1t h
 obtain⟨h1,h2,h3,h4,h5,h6⟩:=h
 have id: ∀{p:Prop},p→p:=λh=>h
 have D: ∀(x:Q0b×List Q0a),(keepD P m.B0 x.1∧x.2.length≤1)→kept P m {B2:=m.B2,Mem:=m.Mem,A2:=m.A2,A7:=m.A7,B0:=x.1,C5:=m.C5,A1:=m.A1,A4:=m.A4,A3:=m.A3,A6:=m.A6}∧x.2.length≤1:=λx hx=>
   ⟨⟨⟨h1,h2,hx.1.1,h4,h5,h6⟩,Qkj h2 h2 id id hx.1.2 id id,rfl,rfl,rfl,rfl⟩,hx.2⟩
 have N: ∀(x:Q0m×List Q0a),(keepN P m.C5 x.1∧x.2.length≤1)→kept P m {B2:=m.B2,Mem:=m.Mem,A2:=m.A2,A7:=m.A7,B0:=m.B0,C5:=x.1,A1:=m.A1,A4:=m.A4,A3:=m.A3,A6:=m.A6}∧x.2.length≤1:=λx hx=>
   ⟨⟨⟨h1,h2,h3,hx.1.1,h5,h6⟩,Qkj h2 h2 id id id hx.1.2 id,rfl,rfl,rfl,rfl⟩,hx.2⟩
 have B: ∀(x:Q07×List Int),(keepB P m.A1 x.1∧Q0u P x.2)→kept P m {B2:=m.B2,Mem:=x.2,A2:=m.A2,A7:=m.A7,B0:=m.B0,C5:=m.C5,A1:=x.1,A4:=m.A4,A3:=m.A3,A6:=m.A6}∧([]:List Q0a).length≤1:=λx hx=>
   ⟨⟨⟨h1,hx.2,h3,h4,hx.1.1.1,hx.1.1.2⟩,Qkj h2 hx.2 id id id id hx.1.2,rfl,rfl,rfl,rfl⟩,Nat.zero_le _⟩
 unfold Q1v
 repeat'(first
   |exact⟨k,Nat.le_refl _⟩
   |exact⟨k,Nat.zero_le _⟩
   |exact w_lv λx hx=>⟨⟨⟨h1,h2,h3,h4,h5,h6⟩,Qkj h2 h2 id (λ_=>by rw[hx];exact arm_may _ _) id id id,rfl,rfl,rfl,rfl⟩,Nat.zero_le _⟩
   |exact Q0c (diskP_w h2 h3 _ hv _) λx hx=>D x hx
   |exact Q0c (nicP_w h2 h4 _ hv _) λx hx=>N x hx
   |exact Q0c (Z9l h2 ⟨h5,h6⟩ _ hv) λx hx=>B x hx
   |refine w_br (λ_=> ?_) (λ_=> ?_))
theorem Qwy(c:Q0d)(port:Int):(Q8n c port).w (λr=>U r.2∧(Q30 c=true→Q30 r.1=true)):=by
 have u1:U 4294967295:=⟨by omega,by omega⟩
 unfold Q8n
 refine w_br (λ_=>w_br (λ_=>⟨u1,λh=>h⟩) (λhb=>w_cn ?_ (w_cn ?_ ⟨Q0j _,λhm=> ?_⟩))) (λ_=>w_br (λ_=>⟨Q0j _,λh=>h⟩) (λ_=>⟨U_0,λh=>h⟩))
 · have hb:=of_decide_eq_false hb
   have:0<c.D3.length:=List.length_pos_iff.2 hb
   simp [Nat.blt];omega
 · have hb:=of_decide_eq_false hb
   have:0<c.D3.length:=List.length_pos_iff.2 hb
   exact decide_eq_true (by omega)
 · have hm:decide ((c.D3.length:Int)≤16)=true:=hm
   have hm:=of_decide_eq_true hm
   show decide (((List.take _ (List.drop _ c.D3)).length:Int)≤16)=true
   refine decide_eq_true ?_
   rw[List.length_take,List.length_drop];omega
theorem Za5{P:Nat}{m:Q00}(h:okS P m)(port:Int){clock:Int}(hc:U clock):(Q24 m port clock).w (λr=>kept P m r.1∧U r.2):=by
 have k:=Z1t h
 obtain⟨h1,h2,h3,h4,h5,h6⟩:=h
 have id: ∀{p:Prop},p→p:=λh=>h
 have ti: ∀t,U (Qrz t):=λt=>by
   refine Tree.post (Qk8 t) (W:=U) ?_
   unfold Qk8
   exact w_br (λ_=>⟨by omega,by omega⟩) (λ_=>U_0)
 have di: ∀p,U (Qos m.B0 p):=λp=>by
   refine Tree.post (Qmt m.B0 p) (W:=U) ?_
   unfold Qmt
   exact w_br (λ_=>h3.block) (λ_=>w_br (λ_=>h3.frame) (λ_=>w_br (λ_=>Q0j _) (λ_=>U_0)))
 have ni: ∀p,U (Qu2 m.C5 p):=λp=>by
   refine Tree.post (Qn0 m.C5 p) (W:=U) ?_
   unfold Qn0
   exact w_br (λ_=>h4.frame) (λ_=>w_br (λ_=>h4.got) (λ_=>w_br (λ_=>w_br (λ_=>w_br (λ_=>Q0j _) (λ_=>Q0j _)) (λ_=>w_br (λ_=>Q0j _) (λ_=>U_0))) (λ_=>U_0)))
 have bi: ∀p,(Q6a m.A1 p).w U:=λp=>by
   unfold Q6a
   exact w_br (λ_=>h5) (λ_=>w_br (λ_=>Q0c (Z8p h6) λ_ _=>Q0j _) (λ_=>U_0))
 have C: ∀(x:Q0d×Int),(U x.2∧(Q30 m.A2=true→Q30 x.1=true))→kept P m {B2:=m.B2,Mem:=m.Mem,A2:=x.1,A7:=m.A7,B0:=m.B0,C5:=m.C5,A1:=m.A1,A4:=m.A4,A3:=m.A3,A6:=m.A6}∧U x.2:=λx hx=>
   ⟨⟨⟨h1,h2,h3,h4,h5,h6⟩,Qkj h2 h2 hx.2 id id id id,rfl,rfl,rfl,rfl⟩,hx.1⟩
 unfold Q24
 repeat'(first
   |exact⟨k,hc⟩
   |exact⟨k,U_0⟩
   |exact Q0c (Qwy _ _) λx hx=>C x hx
   |exact Z8t (Qwy _ _) λx hx=>C x hx
   |exact w_lv λx hx=>⟨k,by rw[hx];exact ti _⟩
   |exact w_lv λx hx=>⟨k,by rw[hx];exact di _⟩
   |exact w_lv λx hx=>⟨k,by rw[hx];exact ni _⟩
   |exact Q0c (bi _) λx hx=>⟨k,hx⟩
   |refine w_br (λ_=> ?_) (λ_=> ?_))
end Go.Proofs.YtpcbkbalabgnlaaGreat
namespace Go.Proofs.YtpcbkbalabgnlaaGreat
open Go Go.GD
set_option maxRecDepth 100000
structure Q6l(c:Q03):Prop where
 x0:c.X.a0=0
 st:c.B5.a0≤31
 en:c.B5.a7≤31
 rt:c.B5.a6≤255
 ve:Int.tmod c.B5.a1 4=0
theorem Q6l.pc{c:Q03}(h:Q6l c)(p:Int):Q6l {X:=c.X,Pc:=p,B5:=c.B5}:=⟨h.x0,h.st,h.en,h.rt,h.ve⟩
theorem and31(a:Int):iand .u32 a 31≤31:=by
 have e:(BitVec.ofInt 32 a&&&BitVec.ofInt 32 31).toNat≤31:=by
   rw[BitVec.toNat_and]
   exact Nat.le_trans Nat.and_le_right (by decide)
 show IntKind.wrap .u32 ((BitVec.ofInt 32 a&&&BitVec.ofInt 32 31).toNat:Int)≤31
 rw[IntKind.wrap_u32];omega
theorem and255'(a:Int):iand .u32 a 255≤255:=by have:=and255 a;omega
theorem andn3(a:Int):Int.tmod (Qdr .u32 a 3) 4=0:=by
 have e:(BitVec.ofInt 32 a&&&~~~BitVec.ofInt 32 3).toNat%4=0:=by
   rw[BitVec.toNat_and,show(~~~BitVec.ofInt 32 3).toNat=4294967292 by decide]
   have:=Nat.and_mod_two_pow (a:=(BitVec.ofInt 32 a).toNat) (b:=4294967292) (n:=2)
   simpa using this
 have l:=(BitVec.ofInt 32 a&&&~~~BitVec.ofInt 32 3).isLt
 show Int.tmod (IntKind.wrap .u32 ((BitVec.ofInt 32 a&&&~~~BitVec.ofInt 32 3).toNat:Int)) 4=0
 rw[IntKind.wrap_u32,Int.tmod_eq_emod_of_nonneg (by omega)]
 omega
theorem fin32{f:Int→Int}(h:(List.range 32).all (λn=>decide (f n≤31))=true){s:Int}(h0:0≤s)(h1:s≤31):f s≤31:=by
 have:=List.all_eq_true.1 h s.toNat (List.mem_range.2 (by omega))
 have e:((s.toNat:Nat):Int)=s:=by omega
 rw[e]at this
 exact of_decide_eq_true this
theorem Qhg{c:Q03}(h:Q2s c)(m:Q6l c)(k b:Int):Q6l (Q4h c k b):=
 ⟨m.x0,fin32 (f:=λs=>Qdr .u32 (ior .u32 (Q8 (Q8 s 1 8) 2 16) 1) 2) (by kernel_rfl) h.a0.1 m.st,m.en,m.rt,m.ve⟩
theorem Zb{c:Q03}(h:Q2s c)(m:Q6l c):Q6l (Qc9 c):=
 ⟨m.x0,fin32 (f:=λs=>Q8 (Q8 s 8 1) 16 2) (by kernel_rfl) h.a0.1 m.st,m.en,m.rt,m.ve⟩
theorem Qpg{c:Q03}(m:Q6l c){r:Int}(hr:0≤r∧r<16)(v:Int):(Q7q c r v).w Q6l:=by
 unfold Q7q
 refine w_br (λhn=>w_cn (rc hr) ?_) (λ_=>m)
 have hn:r≠0:=by simpa using hn
 obtain⟨n,e⟩: ∃n:Nat,r.toNat=n+1:=⟨r.toNat-1,by omega⟩
 refine⟨?_,m.st,m.en,m.rt,m.ve⟩
 show(A16.of 0 (List.set (A16.l c.X) r.toNat v)).a0=0
 rw[e]
 exact m.x0
theorem write_may{c:Q03}(m:Q6l c)(k v:Int):(Q6h c k v).w Q6l:=by
 unfold Q6h
 refine w_br (λhk=>w_cn (by rw[eq_of_beq hk];decide) ?_) λ_=>w_br (λhk=>w_cn (by rw[eq_of_beq hk];decide) ?_) λ_=>w_br (λhk=>w_cn (by rw[eq_of_beq hk];decide) ?_) λ_=>w_br (λhk=>w_cn (by rw[eq_of_beq hk];decide) ?_) λ_=>w_br (λhk=>w_cn (by rw[eq_of_beq hk];decide) ?_) λ_=>w_br (λhk=>w_cn (by rw[eq_of_beq hk];decide) ?_) λ_=>w_br (λhk=>w_cn (by rw[eq_of_beq hk];decide) ?_) λ_=>w_br (λhk=>w_cn (by rw[eq_of_beq hk];decide) ?_) (λ_=>m)
 all_goals(have hk:=eq_of_beq hk;subst hk)
 · exact⟨m.x0,and31 _,m.en,m.rt,m.ve⟩
 · exact⟨m.x0,m.st,and31 _,m.rt,m.ve⟩
 · exact⟨m.x0,m.st,m.en,and255' _,m.ve⟩
 · exact⟨m.x0,m.st,m.en,m.rt,andn3 _⟩
 · exact⟨m.x0,m.st,m.en,m.rt,m.ve⟩
 · exact⟨m.x0,m.st,m.en,m.rt,m.ve⟩
 · exact⟨m.x0,m.st,m.en,m.rt,m.ve⟩
 · exact⟨m.x0,m.st,m.en,m.rt,m.ve⟩
section
variable {c:Q03} (h:Q2s c) (m:Q6l c) {i:Q0h} (hi:Qcr i)
include h m hi
theorem Z6o:(Q2z c i).w (λr=>Q6l r.1):=by
 unfold Q2z
 refine w_cn (rc hi.a) (w_cn (rc hi.b) ?_)
 repeat'(first
   |refine w_br (λ_=> ?_) (λ_=> ?_)
   |exact Q0c (Qpg m hi.a _) λx hx=>hx.pc _
   |exact w_lv λx _=>w_br (λ_=>m.pc _) (λ_=>m.pc _)
   |exact w_lv λx hx=>by rw[hx];exact Qhg h m _ _
   |exact w_lv λx hx=>by rw[hx];exact Zb h m
   |exact w_cn (by have:=hi.csr (by simp_all);simp [Nat.blt];omega) (Q0c (Qpg m hi.a _) λx hx=>hx.pc _)
   |exact Q0c (write_may m _ _) λx hx=>hx.pc _
   |refine w_cn (rc hi.c) ?_
   |exact Q0c (Qya _ (h.r _) (Q0j _)) λy hy=>Q0c (Qpg m hi.a _) λx hx=>hx.pc _
   |exact Q0c (Qya _ (h.r _) (h.r _)) λy hy=>Q0c (Qpg m hi.a _) λx hx=>hx.pc _
   |refine w_lf ?_)
 all_goals exact m.pc _
theorem load_may{P:Nat}{mem:List Int}(hm:Q0u P mem):(Q7s c mem i).w (λr=>Q6l r.1):=by
 have w:=Z09 i.Op
 unfold Q7s
 refine w_cn (rc hi.b) (w_lv λx0 h0=> ?_)
 rw[←h0]at w
 refine Q0c (Qgx hm (Q0j _) w 2) λx1 h1=>w_br (λ_=>w_lv λy hy=>by rw[hy];exact Qhg h m _ _) (λ_=>w_lv λx3 h3=> ?_)
 rw[h0,←h3]at w
 exact Q0c (Qls h1.2 h1.1 w) λx4 h4=>w_br (λ_=>Q0c (Qoq h4.1 8) λy hy=>Q0c (Qpg m hi.a _) λx hx=>hx.pc _) (λ_=>Q0c (Qpg m hi.a _) λx hx=>hx.pc _)
theorem store_may{P:Nat}{mem:List Int}(hm:Q0u P mem):(Q6g c mem i).w (λr=>Q6l r.1):=by
 have w:=Z09 i.Op
 unfold Q6g
 refine w_cn (rc hi.b) (w_lv λx0 h0=> ?_)
 rw[←h0]at w
 refine Q0c (Qgx hm (Q0j _) w 3) λx1 h1=>w_br (λ_=>w_lv λy hy=>by rw[hy];exact Qhg h m _ _) (λ_=>w_lv λx3 h3=>w_cn (rc hi.a) ?_)
 rw[h0,←h3]at w
 exact Q0c (Qs2 h1.2 h1.1 w (h.r _)) λx hx=>m.pc _
end
theorem exec_may{c:Q03}(h:Q2s c)(m:Q6l c){P:Nat}{mem:List Int}(hm:Q0u P mem):(Q5z c mem).w (λr=>Q6l r.1):=by
 unfold Q5z
 refine Q0c (Z0b hm h) λx0 h0=>w_br (λ_=>w_lv λy hy=>by rw[hy];exact Qhg h m _ _) (λ_=>Q0c (Qty _) λx2 h2=>w_br (λ_=>w_lv λy hy=>by rw[hy];exact Qhg h m _ _) (λhb=> ?_))
 have hi:=h2 (by simpa using hb)
 refine w_lv λx4 _=> ?_
 repeat'(first
   |refine w_br (λ_=> ?_) (λ_=> ?_)
   |exact Q0c (load_may h m hi h0.2) λx hx=>hx
   |exact Q0c (store_may h m hi h0.2) λx hx=>hx
   |exact Q0c (Z6o h m hi) λx hx=>hx
   |exact w_lv λy hy=>by rw[hy];exact Qhg h m _ _
   |refine w_lv λ_ _=> ?_)
end Go.Proofs.YtpcbkbalabgnlaaGreat
namespace Go.Proofs.YtpcbkbalabgnlaaGreat
open Go Go.GD
set_option maxRecDepth 100000
theorem Z4x{c:Q03}(h:Q2s c){i:Q0h}(hi:Qcr i):(Q2z c i).w (λr=>0≤r.2.E0∧r.2.E0<16):=by
 have z:(0:Int)≤0∧(0:Int)<16:=⟨by decide,by decide⟩
 unfold Q2z
 refine w_cn (rc hi.a) (w_cn (rc hi.b) ?_)
 repeat'(first
   |refine w_br (λ_=> ?_) (λ_=> ?_)
   |exact Q0c (Qlb h hi.a (Q0j _)) λx hx=>z
   |exact w_lv λx _=>w_br (λ_=>z) (λ_=>z)
   |exact w_lv λx hx=>z
   |exact w_cn (by have:=hi.csr (by simp_all);simp [Nat.blt];omega) (Q0c (Qlb h hi.a (h.a _)) λx hx=>z)
   |exact Q0c (Z7k h _ (h.r _)) λx hx=>z
   |refine w_cn (rc hi.c) ?_
   |exact Q0c (Qya _ (h.r _) (Q0j _)) λy hy=>Q0c (Qlb h hi.a hy) λx hx=>z
   |exact Q0c (Qya _ (h.r _) (h.r _)) λy hy=>Q0c (Qlb h hi.a hy) λx hx=>z
   |refine w_lf ?_)
 all_goals first|exact z|exact hi.a
theorem Z8d{c:Q03}(h:Q2s c){P:Nat}{mem:List Int}(hm:Q0u P mem):(Q5z c mem).w (λr=>0≤r.2.2.E0∧r.2.2.E0<16):=by
 have z:(0:Int)≤0∧(0:Int)<16:=⟨by decide,by decide⟩
 unfold Q5z
 refine Q0c (Z0b hm h) λx0 h0=>w_br (λ_=>w_lv λy hy=>z) (λ_=>Q0c (Qty _) λx2 h2=>w_br (λ_=>w_lv λy hy=>z) (λhb=> ?_))
 have hi:=h2 (by simpa using hb)
 refine w_lv λx4 _=> ?_
 repeat'(first
   |refine w_br (λ_=> ?_) (λ_=> ?_)
   |exact Q0c (Qto h hi h0.2) λx hx=>z
   |exact Q0c (Qq9 h hi h0.2) λx hx=>z
   |exact Q0c (Z4x h hi) λx hx=>hx
   |exact w_lv λy hy=>z
   |refine w_lv λ_ _=> ?_)
theorem cnd2{a x:Bool}:(bif a then false else x)=true↔a=false∧x=true:=by cases a<;>simp
theorem Qiv(m:Q00):Q1c m=true↔Q0o m.Mem≠0∧Q6l m.B2∧m.A4≤1152921504606846976∧ ¬(m.A3=true∧m.A6=true)∧Q0v m=true:=by
  rw[may_eq]
  unfold mayC chain
  rw[cnd2,cnd2,cnd2,cnd2,cnd2,cnd2,cnd2]
  simp only[decide_eq_false_iff_not,Int.not_lt,beq_eq_false_iff_ne,bne_eq_false_iff_eq,gt_iff_lt]
  constructor
  · rintro⟨a1,a2,a3,a4,a5,a6,a7,a8⟩
    refine⟨a1,⟨a2,a3,a4,a5,a6⟩,a7,?_,?_⟩
    · rintro⟨w,h⟩;rw[w,h]at a8;cases a8
    · revert a8;cases m.A3
      · exact λh=>h
      · cases m.A6
        · exact λh=>h
        · intro h;cases h
  · rintro⟨a1,⟨a2,a3,a4,a5,a6⟩,a7,a8,a9⟩
    refine⟨a1,a2,a3,a4,a5,a6,a7,?_⟩
    rw[a9]
    cases hw:m.A3
    · rfl
    · cases hh:m.A6
      · rfl
      · exact absurd ⟨hw,hh⟩ a8
theorem Qs3{m:Q00}(h:Q2n m=true):Q1c m=true∧m.A6=false∧m.A4<1152921504606846976:=by
  simp only[Q2n,Q39,Tree.m,letv]at h
  cases h1:Q1c m
  · rw[h1]at h;cases h
  · cases h2:m.A6
    · rw[h1,h2]at h
      cases h3:Q60 m
      · rw[h3]at h
        have h:decide (m.A4<1152921504606846976)=true:=h
        exact⟨rfl,rfl,of_decide_eq_true h⟩
      · rw[h3]at h;cases h
    · rw[h1,h2]at h;cases h
theorem Qui{P:Nat}{m:Q00}(h:okS P m)(g:Q6l m.B2):(Q2a m).w (λr=>Q6l r.B2∧okS P r∧r.Mem=m.Mem∧r.A3=false∧r.A6=m.A6∧r.A4=m.A4∧r.A2=m.A2∧r.A7=m.A7∧r.B0=m.B0∧r.C5=m.C5∧r.A1=m.A1):=by
 obtain⟨h1,h2,h3,h4,h5,h6⟩:=h
 unfold Q2a
 refine w_br (λ_=>⟨g,⟨h1,h2,h3,h4,h5,h6⟩,rfl,rfl,rfl,rfl,rfl,rfl,rfl,rfl,rfl⟩) (λ_=>Q0c (Qp3 (m:=⟨_,_,_,_,_,_,m.A1,_,_,_⟩) h6) λx0 _=>w_lp (inv:=λz=>0≤z∧z≤5) (μ:=Qa8 m) ⟨by omega,by omega⟩ (Nat.lt_succ_self _) (λz hz=> ?_))
 obtain⟨z1,z2⟩:=hz
 refine w_br (λhb=>w_cn (decide_eq_true z1) (w_br (λ_=>w_lv λx1 hx=>⟨by rw[hx];exact Qhg h1 g _ _,⟨by rw[hx];exact Qju h1 _ U_0,h2,h3,h4,h5,h6⟩,rfl,rfl,rfl,rfl,rfl,rfl,rfl,rfl,rfl⟩) (λ_=>w_nx ?_))) (λ_=>⟨g,⟨h1,h2,h3,h4,h5,h6⟩,rfl,rfl,rfl,rfl,rfl,rfl,rfl,rfl,rfl⟩)
 have hb:=of_decide_eq_true hb
 show(0≤IntKind.i64.wrap (z+1)∧IntKind.i64.wrap (z+1)≤5)∧(5-IntKind.i64.wrap (z+1)).toNat<(5-z).toNat
 have ew:IntKind.i64.wrap (z+1)=z+1:=by rw[IntKind.wrap_i64];omega
 rw[ew];omega
end Go.Proofs.YtpcbkbalabgnlaaGreat
namespace Go.Proofs.YtpcbkbalabgnlaaGreat
open Go Go.GD
set_option maxRecDepth 100000
structure Good(P:Nat)(m r:Q00):Prop where
 ok:okS P r
 cnt:0≤r.A4
 may:Q1c m=true→Q1c r=true
 or:r=m∨r.A4=m.A4+1
end Go.Proofs.YtpcbkbalabgnlaaGreat
namespace Go.Proofs.YtpcbkbalabgnlaaGreat
open Go Go.GD
set_option maxRecDepth 100000
end Go.Proofs.YtpcbkbalabgnlaaGreat
namespace Go.Proofs.YtpcbkbalabgnlaaGreat
open Go Go.GD
set_option maxRecDepth 100000
theorem step_w0{P:Nat}{m:Q00}(h:okS P m)(hc0:0≤m.A4){clock:Int}(hk:U clock):(Q2v m clock).w (λr=>r.2.length≤1∧Good P m r.1):=by
 have hcl:Q02 m.Mem=m.Mem:=rfl
 unfold Q2v
 refine w_an (Q8i h.mem) (w_lv λl hl=> ?_)
 rw[hcl]at hl;subst hl
 refine w_an (Tree.pp (Z66 (m:=⟨_,_,_,_,_,_,m.A1,_,_,_⟩) h.given)).1 (w_lv λx1 hx1=>w_br (λ_=>⟨Nat.zero_le _,h,hc0,λh=>h, .inl rfl⟩) (λhb=> ?_))
 have hr:Q2n m=true:=by rw[←show x1=Q2n m from hx1];simpa using hb
 obtain⟨hm,hh,hct⟩:=Qs3 hr
 obtain⟨g1,g2,g3,g4,g5⟩:=(Qiv m).1 hm
 have hP:(P:Int)≠0:=by rw[←Q3o h.mem];exact g1
 have fin: ∀(n:Q00),okS P n→Q6l n.B2→Q0v n=true→n.A4=m.A4→ ¬(n.A3=true∧n.A6=true)→Good P m {B2:=n.B2,Mem:=n.Mem,A2:=n.A2,A7:=n.A7,B0:=n.B0,C5:=n.C5,A1:=n.A1,A4:=IntKind.wrap .u64 (n.A4+1),A3:=n.A3,A6:=n.A6}:=λn a b c d e=>by
   have ec:IntKind.wrap .u64 (n.A4+1)=m.A4+1:=by rw[d,IntKind.wrap_u64];omega
   refine⟨⟨a.cpu,a.mem,a.disk,a.nic,a.target,a.given⟩,?_,λ_=>(Qiv _).2 ⟨?_,b,?_,e,c⟩, .inr ec⟩
   · show 0≤IntKind.wrap .u64 (n.A4+1);omega
   · show Q0o n.Mem≠0;rw[Q3o a.mem];exact hP
   · show IntKind.wrap .u64 (n.A4+1)≤_;omega
 refine Q0c (Qui (m:=⟨_,_,m.A2,m.A7,m.B0,m.C5,m.A1,m.A4,m.A3,m.A6⟩) ⟨h.cpu,h.mem,h.disk,h.nic,h.target,h.given⟩ g2) λx2 hx2=> ?_
 obtain⟨b1,b2,b3,b4,b5,b6,b7,b8,b9,b10,b11⟩:=hx2
 have ex:=Tree.pp (execP_w b2.cpu b2.mem)
 have em:=Tree.pp (exec_may b2.cpu b1 b2.mem)
 have er:=Tree.pp (Z8d b2.cpu b2.mem)
 refine w_an ex.1 (w_lv λx3 h3=> ?_)
 obtain⟨e1,e2,e3⟩:Q2s x3.1∧Q0u P x3.2.1∧U x3.2.2.Value:=by rw[h3];exact ex.2
 have f1:Q6l x3.1:=by rw[h3];exact em.2
 have r1:0≤x3.2.2.E0∧x3.2.2.E0<16:=by rw[h3];exact er.2
 have ok3:okS P ⟨x3.1,x3.2.1,x2.A2,x2.A7,x2.B0,x2.C5,x2.A1,x2.A4,x2.A3,x2.A6⟩:=⟨e1,e2,b2.disk,b2.nic,b2.target,b2.given⟩
 have dev: ∀(w h:Bool),Q0v ⟨x3.1,x3.2.1,x2.A2,x2.A7,x2.B0,x2.C5,x2.A1,x2.A4,w,h⟩=true:=λw hh=>by
   have id: ∀{p:Prop},p→p:=λh=>h
   refine Qkj (m:=m) (P:=P) h.mem e2 ?_ ?_ ?_ ?_ ?_ g5
   · show _→Q30 x2.A2=true;rw[b7];exact id
   · show _→Q5o x2.A7=true;rw[b8];exact id
   · show _→Q1e x2.B0 P=true;rw[b9];exact id
   · show _→Q6t x2.C5 P=true;rw[b10];exact id
   · show _→Q3c x2.A1 P=true;rw[b11];exact id
 have hw:x2.A3=false:=b4
 have hh2:x2.A6=false:=b5.trans hh
 have hct2:x2.A4=m.A4:=b6
 refine w_br (λ_=> ?_) λ_=>w_br (λ_=> ?_) λ_=>w_br (λ_=> ?_) λ_=>w_br (λ_=> ?_) λ_=> ?_
 · refine Q0c (Za5 ok3 _ hk) λx4 h4=> ?_
   obtain⟨k,u⟩:=h4
   have kc:x4.1.B2=x3.1:=k.cpu
   have kt:x4.1.A4=m.A4:=k.cnt.trans hct2
   have kw: ¬(x4.1.A3=true∧x4.1.A6=true):=λe=>by have:x4.1.A3=x2.A3:=k.wait;rw[this,hw]at e;cases e.1
   have km:Q6l x4.1.B2:=by rw[kc];exact f1
   refine w_br (λhn=>w_cn (rc r1) ⟨Nat.zero_le _,?_⟩) (λ_=>⟨Nat.zero_le _,fin x4.1 k.ok km (k.dev (dev _ _)) kt kw⟩)
   have hn:x3.2.2.E0≠0:=by simpa using hn
   obtain⟨q,e⟩: ∃q:Nat,x3.2.2.E0.toNat=q+1:=⟨x3.2.2.E0.toNat-1,by omega⟩
   refine fin ⟨⟨A16.of 0 (List.set (A16.l x4.1.B2.X) x3.2.2.E0.toNat x4.2),x4.1.B2.Pc,x4.1.B2.B5⟩,x4.1.Mem,x4.1.A2,x4.1.A7,x4.1.B0,x4.1.C5,x4.1.A1,x4.1.A4,x4.1.A3,x4.1.A6⟩ ⟨⟨Z5m k.ok.cpu.x u _,k.ok.cpu.pc,k.ok.cpu.csr⟩,k.ok.mem,k.ok.disk,k.ok.nic,k.ok.target,k.ok.given⟩ ⟨?_,km.st,km.en,km.rt,km.ve⟩ (k.dev (dev _ _)) kt kw
   show(A16.of 0 (List.set (A16.l x4.1.B2.X) x3.2.2.E0.toNat x4.2)).a0=0
   rw[e]
   exact km.x0
 · refine Q0c (Z5z ok3 _ e3 _) λx5 h5=> ?_
   obtain⟨k,u⟩:=h5
   have kc:x5.1.B2=x3.1:=k.cpu
   exact⟨u,fin x5.1 k.ok (by rw[kc];exact f1) (k.dev (dev _ _)) (k.cnt.trans hct2) (λe=>by have:x5.1.A3=x2.A3:=k.wait;rw[this,hw]at e;cases e.1)⟩
 · exact⟨Nat.zero_le _,fin ⟨x3.1,x3.2.1,x2.A2,x2.A7,x2.B0,x2.C5,x2.A1,x2.A4,true,x2.A6⟩ ⟨e1,e2,b2.disk,b2.nic,b2.target,b2.given⟩ f1 (dev _ _) hct2 (λe=>by have e2:x2.A6=true:=e.2;rw[hh2]at e2;cases e2)⟩
 · exact⟨Nat.zero_le _,fin ⟨x3.1,x3.2.1,x2.A2,x2.A7,x2.B0,x2.C5,x2.A1,x2.A4,x2.A3,true⟩ ⟨e1,e2,b2.disk,b2.nic,b2.target,b2.given⟩ f1 (dev _ _) hct2 (λe=>by have e2:x2.A3=true:=e.1;rw[hw]at e2;cases e2)⟩
 · exact⟨Nat.zero_le _,fin ⟨x3.1,x3.2.1,x2.A2,x2.A7,x2.B0,x2.C5,x2.A1,x2.A4,x2.A3,x2.A6⟩ ok3 f1 (dev _ _) hct2 (λe=>by have e2:x2.A3=true:=e.1;rw[hw]at e2;cases e2)⟩
theorem Z7i{P:Nat}{m:Q00}(h:okM P m){e:Q09}(he:U e.N):(Q2r m e).w (λr=>(Q1c m=true→Q1c r.1=true)∧r.1.A4=m.A4∧U r.1.A1.C1):=by
 obtain⟨h1,h2,h3,h4,h5,h7⟩:=h
 have hcl:Q02 m.Mem=m.Mem:=rfl
 have pg: ∀{m':List Int},Q0u P m'→Q0o m'=Q0o m.Mem:=λh=>by rw[Q3o h,Q3o h2]
 have keep:(Q1c m=true→Q1c m=true)∧m.A4=m.A4∧U m.A1.C1:=⟨λh=>h,rfl,h5.2⟩
 unfold Q2r
 refine w_an (Q8i h2) (w_lv λl hl=> ?_)
 rw[hcl]at hl;subst hl
 refine Q0c (Z73 (m:=⟨_,_,_,_,_,_,m.A1,_,_,_⟩) h5.2) λx1 _=>w_br (λ_=>keep) λ_=>w_br (λ_=>keep) λ_=> ?_
 refine w_br (λ_=>w_br (λ_=>w_br (λ_=>w_lv λx hx=> ?_) (λ_=>keep)) (λ_=>keep)) λ_=>w_br (λ_=>w_br (λ_=>w_br (λ_=>Q0c (ctype_w _ _) λx hx=> ?_) (λ_=>keep)) (λ_=>keep)) λ_=>w_br (λhk=>Q0c (Zbd h2 h3 e) λx hx=> ?_) λ_=>w_br (λhk=>w_br (λ_=>Q0c (receive_w h2 h4 _) λx hx=> ?_) (λ_=>keep)) λ_=>w_br (λ_=>w_br (λ_=> ?_) (λ_=>keep)) (λ_=>keep)
 · exact⟨Qng rfl rfl rfl rfl rfl (λh=>h) (λh=>by rw[hx];exact fire_may _ h) (λ_ h=>h) (λ_ h=>h) rfl,rfl,h5.2⟩
 · exact⟨Qng rfl rfl rfl rfl rfl hx (λh=>h) (λ_ h=>h) (λ_ h=>h) rfl,rfl,h5.2⟩
 · obtain⟨a1,a2,a3,a4,a5⟩:=hx
   exact⟨Qng (pg a2) rfl rfl rfl rfl (λh=>h) (λh=>h) a5 (λ_ h=>h) rfl,rfl,h5.2⟩
 · obtain⟨a1,a2,a3,a4,a5⟩:=hx
   exact⟨Qng (pg a2) rfl rfl rfl rfl (λh=>h) (λh=>h) (λ_ h=>h) a5 rfl,rfl,h5.2⟩
 · exact⟨Qng rfl rfl rfl rfl rfl (λh=>h) (λh=>h) (λ_ h=>h) (λ_ h=>h) rfl,rfl,h5.2⟩
end Go.Proofs.YtpcbkbalabgnlaaGreat
namespace Go.Proofs.YtpcbkbalabgnlaaGreat
open Go Go.GD
set_option maxRecDepth 100000
structure okW(m:Q00):Prop where
 cpu:Q2s m.B2
 u: ∀w∈m.Mem,U w
 len:m.Mem.length≤1024
 disk:Q7y m.B0
 nic:Qft m.C5
 bal:okB m.A1
 cnt:0≤m.A4
end Go.Proofs.YtpcbkbalabgnlaaGreat
namespace Go.Proofs.YtpcbkbalabgnlaaGreat
open Go Go.GD
set_option maxRecDepth 100000
theorem Qp7{a:Int}(h:U a):(BitVec.ofInt 32 a).toNat=a.toNat:=by
 obtain⟨h1,h2⟩:=h
 rw[BitVec.toNat_ofInt];omega
theorem Z6f{a b:Int}(ha:U a)(hb:U b):iand .u32 a b=((a.toNat&&&b.toNat:Nat):Int):=by
 have l:=(BitVec.ofInt 32 a&&&BitVec.ofInt 32 b).isLt
 have e:(BitVec.ofInt 32 a&&&BitVec.ofInt 32 b).toNat=a.toNat&&&b.toNat:=by rw[BitVec.toNat_and,Qp7 ha,Qp7 hb]
 show IntKind.wrap .u32 ((BitVec.ofInt 32 a&&&BitVec.ofInt 32 b).toNat:Int)=_
 rw[IntKind.wrap_u32,←e];omega
theorem or_nat{a b:Int}(ha:U a)(hb:U b):ior .u32 a b=((a.toNat|||b.toNat:Nat):Int):=by
 have l:=(BitVec.ofInt 32 a|||BitVec.ofInt 32 b).isLt
 have e:(BitVec.ofInt 32 a|||BitVec.ofInt 32 b).toNat=a.toNat|||b.toNat:=by rw[BitVec.toNat_or,Qp7 ha,Qp7 hb]
 show IntKind.wrap .u32 ((BitVec.ofInt 32 a|||BitVec.ofInt 32 b).toNat:Int)=_
 rw[IntKind.wrap_u32,←e];omega
theorem Z17{a:Int}(ha:U a)(k:Nat)(hk:k≤32){q:Int}(hq:q=((2^k-1:Nat):Int)):iand .u32 a q=a%2^k:=by
 have hp:2^k≤2^32:=Nat.pow_le_pow_right (by decide) hk
 have h1:(2:Nat)^32=4294967296:=by decide
 have hpos:=Nat.two_pow_pos k
 subst hq
 rw[Z6f ha ⟨by omega,by omega⟩,Int.toNat_natCast,Nat.and_two_pow_sub_one_eq_mod]
 have:=ha.1
 rw[Int.natCast_emod,Int.toNat_of_nonneg this]
 simp
theorem m15{a:Int}(ha:U a):iand .u32 a 15=a%16:=Z17 ha 4 (by decide) rfl
theorem m255{a:Int}(ha:U a):iand .u32 a 255=a%256:=Z17 ha 8 (by decide) rfl
theorem m65535{a:Int}(ha:U a):iand .u32 a 65535=a%65536:=Z17 ha 16 (by decide) rfl
theorem Qnc(p:Int→Bool)(N:Nat)(h:(List.range N).all (λn=>p n)=true){s:Int}(h0:0≤s)(h1:s<N):p s=true:=by
 have:=List.all_eq_true.1 h s.toNat (List.mem_range.2 (by omega))
 rwa [Int.toNat_of_nonneg h0]at this
theorem w64{x:Int}(h0: -9223372036854775808≤x)(h1:x<9223372036854775808):IntKind.wrap .i64 x=x:=by rw[IntKind.wrap_i64];omega
theorem shr0(a:Int):ishr .u32 a 0=a:=by have:=Ql9 (a:=a) 0 (by decide);simpa using this
theorem fld(w:Int):Q34 w 24 8=iand .u32 (ishr .u32 w 24) 255∧Q34 w 20 4=iand .u32 (ishr .u32 w 20) 15∧Q34 w 16 4=iand .u32 (ishr .u32 w 16) 15∧Q34 w 0 16=iand .u32 (ishr .u32 w 0) 65535∧Q34 w 8 8=iand .u32 (ishr .u32 w 8) 255:=
 ⟨by kernel_rfl,by kernel_rfl,by kernel_rfl,by kernel_rfl,by kernel_rfl⟩
def useOf(f:Int):Q80×Bool:=
 bif f==1 then(⟨false,false,false,0,0⟩,true) else bif f==2 then(⟨true,true,true,0,0⟩,true) else bif f==3 then(⟨true,true,false,-32768,32767⟩,true)
 else bif f==4 then(⟨true,true,false,0,65535⟩,true) else bif f==5 then(⟨true,true,false,0,31⟩,true) else bif f==6 then(⟨true,false,false,0,65535⟩,true)
 else bif f==7 then(⟨true,false,false,-32768,32767⟩,true) else bif f==8 then(⟨true,false,false,0,7⟩,true) else bif f==9 then(⟨true,false,false,0,11⟩,true) else(⟨false,false,false,0,0⟩,false)
def sameU(x y:Q80×Bool):Bool:=x.1.a==y.1.a&&x.1.b==y.1.b&&x.1.c==y.1.c&&x.1.low==y.1.low&&x.1.D5==y.1.D5&&x.2==y.2
theorem sameU_eq{x y:Q80×Bool}(h:sameU x y=true):x=y:=by
 obtain⟨⟨a,b,c,d,e⟩,f⟩:=x
 obtain⟨⟨a',b',c',d',e'⟩,f'⟩:=y
 simp only[sameU,Bool.and_eq_true,beq_iff_eq]at h
 obtain⟨⟨⟨⟨⟨rfl,rfl⟩,rfl⟩,rfl⟩,rfl⟩,rfl⟩:=h
 rfl
theorem use_eq{op:Int}(h0:0≤op)(h1:op<256):Qv6 op=useOf (Q26 op):=by
 exact sameU_eq (Qnc (λop=>sameU (Qv6 op) (useOf (Q26 op))) 256 (by kernel_rfl) h0 h1)
theorem form_le{op:Int}(h0:0≤op)(h1:op<256):Q26 op=0∨Q26 op=1∨Q26 op=2∨Q26 op=3∨Q26 op=4∨Q26 op=5∨Q26 op=6∨Q26 op=7∨Q26 op=8∨Q26 op=9:=by
 have:=of_decide_eq_true (Qnc (λop=>decide (0≤Q26 op∧Q26 op≤9)) 256 (by kernel_rfl) h0 h1)
 omega
theorem priv_eq{op:Int}(h0:0≤op)(h1:op<256):Q7u op=Q49 op:=by
 exact eq_of_beq (Qnc (λop=>Q7u op==Q49 op) 256 (by kernel_rfl) h0 h1)
theorem cond_iff{a x y:Bool}:(cond a x y=true)↔((a=true∧x=true)∨(a=false∧y=true)):=by cases a<;>simp
theorem Z0d{i:Q0h}(h0:0≤i.Op)(h1:i.Op<256)(hi:IntKind.wrap .i64 i.Imm=i.Imm):Qd0 i=Q6u i:=by
 rw[Bool.eq_iff_iff]
 simp only[Qd0,Qfo,Tree.m,letv,Q6u,Qcq,use_eq h0 h1,hi]
 rcases form_le h0 h1 with h|h|h|h|h|h|h|h|h|h<;>rw[h]<;>
 simp [useOf,Q8l,Qch,Q7f,Qax,Qhb,Qhu,Tree.m,letv,cond_iff]<;>omega
theorem sx16{x:Int}(h0:0≤x)(h1:x<65536):IntKind.wrap .i32 (Q29 x 16)=IntKind.wrap .i32 (IntKind.wrap .i16 x):=by
 have e:Q29 x 16=IntKind.wrap .u32 (ishr .i32 (IntKind.wrap .i32 (ishl .u32 x 16)) 16):=by kernel_rfl
 have e2: ∀y,ishr .i32 y 16=y/65536:=λy=>by
   show Int.fdiv y 65536=_
   rw[Int.fdiv_eq_ediv_of_nonneg _ (by decide)]
 have e3:ishl .u32 x 16=IntKind.wrap .u32 (x*65536):=rfl
 have e4:IntKind.wrap .i16 x=(x+32768)%65536-32768:=by
   simp [IntKind.wrap,IntKind.bits,IntKind.signed]
   split<;>omega
 rw[e,e2,e3,e4]
 simp only[IntKind.wrap_i32,IntKind.wrap_u32]
 omega
theorem sx8{x:Int}(h0:0≤x)(h1:x<256):Q29 x 8=Q4c x 8:=by
 exact eq_of_beq (Qnc (λx=>Q29 x 8==Q4c x 8) 256 (by kernel_rfl) h0 h1)
theorem decode_eq{w:Int}(hw:U w):Qed w=Q1w w:=by
 obtain⟨f1,f2,f3,f4,_⟩:=fld w
 obtain⟨w0,w1⟩:=hw
 have s24:ishr .u32 w 24=w/16777216:=by have:=Ql9 (a:=w) 24 (by decide);simpa using this
 have s20:U (ishr .u32 w 20):=Qox ⟨w0,w1⟩ _
 have s16:U (ishr .u32 w 16):=Qox ⟨w0,w1⟩ _
 rw[m255 (Qox ⟨w0,w1⟩ _),s24]at f1
 rw[m15 s20]at f2
 rw[m15 s16]at f3
 rw[shr0]at f4
 have g1:w/16777216%256=w/16777216:=by omega
 rw[g1]at f1
 have o0:0≤w/16777216:=by omega
 have o1:w/16777216<256:=by omega
 have eo:IntKind.wrap .i64 (w/16777216)=w/16777216:=w64 (by omega) (by omega)
 have i32: ∀x,IntKind.wrap .i64 (IntKind.wrap .i32 x)=IntKind.wrap .i32 x:=λx=>by rw[IntKind.wrap_i64,IntKind.wrap_i32];omega
 have l0:=m65535 ⟨w0,w1⟩
 have lx:=sx16 (x:=iand .u32 w 65535) (by omega) (by omega)
 simp only[Qed,Q62,Q1w,Q7b,Tree.m,letv,f1,f2,f3,f4,s24,eo,use_eq o0 o1,m15 s20,m15 s16,lx]
 generalize w/16777216=op at*
 generalize IntKind.wrap .i64 (ishr .u32 w 20%16)=a
 generalize IntKind.wrap .i64 (ishr .u32 w 16%16)=b
 generalize iand .u32 w 65535=l
 rw[Z0d (i:=⟨op,a,b,IntKind.wrap .i64 l,0⟩) o0 o1 rfl,Z0d (i:=⟨op,a,b,0,IntKind.wrap .i32 (IntKind.wrap .i16 l)⟩) o0 o1 (i32 _),Z0d (i:=⟨op,a,b,0,IntKind.wrap .i32 l⟩) o0 o1 (i32 _)]
 rcases form_le o0 o1 with h|h|h|h|h|h|h|h|h|h<;>rw[h]<;>rfl
end Go.Proofs.YtpcbkbalabgnlaaGreat
namespace Go.Proofs.YtpcbkbalabgnlaaGreat
open Go Go.GD
set_option maxRecDepth 100000
theorem put_nat(x v:BitVec 32)(s:Nat)(hs:s≤24):((x&&&~~~(255#32<<<s))|||((v&&&255#32)<<<s)).toNat=2^(s+8)*(x.toNat/2^(s+8))+(2^s*(v.toNat%256)+x.toNat%2^s):=by
  have hx:=x.isLt
  have h1:x.toNat%2^s<2^s:=Nat.mod_lt _ (Nat.two_pow_pos s)
  have h2:2^s*(v.toNat%256)+x.toNat%2^s<2^(s+8):=by
    have:v.toNat%256<256:=Nat.mod_lt _ (by decide)
    have h3:2^s*(v.toNat%256)≤2^s*255:=Nat.mul_le_mul_left _ (by omega)
    have:2^(s+8)=2^s*256:=by rw[Nat.pow_add]
    omega
  rw[Nat.two_pow_add_eq_or_of_lt h2,Nat.two_pow_add_eq_or_of_lt h1]
  apply Nat.eq_of_testBit_eq
  intro i
  rw[BitVec.testBit_toNat]
  simp only[BitVec.getLsbD_or,BitVec.getLsbD_and,BitVec.getLsbD_not,BitVec.getLsbD_shiftLeft,Nat.testBit_or,Nat.testBit_two_pow_mul,Nat.testBit_mod_two_pow,Nat.testBit_div_two_pow,BitVec.getLsbD_ofNat]
  have e255: ∀j,Nat.testBit 255 j=decide (j<8):=λj=>by
    rw[show 255=2^8-1 from rfl,Nat.testBit_two_pow_sub_one]
  have e256: ∀n j,Nat.testBit (n%256) j=(decide (j<8)&&Nat.testBit n j):=λn j=>by
    rw[show 256=2^8 from rfl,Nat.testBit_mod_two_pow]
  rw[e255,e256]
  by_cases hi:i<32
  · by_cases a1:i<s
    · have a2: ¬(s≤i):=by omega
      have a3: ¬(s+8≤i):=by omega
      simp [hi,a1,a2,a3,BitVec.getLsbD]
    · by_cases a4:s+8≤i
      · have a2: ¬(i-s<8):=by omega
        have a5:i-(s+8)+(s+8)=i:=by omega
        have a6:s≤i:=by omega
        simp [hi,a1,a2,a4,a5,a6,BitVec.getLsbD]
      · have a2:(i-s<8):=by omega
        have a6:s≤i:=by omega
        have a7:i-s<32:=by omega
        simp [hi,a1,a2,a4,a6,a7,BitVec.getLsbD]
  · have a0:x.toNat.testBit i=false:=Nat.testBit_lt_two_pow (Nat.lt_of_lt_of_le hx (Nat.pow_le_pow_right (by decide) (by omega)))
    have a1: ¬(i<s):=by omega
    have a2: ¬(i-s<8):=by omega
    have a4:s+8≤i:=by omega
    have a5:i-(s+8)+(s+8)=i:=by omega
    simp [hi,a0,a1,a2,a4,a5]
theorem Qxc(b:BitVec 32):BitVec.ofInt 32 (IntKind.wrap .u32 (b.toNat:Int))=b:=by
 have:=b.isLt
 rw[IntKind.wrap_u32]
 apply BitVec.eq_of_toNat_eq
 rw[BitVec.toNat_ofInt];omega
theorem Za8(x:Int):BitVec.ofInt 32 (IntKind.wrap .u32 x)=BitVec.ofInt 32 x:=by
 apply BitVec.eq_of_toNat_eq
 rw[BitVec.toNat_ofInt,BitVec.toNat_ofInt,IntKind.wrap_u32]
 have:((2^32:Nat):Int)=4294967296:=by decide
 rw[this,Int.emod_emod_of_dvd _ (Int.dvd_refl _)]
theorem Z1z{x:Int}(hx:U x)(s:Nat)(hs:s≤32):BitVec.ofInt 32 (ishl .u32 x s)=BitVec.ofInt 32 x<<<s:=by
 obtain⟨n,rfl⟩: ∃n:Nat,x=n:=⟨x.toNat,by have:=hx.1;omega⟩
 have e:min (Int.toNat (s:Int)) IntKind.u32.bits=s:=by show min (Int.toNat (s:Int)) 32=s;omega
 unfold ishl
 rw[e,Za8]
 have e2:((n:Int)*2^s)=((n*2^s:Nat):Int):=by simp
 have:=hx.2
 rw[e2,BitVec.ofInt_natCast,BitVec.ofInt_natCast]
 apply BitVec.eq_of_toNat_eq
 rw[BitVec.toNat_shiftLeft,BitVec.toNat_ofNat,BitVec.toNat_ofNat,Nat.shiftLeft_eq,Nat.mod_mul_mod]
def putW(W v:Int)(s:Nat):Int:=ior .u32 (Qdr .u32 W (ishl .u32 255 s)) (ishl .u32 (iand .u32 v 255) s)
theorem put_num{W v:Int}(hW:U W)(hv:U v)(s:Nat)(hs:s≤24):putW W v s=2^(s+8)*(W/2^(s+8))+(2^s*(v%256)+W%2^s):=by
 have e:=put_nat (BitVec.ofInt 32 W) (BitVec.ofInt 32 v) s hs
 have l:=((BitVec.ofInt 32 W&&&~~~(255#32<<<s))|||((BitVec.ofInt 32 v&&&255#32)<<<s)).isLt
 have h1:BitVec.ofInt 32 (Qdr .u32 W (ishl .u32 255 s))=BitVec.ofInt 32 W&&&~~~(255#32<<<s):=by
   show BitVec.ofInt 32 (IntKind.wrap .u32 (BitVec.ofInt 32 W&&&~~~BitVec.ofInt 32 (ishl .u32 255 s)).toNat)=_
   rw[Qxc,Z1z ⟨by decide,by decide⟩ s (by omega)]
   rfl
 have h2:BitVec.ofInt 32 (ishl .u32 (iand .u32 v 255) s)=(BitVec.ofInt 32 v&&&255#32)<<<s:=by
   rw[Z1z (Z60 _ _) s (by omega)]
   congr 1
   show BitVec.ofInt 32 (IntKind.wrap .u32 (BitVec.ofInt 32 v&&&BitVec.ofInt 32 255).toNat)=_
   rw[Qxc];rfl
 show IntKind.wrap .u32 ((BitVec.ofInt 32 (Qdr .u32 W (ishl .u32 255 s))|||BitVec.ofInt 32 (ishl .u32 (iand .u32 v 255) s)).toNat:Int)=_
 rw[h1,h2]
 have lw:IntKind.wrap .u32 ((((BitVec.ofInt 32 W&&&~~~(255#32<<<s))|||((BitVec.ofInt 32 v&&&255#32)<<<s)).toNat:Nat):Int)=(((BitVec.ofInt 32 W&&&~~~(255#32<<<s))|||((BitVec.ofInt 32 v&&&255#32)<<<s)).toNat:Nat):=by rw[IntKind.wrap_u32];omega
 rw[lw,e,Qp7 hW,Qp7 hv]
 obtain⟨n,rfl⟩: ∃n:Nat,W=n:=⟨W.toNat,by have:=hW.1;omega⟩
 obtain⟨k,rfl⟩: ∃n:Nat,v=n:=⟨v.toNat,by have:=hv.1;omega⟩
 simp
def dig(w:Int)(k:Nat):Int:=if k=0 then w%256 else if k=1 then w/256%256 else if k=2 then w/65536%256 else w/16777216%256
def byt(m:List Int)(a:Nat):Int:=dig (m.getD (a/4) 0) (a%4)
theorem dig_lt(w:Int)(k:Nat):0≤dig w k∧dig w k<256:=by
 unfold dig
 split
 · omega
 · split
   · omega
   · split<;>omega
theorem dig_ext{w v:Int}(hw:U w)(hv:U v)(h: ∀k,k<4→dig w k=dig v k):w=v:=by
 have h0:=h 0 (by omega)
 have h1:=h 1 (by omega)
 have h2:=h 2 (by omega)
 have h3:=h 3 (by omega)
 simp [dig]at h0 h1 h2 h3
 obtain⟨a,b⟩:=hw
 obtain⟨c,d⟩:=hv
 omega
theorem Z5q{m n:List Int}(hl:m.length=n.length)(hm: ∀w∈m,U w)(hn: ∀w∈n,U w)(h: ∀a,byt m a=byt n a):m=n:=by
 refine List.ext_getElem hl λi h1 h2=> ?_
 have e1:m[i]=m.getD i 0:=by simp [List.getD,h1]
 have e2:n[i]=n.getD i 0:=by simp [List.getD,h2]
 rw[e1,e2]
 refine dig_ext (Qh5 hm i) (Qh5 hn i) λk hk=> ?_
 have:=h (4*i+k)
 simp only[byt]at this
 rwa [show(4*i+k)/4=i by omega,show(4*i+k)%4=k by omega]at this
theorem Qnh{l:List Int}{i:Nat}(h:i<l.length)(v:Int):(l.set i v).getD i 0=v:=by
 simp [List.getD,h]
theorem Z6j{m:List Int}{i:Nat}(hi:i<m.length)(v:Int)(a:Nat):byt (m.set i v) a=if a/4=i then dig v (a%4) else byt m a:=by
 unfold byt
 split
 · rename_i h;rw[h,Qnh hi]
 · rename_i h;rw[getDset _ _ _ _ (λe=>h e.symm)]
theorem put_dig{W v:Int}(hW:U W)(hv:U v){j:Nat}(hj:j<4){k:Nat}(hk:k<4):dig (putW W v (8*j)) k=if k=j then v%256 else dig W k:=by
 have h:=put_num hW hv (8*j) (by omega)
 rw[h]
 obtain⟨w0,w1⟩:=hW
 have h0:0≤v%256:=by omega
 have h1:v%256<256:=by omega
 generalize v%256=b at*
 clear h
 have hj:j=0∨j=1∨j=2∨j=3:=by omega
 have hk:k=0∨k=1∨k=2∨k=3:=by omega
 rcases hj with rfl|rfl|rfl|rfl<;>rcases hk with rfl|rfl|rfl|rfl<;>simp [dig]<;>omega
theorem puts_eq{m:List Int}{a v:Int}(ha:U a):Qa5 m a 1 v=m.set (a/4).toNat (putW (m.getD (a/4).toNat 0) v (8*(a%4).toNat)):=by
 obtain⟨a0,a1⟩:=ha
 have e1:IntKind.wrap .u32 (Int.tdiv a 4)=a/4:=by rw[IntKind.wrap_u32,Int.tdiv_eq_ediv_of_nonneg a0];omega
 have e2:IntKind.wrap .u32 (8*Int.tmod a 4)=((8*(a%4).toNat:Nat):Int):=by rw[IntKind.wrap_u32,Int.tmod_eq_emod_of_nonneg a0];omega
 have e3:((1:Int)==4)=false:=rfl
 simp only[Qa5,Qea,Tree.m,e1,e2,e3,cond_false]
 rfl
theorem puts_byte{P:Nat}{m:List Int}(h:Q0u P m){a v:Int}(ha:U a)(hl:a<128*P)(hv:U v):Q0u P (Qa5 m a 1 v)∧ ∀b:Nat,byt (Qa5 m a 1 v) b=if(b:Int)=a then v%256 else byt m b:=by
 have hlen:=h.len
 have a0:=ha.1
 rw[puts_eq ha]
 have hi:(a/4).toNat<m.length:=by omega
 refine⟨⟨by rw[List.length_set];exact hlen,h.p1,h.p2,Qw2 h.u (U_or _ _) _⟩,λb=> ?_⟩
 rw[Z6j hi]
 by_cases hb:b/4=(a/4).toNat
 · rw[if_pos hb,put_dig (Qh5 h.u _) hv (by omega) (by omega)]
   by_cases hc:b%4=(a%4).toNat
   · rw[if_pos hc,if_pos (by omega)]
   · rw[if_neg hc,if_neg (by omega),byt,hb]
 · rw[if_neg hb,if_neg (by omega)]
theorem fill_b{P:Nat}{m:List Int}(h:Q0u P m){frame:Int}(f0:0≤frame)(f1:frame<P)(s:List UInt8):(Qaf m frame s).w (λr=>Q0u P r∧ ∀b:Nat,byt r b=if frame*128≤b∧(b:Int)<frame*128+min s.length 128 then((s.getD (b-frame*128).toNat 0).toNat:Int) else byt m b):=by
 unfold Qaf
 have h3:=h.p2
 refine w_lp (inv:=λz=>0≤z.1∧z.1≤min s.length 128∧Q0u P z.2∧ ∀b:Nat,byt z.2 b=if frame*128≤b∧(b:Int)<frame*128+z.1 then((s.getD (b-frame*128).toNat 0).toNat:Int) else byt m b) (μ:=Qf9 m frame s) ⟨show(0:Int)≤0 by decide,by show(0:Int)≤_;omega,h,λb=>by rw[if_neg];show¬(_∧_<_+(0:Int));omega⟩ (Nat.lt_succ_self _) (λv0 hv0=> ?_)
 obtain⟨i,mm⟩:=v0
 obtain⟨i0,i1,hm,hy⟩:=hv0
 have i0:0≤i:=i0
 have i1:i≤min s.length 128:=i1
 have hm:Q0u P mm:=hm
 have fin: ∀r:List Int,r=mm→i=min s.length 128→Q0u P r∧ ∀b:Nat,byt r b=if frame*128≤b∧(b:Int)<frame*128+min s.length 128 then((s.getD (b-frame*128).toNat 0).toNat:Int) else byt m b:=λr hr hi=>by
   subst hr;refine⟨hm,λb=> ?_⟩
   rw[hy b];simp only[hi]
 refine w_br (λh1=>w_br (λh2=>w_cn ?_ ?_) (λh2=>fin mm rfl ?_)) (λh1=>fin mm rfl ?_)
 · have:=of_decide_eq_true h1
   simp [Nat.blt];omega
 · have h1:i<s.length:=of_decide_eq_true h1
   have h2:i<128:=of_decide_eq_true h2
   have e:IntKind.wrap IntKind.u32 (IntKind.wrap IntKind.i64 (IntKind.wrap IntKind.i64 (frame*128)+i))=frame*128+i:=by
     rw[IntKind.wrap_u32,IntKind.wrap_i64,IntKind.wrap_i64];omega
   show(Tree.an (Qfy mm (IntKind.wrap IntKind.u32 (IntKind.wrap IntKind.i64 (IntKind.wrap IntKind.i64 (frame*128)+i))) 1 _) (Tree.lv _ _)).w _
   rw[e]
   have hu:U (frame*128+i):=⟨by omega,by omega⟩
   have hvU: ∀n:Nat,U (IntKind.wrap .u32 (n:Int)):=λn=>Q0j _
   obtain⟨g1,_⟩:=Tree.pp (put_w hm (size:=1) (addr:=frame*128+i) hu (by rw[hm.len];omega) (hvU (UInt8.toNat (s.getD i.toNat 0))))
   obtain⟨g2,g3⟩:=puts_byte hm hu (by omega) (hvU (UInt8.toNat (s.getD i.toNat 0)))
   refine w_an g1 (w_lv λx0 hx0=> ?_)
   rw[hx0]
   have ew:IntKind.i64.wrap (i+1)=i+1:=by rw[IntKind.wrap_i64];omega
   refine w_nx ?_
   show(0≤IntKind.i64.wrap (i+1)∧IntKind.i64.wrap (i+1)≤min s.length 128∧Q0u P _∧ ∀b:Nat,byt _ b=if frame*128≤b∧(b:Int)<frame*128+IntKind.i64.wrap (i+1) then _ else _)∧(128-IntKind.i64.wrap (i+1)).toNat<(128-i).toNat
   rw[ew]
   refine⟨⟨by omega,by omega,g2,λb=> ?_⟩,by omega⟩
   rw[show Qa5 mm (frame*128+i) 1 _=_ from rfl,g3 b]
   by_cases hb:(b:Int)=frame*128+i
   · rw[if_pos hb,if_pos (by omega),IntKind.wrap_u32]
     have:=(s.getD i.toNat 0).toNat_lt
     rw[show(b-frame*128).toNat=i.toNat by omega];omega
   · rw[if_neg hb,hy b]
     show(if frame*128≤(b:Int)∧(b:Int)<frame*128+i then _ else _)=_
     by_cases hc:frame*128≤(b:Int)∧(b:Int)<frame*128+i
     · rw[if_pos hc,if_pos (by omega)]
     · rw[if_neg hc,if_neg (by omega)]
 · have h1:i<s.length:=of_decide_eq_true h1
   have h2: ¬i<128:=of_decide_eq_false h2
   omega
 · have h1: ¬i<s.length:=of_decide_eq_false h1
   omega
theorem or_add{x y:Int}(hx:U x)(hy:U y)(k:Nat)(hk:x<2^k)(h:x+y*2^k<4294967296):ior .u32 x (y*2^k)=x+y*2^k:=by
 obtain⟨n,rfl⟩: ∃n:Nat,x=n:=⟨x.toNat,by have:=hx.1;omega⟩
 obtain⟨z,rfl⟩: ∃n:Nat,y=n:=⟨y.toNat,by have:=hy.1;omega⟩
 have e:((z:Int)*2^k)=((z*2^k:Nat):Int):=by simp
 rw[e]at h⊢
 have hn:n<2^k:=by exact_mod_cast hk
 rw[or_nat hx ⟨by omega,by omega⟩,Int.toNat_natCast,Int.toNat_natCast,Nat.or_comm,Nat.mul_comm,←Nat.two_pow_add_eq_or_of_lt hn]
 omega
theorem four{a b c d:Int}(ha:0≤a∧a<256)(hb:0≤b∧b<256)(hc:0≤c∧c<256)(hd:0≤d∧d<256):ior .u32 (ior .u32 (ior .u32 (IntKind.wrap .u32 a) (ishl .u32 (IntKind.wrap .u32 b) 8)) (ishl .u32 (IntKind.wrap .u32 c) 16)) (ishl .u32 (IntKind.wrap .u32 d) 24)=a+b*2^8+c*2^16+d*2^24:=by
 have w: ∀{x:Int},0≤x∧x<256→IntKind.wrap .u32 x=x:=λhx=>by rw[IntKind.wrap_u32];omega
 have s8: ∀{x:Int},0≤x∧x<256→ishl .u32 x 8=x*2^8:=fun{x} hx=>by show IntKind.wrap .u32 (x*2^8)=_;rw[IntKind.wrap_u32];omega
 have s16: ∀{x:Int},0≤x∧x<256→ishl .u32 x 16=x*2^16:=fun{x} hx=>by show IntKind.wrap .u32 (x*2^16)=_;rw[IntKind.wrap_u32];omega
 have s24: ∀{x:Int},0≤x∧x<256→ishl .u32 x 24=x*2^24:=fun{x} hx=>by show IntKind.wrap .u32 (x*2^24)=_;rw[IntKind.wrap_u32];omega
 rw[w ha,w hb,w hc,w hd,s8 hb,s16 hc,s24 hd]
 rw[or_add ⟨by omega,by omega⟩ ⟨by omega,by omega⟩ 8 (by omega) (by omega),or_add ⟨by omega,by omega⟩ ⟨by omega,by omega⟩ 16 (by omega) (by omega),or_add ⟨by omega,by omega⟩ ⟨by omega,by omega⟩ 24 (by omega) (by omega)]
theorem four_dig{a b c d:Int}(ha:0≤a∧a<256)(hb:0≤b∧b<256)(hc:0≤c∧c<256)(hd:0≤d∧d<256)(k:Nat)(hk:k<4):dig (a+b*2^8+c*2^16+d*2^24) k=if k=0 then a else if k=1 then b else if k=2 then c else d:=by
 have hk:k=0∨k=1∨k=2∨k=3:=by omega
 rcases hk with rfl|rfl|rfl|rfl<;>simp [dig]<;>omega
theorem Qzy{P:Nat}{m:List Int}(h:Q0u P m)(f:Int):Q55 m f=decide (0≤f∧f<P):=by
 have hp:=Q3o h
 simp only[Q55,Q7o,Tree.m,letv,hp]
 by_cases h1:0≤f
 · rw[decide_eq_true h1];simp [h1]
 · rw[decide_eq_false h1];simp [h1]
theorem getD_cut(s:List UInt8)(a b k:Nat)(h:k<b):(List.take b (List.drop a s)).getD k 0=s.getD (a+k) 0:=by
 simp [List.getD_eq_getElem?_getD,List.getElem?_take,h]
theorem u8I(x:UInt8):0≤(x.toNat:Int)∧(x.toNat:Int)<256:=by have:=x.toNat_lt;omega
theorem Qso{P:Nat}{m:List Int}(h:Q0u P m){f:Int}(f0:0≤f)(f1:f<P){s:List UInt8}(hs:s.length=128):(Q1z m f s).w (λr=>r.2=true∧Q0u P r.1∧ ∀b:Nat,byt r.1 b=if f*128≤b∧(b:Int)<f*128+128 then((s.getD (b-f*128).toNat 0).toNat:Int) else byt m b):=by
  have hcl:Q02 m=m:=rfl
  have h2:=h.p2
  unfold Q1z
  refine w_an (Q8i h) (w_lv λx0 hx0=>w_lv λx1 hx1=> ?_)
  rw[hcl]at hx0;subst hx0
  rw[Qzy h,decide_eq_true ⟨f0,f1⟩]at hx1
  subst hx1
  refine w_br (λhb=>by cases hb) λ_=>w_br (λhb=>by simp [hs]at hb) λ_=> ?_
  refine w_lp (inv:=λz:Int×List Int=>0≤z.1∧z.1≤32∧Q0u P z.2∧ ∀b:Nat,byt z.2 b=if f*128≤b∧(b:Int)<f*128+4*z.1 then((s.getD (b-f*128).toNat 0).toNat:Int) else byt x0 b) (μ:=Q9c x0 f s) ⟨show(0:Int)≤0 by decide,show(0:Int)≤32 by decide,h,λb=>by rw[if_neg];show¬(_∧_<_+4*(0:Int));omega⟩ (Nat.lt_succ_self _) λz ⟨z1,z2,z3,z4⟩=> ?_
  refine w_br (λhb=> ?_) (λhb=>⟨rfl,z3,λb=> ?_⟩)
  · have hb:=of_decide_eq_true hb
    have e1:IntKind.i64.wrap (4*z.1)=4*z.1:=by rw[IntKind.wrap_i64];omega
    have e2:IntKind.i64.wrap (IntKind.i64.wrap (4*z.1)+4)=4*z.1+4:=by rw[IntKind.wrap_i64,IntKind.wrap_i64];omega
    have e3:IntKind.i64.wrap (IntKind.i64.wrap (f*32)+z.1)=f*32+z.1:=by rw[IntKind.wrap_i64,IntKind.wrap_i64];omega
    have hl:=z3.len
    have cut:Int.toNat (IntKind.i64.wrap (IntKind.i64.wrap (4*z.1)+4))-Int.toNat (IntKind.i64.wrap (4*z.1))=4:=by rw[e2,e1];omega
    have hlen:(List.take (Int.toNat (IntKind.i64.wrap (IntKind.i64.wrap (4*z.1)+4))-Int.toNat (IntKind.i64.wrap (4*z.1))) (List.drop (Int.toNat (IntKind.i64.wrap (4*z.1))) s)).length=4:=by
      rw[cut,e1,List.length_take,List.length_drop];omega
    refine w_cn (decide_eq_true (by rw[e2,e1];omega)) ?_
    refine w_cn (decide_eq_true (by rw[hlen];decide)) (w_cn (decide_eq_true (by rw[hlen];decide)) (w_cn (decide_eq_true (by rw[hlen];decide)) (w_cn (decide_eq_true (by rw[hlen];decide)) (w_cn (by rw[e3];simp [Nat.blt];omega) (w_nx ?_)))))
    have ew:IntKind.i64.wrap (z.1+1)=z.1+1:=by rw[IntKind.wrap_i64];omega
    rw[cut]
    refine⟨⟨by show 0≤IntKind.i64.wrap (z.1+1);rw[ew];omega,by show IntKind.i64.wrap (z.1+1)≤32;rw[ew];omega,?_,?_⟩,by show(32-IntKind.i64.wrap (z.1+1)).toNat<(32-z.1).toNat;rw[ew];omega⟩
    · show Q0u P (List.set _ _ _)
      exact⟨by rw[List.length_set];exact hl,z3.p1,z3.p2,Qw2 z3.u (U_or _ _) _⟩
    · intro b
      show byt (List.set z.2 (Int.toNat (IntKind.i64.wrap (IntKind.i64.wrap (f*32)+z.1))) _) b=if f*128≤(b:Int)∧(b:Int)<f*128+4*IntKind.i64.wrap (z.1+1) then _ else _
      rw[e3,ew,four (u8I _) (u8I _) (u8I _) (u8I _),Z6j (by omega)]
      have g: ∀k:Nat,k<4→(List.take 4 (List.drop (Int.toNat (IntKind.i64.wrap (4*z.1))) s)).getD k 0=s.getD ((4*z.1).toNat+k) 0:=λk hk=>by rw[e1];exact getD_cut _ _ _ _ hk
      by_cases hc:b/4=(f*32+z.1).toNat
      · have hin:f*128≤(b:Int)∧(b:Int)<f*128+4*(z.1+1):=by omega
        rw[if_pos hc,four_dig (u8I _) (u8I _) (u8I _) (u8I _) _ (by omega),if_pos hin]
        have hb4:b%4=0∨b%4=1∨b%4=2∨b%4=3:=by omega
        have gi:(b-f*128).toNat=(4*z.1).toNat+b%4:=by omega
        rw[gi]
        rcases hb4 with h4|h4|h4|h4<;>rw[h4]
        · rw[if_pos rfl,←g 0 (by omega)];rfl
        · rw[if_neg (by decide),if_pos rfl,←g 1 (by omega)];rfl
        · rw[if_neg (by decide),if_neg (by decide),if_pos rfl,←g 2 (by omega)];rfl
        · rw[if_neg (by decide),if_neg (by decide),if_neg (by decide),←g 3 (by omega)];rfl
      · rw[if_neg hc,z4 b]
        by_cases hd:f*128≤(b:Int)∧(b:Int)<f*128+4*z.1
        · rw[if_pos hd,if_pos (by omega)]
        · rw[if_neg hd,if_neg (by omega)]
  · have hb:=of_decide_eq_false hb
    show byt z.2 b=_
    rw[z4 b,show z.1=32 by omega]
    rfl
end Go.Proofs.YtpcbkbalabgnlaaGreat
namespace Go.Proofs.YtpcbkbalabgnlaaGreat
open Go Go.GD
set_option maxRecDepth 100000
theorem Z00{α:Type}(l l2:List α)(k:Nat)(z:α):(l++l2).getD k z=if k<l.length then l.getD k z else l2.getD (k-l.length) z:=by
 simp only[List.getD_eq_getElem?_getD,List.getElem?_append]
 split<;>rfl
theorem u8w{x:Int}:IntKind.wrap .u8 x=x%256:=IntKind.wrap_u8 x
theorem shr_c(W:Int):ishr .u32 W 8=W/256∧ishr .u32 W 16=W/65536∧ishr .u32 W 24=W/16777216:=by
 refine⟨?_,?_,?_⟩
 · show Int.fdiv W 256=_;rw[Int.fdiv_eq_ediv_of_nonneg _ (by decide)]
 · show Int.fdiv W 65536=_;rw[Int.fdiv_eq_ediv_of_nonneg _ (by decide)]
 · show Int.fdiv W 16777216=_;rw[Int.fdiv_eq_ediv_of_nonneg _ (by decide)]
theorem b4d(W:Int){k:Nat}(hk:k<4):[IntKind.wrap .u8 W,IntKind.wrap .u8 (ishr .u32 W 8),IntKind.wrap .u8 (ishr .u32 W 16),IntKind.wrap .u8 (ishr .u32 W 24)].getD k 0=dig W k:=by
 obtain⟨a,b,c⟩:=shr_c W
 have hk:k=0∨k=1∨k=2∨k=3:=by omega
 rcases hk with rfl|rfl|rfl|rfl<;>simp [dig,a,b,c,u8w]
theorem Qj2(l:List Int)(k:Nat)(h:0≤l.getD k 0∧l.getD k 0<256)(hk:k<l.length):(((bytesOf l).getD k 0).toNat:Int)=l.getD k 0:=by
 have e:(bytesOf l).getD k 0=UInt8.ofNat (l.getD k 0).toNat:=by
   simp [bytesOf,List.getD_eq_getElem?_getD,hk]
 rw[e,UInt8.toNat_ofNat']
 omega
theorem Z5h(l:List UInt8)(k:Nat)(hk:k<l.length):(Qa0 l).getD k 0=((l.getD k 0).toNat:Int):=by
 simp [Qa0,List.getD_eq_getElem?_getD,hk]
theorem text_b(w:List Int)(h:w.length≤32):(Q5 w).w (λr=>r.length=4*w.length∧ ∀k:Nat,k<4*w.length→((r.getD k 0).toNat:Int)=dig (w.getD (k/4) 0) (k%4)):=by
 have e0:IntKind.i64.wrap (4*(w.length:Int))=4*w.length:=by rw[IntKind.wrap_i64];omega
 unfold Q5
 refine w_cn (by rw[e0];simp [Nat.blt,D.plain];omega) ?_
 refine w_lp (inv:=λz:Int×List Int=>0≤z.1∧z.1≤w.length∧(z.2.length:Int)=4*z.1∧ ∀k:Nat,(k:Int)<4*z.1→z.2.getD k 0=dig (w.getD (k/4) 0) (k%4)) (μ:=Q6s w) ⟨by decide,by show(0:Int)≤w.length;omega,rfl,λk hk=>by have hk:(k:Int)<4*0:=hk;omega⟩ (Nat.lt_succ_self _) λz ⟨z1,z2,z3,z4⟩=> ?_
 refine w_br (λhb=> ?_) (λhb=> ?_)
 · have hb:=of_decide_eq_true hb
   have ew:IntKind.i64.wrap (z.1+1)=z.1+1:=by rw[IntKind.wrap_i64];omega
   refine w_cn (by simp [Nat.blt];omega) (w_cn (decide_eq_true (by omega)) (w_nx ?_))
   show(_∧_∧_∧ ∀k:Nat,(k:Int)<4*IntKind.i64.wrap (z.1+1)→(z.2++_).getD k 0=_)∧(_:Nat)<_
   refine⟨⟨by rw[ew];omega,by rw[ew];omega,by rw[ew,List.length_append];simp only[List.length_cons,List.length_nil];omega,λk hk=> ?_⟩,by show(w.length-IntKind.i64.wrap (z.1+1)).toNat<(w.length-z.1).toNat;rw[ew];omega⟩
   rw[ew]at hk
   rw[Z00]
   split
   · exact z4 k (by omega)
   · rename_i hn
     rw[b4d _ (by omega),show z.1.toNat=k/4 by omega,show k-z.2.length=k%4 by omega]
 · have hb:=of_decide_eq_false hb
   show(bytesOf z.2).length=_∧ ∀k:Nat,_→(((bytesOf z.2).getD k 0).toNat:Int)=_
   refine⟨by rw[Qeo];omega,λk hk=> ?_⟩
   have e:=z4 k (by omega)
   have:=dig_lt (w.getD (k/4) 0) (k%4)
   rw[Qj2 _ _ (by rw[e];exact this) (by omega),e]
def isPg(m:List Int)(f:Int)(r:List UInt8):Prop:=r.length=128∧ ∀k:Nat,k<128→((r.getD k 0).toNat:Int)=byt m ((f*128).toNat+k)
theorem pg_ext{m:List Int}{f:Int}{r s:List UInt8}(a:isPg m f r)(b:isPg m f s):r=s:=by
 obtain⟨a1,a2⟩:=a
 obtain⟨b1,b2⟩:=b
 refine List.ext_getElem (by omega) λi h1 h2=> ?_
 have e:=(a2 i (by omega)).trans (b2 i (by omega)).symm
 have e1:r[i]=r.getD i 0:=by simp [List.getD,h1]
 have e2:s[i]=s.getD i 0:=by simp [List.getD,h2]
 rw[e1,e2]
 exact UInt8.toNat_inj.1 (by omega)
theorem mpage_b{P:Nat}{m:List Int}(h:Q0u P m){f:Int}(f0:0≤f)(f1:f<P):(Q3b m f).w (λr=>isPg m f r.1∧r.2=true):=by
 have hl:=h.len
 have h2:=h.p2
 unfold Q3b
 refine w_lv λx0 hx0=> ?_
 rw[Qzy h,decide_eq_true ⟨f0,f1⟩]at hx0
 subst hx0
 refine w_br (λhb=>by cases hb) (λhb=> ?_)
 have e1:IntKind.i64.wrap (f*32)=f*32:=by rw[IntKind.wrap_i64];omega
 have e2:IntKind.i64.wrap (IntKind.i64.wrap (f*32)+32)=f*32+32:=by rw[IntKind.wrap_i64,IntKind.wrap_i64];omega
 have cut:Int.toNat (IntKind.i64.wrap (IntKind.i64.wrap (f*32)+32))-Int.toNat (IntKind.i64.wrap (f*32))=32:=by rw[e2,e1];omega
 have hlen:(List.take 32 (List.drop (Int.toNat (IntKind.i64.wrap (f*32))) m)).length=32:=by
   rw[e1,List.length_take,List.length_drop];omega
 refine w_cn (by rw[e2,e1];simp [Nat.blt];omega) ?_
 rw[cut]
 refine w_an (by show List.length _≤1000000000000;rw[hlen];decide) (w_lv λx1 h1=> ?_)
 have t:=(Tree.pp (text_b _ (Nat.le_of_eq hlen))).2
 rw[hlen,show(Q5 (List.take 32 (List.drop (Int.toNat (IntKind.i64.wrap (f*32))) m))).m=x1 from h1.symm]at t
 refine⟨⟨t.1,λk hk=> ?_⟩,rfl⟩
 show((x1.getD k 0).toNat:Int)=_
 rw[t.2 k hk,byt,e1]
 have g:(List.take 32 (List.drop (Int.toNat (f*32)) m)).getD (k/4) 0=m.getD ((f*32).toNat+k/4) 0:=by
   simp [List.getD_eq_getElem?_getD,List.getElem?_take,show k/4<32 by omega]
 rw[g,show((f*128).toNat+k)/4=(f*32).toNat+k/4 by omega,show((f*128).toNat+k)%4=k%4 by omega]
theorem low_eq(x:Int):Z8v x 4=bytesOf [IntKind.wrap .u8 (ishr .u32 x 0),IntKind.wrap .u8 (ishr .u32 x 8),IntKind.wrap .u8 (ishr .u32 x 16),IntKind.wrap .u8 (ishr .u32 x 24)]:=by kernel_rfl
theorem rpage_b{P:Nat}{m:List Int}(hm:Q0u P m){frame:Int}(f0:0≤frame)(f1:frame<P):(Qa9 m frame).w (λr=>isPg m frame r.1∧r.2=true):=by
 have hp:=Qcg hm
 have hl:=hm.len
 have h2:=hm.p2
 unfold Qa9
 refine w_br (λh=>by have:=of_decide_eq_true h;omega) (λh=>w_lv λx0 hx=>w_br (λh1=>by have:=of_decide_eq_true h1;rw[hx,hp]at this;omega) (λh1=> ?_))
 refine w_lp (inv:=λz:Int×List Int=>0≤z.1∧z.1≤32∧(z.2.length:Int)=4*z.1∧ ∀k:Nat,(k:Int)<4*z.1→z.2.getD k 0=byt m ((frame*128).toNat+k)) (μ:=Qfm m frame) ⟨by decide,by decide,rfl,λk hk=>by have hk:(k:Int)<4*0:=hk;omega⟩ (Nat.lt_succ_self _) (λz hz=> ?_)
 obtain⟨z1,z2,z3,z4⟩:=hz
 refine w_br (λhb=> ?_) (λhb=> ?_)
 · have hb:=of_decide_eq_true hb
   have e:IntKind.wrap IntKind.i64 (IntKind.wrap IntKind.i64 (frame*32)+z.1)=frame*32+z.1:=by rw[IntKind.wrap_i64,IntKind.wrap_i64];omega
   refine w_cn (by rw[e];simp [Nat.blt];omega) (w_an (show(4:Int)≤1000000000000 by decide) (w_lv λx1 h4=> ?_))
   rw[low_eq,shr0,e]at h4
   have l4:x1.length=4:=by rw[h4];rfl
   refine w_cn (decide_eq_true (by rw[Qjw,l4];omega)) (w_nx ?_)
   show(0≤IntKind.i64.wrap (z.1+1)∧IntKind.i64.wrap (z.1+1)≤32∧((z.2++Qa0 x1).length:Int)=4*IntKind.i64.wrap (z.1+1)∧ ∀k:Nat,(k:Int)<4*IntKind.i64.wrap (z.1+1)→(z.2++Qa0 x1).getD k 0=_)∧(32-IntKind.i64.wrap (z.1+1)).toNat<(32-z.1).toNat
   have ew:IntKind.i64.wrap (z.1+1)=z.1+1:=by rw[IntKind.wrap_i64];omega
   rw[ew]
   refine⟨⟨by omega,by omega,by rw[List.length_append,Qjw,l4];omega,λk hk=> ?_⟩,by omega⟩
   rw[Z00]
   split
   · exact z4 k (by omega)
   · rename_i hn
     have hk4:k-z.2.length<4:=by omega
     rw[Z5h _ _ (by omega),h4]
     have d:=b4d (m.getD (frame*32+z.1).toNat 0) hk4
     rw[Qj2 _ _ (by rw[d];exact dig_lt _ _) (by simpa using hk4),d,byt]
     rw[show((frame*128).toNat+k)/4=(frame*32+z.1).toNat by omega,show((frame*128).toNat+k)%4=k-z.2.length by omega]
 · have hb:=of_decide_eq_false hb
   refine⟨⟨?_,λk hk=> ?_⟩,rfl⟩
   · show(bytesOf z.2).length=128
     rw[Qeo];omega
   · show(((bytesOf z.2).getD k 0).toNat:Int)=_
     have e:=z4 k (by omega)
     rw[Qj2 _ _ (by rw[e];exact dig_lt _ _) (by omega),e]
theorem Z1x{P:Nat}{m:List Int}(h:Q0u P m)(f:Int):Q5n m f=Qh0 m f:=by
 by_cases hf:0≤f∧f<P
 · have a:=(Tree.pp (mpage_b h hf.1 hf.2)).2
   have b:=(Tree.pp (rpage_b h hf.1 hf.2)).2
   exact Prod.ext (pg_ext a.1 b.1) (a.2.trans b.2.symm)
 · have hp:=Qcg h
   have e1:Q5n m f=([],false):=by
     simp only[Q5n,Q3b,Tree.m,letv,Qzy h,decide_eq_false hf];rfl
   have e2:Qh0 m f=([],false):=by
     simp only[Qh0,Qa9,Tree.m,letv,hp]
     by_cases h0:f<0
     · rw[decide_eq_true h0];rfl
     · rw[decide_eq_false h0,decide_eq_true (show f≥P by omega)];rfl
   rw[e1,e2]
section
variable {P:Nat} {m:List Int} (h:Q0u P m)
include h
theorem Z33{f:Int}(f0:0≤f)(f1:f<P){s:List UInt8}(hs:s.length=128):Q2t m f s=(Qio m f s,true):=by
 have a:=(Tree.pp (Qso h f0 f1 hs)).2
 have b:=(Tree.pp (fill_b h f0 f1 s)).2
 refine Prod.ext (Z5q (a.2.1.len.trans b.1.len.symm) a.2.1.u b.1.u λk=> ?_) a.1
 have e:((min s.length 128:Nat):Int)=128:=by rw[hs];rfl
 have b2:=b.2 k
 have a2:=a.2.2 k
 rw[e]at b2
 exact a2.trans b2.symm
theorem Z21{f:Int}(f0:0≤f)(f1:f<P){s r:List UInt8}(hs:s.length≤128)(hr:isPg m f r):Q2t m f (s++r.drop s.length)=(Qio m f s,true):=by
  have hl:(s++r.drop s.length).length=128:=by have:=hr.1;simp;omega
  have a:=(Tree.pp (Qso h f0 f1 hl)).2
  have b:=(Tree.pp (fill_b h f0 f1 s)).2
  refine Prod.ext (Z5q (a.2.1.len.trans b.1.len.symm) a.2.1.u b.1.u λk=> ?_) a.1
  have b2:=b.2 k
  have a2:=a.2.2 k
  refine a2.trans (Eq.trans ?_ b2.symm)
  by_cases hc:f*128≤(k:Int)∧(k:Int)<f*128+128
  · rw [if_pos hc,Z00]
    by_cases hd:(k-f*128).toNat<s.length
    · rw[if_pos hd,if_pos (by omega)]
    · rw[if_neg hd,if_neg (by omega)]
      have e:(r.drop s.length).getD ((k-f*128).toNat-s.length) 0=r.getD (k-f*128).toNat 0:=by
        simp [List.getD_eq_getElem?_getD,show s.length+((k-f*128).toNat-s.length)=(k-f*128).toNat by omega]
      rw[e,hr.2 _ (by omega),show(f*128).toNat+(k-f*128).toNat=k by omega]
  · rw[if_neg hc,if_neg (by omega)]
theorem Qe9{a:Int}(ha:U a){size:Int}(hs:size=1∨size=4):Q23 m a size=decide (a%size=0∧a<128*P):=by
 have hq:=Qcg h
 have h2:=h.p2
 have a0:=ha.1
 have e:IntKind.wrap IntKind.u32 size=size:=by rcases hs with rfl|rfl<;>decide
 have e0:decide (IntKind.wrap IntKind.u32 size≠0)=true:=by rcases hs with rfl|rfl<;>decide
 have t:Int.tmod a (IntKind.wrap IntKind.u32 size)=a%size:=by rw[e,Int.tmod_eq_emod_of_nonneg a0]
 have l: ∀x,x=Q4f m→a%size=0→decide (a<IntKind.wrap IntKind.u32 (IntKind.wrap IntKind.i64 (128*x)))=decide (a%size=0∧a<128*P):=λx hx hz=>by
   rw[hx,hq,IntKind.wrap_u32,IntKind.wrap_i64]
   exact decide_eq_decide.2 ⟨λh=>⟨hz,by omega⟩,λh=>by omega⟩
 refine Tree.post (Q91 m a size) (W:=λb=>b=decide (a%size=0∧a<128*P)) ?_
 unfold Q91
 refine w_br (λh1=>w_br (λh4=> ?_) (λ_=> ?_)) (λ_=> ?_)
 · have h1: ¬size=1:=by simpa using h1
   have h4: ¬size=4:=by simpa using h4
   omega
 all_goals
   refine w_cn e0 (w_br (λhb=>w_lv λx hx=>l x hx ?_) (λhb=> ?_))
   · rw[t]at hb;exact eq_of_beq hb
   · rw[t]at hb
     exact(decide_eq_false (λh=>by rw[h.1]at hb;cases hb)).symm
theorem Quw{a:Int}(ha:U a){size:Int}(hs:size=1∨size=4):Qdw m a size=Q23 m a size:=by
 rw[Qe9 h ha hs]
 have hq:=Quy h
 have h2:=h.p2
 have a0:=ha.1
 have a1:=ha.2
 have e:IntKind.wrap IntKind.u32 size=size:=by rcases hs with rfl|rfl<;>decide
 have e0:decide (IntKind.wrap IntKind.u32 size≠0)=true:=by rcases hs with rfl|rfl<;>decide
 have t:Int.tmod a (IntKind.wrap IntKind.u32 size)=a%size:=by rw[e,Int.tmod_eq_emod_of_nonneg a0]
 have l: ∀x,x=Q0o m→a%size=0→decide (IntKind.wrap IntKind.u64 (IntKind.wrap IntKind.u64 a+IntKind.wrap IntKind.u64 size)≤IntKind.wrap IntKind.u64 (IntKind.wrap IntKind.u64 x*128))=decide (a%size=0∧a<128*P):=λx hx hz=>by
   rw[hx,hq]
   simp only[IntKind.wrap_u64]
   refine decide_eq_decide.2 ⟨λh=>⟨hz,?_⟩,λh=> ?_⟩<;>rcases hs with rfl|rfl<;>omega
 refine Tree.post (Q2q m a size) (W:=λb=>b=decide (a%size=0∧a<128*P)) ?_
 unfold Q2q
 refine w_br (λh1=>w_br (λh4=> ?_) (λ_=> ?_)) (λ_=> ?_)
 · have h1: ¬size=1:=by simpa using h1
   have h4: ¬size=4:=by simpa using h4
   omega
 all_goals
   refine w_cn e0 (w_br (λhb=> ?_) (λhb=>w_lv λx hx=>l x hx ?_))
   · rw[t]at hb
     exact(decide_eq_false (λh=>by rw[h.1]at hb;cases hb)).symm
   · rw[t]at hb;simpa using hb
end
theorem fldj(w:Int):Q34 w 0 8=iand .u32 (ishr .u32 w 0) 255∧Q34 w 8 8=iand .u32 (ishr .u32 w 8) 255∧Q34 w 16 8=iand .u32 (ishr .u32 w 16) 255∧Q34 w 24 8=iand .u32 (ishr .u32 w 24) 255:=
 ⟨by kernel_rfl,by kernel_rfl,by kernel_rfl,by kernel_rfl⟩
theorem setj(w v:Int):Q77 w 0 8 v=putW w v 0∧Q77 w 8 8 v=putW w v 8∧Q77 w 16 8 v=putW w v 16∧Q77 w 24 8 v=putW w v 24:=
 ⟨by kernel_rfl,by kernel_rfl,by kernel_rfl,by kernel_rfl⟩
theorem sh_same{a:Int}(ha:U a):IntKind.wrap .i64 (IntKind.wrap .i64 (Int.tmod a 4)*8)=8*(a%4)∧IntKind.wrap .u32 (8*Int.tmod a 4)=8*(a%4):=by
 obtain⟨a0,a1⟩:=ha
 rw[Int.tmod_eq_emod_of_nonneg a0]
 exact⟨by rw[IntKind.wrap_i64,IntKind.wrap_i64];omega,by rw[IntKind.wrap_u32];omega⟩
section
variable {P:Nat} {m:List Int} (h:Q0u P m)
include h
theorem Qj0{a:Int}(ha:U a){size:Int}(hs:size=1∨size=4):Q4n m a size=Q15 m a size:=by
 have e:=Quw h ha hs
 obtain⟨s1,s2⟩:=sh_same ha
 have f:Q34 (m.getD (Int.toNat (IntKind.wrap .u32 (Int.tdiv a 4))) 0) (8*(a%4)) 8=iand .u32 (ishr .u32 (m.getD (Int.toNat (IntKind.wrap .u32 (Int.tdiv a 4))) 0) (8*(a%4))) 255:=by
   obtain⟨f0,f1,f2,f3⟩:=fldj (m.getD (Int.toNat (IntKind.wrap .u32 (Int.tdiv a 4))) 0)
   have:a%4=0∨a%4=1∨a%4=2∨a%4=3:=by omega
   rcases this with h|h|h|h<;>rw[h]
   · exact f0
   · exact f1
   · exact f2
   · exact f3
 simp only[Q4n,Q4z,Q15,Q4l,Tree.m,letv,e,s1,s2,f]
omit h in
theorem Z0w(a:Int)(size:Int):(Q15 m a size).2=Q23 m a size:=by
 simp only[Q15,Q4l,Tree.m,letv]
 cases Q23 m a size
 · rfl
 · cases size==1<;>rfl
theorem Qx9{a:Int}(ha:U a){size:Int}(hs:size=1∨size=4)(v:Int):Q8d m a size v=bif Q23 m a size then(Qa5 m a size v,true) else(m,false):=by
 have hcl:Q02 m=m:=rfl
 have e:=Quw h ha hs
 obtain⟨s1,s2⟩:=sh_same ha
 have f: ∀w,Q77 w (8*(a%4)) 8 v=ior .u32 (Qdr .u32 w (ishl .u32 255 (8*(a%4)))) (ishl .u32 (iand .u32 v 255) (8*(a%4))):=λw=>by
   obtain⟨f0,f1,f2,f3⟩:=setj w v
   have:a%4=0∨a%4=1∨a%4=2∨a%4=3:=by omega
   rcases this with h|h|h|h<;>rw[h]
   · exact f0
   · exact f1
   · exact f2
   · exact f3
 simp only[Q8d,Q3v,Qa5,Qea,Tree.m,letv,hcl,e,s1,s2,f]
 rcases hs with rfl|rfl<;>cases Q23 m a _<;>rfl
end
end Go.Proofs.YtpcbkbalabgnlaaGreat
namespace Go.Proofs.YtpcbkbalabgnlaaGreat
open Go Go.GD
set_option maxRecDepth 100000
section
variable {P:Nat} {m:List Int} (h:Q0u P m)
include h
theorem walk_same{root va:Int}(hr:U root)(hv:U va){access:Int}(ha:access=1∨access=2∨access=3):Qfc m root va access=Q70 m root va access:=by
 have hp:=Qcg h
 have h2:=h.p2
 have hlen:=h.len
 obtain⟨r1,r2⟩:=hr
 obtain⟨v1,v2⟩:=hv
 have hpg: ∀{f:Int},U f→Q9 m f=decide (f<P):=λhf=>pageP_eq h hf
 have eP:IntKind.wrap .u32 (P:Int)=P:=by rw[IntKind.wrap_u32];omega
 have kn:Qec access=true:=by rcases ha with rfl|rfl|rfl<;>rfl
 have ca:Qgc access=(Q20 access,true):=by rcases ha with rfl|rfl|rfl<;>rfl
 simp only[Qfc,Q4y,Q70,Qak,Tree.m,letv,hp,eP,kn,ca,hpg ⟨r1,r2⟩]
 by_cases c1:va≥4096
 · rw[decide_eq_true c1];rfl
 by_cases c2:root<P
 · have eE:IntKind.wrap IntKind.u32 (IntKind.wrap IntKind.u32 (root*128)+IntKind.wrap IntKind.u32 (4*IntKind.wrap IntKind.u32 (Int.tdiv va 128)))=root*128+4*(va/128):=by
     rw[Int.tdiv_eq_ediv_of_nonneg v1,IntKind.wrap_u32,IntKind.wrap_u32,IntKind.wrap_u32,IntKind.wrap_u32];omega
   have hE:U (root*128+4*(va/128)):=⟨by omega,by omega⟩
   have wi:Q23 m (root*128+4*(va/128)) 4=true:=by
     rw[Qe9 h hE (.inr rfl)];exact decide_eq_true ⟨by omega,by omega⟩
   rw[decide_eq_false c1,decide_eq_true c2,decide_eq_false (show¬root≥P by omega),eE,Qj0 h hE (.inr rfl),Z0w,wi]
   have ld:(Q15 m (root*128+4*(va/128)) 4).1=m.getD (Int.toNat (IntKind.wrap .u32 (Int.tdiv (root*128+4*(va/128)) 4))) 0:=by
     simp only[Q15,Q4l,Tree.m,letv,wi];rfl
   rw[ld]
   generalize m.getD (Int.toNat (IntKind.wrap .u32 (Int.tdiv (root*128+4*(va/128)) 4))) 0=w
   have fo:Qcj w=iand .u32 (ishr .u32 w 8) 255:=(fld w).2.2.2.2
   rw[fo,hpg (Z60 _ _)]
   have hge:decide (iand .u32 (ishr .u32 w 8) 255≥(P:Int))=!decide (iand .u32 (ishr .u32 w 8) 255<(P:Int)):=by
     by_cases hq:iand .u32 (ishr .u32 w 8) 255<(P:Int)
     · rw[decide_eq_true hq,decide_eq_false (by omega)];rfl
     · rw[decide_eq_false hq,decide_eq_true (by omega)];rfl
   rw[hge]
   generalize decide (iand .u32 (ishr .u32 w 8) 255<(P:Int))=d
   rcases ha with rfl|rfl|rfl
   · show _=(bif iand .u32 w 1==0 then _ else bif iand .u32 w 4==0 then _ else bif !d then _ else _)
     have:Qa3 w 1=(bif iand .u32 w 1==0 then false else !(iand .u32 w 4==0)):=rfl
     rw[this]
     cases iand .u32 w 1==0<;>cases iand .u32 w 4==0<;>cases d<;>rfl
   · show _=(bif iand .u32 w 1==0 then _ else bif !d then _ else _)
     have:Qa3 w 2=(bif iand .u32 w 1==0 then false else true):=rfl
     rw[this]
     cases iand .u32 w 1==0<;>cases d<;>rfl
   · show _=(bif iand .u32 w 1==0 then _ else bif iand .u32 w 2==0 then _ else bif !d then _ else _)
     have:Qa3 w 3=(bif iand .u32 w 1==0 then false else !(iand .u32 w 2==0)):=rfl
     rw[this]
     cases iand .u32 w 1==0<;>cases iand .u32 w 2==0<;>cases d<;>rfl
 · rw[decide_eq_false c1,decide_eq_false c2,decide_eq_true (show root≥P by omega)];rfl
theorem Zar{a:Int}(ha:U a)(access:Int):Qas m a access=Qmw m a access:=by
 have hcl:Q02 m=m:=rfl
 have hl:=h.len
 have a0:=ha.1
 simp only[Qas,Q3w,Qmw,Qfa,Tree.m,letv,Qj0 h ha (.inr rfl),Z0w,Qx9 h ha (.inr rfl),hcl]
 cases hw:Q23 m a 4
 · rfl
 · rw[Qe9 h ha (.inr rfl)]at hw
   have hw:=of_decide_eq_true hw
   have wi:Q23 m a 4=true:=by rw[Qe9 h ha (.inr rfl)];exact decide_eq_true hw
   have ld:(Q15 m a 4).1=m.getD (Int.toNat (IntKind.wrap .u32 (Int.tdiv a 4))) 0:=by
     simp only[Q15,Q4l,Tree.m,letv,wi];rfl
   have pu: ∀v,Qa5 m a 4 v=m.set (Int.toNat (IntKind.wrap .u32 (Int.tdiv a 4))) v:=λv=>rfl
   rw[ld,pu,pu]
   have hi:Int.toNat (IntKind.wrap .u32 (Int.tdiv a 4))<m.length:=by
     rw[Int.tdiv_eq_ediv_of_nonneg a0,IntKind.wrap_u32];omega
   generalize Int.toNat (IntKind.wrap .u32 (Int.tdiv a 4))=i at*
   rw[Qnh hi,List.set_set]
   rfl
end
theorem Qjp{c:Q03}(h0:0≤c.B5.a0)(h:c.B5.a0≤31)(k b:Int):Q4h c k b=Q35 c k b:=by
 have e:=eq_of_beq (Qnc (λs=>Qdr .u32 (ior .u32 (Q8 (Q8 s 1 8) 2 16) 1) 2==ior .u32 (Qdr .u32 (ior .u32 (ior .u32 (Qdr .u32 s 24) (IntKind.wrap .u32 (8*Qb5 (iand .u32 s 1 !=0)))) (IntKind.wrap .u32 (16*Qb5 (iand .u32 s 2 !=0)))) 2) 1) 32 (by kernel_rfl) h0 (by omega))
 simp only[Q4h,Qgz,Q35,Qhl,Tree.m,letv,e]
theorem Z5g{c:Q03}(h0:0≤c.B5.a0)(h:c.B5.a0≤31):Qc9 c=Qho c:=by
 have e:=eq_of_beq (Qnc (λs=>Q8 (Q8 s 8 1) 16 2==ior .u32 (ior .u32 (Qdr .u32 s 3) (IntKind.wrap .u32 (1*Qb5 (iand .u32 s 8 !=0)))) (IntKind.wrap .u32 (2*Qb5 (iand .u32 s 16 !=0)))) 32 (by kernel_rfl) h0 (by omega))
 simp only[Qc9,Qd,Qho,Qdv,Tree.m,letv,e]
theorem Qxd{c:Q03}(h0:0≤c.B5.a0)(h:c.B5.a0≤31):Qk7 c=(!Q8y c&&(iand .u32 c.B5.a0 4 !=0)):=
 eq_of_beq (Qnc (λs=>(iand .u32 s 5==4)==(!(iand .u32 s 1 !=0)&&(iand .u32 s 4 !=0))) 32 (by kernel_rfl) h0 (by omega))
theorem Qrs(c:Q03){r:Int}(hr:0≤r∧r<16)(v:Int):Q9h c r v=Q1t c r v:=by
 simp only[Q9h,Q7q,Q1t,Qe6,Tree.m]
 by_cases h:r=0
 · subst h;rfl
 · rw[decide_eq_true (show r>0 by omega),decide_eq_true hr.2,show(r !=0)=true by simpa using h];rfl
theorem div_same{a b:Int}(ha:U a)(hb:U b):Qa7 a b=Qc8 a b:=by
  obtain⟨a0,a1⟩:=ha
  obtain⟨b0,b1⟩:=hb
  have i: ∀x,IntKind.wrap .i64 (IntKind.wrap .i32 x)=IntKind.wrap .i32 x:=λx=>by rw[IntKind.wrap_i64,IntKind.wrap_i32];omega
  have r32: ∀x,-2147483648≤IntKind.wrap .i32 x∧IntKind.wrap .i32 x<2147483648:=λx=>by rw[IntKind.wrap_i32];omega
  have q32: ∀x y:Int,-2147483648≤x∧x<2147483648→ -2147483648≤Int.tdiv x y∧Int.tdiv x y≤2147483648:=λx y hx=>by
    have h1:(Int.tdiv x y).natAbs≤x.natAbs:=by rw[Int.natAbs_tdiv];exact Nat.div_le_self _ _
    omega
  simp only[Qa7,Q51,Qc8,Qb,Tree.m,i]
  cases hb:b==0
  · have w: ∀z,IntKind.wrap .u32 (IntKind.wrap .i32 z)=IntKind.wrap .u32 z:=λz=>by rw[IntKind.wrap_i32,IntKind.wrap_u32,IntKind.wrap_u32];omega
    have w2:IntKind.wrap .i64 (Int.tdiv (IntKind.wrap .i32 a) (IntKind.wrap .i32 b))=Int.tdiv (IntKind.wrap .i32 a) (IntKind.wrap .i32 b):=by
      have:=q32 _ (IntKind.wrap .i32 b) (r32 a)
      rw[IntKind.wrap_i64];omega
    rw[w,w2]
    cases h1:a==2147483648
    · rfl
    · cases h2:b==4294967295
      · rfl
      · have h1:=eq_of_beq h1
        have h2:=eq_of_beq h2
        subst h1;subst h2
        rfl
  · rfl
theorem alu_same{op a b:Int}(h0:1≤op)(h1:op≤23)(ha:U a)(hb:U b):Q45 op a b=Qck op a b:=by
 have sub:IntKind.wrap .u32 (a+IntKind.wrap .u32 (0-b))=IntKind.wrap .u32 (a-b):=by
   rw[IntKind.wrap_u32,IntKind.wrap_u32,IntKind.wrap_u32];omega
 have hop:op=1∨op=2∨op=3∨op=4∨op=5∨op=6∨op=7∨op=8∨op=9∨op=10∨op=11∨op=12∨op=13∨op=14∨op=15∨op=16∨op=17∨op=18∨op=19∨op=20∨op=21∨op=22∨op=23:=by omega
 have d:=div_same ha hb
 rcases hop with rfl|rfl|rfl|rfl|rfl|rfl|rfl|rfl|rfl|rfl|rfl|rfl|rfl|rfl|rfl|rfl|rfl|rfl|rfl|rfl|rfl|rfl|rfl
 · rfl
 · show(IntKind.wrap .u32 (a+IntKind.wrap .u32 (0-b)),true)=(IntKind.wrap .u32 (a-b),true)
   rw[sub]
 · rfl
 · rfl
 · rfl
 · rfl
 · rfl
 · rfl
 · rfl
 · show((Qa7 a b).1,true)=((Qc8 a b).1,true)
   rw[d]
 · show((Qa7 a b).2,true)=((Qc8 a b).2,true)
   rw[d]
 all_goals rfl
theorem Qir{P:Nat}{m:List Int}(h:Q0u P m){c:Q03}(hc:Q2s c)(hst:c.B5.a0≤31){va:Int}(hv:U va){size:Int}(hs:size=1∨size=4){access:Int}(ha:access=1∨access=2∨access=3):Q1x c m va size access=((Q0w c m va size access).1,(Q0w c m va size access).2.2,(Q0w c m va size access).2.1):=by
 have hcl:Q02 m=m:=rfl
 have kn:Qec access=true:=by rcases ha with rfl|rfl|rfl<;>rfl
 have ca:Qlk access=(Q20 access,true):=by rcases ha with rfl|rfl|rfl<;>rfl
 have pg:=Qxd hc.a0.1 hst
 have wk:=walk_same h hc.a6 hv ha
 have tc:Qas m (Q70 m c.B5.a6 va access).F2 access=Qmw m (Q70 m c.B5.a6 va access).F2 access:=Zar h (Tree.pp (walk_w h hc.a6 hv access)).2.2.1 access
 have sz:(bif size !=1 then bif size !=4 then false else true else true)=true:=by rcases hs with rfl|rfl<;>rfl
 simp only[Q1x,Q50,Q0w,Q84,Tree.m,letv,hcl,kn,ca,pg,wk,tc,Qj0 h hv hs,Z0w]
 rcases hs with rfl|rfl<;>
 · show(bif _ then _ else _)=_
   cases Int.tmod va _ !=0<;>cases Q8y c<;>cases iand .u32 c.B5.a0 4 !=0<;>cases(Q70 m c.B5.a6 va access).F0 !=0<;>cases Q23 m va _<;>rfl
end Go.Proofs.YtpcbkbalabgnlaaGreat
namespace Go.Proofs.YtpcbkbalabgnlaaGreat
open Go Go.GD
set_option maxRecDepth 100000
theorem Qt2{α:Type}{Q:α→Prop}{c:Bool}{x y:α}(hx:Q x)(hy:Q y):Q (cond c x y):=by cases c<;>assumption
theorem walk_al(m:List Int)(root:Int){va:Int}(hv:U va)(access:Int):(Q70 m root va access).F0=0→(Q70 m root va access).Addr%4=va%4:=by
 have hc:Q20 access≠0:=by
   simp only[Q20,Q9p,Tree.m]
   cases access==1<;>cases access==3<;>simp
 have q :(λt:Q16=>t.F0=0→t.Addr%4=va%4) (Q70 m root va access):=by
   simp only[Q70,Qak,Tree.m,letv]
   repeat'(first
     |exact λe=>absurd e hc
     | (intro _
        show IntKind.wrap .u32 (IntKind.wrap .u32 (_*128)+Int.tmod va 128)%4=va%4
        rw[Int.tmod_eq_emod_of_nonneg hv.1,IntKind.wrap_u32,IntKind.wrap_u32];omega)
     |refine Qt2 (Q:=λt:Q16=>t.F0=0→t.Addr%4=va%4) ?_ ?_)
 exact q
theorem reach_al{c:Q03}{m:List Int}{va:Int}(hv:U va){size:Int}(hs:size=1∨size=4){access:Int}(ha:access=1∨access=2∨access=3):(Q0w c m va size access).2.1=0→(Q0w c m va size access).1%size=0:=by
  have kn:Qec access=true:=by rcases ha with rfl|rfl|rfl<;>rfl
  have hc:Q20 access≠0:=by
    simp only[Q20,Q9p,Tree.m]
    cases access==1<;>cases access==3<;>simp
  rcases hs with rfl|rfl
  · intro _;omega
  simp only[Q0w,Q84,Tree.m,letv,kn]
  show(bif Int.tmod va 4 !=0 then((0:Int),(3:Int),m) else _).2.1=0→(bif Int.tmod va 4 !=0 then((0:Int),(3:Int),m) else _).1%4=0
  rw[Int.tmod_eq_emod_of_nonneg hv.1]
  cases hz:va%4 !=0
  · have hz:va%4=0:=by simpa using hz
    have w:=walk_al m c.B5.a6 hv access
    cases hp:Qk7 c
    · cases hw:Q23 m va 4
      · exact λe=>absurd e hc
      · exact λ_=>hz
    · cases hq:(Q70 m c.B5.a6 va access).F0 !=0
      · have hq:(Q70 m c.B5.a6 va access).F0=0:=by simpa using hq
        exact λ_=>(w hq).trans hz
      · have hq: ¬(Q70 m c.B5.a6 va access).F0=0:=by simpa using hq
        exact λe=>absurd e hq
  · intro e;cases e
def eff0:Q13:={C3:=0,C9:=0,E0:=0,Value:=0}
def Q5e(c:Q03)(m:List Int)(i:Q0h):Q03×List Int×Q13:=
 bif i.Op==32 then((Q6d c m i).1,(Q6d c m i).2,eff0) else bif i.Op==33 then((Q6d c m i).1,(Q6d c m i).2,eff0) else bif i.Op==34 then((Q6d c m i).1,(Q6d c m i).2,eff0)
 else bif i.Op==35 then((Q7m c m i).1,(Q7m c m i).2,eff0) else bif i.Op==36 then((Q7m c m i).1,(Q7m c m i).2,eff0) else((Qhz c i).1,m,(Qhz c i).2)
def regX(c:Q03)(r:Int):Int:=List.getD (A16.l c.X) r.toNat 0
def Qfs(c:Q03)(m:List Int)(i:Q0h):Q03×Q13×List Int:=
 bif decide (i.Op≥56) then((Qhm c i).1,(Qhm c i).2,m) else bif decide (i.Op≥40) then(Z3t c i,eff0,m) else bif decide (i.Op≥32) then((Q66 c m i).1,eff0,(Q66 c m i).2)
 else bif i.Op==24 then({X:=(Q1t c i.A (ishl .u32 (IntKind.wrap .u32 i.Imm) 16)).X,Pc:=IntKind.wrap .u32 ((Q1t c i.A (ishl .u32 (IntKind.wrap .u32 i.Imm) 16)).Pc+4),B5:=(Q1t c i.A (ishl .u32 (IntKind.wrap .u32 i.Imm) 16)).B5},eff0,m)
 else bif decide (i.Op≤13) then
   ({X:=(Q1t c i.A (Qck i.Op (regX c i.B) (regX c i.C)).1).X,Pc:=IntKind.wrap .u32 ((Q1t c i.A (Qck i.Op (regX c i.B) (regX c i.C)).1).Pc+4),B5:=(Q1t c i.A (Qck i.Op (regX c i.B) (regX c i.C)).1).B5},eff0,m)
 else({X:=(Q1t c i.A (Qck i.Op (regX c i.B) (IntKind.wrap .u32 i.Imm)).1).X,Pc:=IntKind.wrap .u32 ((Q1t c i.A (Qck i.Op (regX c i.B) (IntKind.wrap .u32 i.Imm)).1).Pc+4),B5:=(Q1t c i.A (Qck i.Op (regX c i.B) (IntKind.wrap .u32 i.Imm)).1).B5},eff0,m)
def isOp(op:Int):Prop:=op=1∨op=2∨op=3∨op=4∨op=5∨op=6∨op=7∨op=8∨op=9∨op=10∨op=11∨op=12∨op=13∨op=16∨op=17∨op=18∨op=19∨op=20∨op=21∨op=22∨op=23∨op=24∨op=32∨op=33∨op=34∨op=35∨op=36∨op=40∨op=41∨op=42∨op=43∨op=44∨op=45∨op=48∨op=49∨op=56∨op=57∨op=58∨op=59∨op=60∨op=61∨op=62∨op=63∨op=64
theorem set_pc(c:Q03)(r v:Int):(Q1t c r v).Pc=c.Pc∧(Q1t c r v).B5=c.B5:=by
 simp only[Q1t,Qe6,Tree.m]
 cases decide (r>0)
 · exact⟨rfl,rfl⟩
 · cases decide (r<16)<;>exact⟨rfl,rfl⟩
def adv(c:Q03):Q03:={X:=c.X,Pc:=IntKind.wrap .u32 (c.Pc+4),B5:=c.B5}
def va(c:Q03)(B Imm:Int):Int:=IntKind.wrap .u32 (List.getD (A16.l c.X) B.toNat 0+IntKind.wrap .u32 Imm)
def ldP(c:Q03)(A v size:Int)(f:Int→Int)(y:Int×List Int×Int):Q03×List Int:=bif y.2.2 !=0 then(Q4h c y.2.2 v,y.2.1) else(adv (Q9h c A (f (Q4n y.2.1 y.1 size).1)),y.2.1)
def ldR(c:Q03)(A v size:Int)(f:Int→Int)(x:Int×Int×List Int):Q03×List Int:=bif x.2.1 !=0 then(Q35 c x.2.1 v,x.2.2) else(adv (Q1t c A (f (Q15 x.2.2 x.1 size).1)),x.2.2)
def stP(c:Q03)(A v size:Int)(y:Int×List Int×Int):Q03×List Int:=bif y.2.2 !=0 then(Q4h c y.2.2 v,y.2.1) else(adv c,(Q8d y.2.1 y.1 size (List.getD (A16.l c.X) A.toNat 0)).1)
def stR(c:Q03)(A v size:Int)(x:Int×Int×List Int):Q03×List Int:=bif x.2.1 !=0 then(Q35 c x.2.1 v,x.2.2) else(adv c,Qa5 x.2.2 x.1 size (List.getD (A16.l c.X) A.toNat 0))
theorem ld_eq(c:Q03)(m:List Int)(A B C Imm:Int):
   (Q6d c m ⟨32,A,B,C,Imm⟩=ldP c A (va c B Imm) 4 (λv=>v) (Q1x c m (va c B Imm) 4 2)∧Q66 c m ⟨32,A,B,C,Imm⟩=ldR c A (va c B Imm) 4 (λv=>v) (Q0w c m (va c B Imm) 4 2))∧
   (Q6d c m ⟨33,A,B,C,Imm⟩=ldP c A (va c B Imm) 1 (λv=>Q29 v 8) (Q1x c m (va c B Imm) 1 2)∧Q66 c m ⟨33,A,B,C,Imm⟩=ldR c A (va c B Imm) 1 (λv=>Q4c v 8) (Q0w c m (va c B Imm) 1 2))∧
   (Q6d c m ⟨34,A,B,C,Imm⟩=ldP c A (va c B Imm) 1 (λv=>v) (Q1x c m (va c B Imm) 1 2)∧Q66 c m ⟨34,A,B,C,Imm⟩=ldR c A (va c B Imm) 1 (λv=>v) (Q0w c m (va c B Imm) 1 2))∧
   (Q7m c m ⟨35,A,B,C,Imm⟩=stP c A (va c B Imm) 4 (Q1x c m (va c B Imm) 4 3)∧Q66 c m ⟨35,A,B,C,Imm⟩=stR c A (va c B Imm) 4 (Q0w c m (va c B Imm) 4 3))∧
   (Q7m c m ⟨36,A,B,C,Imm⟩=stP c A (va c B Imm) 1 (Q1x c m (va c B Imm) 1 3)∧Q66 c m ⟨36,A,B,C,Imm⟩=stR c A (va c B Imm) 1 (Q0w c m (va c B Imm) 1 3)):=
 ⟨⟨by kernel_rfl,by kernel_rfl⟩,⟨by kernel_rfl,by kernel_rfl⟩,⟨by kernel_rfl,by kernel_rfl⟩,⟨by kernel_rfl,by kernel_rfl⟩,⟨by kernel_rfl,by kernel_rfl⟩⟩
theorem sx_load{P:Nat}{m:List Int}(h:Q0u P m)(a:Int):Q29 (Q15 m a 1).1 8=Q4c (Q15 m a 1).1 8:=by
 have: ∀x:Int×Bool,(∃w,U w∧x=(iand .u32 w 255,true))∨x=(0,false)→Q29 x.1 8=Q4c x.1 8:=λx hx=>by
   rcases hx with⟨w,hw,rfl⟩|rfl
   · have e:=m255 hw
     exact sx8 (by show 0≤iand .u32 w 255;omega) (by show iand .u32 w 255<256;omega)
   · rfl
 refine this _ ?_
 simp only[Q15,Q4l,Tree.m,letv]
 cases Q23 m a 1
 · exact .inr rfl
 · exact .inl ⟨_,Qox (Qh5 h.u _) _,rfl⟩
section
variable {P:Nat} {m:List Int} (h:Q0u P m) {c:Q03} (hc:Q2s c) (hst:c.B5.a0≤31)
include h hc hst
omit hst in
theorem Z6k{v:Int}(hv:U v){size:Int}(hs:size=1∨size=4)(access:Int):Q0u P (Q0w c m v size access).2.2∧U (Q0w c m v size access).1∧((Q0w c m v size access).2.1=0→(Q0w c m v size access).1<128*P):=(Tree.pp (Z08 h hc hv hs access)).2
theorem Z65{A v:Int}(hA:0≤A∧A<16)(hv:U v){size:Int}(hs:size=1∨size=4){f g:Int→Int}(hf: ∀{m':List Int},Q0u P m'→ ∀a,f (Q15 m' a size).1=g (Q15 m' a size).1):ldP c A v size f (Q1x c m v size 2)=ldR c A v size g (Q0w c m v size 2):=by
 rw[Qir h hc hst hv hs (.inr (.inl rfl))]
 obtain⟨k,u,_⟩:=Z6k h hc hv hs 2
 generalize Q0w c m v size 2=x at*
 simp only[ldP,ldR,Qj0 k u hs,Qjp hc.a0.1 hst,Qrs c hA,hf k]
theorem st_same{A v:Int}(hv:U v){size:Int}(hs:size=1∨size=4):stP c A v size (Q1x c m v size 3)=stR c A v size (Q0w c m v size 3):=by
 rw[Qir h hc hst hv hs (.inr (.inr rfl))]
 obtain⟨k,u,b⟩:=Z6k h hc hv hs 3
 have al:=reach_al (c:=c) (m:=m) hv hs (access:=3) (.inr (.inr rfl))
 generalize Q0w c m v size 3=x at*
 simp only[stP,stR,Qx9 k u hs,Qjp hc.a0.1 hst,Qe9 k u hs]
 cases hq:x.2.1 !=0
 · have hq:x.2.1=0:=by simpa using hq
   rw[decide_eq_true ⟨al hq,b hq⟩];rfl
 · rfl
end
end Go.Proofs.YtpcbkbalabgnlaaGreat
namespace Go.Proofs.YtpcbkbalabgnlaaGreat
open Go Go.GD
set_option maxRecDepth 100000
theorem write_pc(c:Q03)(k v:Int):(Qgl c k v).Pc=c.Pc:=by
 simp only[Qgl,Qcu,Tree.m]
 repeat'(first|rfl|refine Qt2 (Q:=λx:Q03=>x.Pc=c.Pc) ?_ ?_)
def setP(c:Q03)(A v p:Int):Q03:={X:=(Q9h c A v).X,Pc:=p,B5:=(Q9h c A v).B5}
def setR(c:Q03)(A v p:Int):Q03:={X:=(Q1t c A v).X,Pc:=p,B5:=(Q1t c A v).B5}
def nxt(c:Q03):Int:=IntKind.wrap .u32 (c.Pc+4)
theorem Z2s(c:Q03){A:Int}(hA:0≤A∧A<16)(v p:Int):setP c A v p=setR c A v p:=by
 unfold setP setR;rw[Qrs c hA]
theorem Z6u(c:Q03)(A v:Int):adv (Q1t c A v)=setR c A v (nxt c):=by
 unfold adv setR nxt;rw[(set_pc c A v).1]
theorem brc(t:Bool)(x y:Q03)(m:List Int):((bif t then(x,eff0) else(y,eff0)).1,m,(bif t then(x,eff0) else(y,eff0)).2)=((bif t then x else y),m,eff0):=by cases t<;>rfl
def isOpB(op:Int):Bool:=decide (op=1)||decide (op=2)||decide (op=3)||decide (op=4)||decide (op=5)||decide (op=6)||decide (op=7)||decide (op=8)||decide (op=9)||decide (op=10)||decide (op=11)||decide (op=12)||decide (op=13)||decide (op=16)||decide (op=17)||decide (op=18)||decide (op=19)||decide (op=20)||decide (op=21)||decide (op=22)||decide (op=23)||decide (op=24)||decide (op=32)||decide (op=33)||decide (op=34)||decide (op=35)||decide (op=36)||decide (op=40)||decide (op=41)||decide (op=42)||decide (op=43)||decide (op=44)||decide (op=45)||decide (op=48)||decide (op=49)||decide (op=56)||decide (op=57)||decide (op=58)||decide (op=59)||decide (op=60)||decide (op=61)||decide (op=62)||decide (op=63)||decide (op=64)
section
variable {P:Nat} {m:List Int} (h:Q0u P m) {c:Q03} (hc:Q2s c) (hst:c.B5.a0≤31) {A B C Imm:Int} (hA:0≤A∧A<16)
include h hc hst hA
theorem post_same{op:Int}(hop:isOp op):Q5e c m ⟨op,A,B,C,Imm⟩=((Qfs c m ⟨op,A,B,C,Imm⟩).1,(Qfs c m ⟨op,A,B,C,Imm⟩).2.2,(Qfs c m ⟨op,A,B,C,Imm⟩).2.1):=by
 have alu: ∀{k y:Int},1≤k→k≤23→U y→((setP c A (Q45 k (regX c B) y).1 (nxt c),m,eff0):Q03×List Int×Q13)=(adv (Q1t c A (Qck k (regX c B) y).1),m,eff0):=λh1 h2 hy=>by
   rw[alu_same h1 h2 (show U (regX c B) from hc.r _) hy,Z6u,Z2s c hA]
 have uC:U (regX c C):=hc.r _
 have uI:U (IntKind.wrap .u32 Imm):=Q0j _
 obtain⟨⟨l1,l2⟩,⟨l3,l4⟩,⟨l5,l6⟩,⟨l7,l8⟩,⟨l9,l10⟩⟩:=ld_eq c m A B C Imm
 have hva:U (va c B Imm):=Q0j _
 rcases hop with rfl|rfl|rfl|rfl|rfl|rfl|rfl|rfl|rfl|rfl|rfl|rfl|rfl|rfl|rfl|rfl|rfl|rfl|rfl|rfl|rfl|rfl|rfl|rfl|rfl|rfl|rfl|rfl|rfl|rfl|rfl|rfl|rfl|rfl|rfl|rfl|rfl|rfl|rfl|rfl|rfl|rfl|rfl|rfl
 · exact(show Q5e c m ⟨1,A,B,C,Imm⟩=(setP c A (Q45 1 (regX c B) (regX c C)).1 (nxt c),m,eff0) by kernel_rfl).trans ((alu (by decide) (by decide) uC).trans (by kernel_rfl))
 · exact(show Q5e c m ⟨2,A,B,C,Imm⟩=(setP c A (Q45 2 (regX c B) (regX c C)).1 (nxt c),m,eff0) by kernel_rfl).trans ((alu (by decide) (by decide) uC).trans (by kernel_rfl))
 · exact(show Q5e c m ⟨3,A,B,C,Imm⟩=(setP c A (Q45 3 (regX c B) (regX c C)).1 (nxt c),m,eff0) by kernel_rfl).trans ((alu (by decide) (by decide) uC).trans (by kernel_rfl))
 · exact(show Q5e c m ⟨4,A,B,C,Imm⟩=(setP c A (Q45 4 (regX c B) (regX c C)).1 (nxt c),m,eff0) by kernel_rfl).trans ((alu (by decide) (by decide) uC).trans (by kernel_rfl))
 · exact(show Q5e c m ⟨5,A,B,C,Imm⟩=(setP c A (Q45 5 (regX c B) (regX c C)).1 (nxt c),m,eff0) by kernel_rfl).trans ((alu (by decide) (by decide) uC).trans (by kernel_rfl))
 · exact(show Q5e c m ⟨6,A,B,C,Imm⟩=(setP c A (Q45 6 (regX c B) (regX c C)).1 (nxt c),m,eff0) by kernel_rfl).trans ((alu (by decide) (by decide) uC).trans (by kernel_rfl))
 · exact(show Q5e c m ⟨7,A,B,C,Imm⟩=(setP c A (Q45 7 (regX c B) (regX c C)).1 (nxt c),m,eff0) by kernel_rfl).trans ((alu (by decide) (by decide) uC).trans (by kernel_rfl))
 · exact(show Q5e c m ⟨8,A,B,C,Imm⟩=(setP c A (Q45 8 (regX c B) (regX c C)).1 (nxt c),m,eff0) by kernel_rfl).trans ((alu (by decide) (by decide) uC).trans (by kernel_rfl))
 · exact(show Q5e c m ⟨9,A,B,C,Imm⟩=(setP c A (Q45 9 (regX c B) (regX c C)).1 (nxt c),m,eff0) by kernel_rfl).trans ((alu (by decide) (by decide) uC).trans (by kernel_rfl))
 · exact(show Q5e c m ⟨10,A,B,C,Imm⟩=(setP c A (Q45 10 (regX c B) (regX c C)).1 (nxt c),m,eff0) by kernel_rfl).trans ((alu (by decide) (by decide) uC).trans (by kernel_rfl))
 · exact(show Q5e c m ⟨11,A,B,C,Imm⟩=(setP c A (Q45 11 (regX c B) (regX c C)).1 (nxt c),m,eff0) by kernel_rfl).trans ((alu (by decide) (by decide) uC).trans (by kernel_rfl))
 · exact(show Q5e c m ⟨12,A,B,C,Imm⟩=(setP c A (Q45 12 (regX c B) (regX c C)).1 (nxt c),m,eff0) by kernel_rfl).trans ((alu (by decide) (by decide) uC).trans (by kernel_rfl))
 · exact(show Q5e c m ⟨13,A,B,C,Imm⟩=(setP c A (Q45 13 (regX c B) (regX c C)).1 (nxt c),m,eff0) by kernel_rfl).trans ((alu (by decide) (by decide) uC).trans (by kernel_rfl))
 · exact(show Q5e c m ⟨16,A,B,C,Imm⟩=(setP c A (Q45 16 (regX c B) (IntKind.wrap .u32 Imm)).1 (nxt c),m,eff0) by kernel_rfl).trans ((alu (by decide) (by decide) uI).trans (by kernel_rfl))
 · exact(show Q5e c m ⟨17,A,B,C,Imm⟩=(setP c A (Q45 17 (regX c B) (IntKind.wrap .u32 Imm)).1 (nxt c),m,eff0) by kernel_rfl).trans ((alu (by decide) (by decide) uI).trans (by kernel_rfl))
 · exact(show Q5e c m ⟨18,A,B,C,Imm⟩=(setP c A (Q45 18 (regX c B) (IntKind.wrap .u32 Imm)).1 (nxt c),m,eff0) by kernel_rfl).trans ((alu (by decide) (by decide) uI).trans (by kernel_rfl))
 · exact(show Q5e c m ⟨19,A,B,C,Imm⟩=(setP c A (Q45 19 (regX c B) (IntKind.wrap .u32 Imm)).1 (nxt c),m,eff0) by kernel_rfl).trans ((alu (by decide) (by decide) uI).trans (by kernel_rfl))
 · exact(show Q5e c m ⟨20,A,B,C,Imm⟩=(setP c A (Q45 20 (regX c B) (IntKind.wrap .u32 Imm)).1 (nxt c),m,eff0) by kernel_rfl).trans ((alu (by decide) (by decide) uI).trans (by kernel_rfl))
 · exact(show Q5e c m ⟨21,A,B,C,Imm⟩=(setP c A (Q45 21 (regX c B) (IntKind.wrap .u32 Imm)).1 (nxt c),m,eff0) by kernel_rfl).trans ((alu (by decide) (by decide) uI).trans (by kernel_rfl))
 · exact(show Q5e c m ⟨22,A,B,C,Imm⟩=(setP c A (Q45 22 (regX c B) (IntKind.wrap .u32 Imm)).1 (nxt c),m,eff0) by kernel_rfl).trans ((alu (by decide) (by decide) uI).trans (by kernel_rfl))
 · exact(show Q5e c m ⟨23,A,B,C,Imm⟩=(setP c A (Q45 23 (regX c B) (IntKind.wrap .u32 Imm)).1 (nxt c),m,eff0) by kernel_rfl).trans ((alu (by decide) (by decide) uI).trans (by kernel_rfl))
 · refine(show Q5e c m ⟨24,A,B,C,Imm⟩=(setP c A (ishl .u32 (IntKind.wrap .u32 Imm) 16) (nxt c),m,eff0) by kernel_rfl).trans ?_
   rw[Z2s c hA,←Z6u];kernel_rfl
 · have e:=Z65 h hc hst hA hva (.inr rfl) (f:=λv=>v) (g:=λv=>v) (λ_ _=>rfl)
   rw[←l1,←l2]at e
   refine(show Q5e c m ⟨32,A,B,C,Imm⟩=((Q6d c m ⟨32,A,B,C,Imm⟩).1,(Q6d c m ⟨32,A,B,C,Imm⟩).2,eff0) by kernel_rfl).trans ?_
   rw[e];kernel_rfl
 · have e:=Z65 h hc hst hA hva (.inl rfl) (f:=λv=>Q29 v 8) (g:=λv=>Q4c v 8) (λhm a=>sx_load hm a)
   rw[←l3,←l4]at e
   refine(show Q5e c m ⟨33,A,B,C,Imm⟩=((Q6d c m ⟨33,A,B,C,Imm⟩).1,(Q6d c m ⟨33,A,B,C,Imm⟩).2,eff0) by kernel_rfl).trans ?_
   rw[e];kernel_rfl
 · have e:=Z65 h hc hst hA hva (.inl rfl) (f:=λv=>v) (g:=λv=>v) (λ_ _=>rfl)
   rw[←l5,←l6]at e
   refine(show Q5e c m ⟨34,A,B,C,Imm⟩=((Q6d c m ⟨34,A,B,C,Imm⟩).1,(Q6d c m ⟨34,A,B,C,Imm⟩).2,eff0) by kernel_rfl).trans ?_
   rw[e];kernel_rfl
 · have e:=st_same h hc hst (A:=A) hva (.inr rfl)
   rw[←l7,←l8]at e
   refine(show Q5e c m ⟨35,A,B,C,Imm⟩=((Q7m c m ⟨35,A,B,C,Imm⟩).1,(Q7m c m ⟨35,A,B,C,Imm⟩).2,eff0) by kernel_rfl).trans ?_
   rw[e];kernel_rfl
 · have e:=st_same h hc hst (A:=A) hva (.inl rfl)
   rw[←l9,←l10]at e
   refine(show Q5e c m ⟨36,A,B,C,Imm⟩=((Q7m c m ⟨36,A,B,C,Imm⟩).1,(Q7m c m ⟨36,A,B,C,Imm⟩).2,eff0) by kernel_rfl).trans ?_
   rw[e];kernel_rfl
 · exact(show Q5e c m ⟨40,A,B,C,Imm⟩=((bif(Q2j 40 (regX c A) (regX c B)) then((⟨c.X,IntKind.wrap .u32 (c.Pc+IntKind.wrap .u32 (4*IntKind.wrap .u32 Imm)),c.B5⟩:Q03),eff0) else(⟨c.X,nxt c,c.B5⟩,eff0)).1,m,(bif(Q2j 40 (regX c A) (regX c B)) then((⟨c.X,IntKind.wrap .u32 (c.Pc+IntKind.wrap .u32 (4*IntKind.wrap .u32 Imm)),c.B5⟩:Q03),eff0) else(⟨c.X,nxt c,c.B5⟩,eff0)).2) by kernel_rfl).trans ((brc (Q2j 40 (regX c A) (regX c B)) ⟨c.X,IntKind.wrap .u32 (c.Pc+IntKind.wrap .u32 (4*IntKind.wrap .u32 Imm)),c.B5⟩ ⟨c.X,nxt c,c.B5⟩ m).trans (by kernel_rfl))
 · exact(show Q5e c m ⟨41,A,B,C,Imm⟩=((bif(Q2j 41 (regX c A) (regX c B)) then((⟨c.X,IntKind.wrap .u32 (c.Pc+IntKind.wrap .u32 (4*IntKind.wrap .u32 Imm)),c.B5⟩:Q03),eff0) else(⟨c.X,nxt c,c.B5⟩,eff0)).1,m,(bif(Q2j 41 (regX c A) (regX c B)) then((⟨c.X,IntKind.wrap .u32 (c.Pc+IntKind.wrap .u32 (4*IntKind.wrap .u32 Imm)),c.B5⟩:Q03),eff0) else(⟨c.X,nxt c,c.B5⟩,eff0)).2) by kernel_rfl).trans ((brc (Q2j 41 (regX c A) (regX c B)) ⟨c.X,IntKind.wrap .u32 (c.Pc+IntKind.wrap .u32 (4*IntKind.wrap .u32 Imm)),c.B5⟩ ⟨c.X,nxt c,c.B5⟩ m).trans (by kernel_rfl))
 · exact(show Q5e c m ⟨42,A,B,C,Imm⟩=((bif(Q2j 42 (regX c A) (regX c B)) then((⟨c.X,IntKind.wrap .u32 (c.Pc+IntKind.wrap .u32 (4*IntKind.wrap .u32 Imm)),c.B5⟩:Q03),eff0) else(⟨c.X,nxt c,c.B5⟩,eff0)).1,m,(bif(Q2j 42 (regX c A) (regX c B)) then((⟨c.X,IntKind.wrap .u32 (c.Pc+IntKind.wrap .u32 (4*IntKind.wrap .u32 Imm)),c.B5⟩:Q03),eff0) else(⟨c.X,nxt c,c.B5⟩,eff0)).2) by kernel_rfl).trans ((brc (Q2j 42 (regX c A) (regX c B)) ⟨c.X,IntKind.wrap .u32 (c.Pc+IntKind.wrap .u32 (4*IntKind.wrap .u32 Imm)),c.B5⟩ ⟨c.X,nxt c,c.B5⟩ m).trans (by kernel_rfl))
 · exact(show Q5e c m ⟨43,A,B,C,Imm⟩=((bif(Q2j 43 (regX c A) (regX c B)) then((⟨c.X,IntKind.wrap .u32 (c.Pc+IntKind.wrap .u32 (4*IntKind.wrap .u32 Imm)),c.B5⟩:Q03),eff0) else(⟨c.X,nxt c,c.B5⟩,eff0)).1,m,(bif(Q2j 43 (regX c A) (regX c B)) then((⟨c.X,IntKind.wrap .u32 (c.Pc+IntKind.wrap .u32 (4*IntKind.wrap .u32 Imm)),c.B5⟩:Q03),eff0) else(⟨c.X,nxt c,c.B5⟩,eff0)).2) by kernel_rfl).trans ((brc (Q2j 43 (regX c A) (regX c B)) ⟨c.X,IntKind.wrap .u32 (c.Pc+IntKind.wrap .u32 (4*IntKind.wrap .u32 Imm)),c.B5⟩ ⟨c.X,nxt c,c.B5⟩ m).trans (by kernel_rfl))
 · exact(show Q5e c m ⟨44,A,B,C,Imm⟩=((bif(Q2j 44 (regX c A) (regX c B)) then((⟨c.X,IntKind.wrap .u32 (c.Pc+IntKind.wrap .u32 (4*IntKind.wrap .u32 Imm)),c.B5⟩:Q03),eff0) else(⟨c.X,nxt c,c.B5⟩,eff0)).1,m,(bif(Q2j 44 (regX c A) (regX c B)) then((⟨c.X,IntKind.wrap .u32 (c.Pc+IntKind.wrap .u32 (4*IntKind.wrap .u32 Imm)),c.B5⟩:Q03),eff0) else(⟨c.X,nxt c,c.B5⟩,eff0)).2) by kernel_rfl).trans ((brc (Q2j 44 (regX c A) (regX c B)) ⟨c.X,IntKind.wrap .u32 (c.Pc+IntKind.wrap .u32 (4*IntKind.wrap .u32 Imm)),c.B5⟩ ⟨c.X,nxt c,c.B5⟩ m).trans (by kernel_rfl))
 · exact(show Q5e c m ⟨45,A,B,C,Imm⟩=((bif(Q2j 45 (regX c A) (regX c B)) then((⟨c.X,IntKind.wrap .u32 (c.Pc+IntKind.wrap .u32 (4*IntKind.wrap .u32 Imm)),c.B5⟩:Q03),eff0) else(⟨c.X,nxt c,c.B5⟩,eff0)).1,m,(bif(Q2j 45 (regX c A) (regX c B)) then((⟨c.X,IntKind.wrap .u32 (c.Pc+IntKind.wrap .u32 (4*IntKind.wrap .u32 Imm)),c.B5⟩:Q03),eff0) else(⟨c.X,nxt c,c.B5⟩,eff0)).2) by kernel_rfl).trans ((brc (Q2j 45 (regX c A) (regX c B)) ⟨c.X,IntKind.wrap .u32 (c.Pc+IntKind.wrap .u32 (4*IntKind.wrap .u32 Imm)),c.B5⟩ ⟨c.X,nxt c,c.B5⟩ m).trans (by kernel_rfl))
 · refine(show Q5e c m ⟨48,A,B,C,Imm⟩=(setP c A (nxt c) (IntKind.wrap .u32 ((Q9h c A (nxt c)).Pc+IntKind.wrap .u32 (4*IntKind.wrap .u32 Imm))),m,eff0) by kernel_rfl).trans ?_
   rw[Z2s c hA,Qrs c hA,(set_pc c A (nxt c)).1];kernel_rfl
 · refine(show Q5e c m ⟨49,A,B,C,Imm⟩=(setP c A (nxt c) (va c B Imm),m,eff0) by kernel_rfl).trans ?_
   rw[Z2s c hA];kernel_rfl
 · refine(show Q5e c m ⟨56,A,B,C,Imm⟩=(Q4h c 7 0,m,eff0) by kernel_rfl).trans ?_
   rw[Qjp hc.a0.1 hst];kernel_rfl
 · refine(show Q5e c m ⟨57,A,B,C,Imm⟩=(Qc9 c,m,eff0) by kernel_rfl).trans ?_
   rw[Z5g hc.a0.1 hst];kernel_rfl
 · refine(show Q5e c m ⟨58,A,B,C,Imm⟩=(setP c A (List.getD (A8.l c.B5) Imm.toNat 0) (nxt c),m,eff0) by kernel_rfl).trans ?_
   rw[Z2s c hA,←Z6u];kernel_rfl
 · have e:=write_pc c (IntKind.wrap .i64 Imm) (regX c A)
   refine(show Q5e c m ⟨59,A,B,C,Imm⟩=((⟨(Qgl c (IntKind.wrap .i64 Imm) (regX c A)).X,IntKind.wrap .u32 (c.Pc+4),(Qgl c (IntKind.wrap .i64 Imm) (regX c A)).B5⟩:Q03),m,eff0) by kernel_rfl).trans ?_
   rw[←e];kernel_rfl
 · exact(show Q5e c m ⟨60,A,B,C,Imm⟩=((Qfs c m ⟨60,A,B,C,Imm⟩).1,(Qfs c m ⟨60,A,B,C,Imm⟩).2.2,(Qfs c m ⟨60,A,B,C,Imm⟩).2.1) by kernel_rfl)
 · exact(show Q5e c m ⟨61,A,B,C,Imm⟩=((Qfs c m ⟨61,A,B,C,Imm⟩).1,(Qfs c m ⟨61,A,B,C,Imm⟩).2.2,(Qfs c m ⟨61,A,B,C,Imm⟩).2.1) by kernel_rfl)
 · exact(show Q5e c m ⟨62,A,B,C,Imm⟩=((Qfs c m ⟨62,A,B,C,Imm⟩).1,(Qfs c m ⟨62,A,B,C,Imm⟩).2.2,(Qfs c m ⟨62,A,B,C,Imm⟩).2.1) by kernel_rfl)
 · exact(show Q5e c m ⟨63,A,B,C,Imm⟩=((Qfs c m ⟨63,A,B,C,Imm⟩).1,(Qfs c m ⟨63,A,B,C,Imm⟩).2.2,(Qfs c m ⟨63,A,B,C,Imm⟩).2.1) by kernel_rfl)
 · exact(show Q5e c m ⟨64,A,B,C,Imm⟩=((Qfs c m ⟨64,A,B,C,Imm⟩).1,(Qfs c m ⟨64,A,B,C,Imm⟩).2.2,(Qfs c m ⟨64,A,B,C,Imm⟩).2.1) by kernel_rfl)
end
theorem form_op{op:Int}(h0:0≤op)(h1:op<256)(h:Q26 op≠0):isOp op:=by
 have e:=of_decide_eq_true (Qnc (λop=>decide (Q26 op=0∨isOpB op=true)) 256 (by kernel_rfl) h0 h1)
 rcases e with e|e
 · exact absurd e h
 · simpa only[isOpB,isOp,Bool.or_eq_true,decide_eq_true_eq,or_assoc] using e
end Go.Proofs.YtpcbkbalabgnlaaGreat
namespace Go.Proofs.YtpcbkbalabgnlaaGreat
open Go Go.GD
set_option maxRecDepth 100000
theorem isOp_le{op:Int}(o:isOp op):1≤op∧op≤64:=by
 unfold isOp at o
 rcases o with h|h|h|h|h|h|h|h|h|h|h|h|h|h|h|h|h|h|h|h|h|h|h|h|h|h|h|h|h|h|h|h|h|h|h|h|h|h|h|h|h|h|h|h<;>(rw[h];decide)
theorem decode_op{w:Int}(hw:U w):(Q1w w).2=true→isOp (Q1w w).1.Op:=by
  have s24:ishr .u32 w 24=w/16777216:=by have:=Ql9 (a:=w) 24 (by decide);simpa using this
  obtain⟨w0,w1⟩:=hw
  have eo:IntKind.wrap .i64 (w/16777216)=w/16777216:=w64 (by omega) (by omega)
  have q:(λr:Q0h×Bool=>r.2=true→isOp r.1.Op) (Q1w w):=by
    simp only[Q1w,Q7b,Tree.m,letv,s24,eo]
    cases hf:Q26 (w/16777216)==0
    · have g:isOp (w/16777216):=form_op (by omega) (by omega) (by simpa using hf)
      repeat'(first
        |exact λ_=>g
        |exact λe=>Bool.noConfusion (show false=true from e)
        |refine Qt2 (Q:=λr:Q0h×Bool=>r.2=true→isOp r.1.Op) ?_ ?_)
    · exact λe=>Bool.noConfusion (show false=true from e)
  exact q
section
variable (c:Q03) (m:List Int)
def doR(x:Int×Int×List Int)(w:Int)(d:Q0h×Bool):Q03×Q13×List Int:=
 bif x.2.1 !=0 then(Q35 c x.2.1 c.Pc,eff0,x.2.2) else bif !d.2 then(Q35 c 1 w,eff0,x.2.2) else bif Q49 d.1.Op then(bif iand .u32 c.B5.a0 1==0 then(Q35 c 2 w,eff0,x.2.2) else Qfs c x.2.2 d.1) else Qfs c x.2.2 d.1
def doP(y:Int×List Int×Int)(d:Q0h×Bool):Q03×List Int×Q13:=
 bif y.2.2 !=0 then(Q4h c y.2.2 c.Pc,y.2.1,eff0) else bif !d.2 then(Q4h c 1 y.1,y.2.1,eff0) else bif Q7u d.1.Op then(bif !Q8y c then(Q4h c 2 y.1,y.2.1,eff0) else Q5e c y.2.1 d.1) else Q5e c y.2.1 d.1
theorem do_eq:Qbx c m=doR c (Q0w c m c.Pc 4 1) (Q15 (Q0w c m c.Pc 4 1).2.2 (Q0w c m c.Pc 4 1).1 4).1 (Q1w (Q15 (Q0w c m c.Pc 4 1).2.2 (Q0w c m c.Pc 4 1).1 4).1):=by kernel_rfl
theorem exec_eq:Q74 c m=doP c (Qj4 c m) (Qed (Qj4 c m).1):=by kernel_rfl
theorem fetch_eq:Qj4 c m=bif(Q1x c m c.Pc 4 1).2.2 !=0 then(0,(Q1x c m c.Pc 4 1).2.1,(Q1x c m c.Pc 4 1).2.2) else((Q4n (Q1x c m c.Pc 4 1).2.1 (Q1x c m c.Pc 4 1).1 4).1,(Q1x c m c.Pc 4 1).2.1,0):=by kernel_rfl
end
theorem Z1p{P:Nat}{m:List Int}(h:Q0u P m){c:Q03}(hc:Q2s c)(hst:c.B5.a0≤31):Q74 c m=((Qbx c m).1,(Qbx c m).2.2,(Qbx c m).2.1):=by
  obtain⟨k,u,b⟩:=Z6k h hc hc.pc (.inr rfl) 1
  have tr: ∀k b,Q4h c k b=Q35 c k b:=Qjp hc.a0.1 hst
  rw[exec_eq,do_eq,fetch_eq,Qir h hc hst hc.pc (.inr rfl) (.inl rfl)]
  generalize Q0w c m c.Pc 4 1=x at*
  cases hx:x.2.1 !=0
  · rw [Qj0 k u (.inr rfl)]
    have hw:U (Q15 x.2.2 x.1 4).1:=(Tree.pp (Z85 k u (.inr rfl))).2
    generalize(Q15 x.2.2 x.1 4).1=w at*
    show doP c (w,x.2.2,0) (Qed w)=_
    rw[decode_eq hw]
    have o:=decode_op hw
    have i:=Tree.post _ (Z8m w)
    change(Q1w w).2=true→Qcr (Q1w w).1 at i
    generalize Q1w w=d at*
    obtain⟨⟨op,A,B,C,Imm⟩,ok⟩:=d
    cases ok
    · simp only[doP,doR,hx,tr];rfl
    · have o:isOp op:=o rfl
      have i:=i rfl
      have p:=post_same (C:=C) (B:=B) (Imm:=Imm) k hc hst i.a o
      have pv:Q7u op=Q49 op:=priv_eq (by have:=isOp_le o;omega) (by have:=isOp_le o;omega)
      have kn:(!Q8y c)=(iand .u32 c.B5.a0 1==0):=by
        show(!(!(iand .u32 c.B5.a0 1==0)))=_
        exact Bool.not_not _
      simp only[doP,doR,hx,tr,pv,kn,p]
      cases Q49 op
      · rfl
      · cases iand .u32 c.B5.a0 1==0<;>rfl
  · simp only[doP,doR,hx,cond_true,tr]
end Go.Proofs.YtpcbkbalabgnlaaGreat
namespace Go.Proofs.YtpcbkbalabgnlaaGreat
open Go Go.GD
set_option maxRecDepth 100000
theorem ge_not{a b:Int}:decide (a≥b)=!decide (a<b):=by
 by_cases h:a<b
 · rw[decide_eq_true h,decide_eq_false (by omega)];rfl
 · rw[decide_eq_false h,decide_eq_true (by omega)];rfl
def bits(g:Int)(l:List Nat)(s:Int):Int:=l.foldl (λ(a:Int) (i:Nat)=>IntKind.wrap .i64 (a+IntKind.wrap .i64 (iand .u32 (ishr .u32 g (i:Int)) 1))) s
theorem given_eq(b:Q07):Qe8 b=bits b.C1 [0,1,2,3,4,5,6,7,8,9,10,11,12,13,14,15,16,17,18,19,20,21,22,23,24,25,26,27,28,29,30,31] 0:=by kernel_rfl
theorem bit_eq{g:Int}(hg:U g){i:Nat}(hi:i≤32):IntKind.wrap .i64 (iand .u32 (ishr .u32 g (i:Int)) 1)=g/2^i%2:=by
 rw[and1 (Qox hg _),Ql9 i hi]
 have:0≤g/2^i%2∧g/2^i%2<2:=by omega
 exact w64 (by omega) (by omega)
theorem bits_sum{g:Int}(hg:U g)(l:List Nat): ∀s:Int,(∀i∈l,i≤32)→0≤s→s+l.length≤1000→bits g l s=s+(l.map λi=>g/2^i%2).sum:=by
 induction l with
 |nil=>intro s _ _ _;simp [bits]
 | cons i l ih=>
   intro s hl h0 h1
   have h1:s+(l.length+1)≤1000:=by simpa using h1
   have hb:0≤g/2^i%2∧g/2^i%2<2:=by omega
   have e:bits g (i::l) s=bits g l (s+g/2^i%2):=by
     show bits g l (IntKind.wrap .i64 (s+IntKind.wrap .i64 (iand .u32 (ishr .u32 g (i:Int)) 1)))=_
     rw[bit_eq hg (hl i (by simp)),w64 (by omega) (by omega)]
   rw[e,ih _ (λj hj=>hl j (by simp [hj])) (by omega) (by omega)]
   simp;omega
theorem Zb5(n:Q0m)(port:Int):Qu2 n port=Qk4 n port:=by
 simp only[Qu2,Qn0,Qk4,Qfw,Tree.m]
 cases n.C4<;>cases n.B7<;>rfl
theorem Qv9(t:Q0g):Q5o t=Q2g t:=by
 simp only[Q5o,Qhy,Q2g,Qj,Tree.m]
 cases t.D4<;>cases t.D6<;>rfl
theorem Z3f(n:Q0m)(p:Int):Q6t n p=Qi2 n p:=by
 simp only[Q6t,Qh1,Qi2,Qnb,Tree.m]
 cases n.C4<;>cases n.B7<;>rfl
theorem Z07(d:Q0b)(p:Int):Q1e d p=Qg d p:=by
  simp only[Q1e,Q5u,Q8b,Q6r,Qg,Ql2,Tree.m,letv,ge_not]
  cases decide (d.Blocks>64)
  · by_cases s:d.B8=0∨d.B8=1∨d.B8=2∨d.B8=3
    · rcases s with s|s|s|s<;>rw[s]
      · rfl
      · by_cases c1:d.D9=1
        · rw[c1];cases decide (d.B6<d.Blocks)<;>cases decide (IntKind.wrap .i64 d.A9<p)<;>cases decide (d.C2=[])<;>rfl
        · by_cases c2:d.D9=2
          · rw[c2];cases decide (d.B6<d.Blocks)<;>cases decide (IntKind.wrap .i64 d.A9<p)<;>cases(d.C2.length:Int)==128<;>rfl
          · rw[show(d.D9==1)=false by simpa using c1,show(d.D9==2)=false by simpa using c2]
            cases decide (d.B6<d.Blocks)<;>cases decide (IntKind.wrap .i64 d.A9<p)<;>rfl
      · rfl
      · rfl
    · rw[show(d.B8==0)=false by simp;omega,show(d.B8==1)=false by simp;omega,show(d.B8==2)=false by simp;omega,show(d.B8==3)=false by simp;omega]
      by_cases n:d.B8<0
      · rw[decide_eq_true n];rfl
      · rw[decide_eq_false n,decide_eq_true (show d.B8>3 by omega)];rfl
  · rfl
theorem con_same(c:Q0d):Q8f c=Q7g c:=by
 show(!decide (c.D3=[]))=decide ((c.D3.length:Int)>0)
 cases c.D3 with
 |nil=>rfl
 |cons a l=>rw[decide_eq_false (by simp),decide_eq_true (by simp)];rfl
theorem len_nil(k:List UInt8):decide (k=[])=((k.length:Int)==0):=by
 cases k with
 |nil=>rfl
 | cons a l=>
   rw[decide_eq_false (by simp)]
   exact(beq_eq_false_iff_ne.2 (by simp;omega)).symm
theorem Z93(c:Q0d)(port:Int):Qkh c port=Q7v c port:=by
 simp only[Qkh,Q8n,Q7v,Q7r,Tree.m,len_nil]
 cases port==0
 · rfl
 · cases(c.D3.length:Int)==0<;>rfl
theorem arm_same(t:Q0g)(v:Int):Qgo t v=Qys v:=by
 simp only[Qgo,Qhr,Qys,Qwr,Tree.m]
 cases h:v==0
 · rw[show(v !=0)=true by simp only[bne,h];rfl];rfl
 · rw[show(v !=0)=false by simp only[bne,h];rfl,eq_of_beq h];rfl
section
variable {P:Nat} {m:List Int} (h:Q0u P m)
include h
theorem Qxr(f:Int):Q8a m f=Q25 m f:=by
 have a:=Q3o h
 have b:=Qcg h
 simp only[Q8a,Qb9,Q25,Qhd,Tree.m,letv,a,b]
theorem Qx1(f:Int):Q97 m f=Q25 m f:=by
 have a:=Q3o h
 have b:=Qcg h
 simp only[Q97,Qco,Q25,Qhd,Tree.m,letv,a,b]
theorem Z3n(d:Q0b)(port:Int)(v:Int)(at0:Int):Qrq d m port v at0=Qjg d m port v at0:=by
  have pg:=Qxr h
  have pa:=Z1x h
  have rq: ∀d a,Qg3 d a=Qjb d a:=λ_ _=>rfl
  simp only[Qrq,Q8t,Qp5,Q6c,Qjg,Q9k,Tree.m,letv,pg,pa,rq]
  cases port==4
  · cases port==5
    · cases h6:port==6
      · rw[show(port !=6)=true by simp only[bne,h6];rfl];rfl
      · rw [show(port !=6)=false by simp only[bne,h6];rfl]
        by_cases v1:v=1
        · subst v1
          cases hs:d.B8==0
          · rw[show(d.B8 !=0)=true by simp only[bne,hs];rfl];rfl
          · rw[show(d.B8 !=0)=false by simp only[bne,hs];rfl];rfl
        · by_cases v2:v=2
          · subst v2
            cases hs:d.B8==0
            · rw[show(d.B8 !=0)=true by simp only[bne,hs];rfl];rfl
            · rw[show(d.B8 !=0)=false by simp only[bne,hs];rfl];rfl
          · rw[show(v==1)=false by simpa using v1,show(v==2)=false by simpa using v2]
            cases v==0
            · rfl
            · have:Q85 d=(bif d.B8==2 then true else d.B8==3):=rfl
              rw[this]
              cases d.B8==2<;>cases d.B8==3<;>rfl
    · rfl
  · rfl
theorem Z6r(n:Q0m)(port:Int)(v:Int)(at0:Int):Z02 n m port v at0=Qlf n m port v at0:=by
  have pg:=Qx1 h
  have pa:=Z1x h
  simp only[Z02,Qay,Qzm,Q94,Qlf,Qbh,Tree.m,letv,pg,pa]
  have g1:decide (n.F1≥1)=!decide (n.F1<1):=ge_not
  have g2:decide (n.F1≤128)=!decide (n.F1>128):=by
    by_cases h:n.F1>128
    · rw[decide_eq_true h,decide_eq_false (by omega)];rfl
    · rw[decide_eq_false h,decide_eq_true (by omega)];rfl
  rw[g1,g2]
  cases port==7
  · cases port==8
    · cases h9:port==9
      · rw[show(port !=9)=true by simp only[bne,h9];rfl];rfl
      · rw [show(port !=9)=false by simp only[bne,h9];rfl]
        by_cases v1:v=1
        · subst v1
          cases decide (n.F1<1)<;>cases decide (n.F1>128)<;>cases Q25 m n.B1<;>rfl
        · by_cases v2:v=2
          · subst v2;rfl
          · rw[show(v==1)=false by simpa using v1,show(v==2)=false by simpa using v2]
            cases v==0<;>rfl
    · rfl
  · rfl
theorem Qyl{d:Q0b}(hd:Q7y d)(e:Q09):Qe0 d m e=((Qah d m e).1,(Qah d m e).2.2,(Qah d m e).2.1):=by
  have hcl:Q02 m=m:=rfl
  have pg:=Qxr h d.A9
  have lp:decide ((e.C8.length:Int)>0)=!decide (e.C8=[]):=by
    cases e.C8 with
    |nil=>rfl
    |cons a l=>rw[decide_eq_true (by simp),decide_eq_false (by simp)];rfl
  have bad:(e.C8.length:Int)≠128→Q25 m d.A9=true→Q2t m (IntKind.wrap .i64 d.A9) e.C8=(m,false):=λhl hp=>by
    rw[Qhh h hd.opFrame]at hp
    have hp:=of_decide_eq_true hp
    have h1:=hd.opFrame.1
    have h3:=h.p2
    have ew:IntKind.i64.wrap d.A9=d.A9:=w64 (by omega) (by omega)
    simp only[Q2t,Q1z,Tree.m,letv,hcl,ew,Qzy h,decide_eq_true (⟨h1,hp⟩:0≤d.A9∧d.A9<P),show((e.C8.length:Int) !=128)=true by simpa using hl]
    rfl
  have good:(e.C8.length:Int)=128→Q25 m d.A9=true→Q2t m (IntKind.wrap .i64 d.A9) e.C8=(Qio m (IntKind.wrap .i64 d.A9) e.C8,true):=λhl hp=>by
    rw[Qhh h hd.opFrame]at hp
    have hp:=of_decide_eq_true hp
    have h1:=hd.opFrame.1
    have h3:=h.p2
    have ew:IntKind.i64.wrap d.A9=d.A9:=w64 (by omega) (by omega)
    rw[ew];exact Z33 h h1 hp (by omega)
  simp only[Qe0,Q4a,Qah,Q79,Tree.m,letv,hcl,pg,lp]
  cases d.B8 !=1
  · cases e.C3 !=4
    · cases decide (e.N>1)
      · cases e.N==1
        · cases decide (e.C8=[])<;>rfl
        · cases hc:d.D9==1
          · cases decide (e.C8=[])<;>rfl
          · by_cases hl:(e.C8.length:Int)=128
            · rw[show((e.C8.length:Int) !=128)=false by simpa using hl]
              cases hp:Q25 m d.A9
              · rfl
              · rw[good hl hp];rfl
            · rw[show((e.C8.length:Int) !=128)=true by simpa using hl]
              cases hp:Q25 m d.A9
              · rfl
              · rw[bad hl hp];rfl
      · rfl
    · rfl
  · rfl
theorem Z25{n:Q0m}(hn:Qft n)(frame:List UInt8):Qhs n m frame=((Qaj n m frame).1,(Qaj n m frame).2.2,(Qaj n m frame).2.1):=by
  have hcl:Q02 m=m:=rfl
  have pg:=Qx1 h n.B9
  simp only[Qhs,Q6f,Qaj,Q7h,Tree.m,letv,hcl,pg]
  cases !n.C4
  · cases decide ((frame.length:Int)<1)
    · cases hf:decide ((frame.length:Int)>128)
      · cases hp:Q25 m n.B9
        · rfl
        · rw[Qhh h hn.buffer]at hp
          have hp:=of_decide_eq_true hp
          have h1:=hn.buffer.1
          have h3:=h.p2
          have ew:IntKind.i64.wrap n.B9=n.B9:=w64 (by omega) (by omega)
          have hf:=of_decide_eq_false hf
          obtain⟨b1,b2⟩:=(Tree.pp (mpage_b h h1 hp)).2
          change isPg m n.B9 (Q5n m n.B9).1 at b1
          have tk:List.take (Int.toNat ((Q5n m n.B9).1.length:Int)-Int.toNat (frame.length:Int)) (List.drop (Int.toNat (frame.length:Int)) (Q5n m n.B9).1)=(Q5n m n.B9).1.drop frame.length:=by
            rw[Int.toNat_natCast,Int.toNat_natCast]
            exact List.take_of_length_le (by simp)
          rw[ew,tk,Z21 h h1 hp (by omega) b1]
          rfl
      · rfl
    · rfl
  · rfl
end
end Go.Proofs.YtpcbkbalabgnlaaGreat
namespace Go.Proofs.YtpcbkbalabgnlaaGreat
open Go Go.GD
set_option maxRecDepth 100000
def ptab:List UInt8:=(List.range 256).map λn=>UInt8.ofNat (n%2+n/2%2+n/4%2+n/8%2+n/16%2+n/32%2+n/64%2+n/128%2)
def pt(n:Int):Int:=((UInt8.toNat (ptab.getD n.toNat 0):Nat):Int)
theorem pop_form(x:Int):Q65 x=IntKind.wrap .i64 (IntKind.wrap .u8 (IntKind.wrap .u8 (IntKind.wrap .u8 (pt (ishr .u32 x 24)+pt (iand .u32 (ishr .u32 x 16) 255))+pt (iand .u32 (ishr .u32 x 8) 255))+pt (iand .u32 x 255))):=by kernel_rfl
theorem pt8{a:Int}(h0:0≤a)(h1:a<256):pt a=a%2+a/2%2+a/4%2+a/8%2+a/16%2+a/32%2+a/64%2+a/128%2:=
 eq_of_beq (Qnc (λa=>pt a==a%2+a/2%2+a/4%2+a/8%2+a/16%2+a/32%2+a/64%2+a/128%2) 256 (by kernel_rfl) h0 h1)
theorem given_sum{g:Int}(hg:U g):bits g [0,1,2,3,4,5,6,7,8,9,10,11,12,13,14,15,16,17,18,19,20,21,22,23,24,25,26,27,28,29,30,31] 0=pt (g%256)+pt (g/256%256)+pt (g/65536%256)+pt (g/16777216):=by
 rw[bits_sum hg _ 0 (by decide) (by decide) (by decide),pt8 (by omega) (by omega),pt8 (by omega) (by omega),pt8 (by omega) (by omega),pt8 (by have:=hg.1;omega) (by have:=hg.2;omega)]
 obtain⟨g0,g1⟩:=hg
 simp only[List.map_cons,List.map_nil,List.sum_cons,List.sum_nil]
 have e: ∀i j:Nat,∀k:Int,i<8→k=2^j→g/2^(i+j)%2=(g/k%256)/2^i%2:=λi j k hi hk=>by
   subst hk
   rw[Nat.add_comm,Int.pow_add,←Int.ediv_ediv_of_nonneg (Int.le_of_lt (Int.pow_pos (by decide)))]
   generalize g/2^j=x
   have:i=0∨i=1∨i=2∨i=3∨i=4∨i=5∨i=6∨i=7:=by omega
   rcases this with rfl|rfl|rfl|rfl|rfl|rfl|rfl|rfl<;>simp<;>omega
 have e0: ∀i:Nat,i<8→g/2^i%2=(g%256)/2^i%2:=λi hi=>by have:=e i 0 1 hi rfl;simpa using this
 have e24:g/16777216%256=g/16777216:=by omega
 rw[e0 0 (by decide),e0 1 (by decide),e0 2 (by decide),e0 3 (by decide),e0 4 (by decide),e0 5 (by decide),e0 6 (by decide),e0 7 (by decide)]
 rw[e 0 8 256 (by decide) (by decide),e 1 8 256 (by decide) (by decide),e 2 8 256 (by decide) (by decide),e 3 8 256 (by decide) (by decide),e 4 8 256 (by decide) (by decide),e 5 8 256 (by decide) (by decide),e 6 8 256 (by decide) (by decide),e 7 8 256 (by decide) (by decide)]
 rw[e 0 16 65536 (by decide) (by decide),e 1 16 65536 (by decide) (by decide),e 2 16 65536 (by decide) (by decide),e 3 16 65536 (by decide) (by decide),e 4 16 65536 (by decide) (by decide),e 5 16 65536 (by decide) (by decide),e 6 16 65536 (by decide) (by decide),e 7 16 65536 (by decide) (by decide)]
 rw[e 0 24 16777216 (by decide) (by decide),e 1 24 16777216 (by decide) (by decide),e 2 24 16777216 (by decide) (by decide),e 3 24 16777216 (by decide) (by decide),e 4 24 16777216 (by decide) (by decide),e 5 24 16777216 (by decide) (by decide),e 6 24 16777216 (by decide) (by decide),e 7 24 16777216 (by decide) (by decide),e24]
 generalize g%256=a
 generalize g/256%256=b
 generalize g/65536%256=c
 generalize g/16777216=d
 simp only[show(2:Int)^0=1 from rfl,show(2:Int)^1=2 from rfl,show(2:Int)^2=4 from rfl,show(2:Int)^3=8 from rfl,show(2:Int)^4=16 from rfl,show(2:Int)^5=32 from rfl,show(2:Int)^6=64 from rfl,show(2:Int)^7=128 from rfl,Int.ediv_one]
 omega
theorem pt_le{a:Int}(h0:0≤a)(h1:a<256):0≤pt a∧pt a≤8:=by rw[pt8 h0 h1];omega
theorem Qxb{b:Q07}(hg:U b.C1):Qb8 b=Qe8 b∧0≤Qe8 b∧Qe8 b≤32:=by
 obtain⟨s8,s16,s24⟩:=shr_c b.C1
 have u8:U (ishr .u32 b.C1 8):=Qox hg _
 have u16:U (ishr .u32 b.C1 16):=Qox hg _
 have e:Qb8 b=Q65 b.C1:=rfl
 rw[e,pop_form,given_eq,given_sum hg,m255 u8,m255 u16,m255 hg,s8,s16,s24]
 obtain⟨g0,g1⟩:=hg
 have p0:=pt_le (a:=b.C1%256) (by omega) (by omega)
 have p1:=pt_le (a:=b.C1/256%256) (by omega) (by omega)
 have p2:=pt_le (a:=b.C1/65536%256) (by omega) (by omega)
 have p3:=pt_le (a:=b.C1/16777216) (by omega) (by omega)
 have w8: ∀x,IntKind.wrap .u8 x=x%256:=λx=>IntKind.wrap_u8 x
 rw[w8,w8,w8,IntKind.wrap_i64]
 omega
theorem Z2u{b:Q07}(h:okB b):Q6y b=Q5i b:=by
 obtain⟨e,l0,l1⟩:=Qxb h.2
 obtain⟨t0,t1⟩:=h.1
 simp only[Q6y,Q2h,Q5i,Qd3,Tree.m,letv,e]
 rw[IntKind.wrap_u32,IntKind.wrap_u64,IntKind.wrap_u64,Int.emod_eq_of_lt l0 (by omega),Int.emod_eq_of_lt l0 (by omega),Int.emod_eq_of_lt t0 (by omega)]
theorem Zb9{b:Q07}(h:okB b)(port:Int):Qka b port=Q7t b port:=by
 simp only[Qka,Q6a,Q7t,Q7n,Tree.m,letv,(Qxb h.2).1]
theorem bit_pow(g:Int)(z:Nat):g%2^(z+1)=g%2^z+2^z*(g/2^z%2):=by
 have hp:(0:Int)<2^z:=Int.pow_pos (by decide)
 have h1:=Int.mul_ediv_add_emod g (2^z)
 have h2:=Int.mul_ediv_add_emod (g/2^z) 2
 have h3:(g/2^z)/2=g/2^(z+1):=by rw[Int.pow_succ,Int.ediv_ediv_of_nonneg (Int.le_of_lt hp)]
 have h4:=Int.mul_ediv_add_emod g (2^(z+1))
 rw[h3]at h2
 have h5:(2:Int)^(z+1)*(g/2^(z+1))=2^z*(2*(g/2^(z+1))):=by rw[Int.pow_succ,Int.mul_assoc]
 have h6:(2:Int)^z*(g/2^z)=2^z*(2*(g/2^(z+1)))+2^z*(g/2^z%2):=by rw[←Int.mul_add,h2]
 omega
theorem rbal_w{b:Q07}(hg:U b.C1){P:Nat}(hP:P≤32):(Qbt b P).w (λr=>r=decide (b.C1<2^P)):=by
 unfold Qbt
 have fin: ∀v:Int,0≤v→v≤32→IntKind.wrap .u64 v=(v.toNat:Int):=λv h0 h1=>by rw[IntKind.wrap_u64];omega
 refine w_lp (inv:=λz:Int=>0≤z∧z≤32∧b.C1%2^z.toNat<2^P) (μ:=Qcz b P) ⟨by decide,by decide,by have:(0:Int)<2^P:=Int.pow_pos (by decide);simpa using this⟩ (Nat.lt_succ_self _) λz ⟨z0,z1,z2⟩=> ?_
 refine w_br (λhb=> ?_) (λhb=> ?_)
 · have hb:=of_decide_eq_true hb
   have ew:IntKind.i64.wrap (z+1)=z+1:=w64 (by omega) (by omega)
   have bt:iand .u32 (ishr .u32 b.C1 (IntKind.wrap .u64 z)) 1=b.C1/2^z.toNat%2:=by
     rw[fin z z0 z1,and1 (Qox hg _),Ql9 _ (by omega)]
   have bp:=bit_pow b.C1 z.toNat
   have zt:(z+1).toNat=z.toNat+1:=by omega
   refine w_cn (decide_eq_true (by rw[IntKind.wrap_u64];omega)) ?_
   rw[bt]
   refine w_br (λe=>w_br (λhp=> ?_) (λhp=>w_nx ?_)) (λe=>w_nx ?_)
   · have e:=eq_of_beq e
     have hp:=of_decide_eq_true hp
     show false=_
     refine(decide_eq_false λhlt=> ?_).symm
     have hle:(2:Int)^P≤2^z.toNat:=by exact_mod_cast Nat.pow_le_pow_right (show 0<2 by decide) (show P≤z.toNat by omega)
     have:b.C1/2^z.toNat=0:=Int.ediv_eq_zero_of_lt hg.1 (by omega)
     rw[this]at e;cases e
   · have e:=eq_of_beq e
     have hp:=of_decide_eq_false hp
     show(0≤IntKind.i64.wrap (z+1)∧IntKind.i64.wrap (z+1)≤32∧b.C1%2^(IntKind.i64.wrap (z+1)).toNat<2^P)∧(32-IntKind.i64.wrap (z+1)).toNat<(32-z).toNat
     rw[ew,zt]
     have hle:(2:Int)^(z.toNat+1)≤2^P:=by exact_mod_cast Nat.pow_le_pow_right (show 0<2 by decide) (show z.toNat+1≤P by omega)
     have:=Int.emod_lt_of_pos b.C1 (show(0:Int)<2^(z.toNat+1) from Int.pow_pos (by decide))
     exact⟨⟨by omega,by omega,by omega⟩,by omega⟩
   · have e: ¬b.C1/2^z.toNat%2=1:=by simpa using e
     have e:b.C1/2^z.toNat%2=0:=by omega
     rw[e]at bp
     show(0≤IntKind.i64.wrap (z+1)∧IntKind.i64.wrap (z+1)≤32∧b.C1%2^(IntKind.i64.wrap (z+1)).toNat<2^P)∧(32-IntKind.i64.wrap (z+1)).toNat<(32-z).toNat
     rw[ew,zt,bp]
     exact⟨⟨by omega,by omega,by omega⟩,by omega⟩
 · have hb:=of_decide_eq_false hb
   have:z=32:=by omega
   subst this
   show true=_
   refine(decide_eq_true ?_).symm
   have h2:b.C1%2^(32:Int).toNat=b.C1:=Int.emod_eq_of_lt hg.1 hg.2
   rwa [h2]at z2
theorem Z6b{b:Q07}(hg:U b.C1){P:Nat}(hP:P≤32):Q3c b P=Qb0 b P:=by
 have r:=(Tree.pp (rbal_w hg hP)).2
 change Qb0 b P=_ at r
 rw[r,Bool.eq_iff_iff,Qsm hg,decide_eq_true_eq]
end Go.Proofs.YtpcbkbalabgnlaaGreat
namespace Go.Proofs.YtpcbkbalabgnlaaGreat
open Go Go.GD
set_option maxRecDepth 100000
theorem zeros:strings_Repeat [(0:UInt8)] 128=List.replicate 128 0:=by kernel_rfl
theorem give_b{P:Nat}{m:List Int}(hm:Q0u P m){b:Q07}{port:Int}{v:Int}(hv:U v)(hp:v<P)(h10:port=10)(hb:(iand .u32 (ishr .u32 b.C1 v) 1==0)=true):(Q5h b m port v).w (λr=>r.1={C7:=b.C7,C1:=ior .u32 b.C1 (ishl .u32 1 v)}∧Q0u P r.2∧ ∀k:Nat,byt r.2 k=if v*128≤k∧(k:Int)<v*128+128 then 0 else byt m k):=by
 have hv0:decide (0≤v)=true:=decide_eq_true hv.1
 have h2:=hm.p2
 have pg:Q25 m v=true:=by rw[Qhh hm hv];exact decide_eq_true hp
 obtain⟨v1,v2⟩:=hv
 subst h10
 unfold Q5h
 refine w_br (λ_=>w_lv λx0 hx=>w_br (λ_=>w_cn hv0 (w_br (λ_=>w_cn hv0 ?_) (λh=>by rw[hb]at h;cases h))) (λh=>by rw[hx,pg]at h;cases h)) (λh=>by cases h)
 refine w_lp (inv:=λz=>0≤z.1∧z.1≤32∧Q0u P z.2∧ ∀k:Nat,byt z.2 k=if v*128≤k∧(k:Int)<v*128+4*z.1 then 0 else byt m k) (μ:=Qew b m 10 v) ⟨show(0:Int)≤0 by decide,show(0:Int)≤32 by decide,hm,λk=>by rw[if_neg];show¬(_∧_<_+4*(0:Int));omega⟩ (Nat.lt_succ_self _) (λz hz=> ?_)
 obtain⟨z1,z2,z3,z4⟩:=hz
 have hl:=z3.len
 refine w_br (λh=> ?_) (λh=>⟨rfl,z3,λk=> ?_⟩)
 · have h:=of_decide_eq_true h
   have e:IntKind.wrap IntKind.i64 (IntKind.wrap IntKind.i64 (IntKind.wrap IntKind.i64 v*32)+z.1)=v*32+z.1:=by rw[IntKind.wrap_i64,IntKind.wrap_i64,IntKind.wrap_i64];omega
   refine w_cn (by rw[e];simp [Nat.blt];omega) (w_nx ?_)
   have ew:IntKind.i64.wrap (z.1+1)=z.1+1:=by rw[IntKind.wrap_i64];omega
   show(0≤IntKind.i64.wrap (z.1+1)∧IntKind.i64.wrap (z.1+1)≤32∧Q0u P (List.set _ _ _)∧ ∀k:Nat,byt (List.set z.2 (Int.toNat (IntKind.wrap IntKind.i64 (IntKind.wrap IntKind.i64 (IntKind.wrap IntKind.i64 v*32)+z.1))) 0) k=if v*128≤(k:Int)∧(k:Int)<v*128+4*IntKind.i64.wrap (z.1+1) then 0 else _)∧(32-IntKind.i64.wrap (z.1+1)).toNat<(32-z.1).toNat
   rw[ew,e]
   refine⟨⟨by omega,by omega,⟨by simp [hl],z3.p1,z3.p2,Qw2 z3.u U_0 _⟩,λk=> ?_⟩,by omega⟩
   rw[Z6j (by omega)]
   by_cases hc:k/4=(v*32+z.1).toNat
   · rw[if_pos hc,if_pos (by omega)]
     have:k%4=0∨k%4=1∨k%4=2∨k%4=3:=by omega
     rcases this with h|h|h|h<;>rw[h]<;>rfl
   · rw[if_neg hc,z4 k]
     by_cases hd:v*128≤(k:Int)∧(k:Int)<v*128+4*z.1
     · rw[if_pos hd,if_pos (by omega)]
     · rw[if_neg hd,if_neg (by omega)]
 · have h:=of_decide_eq_false h
   show byt z.2 k=_
   rw[z4 k,show z.1=32 by omega];rfl
theorem bitv{g v:Int}(hg:U g)(v0:0≤v)(v1:v<32):(iand .u32 g (ishl .u32 1 v)==0)=(iand .u32 (ishr .u32 g v) 1==0):=by
 obtain⟨z,rfl⟩: ∃z:Nat,v=z:=⟨v.toNat,by omega⟩
 obtain⟨n,rfl⟩: ∃n:Nat,g=n:=⟨g.toNat,by have:=hg.1;omega⟩
 have hz:z<32:=by omega
 have hlt:(2:Nat)^z<4294967296:=by have:=Nat.pow_lt_pow_right (show 1<2 by omega) hz;simpa using this
 rw[and1 (Qox hg _),Ql9 z (by omega),shl_one v0 v1,Int.toNat_natCast]
 have hc:((2:Int)^z)=((2^z:Nat):Int):=by simp
 generalize hq:2^z=q at*
 rw[hc,Z6f hg ⟨by omega,by omega⟩,Int.toNat_natCast,Int.toNat_natCast,←hq]
 have e1:(n&&&2^z)=0↔n/2^z%2=0:=by
   have t:n.testBit z=decide (n/2^z%2=1):=Nat.testBit_eq_decide_div_mod_eq
   constructor
   · intro h
     have h2:(n&&&2^z).testBit z=false:=by rw[h];exact Nat.zero_testBit z
     rw[Nat.testBit_and,Nat.testBit_two_pow_self,Bool.and_true,t]at h2
     have:=of_decide_eq_false h2
     omega
   · intro h
     have t0:n.testBit z=false:=by rw[t];exact decide_eq_false (by omega)
     apply Nat.eq_of_testBit_eq
     intro i
     rw[Nat.testBit_and,Nat.testBit_two_pow,Nat.zero_testBit]
     by_cases hi:z=i
     · subst hi;rw[t0];rfl
     · rw[decide_eq_false hi,Bool.and_false]
 rw[Bool.eq_iff_iff,beq_iff_eq,beq_iff_eq]
 constructor
 · intro h;have:=e1.1 (by omega);omega
 · intro h;have:=e1.2 (by omega);omega
theorem Z6h{P:Nat}{m:List Int}(h:Q0u P m){b:Q07}(hb:okB b)(port:Int){v:Int}(hv:U v):Q78 b m port v=Q7p b m port v:=by
  have hcl:Q02 m=m:=rfl
  have hp:=Q3o h
  have h2:=h.p2
  have ew:IntKind.i64.wrap v=v:=w64 (by have:=hv.1;omega) (by have:=hv.2;omega)
  have pe:=Qhh h hv
  by_cases h32:v<32
  · have bv :=bitv hb.2 hv.1 h32
    by_cases h10:port=10
    · by_cases hP:v<P
      · cases hz:iand .u32 (ishr .u32 b.C1 v) 1==0
        · simp only[Q78,Q2f,Q7p,Q5h,Tree.m,letv,hcl,hp,ew,pe,bv,hz,h10,decide_eq_true hP,decide_eq_false (show¬v≥32 by omega)]
          rfl
        · obtain⟨g1,g2,g3⟩:=(Tree.pp (give_b h hv hP h10 hz)).2
          change(Q7p b m port v).1=_ at g1
          change Q0u P (Q7p b m port v).2 at g2
          change∀k:Nat,byt (Q7p b m port v).2 k=_ at g3
          obtain⟨s1,s2,s3⟩:=(Tree.pp (Qso h hv.1 hP (s:=List.replicate 128 0) (by simp))).2
          have em:(Q2t m v (List.replicate 128 0)).1=(Q7p b m port v).2:=by
            refine Z5q (s2.len.trans g2.len.symm) s2.u g2.u λk=> ?_
            rw[g3 k]
            refine(s3 k).trans ?_
            by_cases hk:v*128≤(k:Int)∧(k:Int)<v*128+128
            · rw[if_pos hk,if_pos hk]
              have:(List.replicate 128 (0:UInt8)).getD ((k:Int)-v*128).toNat 0=0:=by
                rw[List.getD_eq_getElem?_getD,List.getElem?_replicate]
                split<;>rfl
              rw[this];rfl
            · rw[if_neg hk,if_neg hk]
          have el:Q78 b m port v=({C7:=b.C7,C1:=ior .u32 b.C1 (ishl .u32 1 v)},(Q2t m v (List.replicate 128 0)).1):=by
            simp only[Q78,Q2f,Tree.m,letv,hcl,hp,ew,bv,hz,h10,decide_eq_true hP,decide_eq_false (show¬v≥32 by omega),zeros]
            rfl
          rw[el,em,←g1]
      · simp only[Q78,Q2f,Q7p,Q5h,Tree.m,letv,hcl,hp,ew,pe,h10,decide_eq_false hP,decide_eq_false (show¬v≥32 by omega)]
        rfl
    · simp only[Q78,Q2f,Q7p,Q5h,Tree.m,letv,hcl,decide_eq_true h32,decide_eq_false (show¬v≥32 by omega),show(port==10)=false by simpa using h10]
      cases port==11<;>rfl
  · simp only[Q78,Q2f,Q7p,Q5h,Tree.m,letv,hcl,pe,decide_eq_false h32,decide_eq_true (show v≥32 by omega),decide_eq_false (show¬v<P by omega)]
    cases port==10<;>cases port==11<;>rfl
end Go.Proofs.YtpcbkbalabgnlaaGreat
namespace Go.Proofs.YtpcbkbalabgnlaaGreat
open Go Go.GD
set_option maxRecDepth 100000
structure okV(m:Q00):Prop where
 cpu:Q2s m.B2
 mem: ∀w∈m.Mem,U w
 disk:Q7y m.B0
 nic:Qft m.C5
 bal:okB m.A1
 cnt:0≤m.A4
theorem Qjl(m:List Int)(hm: ∀w∈m,U w):Q0o m=Q4f m∧(Q0o m=0∨ ∃P:Nat,1≤P∧Q0u P m):=by
 refine⟨rfl,?_⟩
 simp only[Q0o,Q9x,Tree.m]
 cases h1:Int.tmod (m.length:Int) 32 !=0
 · cases h2:decide ((m.length:Int)>1024)
   · have h1:Int.tmod (m.length:Int) 32=0:=by simpa using h1
     have h2:=of_decide_eq_false h2
     rw[Int.tmod_eq_emod_of_nonneg (by omega)]at h1
     by_cases h0:m.length=0
     · left;rw[h0];rfl
     · right;exact⟨m.length/32,by omega,⟨by omega,by omega,by omega,hm⟩⟩
   · left;rfl
 · left;rfl
theorem rcnd{a x:Bool}:(bif !a then false else x)=true↔a=true∧x=true:=by cases a<;>simp
theorem rmay_iff(m:Q00):Q7i m=true↔ ¬(Q4f m.Mem<1)∧Q6l m.B2∧Qj6 m.A2=true∧Q2g m.A7=true∧Qg m.B0 (Q4f m.Mem)=true∧Qi2 m.C5 (Q4f m.Mem)=true∧Qb0 m.A1 (Q4f m.Mem)=true∧m.A4≤1152921504606846976∧ ¬(m.A3=true∧m.A6=true):=by
 simp only[Q7i,Qy0,Tree.m,letv]
 rw[cnd2,cnd2,cnd2,cnd2,cnd2,cnd2,rcnd,rcnd,rcnd,rcnd,rcnd]
 simp only[decide_eq_false_iff_not,Int.not_lt,bne_eq_false_iff_eq,gt_iff_lt]
 have l:((bif decide (m.A4≤1152921504606846976) then(bif m.A3 then !m.A6 else true) else false)=true)↔m.A4≤1152921504606846976∧ ¬(m.A3=true∧m.A6=true):=by
   by_cases hc:m.A4≤1152921504606846976
   · rw[decide_eq_true hc]
     cases m.A3<;>cases m.A6<;>simp [hc]
   · rw[decide_eq_false hc];simp [hc]
 rw[l]
 constructor
 · rintro⟨a1,a2,a3,a4,a5,a6,a7⟩
   exact⟨by omega,⟨a2,a3,a4,a5,a6⟩,a7⟩
 · rintro⟨a1,⟨a2,a3,a4,a5,a6⟩,a7⟩
   exact⟨by omega,a2,a3,a4,a5,a6,a7⟩
theorem Qs0{m:Q00}(h:okV m):Q1c m=Q7i m:=by
 rw[Bool.eq_iff_iff,Qiv,rmay_iff,dev_eq]
 obtain⟨e,c⟩:=Qjl m.Mem h.mem
 simp only[Bool.and_eq_true,←e]
 rcases c with c|⟨P,hP,hm⟩
 · constructor
   · rintro⟨a,_⟩;exact absurd c a
   · rintro⟨a,_⟩;omega
 · rw[Q3o hm,Qv9,Z07,Z3f,Z6b h.bal.2 hm.p2]
   constructor
   · rintro⟨a1,a2,a3,a4,a5,a6,a7,a8,a9⟩;exact⟨by omega,a2,a5,a6,a7,a8,a9,a3,a4⟩
   · rintro⟨a1,a2,a5,a6,a7,a8,a9,a3,a4⟩;exact⟨by omega,a2,a3,a4,a5,a6,a7,a8,a9⟩
def Qzj(a b c d e:Bool):Int:=ior .u32 (ior .u32 (ior .u32 (ior .u32 (Q9u a 0) (Q9u b 1)) (Q9u c 2)) (Q9u d 3)) (Q9u e 4)
theorem mlines(m:Q00):Qbj m=Qzj (Qe2 m.A7) (Q8f m.A2) (Q85 m.B0) (Qi1 m.C5) (Q6y m.A1):=by
 unfold Qbj Q3g
 simp only[Tree.m,letv]
 generalize Qe2 m.A7=a
 generalize Q8f m.A2=b
 generalize Q85 m.B0=c
 generalize Qi1 m.C5=d
 generalize Q6y m.A1=e
 cases a<;>cases b<;>cases c<;>cases d<;>cases e<;>kernel_rfl
theorem Z9h(a b c d e:Bool):0≤Qzj a b c d e∧Qzj a b c d e<32:=by
 cases a<;>cases b<;>cases c<;>cases d<;>cases e<;>decide
theorem rlines(m:Q00):Qh6 m=Qzj (Qbz m.A7) (Q7g m.A2) (Qdi m.B0) (Qev m.C5) (Q5i m.A1):=rfl
section
variable {m:Q00} (h:okV m)
include h
theorem Z9f:Qbj m=Qh6 m:=by
 rw[mlines,rlines,con_same,Z2u h.bal];rfl
theorem Qq8:Q5c m=Q3l m:=by
 have e:=Z9f h
 simp only[Q5c,Q1p,Q3l,Q9m,Tree.m,letv,e]
theorem Z3e:Q60 m=Qfq m:=by
 have e:=Qq8 h
 simp only[Q60,Q2u,Qfq,Qlt,Tree.m,letv,e]
theorem Qn9:Q2n m=!Q1b m:=by
 have e1:=Qs0 h
 have e2:=Z3e h
 have e3:decide (m.A4≥1152921504606846976)=!decide (m.A4<1152921504606846976):=ge_not
 simp only[Q2n,Q39,Q1b,Qcx,Tree.m,letv,e1,e2,e3]
 cases Q7i m<;>cases m.A6<;>cases Qfq m<;>cases decide (m.A4<1152921504606846976)<;>rfl
theorem Qx2:0≤Q3l m∧Q3l m<32:=by
 have e:Q3l m=iand .u32 (Qh6 m) m.B2.B5.a7:=rfl
 have l:=Z9h (Qbz m.A7) (Q7g m.A2) (Qdi m.B0) (Qev m.C5) (Q5i m.A1)
 rw[←rlines]at l
 rw[e,Z6f ⟨l.1,by omega⟩ h.cpu.a7]
 have:=Nat.and_le_left (n:=(Qh6 m).toNat) (m:=m.B2.B5.a7.toNat)
 omega
def low(l:Int):Int:=if l%2=1 then 0 else if l/2%2=1 then 1 else if l/4%2=1 then 2 else if l/8%2=1 then 3 else 4
end
theorem cases32{l:Int}(h0:0≤l)(h1:l<32):l=0∨l=1∨l=2∨l=3∨l=4∨l=5∨l=6∨l=7∨l=8∨l=9∨l=10∨l=11∨l=12∨l=13∨l=14∨l=15∨l=16∨l=17∨l=18∨l=19∨l=20∨l=21∨l=22∨l=23∨l=24∨l=25∨l=26∨l=27∨l=28∨l=29∨l=30∨l=31:=by omega
def intr(m:Q00)(l:Int):Q03:=bif iand .u32 m.B2.B5.a0 2==0 then m.B2 else bif l==0 then m.B2 else Q35 m.B2 (IntKind.wrap .i64 (16+low l)) 0
theorem rintr{m:Q00}(h:okV m):Q0i m=intr m (Q3l m):=by
 obtain⟨l0,l1⟩:=Qx2 h
 unfold Q0i Q69
 simp only[Tree.m,letv]
 revert l0 l1
 generalize Q3l m=l
 intro l0 l1
 unfold intr
 cases iand .u32 m.B2.B5.a0 2==0
 · rcases cases32 l0 l1 with rfl|rfl|rfl|rfl|rfl|rfl|rfl|rfl|rfl|rfl|rfl|rfl|rfl|rfl|rfl|rfl|rfl|rfl|rfl|rfl|rfl|rfl|rfl|rfl|rfl|rfl|rfl|rfl|rfl|rfl|rfl|rfl<;>kernel_rfl
 · rfl
def beg(m:Q00)(c:Q03):Q00:={B2:=c,Mem:=m.Mem,A2:=m.A2,A7:=m.A7,B0:=m.B0,C5:=m.C5,A1:=m.A1,A4:=m.A4,A3:=false,A6:=m.A6}
theorem Qy6{m:Q00}(h:okV m)(hst:m.B2.B5.a0≤31):Q0p m=beg m (Q0i m):=by
 obtain⟨l0,l1⟩:=Qx2 h
 have tr: ∀k b,Q4h m.B2 k b=Q35 m.B2 k b:=Qjp h.cpu.a0.1 hst
 have e:Q5c (beg m m.B2)=Q3l m:=Qq8 (m:=beg m m.B2) ⟨h.cpu,h.mem,h.disk,h.nic,h.bal,h.cnt⟩
 rw[rintr h]
 unfold Q0p Q2a
 simp only[Tree.m,letv]
 rw[show Q5c {B2:=m.B2,Mem:=m.Mem,A2:=m.A2,A7:=m.A7,B0:=m.B0,C5:=m.C5,A1:=m.A1,A4:=m.A4,A3:=false,A6:=m.A6}=Q3l m from e]
 revert l0 l1
 generalize Q3l m=l
 intro l0 l1
 unfold intr
 simp only[←tr]
 cases iand .u32 m.B2.B5.a0 2==0
 · rcases cases32 l0 l1 with rfl|rfl|rfl|rfl|rfl|rfl|rfl|rfl|rfl|rfl|rfl|rfl|rfl|rfl|rfl|rfl|rfl|rfl|rfl|rfl|rfl|rfl|rfl|rfl|rfl|rfl|rfl|rfl|rfl|rfl|rfl|rfl<;>(show _=_;kernel_rfl)
 · rfl
end Go.Proofs.YtpcbkbalabgnlaaGreat
namespace Go.Proofs.YtpcbkbalabgnlaaGreat
open Go Go.GD
set_option maxRecDepth 100000
theorem ports{p:Int}:p=0∨p=1∨p=2∨p=3∨p=4∨p=5∨p=6∨p=7∨p=8∨p=9∨p=10∨p=11∨p<0∨12≤p:=by omega
theorem in_same{m:Q00}(hb:okB m.A1)(port clock:Int):Q1a m port clock=((Qg6 m port clock).2,(Qg6 m port clock).1):=by
 have e1:=Z93 m.A2
 have e2: ∀p,Qos m.B0 p=Qlx m.B0 p:=λ_=>rfl
 have e3:=Zb5 m.C5
 have e4:=Zb9 hb
 have e5:Qrz m.A7=Qjj m.A7:=rfl
 simp only[Q1a,Q24,Qg6,Qn,Tree.m,letv,e1,e2,e3,e4,e5]
 rcases ports (p:=port) with rfl|rfl|rfl|rfl|rfl|rfl|rfl|rfl|rfl|rfl|rfl|rfl|h|h
 all_goals first|rfl|skip
 · have n: ∀k:Int,0≤k→(port==k)=false:=λk hk=>beq_eq_false_iff_ne.2 (by omega)
   have c:Q7v m.A2 port=(m.A2,0):=by
     simp only[Q7v,Q7r,Tree.m,n 0 (by decide),n 1 (by decide),cond_false]
   simp only[n 0 (by decide),n 1 (by decide),n 2 (by decide),n 3 (by decide),n 4 (by decide),n 5 (by decide),n 6 (by decide),n 7 (by decide),n 8 (by decide),n 9 (by decide),n 10 (by decide),n 11 (by decide),cond_false,decide_eq_true (show port≤1 by omega),cond_true,c]
 · have n: ∀k:Int,k<12→(port==k)=false:=λk hk=>beq_eq_false_iff_ne.2 (by omega)
   have c:Q7t m.A1 port=0:=by
     simp only[Q7t,Q7n,Tree.m,n 10 (by decide),n 11 (by decide),cond_false]
   simp only[n 0 (by decide),n 1 (by decide),n 2 (by decide),n 3 (by decide),n 4 (by decide),n 5 (by decide),n 6 (by decide),n 7 (by decide),n 8 (by decide),n 9 (by decide),n 10 (by decide),n 11 (by decide),cond_false,decide_eq_false (show¬port≤1 by omega),decide_eq_false (show¬port≤6 by omega),decide_eq_false (show¬port≤9 by omega),c]
theorem out_same{P:Nat}{m:Q00}(hm:Q0u P m.Mem)(hb:okB m.A1)(port:Int){v:Int}(hv:U v):Q2d m port v m.A4=((Qdu m port v).2,(Qdu m port v).1):=by
 have e1:=Z3n hm m.B0
 have e2:=Z6r hm m.C5
 have e3:=Z6h hm hb port hv
 have e4:=arm_same m.A7 v
 simp only[Q2d,Q1v,Qdu,Qgm,Tree.m,letv,e1,e2,e3,e4]
 rcases ports (p:=port) with rfl|rfl|rfl|rfl|rfl|rfl|rfl|rfl|rfl|rfl|rfl|rfl|h|h
 all_goals first|rfl|skip
 · have n: ∀k:Int,0≤k→(port==k)=false:=λk hk=>beq_eq_false_iff_ne.2 (by omega)
   simp only[n 0 (by decide),n 1 (by decide),n 2 (by decide),n 3 (by decide),n 4 (by decide),n 5 (by decide),n 6 (by decide),n 7 (by decide),n 8 (by decide),n 9 (by decide),n 10 (by decide),n 11 (by decide),cond_false,decide_eq_true (show port≤2 by omega),cond_true]
 · have n: ∀k:Int,k<12→(port==k)=false:=λk hk=>beq_eq_false_iff_ne.2 (by omega)
   have c:Q7p m.A1 m.Mem port v=(m.A1,m.Mem):=by
     simp only[Q7p,Q5h,Tree.m,n 10 (by decide),n 11 (by decide),cond_false]
   simp only[n 0 (by decide),n 1 (by decide),n 2 (by decide),n 3 (by decide),n 4 (by decide),n 5 (by decide),n 6 (by decide),n 7 (by decide),n 8 (by decide),n 9 (by decide),n 10 (by decide),n 11 (by decide),cond_false,decide_eq_false (show¬port≤2 by omega),decide_eq_false (show¬port≤6 by omega),decide_eq_false (show¬port≤9 by omega),c]
def tick(n:Q00)(c:Q03)(w h:Bool):Q00:={B2:=c,Mem:=n.Mem,A2:=n.A2,A7:=n.A7,B0:=n.B0,C5:=n.C5,A1:=n.A1,A4:=IntKind.wrap .u64 (n.A4+1),A3:=w,A6:=h}
def withX(m:Q00)(c:Q03)(mem:List Int):Q00:={B2:=c,Mem:=mem,A2:=m.A2,A7:=m.A7,B0:=m.B0,C5:=m.C5,A1:=m.A1,A4:=m.A4,A3:=false,A6:=m.A6}
def finP(n:Q00)(e:Q13)(clock at0:Int):Q00×List Q0a:=
 bif e.C3==1 then
   (bif e.E0 !=0 then(tick (Q1a n e.C9 clock).1 {X:=A16.of 0 (List.set (A16.l (Q1a n e.C9 clock).1.B2.X) e.E0.toNat (Q1a n e.C9 clock).2),Pc:=(Q1a n e.C9 clock).1.B2.Pc,B5:=(Q1a n e.C9 clock).1.B2.B5} (Q1a n e.C9 clock).1.A3 (Q1a n e.C9 clock).1.A6,[])
   else(tick (Q1a n e.C9 clock).1 (Q1a n e.C9 clock).1.B2 (Q1a n e.C9 clock).1.A3 (Q1a n e.C9 clock).1.A6,[]))
 else bif e.C3==2 then(tick (Q2d n e.C9 e.Value at0).1 (Q2d n e.C9 e.Value at0).1.B2 (Q2d n e.C9 e.Value at0).1.A3 (Q2d n e.C9 e.Value at0).1.A6,(Q2d n e.C9 e.Value at0).2)
 else bif e.C3==3 then(tick n n.B2 true n.A6,[]) else bif e.C3==4 then(tick n n.B2 n.A3 true,[]) else(tick n n.B2 n.A3 n.A6,[])
def finR(n:Q00)(e:Q13)(clock:Int):List Q0a×Q00:=
 bif e.C3==1 then([],tick (Qg6 n e.C9 clock).2 (Q1t (Qg6 n e.C9 clock).2.B2 e.E0 (Qg6 n e.C9 clock).1) (Qg6 n e.C9 clock).2.A3 (Qg6 n e.C9 clock).2.A6)
 else bif e.C3==2 then((Qdu n e.C9 e.Value).1,tick (Qdu n e.C9 e.Value).2 (Qdu n e.C9 e.Value).2.B2 (Qdu n e.C9 e.Value).2.A3 (Qdu n e.C9 e.Value).2.A6)
 else bif e.C3==3 then([],tick n n.B2 true n.A6) else bif e.C3==4 then([],tick n n.B2 n.A3 true) else([],tick n n.B2 n.A3 n.A6)
theorem adv_eq(m:Q00)(clock:Int):Q0k m clock=finR (withX m (Qbx (Q0i m) m.Mem).1 (Qbx (Q0i m) m.Mem).2.2) (Qbx (Q0i m) m.Mem).2.1 clock:=by kernel_rfl
theorem Z8u(m:Q00)(clock:Int):Q36 m clock=bif !Q2n m then(m,[]) else finP {B2:=(Q74 (Q0p m).B2 (Q0p m).Mem).1,Mem:=(Q74 (Q0p m).B2 (Q0p m).Mem).2.1,A2:=(Q0p m).A2,A7:=(Q0p m).A7,B0:=(Q0p m).B0,C5:=(Q0p m).C5,A1:=(Q0p m).A1,A4:=(Q0p m).A4,A3:=(Q0p m).A3,A6:=(Q0p m).A6} (Q74 (Q0p m).B2 (Q0p m).Mem).2.2 clock m.A4:=by kernel_rfl
theorem copy_eq(m:List Int):Qu5 m=m:=by
 simp [Qu5,Qlo,Tree.m]
theorem own_eq(m:Q00):Z14 m=m:=by
 simp only[Z14,Qpl,Tree.m,letv,copy_eq]
def Z2p(m:Q00)(clock:Int):Q00×List Q0a:=bif Q1b m then(m,[]) else((Q0k m clock).2,(Q0k m clock).1)
theorem Qzh(m:Q00)(clock:Int):Z2p m clock=bif Q1b m then(m,[]) else((Q0k m clock).2,(Q0k m clock).1):=rfl
theorem fin_same{P:Nat}{n:Q00}(hm:Q0u P n.Mem)(hb:okB n.A1){e:Q13}(hr:0≤e.E0∧e.E0<16)(hv:U e.Value)(clock:Int):finP n e clock n.A4=((finR n e clock).2,(finR n e clock).1):=by
 unfold finP finR
 rw[in_same hb e.C9 clock,out_same hm hb e.C9 hv]
 cases e.C3==1
 · cases e.C3==2
   · cases e.C3==3
     · cases e.C3==4<;>rfl
     · rfl
   · rfl
 · generalize Qg6 n e.C9 clock=r
   have s:=Qrs r.2.B2 hr r.1
   show(bif e.E0 !=0 then _ else _)=(tick r.2 (Q1t r.2.B2 e.E0 r.1) r.2.A3 r.2.A6,[])
   rw[←s]
   simp only[Q9h,Q7q,Tree.m]
   cases e.E0 !=0<;>rfl
theorem Z3r{m:Q00}(h:okV m)(clock:Int):Q36 m clock=Z2p m clock:=by
 rw[Z8u,Qzh,Qn9 h]
 cases hs:Q1b m
 · have hr:Q2n m=true:=by rw[Qn9 h,hs];rfl
   obtain⟨hm,hh,hct⟩:=Qs3 hr
   obtain⟨g1,g2,g3,g4,g5⟩:=(Qiv m).1 hm
   rcases(Qjl m.Mem h.mem).2 with c|⟨P,hP,hmem⟩
   · exact absurd c g1
   have okm:okS P m:=⟨h.cpu,hmem,h.disk,h.nic,h.bal.1,h.bal.2⟩
   obtain⟨b1,b2,b3,_⟩:=(Tree.pp (Qui okm g2)).2
   change Q6l (Q0p m).B2 at b1
   change okS P (Q0p m) at b2
   change(Q0p m).Mem=m.Mem at b3
   have be:=Qy6 h g2.st
   have b1':Q6l (Q0i m):=by have:=b1;rw[be]at this;exact this
   have b2':Q2s (Q0i m):=by have:=b2.cpu;rw[be]at this;exact this
   have ex:=Z1p hmem b2' b1'.st
   have er:=(Tree.pp (Z8d b2' hmem)).2
   change 0≤(Q74 (Q0i m) m.Mem).2.2.E0∧(Q74 (Q0i m) m.Mem).2.2.E0<16 at er
   obtain⟨d1,d2,d3⟩:=(Tree.pp (do_w b2' hmem)).2
   change U (Qbx (Q0i m) m.Mem).2.1.Value at d2
   change Q0u P (Qbx (Q0i m) m.Mem).2.2 at d3
   rw[ex]at er
   rw[adv_eq,be]
   show finP {B2:=(Q74 (Q0i m) m.Mem).1,Mem:=(Q74 (Q0i m) m.Mem).2.1,A2:=m.A2,A7:=m.A7,B0:=m.B0,C5:=m.C5,A1:=m.A1,A4:=m.A4,A3:=false,A6:=m.A6} (Q74 (Q0i m) m.Mem).2.2 clock m.A4=_
   rw[ex]
   exact fin_same (n:=withX m (Qbx (Q0i m) m.Mem).1 (Qbx (Q0i m) m.Mem).2.2) d3 h.bal er d2 clock
 · rfl
end Go.Proofs.YtpcbkbalabgnlaaGreat
namespace Go.Proofs.YtpcbkbalabgnlaaGreat
open Go Go.GD
set_option maxRecDepth 100000
theorem Qwq{m:Q00}(h:okV m)(e:Q09):Q76 m e=Qh2 m e:=by
 have hcl:Q02 m.Mem=m.Mem:=rfl
 have mm:=Qs0 h
 have t1:Qgu m.A7=Qme m.A7:=rfl
 have t2: ∀b,Qj1 m.A2 b=Qn5 m.A2 b:=λ_=>rfl
 simp only[Q76,Q2r,Qh2,Qg1,Q1r,Q83,Tree.m,letv,own_eq,hcl,t1,t2]
 rw[show Q1c {B2:=m.B2,Mem:=m.Mem,A2:=m.A2,A7:=m.A7,B0:=m.B0,C5:=m.C5,A1:=m.A1,A4:=m.A4,A3:=m.A3,A6:=m.A6}=Q7i m from mm]
 cases hM:Q7i m
 · rfl
 have hM':Q1c m=true:=mm.trans hM
 rcases(Qjl m.Mem h.mem).2 with c|⟨P,hP,hmem⟩
 · exact absurd c ((Qiv m).1 hM').1
 have cs:=Qyl hmem h.disk e
 have rs:=Z25 hmem h.nic e.C8
 clear mm hM hM' hcl h
 obtain⟨c,mem,con,ti,d,n,b,ct,w,hl⟩:=m
 cases hl
 · by_cases k2:e.C3=2
   · rw[k2];cases e.N==0<;>cases decide (e.C8=[])<;>rfl
   by_cases k3:e.C3=3
   · rw[k3];cases decide (e.N≤255)<;>cases decide (e.C8=[])<;>rfl
   by_cases k4:e.C3=4
   · rw[k4,cs];rfl
   by_cases k5:e.C3=5
   · rw[k5,rs];cases e.N==0<;>rfl
   by_cases k6:e.C3=6
   · rw[k6];cases decide (e.C8=[])<;>rfl
   · rw[show(e.C3==2)=false by simpa using k2,show(e.C3==3)=false by simpa using k3,show(e.C3==4)=false by simpa using k4,show(e.C3==5)=false by simpa using k5,show(e.C3==6)=false by simpa using k6]
     rfl
 · rfl
end Go.Proofs.YtpcbkbalabgnlaaGreat
namespace Go.Proofs.YtpcbkbalabgnlaaGreat
open Go Go.GD
attribute [local irreducible] Q2y
set_option maxRecDepth 100000
section
variable {m:Q00} (h:okV m) (hl:m.Mem.length≤1024)
include h
theorem may_P(hm:Q1c m=true): ∃P,okS P m∧okM P m:=by
 rcases(Qjl m.Mem h.mem).2 with c|⟨P,hP,hmem⟩
 · exact absurd c ((Qiv m).1 hm).1
 · exact⟨P,⟨h.cpu,hmem,h.disk,h.nic,h.bal.1,h.bal.2⟩,⟨h.cpu,hmem,h.disk,h.nic,h.bal,h.cnt⟩⟩
include hl
theorem stepV_pre{clock:Int}(hk:U clock):Q2x m clock∧(Q36 m clock).2.length≤1∧(Q36 m clock).1.Mem.length≤1024:=by
 cases hr:Q2n m
 · have e:Q36 m clock=(m,[]):=by rw[Z8u,hr];rfl
   rw[e]
   refine⟨?_,Nat.zero_le _,hl⟩
   have hcl:Q02 m.Mem=m.Mem:=rfl
   show(Q2v m clock).p
   unfold Tree.p Q2v
   refine w_an (by show m.Mem.length≤35184372088832;omega) (w_lv λl hl=> ?_)
   rw[hcl]at hl;subst hl
   refine w_an (Tree.pp (Z66 (m:=⟨_,_,_,_,_,_,m.A1,_,_,_⟩) h.bal.2)).1 (w_lv λx1 hx1=>w_br (λ_=>trivial) (λhb=> ?_))
   have:x1=false:=hx1.trans hr
   rw[this]at hb;cases hb
 · obtain⟨P,s,_⟩:=may_P h (Qs3 hr).1
   have g:=Tree.pp (step_w0 s h.cnt hk)
   have ml:=g.2.2.ok.mem.len
   have mp:=g.2.2.ok.mem.p2
   exact⟨g.1,g.2.1,by show(Q2v m clock).m.1.Mem.length≤1024;omega⟩
omit h hl in
theorem mapply_w{P:Nat}(h:okM P m){e:Q09}(he:U e.N):(Q83 m e).w (λx=>okM P x.2):=by
 have k:=h
 obtain⟨h1,h2,h3,h4,h5,h7⟩:=h
 unfold Q83
 repeat'(first
   |exact k
   |exact⟨h1,h2,h3,h4,⟨he,h5.2⟩,h7⟩
   |exact w_lv λ_ _=>⟨h1,h2,h3,h4,h5,h7⟩
   |exact Q0c (type_w _ _) λ_ _=>⟨h1,h2,h3,h4,h5,h7⟩
   |exact Q0c (finish_w h2 h3 _) λx hx=>⟨h1,hx.2,hx.1,h4,h5,h7⟩
   |exact Q0c (accept_w h2 h4 _) λx hx=>⟨h1,hx.2,h3,hx.1,h5,h7⟩
   |refine w_br (λ_=> ?_) (λ_=> ?_))
theorem Z95{e:Q09}(he:U e.N):Q90 m e:=by
 cases hm:Q1c m
 · have hcl:Q02 m.Mem=m.Mem:=rfl
   show(Q2r m e).p
   unfold Tree.p Q2r
   refine w_an (by show m.Mem.length≤35184372088832;omega) (w_lv λl hl=> ?_)
   rw[hcl]at hl;subst hl
   refine w_an (Tree.pp (Z73 (m:=⟨_,_,_,_,_,_,m.A1,_,_,_⟩) h.bal.2)).1 (w_lv λx1 hx1=>w_br (λ_=>trivial) (λhb=> ?_))
   have:x1=false:=hx1.trans hm
   rw[this]at hb;cases hb
 · obtain⟨P,s,o⟩:=may_P h hm
   exact(Tree.pp (Z7i o he)).1
end
end Go.Proofs.YtpcbkbalabgnlaaGreat
namespace Go.Proofs.YtpcbkbalabgnlaaGreat
open Go Go.GD
attribute [local irreducible] Q2y
set_option maxRecDepth 100000
def Tree.V{β:Type}(t:Tree β)(W:β→Prop):Prop:=W t.m
section
variable {α β:Type} {W:β→Prop} {c:Bool} {t e:Tree β}
theorem v_lf{x:β}(h:W x):Tree.V (.lf x) W:=h
theorem v_br(h:c=true→Tree.V t W)(g:c=false→Tree.V e W):Tree.V (.br c t e) W:=by
 cases c
 · exact g rfl
 · exact h rfl
theorem v_cn(g:Tree.V t W):Tree.V (.cn c t) W:=g
theorem v_an{p:Prop}(g:Tree.V t W):Tree.V (.an p t) W:=g
theorem v_lv{x:α}{k:α→Tree β}(h: ∀y,y=x→Tree.V (k y) W):Tree.V (.lv x k) W:=h x rfl
end
def withM(r:Q01)(m:Q00):Q01:={A0:=m,B4:=r.B4,D1:=r.D1,B3:=r.B3}
def Qan(r:Q01)(e:Q09):Q01:=
 bif(Q1r r.A0 e).1 then{A0:=(Q1r r.A0 e).2,B4:=r.B4,D1:=r.D1++[{At:=(Q1r r.A0 e).2.A4,D8:=e}],B3:=r.B3} else withM r (Q1r r.A0 e).2
def Q5f(r:Q01):Q01:=bif Qa4 r.A0.A7 r.B4 then Qan r {C3:=2,N:=0,C8:=[]} else r
def readF(r:Q01):Q01:=bif Q4 r.A0 then{A0:=r.A0,B4:=r.B4,D1:=r.D1++[{At:=r.A0.A4,D8:={C3:=1,N:=r.B4,C8:=[]}}],B3:=r.B3} else r
def Qs8(r:Q01):Q01:={A0:=(Q0k r.A0 r.B4).2,B4:=IntKind.wrap .u32 (r.B4+1),D1:=(readF r).D1,B3:=r.B3}
def recF:Nat→Q01→List Q0a→Q01×List Q0a
 |0,r,o=>(r,o)
 |n+1,r,o=>bif Q1b (Q5f r).A0 then(Q5f r,o) else recF n (Qs8 (Q5f r)) (o++(Q0k (Q5f r).A0 (Q5f r).B4).1)
def noQ(r:Q01):Q01:={A0:=r.A0,B4:=r.B4,D1:=r.D1,B3:=[]}
def advF(r:Q01)(steps clock:Int):Q01×List Q0a:=
 bif !Q7i r.A0 then(r,[]) else recF (Q18 steps).toNat (noQ (r.B3.foldl Qan {A0:=r.A0,B4:=if clock>r.B4 then clock else r.B4,D1:=r.D1,B3:=r.B3})) []
theorem Z2y(r:Q01)(e:Q09):(Qan r e).B3=r.B3:=by
 unfold Qan;cases(Q1r r.A0 e).1<;>rfl
end Go.Proofs.YtpcbkbalabgnlaaGreat
namespace Go.Proofs.YtpcbkbalabgnlaaGreat
open Go Go.GD
attribute [local irreducible] Q2y
set_option maxRecDepth 100000
structure good(P:Nat)(m:Q00):Prop where
 ok:okM P m
 may:Q1c m=true
section
variable {P:Nat} {m:Q00} (h:good P m)
include h
theorem good.v:okV m:=⟨h.ok.cpu,h.ok.mem.u,h.ok.disk,h.ok.nic,h.ok.target,h.ok.cnt⟩
theorem good.s:okS P m:=⟨h.ok.cpu,h.ok.mem,h.ok.disk,h.ok.nic,h.ok.target.1,h.ok.target.2⟩
theorem good.rmay:Q7i m=true:=(Qs0 h.v).symm.trans h.may
theorem app_keep{e:Q09}(he:U e.N):good P (Q1r m e).2∧(Q1r m e).2.A4=m.A4:=by
 have o:okM P (Q1r m e).2:=Tree.post _ (mapply_w h.ok he)
 have a:=(Tree.pp (Z7i h.ok he)).2
 change(Q1c m=true→Q1c (Q76 m e).1=true)∧(Q76 m e).1.A4=m.A4∧_ at a
 have e1:Qh2 m e=((Q1r m e).2,(Q1r m e).1):=by
   simp only[Qh2,Qg1,Tree.m,letv,own_eq,h.rmay];rfl
 rw[Qwq h.v e,e1]at a
 exact⟨⟨o,a.1 h.may⟩,a.2.1⟩
theorem stuck_iff:Q1b m=false↔m.A6=false∧Qfq m=false∧m.A4<1152921504606846976:=by
 simp only[Q1b,Qcx,Tree.m,letv,h.rmay]
 cases m.A6<;>cases Qfq m<;>simp
theorem Qze(hs:Q1b m=false){clock:Int}(hc:U clock):good P (Q0k m clock).2∧(Q0k m clock).2.A4=m.A4+1∧(Q0k m clock).1.length≤1:=by
 have o:=Tree.post _ (Z9v h.ok hc)
 change(Q0k m clock).1.length≤1∧okM P (Q0k m clock).2∧(Q0k m clock).2.A4=IntKind.wrap .u64 (m.A4+1) at o
 have s:=(Tree.pp (step_w0 h.s h.ok.cnt hc)).2
 change _∧Good P m (Q36 m clock).1 at s
 have e:Q36 m clock=((Q0k m clock).2,(Q0k m clock).1):=by rw[Z3r h.v,Qzh,hs];rfl
 rw[e]at s
 have hct:=((stuck_iff h).1 hs).2.2
 have h0:=h.ok.cnt
 refine⟨⟨o.2.1,s.2.may h.may⟩,?_,o.1⟩
 rw[o.2.2,IntKind.wrap_u64];omega
end
structure Qix(P:Nat)(k:Int)(r:Q01):Prop where
 m:good P r.A0
 clock:U r.B4
 cnt:r.A0.A4≤k
theorem Qtp{P:Nat}{k:Int}{r:Q01}(h:Qix P k r){e:Q09}(he:U e.N):Qix P k (Qan r e)∧(Qan r e).A0.A4=r.A0.A4:=by
 obtain⟨a,b⟩:=app_keep h.m he
 have hc:=h.cnt
 unfold Qan
 cases(Q1r r.A0 e).1
 · exact⟨⟨a,h.clock,by show(Q1r r.A0 e).2.A4≤k;omega⟩,b⟩
 · exact⟨⟨a,h.clock,by show(Q1r r.A0 e).2.A4≤k;omega⟩,b⟩
theorem Zb6{P:Nat}{k:Int}{r:Q01}(h:Qix P k r):Qix P k (Q5f r)∧(Q5f r).A0.A4=r.A0.A4:=by
 unfold Q5f
 cases Qa4 r.A0.A7 r.B4
 · exact⟨h,rfl⟩
 · exact Qtp h U_0
theorem Z9e{P:Nat}{k:Int}{r:Q01}(h:Qix P k r)(hs:Q1b r.A0=false):Qix P (k+1) (Qs8 r):=by
 obtain⟨a,b,_⟩:=Qze h.m hs h.clock
 have hc:=h.cnt
 exact⟨a,Q0j _,by show(Q0k r.A0 r.B4).2.A4≤k+1;omega⟩
def okQ(l:List Q09):Prop:=l.length≤16∧ ∀q∈l,U q.N
end Go.Proofs.YtpcbkbalabgnlaaGreat
namespace Go.Proofs.YtpcbkbalabgnlaaGreat
open Go Go.GD
attribute [local irreducible] Q2y
set_option maxRecDepth 100000
end Go.Proofs.YtpcbkbalabgnlaaGreat
namespace Go.Proofs.YtpcbkbalabgnlaaGreat
open Go Go.GD
set_option maxRecDepth 100000
set_option synthInstance.maxHeartbeats 2000000
set_option synthInstance.maxSize 100000
noncomputable section
instance Qr1 (s:(List Int)):Ck (Q04 s):=let d:Decidable (Q04 s):=(by delta Q04;infer_instance);⟨@decide _ d,@of_decide_eq_true _ d⟩
instance Zbq (m:(List Int)) (addr:Int) (size:Int):Ck (Q58 m addr size):=ckT (t:=Q2q m addr size) (by delta Q2q;infer_instance)
instance bits_mask_ck (n:Int):Ck (Q8z n):=ckT (t:=Q8p n) (by delta Q8p;infer_instance)
instance bits_Field_ck (w:Int) (low:Int) (n:Int):Ck (Q3a w low n):=ckT (t:=Q71 w low n) (by delta Q71;infer_instance)
instance Zbx (w:Int) (low:Int) (n:Int) (v:Int):Ck (Q6q w low n v):=ckT (t:=Q43 w low n v) (by delta Q43;infer_instance)
instance memory_Store_ck (m:(List Int)) (addr:Int) (size:Int) (v:Int):Ck (Q4m m addr size v):=ckT (t:=Q3v m addr size v) (by delta Q3v;infer_instance)
instance Z7d (x:Int) (n:Int):Ck (Q3p x n):=ckT (t:=Q33 x n) (by delta Q33;infer_instance)
instance isa_Decode_ck (w:Int):Ck (Q9v w):=ckT (t:=Q62 w) (by delta Q62;infer_instance)
instance bits_Divide_ck (a:Int) (b:Int):Ck (Q6v a b):=ckT (t:=Q51 a b) (by delta Q51;infer_instance)
instance cpu_Alu_ck (op:Int) (a:Int) (b:Int):Ck (Qbw op a b):=ckT (t:=Qdd op a b) (by delta Qdd;infer_instance)
instance memory_Load_ck (m:(List Int)) (addr:Int) (size:Int):Ck (Q28 m addr size):=ckT (t:=Q4z m addr size) (by delta Q4z;infer_instance)
instance Za9 (pte:Int):Ck (Q4e pte):=ckT (t:=Q3m pte) (by delta Q3m;infer_instance)
instance paging_Walk_ck (m:(List Int)) (root:Int) (va:Int) (access:Int):Ck (Q6x m root va access):=ckT (t:=Q4y m root va access) (by delta Q4y;infer_instance)
instance paging_Touch_ck (m:(List Int)) (entry:Int) (access:Int):Ck (Q5v m entry access):=ckT (t:=Q3w m entry access) (by delta Q3w;infer_instance)
instance cpu_Resolve_ck (c:Q03) (m:(List Int)) (va:Int) (size:Int) (access:Int):Ck (Q5d c m va size access):=ckT (t:=Q50 c m va size access) (by delta Q50;infer_instance)
instance cpu_Fetch_ck (c:Q03) (m:(List Int)):Ck (Qb1 c m):=ckT (t:=Q8q c m) (by delta Q8q;infer_instance)
instance cpu_set_ck (c:Q03) (register:Int) (v:Int):Ck (Q4o c register v):=ckT (t:=Q7q c register v) (by delta Q7q;infer_instance)
instance cpu_load_ck (c:Q03) (m:(List Int)) (i:Q0h):Ck (Qcy c m i):=ckT (t:=Q7s c m i) (by delta Q7s;infer_instance)
instance cpu_store_ck (c:Q03) (m:(List Int)) (i:Q0h):Ck (Qbe c m i):=ckT (t:=Q6g c m i) (by delta Q6g;infer_instance)
instance cpu_Write_ck (c:Q03) (csr:Int) (v:Int):Ck (Qbc c csr v):=ckT (t:=Q6h c csr v) (by delta Q6h;infer_instance)
instance cpu_execute_ck (c:Q03) (i:Q0h):Ck (Q8o c i):=ckT (t:=Q2z c i) (by delta Q2z;infer_instance)
instance cpu_Exec_ck (c:Q03) (m:(List Int)):Ck (Qap c m):=ckT (t:=Q5z c m) (by delta Q5z;infer_instance)
instance Z8q (x:Int):Ck (Q5q x):=ckT (t:=Q1q x) (by delta Q1q;infer_instance)
instance balloon_May_ck (b:Q07) (pages:Int):Ck (Q8k b pages):=ckT (t:=Q3y b pages) (by delta Q3y;infer_instance)
instance Z2l (m:Q00):Ck (Q2p m):=ckT (t:=Q1n m) (by delta Q1n;infer_instance)
instance machine_May_ck (m:Q00):Ck (Q5l m):=ckT (t:=Q61 m) (by delta Q61;infer_instance)
instance Qx4 (x:Int):Ck (Q2w x):=ckT (t:=Q1j x) (by delta Q1j;infer_instance)
instance Zbj (b:Q07):Ck (Q59 b):=ckT (t:=Q40 b) (by delta Q40;infer_instance)
instance Z90 (b:Q07):Ck (Q5p b):=ckT (t:=Q2h b) (by delta Q2h;infer_instance)
instance Zbn (m:Q00):Ck (Q7 m):=ckT (t:=Q3g m) (by delta Q3g;infer_instance)
instance Z8j (m:Q00):Ck (Q3s m):=ckT (t:=Q1p m) (by delta Q1p;infer_instance)
instance machine_Idle_ck (m:Q00):Ck (Q3 m):=ckT (t:=Q2u m) (by delta Q2u;infer_instance)
instance machine_runs_ck (m:Q00):Ck (Q5w m):=ckT (t:=Q39 m) (by delta Q39;infer_instance)
instance Zbp (m:Q00):Ck (Q5b m):=ckT (t:=Q2a m) (by delta Q2a;infer_instance)
instance balloon_In_ck (b:Q07) (port:Int):Ck (Q9l b port):=ckT (t:=Q6a b port) (by delta Q6a;infer_instance)
instance Z4v (m:Q00) (port:Int) (clock:Int):Ck (Q4r m port clock):=ckT (t:=Q24 m port clock) (by delta Q24;infer_instance)
instance memory_text_ck (words:(List Int)):Ck (Q3j words):=let d:Decidable (Q3j words):=(by delta Q3j;infer_instance);⟨@decide _ d,@of_decide_eq_true _ d⟩
instance memory_Page_ck (m:(List Int)) (frame:Int):Ck (Q5r m frame):=ckT (t:=Q3b m frame) (by delta Q3b;infer_instance)
instance disk_issue_ck (d0:Q0b) (m:(List Int)) (cmd:Int) (at0:Int):Ck (Q9s d0 m cmd at0):=ckT (t:=Q6c d0 m cmd at0) (by delta Q6c;infer_instance)
instance disk_Out_ck (d0:Q0b) (m:(List Int)) (port:Int) (v:Int) (at0:Int):Ck (Qdb d0 m port v at0):=ckT (t:=Q8t d0 m port v at0) (by delta Q8t;infer_instance)
instance nic_send_ck (n:Q0m) (m:(List Int)) (at0:Int):Ck (Qdc n m at0):=ckT (t:=Q94 n m at0) (by delta Q94;infer_instance)
instance nic_Out_ck (n:Q0m) (m:(List Int)) (port:Int) (v:Int) (at0:Int):Ck (Qey n m port v at0):=ckT (t:=Qay n m port v at0) (by delta Qay;infer_instance)
instance Zb3 (m:(List Int)) (frame:Int) (s:(List UInt8)):Ck (Q3e m frame s):=ckT (t:=Q1z m frame s) (by delta Q1z;infer_instance)
instance Z96 (s:(List UInt8)) (count:Int):Ck (Q2o s count):=let d:Decidable (Q2o s count):=(by delta Q2o;infer_instance);⟨@decide _ d,@of_decide_eq_true _ d⟩
instance balloon_Out_ck (b:Q07) (m:(List Int)) (port:Int) (v:Int):Ck (Q86 b m port v):=ckT (t:=Q2f b m port v) (by delta Q2f;infer_instance)
instance Z4s (m:Q00) (port:Int) (v:Int) (at0:Int):Ck (Q47 m port v at0):=ckT (t:=Q1v m port v at0) (by delta Q1v;infer_instance)
instance machine_Step_ck (m:Q00) (clock:Int):Ck (Q2x m clock):=ckT (t:=Q2v m clock) (by delta Q2v;infer_instance)
instance make_Round_ck (n:Int) (k:Int):Ck (Q52 n k):=ckT (t:=Qd5 n k) (by delta Qd5;infer_instance)
instance make_Inst_ck (n:Int):Ck (Qds n):=ckT (t:=Qf5 n) (by delta Qf5;infer_instance)
instance make_Code_ck (l:(List Int)):Ck (Qha l):=ckT (t:=Qi3 l) (by delta Qi3;infer_instance)
instance ref1_New_ck (pages:Int):Ck (Qda pages):=ckT (t:=Qef pages) (by delta Qef;infer_instance)
instance ref7_New_ck (pages:Int) (blocks:Int) (image:(List Int)):Ck (Qaq pages blocks image):=ckT (t:=Qeb pages blocks image) (by delta Qeb;infer_instance)
instance Z9c (a:(List Int)) (b:(List Int)):Ck (Q4g a b):=let d:Decidable (Q4g a b):=(by delta Q4g;infer_instance);⟨@decide _ d,@of_decide_eq_true _ d⟩
instance ref7_Same_ck (a:Q00) (b:Q00):Ck (Qi5 a b):=ckT (t:=Qhk a b) (by delta Qhk;infer_instance)
instance Z36 (m:Q00):Ck (Q22 m):=ckT (t:=Q2 m) (by delta Q2;infer_instance)
instance console_Type_ck (c:Q0d) (b:Int):Ck (Qdf c b):=ckT (t:=Q6i c b) (by delta Q6i;infer_instance)
instance Zbv (d0:Q0b) (m:(List Int)) (e:Q09):Ck (Qc d0 m e):=ckT (t:=Q4a d0 m e) (by delta Q4a;infer_instance)
instance nic_Receive_ck (n:Q0m) (m:(List Int)) (frame:(List UInt8)):Ck (Qej n m frame):=ckT (t:=Q6f n m frame) (by delta Q6f;infer_instance)
instance Zbr (m:Q00) (e:Q09):Ck (Q90 m e):=ckT (t:=Q2r m e) (by delta Q2r;infer_instance)
instance Qlv (s:(List Q1h)):Ck (Q0q s):=let d:Decidable (Q0q s):=(by delta Q0q;infer_instance);⟨@decide _ d,@of_decide_eq_true _ d⟩
instance Qli (s:(List Q09)):Ck (Q0r s):=let d:Decidable (Q0r s):=(by delta Q0r;infer_instance);⟨@decide _ d,@of_decide_eq_true _ d⟩
instance Zbm (r:Q01):Ck (Q3u r):=ckT (t:=Q5j r) (by delta Q5j;infer_instance)
instance record_New_ck (m:Q00):Ck (Qcl m):=ckT (t:=Q89 m) (by delta Q89;infer_instance)
instance Zbk (r:Q01) (e:Q09):Ck (Q96 r e):=ckT (t:=Q88 r e) (by delta Q88;infer_instance)
instance record_Cut_ck (r:Q01):Ck (Qgd r):=ckT (t:=Qd6 r) (by delta Qd6;infer_instance)
instance Z5e (e:Q09) (fr0:Q01):Ck (Q6p e fr0):=ckT (t:=Q3i e fr0) (by delta Q3i;infer_instance)
instance Z4u (e:Q09) (fr0:Q01):Ck (Q8h e fr0):=ckT (t:=Q31 e fr0) (by delta Q31;infer_instance)
instance Z56 (e:Q09) (fr0:Q01):Ck (Q6n e fr0):=ckT (t:=Q3h e fr0) (by delta Q3h;infer_instance)
instance Z9g (r:Q01) (steps:Int) (clock:Int):Ck (Q81 r steps clock):=ckT (t:=Q4i r steps clock) (by delta Q4i;infer_instance)
theorem awake_pre:Q46:=ck (ckT (t:=Qb3) (by delta Qb3;infer_instance)) (by kernel_rfl)
theorem Za1:Q8m=true:=by kernel_rfl
end
end Go.Proofs.YtpcbkbalabgnlaaGreat
namespace Go.Proofs.YtpcbkbalabgnlaaGreat
open Go Go.GD
attribute [local irreducible] Q2y
set_option maxRecDepth 100000
theorem Zab(w:Int):IntKind.wrap .i64 (Q1w w).1.Imm=(Q1w w).1.Imm:=by
 show Tree.V (Q7b w) (λr=>IntKind.wrap .i64 r.1.Imm=r.1.Imm)
 have e: ∀x,IntKind.wrap .i64 (IntKind.wrap .i32 x)=IntKind.wrap .i32 x:=λx=>by rw[IntKind.wrap_i64,IntKind.wrap_i32];omega
 unfold Q7b
 refine v_lv λx0 _=> ?_
 have l: ∀i:Q0h,IntKind.wrap .i64 i.Imm=i.Imm→Tree.V (Tree.lv (Q6u i) λx=> .br (!x) (.lf ((⟨0,0,0,0,0⟩:Q0h),false)) (.lf (i,true))) (λr=>IntKind.wrap .i64 r.1.Imm=r.1.Imm):=λi hi=>v_lv λx hx=>v_br (λ_=>v_lf rfl) (λhb=>v_lf hi)
 exact v_br (λ_=>v_lf rfl) (λ_=>v_br (λ_=>l _ rfl) (λ_=>v_br (λ_=>l _ (e _)) (λ_=>v_br (λ_=>l _ (e _)) (λ_=>l _ (e _)))))
def ioP(e:Q13):Bool:=bif e.C3==1 then e.C9==2 else false
def readsC(c:Q03)(m:List Int):Bool:=
 bif iand .u32 c.B5.a0 1==0 then false else bif(Q15 m c.Pc 4).2 then bif(Q1w (Q15 m c.Pc 4).1).2 then bif(Q1w (Q15 m c.Pc 4).1).1.Op==60 then(Q1w (Q15 m c.Pc 4).1).1.Imm==2 else false else false else false
theorem reads_def(m:Q00):Qgq m=readsC (Q0i m) m.Mem:=rfl
theorem sys_io(c:Q03)(i:Q0h):ioP (Qhm c i).2=(bif i.Op==60 then IntKind.wrap .i64 i.Imm==2 else false):=by
 show Tree.V (Q8s c i) (λr=>ioP r.2=_)
 have no: ∀{k:Int},i.Op=k→k≠60→ ∀e:Q13,e.C3≠1→ioP e=(bif i.Op==60 then IntKind.wrap .i64 i.Imm==2 else false):=λh g e he=>by
   unfold ioP
   rw[h,show(_==(60:Int))=false from beq_false_of_ne g,show(e.C3==1)=false from beq_false_of_ne he];rfl
 have eq: ∀{k:Int},(i.Op==k)=true→i.Op=k:=λh=>eq_of_beq h
 unfold Q8s
 refine v_br (λh=>v_lv λ_ _=>v_lf (no (eq h) (by decide) _ (show(0:Int)≠1 by decide))) λ_=>v_br (λh=>v_lv λ_ _=>v_lf (no (eq h) (by decide) _ (show(0:Int)≠1 by decide))) λ_=>v_br (λh=>v_cn (v_an (v_lv λ_ _=>v_lf (no (eq h) (by decide) _ (show(0:Int)≠1 by decide))))) λ_=>v_br (λh=>v_cn (v_an (v_lv λ_ _=>v_lf (no (eq h) (by decide) _ (show(0:Int)≠1 by decide))))) λ_=>v_br (λh=>v_lf ?_) λh60=> ?_
 · show(bif(1:Int)==1 then IntKind.wrap .i64 i.Imm==2 else false)=_
   rw[h];rfl
 · have n60:i.Op≠60:=λe=>by rw[e]at h60;cases h60
   refine v_br (λh=>v_cn (v_lf (no (eq h) (by decide) _ (by show(2:Int)≠1;decide)))) λ_=>v_br (λh=>v_lf (no (eq h) (by decide) _ (show(3:Int)≠1 by decide))) λ_=>v_br (λh=>v_lf (no (eq h) (by decide) _ (show(5:Int)≠1 by decide))) λ_=>v_br (λh=>v_lf (no (eq h) (by decide) _ (show(4:Int)≠1 by decide))) λ_=>v_lf (no rfl n60 _ (show(0:Int)≠1 by decide))
theorem post_io(c:Q03)(m:List Int)(i:Q0h):ioP (Qfs c m i).2.1=(bif i.Op==60 then IntKind.wrap .i64 i.Imm==2 else false):=by
 unfold Qfs
 cases h:decide (i.Op≥56)
 · have h:=of_decide_eq_false h
   rw[show(i.Op==60)=false from beq_false_of_ne (by omega)]
   cases decide (i.Op≥40)<;>cases decide (i.Op≥32)<;>cases i.Op==24<;>cases decide (i.Op≤13)<;>rfl
 · exact sys_io c i
theorem do_reads{P:Nat}{m:List Int}(h:Q0u P m){c:Q03}(hc:Q2s c)(hst:c.B5.a0≤31):ioP (Qbx c m).2.1=readsC c m:=by
  rw[do_eq]
  unfold readsC
  cases hk:iand .u32 c.B5.a0 1==0
  · have hp:Qk7 c=false:=by
      rw[Qxd hc.a0.1 hst,show Q8y c=true from by show(iand .u32 c.B5.a0 1 !=0)=true;rw[bne,hk];rfl]
      rfl
    have wi:=Qe9 h hc.pc (size:=4) (.inr rfl)
    have kn:Qec 1=true:=rfl
    have p0:=hc.pc.1
    have tm:Int.tmod c.Pc (IntKind.wrap .u32 4)=c.Pc%4:=by
      rw[show IntKind.wrap .u32 4=4 from rfl,Int.tmod_eq_emod_of_nonneg p0]
    have rc:Q0w c m c.Pc 4 1=bif c.Pc%4 !=0 then(0,3,m) else bif !Q23 m c.Pc 4 then(0,Q20 1,m) else(c.Pc,0,m):=by
      simp only[Q0w,Q84,Tree.m,letv,kn,hp,tm]
      rfl
    rw[rc]
    cases h4:(c.Pc%4 !=0)
    · cases hw:Q23 m c.Pc 4
      · have l2:(Q15 m c.Pc 4).2=false:=by
          simp only[Q15,Q4l,Tree.m,letv,hw];rfl
        rw[l2]
        show ioP (doR c (0,Q20 1,m) _ _).2.1=false
        unfold doR
        rw[show((0,Q20 1,m):Int×Int×List Int).2.1=Q20 1 from rfl,show(Q20 1 !=0)=true by decide]
        rfl
      · have l2:(Q15 m c.Pc 4).2=true:=by
          simp only[Q15,Q4l,Tree.m,letv,hw];rfl
        rw[l2]
        show ioP (doR c (c.Pc,0,m) (Q15 m c.Pc 4).1 (Q1w (Q15 m c.Pc 4).1)).2.1=_
        have im:=Zab (Q15 m c.Pc 4).1
        generalize Q15 m c.Pc 4=x at*
        generalize Q1w x.1=d at*
        unfold doR
        cases d.2
        · rfl
        · rw[hk]
          have:=post_io c m d.1
          rw[im]at this
          cases Q49 d.1.Op<;>exact this
    · have hw:Q23 m c.Pc 4=false:=by
        rw[wi]
        refine decide_eq_false λe=> ?_
        rw[e.1]at h4;cases h4
      have l2:(Q15 m c.Pc 4).2=false:=by
        simp only[Q15,Q4l,Tree.m,letv,hw];rfl
      rw[l2];rfl
  · have us : ∀x w d,ioP (doR c x w d).2.1=false:=λx w d=>by
      unfold doR
      cases x.2.1 !=0
      · cases d.2
        · rfl
        · cases hp:Q49 d.1.Op
          · have:=post_io c x.2.2 d.1
            rw[show(d.1.Op==60)=false from beq_false_of_ne λe=>by rw[e]at hp;cases hp]at this
            exact this
          · rw[hk];rfl
      · rfl
    exact us _ _ _
theorem Zb4{m:Q00}(h:okV m):Q68 m=Q4 m:=by
 have rd:Q4 m=bif Q1b m then false else Qgq m:=rfl
 have pd:Q68 m=bif !Q2n m then false else ioP (Q74 (Q0p m).B2 (Q0p m).Mem).2.2:=rfl
 rw[rd,pd,Qn9 h]
 cases hs:Q1b m
 · have hr:Q2n m=true:=by rw[Qn9 h,hs];rfl
   obtain⟨hm,hh,hct⟩:=Qs3 hr
   obtain⟨g1,g2,g3,g4,g5⟩:=(Qiv m).1 hm
   rcases(Qjl m.Mem h.mem).2 with c|⟨P,hP,hmem⟩
   · exact absurd c g1
   have okm:okS P m:=⟨h.cpu,hmem,h.disk,h.nic,h.bal.1,h.bal.2⟩
   obtain⟨b1,b2,b3,_⟩:=(Tree.pp (Qui okm g2)).2
   change Q6l (Q0p m).B2 at b1
   change okS P (Q0p m) at b2
   have be:=Qy6 h g2.st
   have b1':Q6l (Q0i m):=by have:=b1;rw[be]at this;exact this
   have b2':Q2s (Q0i m):=by have:=b2.cpu;rw[be]at this;exact this
   have ex:=Z1p hmem b2' b1'.st
   rw[be,reads_def,←do_reads hmem b2' b1'.st]
   show ioP (Q74 (Q0i m) m.Mem).2.2=_
   rw[ex];rfl
 · rfl
theorem fin_no(d:Q0b)(m:List Int)(e:Q09):(Qah d m e).2.1=false→Qah d m e=(d,false,m):=by
 show Tree.V (Q79 d m e) (λr=>r.2.1=false→r=(d,false,m))
 have no: ∀{p:Prop},true=false→p:=λh=>by cases h
 unfold Q79
 repeat'(first
   |exact v_lf λ_=>rfl
   |exact v_lf no
   |exact v_an (v_lv λ_ _=>v_lf no)
   |refine v_lv λ_ _=> ?_
   |refine v_an ?_
   |refine v_br (λ_=> ?_) (λ_=> ?_))
theorem acc_no(n:Q0m)(m:List Int)(s:List UInt8):(Qaj n m s).2.1=false→Qaj n m s=(n,false,m):=by
 show Tree.V (Q7h n m s) (λr=>r.2.1=false→r=(n,false,m))
 have no: ∀{p:Prop},true=false→p:=λh=>by cases h
 unfold Q7h
 repeat'(first
   |exact v_lf λ_=>rfl
   |exact v_an (v_lv λ_ _=>v_lf no)
   |refine v_lv λ_ _=> ?_
   |refine v_br (λ_=> ?_) (λ_=> ?_))
theorem fire_no(t:Q0g):(Qme t).2=false→(Qme t).1=t:=by
 show Tree.V (Qm3 t) (λr=>r.2=false→r.1=t)
 have no: ∀{p:Prop},true=false→p:=λh=>by cases h
 unfold Qm3
 repeat'(first
   |exact v_lf λ_=>rfl
   |exact v_lf no
   |refine v_br (λ_=> ?_) (λ_=> ?_))
theorem type_no(c:Q0d)(b:Int):(Qn5 c b).2=false→(Qn5 c b).1=c:=by
 show Tree.V (Qc3 c b) (λr=>r.2=false→r.1=c)
 have no: ∀{p:Prop},true=false→p:=λh=>by cases h
 unfold Qc3
 exact v_br (λ_=>v_lf λ_=>rfl) (λ_=>v_cn (v_lf no))
theorem app_no(m:Q00)(e:Q09):(Q1r m e).1=false→(Q1r m e).2=m:=by
 show Tree.V (Q83 m e) (λr=>r.1=false→r.2=m)
 have no: ∀{p:Prop},true=false→p:=λh=>by cases h
 unfold Q83
 repeat'(first
   |exact v_lf λ_=>rfl
   |exact v_lf no
   |exact v_lv λx hx=>v_lf λh=>by rw[hx]at h⊢;rw[fire_no _ h]
   |exact v_an (v_lv λx hx=>v_lf λh=>by rw[hx]at h⊢;rw[fin_no _ _ _ h])
   |exact v_an (v_lv λx hx=>v_lf λh=>by rw[hx]at h⊢;rw[acc_no _ _ _ h])
   |exact v_an (v_lv λx hx=>v_lf λh=>by rw[hx]at h⊢;rw[type_no _ _ h])
   |refine v_br (λ_=> ?_) (λ_=> ?_))
end Go.Proofs.YtpcbkbalabgnlaaGreat
namespace Go.Proofs.YtpcbkbalabgnlaaGreat
open Go Go.GD
attribute [local irreducible] Q2y
set_option maxRecDepth 100000
theorem midle_w{m:Q00}(h:U m.A1.C1):Q3 m:=by
 show(Q2u m).p
 unfold Tree.p Q2u
 refine w_br (λ_=>w_an ?_ (w_lv λ_ _=>trivial)) (λ_=>trivial)
 show(Q1p m).p
 unfold Tree.p Q1p
 exact Q0c (Z7x h) λ_ _=>trivial
theorem reads_w0{P:Nat}{m:Q00}(h:okS P m):(Q2 m).w (λ_=>True):=by
 unfold Q2
 exact Q0c (Z66 h.given) λ_ _=>w_br (λ_=>trivial) (λ_=>Q0c (beginP_w h) λx1 h1=>Q0c (execP_w h1.cpu h1.mem) λx2 _=>w_br (λ_=>trivial) (λ_=>trivial))
theorem Z4q(r:Q01):Q93 r=r:=rfl
theorem Qy9{r:Q01}(hm:r.A0.Mem.length≤1024)(hl:r.D1.length≤1000000)(hq:r.B3.length≤1000000):Q3u r:=by
 show(Q5j r).p
 unfold Tree.p Q5j
 exact w_an (by show r.A0.Mem.length≤35184372088832;omega) (w_lv λ_ _=>w_an (by show r.D1.length≤3518437208883;omega) (w_lv λ_ _=>w_an (by show r.B3.length≤3518437208883;omega) (w_lv λ_ _=>trivial)))
section
variable {P:Nat} {m:Q00} (h:good P m)
include h
theorem good.len:m.Mem.length≤1024:=by have:=h.ok.mem.len;have:=h.ok.mem.p2;omega
theorem good.app(e:Q09):Q76 m e=((Q1r m e).2,(Q1r m e).1):=by
 rw[Qwq h.v]
 simp only[Qh2,Qg1,Tree.m,letv,own_eq,h.rmay];rfl
theorem good.step(hs:Q1b m=false)(clock:Int):Q36 m clock=((Q0k m clock).2,(Q0k m clock).1):=by
 rw[Z3r h.v,Qzh,hs];rfl
theorem good.idle:Q60 m=Qfq m:=Z3e h.v
end
theorem rlog_w(e:Q09){r:Q01}(hl:r.D1.length≤1000000):(Q3i e r).w (λx=>x={A0:=r.A0,B4:=r.B4,D1:=r.D1++[{At:=r.A0.A4,D8:=e}],B3:=r.B3}):=by
 unfold Q3i
 exact w_cn (decide_eq_true (by omega)) rfl
theorem rlogR_w(e:Q09){r:Q01}(hl:r.D1.length≤1000000):(Q31 e r).w (λx=>x={A0:=r.A0,B4:=r.B4,D1:=r.D1++[{At:=r.A0.A4,D8:=e}],B3:=r.B3}):=by
 unfold Q31
 exact w_cn (decide_eq_true (by omega)) rfl
theorem Z7a{P:Nat}{r:Q01}(h:good P r.A0){e:Q09}(he:U e.N)(hl:r.D1.length≤1000000):(Q3h e r).w (λx=>x=Qan r e):=by
 unfold Q3h
 refine w_an (Z95 h.v h.len he) (w_lv λx0 e0=> ?_)
 rw[h.app]at e0
 refine w_br (λhb=>Q0c (rlogR_w e (r:=⟨x0.1,r.B4,r.D1,r.B3⟩) hl) λx1 e1=> ?_) (λhb=> ?_)
 · have hb:(Q1r r.A0 e).1=true:=by rw[e0]at hb;exact hb
   show x1=_
   unfold Qan
   rw[e1,hb,e0];rfl
 · have hb:(Q1r r.A0 e).1=false:=by rw[e0]at hb;exact hb
   show r=_
   unfold Qan
   rw[hb,app_no _ _ hb];rfl
theorem Qy5(r:Q01)(e:Q09):(Qan r e).D1.length≤r.D1.length+1:=by
 unfold Qan
 cases(Q1r r.A0 e).1
 · exact Nat.le_succ _
 · show(r.D1++[_]).length≤_
   rw[List.length_append,List.length_singleton];omega
theorem fireF_log(r:Q01):(Q5f r).D1.length≤r.D1.length+1:=by
 unfold Q5f
 cases Qa4 r.A0.A7 r.B4
 · exact Nat.le_succ _
 · exact Qy5 _ _
theorem readF_log(r:Q01):(readF r).D1.length≤r.D1.length+1:=by
 unfold readF
 cases Q4 r.A0
 · exact Nat.le_succ _
 · show(r.D1++[_]).length≤_
   rw[List.length_append,List.length_singleton];omega
theorem Zam{P:Nat}{m:Q00}(h:good P m):Q1b m=bif m.A6 then true else bif Q60 m then true else m.A4==1152921504606846976:=by
 have hc:=((Qiv m).1 h.may).2.2.1
 have e:decide (m.A4≥1152921504606846976)=(m.A4==1152921504606846976):=by
   by_cases g:m.A4=1152921504606846976
   · rw[g];rfl
   · rw[show(m.A4==1152921504606846976)=false from beq_false_of_ne g,decide_eq_false (by omega)]
 rw[h.idle,←e]
 simp only[Q1b,Qcx,Tree.m,letv,h.rmay];rfl
theorem tick_read{r:Q01}(hr:Q4 r.A0=true):Qs8 r={A0:=(Q0k r.A0 r.B4).2,B4:=IntKind.wrap .u32 (r.B4+1),D1:=r.D1++[{At:=r.A0.A4,D8:={C3:=1,N:=r.B4,C8:=[]}}],B3:=r.B3}:=by
 unfold Qs8 readF;rw[hr];rfl
theorem tick_no{r:Q01}(hr:Q4 r.A0=false):Qs8 r={A0:=(Q0k r.A0 r.B4).2,B4:=IntKind.wrap .u32 (r.B4+1),D1:=r.D1,B3:=r.B3}:=by
 unfold Qs8 readF;rw[hr];rfl
theorem tickF_log(r:Q01):(Qs8 r).D1.length≤r.D1.length+1:=readF_log r
theorem Za0{n:Nat}{r:Q01}{o:List Q0a}(hs:Q1b (Q5f r).A0=true):recF (n+1) r o=(Q5f r,o):=by
 conv=>lhs;unfold recF
 rw[hs];rfl
theorem recF_go{n:Nat}{r:Q01}{o:List Q0a}(hs:Q1b (Q5f r).A0=false):recF (n+1) r o=recF n (Qs8 (Q5f r)) (o++(Q0k (Q5f r).A0 (Q5f r).B4).1):=by
 conv=>lhs;unfold recF
 rw[hs];rfl
theorem advF_may{r:Q01}(h:Q7i r.A0=true)(steps clock:Int):advF r steps clock=recF (Q18 steps).toNat (noQ (r.B3.foldl Qan {A0:=r.A0,B4:=if clock>r.B4 then clock else r.B4,D1:=r.D1,B3:=r.B3})) []:=by
 unfold advF;rw[h];rfl
theorem radv_w{P:Nat}{k:Int}{r:Q01}(h:Qix P k r)(steps:Int){clock:Int}(hc:U clock)(hl:r.D1.length≤900000)(hq:r.B3.length≤1000)(hu: ∀q∈r.B3,U q.N):
    (Q4i r steps clock).w (λx=>x=advF r steps clock):=by
  obtain⟨lim0,lim1⟩:=limited_w steps
  have lim:(if 4000<(if 0>steps then 0 else steps) then 4000 else(if 0>steps then 0 else steps))=Q18 steps:=rfl
  have hA:=advF_may h.m.rmay steps clock
  unfold Q4i
  refine w_an (Qy9 h.m.len (by omega) (by omega)) (w_lv λx0 e0=> ?_)
  rw[Z4q]at e0
  subst e0
  refine w_an (Tree.pp (Z73 h.m.ok.target.2)).1 (w_lv λx1 e1=>w_br (λhb=>by rw[e1,h.m.may]at hb;cases hb) λhb=> ?_)
  have hcl:U (if clock>x0.B4 then clock else x0.B4):=by split<;>first|exact hc|exact h.clock
  generalize hr0:({A0:=x0.A0,B4:=if clock>x0.B4 then clock else x0.B4,D1:=x0.D1,B3:=x0.B3}:Q01)=r0 at*
  have hQ:r0.B3=x0.B3:=by rw[←hr0]
  have hL:r0.D1=x0.D1:=by rw[←hr0]
  have g0:Qix P k r0:=by rw[←hr0];exact⟨h.m,hcl,h.cnt⟩
  refine w_lp (inv:=λz:Int×Q01=>0≤z.1∧z.1≤x0.B3.length∧z.2.B3=x0.B3∧Qix P k z.2∧(z.2.D1.length:Int)≤x0.D1.length+z.1∧(x0.B3.drop z.1.toNat).foldl Qan z.2=x0.B3.foldl Qan r0) (μ:=Qdq x0 steps clock) ⟨Int.le_refl 0,by show(0:Int)≤_;omega,hQ,g0,by rw[hL];omega,rfl⟩ (Nat.lt_succ_self _) λz ⟨z0,z1,z2,z3,z4,z5⟩=> ?_
  refine w_br (λhb=> ?_) (λhb=> ?_)
  · have hb:=of_decide_eq_true hb
    have hlt:z.1.toNat<x0.B3.length:=by omega
    have ed:x0.B3.getD z.1.toNat (RK.dflt RK.apiEvent)=x0.B3[z.1.toNat]:=by rw[List.getD_eq_getElem?_getD,List.getElem?_eq_getElem hlt];rfl
    have hm:x0.B3.getD z.1.toNat (RK.dflt RK.apiEvent)∈x0.B3:=by rw[ed];exact List.getElem_mem hlt
    refine w_cn (by simp [Nat.blt];omega) (Q0c (Z7a z3.m (hu _ hm) (by omega)) λx2 e2=>w_nx ?_)
    have ew:IntKind.i64.wrap (z.1+1)=z.1+1:=by rw[IntKind.wrap_i64];omega
    have q2:x2.B3=x0.B3:=by rw[e2,Z2y,z2]
    have l2:=Qy5 z.2 (x0.B3.getD z.1.toNat (RK.dflt RK.apiEvent))
    rw[←e2]at l2
    have g2:=(Qtp z3 (hu _ hm)).1
    rw[←e2]at g2
    show(0≤IntKind.i64.wrap (z.1+1)∧IntKind.i64.wrap (z.1+1)≤x0.B3.length∧x2.B3=x0.B3∧Qix P k x2∧(x2.D1.length:Int)≤x0.D1.length+IntKind.i64.wrap (z.1+1)∧(x0.B3.drop (IntKind.i64.wrap (z.1+1)).toNat).foldl Qan x2=_)∧(x2.B3.length-IntKind.i64.wrap (z.1+1)).toNat<(z.2.B3.length-z.1).toNat
    rw[ew,q2,z2]
    refine⟨⟨by omega,by omega,rfl,g2,by omega,?_⟩,by omega⟩
    rw[←z5,List.drop_eq_getElem_cons hlt,List.foldl_cons,show(z.1+1).toNat=z.1.toNat+1 by omega,e2,ed]
  · have hb:=of_decide_eq_false hb
    obtain⟨zi,zr⟩:=z
    have hb: ¬zi<x0.B3.length:=hb
    have ze:zr=x0.B3.foldl Qan r0:=by
      rw[←z5,List.drop_eq_nil_of_le (by show x0.B3.length≤zi.toNat;omega)];rfl
    rw[←ze]at hA
    have z3:Qix P k zr:=z3
    have z4:(zr.D1.length:Int)≤x0.D1.length+zi:=z4
    have z1:zi≤x0.B3.length:=z1
    refine w_lp (inv:=λy:Int×Q01×List Q0a=>0≤y.1∧y.1≤Q18 steps∧Qix P (k+y.1) y.2.1∧(y.2.1.D1.length:Int)≤zr.D1.length+2*y.1∧(y.2.2.length:Int)≤y.1∧recF (Q18 steps-y.1).toNat y.2.1 y.2.2=advF x0 steps clock) (μ:=Q6o x0 steps clock (zi,zr)) ⟨Int.le_refl 0,by show(0:Int)≤_;omega,⟨z3.m,z3.clock,by have:=z3.cnt;show zr.A0.A4≤k+0;omega⟩,by show(zr.D1.length:Int)≤_+2*0;omega,Int.le_refl 0,by rw[hA];show recF (Q18 steps-0).toNat _ _=_;rw[Int.sub_zero];rfl⟩ (Nat.lt_succ_self _) λy ⟨y0,y1,y2,y3,y4,y5⟩=> ?_
    obtain⟨yi,yr,yo⟩:=y
    have y0:0≤yi:=y0
    have y1:yi≤Q18 steps:=y1
    have y2:Qix P (k+yi) yr:=y2
    have y3:(yr.D1.length:Int)≤zr.D1.length+2*yi:=y3
    have y4:(yo.length:Int)≤yi:=y4
    change recF (Q18 steps-yi).toNat yr yo=_ at y5
    refine w_br (λhb=> ?_) (λhb=> ?_)
    · have hb:yi<Q18 steps:=of_decide_eq_true hb
      have ew:IntKind.i64.wrap (yi+1)=yi+1:=by rw[IntKind.wrap_i64];omega
      have en:(Q18 steps-yi).toNat=(Q18 steps-(yi+1)).toNat+1:=by omega
      rw[en]at y5
      obtain⟨gf,gc⟩:=Zb6 y2
      have lf:=fireF_log yr
      have mu: ∀q,Q6o x0 steps clock (zi,zr) (IntKind.wrap .i64 (yi+1),q)<Q6o x0 steps clock (zi,zr) (yi,yr,yo):=λq=>by
        show(4000-IntKind.wrap .i64 (yi+1)).toNat<(4000-yi).toNat
        rw[ew];omega
      have nxt: ∀(x:Q01) (o:List Q0a),Q1b (Q5f yr).A0=false→x=Qs8 (Q5f yr)→o=yo++(Q0k (Q5f yr).A0 (Q5f yr).B4).1→(0≤IntKind.wrap .i64 (yi+1)∧IntKind.wrap .i64 (yi+1)≤Q18 steps∧Qix P (k+IntKind.wrap .i64 (yi+1)) x∧(x.D1.length:Int)≤zr.D1.length+2*IntKind.wrap .i64 (yi+1)∧(o.length:Int)≤IntKind.wrap .i64 (yi+1)∧recF (Q18 steps-IntKind.wrap .i64 (yi+1)).toNat x o=advF x0 steps clock):=λx o hs hx ho=>by
        have t:=Z9e gf hs
        have lt:=tickF_log (Q5f yr)
        obtain⟨_,_,a3⟩:=Qze gf.m hs gf.clock
        rw[ew,hx,ho]
        refine⟨by omega,by omega,⟨t.m,t.clock,by have:=t.cnt;omega⟩,by omega,by rw[List.length_append];omega,?_⟩
        rw[←y5,recF_go hs]
      have stk: ∀(x:Q01),Q1b (Q5f yr).A0=true→x=Q5f yr→(x,yo)=advF x0 steps clock:=λx hs hx=>by
        rw[←y5,Za0 hs,hx]
      have sg:=Zam gf.m
      have cn: ∀(o:List Q0a),Q1b (Q5f yr).A0=false→o=(Q0k (Q5f yr).A0 (Q5f yr).B4).1→decide (40*(yo.length+o.length)≤140737488355328)=true:=λo hs ho=>decide_eq_true (by
        obtain⟨_,_,a3⟩:=Qze gf.m hs gf.clock
        rw[ho];omega)
      have sp:=(stepV_pre gf.m.v gf.m.len (clock:=(Q5f yr).B4) gf.clock).1
      have ms:=λhs=>gf.m.step hs (Q5f yr).B4
      have rs:=Zb4 gf.m.v
      have rp:Q22 (Q5f yr).A0:=(Tree.pp (reads_w0 gf.m.s)).1
      have ip:Q3 (Q5f yr).A0:=midle_w gf.m.ok.target.2
      have lw:=λe=>rlog_w e (r:=Q5f yr) (by omega)
      have tr:=tick_read (r:=Q5f yr)
      have tn:=tick_no (r:=Q5f yr)
      have fin: ∀f:Q01,f=Q5f yr→Qix P (k+yi) yr→f=f:=λ_ _ _=>rfl
      refine w_lv λx3 e3=>w_br (λhd=>Q0c (Z7a y2.m U_0 (by omega)) λx4 e4=> ?_) (λhd=> ?_)
      · have e5:x4=Q5f yr:=by
          have e3:x3=Qa4 yr.A0.A7 yr.B4:=e3
          rw[e4];unfold Q5f;rw[←e3,hd];rfl
        rw[←e5]at nxt stk sg cn sp ms rs rp ip lw tr tn
        refine w_br (λhh=>stk _ (by rw[sg,hh];rfl) rfl) λhh=>w_an ip (w_lv λx5 i5=>w_br (λhi=>stk _ (by rw[sg,hh,←i5,hi];rfl) rfl) λhi=>w_br (λhct=>stk _ (by rw[sg,hh,←i5,hi,hct];rfl) rfl) λhct=> ?_)
        have hs:Q1b x4.A0=false:=by rw[sg,hh,←i5,hi,hct];rfl
        refine w_an rp (w_lv λx6 e6=>w_br (λhr=>Q0c (lw _) λx7 e7=> ?_) (λhr=>w_an sp (w_lv λx9 e9=>w_cn (cn _ hs (by rw[e9,ms hs])) (w_nx ⟨nxt _ _ hs (by rw[e9,ms hs,tn (by rw[←rs,←e6,hr])]) (by rw[e9,ms hs]),mu _⟩))))
        subst e7
        refine w_an sp (w_lv λx8 e8=>w_cn (cn _ hs (by rw[e8];exact congrArg Prod.snd (ms hs))) (w_nx ⟨nxt _ _ hs ?_ ?_,mu _⟩))
        · rw[tr (by rw[←rs,←e6,hr]),e8]
          exact congrArg (λq:Q00×List Q0a=>({A0:=q.1,B4:=IntKind.wrap .u32 (x4.B4+1),D1:=x4.D1++[{At:=x4.A0.A4,D8:={C3:=1,N:=x4.B4,C8:=[]}}],B3:=x4.B3}:Q01)) (ms hs)
        · rw[e8];exact congrArg (λq:Q00×List Q0a=>yo++q.2) (ms hs)
      · have e5:yr=Q5f yr:=by
          have e3:x3=Qa4 yr.A0.A7 yr.B4:=e3
          unfold Q5f;rw[←e3,hd];rfl
        rw[←e5]at nxt stk sg cn sp ms rs rp ip lw tr tn
        refine w_br (λhh=>stk _ (by rw[sg,hh];rfl) rfl) λhh=>w_an ip (w_lv λx5 i5=>w_br (λhi=>stk _ (by rw[sg,hh,←i5,hi];rfl) rfl) λhi=>w_br (λhct=>stk _ (by rw[sg,hh,←i5,hi,hct];rfl) rfl) λhct=> ?_)
        have hs:Q1b yr.A0=false:=by rw[sg,hh,←i5,hi,hct];rfl
        refine w_an rp (w_lv λx6 e6=>w_br (λhr=>Q0c (lw _) λx7 e7=> ?_) (λhr=>w_an sp (w_lv λx9 e9=>w_cn (cn _ hs (by rw[e9,ms hs])) (w_nx ⟨nxt _ _ hs (by rw[e9,ms hs,tn (by rw[←rs,←e6,hr])]) (by rw[e9,ms hs]),mu _⟩))))
        subst e7
        refine w_an sp (w_lv λx8 e8=>w_cn (cn _ hs (by rw[e8];exact congrArg Prod.snd (ms hs))) (w_nx ⟨nxt _ _ hs ?_ ?_,mu _⟩))
        · rw[tr (by rw[←rs,←e6,hr]),e8]
          exact congrArg (λq:Q00×List Q0a=>({A0:=q.1,B4:=IntKind.wrap .u32 (yr.B4+1),D1:=yr.D1++[{At:=yr.A0.A4,D8:={C3:=1,N:=yr.B4,C8:=[]}}],B3:=yr.B3}:Q01)) (ms hs)
        · rw[e8];exact congrArg (λq:Q00×List Q0a=>yo++q.2) (ms hs)
    · have hb: ¬yi<Q18 steps:=of_decide_eq_false hb
      show(yr,yo)=_
      rw[←y5,show(Q18 steps-yi).toNat=0 by omega];rfl
end Go.Proofs.YtpcbkbalabgnlaaGreat
namespace Go.Proofs.YtpcbkbalabgnlaaGreat
open Go Go.GD
attribute [local irreducible] Q2y
set_option maxRecDepth 100000
def Qle:Q09:={C3:=2,N:=0,C8:=[]}
theorem due_armed{t:Q0g}{c:Int}(h:t.D4=false):Qa4 t c=false:=by
 simp only[Qa4,Qwu,Tree.m,h];rfl
theorem Z1f(r:Q01):Q5f r=bif Qa4 r.A0.A7 r.B4 then Qan r Qle else r:=rfl
theorem Z1n{r:Q01}(h:Qa4 r.A0.A7 r.B4=false):Q5f r=r:=by rw[Z1f,h];rfl
theorem Z6n{n:Nat}{r:Q01}{o:List Q0a}(hs:Q1b (Q5f r).A0=false):recF (n+1) r o=recF n (Qs8 (Q5f r)) (o++(Q0k (Q5f r).A0 (Q5f r).B4).1):=by
 conv=>lhs;unfold recF
 rw[hs];rfl
theorem advF_on{r:Q01}(h:Q7i r.A0=true)(steps clock:Int):advF r steps clock=recF (Q18 steps).toNat (noQ (r.B3.foldl Qan {A0:=r.A0,B4:=if clock>r.B4 then clock else r.B4,D1:=r.D1,B3:=r.B3})) []:=by
 unfold advF;rw[h];rfl
theorem Zac{s:Int}(h0:0≤s)(h1:s≤4000):Q18 s=s:=by
 have:Q18 s=(if 4000<(if 0>s then 0 else s) then 4000 else(if 0>s then 0 else s)):=rfl
 rw[this,if_neg (show¬0>s by omega),if_neg (show¬4000<s by omega)]
end Go.Proofs.YtpcbkbalabgnlaaGreat
namespace Go.Proofs.YtpcbkbalabgnlaaGreat
open Go Go.GD
attribute [local irreducible] Q2y
set_option maxRecDepth 100000
structure goodP(P:Nat)(k:Int)(r:Q01):Prop where
 g:Qix P k r
 q:okQ r.B3
 l:(r.D1.length:Int)≤3*k
theorem rnew_w{m:Q00}(h:m.Mem.length≤1024):(Q89 m).w (λx=>x={A0:=m,B4:=0,D1:=[],B3:=[]}):=by
 unfold Q89
 refine w_an (Qy9 (r:=⟨m,0,[],[]⟩) h (Nat.zero_le _) (Nat.zero_le _)) (w_lv λx hx=> ?_)
 show x=_
 rw[hx,Z4q]
theorem aw21{W:Bool→Prop}(h:W true):(Tree.an Q46 (.lv Q8m λx=> .lf x)).w W:=w_an awake_pre (w_lv λx e=>by show W x;rw[e,Za1];exact h)
end Go.Proofs.YtpcbkbalabgnlaaGreat
namespace Go.Proofs.YtpcbkbalabgnlaaGreat
open Go Go.GD
set_option maxRecDepth 100000
set_option synthInstance.maxHeartbeats 2000000
set_option synthInstance.maxSize 100000
noncomputable section
theorem echo_pre:Qht:=ck (ckT (t:=Qf7) (by delta Qf7;infer_instance)) (by kernel_rfl)
end
def Q4j:List Int:=[1007681537,672202751,1008730112,1025507328,805371900,0,0,0,0,0,0,0,0,0,0,0,0,0,0,0,0,0,0,0,0,0,0,0,0,0,0,0]
def Qdn(mem:List Int)(pc c:Int)(t:Q0g):Q00:={B2:={X:={a0:=0,a1:=0,a2:=0,a3:=0,a4:=0,a5:=0,a6:=0,a7:=0,a8:=0,a9:=0,a10:=0,a11:=0,a12:=0,a13:=0,a14:=0,a15:=0},Pc:=pc,B5:={a0:=1,a1:=0,a2:=0,a3:=0,a4:=0,a5:=0,a6:=0,a7:=0}},Mem:=mem,A2:={D3:=[]},A7:=t,B0:={Blocks:=0,C0:=0,B1:=0,B8:=0,D9:=0,B6:=0,A9:=0,C2:=[]},C5:={B1:=0,F1:=0,C4:=false,B9:=0,B7:=false,F3:=0},A1:={C7:=0,C1:=0},A4:=c,A3:=false,A6:=false}
theorem echo_eq:Qu4=Qdn Q4j 0 0 {D4:=false,C6:=0,D6:=false}:=by kernel_rfl
theorem echo_adv{pc:Int}(hp:pc=0∨pc=4)(c:Int)(t:Q0g)(clk:Int):Q0k (Qdn Q4j pc c t) clk=([],Qdn Q4j (4-pc) (IntKind.wrap .u64 (c+1)) t):=by
 rcases hp with rfl|rfl
 · have:Q0k (Qdn Q4j 0 c t) clk=([],Qdn Q4j 4 (IntKind.wrap .u64 (c+1)) t):=by kernel_rfl
   exact this
 · have:Q0k (Qdn Q4j 4 c t) clk=([],Qdn Q4j 0 (IntKind.wrap .u64 (c+1)) t):=by kernel_rfl
   exact this
theorem Z9y{pc:Int}(hp:pc=0∨pc=4){c:Int}{t:Q0g}:Qgq (Qdn Q4j pc c t)=false:=by
 rcases hp with rfl|rfl<;>kernel_rfl
theorem Z8g(pc c:Int)(t:Q0g)(ht:Q2g t=true):Q7i (Qdn Q4j pc c t)=decide (c≤1152921504606846976):=by
 have e:Q7i (Qdn Q4j pc c t)=bif !Q2g t then false else bif decide (c≤1152921504606846976) then true else false:=by kernel_rfl
 rw[e,ht]
 cases decide (c≤1152921504606846976)<;>rfl
theorem Za7{pc c:Int}{t:Q0g}(hc:c<1152921504606846976)(ht:Q2g t=true):Q1b (Qdn Q4j pc c t)=false:=by
 have m:=Z8g pc c t ht
 rw[decide_eq_true (by omega)]at m
 have e:Q1b (Qdn Q4j pc c t)=bif !Q7i (Qdn Q4j pc c t) then true else decide (c≥1152921504606846976):=rfl
 rw[e,m,decide_eq_false (by omega)];rfl
theorem Z9k{pc c:Int}{t:Q0g}(hp:pc=0∨pc=4)(h0:0≤c)(hc:c<1152921504606846976)(ht:Q2g t=true):good 1 (Qdn Q4j pc c t):=by
 have up:U pc:=by rcases hp with rfl|rfl<;>exact⟨by decide,by decide⟩
 have ok:okM 1 (Qdn Q4j pc c t):=⟨⟨U_all 16,up,λw hw=>by
   have:w=1∨w=0:=by simpa [Qdn,A8.l] using hw
   rcases this with rfl|rfl<;>exact⟨by decide,by decide⟩⟩,⟨rfl,by omega,by omega,(asm_gen Q4j (by kernel_rfl)).2⟩,⟨U_0,U_0,U_0,U_0⟩,⟨U_0,U_0,U_0,U_0⟩,⟨U_0,U_0⟩,h0⟩
 refine⟨ok,?_⟩
 have v:okV (Qdn Q4j pc c t):=⟨ok.cpu,ok.mem.u,ok.disk,ok.nic,ok.target,ok.cnt⟩
 rw[Qs0 v,Z8g pc c t ht]
 exact decide_eq_true (by omega)
end Go.Proofs.YtpcbkbalabgnlaaGreat
namespace Go.Proofs.YtpcbkbalabgnlaaGreat
open Go Go.GD
attribute [local irreducible] Q2y
set_option maxRecDepth 100000
def Qc2(pc c:Int)(t:Q0g)(clk:Int)(log:List Q1h):Q01:={A0:=Qdn Q4j pc c t,B4:=clk,D1:=log,B3:=[]}
theorem Qsg{pc c:Int}{t:Q0g}{clk:Int}{log:List Q1h}(hp:pc=0∨pc=4)(h0:0≤c)(h1:c<1152921504606846976)(hk:0≤clk)(hk1:clk<4294967295)(ht:Q2g t=true):
   Q1b (Qc2 pc c t clk log).A0=false∧(Q0k (Qc2 pc c t clk log).A0 (Qc2 pc c t clk log).B4).1=[]∧Qs8 (Qc2 pc c t clk log)=Qc2 (4-pc) (c+1) t (clk+1) log:=by
 have st:=Za7 (pc:=pc) h1 ht
 have rd:Q4 (Qdn Q4j pc c t)=false:=by
   have e:Q4 (Qdn Q4j pc c t)=bif Q1b (Qdn Q4j pc c t) then false else Qgq (Qdn Q4j pc c t):=rfl
   rw[e,st,Z9y hp];rfl
 have ad:=echo_adv hp c t clk
 have w1:IntKind.wrap .u64 (c+1)=c+1:=by rw[IntKind.wrap_u64];omega
 have w2:IntKind.wrap .u32 (clk+1)=clk+1:=by rw[IntKind.wrap_u32];omega
 rw[w1]at ad
 refine⟨st,congrArg Prod.fst ad,?_⟩
 rw[tick_no rd]
 show({A0:=(Q0k (Qdn Q4j pc c t) clk).2,B4:=IntKind.wrap .u32 (clk+1),D1:=log,B3:=[]}:Q01)=_
 rw[ad,w2];rfl
theorem echo_done{t:Q0g}(ha:t.D4=false)(ht:Q2g t=true)(n:Nat): ∀{pc c clk:Int} {log:List Q1h} {o:List Q0a},(pc=0∨pc=4)→0≤c→c+n<1152921504606846976→0≤clk→clk+n<4294967295→
   (recF n (Qc2 pc c t clk log) o).1.D1=log∧(recF n (Qc2 pc c t clk log) o).1.A0.A7=t∧(recF n (Qc2 pc c t clk log) o).1.A0.A4=c+n:=by
 induction n with
 |zero=>intro pc c clk log o _ _ _ _ _;exact⟨rfl,rfl,by show c=c+(0:Nat);omega⟩
 | succ n ih=>
   intro pc c clk log o hp h0 h1 h2 h3
   have f:Q5f (Qc2 pc c t clk log)=Qc2 pc c t clk log:=Z1n (due_armed ha)
   obtain⟨s,a,b⟩:=Qsg (log:=log) hp h0 (by omega) h2 (by omega) ht
   rw[Z6n (by rw[f];exact s),f,b]
   obtain⟨p,q,r⟩:=ih (pc:=4-pc) (c:=c+1) (clk:=clk+1) (log:=log) (o:=o++(Q0k (Qc2 pc c t clk log).A0 (Qc2 pc c t clk log).B4).1) (by omega) (by omega) (by omega) (by omega) (by omega)
   exact⟨p,q,by rw[r];omega⟩
theorem echo_wait{D:Int}(hD:0<D)(n:Nat): ∀{pc c clk:Int} {o:List Q0a},(pc=0∨pc=4)→0≤c→c+n<1152921504606846976→0≤clk→clk+n<4294967295→
    (recF n (Qc2 pc c ⟨true,D,false⟩ clk []) o).1.A0.A4=c+n∧
    ((n:Int)≤max 0 (D-clk)→(recF n (Qc2 pc c ⟨true,D,false⟩ clk []) o).1.D1=[]∧(recF n (Qc2 pc c ⟨true,D,false⟩ clk []) o).1.A0.A7=⟨true,D,false⟩)∧
    (max 0 (D-clk)<n→(recF n (Qc2 pc c ⟨true,D,false⟩ clk []) o).1.D1=[{At:=c+max 0 (D-clk),D8:=Qle}]∧(recF n (Qc2 pc c ⟨true,D,false⟩ clk []) o).1.A0.A7=⟨false,D,true⟩):=by
  induction n with
  |zero=>intro pc c clk o _ _ _ _ _;exact⟨by show c=c+(0:Nat);omega,λ_=>⟨rfl,rfl⟩,λh=>by omega⟩
  | succ n ih=>
    intro pc c clk o hp h0 h1 h2 h3
    have mA:Q2g ⟨true,D,false⟩=true:=by
      show(D !=0)=true
      simp;omega
    have mF:Q2g ⟨false,D,true⟩=true:=rfl
    have dd:Qa4 ⟨true,D,false⟩ clk=decide (clk≥D):=rfl
    by_cases hd:clk≥D
    · have f:Q5f (Qc2 pc c ⟨true,D,false⟩ clk [])=Qc2 pc c ⟨false,D,true⟩ clk [{At:=c,D8:=Qle}]:=by
        rw[Z1f]
        show(bif Qa4 ⟨true,D,false⟩ clk then _ else _)=_
        rw[dd,decide_eq_true hd,cond_true]
        unfold Qan
        have ap:Q1r (Qc2 pc c ⟨true,D,false⟩ clk []).A0 Qle=(true,Qdn Q4j pc c ⟨false,D,true⟩):=rfl
        rw[ap];rfl
      obtain⟨s,a,b⟩:=Qsg (t:=⟨false,D,true⟩) (log:=[{At:=c,D8:=Qle}]) hp h0 (by omega) h2 (by omega) mF
      rw[Z6n (by rw[f];exact s),f,b]
      obtain⟨p,q,r⟩:=echo_done (t:=⟨false,D,true⟩) rfl mF n (pc:=4-pc) (c:=c+1) (clk:=clk+1) (log:=[{At:=c,D8:=Qle}]) (o:=o++(Q0k (Qc2 pc c ⟨false,D,true⟩ clk [{At:=c,D8:=Qle}]).A0 (Qc2 pc c ⟨false,D,true⟩ clk [{At:=c,D8:=Qle}]).B4).1) (by omega) (by omega) (by omega) (by omega) (by omega)
      have mx:max 0 (D-clk)=0:=by omega
      rw[mx]
      exact⟨by rw[r];omega,λh=>by omega,λ_=>⟨by rw[p,Int.add_zero],q⟩⟩
    · have f:Q5f (Qc2 pc c ⟨true,D,false⟩ clk [])=Qc2 pc c ⟨true,D,false⟩ clk []:=Z1n (by show Qa4 ⟨true,D,false⟩ clk=false;rw[dd];exact decide_eq_false hd)
      obtain⟨s,a,b⟩:=Qsg (t:=⟨true,D,false⟩) (log:=[]) hp h0 (by omega) h2 (by omega) mA
      rw[Z6n (by rw[f];exact s),f,b]
      obtain⟨p,q,r⟩:=ih (pc:=4-pc) (c:=c+1) (clk:=clk+1) (o:=o++(Q0k (Qc2 pc c ⟨true,D,false⟩ clk []).A0 (Qc2 pc c ⟨true,D,false⟩ clk []).B4).1) (by omega) (by omega) (by omega) (by omega) (by omega)
      have mx:max 0 (D-clk)=max 0 (D-(clk+1))+1:=by omega
      refine⟨by rw[p];omega,λh=>q (by omega),λh=> ?_⟩
      obtain⟨r1,r2⟩:=r (by omega)
      refine⟨?_,r2⟩
      rw[r1,show c+1+max 0 (D-(clk+1))=c+max 0 (D-clk) by omega]
theorem timers(deadline steps clock:Int)(hd:U deadline)(hs: -9223372036854775808≤steps∧steps<9223372036854775808)(hc:U clock):Qcm deadline steps clock∧Qcb deadline steps clock=true:=by
 have aw:(Tree.an Q46 (.lv Q8m λx=> .lf x)).w (λr=>r=true):=aw21 rfl
 refine Tree.pp (W:=λr=>r=true) ?_
 unfold Q73
 obtain⟨d0,d1⟩:=hd
 obtain⟨c0,c1⟩:=hc
 have tc:=Int.tmod_lt_of_pos clock (b:=60) (by decide)
 have tc0:=Int.tmod_nonneg 60 c0
 have td:=Int.tmod_lt_of_pos deadline (b:=60) (by decide)
 have td0:=Int.tmod_nonneg 60 d0
 have wd:IntKind.wrap .u32 (1+Int.tmod deadline 60)=1+Int.tmod deadline 60:=by rw[IntKind.wrap_u32];omega
 rw[wd]
 have D0:1≤1+Int.tmod deadline 60∧1+Int.tmod deadline 60≤60:=by omega
 generalize 1+Int.tmod deadline 60=D at*
 generalize Int.tmod clock 60=C at*
 refine w_br (λ_=>aw) λh0=>w_br (λ_=>aw) λh80=>w_an echo_pre (w_lv λm hm=> ?_)
 have h0:=of_decide_eq_false h0
 have h80:=of_decide_eq_false h80
 rw[hm,echo_eq]
 have mA:Q2g ⟨true,D,false⟩=true:=by
   show(D !=0)=true
   simp;omega
 have gm:=Z9k (pc:=0) (c:=0) (t:=⟨true,D,false⟩) (.inl rfl) (by decide) (by decide) mA
 refine Q0c (rnew_w (m:=Qdn Q4j 0 0 ⟨true,D,false⟩) gm.len) λx3 e3=> ?_
 have g3:Qix 1 0 x3:=by rw[e3];exact⟨gm,U_0,Int.le_refl 0⟩
 refine Q0c (radv_w g3 steps (clock:=C) ⟨by omega,by omega⟩ (by rw[e3];exact Nat.zero_le _) (by rw[e3];exact Nat.zero_le _) (by rw[e3];exact λq hq=>by cases hq)) λx4 e4=> ?_
 have e4:x4=recF steps.toNat (Qc2 0 0 ⟨true,D,false⟩ C []) []:=by
   rw[e4,advF_on g3.m.rmay,Zac (by omega) (by omega),e3]
   show recF _ (noQ {A0:=_,B4:=if C>0 then C else 0,D1:=[],B3:=[]}) []=_
   rw[show(if C>0 then C else 0)=C by split<;>omega];rfl
 obtain⟨w1,w2,w3⟩:=echo_wait (D:=D) (by omega) steps.toNat (pc:=0) (c:=0) (clk:=C) (o:=[]) (.inl rfl) (by omega) (by omega) (by omega) (by omega)
 rw[←e4]at w1 w2 w3
 have sw:IntKind.wrap .u64 steps=steps:=by rw[IntKind.wrap_u64];omega
 have sn:(steps.toNat:Int)=steps:=by omega
 rw[sn,Int.zero_add]at w1
 rw[sn]at w2 w3
 have yes:(steps≤max 0 (D-C))→(Tree.br ((x4.1.D1.length:Int)==0) (.br x4.1.A0.A7.D4 (.br (x4.1.A0.A4==IntKind.wrap .u64 steps) (.an Q46 (.lv Q8m λx=> .lf x)) (.lf false)) (.lf false)) (.lf false)).w (λr=>r=true):=λh=>by
   obtain⟨q1,q2⟩:=w2 h
   rw[q1,q2,w1,sw]
   exact w_br (λ_=>w_br (λ_=>w_br (λ_=>aw) (λh=>by simp at h)) (λh=>by cases h)) (λh=>by cases h)
 have at0:D>C→IntKind.wrap .u64 (IntKind.wrap .u32 (D-C))=max 0 (D-C):=λh=>by
   rw[show IntKind.wrap .u32 (D-C)=D-C by rw[IntKind.wrap_u32];omega,IntKind.wrap_u64];omega
 rw[sw]
 rw[sw]at yes
 refine w_br (λhDC=> ?_) (λhDC=> ?_)
 · have hDC:=of_decide_eq_true hDC
   refine w_br (λh=>yes (by have h:=of_decide_eq_true h;rw[at0 hDC]at h;exact h)) (λh=> ?_)
   have h:=of_decide_eq_false h
   rw[at0 hDC]at h⊢
   obtain⟨q1,q2⟩:=w3 (by omega)
   rw[q1,q2,w1,Int.zero_add]
   exact w_br (λ_=>w_cn rfl (w_br (λ_=>w_br (λ_=>w_br (λ_=>aw) (λh=>by simp at h)) (λh=>by cases h)) (λh=>by simp [eqs,eq1,Qle,RK.dflt]at h))) (λh=>by cases h)
 · have hDC:=of_decide_eq_false hDC
   have m0:max 0 (D-C)=0:=by omega
   refine w_br (λh=>yes (by rw[m0];exact of_decide_eq_true h)) (λh=> ?_)
   have h:=of_decide_eq_false h
   obtain⟨q1,q2⟩:=w3 (by omega)
   rw[q1,q2,w1,m0]
   exact w_br (λ_=>w_cn rfl (w_br (λ_=>w_br (λ_=>w_br (λ_=>aw) (λh=>by simp at h)) (λh=>by cases h)) (λh=>by simp [eqs,eq1,Qle,RK.dflt]at h))) (λh=>by cases h)
end Go.Proofs.YtpcbkbalabgnlaaGreat

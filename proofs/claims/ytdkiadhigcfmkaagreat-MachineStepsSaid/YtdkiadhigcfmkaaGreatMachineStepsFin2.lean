/-
  A part of the proof.
-/
import Derived.Test.YtdkiadhigcfmkaaGreatMachineStepsLaws2
import Derived.Test.YtdkiadhigcfmkaaGreatMachineStepsNews
import Derived.Test.YtdkiadhigcfmkaaGreatMachineStepsZg
import Derived.Test.YtdkiadhigcfmkaaGreatMachineStepsZt
import Derived.Test.YtdkiadhigcfmkaaGreatMachineStepsFe
import Derived.Test.YtdkiadhigcfmkaaGreatMachineStepsLaw
namespace Go.Proofs.YtdkiadhigcfmkaaGreat
open Go Go.GD
set_option linter.unusedVariables false
set_option linter.unusedSimpArgs false
set_option maxRecDepth 100000
theorem Zcu(i:Q0f):U (Q15 i).1:=by
 refine Tree.post (Qe0 i) (W:=fun r=>U r.1) ?_
 unfold Qe0
 exact w_lv fun _ _=>w_br (fun _=>U_0) (fun _=>U_or _ _)
theorem code_w(l:List Int)(hl:l.length*8≤reachBytes):(Q9r l).w (fun r=>(r.length:Int)=l.length∧ ∀w∈r,U w):=by
 have hl':l.length*8≤140737488351232:=hl
 have app: ∀{r:List Int} {x:Int},(∀w∈r,U w)→U x→ ∀w∈r++[x],U w:=fun hr hx w hw=>by
   rw[List.mem_append]at hw
   rcases hw with hw|hw
   · exact hr w hw
   · rw[List.mem_singleton.1 hw];exact hx
 unfold Q9r
 refine w_lp (inv:=fun z=>Qc l z∧ ∀w∈z.2,U w) (μ:=Q4j l) ⟨⟨by omega,by simp,by simp⟩,by simp⟩ (Nat.lt_succ_self _) (fun v0 hv=> ?_)
 obtain⟨⟨h1,h2,h3⟩,h4⟩:=hv
 refine w_br (fun h=> ?_) (fun h=> ?_)
 · have h:=of_decide_eq_true h
   have next: ∀x:Int,U x→(Qc l (IntKind.wrap IntKind.i64 (v0.1+1),v0.2++[x])∧ ∀w∈v0.2++[x],U w)∧Q4j l (IntKind.wrap IntKind.i64 (v0.1+1),v0.2++[x])<Q4j l v0:=fun x hx=>by
     have hw:IntKind.i64.wrap (v0.1+1)=v0.1+1:=by rw[IntKind.wrap_i64];omega
     rw[hw]
     refine⟨⟨⟨?_,?_,?_⟩,app h4 hx⟩,?_⟩
     · show 0≤v0.1+1;omega
     · show v0.1+1≤l.length;omega
     · show((v0.2++[x]).length:Int)=v0.1+1;simp;omega
     · show(l.length-(v0.1+1)).toNat<(l.length-v0.1).toNat;omega
   have hb:(Nat.beq 1 1&&Nat.blt 0 1&&decide (0≤v0.1∧v0.1<(l.length:Int)))=true:=by simp [Nat.blt];omega
   have hc:decide (4*(v0.2.length+1)≤140737488355328)=true:=decide_eq_true (by omega)
   exact w_cn hb (w_br (fun _=>w_cn hb (w_cn hc (next _ (Q0l _)))) (fun _=>w_cn hb (w_an (Z3r _) (w_lv fun x0 _=>w_lv fun x1 hx=>w_cn hc (next _ (by rw[hx];exact Zcu _))))))
 · have h:=of_decide_eq_false h
   exact⟨by show(v0.2.length:Int)=l.length;omega,h4⟩
end Go.Proofs.YtdkiadhigcfmkaaGreat
namespace Go.Proofs.YtdkiadhigcfmkaaGreat
open Go Go.GD
set_option linter.unusedVariables false
set_option linter.unusedSimpArgs false
set_option maxRecDepth 100000
theorem limited_w(Q8f:Int):0≤Qea Q8f∧Qea Q8f≤4000:=by
 refine Tree.post (Qab Q8f) (W:=fun r=>0≤r∧r≤4000) ?_
 unfold Qab
 refine w_lf ?_
 constructor<;>(repeat' split)<;>omega
theorem Z5q{P:Nat}{r:Q01}(h:okR P r)(Q8f:Int){clock:Int}(hc:U clock)(hl:r.Log.length≤900000)(hq:r.Queue.length≤16)(hu: ∀q∈r.Queue,U q.N):
    (Q87 r Q8f clock).w (fun x=>okR P x.1∧x.1.Log.length≤r.Log.length+8016∧(x.1.Queue=r.Queue∨x.1.Queue=[])∧x.2.length≤4000):=by
  unfold Q87
  refine Q0b (own_w h (by omega) (by omega)) fun x0 hx=> ?_
  obtain⟨k1,k2,k3⟩:=hx
  refine w_lv fun x1 _=>w_br (fun _=>⟨k1,by rw[k2];omega, .inl k3,Nat.zero_le _⟩) (fun _=> ?_)
  have hcl:U (if clock>x0.Clock then clock else x0.Clock):=by split<;>first|exact hc|exact k1.clock
  refine w_lp (inv:=fun z=>0≤z.1∧z.1≤r.Queue.length∧okR P z.2∧(z.2.Log.length:Int)≤r.Log.length+z.1∧z.2.Queue=r.Queue) (μ:=Qf7 r Q8f clock) ⟨by omega,by omega,⟨k1.m,hcl⟩,by rw[k2];omega,k3⟩ (Nat.lt_succ_self _) (fun z hz=> ?_)
  obtain⟨z1,z2,z3,z4,z5⟩:=hz
  refine w_br (fun hb=> ?_) (fun hb=> ?_)
  · have hb:=of_decide_eq_true hb
    rw[z5]at hb
    have hm:(List.getD z.2.Queue (Int.toNat z.1) (RK.dflt RK.apiEvent))∈r.Queue:=by
      rw[z5]
      have hlt:z.1.toNat<r.Queue.length:=by omega
      rw[List.getD_eq_getElem?_getD,List.getElem?_eq_getElem hlt]
      exact List.getElem_mem hlt
    refine w_cn (by rw[z5];simp [Nat.blt];omega) (Q0b (offer_w z3 (hu _ hm) (by omega)) fun x hx=>w_nx ?_)
    obtain⟨a1,a2,a3⟩:=hx
    show(0≤IntKind.i64.wrap (z.1+1)∧IntKind.i64.wrap (z.1+1)≤r.Queue.length∧okR P x∧(x.Log.length:Int)≤r.Log.length+IntKind.i64.wrap (z.1+1)∧x.Queue=r.Queue)∧(x.Queue.length-IntKind.i64.wrap (z.1+1)).toNat<(z.2.Queue.length-z.1).toNat
    have ew:IntKind.i64.wrap (z.1+1)=z.1+1:=by rw[IntKind.wrap_i64];omega
    rw[ew,a3,z5]
    exact⟨⟨by omega,by omega,a1,by omega,rfl⟩,by omega⟩
  · refine w_lp (inv:=fun y=>0≤y.1∧y.1≤4000∧okR P y.2.1∧(y.2.1.Log.length:Int)≤r.Log.length+r.Queue.length+2*y.1∧y.2.1.Queue=[]∧(y.2.2.length:Int)≤y.1) (μ:=Qg2 r Q8f clock z) ⟨by omega,by omega,⟨z3.m,z3.clock⟩,by simp;omega,rfl,by simp⟩ (Nat.lt_succ_self _) (fun y hy=> ?_)
    obtain⟨y1,y2,y3,y4,y5,y6⟩:=hy
    have ew:IntKind.i64.wrap (y.1+1)=y.1+1:=by rw[IntKind.wrap_i64];omega
    refine w_lv fun x3 hx3=>w_br (fun hb=> ?_) (fun _=>⟨y3,by show y.2.1.Log.length≤_;omega, .inr y5,by show y.2.2.length≤_;omega⟩)
    have hb:=of_decide_eq_true hb
    have lim:=(limited_w Q8f).2
    rw[←hx3]at lim
    refine w_lv fun x4 _=>w_br (fun _=>Q0b (offer_w (e:=⟨_,_,_⟩) y3 U_0 (by omega)) fun x5 h5=> ?_) (fun _=> ?_)
    · obtain⟨q1,q2,q3⟩:=h5
      have q3:=q3.trans y5
      refine Q0b (Z2q _) fun s1 _=>w_br (fun _=>⟨q1,by show x5.Log.length≤_;omega, .inr q3,by show y.2.2.length≤_;omega⟩) (fun _=>Q0b (Qt6 q1.m.cpu q1.m.mem) fun s2 _=>w_br (fun _=>w_cn (decide_eq_true (by omega)) (Q0b (Qpi (r:=⟨x5.Machine,x5.Clock,x5.Log++[_],x5.Queue⟩) ⟨q1.m,q1.clock⟩ q1.clock) fun o ho=> ?_)) (fun _=>Q0b (Qpi q1 q1.clock) fun o ho=> ?_))
      · obtain⟨a1,⟨⟨a2,a3⟩,a4,a5⟩⟩:=ho
        have e4:o.2.Log.length=x5.Log.length+1:=by rw[a4];simp
        have a5:o.2.Queue=[]:=a5.trans q3
        refine w_cn (decide_eq_true (by omega)) (w_nx ?_)
        show(0≤IntKind.i64.wrap (y.1+1)∧IntKind.i64.wrap (y.1+1)≤4000∧okR P _∧(o.2.Log.length:Int)≤r.Log.length+r.Queue.length+2*IntKind.i64.wrap (y.1+1)∧o.2.Queue=[]∧((y.2.2++o.1).length:Int)≤IntKind.i64.wrap (y.1+1))∧(4000-IntKind.i64.wrap (y.1+1)).toNat<(4000-y.1).toNat
        rw[ew,a5,List.length_append]
        exact⟨⟨by omega,by omega,⟨a2,Q0l _⟩,by omega,rfl,by omega⟩,by omega⟩
      · obtain⟨a1,⟨⟨a2,a3⟩,a4,a5⟩⟩:=ho
        have e4:o.2.Log.length=x5.Log.length:=by rw[a4]
        have a5:o.2.Queue=[]:=a5.trans q3
        refine w_cn (decide_eq_true (by omega)) (w_nx ?_)
        show(0≤IntKind.i64.wrap (y.1+1)∧IntKind.i64.wrap (y.1+1)≤4000∧okR P _∧(o.2.Log.length:Int)≤r.Log.length+r.Queue.length+2*IntKind.i64.wrap (y.1+1)∧o.2.Queue=[]∧((y.2.2++o.1).length:Int)≤IntKind.i64.wrap (y.1+1))∧(4000-IntKind.i64.wrap (y.1+1)).toNat<(4000-y.1).toNat
        rw[ew,a5,List.length_append]
        exact⟨⟨by omega,by omega,⟨a2,Q0l _⟩,by omega,rfl,by omega⟩,by omega⟩
    · refine Q0b (Z2q _) fun s1 _=>w_br (fun _=>⟨y3,by show y.2.1.Log.length≤_;omega, .inr y5,by show y.2.2.length≤_;omega⟩) (fun _=>Q0b (Qt6 y3.m.cpu y3.m.mem) fun s2 _=>w_br (fun _=>w_cn (decide_eq_true (by omega)) (Q0b (Qpi (r:=⟨y.2.1.Machine,y.2.1.Clock,y.2.1.Log++[_],y.2.1.Queue⟩) ⟨y3.m,y3.clock⟩ y3.clock) fun o ho=> ?_)) (fun _=>Q0b (Qpi y3 y3.clock) fun o ho=> ?_))
      · obtain⟨a1,⟨⟨a2,a3⟩,a4,a5⟩⟩:=ho
        have e4:o.2.Log.length=y.2.1.Log.length+1:=by rw[a4];simp
        have a5:o.2.Queue=[]:=a5.trans y5
        refine w_cn (decide_eq_true (by omega)) (w_nx ?_)
        show(0≤IntKind.i64.wrap (y.1+1)∧IntKind.i64.wrap (y.1+1)≤4000∧okR P _∧(o.2.Log.length:Int)≤r.Log.length+r.Queue.length+2*IntKind.i64.wrap (y.1+1)∧o.2.Queue=[]∧((y.2.2++o.1).length:Int)≤IntKind.i64.wrap (y.1+1))∧(4000-IntKind.i64.wrap (y.1+1)).toNat<(4000-y.1).toNat
        rw[ew,a5,List.length_append]
        exact⟨⟨by omega,by omega,⟨a2,Q0l _⟩,by omega,rfl,by omega⟩,by omega⟩
      · obtain⟨a1,⟨⟨a2,a3⟩,a4,a5⟩⟩:=ho
        have e4:o.2.Log.length=y.2.1.Log.length:=by rw[a4]
        have a5:o.2.Queue=[]:=a5.trans y5
        refine w_cn (decide_eq_true (by omega)) (w_nx ?_)
        show(0≤IntKind.i64.wrap (y.1+1)∧IntKind.i64.wrap (y.1+1)≤4000∧okR P _∧(o.2.Log.length:Int)≤r.Log.length+r.Queue.length+2*IntKind.i64.wrap (y.1+1)∧o.2.Queue=[]∧((y.2.2++o.1).length:Int)≤IntKind.i64.wrap (y.1+1))∧(4000-IntKind.i64.wrap (y.1+1)).toNat<(4000-y.1).toNat
        rw[ew,a5,List.length_append]
        exact⟨⟨by omega,by omega,⟨a2,Q0l _⟩,by omega,rfl,by omega⟩,by omega⟩
end Go.Proofs.YtdkiadhigcfmkaaGreat
namespace Go.Proofs.YtdkiadhigcfmkaaGreat
open Go Go.GD
set_option linter.unusedVariables false
set_option linter.unusedSimpArgs false
set_option maxRecDepth 100000
section
variable {P:Nat} {m:Q00} (h:okM P m)
include h
theorem min_w(port:Int){clock:Int}(hc:U clock):(Qk1 m port clock).w (fun x=>U x.1∧okM P x.2∧x.2.Count=m.Count):=by
 have k:=(⟨h,rfl⟩:okM P m∧m.Count=m.Count)
 obtain⟨h1,h2,h3,h4,h5,h7⟩:=h
 unfold Qk1
 exact w_br (fun _=>w_lv fun x hx=>⟨hx▸Qx7 _ _,⟨⟨h1,h2,h3,h4,h5,h7⟩,rfl⟩⟩) (fun _=>w_br (fun _=>⟨hc,k⟩) (fun _=>w_br (fun _=>w_lv fun x hx=>⟨hx▸Z70 _,k⟩) (fun _=>w_br (fun _=>w_lv fun x hx=>⟨hx▸Zdg h3 _,k⟩) (fun _=>w_br (fun _=>w_lv fun x hx=>⟨hx▸nicIn_w h4 _,k⟩) (fun _=>w_lv fun x hx=>⟨hx▸Qxs h5.1 _,k⟩)))))
theorem mout_w(port:Int){v:Int}(hv:U v):(Qeg m port v).w (fun x=>x.1.length≤1∧okM P x.2∧x.2.Count=m.Count):=by
 have k:=(⟨h,rfl⟩:okM P m∧m.Count=m.Count)
 obtain⟨h1,h2,h3,h4,h5,h7⟩:=h
 unfold Qeg
 exact w_br (fun _=>⟨Nat.le_refl _,k⟩) (fun _=>w_br (fun _=>⟨Nat.zero_le _,k⟩) (fun _=>w_br (fun _=>w_lv fun _ _=>⟨Nat.zero_le _,⟨⟨h1,h2,h3,h4,h5,h7⟩,rfl⟩⟩) (fun _=>w_br (fun _=>Q0b (Z8b h2 h3 _ hv _) fun x hx=>⟨hx.2,⟨⟨h1,h2,hx.1,h4,h5,h7⟩,rfl⟩⟩) (fun _=>w_br (fun _=>Q0b (Zdi h2 h4 _ hv _) fun x hx=>⟨hx.2,⟨⟨h1,h2,h3,hx.1,h5,h7⟩,rfl⟩⟩) (fun _=>Q0b (give_w h2 h5 _ hv) fun x hx=>⟨Nat.zero_le _,⟨⟨h1,hx.2,h3,h4,hx.1,h7⟩,rfl⟩⟩)))))
theorem Z0n{clock:Int}(hc:U clock):(Q9b m clock).w (fun x=>x.1.length≤1∧okM P x.2∧x.2.Count=IntKind.wrap .u64 (m.Count+1)):=by
 obtain⟨h1,h2,h3,h4,h5,h7⟩:=h
 unfold Q9b
 refine Q0b (Qj1 h1) fun x0 c0=>Q0b (do_w c0 h2) fun x1 hx=> ?_
 obtain⟨c1,v1,m1⟩:=hx
 refine w_br (fun _=>Z7t (min_w (m:=⟨_,_,_,_,_,_,_,_,_,_⟩) ⟨c1,m1,h3,h4,h5,h7⟩ _ hc) fun x2 hx=> ?_) (fun _=>w_br (fun _=>Q0b (mout_w (m:=⟨_,_,_,_,_,_,_,_,_,_⟩) ⟨c1,m1,h3,h4,h5,h7⟩ _ v1) fun x4 hx=> ?_) (fun _=> ?_))
 · obtain⟨u,⟨k1,k2,k3,k4,k5,k7⟩,k6⟩:=hx
   exact Q0b (Qyo k1 _ u) fun x3 h3=>⟨Nat.zero_le _,⟨h3,k2,k3,k4,k5,w0 _⟩,congrArg (fun n=>IntKind.wrap .u64 (n+1)) k6⟩
 · obtain⟨u,⟨k1,k2,k3,k4,k5,k7⟩,k6⟩:=hx
   exact⟨u,⟨k1,k2,k3,k4,k5,w0 _⟩,congrArg (fun n=>IntKind.wrap .u64 (n+1)) k6⟩
 · repeat'(first
     |exact⟨Nat.zero_le _,⟨c1,m1,h3,h4,h5,w0 _⟩,rfl⟩
     |refine w_br (fun _=> ?_) (fun _=> ?_))
theorem own7_w:(Q77 m).w (fun x=>okM P x∧x.Count=m.Count):=by
 obtain⟨h1,h2,h3,h4,h5,h7⟩:=h
 unfold Q77
 exact Q0b (copy_w h2) fun x hx=>⟨⟨h1,by rw[hx];exact h2,h3,h4,h5,h7⟩,rfl⟩
end
theorem U_all(n:Nat): ∀w∈List.replicate n (0:Int),U w:=fun w hw=>by rw[(List.mem_replicate.1 hw).2];exact U_0
end Go.Proofs.YtdkiadhigcfmkaaGreat
namespace Go.Proofs.YtdkiadhigcfmkaaGreat
open Go Go.GD
set_option linter.unusedVariables false
set_option maxRecDepth 100000
set_option synthInstance.maxHeartbeats 2000000
set_option synthInstance.maxSize 100000
noncomputable section
instance ref1_lines_ck (src:(List UInt8)):Ck (Qh9 src):=ckT (t:=Qd2 src) (by delta Qd2;infer_instance)
instance ref1_tokens_ck (s:(List UInt8)):Ck (Qey s):=ckT (t:=Qas s) (by delta Qas;infer_instance)
instance ref1_digits_ck (n:Int):Ck (Q2i n):=let d:Decidable (Q2i n):=(by delta Q2i;infer_instance);⟨@decide _ d,@of_decide_eq_true _ d⟩
instance ref1_Decimal_ck (n:Int):Ck (Qdo n):=ckT (t:=Q5m n) (by delta Q5m;infer_instance)
instance ref1_reg_ck (r:Int):Ck (Ql0 r):=ckT (t:=Qb7 r) (by delta Qb7;infer_instance)
instance ref1_name_ck (s:(List UInt8)):Ck (Qe5 s):=ckT (t:=Qfe s) (by delta Qfe;infer_instance)
instance Zg3 (op:Int):Ck (Qbg op):=ckT (t:=Q7x op) (by delta Q7x;infer_instance)
instance Zf4 (s:(List UInt8)):Ck (Q2e s):=ckT (t:=Q6v s) (by delta Q6v;infer_instance)
instance ref1_pattern_ck (what:(List UInt8)):Ck (Q4x what):=ckT (t:=Q93 what) (by delta Q93;infer_instance)
instance ref1_number_ck (s:(List UInt8)):Ck (Qf6 s):=ckT (t:=Qaj s) (by delta Qaj;infer_instance)
instance ref1_matched_ck (l:(List Q0e)) (p:(List UInt8)):Ck (Q4t l p):=ckT (t:=Q91 l p) (by delta Q91;infer_instance)
instance ref1_parsed_ck (s:(List UInt8)):Ck (Qel s):=ckT (t:=Qal s) (by delta Qal;infer_instance)
instance ref1_address_ck (l:(List Q1j)) (label:(List UInt8)):Ck (Q2l l label):=let d:Decidable (Q2l l label):=(by delta Q2l;infer_instance);⟨@decide _ d,@of_decide_eq_true _ d⟩
instance ref1_read_ck (src:(List UInt8)):Ck (Qiu src):=ckT (t:=Qfj src) (by delta Qfj;infer_instance)
instance ref1_inst_ck (st:Q07) (v:Int):Ck (Q8e st v):=ckT (t:=Qep st v) (by delta Qep;infer_instance)
instance Zg0 (src:(List UInt8)):Ck (Q8k src):=ckT (t:=Q7q src) (by delta Q7q;infer_instance)
theorem asm_pre:Q8k ((108:UInt8)::(tblZe0++Z1e++(Z2c++Z1x)++(Z2a++Z0v++(Z20++Z23))++(Z28++Z1l++(Qqm++Qr4)++(Qqz++Qqb++(Qrs++Qri))))):=ck inferInstance (by kernel_rfl)
def inU(x:Int):Bool:=decide (0≤x)&&decide (x<4294967296)
theorem asm_gen(l:List Int)(h:(Nat.ble l.length 160&&List.all l inU)=true):l.length≤160∧ ∀w∈l,U w:=by
 rw[Bool.and_eq_true]at h
 refine⟨Nat.le_of_ble_eq_true h.1,fun w hw=> ?_⟩
 have:=List.all_eq_true.1 h.2 w hw
 simp only[inU,Bool.and_eq_true,decide_eq_true_eq]at this
 exact this
theorem asm_ok:(Q55 (List.append (List.append (List.append (List.append Z3q Z1e) (List.append Z2c Z1x)) (List.append (List.append Z2a Z0v) (List.append Z20 Z23))) (List.append (List.append (List.append Z28 Z1l) (List.append Qqm Qr4)) (List.append (List.append Qqz Qqb) (List.append Qrs Qri))))).1.length≤160∧ ∀w∈(Q55 (List.append (List.append (List.append (List.append Z3q Z1e) (List.append Z2c Z1x)) (List.append (List.append Z2a Z0v) (List.append Z20 Z23))) (List.append (List.append (List.append Z28 Z1l) (List.append Qqm Qr4)) (List.append (List.append Qqz Qqb) (List.append Qrs Qri))))).1,U w:=asm_gen _ (by kernel_rfl)
end
end Go.Proofs.YtdkiadhigcfmkaaGreat
namespace Go.Proofs.YtdkiadhigcfmkaaGreat
open Go Go.GD
set_option linter.unusedVariables false
set_option linter.unusedSimpArgs false
set_option maxRecDepth 100000
theorem new_w(i:List Int)(hu: ∀w∈i,U w)(hl:i.length≤256):(Q8s 8 4 i).w (fun x=>okM 8 x.1∧x.1.Count=0):=by
 unfold Q8s
 refine w_br (fun h=>absurd h (by decide)) fun _=>w_br (fun h=>absurd h (by decide)) fun _=>w_br (fun h=>absurd h (by decide)) fun _=>w_br (fun h=>absurd h (by decide)) fun _=>w_br (fun h=> ?_) fun _=>w_lv fun x0 e0=>w_an (Qhd _) (w_lv fun x1 e1=> ?_)
 · have h:=of_decide_eq_true h
   rw[show IntKind.i64.wrap (8*32)=256 by decide]at h
   omega
 have hx:x1=List.replicate 256 0:=by rw[e1];kernel_rfl
 have c0:Q1v x0:=by rw[e0];exact⟨by
   intro w hw
   simp only[Qlt,Qgs,Tree.m,A16.l,List.mem_cons,List.not_mem_nil,or_false,or_self]at hw
   rw[hw];exact U_0,U_0,by
   intro w hw
   simp only[Qlt,Qgs,Tree.m,A8.l,List.mem_cons,List.not_mem_nil,or_false,or_self]at hw
   rcases hw with rfl|rfl
   · exact⟨by omega,by omega⟩
   · exact U_0⟩
 have hz: ∀w∈x1,U w:=by rw[hx];exact U_all 256
 have hn:x1.length=256:=by rw[hx,List.length_replicate]
 refine⟨⟨c0,⟨?_,by omega,by omega,fun w hw=> ?_⟩,⟨U_0,U_0,U_0,U_0⟩,⟨U_0,U_0,U_0,U_0⟩,⟨U_0,U_0⟩,Int.le_refl _⟩,rfl⟩
 · simp only[List.length_append,List.length_take,List.length_drop,hn];omega
 · rcases List.mem_append.1 hw with h1|h1
   · exact hu w (List.mem_of_mem_take h1)
   · exact hz w (List.mem_of_mem_drop h1)
end Go.Proofs.YtdkiadhigcfmkaaGreat
namespace Go.Proofs.YtdkiadhigcfmkaaGreat
open Go Go.GD
set_option linter.unusedVariables false
set_option linter.unusedSimpArgs false
set_option maxRecDepth 100000
theorem step_w{P:Nat}{r:Q01}(h:okR P r)(n:Int)(hl:r.Log.length≤900000)(hq:r.Queue.length≤16)(hu: ∀q∈r.Queue,U q.N):
   (Qfh r n).w (fun x=>okR P x.1∧x.1.Log.length≤r.Log.length+8016∧(x.1.Queue.length≤16∧ ∀q∈x.1.Queue,U q.N)∧x.2.length≤4000):=by
 unfold Qfh
 refine w_lv fun x0 _=>w_br (fun _=>Q0b (event_w n) fun e he=>Q0b (arrive_w h e (by omega) hq hu he) fun x hx=> ?_) (fun _=>w_an (Q3q (by decide)) (w_lv fun x3 _=>Q0b (Z5q h _ (Q0l _) hl hq hu) fun x hx=> ?_))
 · obtain⟨a1,a2,a3,a4⟩:=hx
   exact⟨a1,by rw[a2];omega,⟨a3,a4⟩,Nat.zero_le _⟩
 · obtain⟨a1,a2,a3,a4⟩:=hx
   refine⟨a1,a2,?_,a4⟩
   rcases a3 with a3|a3
   · rw[a3];exact⟨hq,hu⟩
   · rw[a3];exact⟨Nat.zero_le _,fun q hq=>by cases hq⟩
theorem play_w{P:Nat}{m:Q00}(h:okM P m)(l:List Int)(hl:l.length≤30):(Qfz m l).w (fun x=>okR P x.1):=by
 unfold Qfz
 have nr:(Q4a m).w (fun x=>okR P x∧x.Log=[]∧x.Queue=[]):=by
   unfold Q4a
   exact Q0b (own7_w h) fun x hx=>⟨⟨hx.1,U_0⟩,rfl,rfl⟩
 refine Q0b nr fun x0 ⟨n1,n2,n3⟩=> ?_
 refine w_lp (inv:=fun v:Int×Q01×List Q08=>0≤v.1∧v.1≤l.length∧okR P v.2.1∧(v.2.1.Log.length:Int)≤8016*v.1∧(v.2.1.Queue.length≤16∧ ∀q∈v.2.1.Queue,U q.N)∧(v.2.2.length:Int)≤4000*v.1) (μ:=Qkk m l) ⟨Int.le_refl _,by show(0:Int)≤l.length;omega,n1,by rw[n2];exact Int.le_refl _,by rw[n3];exact⟨Nat.zero_le _,fun q hq=>by cases hq⟩,Int.le_refl _⟩ (Nat.lt_succ_self _) fun v0 ⟨a1,a2,a3,a4,⟨a5,a6⟩,a7⟩=> ?_
 refine w_br (fun hb=> ?_) (fun _=>a3)
 have hb:=of_decide_eq_true hb
 refine w_cn (by simp [Nat.blt];omega) (Q0b (step_w a3 _ (by omega) a5 a6) fun x1 ⟨b1,b2,b3,b4⟩=>w_cn (decide_eq_true (by omega)) (w_nx ?_))
 have e:IntKind.i64.wrap (v0.1+1)=v0.1+1:=by rw[IntKind.wrap_i64];omega
 show(_∧_∧_∧_∧_∧_)∧(_:Nat)<_
 refine⟨⟨by rw[e];omega,by rw[e];omega,b1,by rw[e];show(x1.1.Log.length:Int)≤_;omega,b3,by rw[e,List.length_append];omega⟩,by show(l.length-IntKind.i64.wrap (v0.1+1)).toNat<(l.length-v0.1).toNat;rw[e];omega⟩
end Go.Proofs.YtdkiadhigcfmkaaGreat
namespace Go.Proofs.YtdkiadhigcfmkaaGreat
open Go Go.GD
set_option linter.unusedVariables false
set_option linter.unusedSimpArgs false
set_option maxRecDepth 100000
def out(f:Int)(m m':List Int):Prop:= ∀j:Nat,¬(f*32≤j∧(j:Int)<f*32+32)→m'.getD j 0=m.getD j 0
theorem Z53(f:Int)(m:List Int):out f m m:=fun _ _=>rfl
theorem getDset(l:List Int)(i j:Nat)(v:Int)(h:i≠j):(l.set i v).getD j 0=l.getD j 0:=by
 simp only[List.getD_eq_getElem?_getD,List.getElem?_set_ne h]
theorem Q5d{P:Nat}{m:List Int}(h:Q10 P m):Q0s m=P:=by
 obtain⟨h1,h2,h3,_⟩:=h
 simp only[Q0s,Q7,Tree.m]
 have e:(m.length:Int)=32*P:=by omega
 rw[e]
 have e1:(Int.tmod (32*(P:Int)) 32 !=0)=false:=by simp [Int.mul_tmod_right]
 have e2:decide ((32*(P:Int))>1024)=false:=decide_eq_false (by omega)
 rw[e1,e2]
 simp only[cond_false]
 rw[Int.mul_tdiv_cancel_left _ (by decide),IntKind.wrap_i64];omega
theorem has_eq{P:Nat}{m:List Int}(h:Q10 P m)(f:Int):Q41 m f=true→0≤f∧f<P:=by
 have hp:=Q5d h
 simp only[Q41,Q6w,Tree.m,letv,hp]
 cases h1:decide (f≥0)
 · intro h;cases h
 · intro h;exact⟨of_decide_eq_true h1,of_decide_eq_true h⟩
theorem setPage_w{P:Nat}{m:List Int}(h:Q10 P m)(f:Int)(s:List UInt8):(Q2k m f s).w (fun r=>Q10 P r.1∧out f m r.1∧(r.2=false→r.1=m)):=by
 have hcl:Q04 m=m:=rfl
 have h2:=h.p2
 unfold Q2k
 refine w_an (Qku h) (w_lv fun x0 hx0=>w_lv fun x1 hx1=> ?_)
 rw[hcl]at hx0;subst hx0
 refine w_br (fun _=>⟨h,Z53 _ _,fun _=>rfl⟩) fun hb=>w_br (fun _=>⟨h,Z53 _ _,fun _=>rfl⟩) fun hs=> ?_
 have hb:x1=true:=by simpa using hb
 obtain⟨f0,f1⟩:=has_eq h f (hx1.symm.trans hb)
 have hs:(s.length:Int)=128:=by simpa using hs
 refine w_lp (inv:=fun z:Int×List Int=>0≤z.1∧z.1≤32∧Q10 P z.2∧out f x0 z.2) (μ:=Q8w x0 f s) ⟨show(0:Int)≤0 by decide,show(0:Int)≤32 by decide,h,Z53 _ _⟩ (Nat.lt_succ_self _) fun z ⟨z1,z2,z3,z4⟩=> ?_
 refine w_br (fun hb=> ?_) (fun _=>⟨z3,z4,fun h=>by cases h⟩)
 have hb:=of_decide_eq_true hb
 have e1:IntKind.i64.wrap (4*z.1)=4*z.1:=by rw[IntKind.wrap_i64];omega
 have e2:IntKind.i64.wrap (IntKind.i64.wrap (4*z.1)+4)=4*z.1+4:=by rw[IntKind.wrap_i64,IntKind.wrap_i64];omega
 have e3:IntKind.i64.wrap (IntKind.i64.wrap (f*32)+z.1)=f*32+z.1:=by rw[IntKind.wrap_i64,IntKind.wrap_i64];omega
 have hl:=z3.len
 have hlen:(List.take (Int.toNat (IntKind.i64.wrap (IntKind.i64.wrap (4*z.1)+4))-Int.toNat (IntKind.i64.wrap (4*z.1))) (List.drop (Int.toNat (IntKind.i64.wrap (4*z.1))) s)).length=4:=by
   rw[e2,e1,List.length_take,List.length_drop];omega
 refine w_cn (decide_eq_true (by rw[e2,e1];omega)) ?_
 refine w_cn (decide_eq_true (by rw[hlen];decide)) (w_cn (decide_eq_true (by rw[hlen];decide)) (w_cn (decide_eq_true (by rw[hlen];decide)) (w_cn (decide_eq_true (by rw[hlen];decide)) (w_cn (by rw[e3];simp [Nat.blt];omega) (w_nx ?_)))))
 show(_∧_∧Q10 P (List.set _ _ _)∧out f x0 (List.set _ _ _))∧(_:Nat)<_
 have ew:IntKind.i64.wrap (z.1+1)=z.1+1:=by rw[IntKind.wrap_i64];omega
 rw[e3]
 refine⟨⟨by rw[ew];omega,by rw[ew];omega,⟨by rw[List.length_set];exact hl,z3.p1,z3.p2,Qv8 z3.u (U_or _ _) _⟩,fun j hj=> ?_⟩,by show(32-IntKind.i64.wrap (z.1+1)).toNat<(32-z.1).toNat;rw[ew];omega⟩
 rw[getDset _ _ _ _ (by omega)]
 exact z4 j hj
theorem text_w(w:List Int)(h:w.length≤32):(Q3r w).w (fun r=>r.length=4*w.length):=by
 have e0:IntKind.i64.wrap (4*(w.length:Int))=4*w.length:=by rw[IntKind.wrap_i64];omega
 unfold Q3r
 refine w_cn (by rw[e0];simp [Nat.blt,D.plain];omega) ?_
 refine w_lp (inv:=fun z:Int×List Int=>0≤z.1∧z.1≤w.length∧(z.2.length:Int)=4*z.1) (μ:=Q62 w) ⟨by decide,by show(0:Int)≤w.length;omega,rfl⟩ (Nat.lt_succ_self _) fun z ⟨z1,z2,z3⟩=> ?_
 refine w_br (fun hb=> ?_) (fun hb=> ?_)
 · have hb:=of_decide_eq_true hb
   have ew:IntKind.i64.wrap (z.1+1)=z.1+1:=by rw[IntKind.wrap_i64];omega
   refine w_cn (by simp [Nat.blt];omega) (w_cn (decide_eq_true (by omega)) (w_nx ?_))
   show(_∧_∧_)∧(_:Nat)<_
   refine⟨⟨by rw[ew];omega,by rw[ew];omega,by rw[ew,List.length_append];simp only[List.length_cons,List.length_nil];omega⟩,by show(w.length-IntKind.i64.wrap (z.1+1)).toNat<(w.length-z.1).toNat;rw[ew];omega⟩
 · have hb:=of_decide_eq_false hb
   show(bytesOf z.2).length=_
   rw[Qg0];omega
theorem mpage_w{P:Nat}{m:List Int}(h:Q10 P m)(f:Int):(Q3x m f).w (fun r=>0≤f→f<P→r.1.length=128):=by
 have hl:=h.len
 have h2:=h.p2
 unfold Q3x
 refine w_lv fun x0 hx0=>w_br (fun hb=>fun f0 f1=> ?_) (fun hb=> ?_)
 · have hp:=Q5d h
   have hb:x0=false:=by simpa using hb
   rw[hb]at hx0
   simp only[Q41,Q6w,Tree.m,letv,hp]at hx0
   rw[decide_eq_true f0]at hx0
   exact absurd f1 (of_decide_eq_false hx0.symm)
 · have hb:x0=true:=by simpa using hb
   obtain⟨f0,f1⟩:=has_eq h f (hx0.symm.trans hb)
   have e1:IntKind.i64.wrap (f*32)=f*32:=by rw[IntKind.wrap_i64];omega
   have e2:IntKind.i64.wrap (IntKind.i64.wrap (f*32)+32)=f*32+32:=by rw[IntKind.wrap_i64,IntKind.wrap_i64];omega
   have hlen:(List.take (Int.toNat (IntKind.i64.wrap (IntKind.i64.wrap (f*32)+32))-Int.toNat (IntKind.i64.wrap (f*32))) (List.drop (Int.toNat (IntKind.i64.wrap (f*32))) m)).length=32:=by
     rw[e2,e1,List.length_take,List.length_drop];omega
   refine w_cn (by rw[e2,e1];simp [Nat.blt];omega) ?_
   refine w_an (by show List.length _≤1000000000000;rw[hlen];decide) (w_lv fun x1 h1=> ?_)
   have h1:x1.length=4*(List.take (Int.toNat (IntKind.i64.wrap (IntKind.i64.wrap (f*32)+32))-Int.toNat (IntKind.i64.wrap (f*32))) (List.drop (Int.toNat (IntKind.i64.wrap (f*32))) m)).length:=by rw[h1];exact(Tree.pp (text_w _ (Nat.le_of_eq hlen))).2
   intro _ _
   show x1.length=128
   rw[h1,hlen]
end Go.Proofs.YtdkiadhigcfmkaaGreat
namespace Go.Proofs.YtdkiadhigcfmkaaGreat
open Go Go.GD
set_option linter.unusedVariables false
set_option linter.unusedSimpArgs false
set_option maxRecDepth 100000
theorem u64_lt{f:Int}(hf:U f){P:Nat}(hP:P≤32)(h:decide (IntKind.u64.wrap f<IntKind.u64.wrap (P:Int))=true):0≤f∧f<P:=by
 have h:=of_decide_eq_true h
 obtain⟨h1,h2⟩:=hf
 rw[IntKind.wrap_u64,IntKind.wrap_u64,Int.emod_eq_of_lt h1 (by omega),Int.emod_eq_of_lt (by omega) (by omega)]at h
 exact⟨h1,h⟩
end Go.Proofs.YtdkiadhigcfmkaaGreat
namespace Go.Proofs.YtdkiadhigcfmkaaGreat
open Go Go.GD
set_option linter.unusedVariables false
set_option linter.unusedSimpArgs false
set_option maxRecDepth 100000
theorem dev_eq(m:Q00):Q0u m=(Q2r m.Console&&(Q5w m.Timer&&(Q3h m.Disk (Q0s m.Mem)&&(Q9s m.Nic (Q0s m.Mem)&&Q2x m.Balloon (Q0s m.Mem))))):=by
 simp only[Q0u,Q1e,Tree.m,letv]
 cases Q2r m.Console<;>cases Q5w m.Timer<;>cases Q3h m.Disk (Q0s m.Mem)<;>cases Q9s m.Nic (Q0s m.Mem)<;>rfl
def chain(b1 b2 b3 b4 b5 b6 b7 w h dev:Bool):Bool:=bif b1 then false else bif b2 then false else bif b3 then false else bif b4 then false else bif b5 then false else bif b6 then false else bif b7 then false else bif w then(bif h then false else dev) else dev
def mayC(p:Int)(c:Q02)(ct:Int)(w h dev:Bool):Bool:=chain (p==0) (c.X.a0 !=0) (decide (c.Csr.a0>31)) (decide (c.Csr.a7>31)) (decide (c.Csr.a6>255)) (Int.tmod c.Csr.a1 4 !=0) (decide (ct>1152921504606846976)) w h dev
theorem may_eq(m:Q00):Q1y m=mayC (Q0s m.Mem) m.Cpu m.Count m.Waiting m.Halted (Q0u m):=rfl
end Go.Proofs.YtdkiadhigcfmkaaGreat
namespace Go.Proofs.YtdkiadhigcfmkaaGreat
open Go Go.GD
set_option linter.unusedVariables false
set_option linter.unusedSimpArgs false
set_option maxRecDepth 100000
section
variable {P:Nat} {m:List Int} (h:Q10 P m)
include h
theorem dpage{f:Int}(hf:U f){b:Bool}(hx:b=Qbx m f)(hb:b=true):0≤f∧f<P:=by
 have hp:=Q5d h
 rw[hb]at hx
 simp only[Qbx,Qe,Tree.m,letv,hp]at hx
 exact u64_lt hf h.p2 hx.symm
theorem npage{f:Int}(hf:U f){b:Bool}(hx:b=Qb8 m f)(hb:b=true):0≤f∧f<P:=by
 have hp:=Q5d h
 rw[hb]at hx
 simp only[Qb8,Qh2,Tree.m,letv,hp]at hx
 exact u64_lt hf h.p2 hx.symm
def keepD(P:Nat)(d d':Q0d):Prop:=Qaq d'∧(Q3h d P=true→Q3h d' P=true)
theorem issue_w{d:Q0d}(hd:Qaq d){cmd:Int}(hc:cmd=1∨cmd=2)(at0:Int):(Q7k d m cmd at0).w (fun r=>keepD P d r.1∧r.2.length≤1):=by
 have h2:=h.p2
 have st3:(d.State !=0)=false→keepD P d {Blocks:=d.Blocks,Block:=d.Block,Frame:=d.Frame,State:=3,Cmd:=d.Cmd,OpBlock:=d.OpBlock,OpFrame:=d.OpFrame,OpData:=d.OpData}:=fun hs=>by
   have hs:d.State=0:=by simpa using hs
   refine⟨⟨hd.block,hd.frame,hd.opBlock,hd.opFrame⟩,fun hm=> ?_⟩
   simp only[Q3h,Q8g,Tree.m,hs]at hm⊢
   exact hm
 have blk:Q3h d P=true→decide (d.Blocks>64)=false:=fun hm=>by
   cases hb:decide (d.Blocks>64)
   · rfl
   · have:Q3h d P=false:=by simp only[Q3h,Q8g,Tree.m];rw[hb];rfl
     rw[this]at hm;cases hm
 unfold Q7k
 refine w_br (fun _=>⟨⟨hd,fun h=>h⟩,Nat.zero_le _⟩) fun hs=>w_br (fun _=>⟨st3 hs,Nat.zero_le _⟩) fun hb=>w_lv fun x0 hx=>w_br (fun _=>⟨st3 hs,Nat.zero_le _⟩) fun hp=> ?_
 have hb:=of_decide_eq_false hb
 obtain⟨f0,f1⟩:=dpage h hd.frame hx (by simpa using hp)
 have ef:IntKind.i64.wrap d.Frame=d.Frame:=by rw[IntKind.wrap_i64];omega
 have e1:decide (d.Block<d.Blocks)=true:=decide_eq_true (by omega)
 have e2:decide (IntKind.i64.wrap d.Frame<(P:Int))=true:=by rw[ef];exact decide_eq_true f1
 refine w_br (fun hcm=>Q0b (mpage_w h _) fun x1 h1=> ?_) (fun hcm=> ?_)
 · rw[ef]at h1
   have h1:=h1 f0 f1
   have hcm:=eq_of_beq hcm
   subst hcm
   refine w_lv fun x2 _=>⟨⟨⟨hd.block,hd.frame,hd.block,hd.frame⟩,fun hm=> ?_⟩,Nat.le_refl _⟩
   simp only[Q3h,Q8g,Q7s,Q5v,Tree.m,letv,blk hm,e1,e2,h1]
   rfl
 · have hc:cmd=1:=by
     rcases hc with h|h
     · exact h
     · rw[h]at hcm;exact absurd hcm (by decide)
   subst hc
   refine w_lv fun x2 _=>⟨⟨⟨hd.block,hd.frame,hd.block,hd.frame⟩,fun hm=> ?_⟩,Nat.le_refl _⟩
   simp only[Q3h,Q8g,Q7s,Q5v,Tree.m,letv,blk hm,e1,e2]
   rfl
theorem diskP_w{d:Q0d}(hd:Qaq d)(port:Int){v:Int}(hv:U v)(at0:Int):(Qbv d m port v at0).w (fun r=>keepD P d r.1∧r.2.length≤1):=by
 have keep:keepD P d d:=⟨hd,fun h=>h⟩
 have e1: ∀{k:Int},(v==k)=true→IntKind.i64.wrap v=k:=fun hk=>by
   have:=eq_of_beq hk
   obtain⟨a,b⟩:=hv
   rw[IntKind.wrap_i64];omega
 unfold Qbv
 refine w_br (fun _=>⟨⟨⟨hv,hd.frame,hd.opBlock,hd.opFrame⟩,fun h=>h⟩,Nat.zero_le _⟩) fun _=>w_br (fun _=>⟨⟨⟨hd.block,hv,hd.opBlock,hd.opFrame⟩,fun h=>h⟩,Nat.zero_le _⟩) fun _=>w_br (fun _=>w_br (fun hk=>Q0b (issue_w h hd (.inl (e1 hk)) _) fun x hx=>hx) fun _=>w_br (fun hk=>Q0b (issue_w h hd (.inr (e1 hk)) _) fun x hx=>hx) fun _=>w_br (fun _=>w_lv fun x hx=>w_br (fun hb=> ?_) (fun _=>⟨keep,Nat.zero_le _⟩)) (fun _=>⟨keep,Nat.zero_le _⟩)) (fun _=>⟨keep,Nat.zero_le _⟩)
 refine⟨⟨⟨hd.block,hd.frame,hd.opBlock,hd.opFrame⟩,fun hm=> ?_⟩,Nat.zero_le _⟩
 rw[hb]at hx
 simp only[Q7i,Qh7,Tree.m]at hx
 cases h2:d.State==2
 · rw[h2]at hx
   have h3:d.State=3:=eq_of_beq hx.symm
   simp only[Q3h,Q8g,Tree.m,h3]at hm⊢
   exact hm
 · have h3:d.State=2:=eq_of_beq h2
   simp only[Q3h,Q8g,Tree.m,h3]at hm⊢
   exact hm
def keepN(P:Nat)(n n':Q0m):Prop:=Qj6 n'∧(Q9s n P=true→Q9s n' P=true)
theorem send_w{n:Q0m}(hn:Qj6 n)(at0:Int):(Qbd n m at0).w (fun r=>r.length≤1):=by
 have h2:=h.p2
 unfold Qbd
 refine w_br (fun _=>Nat.zero_le _) fun l1=>w_br (fun _=>Nat.zero_le _) fun l2=>w_lv fun x0 hx=>w_br (fun _=>Nat.zero_le _) fun hp=>Q0b (mpage_w h _) fun x1 h1=> ?_
 have l1:=of_decide_eq_false l1
 have l2:=of_decide_eq_false l2
 obtain⟨f0,f1⟩:=npage h hn.frame hx (by simpa using hp)
 have ef:IntKind.i64.wrap n.Frame=n.Frame:=by rw[IntKind.wrap_i64];omega
 rw[ef]at h1
 have h1:=h1 f0 f1
 exact w_cn (decide_eq_true (by omega)) (Nat.le_refl _)
theorem nicP_w{n:Q0m}(hn:Qj6 n)(port:Int){v:Int}(hv:U v)(at0:Int):(Qen n m port v at0).w (fun r=>keepN P n r.1∧r.2.length≤1):=by
 have h2:=h.p2
 have keep:keepN P n n:=⟨hn,fun h=>h⟩
 unfold Qen
 refine w_br (fun _=>⟨⟨⟨hv,hn.len,hn.buffer,hn.got⟩,fun h=>h⟩,Nat.zero_le _⟩) fun _=>w_br (fun _=>⟨⟨⟨hn.frame,hv,hn.buffer,hn.got⟩,fun h=>h⟩,Nat.zero_le _⟩) fun _=>w_br (fun _=>w_br (fun _=>Q0b (send_w h hn _) fun x hx=>⟨keep,hx⟩) fun _=>w_br (fun _=>w_lv fun x hx=>w_br (fun hb=>w_br (fun np=>w_br (fun nr=> ?_) (fun _=>⟨keep,Nat.zero_le _⟩)) (fun _=>⟨keep,Nat.zero_le _⟩)) (fun _=>⟨keep,Nat.zero_le _⟩)) fun _=>w_br (fun _=> ?_) (fun _=>⟨keep,Nat.zero_le _⟩)) (fun _=>⟨keep,Nat.zero_le _⟩)
 · obtain⟨f0,f1⟩:=npage h hn.frame hx hb
   have np:n.Posted=false:=by simpa using np
   have nr:n.Received=false:=by simpa using nr
   have e2:decide (IntKind.i64.wrap n.Frame≥(P:Int))=false:=decide_eq_false (by rw[IntKind.wrap_i64];omega)
   refine⟨⟨⟨hn.frame,hn.len,hn.frame,hn.got⟩,fun hm=> ?_⟩,Nat.zero_le _⟩
   simp only[Q9s,Qlc,Tree.m,np,nr,e2]at hm⊢
   cases hb:(n.Buffer !=0)
   · rw[hb]at hm;exact hm
   · rw[hb]at hm;cases hm
 · refine⟨⟨⟨hn.frame,hn.len,hn.buffer,U_0⟩,fun hm=> ?_⟩,Nat.zero_le _⟩
   simp only[Q9s,Qlc,Tree.m]at hm⊢
   revert hm
   cases n.Posted<;>cases n.Received<;>cases decide (IntKind.i64.wrap n.Buffer≥(P:Int))<;>cases(n.Buffer !=0)<;>simp
end
theorem arm_may(t:Q0i)(v:Int):Q5w (Qi1 t v)=true:=by
 simp only[Qi1,Qip,Q5w,Qif,Tree.m]
 cases h:(v !=0)
 · have:v=0:=by simpa using h
   subst this;rfl
 · rfl
end Go.Proofs.YtdkiadhigcfmkaaGreat
namespace Go.Proofs.YtdkiadhigcfmkaaGreat
open Go Go.GD
set_option linter.unusedVariables false
set_option linter.unusedSimpArgs false
set_option maxRecDepth 100000
theorem Qmo{a:Int}(k:Nat)(hk:k≤32):ishr .u32 a k=a/2^k:=by
 unfold ishr
 have e:min (k:Int).toNat IntKind.u32.bits=k:=by show min (k:Int).toNat 32=k;omega
 have hp:(0:Int)<2^k:=Int.pow_pos (by decide)
 rw[e,Int.fdiv_eq_ediv_of_nonneg _ (Int.le_of_lt hp)]
def Zdu(x:Int)(n:Nat):Prop:=x<2^n∧(n=0∨(2:Int)^(n-1)≤x)
theorem Z4s{x q:Int}{n k:Nat}(hq:q=x/2^k)(h0:0<q)(h:Zdu q n):Zdu x (n+k):=by
 have hp:(0:Int)<2^k:=Int.pow_pos (by decide)
 obtain⟨h1,h2⟩:=h
 have hn:n≠0:=fun e=>by subst e;simp at h1;omega
 refine⟨?_, .inr ?_⟩
 · rw[Int.pow_add]
   have:x<(x/2^k+1)*2^k:=Int.lt_ediv_add_one_mul_self x hp
   have h3:(x/2^k+1)*2^k≤2^n*2^k:=Int.mul_le_mul_of_nonneg_right (by omega) (Int.le_of_lt hp)
   omega
 · have h2:=h2.resolve_left hn
   have e:n+k-1=(n-1)+k:=by omega
   rw[e,Int.pow_add]
   have h3:(2:Int)^(n-1)*2^k≤q*2^k:=Int.mul_le_mul_of_nonneg_right h2 (Int.le_of_lt hp)
   have h4:q*2^k≤x:=by rw[hq];exact Int.ediv_mul_le x (Int.ne_of_gt hp)
   omega
theorem isLen_le{x:Int}{n p:Nat}(h:Zdu x n)(hx:x<2^p):n≤p:=by
  obtain⟨h1,h2⟩:=h
  rcases h2 with h2|h2
  · omega
  · rcases Nat.lt_or_ge p n with hlt|hge
    · have:(2:Int)^p≤2^(n-1):=by
        have:=Nat.pow_le_pow_right (show 0<2 by omega) (show p≤n-1 by omega)
        exact_mod_cast this
      omega
    · exact hge
theorem Z9t{x:Int}{n p:Nat}(h:Zdu x n)(hn:n≤p):x<2^p:=by
 have:(2:Int)^n≤2^p:=by
   have:=Nat.pow_le_pow_right (show 0<2 by omega) hn
   exact_mod_cast this
 exact Int.lt_of_lt_of_le h.1 this
def lenChk(i:Nat):Bool:=match(Q16 (i:Int)) with
 | .ofNat n=>decide ((i:Int)<2^n)&&(Nat.beq n 0||decide ((2:Int)^(n-1)≤i))&&decide (n≤8)
 |_=>false
theorem Qoo{q:Int}(h0:0≤q)(h1:q<256): ∃n:Nat,Q16 q=n∧Zdu q n∧n≤8:=by
 have all:List.all (List.range 256) lenChk=true:=by kernel_rfl
 have:=List.all_eq_true.1 all q.toNat (List.mem_range.2 (by omega))
 have hq:((q.toNat:Nat):Int)=q:=by omega
 unfold lenChk at this
 rw[hq]at this
 split at this
 · rename_i n hn
   simp only[Bool.and_eq_true,Bool.or_eq_true,decide_eq_true_eq]at this
   refine⟨n,hn,⟨this.1.1,?_⟩,this.2⟩
   rcases this.1.2 with h|h
   · exact .inl (Nat.eq_of_beq_eq_true h)
   · exact .inr h
 · cases this
theorem len_24{x:Int}(h:U x)(hx:16777216≤x):Q16 x=24+Q16 (x/16777216):=by
 obtain⟨h0,h1⟩:=h
 have s16:ishr .u32 x 16=x/65536:=Qmo 16 (by omega)
 have s24:ishr .u32 (x/65536) 8=x/16777216:=by rw[show((8:Int))=((8:Nat):Int) from rfl,Qmo 8 (by omega)];omega
 have d1:decide (x≥65536)=true:=decide_eq_true (by omega)
 have d2:decide (x/65536≥256)=true:=decide_eq_true (by omega)
 have d3:decide (x/16777216≥65536)=false:=decide_eq_false (by omega)
 have d4:decide (x/16777216≥256)=false:=decide_eq_false (by omega)
 have u:IntKind.u8.wrap (x/16777216)=x/16777216:=by rw[IntKind.wrap_u8];omega
 simp only[Q16,Q1x,Tree.m,s16,s24,d1,d2,d3,d4,u,cond_true,cond_false]
 generalize(List.getD _ (Int.toNat (x/16777216)) (0:UInt8))=b
 have hb:=UInt8.toNat_lt b
 rw[IntKind.wrap_i64,IntKind.wrap_i64,IntKind.wrap_i64,IntKind.wrap_i64]
 omega
theorem len_16{x:Int}(h0:65536≤x)(h1:x<16777216):Q16 x=16+Q16 (x/65536):=by
 have s16:ishr .u32 x 16=x/65536:=Qmo 16 (by omega)
 have d1:decide (x≥65536)=true:=decide_eq_true (by omega)
 have d2:decide (x/65536≥256)=false:=decide_eq_false (by omega)
 have d3:decide (x/65536≥65536)=false:=decide_eq_false (by omega)
 have u:IntKind.u8.wrap (x/65536)=x/65536:=by rw[IntKind.wrap_u8];omega
 simp only[Q16,Q1x,Tree.m,s16,d1,d2,d3,u,cond_true,cond_false]
 generalize(List.getD _ (Int.toNat (x/65536)) (0:UInt8))=b
 have hb:=UInt8.toNat_lt b
 rw[IntKind.wrap_i64,IntKind.wrap_i64,IntKind.wrap_i64]
 omega
theorem len_8{x:Int}(h0:256≤x)(h1:x<65536):Q16 x=8+Q16 (x/256):=by
 have s8:ishr .u32 x 8=x/256:=Qmo 8 (by omega)
 have d1:decide (x≥65536)=false:=decide_eq_false (by omega)
 have d2:decide (x≥256)=true:=decide_eq_true (by omega)
 have d3:decide (x/256≥65536)=false:=decide_eq_false (by omega)
 have d4:decide (x/256≥256)=false:=decide_eq_false (by omega)
 have u:IntKind.u8.wrap (x/256)=x/256:=by rw[IntKind.wrap_u8];omega
 simp only[Q16,Q1x,Tree.m,s8,d1,d2,d3,d4,u,cond_true,cond_false]
 generalize(List.getD _ (Int.toNat (x/256)) (0:UInt8))=b
 have hb:=UInt8.toNat_lt b
 rw[IntKind.wrap_i64,IntKind.wrap_i64,IntKind.wrap_i64,IntKind.wrap_i64]
 omega
theorem Zee{x:Int}(h:U x): ∃n:Nat,Q16 x=n∧Zdu x n:=by
  obtain⟨h0,h1⟩:=h
  rcases Int.lt_or_le x 256 with a|a
  · obtain⟨n,e,l,_⟩:=Qoo h0 a
    exact⟨n,e,l⟩
  · rcases Int.lt_or_le x 65536 with b|b
    · obtain⟨n,e,l,_⟩:=Qoo (q:=x/256) (by omega) (by omega)
      exact⟨n+8,by rw[len_8 a b,e];omega,Z4s (k:=8) rfl (by omega) l⟩
    · rcases Int.lt_or_le x 16777216 with c|c
      · obtain⟨n,e,l,_⟩:=Qoo (q:=x/65536) (by omega) (by omega)
        exact⟨n+16,by rw[len_16 b c,e];omega,Z4s (k:=16) rfl (by omega) l⟩
      · obtain⟨n,e,l,_⟩:=Qoo (q:=x/16777216) (by omega) (by omega)
        exact⟨n+24,by rw[len_24 ⟨h0,h1⟩ c,e];omega,Z4s (k:=24) rfl (by omega) l⟩
theorem Qvt{b:Q05}(h:U b.Given){P:Nat}:Q2x b P=true↔b.Given<2^P:=by
 obtain⟨n,e,l⟩:=Zee h
 have hp:(if(0:Int)>(P:Int) then(0:Int) else P)=P:=by rw[if_neg (by omega)]
 simp only[Q2x,Q59,Tree.m,letv,e,hp,decide_eq_true_eq]
 constructor
 · intro h;exact Z9t l (by omega)
 · intro h;have:=isLen_le l h;omega
end Go.Proofs.YtdkiadhigcfmkaaGreat
namespace Go.Proofs.YtdkiadhigcfmkaaGreat
open Go Go.GD
set_option linter.unusedVariables false
set_option linter.unusedSimpArgs false
set_option maxRecDepth 100000
theorem Z3t{a:Int}(h:U a){P:Nat}(h1:a<2^P):(BitVec.ofInt 32 a).toNat<2^P:=by
 obtain⟨a0,a1⟩:=h
 rw[BitVec.toNat_ofInt,Int.emod_eq_of_lt a0 (by omega)]
 have:((2^P:Nat):Int)=(2:Int)^P:=by exact_mod_cast rfl
 omega
theorem or_lt{a b:Int}(ha:U a)(hb:U b){P:Nat}(hP:P≤32)(h1:a<2^P)(h2:b<2^P):ior .u32 a b<2^P:=by
 have e:(BitVec.ofInt 32 a|||BitVec.ofInt 32 b).toNat<2^P:=by
   rw[BitVec.toNat_or]
   exact Nat.or_lt_two_pow (Z3t ha h1) (Z3t hb h2)
 have hc:((2^P:Nat):Int)=(2:Int)^P:=by exact_mod_cast rfl
 have l:=(BitVec.ofInt 32 a|||BitVec.ofInt 32 b).isLt
 show IntKind.wrap .u32 ((BitVec.ofInt 32 a|||BitVec.ofInt 32 b).toNat:Int)<2^P
 rw[IntKind.wrap_u32]
 omega
theorem andn_lt{a b:Int}(ha:U a){P:Nat}(h1:a<2^P):Qgh .u32 a b<2^P:=by
 have e:(BitVec.ofInt 32 a&&&~~~BitVec.ofInt 32 b).toNat<2^P:=by
   rw[BitVec.toNat_and]
   exact Nat.lt_of_le_of_lt Nat.and_le_left (Z3t ha h1)
 have hc:((2^P:Nat):Int)=(2:Int)^P:=by exact_mod_cast rfl
 have l:=(BitVec.ofInt 32 a&&&~~~BitVec.ofInt 32 b).isLt
 show IntKind.wrap .u32 ((BitVec.ofInt 32 a&&&~~~BitVec.ofInt 32 b).toNat:Int)<2^P
 rw[IntKind.wrap_u32]
 omega
theorem shl_one{v:Int}(h0:0≤v)(h1:v<32):ishl .u32 1 v=2^v.toNat:=by
 have e:min v.toNat IntKind.u32.bits=v.toNat:=by show min v.toNat 32=v.toNat;omega
 obtain⟨n,rfl⟩: ∃n:Nat,v=n:=⟨v.toNat,by omega⟩
 have hn:n<32:=by omega
 have hlt:(2:Nat)^n<4294967296:=by
   have:=Nat.pow_lt_pow_right (show 1<2 by omega) hn
   simpa using this
 have hc:((2^n:Nat):Int)=(2:Int)^n:=by exact_mod_cast rfl
 unfold ishl
 rw[e,IntKind.wrap_u32,Int.one_mul,Int.toNat_natCast,←hc]
 clear hc e
 generalize(2:Nat)^n=z at*
 omega
def keepB(P:Nat)(b b':Q05):Prop:=okB b'∧(Q2x b P=true→Q2x b' P=true)
theorem Zdv{P:Nat}{m:List Int}(h:Q10 P m){b:Q05}(hb:okB b)(port:Int){v:Int}(hv:U v):(Q2f b m port v).w (fun r=>keepB P b r.1∧Q10 P r.2):=by
 have hcl:Q04 m=m:=rfl
 have h2:=h.p2
 have hp:=Q5d h
 have keep:(Tree.an (Q09 m) (.lv (Q04 m) fun x=> .lf (b,x))).w (fun r=>keepB P b r.1∧Q10 P r.2):=w_an (Qku h) (w_lv fun x hx=>by rw[hcl]at hx;subst hx;exact⟨⟨hb,fun h=>h⟩,h⟩)
 unfold Q2f
 refine w_br (fun _=>keep) fun hlt=>w_cn (decide_eq_true hv.1) (w_br (fun _=>w_lv fun x1 hx=>w_br (fun hpg=>w_br (fun _=>w_an ⟨by decide,by decide,by decide⟩ (w_lv fun x2 _=>Q0b (setPage_w h _ _) fun x3 ⟨h3,_⟩=> ?_)) (fun _=>keep)) (fun _=>keep)) (fun _=>w_br (fun _=>w_an (Qku h) (w_lv fun x hx=> ?_)) (fun _=>keep)))
 · have hlt:=of_decide_eq_false hlt
   have hpg:=of_decide_eq_true hpg
   rw[hx,hp]at hpg
   obtain⟨v0,v1⟩:=hv
   have ev:IntKind.i64.wrap v=v:=by rw[IntKind.wrap_i64];omega
   rw[ev]at hpg
   refine⟨⟨⟨hb.1,Q0l _⟩,fun hm=> ?_⟩,h3⟩
   rw[Qvt hb.2]at hm
   rw[Qvt (Q0l _)]
   have hs:ishl .u32 1 v<2^P:=by
     rw[shl_one v0 (by omega)]
     have:=Nat.pow_lt_pow_right (show 1<2 by omega) (show v.toNat<P by omega)
     exact_mod_cast this
   exact or_lt hb.2 (Q0l _) h2 hm hs
 · rw[hcl]at hx;subst hx
   refine⟨⟨⟨hb.1,Q0l _⟩,fun hm=> ?_⟩,h⟩
   rw[Qvt hb.2]at hm
   rw[Qvt (Q0l _)]
   exact andn_lt hb.2 hm
end Go.Proofs.YtdkiadhigcfmkaaGreat
namespace Go.Proofs.YtdkiadhigcfmkaaGreat
open Go Go.GD
set_option linter.unusedVariables false
set_option linter.unusedSimpArgs false
set_option maxRecDepth 100000
structure kept(P:Nat)(m n:Q00):Prop where
 ok:okS P n
 dev:Q0u m=true→Q0u n=true
 cpu:n.Cpu=m.Cpu
 cnt:n.Count=m.Count
 wait:n.Waiting=m.Waiting
 halt:n.Halted=m.Halted
theorem Z5s{P:Nat}{m:Q00}(h:okS P m):kept P m m:=⟨h,fun h=>h,rfl,rfl,rfl,rfl⟩
theorem Qlu{P:Nat}{m n:Q00}(hm:Q10 P m.Mem)(hn:Q10 P n.Mem)(hc:Q2r m.Console=true→Q2r n.Console=true)(ht:Q5w m.Timer=true→Q5w n.Timer=true)
   (hd:Q3h m.Disk P=true→Q3h n.Disk P=true) (hk:Q9s m.Nic P=true→Q9s n.Nic P=true) (hb:Q2x m.Balloon P=true→Q2x n.Balloon P=true) (h:Q0u m=true):Q0u n=true:=by
 rw[dev_eq]at h⊢
 rw[Q5d hm]at h
 rw[Q5d hn]
 simp only[Bool.and_eq_true]at h⊢
 exact⟨hc h.1,ht h.2.1,hd h.2.2.1,hk h.2.2.2.1,hb h.2.2.2.2⟩
theorem Zbd{P:Nat}{m:Q00}(h:okS P m)(port:Int){v:Int}(hv:U v)(at0:Int):(Q24 m port v at0).w (fun r=>kept P m r.1∧r.2.length≤1):=by
 have k:=Z5s h
 obtain⟨h1,h2,h3,h4,h5,h6⟩:=h
 have id: ∀{p:Prop},p→p:=fun h=>h
 have D: ∀(x:Q0d×List Q08),(keepD P m.Disk x.1∧x.2.length≤1)→kept P m {Cpu:=m.Cpu,Mem:=m.Mem,Console:=m.Console,Timer:=m.Timer,Disk:=x.1,Nic:=m.Nic,Balloon:=m.Balloon,Count:=m.Count,Waiting:=m.Waiting,Halted:=m.Halted}∧x.2.length≤1:=fun x hx=>
   ⟨⟨⟨h1,h2,hx.1.1,h4,h5,h6⟩,Qlu h2 h2 id id hx.1.2 id id,rfl,rfl,rfl,rfl⟩,hx.2⟩
 have N: ∀(x:Q0m×List Q08),(keepN P m.Nic x.1∧x.2.length≤1)→kept P m {Cpu:=m.Cpu,Mem:=m.Mem,Console:=m.Console,Timer:=m.Timer,Disk:=m.Disk,Nic:=x.1,Balloon:=m.Balloon,Count:=m.Count,Waiting:=m.Waiting,Halted:=m.Halted}∧x.2.length≤1:=fun x hx=>
   ⟨⟨⟨h1,h2,h3,hx.1.1,h5,h6⟩,Qlu h2 h2 id id id hx.1.2 id,rfl,rfl,rfl,rfl⟩,hx.2⟩
 have B: ∀(x:Q05×List Int),(keepB P m.Balloon x.1∧Q10 P x.2)→kept P m {Cpu:=m.Cpu,Mem:=x.2,Console:=m.Console,Timer:=m.Timer,Disk:=m.Disk,Nic:=m.Nic,Balloon:=x.1,Count:=m.Count,Waiting:=m.Waiting,Halted:=m.Halted}∧([]:List Q08).length≤1:=fun x hx=>
   ⟨⟨⟨h1,hx.2,h3,h4,hx.1.1.1,hx.1.1.2⟩,Qlu h2 hx.2 id id id id hx.1.2,rfl,rfl,rfl,rfl⟩,Nat.zero_le _⟩
 unfold Q24
 repeat'(first
   |exact⟨k,Nat.le_refl _⟩
   |exact⟨k,Nat.zero_le _⟩
   |exact w_lv fun x hx=>⟨⟨⟨h1,h2,h3,h4,h5,h6⟩,Qlu h2 h2 id (fun _=>by rw[hx];exact arm_may _ _) id id id,rfl,rfl,rfl,rfl⟩,Nat.zero_le _⟩
   |exact Q0b (diskP_w h2 h3 _ hv _) fun x hx=>D x hx
   |exact Q0b (nicP_w h2 h4 _ hv _) fun x hx=>N x hx
   |exact Q0b (Zdv h2 ⟨h5,h6⟩ _ hv) fun x hx=>B x hx
   |refine w_br (fun _=> ?_) (fun _=> ?_))
theorem Z1f(c:Q0c)(port:Int):(Q81 c port).w (fun r=>U r.2∧(Q2r c=true→Q2r r.1=true)):=by
 have u1:U 4294967295:=⟨by omega,by omega⟩
 unfold Q81
 refine w_br (fun _=>w_br (fun _=>⟨u1,fun h=>h⟩) (fun hb=>w_cn ?_ (w_cn ?_ ⟨Q0l _,fun hm=> ?_⟩))) (fun _=>w_br (fun _=>⟨Q0l _,fun h=>h⟩) (fun _=>⟨U_0,fun h=>h⟩))
 · have hb:=of_decide_eq_false hb
   have:0<c.Keys.length:=List.length_pos_iff.2 hb
   simp [Nat.blt];omega
 · have hb:=of_decide_eq_false hb
   have:0<c.Keys.length:=List.length_pos_iff.2 hb
   exact decide_eq_true (by omega)
 · have hm:decide ((c.Keys.length:Int)≤16)=true:=hm
   have hm:=of_decide_eq_true hm
   show decide (((List.take _ (List.drop _ c.Keys)).length:Int)≤16)=true
   refine decide_eq_true ?_
   rw[List.length_take,List.length_drop];omega
theorem Zeu{P:Nat}{m:Q00}(h:okS P m)(port:Int){clock:Int}(hc:U clock):(Q2g m port clock).w (fun r=>kept P m r.1∧U r.2):=by
 have k:=Z5s h
 obtain⟨h1,h2,h3,h4,h5,h6⟩:=h
 have id: ∀{p:Prop},p→p:=fun h=>h
 have ti: ∀t,U (Quo t):=fun t=>by
   refine Tree.post (Qlx t) (W:=U) ?_
   unfold Qlx
   exact w_br (fun _=>⟨by omega,by omega⟩) (fun _=>U_0)
 have di: ∀p,U (Qqa m.Disk p):=fun p=>by
   refine Tree.post (Qoa m.Disk p) (W:=U) ?_
   unfold Qoa
   exact w_br (fun _=>h3.block) (fun _=>w_br (fun _=>h3.frame) (fun _=>w_br (fun _=>Q0l _) (fun _=>U_0)))
 have ni: ∀p,U (Qx0 m.Nic p):=fun p=>by
   refine Tree.post (Qp9 m.Nic p) (W:=U) ?_
   unfold Qp9
   exact w_br (fun _=>h4.frame) (fun _=>w_br (fun _=>h4.got) (fun _=>w_br (fun _=>w_br (fun _=>w_br (fun _=>Q0l _) (fun _=>Q0l _)) (fun _=>w_br (fun _=>Q0l _) (fun _=>U_0))) (fun _=>U_0)))
 have bi: ∀p,(Q83 m.Balloon p).w U:=fun p=>by
   unfold Q83
   exact w_br (fun _=>h5) (fun _=>w_br (fun _=>Q0b (Zd3 h6) fun _ _=>Q0l _) (fun _=>U_0))
 have C: ∀(x:Q0c×Int),(U x.2∧(Q2r m.Console=true→Q2r x.1=true))→kept P m {Cpu:=m.Cpu,Mem:=m.Mem,Console:=x.1,Timer:=m.Timer,Disk:=m.Disk,Nic:=m.Nic,Balloon:=m.Balloon,Count:=m.Count,Waiting:=m.Waiting,Halted:=m.Halted}∧U x.2:=fun x hx=>
   ⟨⟨⟨h1,h2,h3,h4,h5,h6⟩,Qlu h2 h2 hx.2 id id id id,rfl,rfl,rfl,rfl⟩,hx.1⟩
 unfold Q2g
 repeat'(first
   |exact⟨k,hc⟩
   |exact⟨k,U_0⟩
   |exact Q0b (Z1f _ _) fun x hx=>C x hx
   |exact Z7t (Z1f _ _) fun x hx=>C x hx
   |exact w_lv fun x hx=>⟨k,by rw[hx];exact ti _⟩
   |exact w_lv fun x hx=>⟨k,by rw[hx];exact di _⟩
   |exact w_lv fun x hx=>⟨k,by rw[hx];exact ni _⟩
   |exact Q0b (bi _) fun x hx=>⟨k,hx⟩
   |refine w_br (fun _=> ?_) (fun _=> ?_))
end Go.Proofs.YtdkiadhigcfmkaaGreat
namespace Go.Proofs.YtdkiadhigcfmkaaGreat
open Go Go.GD
set_option linter.unusedVariables false
set_option linter.unusedSimpArgs false
set_option maxRecDepth 100000
structure Q6a(c:Q02):Prop where
 x0:c.X.a0=0
 st:c.Csr.a0≤31
 en:c.Csr.a7≤31
 rt:c.Csr.a6≤255
 ve:Int.tmod c.Csr.a1 4=0
theorem Q6a.pc{c:Q02}(h:Q6a c)(p:Int):Q6a {X:=c.X,Pc:=p,Csr:=c.Csr}:=⟨h.x0,h.st,h.en,h.rt,h.ve⟩
theorem and31(a:Int):iand .u32 a 31≤31:=by
 have e:(BitVec.ofInt 32 a&&&BitVec.ofInt 32 31).toNat≤31:=by
   rw[BitVec.toNat_and]
   exact Nat.le_trans Nat.and_le_right (by decide)
 show IntKind.wrap .u32 ((BitVec.ofInt 32 a&&&BitVec.ofInt 32 31).toNat:Int)≤31
 rw[IntKind.wrap_u32];omega
theorem and255'(a:Int):iand .u32 a 255≤255:=by have:=and255 a;omega
theorem andn3(a:Int):Int.tmod (Qgh .u32 a 3) 4=0:=by
 have e:(BitVec.ofInt 32 a&&&~~~BitVec.ofInt 32 3).toNat%4=0:=by
   rw[BitVec.toNat_and,show(~~~BitVec.ofInt 32 3).toNat=4294967292 by decide]
   have:=Nat.and_mod_two_pow (a:=(BitVec.ofInt 32 a).toNat) (b:=4294967292) (n:=2)
   simpa using this
 have l:=(BitVec.ofInt 32 a&&&~~~BitVec.ofInt 32 3).isLt
 show Int.tmod (IntKind.wrap .u32 ((BitVec.ofInt 32 a&&&~~~BitVec.ofInt 32 3).toNat:Int)) 4=0
 rw[IntKind.wrap_u32,Int.tmod_eq_emod_of_nonneg (by omega)]
 omega
theorem fin32{f:Int→Int}(h:(List.range 32).all (fun n=>decide (f n≤31))=true){s:Int}(h0:0≤s)(h1:s≤31):f s≤31:=by
 have:=List.all_eq_true.1 h s.toNat (List.mem_range.2 (by omega))
 have e:((s.toNat:Nat):Int)=s:=by omega
 rw[e]at this
 exact of_decide_eq_true this
theorem Qj4{c:Q02}(h:Q1v c)(m:Q6a c)(k b:Int):Q6a (Q3f c k b):=
 ⟨m.x0,fin32 (f:=fun s=>Qgh .u32 (ior .u32 (Q7g (Q7g s 1 8) 2 16) 1) 2) (by kernel_rfl) h.a0.1 m.st,m.en,m.rt,m.ve⟩
theorem Zed{c:Q02}(h:Q1v c)(m:Q6a c):Q6a (Qbm c):=
 ⟨m.x0,fin32 (f:=fun s=>Q7g (Q7g s 8 1) 16 2) (by kernel_rfl) h.a0.1 m.st,m.en,m.rt,m.ve⟩
theorem Qr5{c:Q02}(m:Q6a c){r:Int}(hr:0≤r∧r<16)(v:Int):(Q97 c r v).w Q6a:=by
 unfold Q97
 refine w_br (fun hn=>w_cn (rc hr) ?_) (fun _=>m)
 have hn:r≠0:=by simpa using hn
 obtain⟨n,e⟩: ∃n:Nat,r.toNat=n+1:=⟨r.toNat-1,by omega⟩
 refine⟨?_,m.st,m.en,m.rt,m.ve⟩
 show(A16.of 0 (List.set (A16.l c.X) r.toNat v)).a0=0
 rw[e]
 exact m.x0
theorem write_may{c:Q02}(m:Q6a c)(k v:Int):(Q89 c k v).w Q6a:=by
 unfold Q89
 refine w_br (fun hk=>w_cn (by rw[eq_of_beq hk];decide) ?_) fun _=>w_br (fun hk=>w_cn (by rw[eq_of_beq hk];decide) ?_) fun _=>w_br (fun hk=>w_cn (by rw[eq_of_beq hk];decide) ?_) fun _=>w_br (fun hk=>w_cn (by rw[eq_of_beq hk];decide) ?_) fun _=>w_br (fun hk=>w_cn (by rw[eq_of_beq hk];decide) ?_) fun _=>w_br (fun hk=>w_cn (by rw[eq_of_beq hk];decide) ?_) fun _=>w_br (fun hk=>w_cn (by rw[eq_of_beq hk];decide) ?_) fun _=>w_br (fun hk=>w_cn (by rw[eq_of_beq hk];decide) ?_) (fun _=>m)
 all_goals(have hk:=eq_of_beq hk;subst hk)
 · exact⟨m.x0,and31 _,m.en,m.rt,m.ve⟩
 · exact⟨m.x0,m.st,and31 _,m.rt,m.ve⟩
 · exact⟨m.x0,m.st,m.en,and255' _,m.ve⟩
 · exact⟨m.x0,m.st,m.en,m.rt,andn3 _⟩
 · exact⟨m.x0,m.st,m.en,m.rt,m.ve⟩
 · exact⟨m.x0,m.st,m.en,m.rt,m.ve⟩
 · exact⟨m.x0,m.st,m.en,m.rt,m.ve⟩
 · exact⟨m.x0,m.st,m.en,m.rt,m.ve⟩
section
variable {c:Q02} (h:Q1v c) (m:Q6a c) {i:Q0f} (hi:Qci i)
include h m hi
theorem Z9v:(Q2y c i).w (fun r=>Q6a r.1):=by
 unfold Q2y
 refine w_cn (rc hi.a) (w_cn (rc hi.b) ?_)
 repeat'(first
   |refine w_br (fun _=> ?_) (fun _=> ?_)
   |exact Q0b (Qr5 m hi.a _) fun x hx=>hx.pc _
   |exact w_lv fun x _=>w_br (fun _=>m.pc _) (fun _=>m.pc _)
   |exact w_lv fun x hx=>by rw[hx];exact Qj4 h m _ _
   |exact w_lv fun x hx=>by rw[hx];exact Zed h m
   |exact w_cn (by have:=hi.csr (by simp_all);simp [Nat.blt];omega) (Q0b (Qr5 m hi.a _) fun x hx=>hx.pc _)
   |exact Q0b (write_may m _ _) fun x hx=>hx.pc _
   |refine w_cn (rc hi.c) ?_
   |exact Q0b (Z1d _ (h.r _) (Q0l _)) fun y hy=>Q0b (Qr5 m hi.a _) fun x hx=>hx.pc _
   |exact Q0b (Z1d _ (h.r _) (h.r _)) fun y hy=>Q0b (Qr5 m hi.a _) fun x hx=>hx.pc _
   |refine w_lf ?_)
 all_goals exact m.pc _
theorem load_may{P:Nat}{mem:List Int}(hm:Q10 P mem):(Q9x c mem i).w (fun r=>Q6a r.1):=by
 have w:=Z4p i.Op
 unfold Q9x
 refine w_cn (rc hi.b) (w_lv fun x0 h0=> ?_)
 rw[←h0]at w
 refine Q0b (Qhn hm (Q0l _) w 2) fun x1 h1=>w_br (fun _=>w_lv fun y hy=>by rw[hy];exact Qj4 h m _ _) (fun _=>w_lv fun x3 h3=> ?_)
 rw[h0,←h3]at w
 exact Q0b (Qo1 h1.2 h1.1 w) fun x4 h4=>w_br (fun _=>Q0b (Qra h4.1 8) fun y hy=>Q0b (Qr5 m hi.a _) fun x hx=>hx.pc _) (fun _=>Q0b (Qr5 m hi.a _) fun x hx=>hx.pc _)
theorem store_may{P:Nat}{mem:List Int}(hm:Q10 P mem):(Q7n c mem i).w (fun r=>Q6a r.1):=by
 have w:=Z4p i.Op
 unfold Q7n
 refine w_cn (rc hi.b) (w_lv fun x0 h0=> ?_)
 rw[←h0]at w
 refine Q0b (Qhn hm (Q0l _) w 3) fun x1 h1=>w_br (fun _=>w_lv fun y hy=>by rw[hy];exact Qj4 h m _ _) (fun _=>w_lv fun x3 h3=>w_cn (rc hi.a) ?_)
 rw[h0,←h3]at w
 exact Q0b (Qv3 h1.2 h1.1 w (h.r _)) fun x hx=>m.pc _
end
theorem exec_may{c:Q02}(h:Q1v c)(m:Q6a c){P:Nat}{mem:List Int}(hm:Q10 P mem):(Q75 c mem).w (fun r=>Q6a r.1):=by
 unfold Q75
 refine Q0b (Z3i hm h) fun x0 h0=>w_br (fun _=>w_lv fun y hy=>by rw[hy];exact Qj4 h m _ _) (fun _=>Q0b (Qvg _) fun x2 h2=>w_br (fun _=>w_lv fun y hy=>by rw[hy];exact Qj4 h m _ _) (fun hb=> ?_))
 have hi:=h2 (by simpa using hb)
 refine w_lv fun x4 _=> ?_
 repeat'(first
   |refine w_br (fun _=> ?_) (fun _=> ?_)
   |exact Q0b (load_may h m hi h0.2) fun x hx=>hx
   |exact Q0b (store_may h m hi h0.2) fun x hx=>hx
   |exact Q0b (Z9v h m hi) fun x hx=>hx
   |exact w_lv fun y hy=>by rw[hy];exact Qj4 h m _ _
   |refine w_lv fun _ _=> ?_)
end Go.Proofs.YtdkiadhigcfmkaaGreat
namespace Go.Proofs.YtdkiadhigcfmkaaGreat
open Go Go.GD
set_option linter.unusedVariables false
set_option linter.unusedSimpArgs false
set_option maxRecDepth 100000
theorem Zay{c:Q02}(h:Q1v c){i:Q0f}(hi:Qci i):(Q2y c i).w (fun r=>0≤r.2.Reg∧r.2.Reg<16):=by
 have z:(0:Int)≤0∧(0:Int)<16:=⟨by decide,by decide⟩
 unfold Q2y
 refine w_cn (rc hi.a) (w_cn (rc hi.b) ?_)
 repeat'(first
   |refine w_br (fun _=> ?_) (fun _=> ?_)
   |exact Q0b (Qmt h hi.a (Q0l _)) fun x hx=>z
   |exact w_lv fun x _=>w_br (fun _=>z) (fun _=>z)
   |exact w_lv fun x hx=>z
   |exact w_cn (by have:=hi.csr (by simp_all);simp [Nat.blt];omega) (Q0b (Qmt h hi.a (h.a _)) fun x hx=>z)
   |exact Q0b (Zcn h _ (h.r _)) fun x hx=>z
   |refine w_cn (rc hi.c) ?_
   |exact Q0b (Z1d _ (h.r _) (Q0l _)) fun y hy=>Q0b (Qmt h hi.a hy) fun x hx=>z
   |exact Q0b (Z1d _ (h.r _) (h.r _)) fun y hy=>Q0b (Qmt h hi.a hy) fun x hx=>z
   |refine w_lf ?_)
 all_goals first|exact z|exact hi.a
theorem Zdh{c:Q02}(h:Q1v c){P:Nat}{mem:List Int}(hm:Q10 P mem):(Q75 c mem).w (fun r=>0≤r.2.2.Reg∧r.2.2.Reg<16):=by
 have z:(0:Int)≤0∧(0:Int)<16:=⟨by decide,by decide⟩
 unfold Q75
 refine Q0b (Z3i hm h) fun x0 h0=>w_br (fun _=>w_lv fun y hy=>z) (fun _=>Q0b (Qvg _) fun x2 h2=>w_br (fun _=>w_lv fun y hy=>z) (fun hb=> ?_))
 have hi:=h2 (by simpa using hb)
 refine w_lv fun x4 _=> ?_
 repeat'(first
   |refine w_br (fun _=> ?_) (fun _=> ?_)
   |exact Q0b (Qvj h hi h0.2) fun x hx=>z
   |exact Q0b (Qsc h hi h0.2) fun x hx=>z
   |exact Q0b (Zay h hi) fun x hx=>hx
   |exact w_lv fun y hy=>z
   |refine w_lv fun _ _=> ?_)
theorem cnd2{a x:Bool}:(bif a then false else x)=true↔a=false∧x=true:=by cases a<;>simp
theorem Qw3(m:Q00):Q1y m=true↔Q0s m.Mem≠0∧Q6a m.Cpu∧m.Count≤1152921504606846976∧ ¬(m.Waiting=true∧m.Halted=true)∧Q0u m=true:=by
  rw[may_eq]
  unfold mayC chain
  rw[cnd2,cnd2,cnd2,cnd2,cnd2,cnd2,cnd2]
  simp only[decide_eq_false_iff_not,Int.not_lt,beq_eq_false_iff_ne,bne_eq_false_iff_eq,gt_iff_lt]
  constructor
  · rintro⟨a1,a2,a3,a4,a5,a6,a7,a8⟩
    refine⟨a1,⟨a2,a3,a4,a5,a6⟩,a7,?_,?_⟩
    · rintro⟨w,h⟩;rw[w,h]at a8;cases a8
    · revert a8;cases m.Waiting
      · exact fun h=>h
      · cases m.Halted
        · exact fun h=>h
        · intro h;cases h
  · rintro⟨a1,⟨a2,a3,a4,a5,a6⟩,a7,a8,a9⟩
    refine⟨a1,a2,a3,a4,a5,a6,a7,?_⟩
    rw[a9]
    cases hw:m.Waiting
    · rfl
    · cases hh:m.Halted
      · rfl
      · exact absurd ⟨hw,hh⟩ a8
theorem Qus{m:Q00}(h:Q2a m=true):Q1y m=true∧m.Halted=false∧m.Count<1152921504606846976:=by
  simp only[Q2a,Q3z,Tree.m,letv]at h
  cases h1:Q1y m
  · rw[h1]at h;cases h
  · cases h2:m.Halted
    · rw[h1,h2]at h
      cases h3:Q5f m
      · rw[h3]at h
        have h:decide (m.Count<1152921504606846976)=true:=h
        exact⟨rfl,rfl,of_decide_eq_true h⟩
      · rw[h3]at h;cases h
    · rw[h1,h2]at h;cases h
theorem Z7o{P:Nat}{m:Q00}(h:okS P m)(g:Q6a m.Cpu):(Q4d m).w (fun r=>Q6a r.Cpu∧okS P r∧r.Mem=m.Mem∧r.Waiting=false∧r.Halted=m.Halted∧r.Count=m.Count∧r.Console=m.Console∧r.Timer=m.Timer∧r.Disk=m.Disk∧r.Nic=m.Nic∧r.Balloon=m.Balloon):=by
 obtain⟨h1,h2,h3,h4,h5,h6⟩:=h
 unfold Q4d
 refine w_br (fun _=>⟨g,⟨h1,h2,h3,h4,h5,h6⟩,rfl,rfl,rfl,rfl,rfl,rfl,rfl,rfl,rfl⟩) (fun _=>Q0b (Z24 (m:=⟨_,_,_,_,_,_,m.Balloon,_,_,_⟩) h6) fun x0 _=>w_lp (inv:=fun z=>0≤z∧z≤5) (μ:=Qg6 m) ⟨by omega,by omega⟩ (Nat.lt_succ_self _) (fun z hz=> ?_))
 obtain⟨z1,z2⟩:=hz
 refine w_br (fun hb=>w_cn (decide_eq_true z1) (w_br (fun _=>w_lv fun x1 hx=>⟨by rw[hx];exact Qj4 h1 g _ _,⟨by rw[hx];exact Qnx h1 _ U_0,h2,h3,h4,h5,h6⟩,rfl,rfl,rfl,rfl,rfl,rfl,rfl,rfl,rfl⟩) (fun _=>w_nx ?_))) (fun _=>⟨g,⟨h1,h2,h3,h4,h5,h6⟩,rfl,rfl,rfl,rfl,rfl,rfl,rfl,rfl,rfl⟩)
 have hb:=of_decide_eq_true hb
 show(0≤IntKind.i64.wrap (z+1)∧IntKind.i64.wrap (z+1)≤5)∧(5-IntKind.i64.wrap (z+1)).toNat<(5-z).toNat
 have ew:IntKind.i64.wrap (z+1)=z+1:=by rw[IntKind.wrap_i64];omega
 rw[ew];omega
end Go.Proofs.YtdkiadhigcfmkaaGreat
namespace Go.Proofs.YtdkiadhigcfmkaaGreat
open Go Go.GD
set_option linter.unusedVariables false
set_option linter.unusedSimpArgs false
set_option maxRecDepth 100000
structure Good(P:Nat)(m r:Q00):Prop where
 ok:okS P r
 cnt:0≤r.Count
 may:Q1y m=true→Q1y r=true
 or:r=m∨r.Count=m.Count+1
end Go.Proofs.YtdkiadhigcfmkaaGreat
namespace Go.Proofs.YtdkiadhigcfmkaaGreat
open Go Go.GD
set_option linter.unusedVariables false
set_option linter.unusedSimpArgs false
set_option maxRecDepth 100000
end Go.Proofs.YtdkiadhigcfmkaaGreat
namespace Go.Proofs.YtdkiadhigcfmkaaGreat
open Go Go.GD
set_option linter.unusedVariables false
set_option linter.unusedSimpArgs false
set_option maxRecDepth 100000
theorem step_w0{P:Nat}{m:Q00}(h:okS P m)(hc0:0≤m.Count){clock:Int}(hk:U clock):(Q4 m clock).w (fun r=>r.2.length≤1∧Good P m r.1):=by
 have hcl:Q04 m.Mem=m.Mem:=rfl
 unfold Q4
 refine w_an (Qku h.mem) (w_lv fun l hl=> ?_)
 rw[hcl]at hl;subst hl
 refine w_an (Tree.pp (runsP_w (m:=⟨_,_,_,_,_,_,m.Balloon,_,_,_⟩) h.given)).1 (w_lv fun x1 hx1=>w_br (fun _=>⟨Nat.zero_le _,h,hc0,fun h=>h, .inl rfl⟩) (fun hb=> ?_))
 have hr:Q2a m=true:=by rw[←show x1=Q2a m from hx1];simpa using hb
 obtain⟨hm,hh,hct⟩:=Qus hr
 obtain⟨g1,g2,g3,g4,g5⟩:=(Qw3 m).1 hm
 have hP:(P:Int)≠0:=by rw[←Q5d h.mem];exact g1
 have fin: ∀(n:Q00),okS P n→Q6a n.Cpu→Q0u n=true→n.Count=m.Count→ ¬(n.Waiting=true∧n.Halted=true)→Good P m {Cpu:=n.Cpu,Mem:=n.Mem,Console:=n.Console,Timer:=n.Timer,Disk:=n.Disk,Nic:=n.Nic,Balloon:=n.Balloon,Count:=IntKind.wrap .u64 (n.Count+1),Waiting:=n.Waiting,Halted:=n.Halted}:=fun n a b c d e=>by
   have ec:IntKind.wrap .u64 (n.Count+1)=m.Count+1:=by rw[d,IntKind.wrap_u64];omega
   refine⟨⟨a.cpu,a.mem,a.disk,a.nic,a.target,a.given⟩,?_,fun _=>(Qw3 _).2 ⟨?_,b,?_,e,c⟩, .inr ec⟩
   · show 0≤IntKind.wrap .u64 (n.Count+1);omega
   · show Q0s n.Mem≠0;rw[Q5d a.mem];exact hP
   · show IntKind.wrap .u64 (n.Count+1)≤_;omega
 refine Q0b (Z7o (m:=⟨_,_,m.Console,m.Timer,m.Disk,m.Nic,m.Balloon,m.Count,m.Waiting,m.Halted⟩) ⟨h.cpu,h.mem,h.disk,h.nic,h.target,h.given⟩ g2) fun x2 hx2=> ?_
 obtain⟨b1,b2,b3,b4,b5,b6,b7,b8,b9,b10,b11⟩:=hx2
 have ex:=Tree.pp (execP_w b2.cpu b2.mem)
 have em:=Tree.pp (exec_may b2.cpu b1 b2.mem)
 have er:=Tree.pp (Zdh b2.cpu b2.mem)
 refine w_an ex.1 (w_lv fun x3 h3=> ?_)
 obtain⟨e1,e2,e3⟩:Q1v x3.1∧Q10 P x3.2.1∧U x3.2.2.Value:=by rw[h3];exact ex.2
 have f1:Q6a x3.1:=by rw[h3];exact em.2
 have r1:0≤x3.2.2.Reg∧x3.2.2.Reg<16:=by rw[h3];exact er.2
 have ok3:okS P ⟨x3.1,x3.2.1,x2.Console,x2.Timer,x2.Disk,x2.Nic,x2.Balloon,x2.Count,x2.Waiting,x2.Halted⟩:=⟨e1,e2,b2.disk,b2.nic,b2.target,b2.given⟩
 have dev: ∀(w h:Bool),Q0u ⟨x3.1,x3.2.1,x2.Console,x2.Timer,x2.Disk,x2.Nic,x2.Balloon,x2.Count,w,h⟩=true:=fun w hh=>by
   have id: ∀{p:Prop},p→p:=fun h=>h
   refine Qlu (m:=m) (P:=P) h.mem e2 ?_ ?_ ?_ ?_ ?_ g5
   · show _→Q2r x2.Console=true;rw[b7];exact id
   · show _→Q5w x2.Timer=true;rw[b8];exact id
   · show _→Q3h x2.Disk P=true;rw[b9];exact id
   · show _→Q9s x2.Nic P=true;rw[b10];exact id
   · show _→Q2x x2.Balloon P=true;rw[b11];exact id
 have hw:x2.Waiting=false:=b4
 have hh2:x2.Halted=false:=b5.trans hh
 have hct2:x2.Count=m.Count:=b6
 refine w_br (fun _=> ?_) fun _=>w_br (fun _=> ?_) fun _=>w_br (fun _=> ?_) fun _=>w_br (fun _=> ?_) fun _=> ?_
 · refine Q0b (Zeu ok3 _ hk) fun x4 h4=> ?_
   obtain⟨k,u⟩:=h4
   have kc:x4.1.Cpu=x3.1:=k.cpu
   have kt:x4.1.Count=m.Count:=k.cnt.trans hct2
   have kw: ¬(x4.1.Waiting=true∧x4.1.Halted=true):=fun e=>by have:x4.1.Waiting=x2.Waiting:=k.wait;rw[this,hw]at e;cases e.1
   have km:Q6a x4.1.Cpu:=by rw[kc];exact f1
   refine w_br (fun hn=>w_cn (rc r1) ⟨Nat.zero_le _,?_⟩) (fun _=>⟨Nat.zero_le _,fin x4.1 k.ok km (k.dev (dev _ _)) kt kw⟩)
   have hn:x3.2.2.Reg≠0:=by simpa using hn
   obtain⟨q,e⟩: ∃q:Nat,x3.2.2.Reg.toNat=q+1:=⟨x3.2.2.Reg.toNat-1,by omega⟩
   refine fin ⟨⟨A16.of 0 (List.set (A16.l x4.1.Cpu.X) (Int.toNat x3.2.2.Reg) x4.2),x4.1.Cpu.Pc,x4.1.Cpu.Csr⟩,x4.1.Mem,x4.1.Console,x4.1.Timer,x4.1.Disk,x4.1.Nic,x4.1.Balloon,x4.1.Count,x4.1.Waiting,x4.1.Halted⟩ ⟨⟨Z2z k.ok.cpu.x u _,k.ok.cpu.pc,k.ok.cpu.csr⟩,k.ok.mem,k.ok.disk,k.ok.nic,k.ok.target,k.ok.given⟩ ⟨?_,km.st,km.en,km.rt,km.ve⟩ (k.dev (dev _ _)) kt kw
   show(A16.of 0 (List.set (A16.l x4.1.Cpu.X) (Int.toNat x3.2.2.Reg) x4.2)).a0=0
   rw[e]
   exact km.x0
 · refine Q0b (Zbd ok3 _ e3 _) fun x5 h5=> ?_
   obtain⟨k,u⟩:=h5
   have kc:x5.1.Cpu=x3.1:=k.cpu
   exact⟨u,fin x5.1 k.ok (by rw[kc];exact f1) (k.dev (dev _ _)) (k.cnt.trans hct2) (fun e=>by have:x5.1.Waiting=x2.Waiting:=k.wait;rw[this,hw]at e;cases e.1)⟩
 · exact⟨Nat.zero_le _,fin ⟨x3.1,x3.2.1,x2.Console,x2.Timer,x2.Disk,x2.Nic,x2.Balloon,x2.Count,true,x2.Halted⟩ ⟨e1,e2,b2.disk,b2.nic,b2.target,b2.given⟩ f1 (dev _ _) hct2 (fun e=>by have e2:x2.Halted=true:=e.2;rw[hh2]at e2;cases e2)⟩
 · exact⟨Nat.zero_le _,fin ⟨x3.1,x3.2.1,x2.Console,x2.Timer,x2.Disk,x2.Nic,x2.Balloon,x2.Count,x2.Waiting,true⟩ ⟨e1,e2,b2.disk,b2.nic,b2.target,b2.given⟩ f1 (dev _ _) hct2 (fun e=>by have e2:x2.Waiting=true:=e.1;rw[hw]at e2;cases e2)⟩
 · exact⟨Nat.zero_le _,fin ⟨x3.1,x3.2.1,x2.Console,x2.Timer,x2.Disk,x2.Nic,x2.Balloon,x2.Count,x2.Waiting,x2.Halted⟩ ok3 f1 (dev _ _) hct2 (fun e=>by have e2:x2.Waiting=true:=e.1;rw[hw]at e2;cases e2)⟩
end Go.Proofs.YtdkiadhigcfmkaaGreat
namespace Go.Proofs.YtdkiadhigcfmkaaGreat
open Go Go.GD
set_option maxRecDepth 100000
noncomputable section
def boot:List Int:=(Q55 (List.append (List.append (List.append (List.append Z3q Z1e) (List.append Z2c Z1x)) (List.append (List.append Z2a Z0v) (List.append Z20 Z23))) (List.append (List.append (List.append Z28 Z1l) (List.append Qqm Qr4)) (List.append (List.append Qqz Qqb) (List.append Qrs Qri))))).1
def Qhc:List Int:=boot++List.replicate (160-boot.length) 0
theorem run87(t0 t1 t2 t3 t4 t5 t6 t7 t8 t9 t10 t11 t12 t13 t14 t15 t16 t17 t18 t19 t20 t21 t22 t23 t24 t25 t26 t27 t28 t29 t30 t31 t32 t33 t34 t35 t36 t37 t38 t39 t40 t41 t42 t43 t44 t45 t46 t47 t48 t49 t50 t51 t52 t53 t54 t55 t56 t57 t58 t59 t60 t61 t62 t63 t64 t65 t66 t67 t68 t69 t70 t71 t72 t73 t74 t75 t76 t77 t78 t79 t80 t81 t82 t83 t84 t85 t86 t87 t88 t89 t90 t91 t92 t93 t94 t95:Int):(Qba (Q4o 8 4 (Qhc++[t0,t1,t2,t3,t4,t5,t6,t7,t8,t9,t10,t11,t12,t13,t14,t15,t16,t17,t18,t19,t20,t21,t22,t23,t24,t25,t26,t27,t28,t29,t30,t31,t32,t33,t34,t35,t36,t37,t38,t39,t40,t41,t42,t43,t44,t45,t46,t47,t48,t49,t50,t51,t52,t53,t54,t55,t56,t57,t58,t59,t60,t61,t62,t63,t64,t65,t66,t67,t68,t69,t70,t71,t72,t73,t74,t75,t76,t77,t78,t79,t80,t81,t82,t83,t84,t85,t86,t87,t88,t89,t90,t91,t92,t93,t94,t95])).1 [] 87).2.2.2=0:=by kernel_rfl
end
end Go.Proofs.YtdkiadhigcfmkaaGreat
namespace Go.Proofs.YtdkiadhigcfmkaaGreat
open Go Go.GD
attribute [local irreducible] Q55
set_option linter.unusedVariables false
set_option linter.unusedSimpArgs false
set_option maxRecDepth 100000
theorem new_mem(i j:List Int)(hi:i.length≤256)(hj:j.length≤256)(e:i++List.replicate (256-i.length) 0=j++List.replicate (256-j.length) 0):Q4o 8 4 i=Q4o 8 4 j:=by
 have w:IntKind.i64.wrap (8*32)=256:=by decide
 have m:Qm3 8=List.replicate 256 0:=by kernel_rfl
 have d: ∀k:List Int,k.length≤256→decide ((k.length:Int)>256)=false:=fun k h=>decide_eq_false (by omega)
 have mem: ∀k:List Int,k.length≤256→List.take (min k.length (List.replicate 256 (0:Int)).length) k++List.drop (min k.length (List.replicate 256 (0:Int)).length) (List.replicate 256 0)=k++List.replicate (256-k.length) 0:=fun k h=>by
   rw[List.length_replicate,Nat.min_eq_left h,List.take_length,List.drop_replicate]
 have r:Z4m 8=List.replicate 256 0:=by kernel_rfl
 simp only[Q4o,Q8s,Tree.m,w,letv,r,d i hi,d j hj]
 simp only[mem i hi,mem j hj,e]
theorem list96(t:List Int)(ht:t.length=96):t=[t.getD 0 0,t.getD 1 0,t.getD 2 0,t.getD 3 0,t.getD 4 0,t.getD 5 0,t.getD 6 0,t.getD 7 0,t.getD 8 0,t.getD 9 0,t.getD 10 0,t.getD 11 0,t.getD 12 0,t.getD 13 0,t.getD 14 0,t.getD 15 0,t.getD 16 0,t.getD 17 0,t.getD 18 0,t.getD 19 0,t.getD 20 0,t.getD 21 0,t.getD 22 0,t.getD 23 0,t.getD 24 0,t.getD 25 0,t.getD 26 0,t.getD 27 0,t.getD 28 0,t.getD 29 0,t.getD 30 0,t.getD 31 0,t.getD 32 0,t.getD 33 0,t.getD 34 0,t.getD 35 0,t.getD 36 0,t.getD 37 0,t.getD 38 0,t.getD 39 0,t.getD 40 0,t.getD 41 0,t.getD 42 0,t.getD 43 0,t.getD 44 0,t.getD 45 0,t.getD 46 0,t.getD 47 0,t.getD 48 0,t.getD 49 0,t.getD 50 0,t.getD 51 0,t.getD 52 0,t.getD 53 0,t.getD 54 0,t.getD 55 0,t.getD 56 0,t.getD 57 0,t.getD 58 0,t.getD 59 0,t.getD 60 0,t.getD 61 0,t.getD 62 0,t.getD 63 0,t.getD 64 0,t.getD 65 0,t.getD 66 0,t.getD 67 0,t.getD 68 0,t.getD 69 0,t.getD 70 0,t.getD 71 0,t.getD 72 0,t.getD 73 0,t.getD 74 0,t.getD 75 0,t.getD 76 0,t.getD 77 0,t.getD 78 0,t.getD 79 0,t.getD 80 0,t.getD 81 0,t.getD 82 0,t.getD 83 0,t.getD 84 0,t.getD 85 0,t.getD 86 0,t.getD 87 0,t.getD 88 0,t.getD 89 0,t.getD 90 0,t.getD 91 0,t.getD 92 0,t.getD 93 0,t.getD 94 0,t.getD 95 0]:=by
 apply List.ext_getElem
 · rw[ht];rfl
 · intro i h1 h2
   have e: ∀j (hj:j<96),[t.getD 0 0,t.getD 1 0,t.getD 2 0,t.getD 3 0,t.getD 4 0,t.getD 5 0,t.getD 6 0,t.getD 7 0,t.getD 8 0,t.getD 9 0,t.getD 10 0,t.getD 11 0,t.getD 12 0,t.getD 13 0,t.getD 14 0,t.getD 15 0,t.getD 16 0,t.getD 17 0,t.getD 18 0,t.getD 19 0,t.getD 20 0,t.getD 21 0,t.getD 22 0,t.getD 23 0,t.getD 24 0,t.getD 25 0,t.getD 26 0,t.getD 27 0,t.getD 28 0,t.getD 29 0,t.getD 30 0,t.getD 31 0,t.getD 32 0,t.getD 33 0,t.getD 34 0,t.getD 35 0,t.getD 36 0,t.getD 37 0,t.getD 38 0,t.getD 39 0,t.getD 40 0,t.getD 41 0,t.getD 42 0,t.getD 43 0,t.getD 44 0,t.getD 45 0,t.getD 46 0,t.getD 47 0,t.getD 48 0,t.getD 49 0,t.getD 50 0,t.getD 51 0,t.getD 52 0,t.getD 53 0,t.getD 54 0,t.getD 55 0,t.getD 56 0,t.getD 57 0,t.getD 58 0,t.getD 59 0,t.getD 60 0,t.getD 61 0,t.getD 62 0,t.getD 63 0,t.getD 64 0,t.getD 65 0,t.getD 66 0,t.getD 67 0,t.getD 68 0,t.getD 69 0,t.getD 70 0,t.getD 71 0,t.getD 72 0,t.getD 73 0,t.getD 74 0,t.getD 75 0,t.getD 76 0,t.getD 77 0,t.getD 78 0,t.getD 79 0,t.getD 80 0,t.getD 81 0,t.getD 82 0,t.getD 83 0,t.getD 84 0,t.getD 85 0,t.getD 86 0,t.getD 87 0,t.getD 88 0,t.getD 89 0,t.getD 90 0,t.getD 91 0,t.getD 92 0,t.getD 93 0,t.getD 94 0,t.getD 95 0][j]'hj=t.getD j 0:=by
     intro j hj
     have:[t.getD 0 0,t.getD 1 0,t.getD 2 0,t.getD 3 0,t.getD 4 0,t.getD 5 0,t.getD 6 0,t.getD 7 0,t.getD 8 0,t.getD 9 0,t.getD 10 0,t.getD 11 0,t.getD 12 0,t.getD 13 0,t.getD 14 0,t.getD 15 0,t.getD 16 0,t.getD 17 0,t.getD 18 0,t.getD 19 0,t.getD 20 0,t.getD 21 0,t.getD 22 0,t.getD 23 0,t.getD 24 0,t.getD 25 0,t.getD 26 0,t.getD 27 0,t.getD 28 0,t.getD 29 0,t.getD 30 0,t.getD 31 0,t.getD 32 0,t.getD 33 0,t.getD 34 0,t.getD 35 0,t.getD 36 0,t.getD 37 0,t.getD 38 0,t.getD 39 0,t.getD 40 0,t.getD 41 0,t.getD 42 0,t.getD 43 0,t.getD 44 0,t.getD 45 0,t.getD 46 0,t.getD 47 0,t.getD 48 0,t.getD 49 0,t.getD 50 0,t.getD 51 0,t.getD 52 0,t.getD 53 0,t.getD 54 0,t.getD 55 0,t.getD 56 0,t.getD 57 0,t.getD 58 0,t.getD 59 0,t.getD 60 0,t.getD 61 0,t.getD 62 0,t.getD 63 0,t.getD 64 0,t.getD 65 0,t.getD 66 0,t.getD 67 0,t.getD 68 0,t.getD 69 0,t.getD 70 0,t.getD 71 0,t.getD 72 0,t.getD 73 0,t.getD 74 0,t.getD 75 0,t.getD 76 0,t.getD 77 0,t.getD 78 0,t.getD 79 0,t.getD 80 0,t.getD 81 0,t.getD 82 0,t.getD 83 0,t.getD 84 0,t.getD 85 0,t.getD 86 0,t.getD 87 0,t.getD 88 0,t.getD 89 0,t.getD 90 0,t.getD 91 0,t.getD 92 0,t.getD 93 0,t.getD 94 0,t.getD 95 0]=(List.range 96).map (fun k=>t.getD k 0):=rfl
     simp only[this,List.getElem_map,List.getElem_range]
   rw[e i (by omega),List.getD_eq_getElem?_getD,List.getElem?_eq_getElem h1]
   rfl
theorem run_ok(t:List Int)(ht:t.length=96):(Qba (Q4o 8 4 (Qhc++t)).1 [] 87).2.2.2=0:=by
 rw[list96 t ht]
 exact run87 _ _ _ _ _ _ _ _ _ _ _ _ _ _ _ _ _ _ _ _ _ _ _ _ _ _ _ _ _ _ _ _ _ _ _ _ _ _ _ _ _ _ _ _ _ _ _ _ _ _ _ _ _ _ _ _ _ _ _ _ _ _ _ _ _ _ _ _ _ _ _ _ _ _ _ _ _ _ _ _ _ _ _ _ _ _ _ _ _ _ _ _ _ _ _ _
theorem pad_len:Qhc.length=160:=by
 have h:boot.length≤160:=asm_ok.1
 unfold Qhc
 rw[List.length_append,List.length_replicate];omega
theorem runN8_w{P:Nat}{m:Q00}(h:okM P m):(Qd4 m [] 87).w (fun x=>x.2.2.2=0→okM P x.1):=by
 have z: ∀{k:Int} {p:Prop},k≠0→k=0→p:=fun a b=>absurd b a
 unfold Qd4
 refine w_lv fun x0 _=>w_br (fun _=>z (by decide)) fun _=>w_br (fun _=>z (by decide)) fun _=>w_br (fun _=>z (by decide)) fun _=>w_an (show Q6u [] by show([]:List Q23).length≤1000000000000;decide) (w_lv fun x1 _=>w_br (fun _=>z (by decide)) fun _=>Q0b (own7_w h) fun x2 hx=> ?_)
 have hc:=h.cnt
 refine w_lp (inv:=fun v:Q00×List Q08=>okM P v.1∧v.2.length+(87-v.1.Count).toNat≤87) (μ:=Qjx m [] 87) ⟨hx.1,by rw[hx.2];show 0+_≤87;omega⟩ (Nat.lt_succ_self _) fun v0 ⟨a1,a3⟩=> ?_
 have a2:=a1.cnt
 refine w_br (fun hb=>w_br (fun _=> ?_) (fun _=>fun _=>a1)) (fun _=>fun _=>a1)
 have hb:=of_decide_eq_true hb
 refine w_lp (inv:=fun _=>True) (μ:=Qjf m [] 87 v0) trivial (Nat.lt_succ_self _) fun v1 _=> ?_
 refine w_br (fun _=>fun _=>a1) fun _=>Q0b (idle_w _) fun x3 _=>w_br (fun _=>fun _=>a1) fun _=>Q0b (reads_w a1.cpu a1.mem) fun x4 _=>w_br (fun _=>z (by decide)) fun _=>Q0b (Z0n a1 U_0) fun x5 h5=> ?_
 obtain⟨b1,b2,b3⟩:=h5
 refine w_cn (decide_eq_true (by omega)) (w_nx ?_)
 have e:x5.2.Count=v0.1.Count+1:=by rw[b3,IntKind.wrap_u64];omega
 show(_∧_)∧(_:Nat)<_
 refine⟨⟨b2,by show(v0.2++x5.1).length+(87-x5.2.Count).toNat≤87;rw[List.length_append];omega⟩,by show(87-x5.2.Count).toNat<(87-v0.1.Count).toNat;omega⟩
theorem Zex(kind:Int)(l:List Int)(hl:l.length*8≤reachBytes)(h40:l.length≤40):(Q9a kind l).w (okM 8):=by
  unfold Q9a
  refine w_an (Q3q (by decide)) (w_lv fun x0 hx0=>w_br (fun _=>w_an asm_pre (w_lv fun x1 e1=> ?_)) (fun hk=> ?_))
  · have eb:x1.1=boot:=by rw[e1];rfl
    obtain⟨q1,q2⟩:boot.length≤160∧ ∀w∈boot,U w:=asm_ok
    refine w_lp (inv:=fun v:List Int=>v.length≤160∧v=boot++List.replicate (v.length-boot.length) 0) (μ:=Qgj kind l) ⟨by rw[eb];exact q1,by rw[eb];simp⟩ (Nat.lt_succ_self _) fun v0 ⟨a1,a2⟩=> ?_
    have a3:boot.length≤v0.length:=by rw[a2,List.length_append];omega
    refine w_br (fun hb=> ?_) (fun hb=> ?_)
    · have hb:=of_decide_eq_true hb
      refine w_cn (decide_eq_true (by omega)) (w_nx ?_)
      show(_∧_)∧(_:Nat)<_
      refine⟨⟨by rw[List.length_append,List.length_singleton];omega,?_⟩,by show 160-(v0++[0]).length<160-v0.length;rw[List.length_append,List.length_singleton];omega⟩
      show v0++[0]=boot++List.replicate ((v0++[0]).length-boot.length) 0
      rw[List.length_append,List.length_singleton,show v0.length+1-boot.length=(v0.length-boot.length)+1 by omega,List.replicate_succ',←List.append_assoc,←a2]
    · have hb:=of_decide_eq_false hb
      have hv:v0=Qhc:=by
        unfold Qhc
        rw[show(160:Nat)=v0.length by omega]
        exact a2
      subst hv
      have hp:=pad_len
      have hu0: ∀w∈Qhc,U w:=fun w hw=>(List.mem_append.1 hw).elim (q2 w) (U_all _ w)
      refine Q0b (code_w l hl) fun x2 ⟨b1,b2⟩=>w_cn (decide_eq_true (by omega)) ?_
      have hu: ∀w∈Qhc++x2,U w:=fun w hw=>(List.mem_append.1 hw).elim (hu0 w) (b2 w)
      have hlen:(Qhc++x2).length≤256:=by rw[List.length_append];omega
      refine w_br (fun hb=> ?_) (fun hb=> ?_)
      · have hb:=of_decide_eq_true hb;omega
      · have nw:=Tree.pp (new_w _ hu hlen)
        refine w_an nw.1 (w_lv fun x3 h3=> ?_)
        have c1:okM 8 x3.1:=by rw[h3];exact nw.2.1
        have rn:=Tree.pp (runN8_w c1)
        refine w_br (fun _=>w_an rn.1 (w_lv fun x4 hx=> ?_)) (fun _=>c1)
        have e:x3=Q4o 8 4 (Qhc++(x2++List.replicate (96-x2.length) 0)):=by
          rw[h3]
          have hl2:(x2++List.replicate (96-x2.length) (0:Int)).length=96:=by rw[List.length_append,List.length_replicate];omega
          refine new_mem _ _ hlen (by rw[List.length_append,hl2];omega) ?_
          rw[List.length_append,List.length_append,hl2,hp,List.append_assoc,List.append_assoc,List.append_assoc,show 256-(160+96)=0 by omega,show 256-(160+x2.length)=96-x2.length by omega]
          simp
        have h0:x4.2.2.2=0:=by
          rw[hx,e]
          exact run_ok _ (by rw[List.length_append,List.length_replicate];omega)
        exact(by rw[hx];exact rn.2:x4.2.2.2=0→okM 8 x4.1) h0
  · have hk:=of_decide_eq_false hk
    refine Q0b (code_w l hl) fun x2 ⟨b1,b2⟩=>w_cn (decide_eq_true (by omega)) ?_
    refine w_br (fun hb=> ?_) (fun hb=> ?_)
    · have hb:=of_decide_eq_true hb;omega
    · have nw:=Tree.pp (new_w _ b2 (by omega))
      refine w_an nw.1 (w_lv fun x3 h3=> ?_)
      have c1:okM 8 x3.1:=by rw[h3];exact nw.2.1
      exact w_br (fun h=>absurd (eq_of_beq h) (by omega)) (fun _=>c1)
theorem Zfq(kind:Int)(l acts:List Int)(hl:l.length*8≤reachBytes)(h40:l.length≤40)(ha:acts.length≤30):(Q90 kind l acts).w (okM 8):=by
 unfold Q90
 exact Q0b (Zex kind l hl h40) fun x0 h=>Q0b (play_w h acts ha) fun x1 hx=>hx.m
end Go.Proofs.YtdkiadhigcfmkaaGreat
namespace Go.Proofs.YtdkiadhigcfmkaaGreat
open Go Go.GD
set_option linter.unusedVariables false
set_option linter.unusedSimpArgs false
set_option maxRecDepth 100000
structure okW(m:Q00):Prop where
 cpu:Q1v m.Cpu
 u: ∀w∈m.Mem,U w
 len:m.Mem.length≤1024
 disk:Qaq m.Disk
 nic:Qj6 m.Nic
 bal:okB m.Balloon
 cnt:0≤m.Count
theorem Z9i{c:Q02}(h:Q1v c){i:Nat}{v:Int}(hv:U v){x:A8 Int}(hx:x=A8.of 0 (List.set (A8.l c.Csr) i v))(p:Int)(hp:U p):Q1v {X:=c.X,Pc:=p,Csr:=x}:=⟨h.x,hp,by rw[hx];exact Qp5 h.csr hv i⟩
theorem bend_w{P:Nat}{m:Q00}(h:okM P m)(hP:1≤P)(hc:0≤m.Count)(where0 what:Int)(hd: ∀k:Int,0≤k→k≤128→Q3t what k):(Qf3 m where0 what).w okW:=by
 unfold Qf3
 refine Q0b (own7_w h) fun x0 ⟨g,hct⟩=>w_an (Q3q (by decide)) (w_lv fun x1 _=> ?_)
 have hc:0≤x0.Count:=by rw[hct];exact hc
 obtain⟨h1,h2,h3,h4,h5,_⟩:=g
 have hl:=h2.len
 have hp2:=h2.p2
 have hlen:x0.Mem.length≤1024:=by omega
 have hne:(x0.Mem.length:Int)≠0:=by omega
 have rr: ∀k:Int,0<k→k≤1000000→0≤Q1g what k∧Q1g what k<k:=fun k a b=>Qwt a (by omega)
 have rl:=rr x0.Mem.length (by omega) (by omega)
 have C: ∀c,Q1v c→okW {Cpu:=c,Mem:=x0.Mem,Console:=x0.Console,Timer:=x0.Timer,Disk:=x0.Disk,Nic:=x0.Nic,Balloon:=x0.Balloon,Count:=x0.Count,Waiting:=x0.Waiting,Halted:=x0.Halted}:=fun c a=>⟨a,h2.u,hlen,h3,h4,h5,hc⟩
 have M: ∀l:List Int,(∀w∈l,U w)→l.length≤1024→okW {Cpu:=x0.Cpu,Mem:=l,Console:=x0.Console,Timer:=x0.Timer,Disk:=x0.Disk,Nic:=x0.Nic,Balloon:=x0.Balloon,Count:=x0.Count,Waiting:=x0.Waiting,Halted:=x0.Halted}:=fun l a b=>⟨h1,a,b,h3,h4,h5,hc⟩
 have D: ∀d,Qaq d→okW {Cpu:=x0.Cpu,Mem:=x0.Mem,Console:=x0.Console,Timer:=x0.Timer,Disk:=d,Nic:=x0.Nic,Balloon:=x0.Balloon,Count:=x0.Count,Waiting:=x0.Waiting,Halted:=x0.Halted}:=fun d a=>⟨h1,h2.u,hlen,a,h4,h5,hc⟩
 have N: ∀n,Qj6 n→okW {Cpu:=x0.Cpu,Mem:=x0.Mem,Console:=x0.Console,Timer:=x0.Timer,Disk:=x0.Disk,Nic:=n,Balloon:=x0.Balloon,Count:=x0.Count,Waiting:=x0.Waiting,Halted:=x0.Halted}:=fun n a=>⟨h1,h2.u,hlen,h3,a,h5,hc⟩
 refine w_br (fun _=>C _ (h1.pcs (Q0l _))) fun _=> ?_
 refine w_br (fun _=>w_an (Q3q (by decide)) (w_lv fun x2 e2=>w_cn (by rw[e2];exact rc (rr 16 (by decide) (by decide))) (C _ ⟨Z2z h1.x (Q0l _) _,h1.pc,h1.csr⟩))) fun _=> ?_
 refine w_br (fun _=>w_an (Q3q (by decide)) (w_lv fun x3 e3=>w_cn (by rw[e3];have:=rr 8 (by decide) (by decide);simp [Nat.blt];omega) (C _ ⟨h1.x,h1.pc,Qp5 h1.csr (Qq3 (Q0l _) _) _⟩))) fun _=> ?_
 refine w_br (fun _=>C _ (Z9i h1 (i:=0) (Qhe _ _) rfl _ h1.pc)) fun _=> ?_
 refine w_br (fun _=>C _ (Z9i h1 (i:=7) (Qhe _ _) rfl _ h1.pc)) fun _=> ?_
 refine w_br (fun _=>w_an (Q3q hne) (w_lv fun x4 e4=>w_cn (by rw[e4];simp [Nat.blt];omega) (M _ (Qv8 h2.u (Q0l _) _) (by rw[List.length_set];exact hlen)))) fun _=> ?_
 refine w_br (fun _=>w_an (Q3q hne) (w_lv fun x5 e5=>w_an (Z3r _) (w_lv fun x6 _=>w_lv fun x7 e7=>w_cn (by rw[e5];simp [Nat.blt];omega) (M _ (Qv8 h2.u (by rw[e7];exact Zcu _) _) (by rw[List.length_set];exact hlen))))) fun _=> ?_
 refine w_br (fun _=>w_an (Q3q (by decide)) (w_lv fun x8 e8=>w_an (hd _ (by rw[e8];exact(rr 18 (by decide) (by decide)).1) (by rw[e8];have:=(rr 18 (by decide) (by decide)).2;omega)) (w_lv fun x9 _=>⟨h1,h2.u,hlen,h3,h4,h5,hc⟩))) fun _=> ?_
 refine w_br (fun _=>⟨h1,h2.u,hlen,h3,h4,h5,hc⟩) fun _=> ?_
 refine w_br (fun _=>D _ ⟨h3.block,h3.frame,h3.opBlock,h3.opFrame⟩) fun _=> ?_
 refine w_br (fun _=>w_br (fun _=>w_an (hd _ (by decide) (by decide)) (w_lv fun x10 _=>D _ ⟨U_0,U_0,Qhe _ _,Qhe _ _⟩)) (fun _=>D _ ⟨U_0,U_0,Qhe _ _,Qhe _ _⟩)) fun _=> ?_
 refine w_br (fun _=>D _ ⟨Qhe _ _,Qhe _ _,h3.opBlock,h3.opFrame⟩) fun _=> ?_
 refine w_br (fun _=>N _ ⟨Qhe _ _,Qhe _ _,Qhe _ _,U_0⟩) fun _=> ?_
 refine w_br (fun _=>N _ ⟨U_0,U_0,U_0,Qhe _ _⟩) fun _=> ?_
 refine w_br (fun _=>⟨h1,h2.u,hlen,h3,h4,⟨Qhe _ _,Qhe _ _⟩,hc⟩) fun _=> ?_
 refine w_br (fun _=>⟨h1,h2.u,hlen,h3,h4,h5,hc⟩) fun _=> ?_
 refine w_br (fun _=>⟨h1,h2.u,hlen,h3,h4,h5,hc⟩) fun _=> ?_
 refine w_br (fun _=>⟨h1,h2.u,hlen,h3,h4,h5,by show 0≤IntKind.u64.wrap what;rw[IntKind.wrap_u64];omega⟩) fun _=> ?_
 refine w_br (fun _=>w_an (Q3q hne) (w_lv fun x11 e11=>w_cn (by rw[e11];simp [Nat.blt];omega) (M _ (fun w hw=>h2.u w (List.mem_of_mem_drop (List.mem_of_mem_take hw))) (by rw[List.length_take,List.length_drop];omega)))) fun _=> ?_
 refine w_br (fun _=>⟨h1,h2.u,hlen,h3,h4,h5,by show 0≤IntKind.u64.wrap _;rw[IntKind.wrap_u64];omega⟩) fun _=> ?_
 refine w_br (fun _=>C _ (Z9i h1 (i:=6) (Qhe _ _) rfl _ h1.pc)) fun _=> ?_
 exact w_br (fun _=>C _ (h1.pcs (Q0l _))) (fun _=>⟨h1,h2.u,hlen,h3,h4,h5,hc⟩)
end Go.Proofs.YtdkiadhigcfmkaaGreat
namespace Go.Proofs.YtdkiadhigcfmkaaGreat
open Go Go.GD
set_option linter.unusedVariables false
set_option linter.unusedSimpArgs false
set_option maxRecDepth 100000
theorem Z3k{a:Int}(h:U a):(BitVec.ofInt 32 a).toNat=a.toNat:=by
 obtain⟨h1,h2⟩:=h
 rw[BitVec.toNat_ofInt];omega
theorem Z9y{a b:Int}(ha:U a)(hb:U b):iand .u32 a b=((a.toNat&&&b.toNat:Nat):Int):=by
 have l:=(BitVec.ofInt 32 a&&&BitVec.ofInt 32 b).isLt
 have e:(BitVec.ofInt 32 a&&&BitVec.ofInt 32 b).toNat=a.toNat&&&b.toNat:=by rw[BitVec.toNat_and,Z3k ha,Z3k hb]
 show IntKind.wrap .u32 ((BitVec.ofInt 32 a&&&BitVec.ofInt 32 b).toNat:Int)=_
 rw[IntKind.wrap_u32,←e];omega
theorem or_nat{a b:Int}(ha:U a)(hb:U b):ior .u32 a b=((a.toNat|||b.toNat:Nat):Int):=by
 have l:=(BitVec.ofInt 32 a|||BitVec.ofInt 32 b).isLt
 have e:(BitVec.ofInt 32 a|||BitVec.ofInt 32 b).toNat=a.toNat|||b.toNat:=by rw[BitVec.toNat_or,Z3k ha,Z3k hb]
 show IntKind.wrap .u32 ((BitVec.ofInt 32 a|||BitVec.ofInt 32 b).toNat:Int)=_
 rw[IntKind.wrap_u32,←e];omega
theorem Z2l{a:Int}(ha:U a)(k:Nat)(hk:k≤32){q:Int}(hq:q=((2^k-1:Nat):Int)):iand .u32 a q=a%2^k:=by
 have hp:2^k≤2^32:=Nat.pow_le_pow_right (by decide) hk
 have h1:(2:Nat)^32=4294967296:=by decide
 have hpos:=Nat.two_pow_pos k
 subst hq
 rw[Z9y ha ⟨by omega,by omega⟩,Int.toNat_natCast,Nat.and_two_pow_sub_one_eq_mod]
 have:=ha.1
 rw[Int.natCast_emod,Int.toNat_of_nonneg this]
 simp
theorem m15{a:Int}(ha:U a):iand .u32 a 15=a%16:=Z2l ha 4 (by decide) rfl
theorem m255{a:Int}(ha:U a):iand .u32 a 255=a%256:=Z2l ha 8 (by decide) rfl
theorem m65535{a:Int}(ha:U a):iand .u32 a 65535=a%65536:=Z2l ha 16 (by decide) rfl
theorem Qob(p:Int→Bool)(N:Nat)(h:(List.range N).all (fun n=>p n)=true){s:Int}(h0:0≤s)(h1:s<N):p s=true:=by
 have:=List.all_eq_true.1 h s.toNat (List.mem_range.2 (by omega))
 rwa [Int.toNat_of_nonneg h0]at this
theorem w64{x:Int}(h0: -9223372036854775808≤x)(h1:x<9223372036854775808):IntKind.wrap .i64 x=x:=by rw[IntKind.wrap_i64];omega
theorem shr0(a:Int):ishr .u32 a 0=a:=by have:=Qmo (a:=a) 0 (by decide);simpa using this
theorem fld(w:Int):Q28 w 24 8=iand .u32 (ishr .u32 w 24) 255∧Q28 w 20 4=iand .u32 (ishr .u32 w 20) 15∧Q28 w 16 4=iand .u32 (ishr .u32 w 16) 15∧Q28 w 0 16=iand .u32 (ishr .u32 w 0) 65535∧Q28 w 8 8=iand .u32 (ishr .u32 w 8) 255:=
 ⟨by kernel_rfl,by kernel_rfl,by kernel_rfl,by kernel_rfl,by kernel_rfl⟩
def useOf(f:Int):Q7d×Bool:=
 bif f==1 then(⟨false,false,false,0,0⟩,true) else bif f==2 then(⟨true,true,true,0,0⟩,true) else bif f==3 then(⟨true,true,false,-32768,32767⟩,true)
 else bif f==4 then(⟨true,true,false,0,65535⟩,true) else bif f==5 then(⟨true,true,false,0,31⟩,true) else bif f==6 then(⟨true,false,false,0,65535⟩,true)
 else bif f==7 then(⟨true,false,false,-32768,32767⟩,true) else bif f==8 then(⟨true,false,false,0,7⟩,true) else bif f==9 then(⟨true,false,false,0,11⟩,true) else(⟨false,false,false,0,0⟩,false)
def sameU(x y:Q7d×Bool):Bool:=x.1.a==y.1.a&&x.1.b==y.1.b&&x.1.c==y.1.c&&x.1.low==y.1.low&&x.1.high==y.1.high&&x.2==y.2
theorem sameU_eq{x y:Q7d×Bool}(h:sameU x y=true):x=y:=by
 obtain⟨⟨a,b,c,d,e⟩,f⟩:=x
 obtain⟨⟨a',b',c',d',e'⟩,f'⟩:=y
 simp only[sameU,Bool.and_eq_true,beq_iff_eq]at h
 obtain⟨⟨⟨⟨⟨rfl,rfl⟩,rfl⟩,rfl⟩,rfl⟩,rfl⟩:=h
 rfl
theorem use_eq{op:Int}(h0:0≤op)(h1:op<256):Qxh op=useOf (Q1q op):=by
 exact sameU_eq (Qob (fun op=>sameU (Qxh op) (useOf (Q1q op))) 256 (by kernel_rfl) h0 h1)
theorem form_le{op:Int}(h0:0≤op)(h1:op<256):Q1q op=0∨Q1q op=1∨Q1q op=2∨Q1q op=3∨Q1q op=4∨Q1q op=5∨Q1q op=6∨Q1q op=7∨Q1q op=8∨Q1q op=9:=by
 have:=of_decide_eq_true (Qob (fun op=>decide (0≤Q1q op∧Q1q op≤9)) 256 (by kernel_rfl) h0 h1)
 omega
theorem priv_eq{op:Int}(h0:0≤op)(h1:op<256):Q73 op=Q49 op:=by
 exact eq_of_beq (Qob (fun op=>Q73 op==Q49 op) 256 (by kernel_rfl) h0 h1)
theorem cond_iff{a x y:Bool}:(cond a x y=true)↔((a=true∧x=true)∨(a=false∧y=true)):=by cases a<;>simp
theorem Z4f{i:Q0f}(h0:0≤i.Op)(h1:i.Op<256)(hi:IntKind.wrap .i64 i.Imm=i.Imm):Qck i=Q72 i:=by
 rw[Bool.eq_iff_iff]
 simp only[Qck,Qfq,Tree.m,letv,Q72,Qch,use_eq h0 h1,hi]
 rcases form_le h0 h1 with h|h|h|h|h|h|h|h|h|h<;>rw[h]<;>
 simp [useOf,Q7h,Qcd,Q6q,Qb,Qil,Qjb,Tree.m,letv,cond_iff]<;>omega
theorem sx16{x:Int}(h0:0≤x)(h1:x<65536):IntKind.wrap .i32 (Q1p x 16)=IntKind.wrap .i32 (IntKind.wrap .i16 x):=by
 have e:Q1p x 16=IntKind.wrap .u32 (ishr .i32 (IntKind.wrap .i32 (ishl .u32 x 16)) 16):=by kernel_rfl
 have e2: ∀y,ishr .i32 y 16=y/65536:=fun y=>by
   show Int.fdiv y 65536=_
   rw[Int.fdiv_eq_ediv_of_nonneg _ (by decide)]
 have e3:ishl .u32 x 16=IntKind.wrap .u32 (x*65536):=rfl
 have e4:IntKind.wrap .i16 x=(x+32768)%65536-32768:=by
   simp [IntKind.wrap,IntKind.bits,IntKind.signed]
   split<;>omega
 rw[e,e2,e3,e4]
 simp only[IntKind.wrap_i32,IntKind.wrap_u32]
 omega
theorem sx8{x:Int}(h0:0≤x)(h1:x<256):Q1p x 8=Q2h x 8:=by
 exact eq_of_beq (Qob (fun x=>Q1p x 8==Q2h x 8) 256 (by kernel_rfl) h0 h1)
theorem decode_eq{w:Int}(hw:U w):Qeb w=Q2t w:=by
 obtain⟨f1,f2,f3,f4,_⟩:=fld w
 obtain⟨w0,w1⟩:=hw
 have s24:ishr .u32 w 24=w/16777216:=by have:=Qmo (a:=w) 24 (by decide);simpa using this
 have s20:U (ishr .u32 w 20):=Qq3 ⟨w0,w1⟩ _
 have s16:U (ishr .u32 w 16):=Qq3 ⟨w0,w1⟩ _
 rw[m255 (Qq3 ⟨w0,w1⟩ _),s24]at f1
 rw[m15 s20]at f2
 rw[m15 s16]at f3
 rw[shr0]at f4
 have g1:w/16777216%256=w/16777216:=by omega
 rw[g1]at f1
 have o0:0≤w/16777216:=by omega
 have o1:w/16777216<256:=by omega
 have eo:IntKind.wrap .i64 (w/16777216)=w/16777216:=w64 (by omega) (by omega)
 have i32: ∀x,IntKind.wrap .i64 (IntKind.wrap .i32 x)=IntKind.wrap .i32 x:=fun x=>by rw[IntKind.wrap_i64,IntKind.wrap_i32];omega
 have l0:=m65535 ⟨w0,w1⟩
 have lx:=sx16 (x:=iand .u32 w 65535) (by omega) (by omega)
 simp only[Qeb,Q85,Q2t,Q8q,Tree.m,letv,f1,f2,f3,f4,s24,eo,use_eq o0 o1,m15 s20,m15 s16,lx]
 generalize w/16777216=op at*
 generalize IntKind.wrap .i64 (ishr .u32 w 20%16)=a
 generalize IntKind.wrap .i64 (ishr .u32 w 16%16)=b
 generalize iand .u32 w 65535=l
 rw[Z4f (i:=⟨op,a,b,IntKind.wrap .i64 l,0⟩) o0 o1 rfl,Z4f (i:=⟨op,a,b,0,IntKind.wrap .i32 (IntKind.wrap .i16 l)⟩) o0 o1 (i32 _),Z4f (i:=⟨op,a,b,0,IntKind.wrap .i32 l⟩) o0 o1 (i32 _)]
 rcases form_le o0 o1 with h|h|h|h|h|h|h|h|h|h<;>rw[h]<;>rfl
end Go.Proofs.YtdkiadhigcfmkaaGreat
namespace Go.Proofs.YtdkiadhigcfmkaaGreat
open Go Go.GD
set_option linter.unusedVariables false
set_option linter.unusedSimpArgs false
set_option maxRecDepth 100000
def putW(W v:Int)(s:Nat):Int:=ior .u32 (Qgh .u32 W (ishl .u32 255 s)) (ishl .u32 (iand .u32 v 255) s)
def dig(w:Int)(k:Nat):Int:=if k=0 then w%256 else if k=1 then w/256%256 else if k=2 then w/65536%256 else w/16777216%256
def byt(m:List Int)(a:Nat):Int:=dig (m.getD (a/4) 0) (a%4)
theorem dig_lt(w:Int)(k:Nat):0≤dig w k∧dig w k<256:=by
 unfold dig
 split
 · omega
 · split
   · omega
   · split<;>omega
theorem dig_ext{w v:Int}(hw:U w)(hv:U v)(h: ∀k,k<4→dig w k=dig v k):w=v:=by
 have h0:=h 0 (by omega)
 have h1:=h 1 (by omega)
 have h2:=h 2 (by omega)
 have h3:=h 3 (by omega)
 simp [dig]at h0 h1 h2 h3
 obtain⟨a,b⟩:=hw
 obtain⟨c,d⟩:=hv
 omega
theorem byt_ext{m n:List Int}(hl:m.length=n.length)(hm: ∀w∈m,U w)(hn: ∀w∈n,U w)(h: ∀a,byt m a=byt n a):m=n:=by
 refine List.ext_getElem hl fun i h1 h2=> ?_
 have e1:m[i]=m.getD i 0:=by simp [List.getD,h1]
 have e2:n[i]=n.getD i 0:=by simp [List.getD,h2]
 rw[e1,e2]
 refine dig_ext (Qjo hm i) (Qjo hn i) fun k hk=> ?_
 have:=h (4*i+k)
 simp only[byt]at this
 rwa [show(4*i+k)/4=i by omega,show(4*i+k)%4=k by omega]at this
theorem Qpf{l:List Int}{i:Nat}(h:i<l.length)(v:Int):(l.set i v).getD i 0=v:=by
 simp [List.getD,h]
theorem byt_set{m:List Int}{i:Nat}(hi:i<m.length)(v:Int)(a:Nat):byt (m.set i v) a=if a/4=i then dig v (a%4) else byt m a:=by
 unfold byt
 split
 · rename_i h;rw[h,Qpf hi]
 · rename_i h;rw[getDset _ _ _ _ (fun e=>h e.symm)]
theorem or_add{x y:Int}(hx:U x)(hy:U y)(k:Nat)(hk:x<2^k)(h:x+y*2^k<4294967296):ior .u32 x (y*2^k)=x+y*2^k:=by
 obtain⟨n,rfl⟩: ∃n:Nat,x=n:=⟨x.toNat,by have:=hx.1;omega⟩
 obtain⟨z,rfl⟩: ∃n:Nat,y=n:=⟨y.toNat,by have:=hy.1;omega⟩
 have e:((z:Int)*2^k)=((z*2^k:Nat):Int):=by simp
 rw[e]at h⊢
 have hn:n<2^k:=by exact_mod_cast hk
 rw[or_nat hx ⟨by omega,by omega⟩,Int.toNat_natCast,Int.toNat_natCast,Nat.or_comm,Nat.mul_comm,←Nat.two_pow_add_eq_or_of_lt hn]
 omega
theorem four{a b c d:Int}(ha:0≤a∧a<256)(hb:0≤b∧b<256)(hc:0≤c∧c<256)(hd:0≤d∧d<256):ior .u32 (ior .u32 (ior .u32 (IntKind.wrap .u32 a) (ishl .u32 (IntKind.wrap .u32 b) 8)) (ishl .u32 (IntKind.wrap .u32 c) 16)) (ishl .u32 (IntKind.wrap .u32 d) 24)=a+b*2^8+c*2^16+d*2^24:=by
 have w: ∀{x:Int},0≤x∧x<256→IntKind.wrap .u32 x=x:=fun hx=>by rw[IntKind.wrap_u32];omega
 have s8: ∀{x:Int},0≤x∧x<256→ishl .u32 x 8=x*2^8:=fun{x} hx=>by show IntKind.wrap .u32 (x*2^8)=_;rw[IntKind.wrap_u32];omega
 have s16: ∀{x:Int},0≤x∧x<256→ishl .u32 x 16=x*2^16:=fun{x} hx=>by show IntKind.wrap .u32 (x*2^16)=_;rw[IntKind.wrap_u32];omega
 have s24: ∀{x:Int},0≤x∧x<256→ishl .u32 x 24=x*2^24:=fun{x} hx=>by show IntKind.wrap .u32 (x*2^24)=_;rw[IntKind.wrap_u32];omega
 rw[w ha,w hb,w hc,w hd,s8 hb,s16 hc,s24 hd]
 rw[or_add ⟨by omega,by omega⟩ ⟨by omega,by omega⟩ 8 (by omega) (by omega),or_add ⟨by omega,by omega⟩ ⟨by omega,by omega⟩ 16 (by omega) (by omega),or_add ⟨by omega,by omega⟩ ⟨by omega,by omega⟩ 24 (by omega) (by omega)]
theorem four_dig{a b c d:Int}(ha:0≤a∧a<256)(hb:0≤b∧b<256)(hc:0≤c∧c<256)(hd:0≤d∧d<256)(k:Nat)(hk:k<4):dig (a+b*2^8+c*2^16+d*2^24) k=if k=0 then a else if k=1 then b else if k=2 then c else d:=by
 have hk:k=0∨k=1∨k=2∨k=3:=by omega
 rcases hk with rfl|rfl|rfl|rfl<;>simp [dig]<;>omega
theorem Zb8{P:Nat}{m:List Int}(h:Q10 P m)(f:Int):Q41 m f=decide (0≤f∧f<P):=by
 have hp:=Q5d h
 simp only[Q41,Q6w,Tree.m,letv,hp]
 by_cases h1:0≤f
 · rw[decide_eq_true h1];simp [h1]
 · rw[decide_eq_false h1];simp [h1]
theorem getD_cut(s:List UInt8)(a b k:Nat)(h:k<b):(List.take b (List.drop a s)).getD k 0=s.getD (a+k) 0:=by
 simp [List.getD_eq_getElem?_getD,List.getElem?_take,h]
theorem u8I(x:UInt8):0≤(x.toNat:Int)∧(x.toNat:Int)<256:=by have:=x.toNat_lt;omega
theorem setPage_b{P:Nat}{m:List Int}(h:Q10 P m){f:Int}(f0:0≤f)(f1:f<P){s:List UInt8}(hs:s.length=128):(Q2k m f s).w (fun r=>r.2=true∧Q10 P r.1∧ ∀b:Nat,byt r.1 b=if f*128≤b∧(b:Int)<f*128+128 then((s.getD (b-f*128).toNat 0).toNat:Int) else byt m b):=by
  have hcl:Q04 m=m:=rfl
  have h2:=h.p2
  unfold Q2k
  refine w_an (Qku h) (w_lv fun x0 hx0=>w_lv fun x1 hx1=> ?_)
  rw[hcl]at hx0;subst hx0
  rw[Zb8 h,decide_eq_true ⟨f0,f1⟩]at hx1
  subst hx1
  refine w_br (fun hb=>by cases hb) fun _=>w_br (fun hb=>by simp [hs]at hb) fun _=> ?_
  refine w_lp (inv:=fun z:Int×List Int=>0≤z.1∧z.1≤32∧Q10 P z.2∧ ∀b:Nat,byt z.2 b=if f*128≤b∧(b:Int)<f*128+4*z.1 then((s.getD (b-f*128).toNat 0).toNat:Int) else byt x0 b) (μ:=Q8w x0 f s) ⟨show(0:Int)≤0 by decide,show(0:Int)≤32 by decide,h,fun b=>by rw[if_neg];show¬(_∧_<_+4*(0:Int));omega⟩ (Nat.lt_succ_self _) fun z ⟨z1,z2,z3,z4⟩=> ?_
  refine w_br (fun hb=> ?_) (fun hb=>⟨rfl,z3,fun b=> ?_⟩)
  · have hb:=of_decide_eq_true hb
    have e1:IntKind.i64.wrap (4*z.1)=4*z.1:=by rw[IntKind.wrap_i64];omega
    have e2:IntKind.i64.wrap (IntKind.i64.wrap (4*z.1)+4)=4*z.1+4:=by rw[IntKind.wrap_i64,IntKind.wrap_i64];omega
    have e3:IntKind.i64.wrap (IntKind.i64.wrap (f*32)+z.1)=f*32+z.1:=by rw[IntKind.wrap_i64,IntKind.wrap_i64];omega
    have hl:=z3.len
    have cut:Int.toNat (IntKind.i64.wrap (IntKind.i64.wrap (4*z.1)+4))-Int.toNat (IntKind.i64.wrap (4*z.1))=4:=by rw[e2,e1];omega
    have hlen:(List.take (Int.toNat (IntKind.i64.wrap (IntKind.i64.wrap (4*z.1)+4))-Int.toNat (IntKind.i64.wrap (4*z.1))) (List.drop (Int.toNat (IntKind.i64.wrap (4*z.1))) s)).length=4:=by
      rw[cut,e1,List.length_take,List.length_drop];omega
    refine w_cn (decide_eq_true (by rw[e2,e1];omega)) ?_
    refine w_cn (decide_eq_true (by rw[hlen];decide)) (w_cn (decide_eq_true (by rw[hlen];decide)) (w_cn (decide_eq_true (by rw[hlen];decide)) (w_cn (decide_eq_true (by rw[hlen];decide)) (w_cn (by rw[e3];simp [Nat.blt];omega) (w_nx ?_)))))
    have ew:IntKind.i64.wrap (z.1+1)=z.1+1:=by rw[IntKind.wrap_i64];omega
    rw[cut]
    refine⟨⟨by show 0≤IntKind.i64.wrap (z.1+1);rw[ew];omega,by show IntKind.i64.wrap (z.1+1)≤32;rw[ew];omega,?_,?_⟩,by show(32-IntKind.i64.wrap (z.1+1)).toNat<(32-z.1).toNat;rw[ew];omega⟩
    · show Q10 P (List.set _ _ _)
      exact⟨by rw[List.length_set];exact hl,z3.p1,z3.p2,Qv8 z3.u (U_or _ _) _⟩
    · intro b
      show byt (List.set z.2 (Int.toNat (IntKind.i64.wrap (IntKind.i64.wrap (f*32)+z.1))) _) b=if f*128≤(b:Int)∧(b:Int)<f*128+4*IntKind.i64.wrap (z.1+1) then _ else _
      rw[e3,ew,four (u8I _) (u8I _) (u8I _) (u8I _),byt_set (by omega)]
      have g: ∀k:Nat,k<4→(List.take 4 (List.drop (Int.toNat (IntKind.i64.wrap (4*z.1))) s)).getD k 0=s.getD ((4*z.1).toNat+k) 0:=fun k hk=>by rw[e1];exact getD_cut _ _ _ _ hk
      by_cases hc:b/4=(f*32+z.1).toNat
      · have hin:f*128≤(b:Int)∧(b:Int)<f*128+4*(z.1+1):=by omega
        rw[if_pos hc,four_dig (u8I _) (u8I _) (u8I _) (u8I _) _ (by omega),if_pos hin]
        have hb4:b%4=0∨b%4=1∨b%4=2∨b%4=3:=by omega
        have gi:(b-f*128).toNat=(4*z.1).toNat+b%4:=by omega
        rw[gi]
        rcases hb4 with h4|h4|h4|h4<;>rw[h4]
        · rw[if_pos rfl,←g 0 (by omega)];rfl
        · rw[if_neg (by decide),if_pos rfl,←g 1 (by omega)];rfl
        · rw[if_neg (by decide),if_neg (by decide),if_pos rfl,←g 2 (by omega)];rfl
        · rw[if_neg (by decide),if_neg (by decide),if_neg (by decide),←g 3 (by omega)];rfl
      · rw[if_neg hc,z4 b]
        by_cases hd:f*128≤(b:Int)∧(b:Int)<f*128+4*z.1
        · rw[if_pos hd,if_pos (by omega)]
        · rw[if_neg hd,if_neg (by omega)]
  · have hb:=of_decide_eq_false hb
    show byt z.2 b=_
    rw[z4 b,show z.1=32 by omega]
    rfl
end Go.Proofs.YtdkiadhigcfmkaaGreat
namespace Go.Proofs.YtdkiadhigcfmkaaGreat
open Go Go.GD
set_option linter.unusedVariables false
set_option linter.unusedSimpArgs false
set_option maxRecDepth 100000
theorem Zci{α:Type}(l l2:List α)(k:Nat)(z:α):(l++l2).getD k z=if k<l.length then l.getD k z else l2.getD (k-l.length) z:=by
 simp only[List.getD_eq_getElem?_getD,List.getElem?_append]
 split<;>rfl
theorem u8w{x:Int}:IntKind.wrap .u8 x=x%256:=IntKind.wrap_u8 x
theorem shr_c(W:Int):ishr .u32 W 8=W/256∧ishr .u32 W 16=W/65536∧ishr .u32 W 24=W/16777216:=by
 refine⟨?_,?_,?_⟩
 · show Int.fdiv W 256=_;rw[Int.fdiv_eq_ediv_of_nonneg _ (by decide)]
 · show Int.fdiv W 65536=_;rw[Int.fdiv_eq_ediv_of_nonneg _ (by decide)]
 · show Int.fdiv W 16777216=_;rw[Int.fdiv_eq_ediv_of_nonneg _ (by decide)]
theorem b4d(W:Int){k:Nat}(hk:k<4):[IntKind.wrap .u8 W,IntKind.wrap .u8 (ishr .u32 W 8),IntKind.wrap .u8 (ishr .u32 W 16),IntKind.wrap .u8 (ishr .u32 W 24)].getD k 0=dig W k:=by
 obtain⟨a,b,c⟩:=shr_c W
 have hk:k=0∨k=1∨k=2∨k=3:=by omega
 rcases hk with rfl|rfl|rfl|rfl<;>simp [dig,a,b,c,u8w]
theorem Qld(l:List Int)(k:Nat)(h:0≤l.getD k 0∧l.getD k 0<256)(hk:k<l.length):(((bytesOf l).getD k 0).toNat:Int)=l.getD k 0:=by
 have e:(bytesOf l).getD k 0=UInt8.ofNat (l.getD k 0).toNat:=by
   simp [bytesOf,List.getD_eq_getElem?_getD,hk]
 rw[e,UInt8.toNat_ofNat']
 omega
theorem Zbp(l:List UInt8)(k:Nat)(hk:k<l.length):(Q9e l).getD k 0=((l.getD k 0).toNat:Int):=by
 simp [Q9e,List.getD_eq_getElem?_getD,hk]
theorem text_b(w:List Int)(h:w.length≤32):(Q3r w).w (fun r=>r.length=4*w.length∧ ∀k:Nat,k<4*w.length→((r.getD k 0).toNat:Int)=dig (w.getD (k/4) 0) (k%4)):=by
 have e0:IntKind.i64.wrap (4*(w.length:Int))=4*w.length:=by rw[IntKind.wrap_i64];omega
 unfold Q3r
 refine w_cn (by rw[e0];simp [Nat.blt,D.plain];omega) ?_
 refine w_lp (inv:=fun z:Int×List Int=>0≤z.1∧z.1≤w.length∧(z.2.length:Int)=4*z.1∧ ∀k:Nat,(k:Int)<4*z.1→z.2.getD k 0=dig (w.getD (k/4) 0) (k%4)) (μ:=Q62 w) ⟨by decide,by show(0:Int)≤w.length;omega,rfl,fun k hk=>by have hk:(k:Int)<4*0:=hk;omega⟩ (Nat.lt_succ_self _) fun z ⟨z1,z2,z3,z4⟩=> ?_
 refine w_br (fun hb=> ?_) (fun hb=> ?_)
 · have hb:=of_decide_eq_true hb
   have ew:IntKind.i64.wrap (z.1+1)=z.1+1:=by rw[IntKind.wrap_i64];omega
   refine w_cn (by simp [Nat.blt];omega) (w_cn (decide_eq_true (by omega)) (w_nx ?_))
   show(_∧_∧_∧ ∀k:Nat,(k:Int)<4*IntKind.i64.wrap (z.1+1)→(z.2++_).getD k 0=_)∧(_:Nat)<_
   refine⟨⟨by rw[ew];omega,by rw[ew];omega,by rw[ew,List.length_append];simp only[List.length_cons,List.length_nil];omega,fun k hk=> ?_⟩,by show(w.length-IntKind.i64.wrap (z.1+1)).toNat<(w.length-z.1).toNat;rw[ew];omega⟩
   rw[ew]at hk
   rw[Zci]
   split
   · exact z4 k (by omega)
   · rename_i hn
     rw[b4d _ (by omega),show z.1.toNat=k/4 by omega,show k-z.2.length=k%4 by omega]
 · have hb:=of_decide_eq_false hb
   show(bytesOf z.2).length=_∧ ∀k:Nat,_→(((bytesOf z.2).getD k 0).toNat:Int)=_
   refine⟨by rw[Qg0];omega,fun k hk=> ?_⟩
   have e:=z4 k (by omega)
   have:=dig_lt (w.getD (k/4) 0) (k%4)
   rw[Qld _ _ (by rw[e];exact this) (by omega),e]
def isPg(m:List Int)(f:Int)(r:List UInt8):Prop:=r.length=128∧ ∀k:Nat,k<128→((r.getD k 0).toNat:Int)=byt m ((f*128).toNat+k)
theorem pg_ext{m:List Int}{f:Int}{r s:List UInt8}(a:isPg m f r)(b:isPg m f s):r=s:=by
 obtain⟨a1,a2⟩:=a
 obtain⟨b1,b2⟩:=b
 refine List.ext_getElem (by omega) fun i h1 h2=> ?_
 have e:=(a2 i (by omega)).trans (b2 i (by omega)).symm
 have e1:r[i]=r.getD i 0:=by simp [List.getD,h1]
 have e2:s[i]=s.getD i 0:=by simp [List.getD,h2]
 rw[e1,e2]
 exact UInt8.toNat_inj.1 (by omega)
theorem mpage_b{P:Nat}{m:List Int}(h:Q10 P m){f:Int}(f0:0≤f)(f1:f<P):(Q3x m f).w (fun r=>isPg m f r.1∧r.2=true):=by
 have hl:=h.len
 have h2:=h.p2
 unfold Q3x
 refine w_lv fun x0 hx0=> ?_
 rw[Zb8 h,decide_eq_true ⟨f0,f1⟩]at hx0
 subst hx0
 refine w_br (fun hb=>by cases hb) (fun hb=> ?_)
 have e1:IntKind.i64.wrap (f*32)=f*32:=by rw[IntKind.wrap_i64];omega
 have e2:IntKind.i64.wrap (IntKind.i64.wrap (f*32)+32)=f*32+32:=by rw[IntKind.wrap_i64,IntKind.wrap_i64];omega
 have cut:Int.toNat (IntKind.i64.wrap (IntKind.i64.wrap (f*32)+32))-Int.toNat (IntKind.i64.wrap (f*32))=32:=by rw[e2,e1];omega
 have hlen:(List.take 32 (List.drop (Int.toNat (IntKind.i64.wrap (f*32))) m)).length=32:=by
   rw[e1,List.length_take,List.length_drop];omega
 refine w_cn (by rw[e2,e1];simp [Nat.blt];omega) ?_
 rw[cut]
 refine w_an (by show List.length _≤1000000000000;rw[hlen];decide) (w_lv fun x1 h1=> ?_)
 have t:=(Tree.pp (text_b _ (Nat.le_of_eq hlen))).2
 rw[hlen,show(Q3r (List.take 32 (List.drop (Int.toNat (IntKind.i64.wrap (f*32))) m))).m=x1 from h1.symm]at t
 refine⟨⟨t.1,fun k hk=> ?_⟩,rfl⟩
 show((x1.getD k 0).toNat:Int)=_
 rw[t.2 k hk,byt,e1]
 have g:(List.take 32 (List.drop (Int.toNat (f*32)) m)).getD (k/4) 0=m.getD ((f*32).toNat+k/4) 0:=by
   simp [List.getD_eq_getElem?_getD,List.getElem?_take,show k/4<32 by omega]
 rw[g,show((f*128).toNat+k)/4=(f*32).toNat+k/4 by omega,show((f*128).toNat+k)%4=k%4 by omega]
theorem low_eq(x:Int):Z46 x 4=bytesOf [IntKind.wrap .u8 (ishr .u32 x 0),IntKind.wrap .u8 (ishr .u32 x 8),IntKind.wrap .u8 (ishr .u32 x 16),IntKind.wrap .u8 (ishr .u32 x 24)]:=by kernel_rfl
theorem rpage_b{P:Nat}{m:List Int}(hm:Q10 P m){frame:Int}(f0:0≤frame)(f1:frame<P):(Q7l m frame).w (fun r=>isPg m frame r.1∧r.2=true):=by
 have hp:=Qcc hm
 have hl:=hm.len
 have h2:=hm.p2
 unfold Q7l
 refine w_br (fun h=>by have:=of_decide_eq_true h;omega) (fun h=>w_lv fun x0 hx=>w_br (fun h1=>by have:=of_decide_eq_true h1;rw[hx,hp]at this;omega) (fun h1=> ?_))
 refine w_lp (inv:=fun z:Int×List Int=>0≤z.1∧z.1≤32∧(z.2.length:Int)=4*z.1∧ ∀k:Nat,(k:Int)<4*z.1→z.2.getD k 0=byt m ((frame*128).toNat+k)) (μ:=Qfi m frame) ⟨by decide,by decide,rfl,fun k hk=>by have hk:(k:Int)<4*0:=hk;omega⟩ (Nat.lt_succ_self _) (fun z hz=> ?_)
 obtain⟨z1,z2,z3,z4⟩:=hz
 refine w_br (fun hb=> ?_) (fun hb=> ?_)
 · have hb:=of_decide_eq_true hb
   have e:IntKind.wrap IntKind.i64 (IntKind.wrap IntKind.i64 (frame*32)+z.1)=frame*32+z.1:=by rw[IntKind.wrap_i64,IntKind.wrap_i64];omega
   refine w_cn (by rw[e];simp [Nat.blt];omega) (w_an (show(4:Int)≤1000000000000 by decide) (w_lv fun x1 h4=> ?_))
   rw[low_eq,shr0,e]at h4
   have l4:x1.length=4:=by rw[h4];rfl
   refine w_cn (decide_eq_true (by rw[Qls,l4];omega)) (w_nx ?_)
   show(0≤IntKind.i64.wrap (z.1+1)∧IntKind.i64.wrap (z.1+1)≤32∧((z.2++Q9e x1).length:Int)=4*IntKind.i64.wrap (z.1+1)∧ ∀k:Nat,(k:Int)<4*IntKind.i64.wrap (z.1+1)→(z.2++Q9e x1).getD k 0=_)∧(32-IntKind.i64.wrap (z.1+1)).toNat<(32-z.1).toNat
   have ew:IntKind.i64.wrap (z.1+1)=z.1+1:=by rw[IntKind.wrap_i64];omega
   rw[ew]
   refine⟨⟨by omega,by omega,by rw[List.length_append,Qls,l4];omega,fun k hk=> ?_⟩,by omega⟩
   rw[Zci]
   split
   · exact z4 k (by omega)
   · rename_i hn
     have hk4:k-z.2.length<4:=by omega
     rw[Zbp _ _ (by omega),h4]
     have d:=b4d (m.getD (frame*32+z.1).toNat 0) hk4
     rw[Qld _ _ (by rw[d];exact dig_lt _ _) (by simpa using hk4),d,byt]
     rw[show((frame*128).toNat+k)/4=(frame*32+z.1).toNat by omega,show((frame*128).toNat+k)%4=k-z.2.length by omega]
 · have hb:=of_decide_eq_false hb
   refine⟨⟨?_,fun k hk=> ?_⟩,rfl⟩
   · show(bytesOf z.2).length=128
     rw[Qg0];omega
   · show(((bytesOf z.2).getD k 0).toNat:Int)=_
     have e:=z4 k (by omega)
     rw[Qld _ _ (by rw[e];exact dig_lt _ _) (by omega),e]
theorem Z8d{P:Nat}{m:List Int}(h:Q10 P m)(f:Int):Qby m f=Qfb m f:=by
 by_cases hf:0≤f∧f<P
 · have a:=(Tree.pp (mpage_b h hf.1 hf.2)).2
   have b:=(Tree.pp (rpage_b h hf.1 hf.2)).2
   exact Prod.ext (pg_ext a.1 b.1) (a.2.trans b.2.symm)
 · have hp:=Qcc h
   have e1:Qby m f=([],false):=by
     simp only[Qby,Q3x,Tree.m,letv,Zb8 h,decide_eq_false hf];rfl
   have e2:Qfb m f=([],false):=by
     simp only[Qfb,Q7l,Tree.m,letv,hp]
     by_cases h0:f<0
     · rw[decide_eq_true h0];rfl
     · rw[decide_eq_false h0,decide_eq_true (show f≥P by omega)];rfl
   rw[e1,e2]
section
variable {P:Nat} {m:List Int} (h:Q10 P m)
include h
theorem Qie{a:Int}(ha:U a){size:Int}(hs:size=1∨size=4):Q2 m a size=decide (a%size=0∧a<128*P):=by
 have hq:=Qcc h
 have h2:=h.p2
 have a0:=ha.1
 have e:IntKind.wrap IntKind.u32 size=size:=by rcases hs with rfl|rfl<;>decide
 have e0:decide (IntKind.wrap IntKind.u32 size≠0)=true:=by rcases hs with rfl|rfl<;>decide
 have t:Int.tmod a (IntKind.wrap IntKind.u32 size)=a%size:=by rw[e,Int.tmod_eq_emod_of_nonneg a0]
 have l: ∀x,x=Q2p m→a%size=0→decide (a<IntKind.wrap IntKind.u32 (IntKind.wrap IntKind.i64 (128*x)))=decide (a%size=0∧a<128*P):=fun x hx hz=>by
   rw[hx,hq,IntKind.wrap_u32,IntKind.wrap_i64]
   exact decide_eq_decide.2 ⟨fun h=>⟨hz,by omega⟩,fun h=>by omega⟩
 refine Tree.post (Q6b m a size) (W:=fun b=>b=decide (a%size=0∧a<128*P)) ?_
 unfold Q6b
 refine w_br (fun h1=>w_br (fun h4=> ?_) (fun _=> ?_)) (fun _=> ?_)
 · have h1: ¬size=1:=by simpa using h1
   have h4: ¬size=4:=by simpa using h4
   omega
 all_goals
   refine w_cn e0 (w_br (fun hb=>w_lv fun x hx=>l x hx ?_) (fun hb=> ?_))
   · rw[t]at hb;exact eq_of_beq hb
   · rw[t]at hb
     exact(decide_eq_false (fun h=>by rw[h.1]at hb;cases hb)).symm
theorem Qxb{a:Int}(ha:U a){size:Int}(hs:size=1∨size=4):Qe1 m a size=Q2 m a size:=by
 rw[Qie h ha hs]
 have hq:=Qvo h
 have h2:=h.p2
 have a0:=ha.1
 have a1:=ha.2
 have e:IntKind.wrap IntKind.u32 size=size:=by rcases hs with rfl|rfl<;>decide
 have e0:decide (IntKind.wrap IntKind.u32 size≠0)=true:=by rcases hs with rfl|rfl<;>decide
 have t:Int.tmod a (IntKind.wrap IntKind.u32 size)=a%size:=by rw[e,Int.tmod_eq_emod_of_nonneg a0]
 have l: ∀x,x=Q0s m→a%size=0→decide (IntKind.wrap IntKind.u64 (IntKind.wrap IntKind.u64 a+IntKind.wrap IntKind.u64 size)≤IntKind.wrap IntKind.u64 (IntKind.wrap IntKind.u64 x*128))=decide (a%size=0∧a<128*P):=fun x hx hz=>by
   rw[hx,hq]
   simp only[IntKind.wrap_u64]
   refine decide_eq_decide.2 ⟨fun h=>⟨hz,?_⟩,fun h=> ?_⟩<;>rcases hs with rfl|rfl<;>omega
 refine Tree.post (Q32 m a size) (W:=fun b=>b=decide (a%size=0∧a<128*P)) ?_
 unfold Q32
 refine w_br (fun h1=>w_br (fun h4=> ?_) (fun _=> ?_)) (fun _=> ?_)
 · have h1: ¬size=1:=by simpa using h1
   have h4: ¬size=4:=by simpa using h4
   omega
 all_goals
   refine w_cn e0 (w_br (fun hb=> ?_) (fun hb=>w_lv fun x hx=>l x hx ?_))
   · rw[t]at hb
     exact(decide_eq_false (fun h=>by rw[h.1]at hb;cases hb)).symm
   · rw[t]at hb;simpa using hb
end
theorem fldj(w:Int):Q28 w 0 8=iand .u32 (ishr .u32 w 0) 255∧Q28 w 8 8=iand .u32 (ishr .u32 w 8) 255∧Q28 w 16 8=iand .u32 (ishr .u32 w 16) 255∧Q28 w 24 8=iand .u32 (ishr .u32 w 24) 255:=
 ⟨by kernel_rfl,by kernel_rfl,by kernel_rfl,by kernel_rfl⟩
theorem setj(w v:Int):Q6m w 0 8 v=putW w v 0∧Q6m w 8 8 v=putW w v 8∧Q6m w 16 8 v=putW w v 16∧Q6m w 24 8 v=putW w v 24:=
 ⟨by kernel_rfl,by kernel_rfl,by kernel_rfl,by kernel_rfl⟩
theorem sh_same{a:Int}(ha:U a):IntKind.wrap .i64 (IntKind.wrap .i64 (Int.tmod a 4)*8)=8*(a%4)∧IntKind.wrap .u32 (8*Int.tmod a 4)=8*(a%4):=by
 obtain⟨a0,a1⟩:=ha
 rw[Int.tmod_eq_emod_of_nonneg a0]
 exact⟨by rw[IntKind.wrap_i64,IntKind.wrap_i64];omega,by rw[IntKind.wrap_u32];omega⟩
section
variable {P:Nat} {m:List Int} (h:Q10 P m)
include h
theorem Qk9{a:Int}(ha:U a){size:Int}(hs:size=1∨size=4):Q3l m a size=Q1r m a size:=by
 have e:=Qxb h ha hs
 obtain⟨s1,s2⟩:=sh_same ha
 have f:Q28 (m.getD (Int.toNat (IntKind.wrap .u32 (Int.tdiv a 4))) 0) (8*(a%4)) 8=iand .u32 (ishr .u32 (m.getD (Int.toNat (IntKind.wrap .u32 (Int.tdiv a 4))) 0) (8*(a%4))) 255:=by
   obtain⟨f0,f1,f2,f3⟩:=fldj (m.getD (Int.toNat (IntKind.wrap .u32 (Int.tdiv a 4))) 0)
   have:a%4=0∨a%4=1∨a%4=2∨a%4=3:=by omega
   rcases this with h|h|h|h<;>rw[h]
   · exact f0
   · exact f1
   · exact f2
   · exact f3
 simp only[Q3l,Q6i,Q1r,Q5j,Tree.m,letv,e,s1,s2,f]
omit h in
theorem Z3d(a:Int)(size:Int):(Q1r m a size).2=Q2 m a size:=by
 simp only[Q1r,Q5j,Tree.m,letv]
 cases Q2 m a size
 · rfl
 · cases size==1<;>rfl
theorem Z0u{a:Int}(ha:U a){size:Int}(hs:size=1∨size=4)(v:Int):Q84 m a size v=bif Q2 m a size then(Qh5 m a size v,true) else(m,false):=by
 have hcl:Q04 m=m:=rfl
 have e:=Qxb h ha hs
 obtain⟨s1,s2⟩:=sh_same ha
 have f: ∀w,Q6m w (8*(a%4)) 8 v=ior .u32 (Qgh .u32 w (ishl .u32 255 (8*(a%4)))) (ishl .u32 (iand .u32 v 255) (8*(a%4))):=fun w=>by
   obtain⟨f0,f1,f2,f3⟩:=setj w v
   have:a%4=0∨a%4=1∨a%4=2∨a%4=3:=by omega
   rcases this with h|h|h|h<;>rw[h]
   · exact f0
   · exact f1
   · exact f2
   · exact f3
 simp only[Q84,Q5k,Qh5,Qef,Tree.m,letv,hcl,e,s1,s2,f]
 rcases hs with rfl|rfl<;>cases Q2 m a _<;>rfl
end
end Go.Proofs.YtdkiadhigcfmkaaGreat
namespace Go.Proofs.YtdkiadhigcfmkaaGreat
open Go Go.GD
set_option linter.unusedVariables false
set_option linter.unusedSimpArgs false
set_option maxRecDepth 100000
section
variable {P:Nat} {m:List Int} (h:Q10 P m)
include h
theorem walk_same{root va:Int}(hr:U root)(hv:U va){access:Int}(ha:access=1∨access=2∨access=3):Qfw m root va access=Q53 m root va access:=by
 have hp:=Qcc h
 have h2:=h.p2
 have hlen:=h.len
 obtain⟨r1,r2⟩:=hr
 obtain⟨v1,v2⟩:=hv
 have hpg: ∀{f:Int},U f→Q8j m f=decide (f<P):=fun hf=>pageP_eq h hf
 have eP:IntKind.wrap .u32 (P:Int)=P:=by rw[IntKind.wrap_u32];omega
 have kn:Qei access=true:=by rcases ha with rfl|rfl|rfl<;>rfl
 have ca:Qhf access=(Q2m access,true):=by rcases ha with rfl|rfl|rfl<;>rfl
 simp only[Qfw,Q6o,Q53,Q8a,Tree.m,letv,hp,eP,kn,ca,hpg ⟨r1,r2⟩]
 by_cases c1:va≥4096
 · rw[decide_eq_true c1];rfl
 by_cases c2:root<P
 · have eE:IntKind.wrap IntKind.u32 (IntKind.wrap IntKind.u32 (root*128)+IntKind.wrap IntKind.u32 (4*IntKind.wrap IntKind.u32 (Int.tdiv va 128)))=root*128+4*(va/128):=by
     rw[Int.tdiv_eq_ediv_of_nonneg v1,IntKind.wrap_u32,IntKind.wrap_u32,IntKind.wrap_u32,IntKind.wrap_u32];omega
   have hE:U (root*128+4*(va/128)):=⟨by omega,by omega⟩
   have wi:Q2 m (root*128+4*(va/128)) 4=true:=by
     rw[Qie h hE (.inr rfl)];exact decide_eq_true ⟨by omega,by omega⟩
   rw[decide_eq_false c1,decide_eq_true c2,decide_eq_false (show¬root≥P by omega),eE,Qk9 h hE (.inr rfl),Z3d,wi]
   have ld:(Q1r m (root*128+4*(va/128)) 4).1=m.getD (Int.toNat (IntKind.wrap .u32 (Int.tdiv (root*128+4*(va/128)) 4))) 0:=by
     simp only[Q1r,Q5j,Tree.m,letv,wi];rfl
   rw[ld]
   generalize m.getD (Int.toNat (IntKind.wrap .u32 (Int.tdiv (root*128+4*(va/128)) 4))) 0=w
   have fo:Qc5 w=iand .u32 (ishr .u32 w 8) 255:=(fld w).2.2.2.2
   rw[fo,hpg (Qhe _ _)]
   have hge:decide (iand .u32 (ishr .u32 w 8) 255≥(P:Int))=!decide (iand .u32 (ishr .u32 w 8) 255<(P:Int)):=by
     by_cases hq:iand .u32 (ishr .u32 w 8) 255<(P:Int)
     · rw[decide_eq_true hq,decide_eq_false (by omega)];rfl
     · rw[decide_eq_false hq,decide_eq_true (by omega)];rfl
   rw[hge]
   generalize decide (iand .u32 (ishr .u32 w 8) 255<(P:Int))=d
   rcases ha with rfl|rfl|rfl
   · show _=(bif iand .u32 w 1==0 then _ else bif iand .u32 w 4==0 then _ else bif !d then _ else _)
     have:Q92 w 1=(bif iand .u32 w 1==0 then false else !(iand .u32 w 4==0)):=rfl
     rw[this]
     cases iand .u32 w 1==0<;>cases iand .u32 w 4==0<;>cases d<;>rfl
   · show _=(bif iand .u32 w 1==0 then _ else bif !d then _ else _)
     have:Q92 w 2=(bif iand .u32 w 1==0 then false else true):=rfl
     rw[this]
     cases iand .u32 w 1==0<;>cases d<;>rfl
   · show _=(bif iand .u32 w 1==0 then _ else bif iand .u32 w 2==0 then _ else bif !d then _ else _)
     have:Q92 w 3=(bif iand .u32 w 1==0 then false else !(iand .u32 w 2==0)):=rfl
     rw[this]
     cases iand .u32 w 1==0<;>cases iand .u32 w 2==0<;>cases d<;>rfl
 · rw[decide_eq_false c1,decide_eq_false c2,decide_eq_true (show root≥P by omega)];rfl
theorem Zdt{a:Int}(ha:U a)(access:Int):Q9v m a access=Qkx m a access:=by
 have hcl:Q04 m=m:=rfl
 have hl:=h.len
 have a0:=ha.1
 simp only[Q9v,Q5l,Qkx,Qbe,Tree.m,letv,Qk9 h ha (.inr rfl),Z3d,Z0u h ha (.inr rfl),hcl]
 cases hw:Q2 m a 4
 · rfl
 · rw[Qie h ha (.inr rfl)]at hw
   have hw:=of_decide_eq_true hw
   have wi:Q2 m a 4=true:=by rw[Qie h ha (.inr rfl)];exact decide_eq_true hw
   have ld:(Q1r m a 4).1=m.getD (Int.toNat (IntKind.wrap .u32 (Int.tdiv a 4))) 0:=by
     simp only[Q1r,Q5j,Tree.m,letv,wi];rfl
   have pu: ∀v,Qh5 m a 4 v=m.set (Int.toNat (IntKind.wrap .u32 (Int.tdiv a 4))) v:=fun v=>rfl
   rw[ld,pu,pu]
   have hi:Int.toNat (IntKind.wrap .u32 (Int.tdiv a 4))<m.length:=by
     rw[Int.tdiv_eq_ediv_of_nonneg a0,IntKind.wrap_u32];omega
   generalize Int.toNat (IntKind.wrap .u32 (Int.tdiv a 4))=i at*
   rw[Qpf hi,List.set_set]
   rfl
end
theorem Ql4{c:Q02}(h0:0≤c.Csr.a0)(h:c.Csr.a0≤31)(k b:Int):Q3f c k b=Q20 c k b:=by
 have e:=eq_of_beq (Qob (fun s=>Qgh .u32 (ior .u32 (Q7g (Q7g s 1 8) 2 16) 1) 2==ior .u32 (Qgh .u32 (ior .u32 (ior .u32 (Qgh .u32 s 24) (IntKind.wrap .u32 (8*Q9k (iand .u32 s 1 !=0)))) (IntKind.wrap .u32 (16*Q9k (iand .u32 s 2 !=0)))) 2) 1) 32 (by kernel_rfl) h0 (by omega))
 simp only[Q3f,Qhz,Q20,Qg1,Tree.m,letv,e]
theorem Z9j{c:Q02}(h0:0≤c.Csr.a0)(h:c.Csr.a0≤31):Qbm c=Qes c:=by
 have e:=eq_of_beq (Qob (fun s=>Q7g (Q7g s 8 1) 16 2==ior .u32 (ior .u32 (Qgh .u32 s 3) (IntKind.wrap .u32 (1*Q9k (iand .u32 s 8 !=0)))) (IntKind.wrap .u32 (2*Q9k (iand .u32 s 16 !=0)))) 32 (by kernel_rfl) h0 (by omega))
 simp only[Qbm,Qcv,Qes,Qae,Tree.m,letv,e]
theorem Zen{c:Q02}(h0:0≤c.Csr.a0)(h:c.Csr.a0≤31):Qm6 c=(!Qa0 c&&(iand .u32 c.Csr.a0 4 !=0)):=
 eq_of_beq (Qob (fun s=>(iand .u32 s 5==4)==(!(iand .u32 s 1 !=0)&&(iand .u32 s 4 !=0))) 32 (by kernel_rfl) h0 (by omega))
theorem Quw(c:Q02){r:Int}(hr:0≤r∧r<16)(v:Int):Q8v c r v=Q1c c r v:=by
 simp only[Q8v,Q97,Q1c,Qb9,Tree.m]
 by_cases h:r=0
 · subst h;rfl
 · rw[decide_eq_true (show r>0 by omega),decide_eq_true hr.2,show(r !=0)=true by simpa using h];rfl
theorem div_same{a b:Int}(ha:U a)(hb:U b):Q9o a b=Q9l a b:=by
  obtain⟨a0,a1⟩:=ha
  obtain⟨b0,b1⟩:=hb
  have i: ∀x,IntKind.wrap .i64 (IntKind.wrap .i32 x)=IntKind.wrap .i32 x:=fun x=>by rw[IntKind.wrap_i64,IntKind.wrap_i32];omega
  have r32: ∀x,-2147483648≤IntKind.wrap .i32 x∧IntKind.wrap .i32 x<2147483648:=fun x=>by rw[IntKind.wrap_i32];omega
  have q32: ∀x y:Int,-2147483648≤x∧x<2147483648→ -2147483648≤Int.tdiv x y∧Int.tdiv x y≤2147483648:=fun x y hx=>by
    have h1:(Int.tdiv x y).natAbs≤x.natAbs:=by rw[Int.natAbs_tdiv];exact Nat.div_le_self _ _
    omega
  simp only[Q9o,Q6k,Q9l,Q8i,Tree.m,i]
  cases hb:b==0
  · have w: ∀z,IntKind.wrap .u32 (IntKind.wrap .i32 z)=IntKind.wrap .u32 z:=fun z=>by rw[IntKind.wrap_i32,IntKind.wrap_u32,IntKind.wrap_u32];omega
    have w2:IntKind.wrap .i64 (Int.tdiv (IntKind.wrap .i32 a) (IntKind.wrap .i32 b))=Int.tdiv (IntKind.wrap .i32 a) (IntKind.wrap .i32 b):=by
      have:=q32 _ (IntKind.wrap .i32 b) (r32 a)
      rw[IntKind.wrap_i64];omega
    rw[w,w2]
    cases h1:a==2147483648
    · rfl
    · cases h2:b==4294967295
      · rfl
      · have h1:=eq_of_beq h1
        have h2:=eq_of_beq h2
        subst h1;subst h2
        rfl
  · rfl
theorem alu_same{op a b:Int}(h0:1≤op)(h1:op≤23)(ha:U a)(hb:U b):Q37 op a b=Qaz op a b:=by
 have sub:IntKind.wrap .u32 (a+IntKind.wrap .u32 (0-b))=IntKind.wrap .u32 (a-b):=by
   rw[IntKind.wrap_u32,IntKind.wrap_u32,IntKind.wrap_u32];omega
 have hop:op=1∨op=2∨op=3∨op=4∨op=5∨op=6∨op=7∨op=8∨op=9∨op=10∨op=11∨op=12∨op=13∨op=14∨op=15∨op=16∨op=17∨op=18∨op=19∨op=20∨op=21∨op=22∨op=23:=by omega
 have d:=div_same ha hb
 rcases hop with rfl|rfl|rfl|rfl|rfl|rfl|rfl|rfl|rfl|rfl|rfl|rfl|rfl|rfl|rfl|rfl|rfl|rfl|rfl|rfl|rfl|rfl|rfl
 · rfl
 · show(IntKind.wrap .u32 (a+IntKind.wrap .u32 (0-b)),true)=(IntKind.wrap .u32 (a-b),true)
   rw[sub]
 · rfl
 · rfl
 · rfl
 · rfl
 · rfl
 · rfl
 · rfl
 · show((Q9o a b).1,true)=((Q9l a b).1,true)
   rw[d]
 · show((Q9o a b).2,true)=((Q9l a b).2,true)
   rw[d]
 all_goals rfl
theorem Ql8{P:Nat}{m:List Int}(h:Q10 P m){c:Q02}(hc:Q1v c)(hst:c.Csr.a0≤31){va:Int}(hv:U va){size:Int}(hs:size=1∨size=4){access:Int}(ha:access=1∨access=2∨access=3):Q1h c m va size access=((Q0x c m va size access).1,(Q0x c m va size access).2.2,(Q0x c m va size access).2.1):=by
 have hcl:Q04 m=m:=rfl
 have kn:Qei access=true:=by rcases ha with rfl|rfl|rfl<;>rfl
 have ca:Qny access=(Q2m access,true):=by rcases ha with rfl|rfl|rfl<;>rfl
 have pg:=Zen hc.a0.1 hst
 have wk:=walk_same h hc.a6 hv ha
 have tc:Q9v m (Q53 m c.Csr.a6 va access).Entry access=Qkx m (Q53 m c.Csr.a6 va access).Entry access:=Zdt h (Tree.pp (walk_w h hc.a6 hv access)).2.2.1 access
 have sz:(bif size !=1 then bif size !=4 then false else true else true)=true:=by rcases hs with rfl|rfl<;>rfl
 simp only[Q1h,Q6d,Q0x,Q7m,Tree.m,letv,hcl,kn,ca,pg,wk,tc,Qk9 h hv hs,Z3d]
 rcases hs with rfl|rfl<;>
 · show(bif _ then _ else _)=_
   cases Int.tmod va _ !=0<;>cases Qa0 c<;>cases iand .u32 c.Csr.a0 4 !=0<;>cases(Q53 m c.Csr.a6 va access).Cause !=0<;>cases Q2 m va _<;>rfl
end Go.Proofs.YtdkiadhigcfmkaaGreat
namespace Go.Proofs.YtdkiadhigcfmkaaGreat
open Go Go.GD
set_option linter.unusedVariables false
set_option linter.unusedSimpArgs false
set_option maxRecDepth 100000
theorem Qwq{α:Type}{Q:α→Prop}{c:Bool}{x y:α}(hx:Q x)(hy:Q y):Q (cond c x y):=by cases c<;>assumption
theorem walk_al(m:List Int)(root:Int){va:Int}(hv:U va)(access:Int):(Q53 m root va access).Cause=0→(Q53 m root va access).Addr%4=va%4:=by
 have hc:Q2m access≠0:=by
   simp only[Q2m,Q79,Tree.m]
   cases access==1<;>cases access==3<;>simp
 have q :(fun t:Q0w=>t.Cause=0→t.Addr%4=va%4) (Q53 m root va access):=by
   simp only[Q53,Q8a,Tree.m,letv]
   repeat'(first
     |exact fun e=>absurd e hc
     | (intro _
        show IntKind.wrap .u32 (IntKind.wrap .u32 (_*128)+Int.tmod va 128)%4=va%4
        rw[Int.tmod_eq_emod_of_nonneg hv.1,IntKind.wrap_u32,IntKind.wrap_u32];omega)
     |refine Qwq (Q:=fun t:Q0w=>t.Cause=0→t.Addr%4=va%4) ?_ ?_)
 exact q
theorem reach_al{c:Q02}{m:List Int}{va:Int}(hv:U va){size:Int}(hs:size=1∨size=4){access:Int}(ha:access=1∨access=2∨access=3):(Q0x c m va size access).2.1=0→(Q0x c m va size access).1%size=0:=by
  have kn:Qei access=true:=by rcases ha with rfl|rfl|rfl<;>rfl
  have hc:Q2m access≠0:=by
    simp only[Q2m,Q79,Tree.m]
    cases access==1<;>cases access==3<;>simp
  rcases hs with rfl|rfl
  · intro _;omega
  simp only[Q0x,Q7m,Tree.m,letv,kn]
  show(bif Int.tmod va 4 !=0 then((0:Int),(3:Int),m) else _).2.1=0→(bif Int.tmod va 4 !=0 then((0:Int),(3:Int),m) else _).1%4=0
  rw[Int.tmod_eq_emod_of_nonneg hv.1]
  cases hz:va%4 !=0
  · have hz:va%4=0:=by simpa using hz
    have w:=walk_al m c.Csr.a6 hv access
    cases hp:Qm6 c
    · cases hw:Q2 m va 4
      · exact fun e=>absurd e hc
      · exact fun _=>hz
    · cases hq:(Q53 m c.Csr.a6 va access).Cause !=0
      · have hq:(Q53 m c.Csr.a6 va access).Cause=0:=by simpa using hq
        exact fun _=>(w hq).trans hz
      · have hq: ¬(Q53 m c.Csr.a6 va access).Cause=0:=by simpa using hq
        exact fun e=>absurd e hq
  · intro e;cases e
def eff0:Q0v:={Kind:=0,Port:=0,Reg:=0,Value:=0}
def Q47(c:Q02)(m:List Int)(i:Q0f):Q02×List Int×Q0v:=
 bif i.Op==32 then((Q50 c m i).1,(Q50 c m i).2,eff0) else bif i.Op==33 then((Q50 c m i).1,(Q50 c m i).2,eff0) else bif i.Op==34 then((Q50 c m i).1,(Q50 c m i).2,eff0)
 else bif i.Op==35 then((Q6z c m i).1,(Q6z c m i).2,eff0) else bif i.Op==36 then((Q6z c m i).1,(Q6z c m i).2,eff0) else((Qjd c i).1,m,(Qjd c i).2)
def regX(c:Q02)(r:Int):Int:=List.getD (A16.l c.X) (Int.toNat r) 0
def Qid(c:Q02)(m:List Int)(i:Q0f):Q02×Q0v×List Int:=
 bif decide (i.Op≥56) then((Qja c i).1,(Qja c i).2,m) else bif decide (i.Op≥40) then(Qwi c i,eff0,m) else bif decide (i.Op≥32) then((Q3s c m i).1,eff0,(Q3s c m i).2)
 else bif i.Op==24 then({X:=(Q1c c i.A (ishl .u32 (IntKind.wrap .u32 i.Imm) 16)).X,Pc:=IntKind.wrap .u32 ((Q1c c i.A (ishl .u32 (IntKind.wrap .u32 i.Imm) 16)).Pc+4),Csr:=(Q1c c i.A (ishl .u32 (IntKind.wrap .u32 i.Imm) 16)).Csr},eff0,m)
 else bif decide (i.Op≤13) then
   ({X:=(Q1c c i.A (Qaz i.Op (regX c i.B) (regX c i.C)).1).X,Pc:=IntKind.wrap .u32 ((Q1c c i.A (Qaz i.Op (regX c i.B) (regX c i.C)).1).Pc+4),Csr:=(Q1c c i.A (Qaz i.Op (regX c i.B) (regX c i.C)).1).Csr},eff0,m)
 else({X:=(Q1c c i.A (Qaz i.Op (regX c i.B) (IntKind.wrap .u32 i.Imm)).1).X,Pc:=IntKind.wrap .u32 ((Q1c c i.A (Qaz i.Op (regX c i.B) (IntKind.wrap .u32 i.Imm)).1).Pc+4),Csr:=(Q1c c i.A (Qaz i.Op (regX c i.B) (IntKind.wrap .u32 i.Imm)).1).Csr},eff0,m)
def isOp(op:Int):Prop:=op=1∨op=2∨op=3∨op=4∨op=5∨op=6∨op=7∨op=8∨op=9∨op=10∨op=11∨op=12∨op=13∨op=16∨op=17∨op=18∨op=19∨op=20∨op=21∨op=22∨op=23∨op=24∨op=32∨op=33∨op=34∨op=35∨op=36∨op=40∨op=41∨op=42∨op=43∨op=44∨op=45∨op=48∨op=49∨op=56∨op=57∨op=58∨op=59∨op=60∨op=61∨op=62∨op=63∨op=64
theorem set_pc(c:Q02)(r v:Int):(Q1c c r v).Pc=c.Pc∧(Q1c c r v).Csr=c.Csr:=by
 simp only[Q1c,Qb9,Tree.m]
 cases decide (r>0)
 · exact⟨rfl,rfl⟩
 · cases decide (r<16)<;>exact⟨rfl,rfl⟩
def adv(c:Q02):Q02:={X:=c.X,Pc:=IntKind.wrap .u32 (c.Pc+4),Csr:=c.Csr}
def va(c:Q02)(B Imm:Int):Int:=IntKind.wrap .u32 (List.getD (A16.l c.X) (Int.toNat B) 0+IntKind.wrap .u32 Imm)
def ldP(c:Q02)(A v size:Int)(f:Int→Int)(y:Int×List Int×Int):Q02×List Int:=bif y.2.2 !=0 then(Q3f c y.2.2 v,y.2.1) else(adv (Q8v c A (f (Q3l y.2.1 y.1 size).1)),y.2.1)
def ldR(c:Q02)(A v size:Int)(f:Int→Int)(x:Int×Int×List Int):Q02×List Int:=bif x.2.1 !=0 then(Q20 c x.2.1 v,x.2.2) else(adv (Q1c c A (f (Q1r x.2.2 x.1 size).1)),x.2.2)
def stP(c:Q02)(A v size:Int)(y:Int×List Int×Int):Q02×List Int:=bif y.2.2 !=0 then(Q3f c y.2.2 v,y.2.1) else(adv c,(Q84 y.2.1 y.1 size (List.getD (A16.l c.X) (Int.toNat A) 0)).1)
def stR(c:Q02)(A v size:Int)(x:Int×Int×List Int):Q02×List Int:=bif x.2.1 !=0 then(Q20 c x.2.1 v,x.2.2) else(adv c,Qh5 x.2.2 x.1 size (List.getD (A16.l c.X) (Int.toNat A) 0))
theorem ld_eq(c:Q02)(m:List Int)(A B C Imm:Int):
   (Q50 c m ⟨32,A,B,C,Imm⟩=ldP c A (va c B Imm) 4 (fun v=>v) (Q1h c m (va c B Imm) 4 2)∧Q3s c m ⟨32,A,B,C,Imm⟩=ldR c A (va c B Imm) 4 (fun v=>v) (Q0x c m (va c B Imm) 4 2))∧
   (Q50 c m ⟨33,A,B,C,Imm⟩=ldP c A (va c B Imm) 1 (fun v=>Q1p v 8) (Q1h c m (va c B Imm) 1 2)∧Q3s c m ⟨33,A,B,C,Imm⟩=ldR c A (va c B Imm) 1 (fun v=>Q2h v 8) (Q0x c m (va c B Imm) 1 2))∧
   (Q50 c m ⟨34,A,B,C,Imm⟩=ldP c A (va c B Imm) 1 (fun v=>v) (Q1h c m (va c B Imm) 1 2)∧Q3s c m ⟨34,A,B,C,Imm⟩=ldR c A (va c B Imm) 1 (fun v=>v) (Q0x c m (va c B Imm) 1 2))∧
   (Q6z c m ⟨35,A,B,C,Imm⟩=stP c A (va c B Imm) 4 (Q1h c m (va c B Imm) 4 3)∧Q3s c m ⟨35,A,B,C,Imm⟩=stR c A (va c B Imm) 4 (Q0x c m (va c B Imm) 4 3))∧
   (Q6z c m ⟨36,A,B,C,Imm⟩=stP c A (va c B Imm) 1 (Q1h c m (va c B Imm) 1 3)∧Q3s c m ⟨36,A,B,C,Imm⟩=stR c A (va c B Imm) 1 (Q0x c m (va c B Imm) 1 3)):=
 ⟨⟨by kernel_rfl,by kernel_rfl⟩,⟨by kernel_rfl,by kernel_rfl⟩,⟨by kernel_rfl,by kernel_rfl⟩,⟨by kernel_rfl,by kernel_rfl⟩,⟨by kernel_rfl,by kernel_rfl⟩⟩
theorem sx_load{P:Nat}{m:List Int}(h:Q10 P m)(a:Int):Q1p (Q1r m a 1).1 8=Q2h (Q1r m a 1).1 8:=by
 have: ∀x:Int×Bool,(∃w,U w∧x=(iand .u32 w 255,true))∨x=(0,false)→Q1p x.1 8=Q2h x.1 8:=fun x hx=>by
   rcases hx with⟨w,hw,rfl⟩|rfl
   · have e:=m255 hw
     exact sx8 (by show 0≤iand .u32 w 255;omega) (by show iand .u32 w 255<256;omega)
   · rfl
 refine this _ ?_
 simp only[Q1r,Q5j,Tree.m,letv]
 cases Q2 m a 1
 · exact .inr rfl
 · exact .inl ⟨_,Qq3 (Qjo h.u _) _,rfl⟩
section
variable {P:Nat} {m:List Int} (h:Q10 P m) {c:Q02} (hc:Q1v c) (hst:c.Csr.a0≤31)
include h hc hst
omit hst in
theorem Zbn{v:Int}(hv:U v){size:Int}(hs:size=1∨size=4)(access:Int):Q10 P (Q0x c m v size access).2.2∧U (Q0x c m v size access).1∧((Q0x c m v size access).2.1=0→(Q0x c m v size access).1<128*P):=(Tree.pp (Z4k h hc hv hs access)).2
theorem Zbz{A v:Int}(hA:0≤A∧A<16)(hv:U v){size:Int}(hs:size=1∨size=4){f g:Int→Int}(hf: ∀{m':List Int},Q10 P m'→ ∀a,f (Q1r m' a size).1=g (Q1r m' a size).1):ldP c A v size f (Q1h c m v size 2)=ldR c A v size g (Q0x c m v size 2):=by
 rw[Ql8 h hc hst hv hs (.inr (.inl rfl))]
 obtain⟨k,u,_⟩:=Zbn h hc hv hs 2
 generalize Q0x c m v size 2=x at*
 simp only[ldP,ldR,Qk9 k u hs,Ql4 hc.a0.1 hst,Quw c hA,hf k]
theorem st_same{A v:Int}(hv:U v){size:Int}(hs:size=1∨size=4):stP c A v size (Q1h c m v size 3)=stR c A v size (Q0x c m v size 3):=by
 rw[Ql8 h hc hst hv hs (.inr (.inr rfl))]
 obtain⟨k,u,b⟩:=Zbn h hc hv hs 3
 have al:=reach_al (c:=c) (m:=m) hv hs (access:=3) (.inr (.inr rfl))
 generalize Q0x c m v size 3=x at*
 simp only[stP,stR,Z0u k u hs,Ql4 hc.a0.1 hst,Qie k u hs]
 cases hq:x.2.1 !=0
 · have hq:x.2.1=0:=by simpa using hq
   rw[decide_eq_true ⟨al hq,b hq⟩];rfl
 · rfl
end
end Go.Proofs.YtdkiadhigcfmkaaGreat
namespace Go.Proofs.YtdkiadhigcfmkaaGreat
open Go Go.GD
set_option linter.unusedVariables false
set_option linter.unusedSimpArgs false
set_option maxRecDepth 100000
theorem write_pc(c:Q02)(k v:Int):(Qek c k v).Pc=c.Pc:=by
 simp only[Qek,Q9y,Tree.m]
 repeat'(first|rfl|refine Qwq (Q:=fun x:Q02=>x.Pc=c.Pc) ?_ ?_)
def setP(c:Q02)(A v p:Int):Q02:={X:=(Q8v c A v).X,Pc:=p,Csr:=(Q8v c A v).Csr}
def setR(c:Q02)(A v p:Int):Q02:={X:=(Q1c c A v).X,Pc:=p,Csr:=(Q1c c A v).Csr}
def nxt(c:Q02):Int:=IntKind.wrap .u32 (c.Pc+4)
theorem Z64(c:Q02){A:Int}(hA:0≤A∧A<16)(v p:Int):setP c A v p=setR c A v p:=by
 unfold setP setR;rw[Quw c hA]
theorem Zaj(c:Q02)(A v:Int):adv (Q1c c A v)=setR c A v (nxt c):=by
 unfold adv setR nxt;rw[(set_pc c A v).1]
theorem brc(t:Bool)(x y:Q02)(m:List Int):((bif t then(x,eff0) else(y,eff0)).1,m,(bif t then(x,eff0) else(y,eff0)).2)=((bif t then x else y),m,eff0):=by cases t<;>rfl
def isOpB(op:Int):Bool:=decide (op=1)||decide (op=2)||decide (op=3)||decide (op=4)||decide (op=5)||decide (op=6)||decide (op=7)||decide (op=8)||decide (op=9)||decide (op=10)||decide (op=11)||decide (op=12)||decide (op=13)||decide (op=16)||decide (op=17)||decide (op=18)||decide (op=19)||decide (op=20)||decide (op=21)||decide (op=22)||decide (op=23)||decide (op=24)||decide (op=32)||decide (op=33)||decide (op=34)||decide (op=35)||decide (op=36)||decide (op=40)||decide (op=41)||decide (op=42)||decide (op=43)||decide (op=44)||decide (op=45)||decide (op=48)||decide (op=49)||decide (op=56)||decide (op=57)||decide (op=58)||decide (op=59)||decide (op=60)||decide (op=61)||decide (op=62)||decide (op=63)||decide (op=64)
section
variable {P:Nat} {m:List Int} (h:Q10 P m) {c:Q02} (hc:Q1v c) (hst:c.Csr.a0≤31) {A B C Imm:Int} (hA:0≤A∧A<16)
include h hc hst hA
theorem post_same{op:Int}(hop:isOp op):Q47 c m ⟨op,A,B,C,Imm⟩=((Qid c m ⟨op,A,B,C,Imm⟩).1,(Qid c m ⟨op,A,B,C,Imm⟩).2.2,(Qid c m ⟨op,A,B,C,Imm⟩).2.1):=by
 have alu: ∀{k y:Int},1≤k→k≤23→U y→((setP c A (Q37 k (regX c B) y).1 (nxt c),m,eff0):Q02×List Int×Q0v)=(adv (Q1c c A (Qaz k (regX c B) y).1),m,eff0):=fun h1 h2 hy=>by
   rw[alu_same h1 h2 (show U (regX c B) from hc.r _) hy,Zaj,Z64 c hA]
 have uC:U (regX c C):=hc.r _
 have uI:U (IntKind.wrap .u32 Imm):=Q0l _
 obtain⟨⟨l1,l2⟩,⟨l3,l4⟩,⟨l5,l6⟩,⟨l7,l8⟩,⟨l9,l10⟩⟩:=ld_eq c m A B C Imm
 have hva:U (va c B Imm):=Q0l _
 rcases hop with rfl|rfl|rfl|rfl|rfl|rfl|rfl|rfl|rfl|rfl|rfl|rfl|rfl|rfl|rfl|rfl|rfl|rfl|rfl|rfl|rfl|rfl|rfl|rfl|rfl|rfl|rfl|rfl|rfl|rfl|rfl|rfl|rfl|rfl|rfl|rfl|rfl|rfl|rfl|rfl|rfl|rfl|rfl|rfl
 · exact(show Q47 c m ⟨1,A,B,C,Imm⟩=(setP c A (Q37 1 (regX c B) (regX c C)).1 (nxt c),m,eff0) by kernel_rfl).trans ((alu (by decide) (by decide) uC).trans (by kernel_rfl))
 · exact(show Q47 c m ⟨2,A,B,C,Imm⟩=(setP c A (Q37 2 (regX c B) (regX c C)).1 (nxt c),m,eff0) by kernel_rfl).trans ((alu (by decide) (by decide) uC).trans (by kernel_rfl))
 · exact(show Q47 c m ⟨3,A,B,C,Imm⟩=(setP c A (Q37 3 (regX c B) (regX c C)).1 (nxt c),m,eff0) by kernel_rfl).trans ((alu (by decide) (by decide) uC).trans (by kernel_rfl))
 · exact(show Q47 c m ⟨4,A,B,C,Imm⟩=(setP c A (Q37 4 (regX c B) (regX c C)).1 (nxt c),m,eff0) by kernel_rfl).trans ((alu (by decide) (by decide) uC).trans (by kernel_rfl))
 · exact(show Q47 c m ⟨5,A,B,C,Imm⟩=(setP c A (Q37 5 (regX c B) (regX c C)).1 (nxt c),m,eff0) by kernel_rfl).trans ((alu (by decide) (by decide) uC).trans (by kernel_rfl))
 · exact(show Q47 c m ⟨6,A,B,C,Imm⟩=(setP c A (Q37 6 (regX c B) (regX c C)).1 (nxt c),m,eff0) by kernel_rfl).trans ((alu (by decide) (by decide) uC).trans (by kernel_rfl))
 · exact(show Q47 c m ⟨7,A,B,C,Imm⟩=(setP c A (Q37 7 (regX c B) (regX c C)).1 (nxt c),m,eff0) by kernel_rfl).trans ((alu (by decide) (by decide) uC).trans (by kernel_rfl))
 · exact(show Q47 c m ⟨8,A,B,C,Imm⟩=(setP c A (Q37 8 (regX c B) (regX c C)).1 (nxt c),m,eff0) by kernel_rfl).trans ((alu (by decide) (by decide) uC).trans (by kernel_rfl))
 · exact(show Q47 c m ⟨9,A,B,C,Imm⟩=(setP c A (Q37 9 (regX c B) (regX c C)).1 (nxt c),m,eff0) by kernel_rfl).trans ((alu (by decide) (by decide) uC).trans (by kernel_rfl))
 · exact(show Q47 c m ⟨10,A,B,C,Imm⟩=(setP c A (Q37 10 (regX c B) (regX c C)).1 (nxt c),m,eff0) by kernel_rfl).trans ((alu (by decide) (by decide) uC).trans (by kernel_rfl))
 · exact(show Q47 c m ⟨11,A,B,C,Imm⟩=(setP c A (Q37 11 (regX c B) (regX c C)).1 (nxt c),m,eff0) by kernel_rfl).trans ((alu (by decide) (by decide) uC).trans (by kernel_rfl))
 · exact(show Q47 c m ⟨12,A,B,C,Imm⟩=(setP c A (Q37 12 (regX c B) (regX c C)).1 (nxt c),m,eff0) by kernel_rfl).trans ((alu (by decide) (by decide) uC).trans (by kernel_rfl))
 · exact(show Q47 c m ⟨13,A,B,C,Imm⟩=(setP c A (Q37 13 (regX c B) (regX c C)).1 (nxt c),m,eff0) by kernel_rfl).trans ((alu (by decide) (by decide) uC).trans (by kernel_rfl))
 · exact(show Q47 c m ⟨16,A,B,C,Imm⟩=(setP c A (Q37 16 (regX c B) (IntKind.wrap .u32 Imm)).1 (nxt c),m,eff0) by kernel_rfl).trans ((alu (by decide) (by decide) uI).trans (by kernel_rfl))
 · exact(show Q47 c m ⟨17,A,B,C,Imm⟩=(setP c A (Q37 17 (regX c B) (IntKind.wrap .u32 Imm)).1 (nxt c),m,eff0) by kernel_rfl).trans ((alu (by decide) (by decide) uI).trans (by kernel_rfl))
 · exact(show Q47 c m ⟨18,A,B,C,Imm⟩=(setP c A (Q37 18 (regX c B) (IntKind.wrap .u32 Imm)).1 (nxt c),m,eff0) by kernel_rfl).trans ((alu (by decide) (by decide) uI).trans (by kernel_rfl))
 · exact(show Q47 c m ⟨19,A,B,C,Imm⟩=(setP c A (Q37 19 (regX c B) (IntKind.wrap .u32 Imm)).1 (nxt c),m,eff0) by kernel_rfl).trans ((alu (by decide) (by decide) uI).trans (by kernel_rfl))
 · exact(show Q47 c m ⟨20,A,B,C,Imm⟩=(setP c A (Q37 20 (regX c B) (IntKind.wrap .u32 Imm)).1 (nxt c),m,eff0) by kernel_rfl).trans ((alu (by decide) (by decide) uI).trans (by kernel_rfl))
 · exact(show Q47 c m ⟨21,A,B,C,Imm⟩=(setP c A (Q37 21 (regX c B) (IntKind.wrap .u32 Imm)).1 (nxt c),m,eff0) by kernel_rfl).trans ((alu (by decide) (by decide) uI).trans (by kernel_rfl))
 · exact(show Q47 c m ⟨22,A,B,C,Imm⟩=(setP c A (Q37 22 (regX c B) (IntKind.wrap .u32 Imm)).1 (nxt c),m,eff0) by kernel_rfl).trans ((alu (by decide) (by decide) uI).trans (by kernel_rfl))
 · exact(show Q47 c m ⟨23,A,B,C,Imm⟩=(setP c A (Q37 23 (regX c B) (IntKind.wrap .u32 Imm)).1 (nxt c),m,eff0) by kernel_rfl).trans ((alu (by decide) (by decide) uI).trans (by kernel_rfl))
 · refine(show Q47 c m ⟨24,A,B,C,Imm⟩=(setP c A (ishl .u32 (IntKind.wrap .u32 Imm) 16) (nxt c),m,eff0) by kernel_rfl).trans ?_
   rw[Z64 c hA,←Zaj];kernel_rfl
 · have e:=Zbz h hc hst hA hva (.inr rfl) (f:=fun v=>v) (g:=fun v=>v) (fun _ _=>rfl)
   rw[←l1,←l2]at e
   refine(show Q47 c m ⟨32,A,B,C,Imm⟩=((Q50 c m ⟨32,A,B,C,Imm⟩).1,(Q50 c m ⟨32,A,B,C,Imm⟩).2,eff0) by kernel_rfl).trans ?_
   rw[e];kernel_rfl
 · have e:=Zbz h hc hst hA hva (.inl rfl) (f:=fun v=>Q1p v 8) (g:=fun v=>Q2h v 8) (fun hm a=>sx_load hm a)
   rw[←l3,←l4]at e
   refine(show Q47 c m ⟨33,A,B,C,Imm⟩=((Q50 c m ⟨33,A,B,C,Imm⟩).1,(Q50 c m ⟨33,A,B,C,Imm⟩).2,eff0) by kernel_rfl).trans ?_
   rw[e];kernel_rfl
 · have e:=Zbz h hc hst hA hva (.inl rfl) (f:=fun v=>v) (g:=fun v=>v) (fun _ _=>rfl)
   rw[←l5,←l6]at e
   refine(show Q47 c m ⟨34,A,B,C,Imm⟩=((Q50 c m ⟨34,A,B,C,Imm⟩).1,(Q50 c m ⟨34,A,B,C,Imm⟩).2,eff0) by kernel_rfl).trans ?_
   rw[e];kernel_rfl
 · have e:=st_same h hc hst (A:=A) hva (.inr rfl)
   rw[←l7,←l8]at e
   refine(show Q47 c m ⟨35,A,B,C,Imm⟩=((Q6z c m ⟨35,A,B,C,Imm⟩).1,(Q6z c m ⟨35,A,B,C,Imm⟩).2,eff0) by kernel_rfl).trans ?_
   rw[e];kernel_rfl
 · have e:=st_same h hc hst (A:=A) hva (.inl rfl)
   rw[←l9,←l10]at e
   refine(show Q47 c m ⟨36,A,B,C,Imm⟩=((Q6z c m ⟨36,A,B,C,Imm⟩).1,(Q6z c m ⟨36,A,B,C,Imm⟩).2,eff0) by kernel_rfl).trans ?_
   rw[e];kernel_rfl
 · exact(show Q47 c m ⟨40,A,B,C,Imm⟩=((bif(Q1o 40 (regX c A) (regX c B)) then((⟨c.X,IntKind.wrap .u32 (c.Pc+IntKind.wrap .u32 (4*IntKind.wrap .u32 Imm)),c.Csr⟩:Q02),eff0) else(⟨c.X,nxt c,c.Csr⟩,eff0)).1,m,(bif(Q1o 40 (regX c A) (regX c B)) then((⟨c.X,IntKind.wrap .u32 (c.Pc+IntKind.wrap .u32 (4*IntKind.wrap .u32 Imm)),c.Csr⟩:Q02),eff0) else(⟨c.X,nxt c,c.Csr⟩,eff0)).2) by kernel_rfl).trans ((brc (Q1o 40 (regX c A) (regX c B)) ⟨c.X,IntKind.wrap .u32 (c.Pc+IntKind.wrap .u32 (4*IntKind.wrap .u32 Imm)),c.Csr⟩ ⟨c.X,nxt c,c.Csr⟩ m).trans (by kernel_rfl))
 · exact(show Q47 c m ⟨41,A,B,C,Imm⟩=((bif(Q1o 41 (regX c A) (regX c B)) then((⟨c.X,IntKind.wrap .u32 (c.Pc+IntKind.wrap .u32 (4*IntKind.wrap .u32 Imm)),c.Csr⟩:Q02),eff0) else(⟨c.X,nxt c,c.Csr⟩,eff0)).1,m,(bif(Q1o 41 (regX c A) (regX c B)) then((⟨c.X,IntKind.wrap .u32 (c.Pc+IntKind.wrap .u32 (4*IntKind.wrap .u32 Imm)),c.Csr⟩:Q02),eff0) else(⟨c.X,nxt c,c.Csr⟩,eff0)).2) by kernel_rfl).trans ((brc (Q1o 41 (regX c A) (regX c B)) ⟨c.X,IntKind.wrap .u32 (c.Pc+IntKind.wrap .u32 (4*IntKind.wrap .u32 Imm)),c.Csr⟩ ⟨c.X,nxt c,c.Csr⟩ m).trans (by kernel_rfl))
 · exact(show Q47 c m ⟨42,A,B,C,Imm⟩=((bif(Q1o 42 (regX c A) (regX c B)) then((⟨c.X,IntKind.wrap .u32 (c.Pc+IntKind.wrap .u32 (4*IntKind.wrap .u32 Imm)),c.Csr⟩:Q02),eff0) else(⟨c.X,nxt c,c.Csr⟩,eff0)).1,m,(bif(Q1o 42 (regX c A) (regX c B)) then((⟨c.X,IntKind.wrap .u32 (c.Pc+IntKind.wrap .u32 (4*IntKind.wrap .u32 Imm)),c.Csr⟩:Q02),eff0) else(⟨c.X,nxt c,c.Csr⟩,eff0)).2) by kernel_rfl).trans ((brc (Q1o 42 (regX c A) (regX c B)) ⟨c.X,IntKind.wrap .u32 (c.Pc+IntKind.wrap .u32 (4*IntKind.wrap .u32 Imm)),c.Csr⟩ ⟨c.X,nxt c,c.Csr⟩ m).trans (by kernel_rfl))
 · exact(show Q47 c m ⟨43,A,B,C,Imm⟩=((bif(Q1o 43 (regX c A) (regX c B)) then((⟨c.X,IntKind.wrap .u32 (c.Pc+IntKind.wrap .u32 (4*IntKind.wrap .u32 Imm)),c.Csr⟩:Q02),eff0) else(⟨c.X,nxt c,c.Csr⟩,eff0)).1,m,(bif(Q1o 43 (regX c A) (regX c B)) then((⟨c.X,IntKind.wrap .u32 (c.Pc+IntKind.wrap .u32 (4*IntKind.wrap .u32 Imm)),c.Csr⟩:Q02),eff0) else(⟨c.X,nxt c,c.Csr⟩,eff0)).2) by kernel_rfl).trans ((brc (Q1o 43 (regX c A) (regX c B)) ⟨c.X,IntKind.wrap .u32 (c.Pc+IntKind.wrap .u32 (4*IntKind.wrap .u32 Imm)),c.Csr⟩ ⟨c.X,nxt c,c.Csr⟩ m).trans (by kernel_rfl))
 · exact(show Q47 c m ⟨44,A,B,C,Imm⟩=((bif(Q1o 44 (regX c A) (regX c B)) then((⟨c.X,IntKind.wrap .u32 (c.Pc+IntKind.wrap .u32 (4*IntKind.wrap .u32 Imm)),c.Csr⟩:Q02),eff0) else(⟨c.X,nxt c,c.Csr⟩,eff0)).1,m,(bif(Q1o 44 (regX c A) (regX c B)) then((⟨c.X,IntKind.wrap .u32 (c.Pc+IntKind.wrap .u32 (4*IntKind.wrap .u32 Imm)),c.Csr⟩:Q02),eff0) else(⟨c.X,nxt c,c.Csr⟩,eff0)).2) by kernel_rfl).trans ((brc (Q1o 44 (regX c A) (regX c B)) ⟨c.X,IntKind.wrap .u32 (c.Pc+IntKind.wrap .u32 (4*IntKind.wrap .u32 Imm)),c.Csr⟩ ⟨c.X,nxt c,c.Csr⟩ m).trans (by kernel_rfl))
 · exact(show Q47 c m ⟨45,A,B,C,Imm⟩=((bif(Q1o 45 (regX c A) (regX c B)) then((⟨c.X,IntKind.wrap .u32 (c.Pc+IntKind.wrap .u32 (4*IntKind.wrap .u32 Imm)),c.Csr⟩:Q02),eff0) else(⟨c.X,nxt c,c.Csr⟩,eff0)).1,m,(bif(Q1o 45 (regX c A) (regX c B)) then((⟨c.X,IntKind.wrap .u32 (c.Pc+IntKind.wrap .u32 (4*IntKind.wrap .u32 Imm)),c.Csr⟩:Q02),eff0) else(⟨c.X,nxt c,c.Csr⟩,eff0)).2) by kernel_rfl).trans ((brc (Q1o 45 (regX c A) (regX c B)) ⟨c.X,IntKind.wrap .u32 (c.Pc+IntKind.wrap .u32 (4*IntKind.wrap .u32 Imm)),c.Csr⟩ ⟨c.X,nxt c,c.Csr⟩ m).trans (by kernel_rfl))
 · refine(show Q47 c m ⟨48,A,B,C,Imm⟩=(setP c A (nxt c) (IntKind.wrap .u32 ((Q8v c A (nxt c)).Pc+IntKind.wrap .u32 (4*IntKind.wrap .u32 Imm))),m,eff0) by kernel_rfl).trans ?_
   rw[Z64 c hA,Quw c hA,(set_pc c A (nxt c)).1];kernel_rfl
 · refine(show Q47 c m ⟨49,A,B,C,Imm⟩=(setP c A (nxt c) (va c B Imm),m,eff0) by kernel_rfl).trans ?_
   rw[Z64 c hA];kernel_rfl
 · refine(show Q47 c m ⟨56,A,B,C,Imm⟩=(Q3f c 7 0,m,eff0) by kernel_rfl).trans ?_
   rw[Ql4 hc.a0.1 hst];kernel_rfl
 · refine(show Q47 c m ⟨57,A,B,C,Imm⟩=(Qbm c,m,eff0) by kernel_rfl).trans ?_
   rw[Z9j hc.a0.1 hst];kernel_rfl
 · refine(show Q47 c m ⟨58,A,B,C,Imm⟩=(setP c A (List.getD (A8.l c.Csr) (Int.toNat Imm) 0) (nxt c),m,eff0) by kernel_rfl).trans ?_
   rw[Z64 c hA,←Zaj];kernel_rfl
 · have e:=write_pc c (IntKind.wrap .i64 Imm) (regX c A)
   refine(show Q47 c m ⟨59,A,B,C,Imm⟩=((⟨(Qek c (IntKind.wrap .i64 Imm) (regX c A)).X,IntKind.wrap .u32 (c.Pc+4),(Qek c (IntKind.wrap .i64 Imm) (regX c A)).Csr⟩:Q02),m,eff0) by kernel_rfl).trans ?_
   rw[←e];kernel_rfl
 · exact(show Q47 c m ⟨60,A,B,C,Imm⟩=((Qid c m ⟨60,A,B,C,Imm⟩).1,(Qid c m ⟨60,A,B,C,Imm⟩).2.2,(Qid c m ⟨60,A,B,C,Imm⟩).2.1) by kernel_rfl)
 · exact(show Q47 c m ⟨61,A,B,C,Imm⟩=((Qid c m ⟨61,A,B,C,Imm⟩).1,(Qid c m ⟨61,A,B,C,Imm⟩).2.2,(Qid c m ⟨61,A,B,C,Imm⟩).2.1) by kernel_rfl)
 · exact(show Q47 c m ⟨62,A,B,C,Imm⟩=((Qid c m ⟨62,A,B,C,Imm⟩).1,(Qid c m ⟨62,A,B,C,Imm⟩).2.2,(Qid c m ⟨62,A,B,C,Imm⟩).2.1) by kernel_rfl)
 · exact(show Q47 c m ⟨63,A,B,C,Imm⟩=((Qid c m ⟨63,A,B,C,Imm⟩).1,(Qid c m ⟨63,A,B,C,Imm⟩).2.2,(Qid c m ⟨63,A,B,C,Imm⟩).2.1) by kernel_rfl)
 · exact(show Q47 c m ⟨64,A,B,C,Imm⟩=((Qid c m ⟨64,A,B,C,Imm⟩).1,(Qid c m ⟨64,A,B,C,Imm⟩).2.2,(Qid c m ⟨64,A,B,C,Imm⟩).2.1) by kernel_rfl)
end
theorem form_op{op:Int}(h0:0≤op)(h1:op<256)(h:Q1q op≠0):isOp op:=by
 have e:=of_decide_eq_true (Qob (fun op=>decide (Q1q op=0∨isOpB op=true)) 256 (by kernel_rfl) h0 h1)
 rcases e with e|e
 · exact absurd e h
 · simpa only[isOpB,isOp,Bool.or_eq_true,decide_eq_true_eq,or_assoc] using e
end Go.Proofs.YtdkiadhigcfmkaaGreat
namespace Go.Proofs.YtdkiadhigcfmkaaGreat
open Go Go.GD
set_option linter.unusedVariables false
set_option linter.unusedSimpArgs false
set_option maxRecDepth 100000
theorem isOp_le{op:Int}(o:isOp op):1≤op∧op≤64:=by
 unfold isOp at o
 rcases o with h|h|h|h|h|h|h|h|h|h|h|h|h|h|h|h|h|h|h|h|h|h|h|h|h|h|h|h|h|h|h|h|h|h|h|h|h|h|h|h|h|h|h|h<;>(rw[h];decide)
theorem decode_op{w:Int}(hw:U w):(Q2t w).2=true→isOp (Q2t w).1.Op:=by
  have s24:ishr .u32 w 24=w/16777216:=by have:=Qmo (a:=w) 24 (by decide);simpa using this
  obtain⟨w0,w1⟩:=hw
  have eo:IntKind.wrap .i64 (w/16777216)=w/16777216:=w64 (by omega) (by omega)
  have q:(fun r:Q0f×Bool=>r.2=true→isOp r.1.Op) (Q2t w):=by
    simp only[Q2t,Q8q,Tree.m,letv,s24,eo]
    cases hf:Q1q (w/16777216)==0
    · have g:isOp (w/16777216):=form_op (by omega) (by omega) (by simpa using hf)
      repeat'(first
        |exact fun _=>g
        |exact fun e=>Bool.noConfusion (show false=true from e)
        |refine Qwq (Q:=fun r:Q0f×Bool=>r.2=true→isOp r.1.Op) ?_ ?_)
    · exact fun e=>Bool.noConfusion (show false=true from e)
  exact q
section
variable (c:Q02) (m:List Int)
def doR(x:Int×Int×List Int)(w:Int)(d:Q0f×Bool):Q02×Q0v×List Int:=
 bif x.2.1 !=0 then(Q20 c x.2.1 c.Pc,eff0,x.2.2) else bif !d.2 then(Q20 c 1 w,eff0,x.2.2) else bif Q49 d.1.Op then(bif iand .u32 c.Csr.a0 1==0 then(Q20 c 2 w,eff0,x.2.2) else Qid c x.2.2 d.1) else Qid c x.2.2 d.1
def doP(y:Int×List Int×Int)(d:Q0f×Bool):Q02×List Int×Q0v:=
 bif y.2.2 !=0 then(Q3f c y.2.2 c.Pc,y.2.1,eff0) else bif !d.2 then(Q3f c 1 y.1,y.2.1,eff0) else bif Q73 d.1.Op then(bif !Qa0 c then(Q3f c 2 y.1,y.2.1,eff0) else Q47 c y.2.1 d.1) else Q47 c y.2.1 d.1
theorem do_eq:Qad c m=doR c (Q0x c m c.Pc 4 1) (Q1r (Q0x c m c.Pc 4 1).2.2 (Q0x c m c.Pc 4 1).1 4).1 (Q2t (Q1r (Q0x c m c.Pc 4 1).2.2 (Q0x c m c.Pc 4 1).1 4).1):=by kernel_rfl
theorem exec_eq:Q8l c m=doP c (Qk5 c m) (Qeb (Qk5 c m).1):=by kernel_rfl
theorem fetch_eq:Qk5 c m=bif(Q1h c m c.Pc 4 1).2.2 !=0 then(0,(Q1h c m c.Pc 4 1).2.1,(Q1h c m c.Pc 4 1).2.2) else((Q3l (Q1h c m c.Pc 4 1).2.1 (Q1h c m c.Pc 4 1).1 4).1,(Q1h c m c.Pc 4 1).2.1,0):=by kernel_rfl
end
theorem exec_same{P:Nat}{m:List Int}(h:Q10 P m){c:Q02}(hc:Q1v c)(hst:c.Csr.a0≤31):Q8l c m=((Qad c m).1,(Qad c m).2.2,(Qad c m).2.1):=by
  obtain⟨k,u,b⟩:=Zbn h hc hc.pc (.inr rfl) 1
  have tr: ∀k b,Q3f c k b=Q20 c k b:=Ql4 hc.a0.1 hst
  rw[exec_eq,do_eq,fetch_eq,Ql8 h hc hst hc.pc (.inr rfl) (.inl rfl)]
  generalize Q0x c m c.Pc 4 1=x at*
  cases hx:x.2.1 !=0
  · rw [Qk9 k u (.inr rfl)]
    have hw:U (Q1r x.2.2 x.1 4).1:=(Tree.pp (Z97 k u (.inr rfl))).2
    generalize(Q1r x.2.2 x.1 4).1=w at*
    show doP c (w,x.2.2,0) (Qeb w)=_
    rw[decode_eq hw]
    have o:=decode_op hw
    have i:=Tree.post _ (Zd7 w)
    change(Q2t w).2=true→Qci (Q2t w).1 at i
    generalize Q2t w=d at*
    obtain⟨⟨op,A,B,C,Imm⟩,ok⟩:=d
    cases ok
    · simp only[doP,doR,hx,tr];rfl
    · have o:isOp op:=o rfl
      have i:=i rfl
      have p:=post_same (C:=C) (B:=B) (Imm:=Imm) k hc hst i.a o
      have pv:Q73 op=Q49 op:=priv_eq (by have:=isOp_le o;omega) (by have:=isOp_le o;omega)
      have kn:(!Qa0 c)=(iand .u32 c.Csr.a0 1==0):=by
        show(!(!(iand .u32 c.Csr.a0 1==0)))=_
        exact Bool.not_not _
      simp only[doP,doR,hx,tr,pv,kn,p]
      cases Q49 op
      · rfl
      · cases iand .u32 c.Csr.a0 1==0<;>rfl
  · simp only[doP,doR,hx,cond_true,tr]
end Go.Proofs.YtdkiadhigcfmkaaGreat
namespace Go.Proofs.YtdkiadhigcfmkaaGreat
open Go Go.GD
set_option linter.unusedVariables false
set_option linter.unusedSimpArgs false
set_option maxRecDepth 100000
theorem ge_not{a b:Int}:decide (a≥b)=!decide (a<b):=by
 by_cases h:a<b
 · rw[decide_eq_true h,decide_eq_false (by omega)];rfl
 · rw[decide_eq_false h,decide_eq_true (by omega)];rfl
def bits(g:Int)(l:List Nat)(s:Int):Int:=l.foldl (fun(a:Int) (i:Nat)=>IntKind.wrap .i64 (a+IntKind.wrap .i64 (iand .u32 (ishr .u32 g (i:Int)) 1))) s
theorem given_eq(b:Q05):Qbl b=bits b.Given [0,1,2,3,4,5,6,7,8,9,10,11,12,13,14,15,16,17,18,19,20,21,22,23,24,25,26,27,28,29,30,31] 0:=by kernel_rfl
theorem bit_eq{g:Int}(hg:U g){i:Nat}(hi:i≤32):IntKind.wrap .i64 (iand .u32 (ishr .u32 g (i:Int)) 1)=g/2^i%2:=by
 rw[and1 (Qq3 hg _),Qmo i hi]
 have:0≤g/2^i%2∧g/2^i%2<2:=by omega
 exact w64 (by omega) (by omega)
theorem bits_sum{g:Int}(hg:U g)(l:List Nat): ∀s:Int,(∀i∈l,i≤32)→0≤s→s+l.length≤1000→bits g l s=s+(l.map fun i=>g/2^i%2).sum:=by
 induction l with
 |nil=>intro s _ _ _;simp [bits]
 | cons i l ih=>
   intro s hl h0 h1
   have h1:s+(l.length+1)≤1000:=by simpa using h1
   have hb:0≤g/2^i%2∧g/2^i%2<2:=by omega
   have e:bits g (i::l) s=bits g l (s+g/2^i%2):=by
     show bits g l (IntKind.wrap .i64 (s+IntKind.wrap .i64 (iand .u32 (ishr .u32 g (i:Int)) 1)))=_
     rw[bit_eq hg (hl i (by simp)),w64 (by omega) (by omega)]
   rw[e,ih _ (fun j hj=>hl j (by simp [hj])) (by omega) (by omega)]
   simp;omega
theorem Zf9(n:Q0m)(port:Int):Qx0 n port=Qej n port:=by
 simp only[Qx0,Qp9,Qej,Qd7,Tree.m]
 cases n.Posted<;>cases n.Received<;>rfl
theorem Qz1(t:Q0i):Q5w t=Qb1 t:=by
 simp only[Q5w,Qif,Qb1,Qew,Tree.m]
 cases t.Armed<;>cases t.Fired<;>rfl
theorem Z94(n:Q0m)(p:Int):Q9s n p=Qfc n p:=by
 simp only[Q9s,Qlc,Qfc,Qij,Tree.m]
 cases n.Posted<;>cases n.Received<;>rfl
theorem Z55 (d:Q0d)(p:Int):Q3h d p=Qcz d p:=by
  simp only[Q3h,Q8g,Q7s,Q5v,Qcz,Qhg,Tree.m,letv,ge_not]
  cases decide (d.Blocks>64)
  · by_cases s:d.State=0∨d.State=1∨d.State=2∨d.State=3
    · rcases s with s|s|s|s<;>rw[s]
      · rfl
      · by_cases c1:d.Cmd=1
        · rw[c1];cases decide (d.OpBlock<d.Blocks)<;>cases decide (IntKind.wrap .i64 d.OpFrame<p)<;>cases decide (d.OpData=[])<;>rfl
        · by_cases c2:d.Cmd=2
          · rw[c2];cases decide (d.OpBlock<d.Blocks)<;>cases decide (IntKind.wrap .i64 d.OpFrame<p)<;>cases(d.OpData.length:Int)==128<;>rfl
          · rw[show(d.Cmd==1)=false by simpa using c1,show(d.Cmd==2)=false by simpa using c2]
            cases decide (d.OpBlock<d.Blocks)<;>cases decide (IntKind.wrap .i64 d.OpFrame<p)<;>rfl
      · rfl
      · rfl
    · rw[show(d.State==0)=false by simp;omega,show(d.State==1)=false by simp;omega,show(d.State==2)=false by simp;omega,show(d.State==3)=false by simp;omega]
      by_cases n:d.State<0
      · rw[decide_eq_true n];rfl
      · rw[decide_eq_false n,decide_eq_true (show d.State>3 by omega)];rfl
  · rfl
theorem con_same(c:Q0c):Q82 c=Q48 c:=by
 show(!decide (c.Keys=[]))=decide ((c.Keys.length:Int)>0)
 cases c.Keys with
 |nil=>rfl
 |cons a l=>rw[decide_eq_false (by simp),decide_eq_true (by simp)];rfl
theorem len_nil(k:List UInt8):decide (k=[])=((k.length:Int)==0):=by
 cases k with
 |nil=>rfl
 | cons a l=>
   rw[decide_eq_false (by simp)]
   exact(beq_eq_false_iff_ne.2 (by simp;omega)).symm
theorem Zfm(c:Q0c)(port:Int):Qlv c port=Q42 c port:=by
 simp only[Qlv,Q81,Q42,Q2j,Tree.m,len_nil]
 cases port==0
 · rfl
 · cases(c.Keys.length:Int)==0<;>rfl
theorem arm_same(t:Q0i)(v:Int):Qi1 t v=Qq0 v:=by
 simp only[Qi1,Qip,Qq0,Qs2,Tree.m]
 cases h:v==0
 · rw[show(v !=0)=true by simp only[bne,h];rfl];rfl
 · rw[show(v !=0)=false by simp only[bne,h];rfl,eq_of_beq h];rfl
section
variable {P:Nat} {m:List Int} (h:Q10 P m)
include h
theorem Zdq(f:Int):Qbx m f=Q29 m f:=by
 have a:=Q5d h
 have b:=Qcc h
 simp only[Qbx,Qe,Q29,Qgb,Tree.m,letv,a,b]
theorem Zej(f:Int):Qb8 m f=Q29 m f:=by
 have a:=Q5d h
 have b:=Qcc h
 simp only[Qb8,Qh2,Q29,Qgb,Tree.m,letv,a,b]
theorem Z5l (d:Q0d)(port:Int)(v:Int)(at0:Int):Quu d m port v at0=Qcg d m port v at0:=by
  have pg:=Zdq h
  have pa:=Z8d h
  have rq: ∀d a,Qgp d a=Qh4 d a:=fun _ _=>rfl
  simp only[Quu,Qbv,Qrb,Q7k,Qcg,Q78,Tree.m,letv,pg,pa,rq]
  cases port==4
  · cases port==5
    · cases h6:port==6
      · rw[show(port !=6)=true by simp only[bne,h6];rfl];rfl
      · rw [show(port !=6)=false by simp only[bne,h6];rfl]
        by_cases v1:v=1
        · subst v1
          cases hs:d.State==0
          · rw[show(d.State !=0)=true by simp only[bne,hs];rfl];rfl
          · rw[show(d.State !=0)=false by simp only[bne,hs];rfl];rfl
        · by_cases v2:v=2
          · subst v2
            cases hs:d.State==0
            · rw[show(d.State !=0)=true by simp only[bne,hs];rfl];rfl
            · rw[show(d.State !=0)=false by simp only[bne,hs];rfl];rfl
          · rw[show(v==1)=false by simpa using v1,show(v==2)=false by simpa using v2]
            cases v==0
            · rfl
            · have:Q7i d=(bif d.State==2 then true else d.State==3):=rfl
              rw[this]
              cases d.State==2<;>cases d.State==3<;>rfl
    · rfl
  · rfl
theorem Zav (n:Q0m)(port:Int)(v:Int)(at0:Int):Z3m n m port v at0=Qfs n m port v at0:=by
  have pg:=Zej h
  have pa:=Z8d h
  simp only[Z3m,Qen,Z3z,Qbd,Qfs,Q8h,Tree.m,letv,pg,pa]
  have g1:decide (n.Len≥1)=!decide (n.Len<1):=ge_not
  have g2:decide (n.Len≤128)=!decide (n.Len>128):=by
    by_cases h:n.Len>128
    · rw[decide_eq_true h,decide_eq_false (by omega)];rfl
    · rw[decide_eq_false h,decide_eq_true (by omega)];rfl
  rw[g1,g2]
  cases port==7
  · cases port==8
    · cases h9:port==9
      · rw[show(port !=9)=true by simp only[bne,h9];rfl];rfl
      · rw [show(port !=9)=false by simp only[bne,h9];rfl]
        by_cases v1:v=1
        · subst v1
          cases decide (n.Len<1)<;>cases decide (n.Len>128)<;>cases Q29 m n.Frame<;>rfl
        · by_cases v2:v=2
          · subst v2;rfl
          · rw[show(v==1)=false by simpa using v1,show(v==2)=false by simpa using v2]
            cases v==0<;>rfl
    · rfl
  · rfl
end
end Go.Proofs.YtdkiadhigcfmkaaGreat
namespace Go.Proofs.YtdkiadhigcfmkaaGreat
open Go Go.GD
set_option linter.unusedVariables false
set_option linter.unusedSimpArgs false
set_option maxRecDepth 100000
def ptab:List UInt8:=(List.range 256).map fun n=>UInt8.ofNat (n%2+n/2%2+n/4%2+n/8%2+n/16%2+n/32%2+n/64%2+n/128%2)
def pt(n:Int):Int:=((UInt8.toNat (List.getD ptab (Int.toNat n) 0):Nat):Int)
theorem pop_form(x:Int):Q5a x=IntKind.wrap .i64 (IntKind.wrap .u8 (IntKind.wrap .u8 (IntKind.wrap .u8 (pt (ishr .u32 x 24)+pt (iand .u32 (ishr .u32 x 16) 255))+pt (iand .u32 (ishr .u32 x 8) 255))+pt (iand .u32 x 255))):=by kernel_rfl
theorem pt8{a:Int}(h0:0≤a)(h1:a<256):pt a=a%2+a/2%2+a/4%2+a/8%2+a/16%2+a/32%2+a/64%2+a/128%2:=
 eq_of_beq (Qob (fun a=>pt a==a%2+a/2%2+a/4%2+a/8%2+a/16%2+a/32%2+a/64%2+a/128%2) 256 (by kernel_rfl) h0 h1)
theorem given_sum{g:Int}(hg:U g):bits g [0,1,2,3,4,5,6,7,8,9,10,11,12,13,14,15,16,17,18,19,20,21,22,23,24,25,26,27,28,29,30,31] 0=pt (g%256)+pt (g/256%256)+pt (g/65536%256)+pt (g/16777216):=by
 rw[bits_sum hg _ 0 (by decide) (by decide) (by decide),pt8 (by omega) (by omega),pt8 (by omega) (by omega),pt8 (by omega) (by omega),pt8 (by have:=hg.1;omega) (by have:=hg.2;omega)]
 obtain⟨g0,g1⟩:=hg
 simp only[List.map_cons,List.map_nil,List.sum_cons,List.sum_nil]
 have e: ∀i j:Nat,∀k:Int,i<8→k=2^j→g/2^(i+j)%2=(g/k%256)/2^i%2:=fun i j k hi hk=>by
   subst hk
   rw[Nat.add_comm,Int.pow_add,←Int.ediv_ediv_of_nonneg (Int.le_of_lt (Int.pow_pos (by decide)))]
   generalize g/2^j=x
   have:i=0∨i=1∨i=2∨i=3∨i=4∨i=5∨i=6∨i=7:=by omega
   rcases this with rfl|rfl|rfl|rfl|rfl|rfl|rfl|rfl<;>simp<;>omega
 have e0: ∀i:Nat,i<8→g/2^i%2=(g%256)/2^i%2:=fun i hi=>by have:=e i 0 1 hi rfl;simpa using this
 have e24:g/16777216%256=g/16777216:=by omega
 rw[e0 0 (by decide),e0 1 (by decide),e0 2 (by decide),e0 3 (by decide),e0 4 (by decide),e0 5 (by decide),e0 6 (by decide),e0 7 (by decide)]
 rw[e 0 8 256 (by decide) (by decide),e 1 8 256 (by decide) (by decide),e 2 8 256 (by decide) (by decide),e 3 8 256 (by decide) (by decide),e 4 8 256 (by decide) (by decide),e 5 8 256 (by decide) (by decide),e 6 8 256 (by decide) (by decide),e 7 8 256 (by decide) (by decide)]
 rw[e 0 16 65536 (by decide) (by decide),e 1 16 65536 (by decide) (by decide),e 2 16 65536 (by decide) (by decide),e 3 16 65536 (by decide) (by decide),e 4 16 65536 (by decide) (by decide),e 5 16 65536 (by decide) (by decide),e 6 16 65536 (by decide) (by decide),e 7 16 65536 (by decide) (by decide)]
 rw[e 0 24 16777216 (by decide) (by decide),e 1 24 16777216 (by decide) (by decide),e 2 24 16777216 (by decide) (by decide),e 3 24 16777216 (by decide) (by decide),e 4 24 16777216 (by decide) (by decide),e 5 24 16777216 (by decide) (by decide),e 6 24 16777216 (by decide) (by decide),e 7 24 16777216 (by decide) (by decide),e24]
 generalize g%256=a
 generalize g/256%256=b
 generalize g/65536%256=c
 generalize g/16777216=d
 simp only[show(2:Int)^0=1 from rfl,show(2:Int)^1=2 from rfl,show(2:Int)^2=4 from rfl,show(2:Int)^3=8 from rfl,show(2:Int)^4=16 from rfl,show(2:Int)^5=32 from rfl,show(2:Int)^6=64 from rfl,show(2:Int)^7=128 from rfl,Int.ediv_one]
 omega
theorem pt_le{a:Int}(h0:0≤a)(h1:a<256):0≤pt a∧pt a≤8:=by rw[pt8 h0 h1];omega
theorem Z1i{b:Q05}(hg:U b.Given):Qaa b=Qbl b∧0≤Qbl b∧Qbl b≤32:=by
 obtain⟨s8,s16,s24⟩:=shr_c b.Given
 have u8:U (ishr .u32 b.Given 8):=Qq3 hg _
 have u16:U (ishr .u32 b.Given 16):=Qq3 hg _
 have e:Qaa b=Q5a b.Given:=rfl
 rw[e,pop_form,given_eq,given_sum hg,m255 u8,m255 u16,m255 hg,s8,s16,s24]
 obtain⟨g0,g1⟩:=hg
 have p0:=pt_le (a:=b.Given%256) (by omega) (by omega)
 have p1:=pt_le (a:=b.Given/256%256) (by omega) (by omega)
 have p2:=pt_le (a:=b.Given/65536%256) (by omega) (by omega)
 have p3:=pt_le (a:=b.Given/16777216) (by omega) (by omega)
 have w8: ∀x,IntKind.wrap .u8 x=x%256:=fun x=>IntKind.wrap_u8 x
 rw[w8,w8,w8,IntKind.wrap_i64]
 omega
theorem Z6p{b:Q05}(h:okB b):Q64 b=Q2u b:=by
 obtain⟨e,l0,l1⟩:=Z1i h.2
 obtain⟨t0,t1⟩:=h.1
 simp only[Q64,Q2v,Q2u,Q7o,Tree.m,letv,e]
 rw[IntKind.wrap_u32,IntKind.wrap_u64,IntKind.wrap_u64,Int.emod_eq_of_lt l0 (by omega),Int.emod_eq_of_lt l0 (by omega),Int.emod_eq_of_lt t0 (by omega)]
theorem Zev{b:Q05}(h:okB b)(port:Int):Qm1 b port=Q40 b port:=by
 simp only[Qm1,Q83,Q40,Q4w,Tree.m,letv,(Z1i h.2).1]
theorem bit_pow(g:Int)(z:Nat):g%2^(z+1)=g%2^z+2^z*(g/2^z%2):=by
 have hp:(0:Int)<2^z:=Int.pow_pos (by decide)
 have h1:=Int.mul_ediv_add_emod g (2^z)
 have h2:=Int.mul_ediv_add_emod (g/2^z) 2
 have h3:(g/2^z)/2=g/2^(z+1):=by rw[Int.pow_succ,Int.ediv_ediv_of_nonneg (Int.le_of_lt hp)]
 have h4:=Int.mul_ediv_add_emod g (2^(z+1))
 rw[h3]at h2
 have h5:(2:Int)^(z+1)*(g/2^(z+1))=2^z*(2*(g/2^(z+1))):=by rw[Int.pow_succ,Int.mul_assoc]
 have h6:(2:Int)^z*(g/2^z)=2^z*(2*(g/2^(z+1)))+2^z*(g/2^z%2):=by rw[←Int.mul_add,h2]
 omega
theorem rbal_w{b:Q05}(hg:U b.Given){P:Nat}(hP:P≤32):(Q44 b P).w (fun r=>r=decide (b.Given<2^P)):=by
 unfold Q44
 have fin: ∀v:Int,0≤v→v≤32→IntKind.wrap .u64 v=(v.toNat:Int):=fun v h0 h1=>by rw[IntKind.wrap_u64];omega
 refine w_lp (inv:=fun z:Int=>0≤z∧z≤32∧b.Given%2^z.toNat<2^P) (μ:=Q57 b P) ⟨by decide,by decide,by have:(0:Int)<2^P:=Int.pow_pos (by decide);simpa using this⟩ (Nat.lt_succ_self _) fun z ⟨z0,z1,z2⟩=> ?_
 refine w_br (fun hb=> ?_) (fun hb=> ?_)
 · have hb:=of_decide_eq_true hb
   have ew:IntKind.i64.wrap (z+1)=z+1:=w64 (by omega) (by omega)
   have bt:iand .u32 (ishr .u32 b.Given (IntKind.wrap .u64 z)) 1=b.Given/2^z.toNat%2:=by
     rw[fin z z0 z1,and1 (Qq3 hg _),Qmo _ (by omega)]
   have bp:=bit_pow b.Given z.toNat
   have zt:(z+1).toNat=z.toNat+1:=by omega
   refine w_cn (decide_eq_true (by rw[IntKind.wrap_u64];omega)) ?_
   rw[bt]
   refine w_br (fun e=>w_br (fun hp=> ?_) (fun hp=>w_nx ?_)) (fun e=>w_nx ?_)
   · have e:=eq_of_beq e
     have hp:=of_decide_eq_true hp
     show false=_
     refine(decide_eq_false fun hlt=> ?_).symm
     have hle:(2:Int)^P≤2^z.toNat:=by exact_mod_cast Nat.pow_le_pow_right (show 0<2 by decide) (show P≤z.toNat by omega)
     have:b.Given/2^z.toNat=0:=Int.ediv_eq_zero_of_lt hg.1 (by omega)
     rw[this]at e;cases e
   · have e:=eq_of_beq e
     have hp:=of_decide_eq_false hp
     show(0≤IntKind.i64.wrap (z+1)∧IntKind.i64.wrap (z+1)≤32∧b.Given%2^(IntKind.i64.wrap (z+1)).toNat<2^P)∧(32-IntKind.i64.wrap (z+1)).toNat<(32-z).toNat
     rw[ew,zt]
     have hle:(2:Int)^(z.toNat+1)≤2^P:=by exact_mod_cast Nat.pow_le_pow_right (show 0<2 by decide) (show z.toNat+1≤P by omega)
     have:=Int.emod_lt_of_pos b.Given (show(0:Int)<2^(z.toNat+1) from Int.pow_pos (by decide))
     exact⟨⟨by omega,by omega,by omega⟩,by omega⟩
   · have e: ¬b.Given/2^z.toNat%2=1:=by simpa using e
     have e:b.Given/2^z.toNat%2=0:=by omega
     rw[e]at bp
     show(0≤IntKind.i64.wrap (z+1)∧IntKind.i64.wrap (z+1)≤32∧b.Given%2^(IntKind.i64.wrap (z+1)).toNat<2^P)∧(32-IntKind.i64.wrap (z+1)).toNat<(32-z).toNat
     rw[ew,zt,bp]
     exact⟨⟨by omega,by omega,by omega⟩,by omega⟩
 · have hb:=of_decide_eq_false hb
   have:z=32:=by omega
   subst this
   show true=_
   refine(decide_eq_true ?_).symm
   have h2:b.Given%2^(32:Int).toNat=b.Given:=Int.emod_eq_of_lt hg.1 hg.2
   rwa [h2]at z2
theorem Zb6{b:Q05}(hg:U b.Given){P:Nat}(hP:P≤32):Q2x b P=Q8 b P:=by
 have r:=(Tree.pp (rbal_w hg hP)).2
 change Q8 b P=_ at r
 rw[r,Bool.eq_iff_iff,Qvt hg,decide_eq_true_eq]
end Go.Proofs.YtdkiadhigcfmkaaGreat
namespace Go.Proofs.YtdkiadhigcfmkaaGreat
open Go Go.GD
set_option linter.unusedVariables false
set_option linter.unusedSimpArgs false
set_option maxRecDepth 100000
theorem zeros:strings_Repeat [(0:UInt8)] 128=List.replicate 128 0:=by kernel_rfl
theorem give_b{P:Nat}{m:List Int}(hm:Q10 P m){b:Q05}{port:Int}{v:Int}(hv:U v)(hp:v<P)(h10:port=10)(hb:(iand .u32 (ishr .u32 b.Given v) 1==0)=true):(Q3j b m port v).w (fun r=>r.1={Target:=b.Target,Given:=ior .u32 b.Given (ishl .u32 1 v)}∧Q10 P r.2∧ ∀k:Nat,byt r.2 k=if v*128≤k∧(k:Int)<v*128+128 then 0 else byt m k):=by
 have hv0:decide (0≤v)=true:=decide_eq_true hv.1
 have h2:=hm.p2
 have pg:Q29 m v=true:=by rw[Qq9 hm hv];exact decide_eq_true hp
 obtain⟨v1,v2⟩:=hv
 subst h10
 unfold Q3j
 refine w_br (fun _=>w_lv fun x0 hx=>w_br (fun _=>w_cn hv0 (w_br (fun _=>w_cn hv0 ?_) (fun h=>by rw[hb]at h;cases h))) (fun h=>by rw[hx,pg]at h;cases h)) (fun h=>by cases h)
 refine w_lp (inv:=fun z=>0≤z.1∧z.1≤32∧Q10 P z.2∧ ∀k:Nat,byt z.2 k=if v*128≤k∧(k:Int)<v*128+4*z.1 then 0 else byt m k) (μ:=Qf8 b m 10 v) ⟨show(0:Int)≤0 by decide,show(0:Int)≤32 by decide,hm,fun k=>by rw[if_neg];show¬(_∧_<_+4*(0:Int));omega⟩ (Nat.lt_succ_self _) (fun z hz=> ?_)
 obtain⟨z1,z2,z3,z4⟩:=hz
 have hl:=z3.len
 refine w_br (fun h=> ?_) (fun h=>⟨rfl,z3,fun k=> ?_⟩)
 · have h:=of_decide_eq_true h
   have e:IntKind.wrap IntKind.i64 (IntKind.wrap IntKind.i64 (IntKind.wrap IntKind.i64 v*32)+z.1)=v*32+z.1:=by rw[IntKind.wrap_i64,IntKind.wrap_i64,IntKind.wrap_i64];omega
   refine w_cn (by rw[e];simp [Nat.blt];omega) (w_nx ?_)
   have ew:IntKind.i64.wrap (z.1+1)=z.1+1:=by rw[IntKind.wrap_i64];omega
   show(0≤IntKind.i64.wrap (z.1+1)∧IntKind.i64.wrap (z.1+1)≤32∧Q10 P (List.set _ _ _)∧ ∀k:Nat,byt (List.set z.2 (Int.toNat (IntKind.wrap IntKind.i64 (IntKind.wrap IntKind.i64 (IntKind.wrap IntKind.i64 v*32)+z.1))) 0) k=if v*128≤(k:Int)∧(k:Int)<v*128+4*IntKind.i64.wrap (z.1+1) then 0 else _)∧(32-IntKind.i64.wrap (z.1+1)).toNat<(32-z.1).toNat
   rw[ew,e]
   refine⟨⟨by omega,by omega,⟨by simp [hl],z3.p1,z3.p2,Qv8 z3.u U_0 _⟩,fun k=> ?_⟩,by omega⟩
   rw[byt_set (by omega)]
   by_cases hc:k/4=(v*32+z.1).toNat
   · rw[if_pos hc,if_pos (by omega)]
     have:k%4=0∨k%4=1∨k%4=2∨k%4=3:=by omega
     rcases this with h|h|h|h<;>rw[h]<;>rfl
   · rw[if_neg hc,z4 k]
     by_cases hd:v*128≤(k:Int)∧(k:Int)<v*128+4*z.1
     · rw[if_pos hd,if_pos (by omega)]
     · rw[if_neg hd,if_neg (by omega)]
 · have h:=of_decide_eq_false h
   show byt z.2 k=_
   rw[z4 k,show z.1=32 by omega];rfl
theorem bitv{g v:Int}(hg:U g)(v0:0≤v)(v1:v<32):(iand .u32 g (ishl .u32 1 v)==0)=(iand .u32 (ishr .u32 g v) 1==0):=by
 obtain⟨z,rfl⟩: ∃z:Nat,v=z:=⟨v.toNat,by omega⟩
 obtain⟨n,rfl⟩: ∃n:Nat,g=n:=⟨g.toNat,by have:=hg.1;omega⟩
 have hz:z<32:=by omega
 have hlt:(2:Nat)^z<4294967296:=by have:=Nat.pow_lt_pow_right (show 1<2 by omega) hz;simpa using this
 rw[and1 (Qq3 hg _),Qmo z (by omega),shl_one v0 v1,Int.toNat_natCast]
 have hc:((2:Int)^z)=((2^z:Nat):Int):=by simp
 generalize hq:2^z=q at*
 rw[hc,Z9y hg ⟨by omega,by omega⟩,Int.toNat_natCast,Int.toNat_natCast,←hq]
 have e1:(n&&&2^z)=0↔n/2^z%2=0:=by
   have t:n.testBit z=decide (n/2^z%2=1):=Nat.testBit_eq_decide_div_mod_eq
   constructor
   · intro h
     have h2:(n&&&2^z).testBit z=false:=by rw[h];exact Nat.zero_testBit z
     rw[Nat.testBit_and,Nat.testBit_two_pow_self,Bool.and_true,t]at h2
     have:=of_decide_eq_false h2
     omega
   · intro h
     have t0:n.testBit z=false:=by rw[t];exact decide_eq_false (by omega)
     apply Nat.eq_of_testBit_eq
     intro i
     rw[Nat.testBit_and,Nat.testBit_two_pow,Nat.zero_testBit]
     by_cases hi:z=i
     · subst hi;rw[t0];rfl
     · rw[decide_eq_false hi,Bool.and_false]
 rw[Bool.eq_iff_iff,beq_iff_eq,beq_iff_eq]
 constructor
 · intro h;have:=e1.1 (by omega);omega
 · intro h;have:=e1.2 (by omega);omega
theorem Za0 {P:Nat}{m:List Int}(h:Q10 P m){b:Q05}(hb:okB b)(port:Int){v:Int}(hv:U v):Q6f b m port v=Q5e b m port v:=by
  have hcl:Q04 m=m:=rfl
  have hp:=Q5d h
  have h2:=h.p2
  have ew:IntKind.i64.wrap v=v:=w64 (by have:=hv.1;omega) (by have:=hv.2;omega)
  have pe:=Qq9 h hv
  by_cases h32:v<32
  · have bv :=bitv hb.2 hv.1 h32
    by_cases h10:port=10
    · by_cases hP:v<P
      · cases hz:iand .u32 (ishr .u32 b.Given v) 1==0
        · simp only[Q6f,Q2f,Q5e,Q3j,Tree.m,letv,hcl,hp,ew,pe,bv,hz,h10,decide_eq_true hP,decide_eq_false (show¬v≥32 by omega)]
          rfl
        · obtain⟨g1,g2,g3⟩:=(Tree.pp (give_b h hv hP h10 hz)).2
          change(Q5e b m port v).1=_ at g1
          change Q10 P (Q5e b m port v).2 at g2
          change∀k:Nat,byt (Q5e b m port v).2 k=_ at g3
          obtain⟨s1,s2,s3⟩:=(Tree.pp (setPage_b h hv.1 hP (s:=List.replicate 128 0) (by simp))).2
          have em:(Qcb m v (List.replicate 128 0)).1=(Q5e b m port v).2:=by
            refine byt_ext (s2.len.trans g2.len.symm) s2.u g2.u fun k=> ?_
            rw[g3 k]
            refine(s3 k).trans ?_
            by_cases hk:v*128≤(k:Int)∧(k:Int)<v*128+128
            · rw[if_pos hk,if_pos hk]
              have:(List.replicate 128 (0:UInt8)).getD ((k:Int)-v*128).toNat 0=0:=by
                rw[List.getD_eq_getElem?_getD,List.getElem?_replicate]
                split<;>rfl
              rw[this];rfl
            · rw[if_neg hk,if_neg hk]
          have el:Q6f b m port v=({Target:=b.Target,Given:=ior .u32 b.Given (ishl .u32 1 v)},(Qcb m v (List.replicate 128 0)).1):=by
            simp only[Q6f,Q2f,Tree.m,letv,hcl,hp,ew,bv,hz,h10,decide_eq_true hP,decide_eq_false (show¬v≥32 by omega),zeros]
            rfl
          rw[el,em,←g1]
      · simp only[Q6f,Q2f,Q5e,Q3j,Tree.m,letv,hcl,hp,ew,pe,h10,decide_eq_false hP,decide_eq_false (show¬v≥32 by omega)]
        rfl
    · simp only[Q6f,Q2f,Q5e,Q3j,Tree.m,letv,hcl,decide_eq_true h32,decide_eq_false (show¬v≥32 by omega),show(port==10)=false by simpa using h10]
      cases port==11<;>rfl
  · simp only[Q6f,Q2f,Q5e,Q3j,Tree.m,letv,hcl,pe,decide_eq_false h32,decide_eq_true (show v≥32 by omega),decide_eq_false (show¬v<P by omega)]
    cases port==10<;>cases port==11<;>rfl
end Go.Proofs.YtdkiadhigcfmkaaGreat
namespace Go.Proofs.YtdkiadhigcfmkaaGreat
open Go Go.GD
set_option linter.unusedVariables false
set_option linter.unusedSimpArgs false
set_option maxRecDepth 100000
structure okV(m:Q00):Prop where
 cpu:Q1v m.Cpu
 mem: ∀w∈m.Mem,U w
 disk:Qaq m.Disk
 nic:Qj6 m.Nic
 bal:okB m.Balloon
 cnt:0≤m.Count
theorem Qw0(m:List Int)(hm: ∀w∈m,U w):Q0s m=Q2p m∧(Q0s m=0∨ ∃P:Nat,1≤P∧Q10 P m):=by
 refine⟨rfl,?_⟩
 simp only[Q0s,Q7,Tree.m]
 cases h1:Int.tmod (m.length:Int) 32 !=0
 · cases h2:decide ((m.length:Int)>1024)
   · have h1:Int.tmod (m.length:Int) 32=0:=by simpa using h1
     have h2:=of_decide_eq_false h2
     rw[Int.tmod_eq_emod_of_nonneg (by omega)]at h1
     by_cases h0:m.length=0
     · left;rw[h0];rfl
     · right;exact⟨m.length/32,by omega,⟨by omega,by omega,by omega,hm⟩⟩
   · left;rfl
 · left;rfl
theorem rcnd{a x:Bool}:(bif !a then false else x)=true↔a=true∧x=true:=by cases a<;>simp
theorem rmay_iff(m:Q00):Qgn m=true↔ ¬(Q2p m.Mem<1)∧Q6a m.Cpu∧Qfl m.Console=true∧Qb1 m.Timer=true∧Qcz m.Disk (Q2p m.Mem)=true∧Qfc m.Nic (Q2p m.Mem)=true∧Q8 m.Balloon (Q2p m.Mem)=true∧m.Count≤1152921504606846976∧ ¬(m.Waiting=true∧m.Halted=true):=by
 simp only[Qgn,Qru,Tree.m,letv]
 rw[cnd2,cnd2,cnd2,cnd2,cnd2,cnd2,rcnd,rcnd,rcnd,rcnd,rcnd]
 simp only[decide_eq_false_iff_not,Int.not_lt,bne_eq_false_iff_eq,gt_iff_lt]
 have l:((bif decide (m.Count≤1152921504606846976) then(bif m.Waiting then !m.Halted else true) else false)=true)↔m.Count≤1152921504606846976∧ ¬(m.Waiting=true∧m.Halted=true):=by
   by_cases hc:m.Count≤1152921504606846976
   · rw[decide_eq_true hc]
     cases m.Waiting<;>cases m.Halted<;>simp [hc]
   · rw[decide_eq_false hc];simp [hc]
 rw[l]
 constructor
 · rintro⟨a1,a2,a3,a4,a5,a6,a7⟩
   exact⟨by omega,⟨a2,a3,a4,a5,a6⟩,a7⟩
 · rintro⟨a1,⟨a2,a3,a4,a5,a6⟩,a7⟩
   exact⟨by omega,a2,a3,a4,a5,a6,a7⟩
theorem may_same{m:Q00}(h:okV m):Q1y m=Qgn m:=by
 rw[Bool.eq_iff_iff,Qw3,rmay_iff,dev_eq]
 obtain⟨e,c⟩:=Qw0 m.Mem h.mem
 simp only[Bool.and_eq_true,←e]
 rcases c with c|⟨P,hP,hm⟩
 · constructor
   · rintro⟨a,_⟩;exact absurd c a
   · rintro⟨a,_⟩;omega
 · rw[Q5d hm,Qz1,Z55,Z94,Zb6 h.bal.2 hm.p2]
   constructor
   · rintro⟨a1,a2,a3,a4,a5,a6,a7,a8,a9⟩;exact⟨by omega,a2,a5,a6,a7,a8,a9,a3,a4⟩
   · rintro⟨a1,a2,a5,a6,a7,a8,a9,a3,a4⟩;exact⟨by omega,a2,a3,a4,a5,a6,a7,a8,a9⟩
def Z2v(a b c d e:Bool):Int:=ior .u32 (ior .u32 (ior .u32 (ior .u32 (Q7t a 0) (Q7t b 1)) (Q7t c 2)) (Q7t d 3)) (Q7t e 4)
theorem mlines(m:Q00):Qaf m=Z2v (Qdz m.Timer) (Q82 m.Console) (Q7i m.Disk) (Qj2 m.Nic) (Q64 m.Balloon):=by
 unfold Qaf Q4h
 simp only[Tree.m,letv]
 generalize Qdz m.Timer=a
 generalize Q82 m.Console=b
 generalize Q7i m.Disk=c
 generalize Qj2 m.Nic=d
 generalize Q64 m.Balloon=e
 cases a<;>cases b<;>cases c<;>cases d<;>cases e<;>kernel_rfl
theorem Zep(a b c d e:Bool):0≤Z2v a b c d e∧Z2v a b c d e<32:=by
 cases a<;>cases b<;>cases c<;>cases d<;>cases e<;>decide
theorem rlines(m:Q00):Qeh m=Z2v (Q8m m.Timer) (Q48 m.Console) (Q9j m.Disk) (Qak m.Nic) (Q2u m.Balloon):=rfl
section
variable {m:Q00} (h:okV m)
include h
theorem Zef:Qaf m=Qeh m:=by
 rw[mlines,rlines,con_same,Z6p h.bal];rfl
theorem Qt5:Q46 m=Q26 m:=by
 have e:=Zef h
 simp only[Q46,Q2s,Q26,Q7a,Tree.m,letv,e]
theorem idle_same:Q5f m=Qhl m:=by
 have e:=Qt5 h
 simp only[Q5f,Q31,Qhl,Qbr,Tree.m,letv,e]
theorem Qx4:Q2a m=!Q70 m:=by
 have e1:=may_same h
 have e2:=idle_same h
 have e3:decide (m.Count≥1152921504606846976)=!decide (m.Count<1152921504606846976):=ge_not
 simp only[Q2a,Q3z,Q70,Qa,Tree.m,letv,e1,e2,e3]
 cases Qgn m<;>cases m.Halted<;>cases Qhl m<;>cases decide (m.Count<1152921504606846976)<;>rfl
theorem Z1o:0≤Q26 m∧Q26 m<32:=by
 have e:Q26 m=iand .u32 (Qeh m) m.Cpu.Csr.a7:=rfl
 have l:=Zep (Q8m m.Timer) (Q48 m.Console) (Q9j m.Disk) (Qak m.Nic) (Q2u m.Balloon)
 rw[←rlines]at l
 rw[e,Z9y ⟨l.1,by omega⟩ h.cpu.a7]
 have:=Nat.and_le_left (n:=(Qeh m).toNat) (m:=m.Cpu.Csr.a7.toNat)
 omega
def low(l:Int):Int:=if l%2=1 then 0 else if l/2%2=1 then 1 else if l/4%2=1 then 2 else if l/8%2=1 then 3 else 4
end
theorem cases32{l:Int}(h0:0≤l)(h1:l<32):l=0∨l=1∨l=2∨l=3∨l=4∨l=5∨l=6∨l=7∨l=8∨l=9∨l=10∨l=11∨l=12∨l=13∨l=14∨l=15∨l=16∨l=17∨l=18∨l=19∨l=20∨l=21∨l=22∨l=23∨l=24∨l=25∨l=26∨l=27∨l=28∨l=29∨l=30∨l=31:=by omega
def intr(m:Q00)(l:Int):Q02:=bif iand .u32 m.Cpu.Csr.a0 2==0 then m.Cpu else bif l==0 then m.Cpu else Q20 m.Cpu (IntKind.wrap .i64 (16+low l)) 0
theorem rintr{m:Q00}(h:okV m):Q0r m=intr m (Q26 m):=by
 obtain⟨l0,l1⟩:=Z1o h
 unfold Q0r Q3i
 simp only[Tree.m,letv]
 revert l0 l1
 generalize Q26 m=l
 intro l0 l1
 unfold intr
 cases iand .u32 m.Cpu.Csr.a0 2==0
 · rcases cases32 l0 l1 with rfl|rfl|rfl|rfl|rfl|rfl|rfl|rfl|rfl|rfl|rfl|rfl|rfl|rfl|rfl|rfl|rfl|rfl|rfl|rfl|rfl|rfl|rfl|rfl|rfl|rfl|rfl|rfl|rfl|rfl|rfl|rfl<;>kernel_rfl
 · rfl
def beg(m:Q00)(c:Q02):Q00:={Cpu:=c,Mem:=m.Mem,Console:=m.Console,Timer:=m.Timer,Disk:=m.Disk,Nic:=m.Nic,Balloon:=m.Balloon,Count:=m.Count,Waiting:=false,Halted:=m.Halted}
theorem Zer{m:Q00}(h:okV m)(hst:m.Cpu.Csr.a0≤31):Q0z m=beg m (Q0r m):=by
 obtain⟨l0,l1⟩:=Z1o h
 have tr: ∀k b,Q3f m.Cpu k b=Q20 m.Cpu k b:=Ql4 h.cpu.a0.1 hst
 have e:Q46 (beg m m.Cpu)=Q26 m:=Qt5 (m:=beg m m.Cpu) ⟨h.cpu,h.mem,h.disk,h.nic,h.bal,h.cnt⟩
 rw[rintr h]
 unfold Q0z Q4d
 simp only[Tree.m,letv]
 rw[show Q46 {Cpu:=m.Cpu,Mem:=m.Mem,Console:=m.Console,Timer:=m.Timer,Disk:=m.Disk,Nic:=m.Nic,Balloon:=m.Balloon,Count:=m.Count,Waiting:=false,Halted:=m.Halted}=Q26 m from e]
 revert l0 l1
 generalize Q26 m=l
 intro l0 l1
 unfold intr
 simp only[←tr]
 cases iand .u32 m.Cpu.Csr.a0 2==0
 · rcases cases32 l0 l1 with rfl|rfl|rfl|rfl|rfl|rfl|rfl|rfl|rfl|rfl|rfl|rfl|rfl|rfl|rfl|rfl|rfl|rfl|rfl|rfl|rfl|rfl|rfl|rfl|rfl|rfl|rfl|rfl|rfl|rfl|rfl|rfl<;>(show _=_;kernel_rfl)
 · rfl
end Go.Proofs.YtdkiadhigcfmkaaGreat
namespace Go.Proofs.YtdkiadhigcfmkaaGreat
open Go Go.GD
set_option linter.unusedVariables false
set_option linter.unusedSimpArgs false
set_option maxRecDepth 100000
theorem ports{p:Int}:p=0∨p=1∨p=2∨p=3∨p=4∨p=5∨p=6∨p=7∨p=8∨p=9∨p=10∨p=11∨p<0∨12≤p:=by omega
theorem in_same{m:Q00}(hb:okB m.Balloon)(port clock:Int):Q1 m port clock=((Qem m port clock).2,(Qem m port clock).1):=by
 have e1:=Zfm m.Console
 have e2: ∀p,Qqa m.Disk p=Qg7 m.Disk p:=fun _=>rfl
 have e3:=Zf9 m.Nic
 have e4:=Zev hb
 have e5:Quo m.Timer=Qd9 m.Timer:=rfl
 simp only[Q1,Q2g,Qem,Qk1,Tree.m,letv,e1,e2,e3,e4,e5]
 rcases ports (p:=port) with rfl|rfl|rfl|rfl|rfl|rfl|rfl|rfl|rfl|rfl|rfl|rfl|h|h
 all_goals first|rfl|skip
 · have n: ∀k:Int,0≤k→(port==k)=false:=fun k hk=>beq_eq_false_iff_ne.2 (by omega)
   have c:Q42 m.Console port=(m.Console,0):=by
     simp only[Q42,Q2j,Tree.m,n 0 (by decide),n 1 (by decide),cond_false]
   simp only[n 0 (by decide),n 1 (by decide),n 2 (by decide),n 3 (by decide),n 4 (by decide),n 5 (by decide),n 6 (by decide),n 7 (by decide),n 8 (by decide),n 9 (by decide),n 10 (by decide),n 11 (by decide),cond_false,decide_eq_true (show port≤1 by omega),cond_true,c]
 · have n: ∀k:Int,k<12→(port==k)=false:=fun k hk=>beq_eq_false_iff_ne.2 (by omega)
   have c:Q40 m.Balloon port=0:=by
     simp only[Q40,Q4w,Tree.m,n 10 (by decide),n 11 (by decide),cond_false]
   simp only[n 0 (by decide),n 1 (by decide),n 2 (by decide),n 3 (by decide),n 4 (by decide),n 5 (by decide),n 6 (by decide),n 7 (by decide),n 8 (by decide),n 9 (by decide),n 10 (by decide),n 11 (by decide),cond_false,decide_eq_false (show¬port≤1 by omega),decide_eq_false (show¬port≤6 by omega),decide_eq_false (show¬port≤9 by omega),c]
theorem out_same{P:Nat}{m:Q00}(hm:Q10 P m.Mem)(hb:okB m.Balloon)(port:Int){v:Int}(hv:U v):Q1k m port v m.Count=((Qc0 m port v).2,(Qc0 m port v).1):=by
 have e1:=Z5l hm m.Disk
 have e2:=Zav hm m.Nic
 have e3:=Za0 hm hb port hv
 have e4:=arm_same m.Timer v
 simp only[Q1k,Q24,Qc0,Qeg,Tree.m,letv,e1,e2,e3,e4]
 rcases ports (p:=port) with rfl|rfl|rfl|rfl|rfl|rfl|rfl|rfl|rfl|rfl|rfl|rfl|h|h
 all_goals first|rfl|skip
 · have n: ∀k:Int,0≤k→(port==k)=false:=fun k hk=>beq_eq_false_iff_ne.2 (by omega)
   simp only[n 0 (by decide),n 1 (by decide),n 2 (by decide),n 3 (by decide),n 4 (by decide),n 5 (by decide),n 6 (by decide),n 7 (by decide),n 8 (by decide),n 9 (by decide),n 10 (by decide),n 11 (by decide),cond_false,decide_eq_true (show port≤2 by omega),cond_true]
 · have n: ∀k:Int,k<12→(port==k)=false:=fun k hk=>beq_eq_false_iff_ne.2 (by omega)
   have c:Q5e m.Balloon m.Mem port v=(m.Balloon,m.Mem):=by
     simp only[Q5e,Q3j,Tree.m,n 10 (by decide),n 11 (by decide),cond_false]
   simp only[n 0 (by decide),n 1 (by decide),n 2 (by decide),n 3 (by decide),n 4 (by decide),n 5 (by decide),n 6 (by decide),n 7 (by decide),n 8 (by decide),n 9 (by decide),n 10 (by decide),n 11 (by decide),cond_false,decide_eq_false (show¬port≤2 by omega),decide_eq_false (show¬port≤6 by omega),decide_eq_false (show¬port≤9 by omega),c]
def tick(n:Q00)(c:Q02)(w h:Bool):Q00:={Cpu:=c,Mem:=n.Mem,Console:=n.Console,Timer:=n.Timer,Disk:=n.Disk,Nic:=n.Nic,Balloon:=n.Balloon,Count:=IntKind.wrap .u64 (n.Count+1),Waiting:=w,Halted:=h}
def withX(m:Q00)(c:Q02)(mem:List Int):Q00:={Cpu:=c,Mem:=mem,Console:=m.Console,Timer:=m.Timer,Disk:=m.Disk,Nic:=m.Nic,Balloon:=m.Balloon,Count:=m.Count,Waiting:=false,Halted:=m.Halted}
def finP(n:Q00)(e:Q0v)(clock at0:Int):Q00×List Q08:=
 bif e.Kind==1 then
   (bif e.Reg !=0 then(tick (Q1 n e.Port clock).1 {X:=A16.of 0 (List.set (A16.l (Q1 n e.Port clock).1.Cpu.X) (Int.toNat e.Reg) (Q1 n e.Port clock).2),Pc:=(Q1 n e.Port clock).1.Cpu.Pc,Csr:=(Q1 n e.Port clock).1.Cpu.Csr} (Q1 n e.Port clock).1.Waiting (Q1 n e.Port clock).1.Halted,[])
   else(tick (Q1 n e.Port clock).1 (Q1 n e.Port clock).1.Cpu (Q1 n e.Port clock).1.Waiting (Q1 n e.Port clock).1.Halted,[]))
 else bif e.Kind==2 then(tick (Q1k n e.Port e.Value at0).1 (Q1k n e.Port e.Value at0).1.Cpu (Q1k n e.Port e.Value at0).1.Waiting (Q1k n e.Port e.Value at0).1.Halted,(Q1k n e.Port e.Value at0).2)
 else bif e.Kind==3 then(tick n n.Cpu true n.Halted,[]) else bif e.Kind==4 then(tick n n.Cpu n.Waiting true,[]) else(tick n n.Cpu n.Waiting n.Halted,[])
def finR(n:Q00)(e:Q0v)(clock:Int):List Q08×Q00:=
 bif e.Kind==1 then([],tick (Qem n e.Port clock).2 (Q1c (Qem n e.Port clock).2.Cpu e.Reg (Qem n e.Port clock).1) (Qem n e.Port clock).2.Waiting (Qem n e.Port clock).2.Halted)
 else bif e.Kind==2 then((Qc0 n e.Port e.Value).1,tick (Qc0 n e.Port e.Value).2 (Qc0 n e.Port e.Value).2.Cpu (Qc0 n e.Port e.Value).2.Waiting (Qc0 n e.Port e.Value).2.Halted)
 else bif e.Kind==3 then([],tick n n.Cpu true n.Halted) else bif e.Kind==4 then([],tick n n.Cpu n.Waiting true) else([],tick n n.Cpu n.Waiting n.Halted)
theorem adv_eq(m:Q00)(clock:Int):Q9w m clock=finR (withX m (Qad (Q0r m) m.Mem).1 (Qad (Q0r m) m.Mem).2.2) (Qad (Q0r m) m.Mem).2.1 clock:=by kernel_rfl
theorem Zc4(m:Q00)(clock:Int):Q7u m clock=bif !Q2a m then(m,[]) else finP {Cpu:=(Q8l (Q0z m).Cpu (Q0z m).Mem).1,Mem:=(Q8l (Q0z m).Cpu (Q0z m).Mem).2.1,Console:=(Q0z m).Console,Timer:=(Q0z m).Timer,Disk:=(Q0z m).Disk,Nic:=(Q0z m).Nic,Balloon:=(Q0z m).Balloon,Count:=(Q0z m).Count,Waiting:=(Q0z m).Waiting,Halted:=(Q0z m).Halted} (Q8l (Q0z m).Cpu (Q0z m).Mem).2.2 clock m.Count:=by kernel_rfl
theorem copy_eq(m:List Int):Ql m=m:=by
 simp [Ql,Q80,Tree.m]
theorem own_eq(m:Q00):Qh3 m=m:=by
 simp only[Qh3,Q77,Tree.m,letv,copy_eq]
theorem rstep_eq(m:Q00)(clock:Int):Ql3 m clock=bif Q70 m then(m,[]) else((Q9w m clock).2,(Q9w m clock).1):=by
 simp only[Ql3,Qbh,Tree.m,letv,own_eq]
theorem fin_same{P:Nat}{n:Q00}(hm:Q10 P n.Mem)(hb:okB n.Balloon){e:Q0v}(hr:0≤e.Reg∧e.Reg<16)(hv:U e.Value)(clock:Int):finP n e clock n.Count=((finR n e clock).2,(finR n e clock).1):=by
 unfold finP finR
 rw[in_same hb e.Port clock,out_same hm hb e.Port hv]
 cases e.Kind==1
 · cases e.Kind==2
   · cases e.Kind==3
     · cases e.Kind==4<;>rfl
     · rfl
   · rfl
 · generalize Qem n e.Port clock=r
   have s:=Quw r.2.Cpu hr r.1
   show(bif e.Reg !=0 then _ else _)=(tick r.2 (Q1c r.2.Cpu e.Reg r.1) r.2.Waiting r.2.Halted,[])
   rw[←s]
   simp only[Q8v,Q97,Tree.m]
   cases e.Reg !=0<;>rfl
theorem step_same{m:Q00}(h:okV m)(clock:Int):Q7u m clock=Ql3 m clock:=by
 rw[Zc4,rstep_eq,Qx4 h]
 cases hs:Q70 m
 · have hr:Q2a m=true:=by rw[Qx4 h,hs];rfl
   obtain⟨hm,hh,hct⟩:=Qus hr
   obtain⟨g1,g2,g3,g4,g5⟩:=(Qw3 m).1 hm
   rcases(Qw0 m.Mem h.mem).2 with c|⟨P,hP,hmem⟩
   · exact absurd c g1
   have okm:okS P m:=⟨h.cpu,hmem,h.disk,h.nic,h.bal.1,h.bal.2⟩
   obtain⟨b1,b2,b3,_⟩:=(Tree.pp (Z7o okm g2)).2
   change Q6a (Q0z m).Cpu at b1
   change okS P (Q0z m) at b2
   change(Q0z m).Mem=m.Mem at b3
   have be:=Zer h g2.st
   have b1':Q6a (Q0r m):=by have:=b1;rw[be]at this;exact this
   have b2':Q1v (Q0r m):=by have:=b2.cpu;rw[be]at this;exact this
   have ex:=exec_same hmem b2' b1'.st
   have er:=(Tree.pp (Zdh b2' hmem)).2
   change 0≤(Q8l (Q0r m) m.Mem).2.2.Reg∧(Q8l (Q0r m) m.Mem).2.2.Reg<16 at er
   obtain⟨d1,d2,d3⟩:=(Tree.pp (do_w b2' hmem)).2
   change U (Qad (Q0r m) m.Mem).2.1.Value at d2
   change Q10 P (Qad (Q0r m) m.Mem).2.2 at d3
   rw[ex]at er
   rw[adv_eq,be]
   show finP {Cpu:=(Q8l (Q0r m) m.Mem).1,Mem:=(Q8l (Q0r m) m.Mem).2.1,Console:=m.Console,Timer:=m.Timer,Disk:=m.Disk,Nic:=m.Nic,Balloon:=m.Balloon,Count:=m.Count,Waiting:=false,Halted:=m.Halted} (Q8l (Q0r m) m.Mem).2.2 clock m.Count=_
   rw[ex]
   exact fin_same (n:=withX m (Qad (Q0r m) m.Mem).1 (Qad (Q0r m) m.Mem).2.2) d3 h.bal er d2 clock
 · rfl
end Go.Proofs.YtdkiadhigcfmkaaGreat
namespace Go.Proofs.YtdkiadhigcfmkaaGreat
open Go Go.GD
set_option linter.unusedVariables false
set_option linter.unusedSimpArgs false
set_option maxRecDepth 100000
end Go.Proofs.YtdkiadhigcfmkaaGreat
namespace Go.Proofs.YtdkiadhigcfmkaaGreat
open Go Go.GD
set_option linter.unusedVariables false
set_option linter.unusedSimpArgs false
set_option maxRecDepth 100000
theorem Q0o{t:STy}{ts:List STy}{es:List D}(h:Fits (t::ts) es): ∃d ds,es=d::ds∧Fit t d∧Fits ts ds:=by
 cases es with
 |nil=>exact absurd h (by simp [Fits])
 |cons d ds=>unfold Fits at h;exact⟨d,ds,rfl,h.1,h.2⟩
theorem fits_nil{es:List D}(h:Fits [] es):es=[]:=by
 cases es with
 |nil=>rfl
 |cons d ds=>exact absurd h (by simp [Fits])
theorem u_of{x:Int}(h:IntKind.u32.min≤x∧x≤IntKind.u32.max):U x:=⟨h.1,by have:IntKind.u32.max=4294967295:=rfl;have:=h.2;omega⟩
theorem Z7q{es:List D}(h:Fits [.int .u32, .int .u32, .int .u32, .int .u32, .int .u32, .int .u32, .int .u32, .int .u32, .int .u32, .int .u32, .int .u32, .int .u32, .int .u32, .int .u32, .int .u32, .int .u32, .int .u32, .int .u32, .int .u32, .int .u32, .int .u32, .int .u32, .int .u32, .int .u32, .int .u32, .sl [.int .u32], .str, .bool, .int .u32, .bool, .int .u32, .int .u32, .int .u32, .int .i64, .int .i64, .int .u32, .int .u32, .str, .int .u32, .int .u32, .bool, .int .u32, .bool, .int .u32, .int .u32, .int .u32, .int .u64, .bool, .bool] es): ∃m:Q00,es=m.cells∧okV m∧m.Mem.length*4≤reachBytes:=by
 obtain⟨d0,e0,rfl,h0,H0⟩:=Q0o h
 obtain⟨x0,rfl,b0⟩:=Q1b h0
 obtain⟨d1,e1,rfl,h1,H1⟩:=Q0o H0
 obtain⟨x1,rfl,b1⟩:=Q1b h1
 obtain⟨d2,e2,rfl,h2,H2⟩:=Q0o H1
 obtain⟨x2,rfl,b2⟩:=Q1b h2
 obtain⟨d3,e3,rfl,h3,H3⟩:=Q0o H2
 obtain⟨x3,rfl,b3⟩:=Q1b h3
 obtain⟨d4,e4,rfl,h4,H4⟩:=Q0o H3
 obtain⟨x4,rfl,b4⟩:=Q1b h4
 obtain⟨d5,e5,rfl,h5,H5⟩:=Q0o H4
 obtain⟨x5,rfl,b5⟩:=Q1b h5
 obtain⟨d6,e6,rfl,h6,H6⟩:=Q0o H5
 obtain⟨x6,rfl,b6⟩:=Q1b h6
 obtain⟨d7,e7,rfl,h7,H7⟩:=Q0o H6
 obtain⟨x7,rfl,b7⟩:=Q1b h7
 obtain⟨d8,e8,rfl,h8,H8⟩:=Q0o H7
 obtain⟨x8,rfl,b8⟩:=Q1b h8
 obtain⟨d9,e9,rfl,h9,H9⟩:=Q0o H8
 obtain⟨x9,rfl,b9⟩:=Q1b h9
 obtain⟨d10,e10,rfl,h10,H10⟩:=Q0o H9
 obtain⟨x10,rfl,b10⟩:=Q1b h10
 obtain⟨d11,e11,rfl,h11,H11⟩:=Q0o H10
 obtain⟨x11,rfl,b11⟩:=Q1b h11
 obtain⟨d12,e12,rfl,h12,H12⟩:=Q0o H11
 obtain⟨x12,rfl,b12⟩:=Q1b h12
 obtain⟨d13,e13,rfl,h13,H13⟩:=Q0o H12
 obtain⟨x13,rfl,b13⟩:=Q1b h13
 obtain⟨d14,e14,rfl,h14,H14⟩:=Q0o H13
 obtain⟨x14,rfl,b14⟩:=Q1b h14
 obtain⟨d15,e15,rfl,h15,H15⟩:=Q0o H14
 obtain⟨x15,rfl,b15⟩:=Q1b h15
 obtain⟨d16,e16,rfl,h16,H16⟩:=Q0o H15
 obtain⟨x16,rfl,b16⟩:=Q1b h16
 obtain⟨d17,e17,rfl,h17,H17⟩:=Q0o H16
 obtain⟨x17,rfl,b17⟩:=Q1b h17
 obtain⟨d18,e18,rfl,h18,H18⟩:=Q0o H17
 obtain⟨x18,rfl,b18⟩:=Q1b h18
 obtain⟨d19,e19,rfl,h19,H19⟩:=Q0o H18
 obtain⟨x19,rfl,b19⟩:=Q1b h19
 obtain⟨d20,e20,rfl,h20,H20⟩:=Q0o H19
 obtain⟨x20,rfl,b20⟩:=Q1b h20
 obtain⟨d21,e21,rfl,h21,H21⟩:=Q0o H20
 obtain⟨x21,rfl,b21⟩:=Q1b h21
 obtain⟨d22,e22,rfl,h22,H22⟩:=Q0o H21
 obtain⟨x22,rfl,b22⟩:=Q1b h22
 obtain⟨d23,e23,rfl,h23,H23⟩:=Q0o H22
 obtain⟨x23,rfl,b23⟩:=Q1b h23
 obtain⟨d24,e24,rfl,h24,H24⟩:=Q0o H23
 obtain⟨x24,rfl,b24⟩:=Q1b h24
 obtain⟨d25,e25,rfl,h25,H25⟩:=Q0o H24
 obtain⟨x25,rfl,r25,b25⟩:=Z4x h25
 obtain⟨d26,e26,rfl,h26,H26⟩:=Q0o H25
 obtain⟨x26,rfl,b26⟩:=fit_str h26
 obtain⟨d27,e27,rfl,h27,H27⟩:=Q0o H26
 obtain⟨x27,rfl⟩:=Qiw h27
 obtain⟨d28,e28,rfl,h28,H28⟩:=Q0o H27
 obtain⟨x28,rfl,b28⟩:=Q1b h28
 obtain⟨d29,e29,rfl,h29,H29⟩:=Q0o H28
 obtain⟨x29,rfl⟩:=Qiw h29
 obtain⟨d30,e30,rfl,h30,H30⟩:=Q0o H29
 obtain⟨x30,rfl,b30⟩:=Q1b h30
 obtain⟨d31,e31,rfl,h31,H31⟩:=Q0o H30
 obtain⟨x31,rfl,b31⟩:=Q1b h31
 obtain⟨d32,e32,rfl,h32,H32⟩:=Q0o H31
 obtain⟨x32,rfl,b32⟩:=Q1b h32
 obtain⟨d33,e33,rfl,h33,H33⟩:=Q0o H32
 obtain⟨x33,rfl,b33⟩:=Q1b h33
 obtain⟨d34,e34,rfl,h34,H34⟩:=Q0o H33
 obtain⟨x34,rfl,b34⟩:=Q1b h34
 obtain⟨d35,e35,rfl,h35,H35⟩:=Q0o H34
 obtain⟨x35,rfl,b35⟩:=Q1b h35
 obtain⟨d36,e36,rfl,h36,H36⟩:=Q0o H35
 obtain⟨x36,rfl,b36⟩:=Q1b h36
 obtain⟨d37,e37,rfl,h37,H37⟩:=Q0o H36
 obtain⟨x37,rfl,b37⟩:=fit_str h37
 obtain⟨d38,e38,rfl,h38,H38⟩:=Q0o H37
 obtain⟨x38,rfl,b38⟩:=Q1b h38
 obtain⟨d39,e39,rfl,h39,H39⟩:=Q0o H38
 obtain⟨x39,rfl,b39⟩:=Q1b h39
 obtain⟨d40,e40,rfl,h40,H40⟩:=Q0o H39
 obtain⟨x40,rfl⟩:=Qiw h40
 obtain⟨d41,e41,rfl,h41,H41⟩:=Q0o H40
 obtain⟨x41,rfl,b41⟩:=Q1b h41
 obtain⟨d42,e42,rfl,h42,H42⟩:=Q0o H41
 obtain⟨x42,rfl⟩:=Qiw h42
 obtain⟨d43,e43,rfl,h43,H43⟩:=Q0o H42
 obtain⟨x43,rfl,b43⟩:=Q1b h43
 obtain⟨d44,e44,rfl,h44,H44⟩:=Q0o H43
 obtain⟨x44,rfl,b44⟩:=Q1b h44
 obtain⟨d45,e45,rfl,h45,H45⟩:=Q0o H44
 obtain⟨x45,rfl,b45⟩:=Q1b h45
 obtain⟨d46,e46,rfl,h46,H46⟩:=Q0o H45
 obtain⟨x46,rfl,b46⟩:=Q1b h46
 obtain⟨d47,e47,rfl,h47,H47⟩:=Q0o H46
 obtain⟨x47,rfl⟩:=Qiw h47
 obtain⟨d48,e48,rfl,h48,H48⟩:=Q0o H47
 obtain⟨x48,rfl⟩:=Qiw h48
 obtain rfl:=fits_nil H48
 refine⟨⟨⟨⟨x0,x1,x2,x3,x4,x5,x6,x7,x8,x9,x10,x11,x12,x13,x14,x15⟩,x16,⟨x17,x18,x19,x20,x21,x22,x23,x24⟩⟩,x25,⟨x26⟩,⟨x27,x28,x29⟩,⟨x30,x31,x32,x33,x34,x35,x36,x37⟩,⟨x38,x39,x40,x41,x42,x43⟩,⟨x44,x45⟩,x46,x47,x48⟩,rfl,⟨⟨?_,u_of b16,?_⟩,fun w hw=>u_of (b25 w hw),⟨u_of b31,u_of b32,u_of b35,u_of b36⟩,⟨u_of b38,u_of b39,u_of b41,u_of b43⟩,⟨u_of b44,u_of b45⟩,b46.1⟩,r25⟩
 · intro w hw
   have hw:w∈[x0,x1,x2,x3,x4,x5,x6,x7,x8,x9,x10,x11,x12,x13,x14,x15]:=hw
   simp only[List.mem_cons,List.not_mem_nil,or_false]at hw
   rcases hw with rfl|rfl|rfl|rfl|rfl|rfl|rfl|rfl|rfl|rfl|rfl|rfl|rfl|rfl|rfl|rfl
   · exact u_of b0
   · exact u_of b1
   · exact u_of b2
   · exact u_of b3
   · exact u_of b4
   · exact u_of b5
   · exact u_of b6
   · exact u_of b7
   · exact u_of b8
   · exact u_of b9
   · exact u_of b10
   · exact u_of b11
   · exact u_of b12
   · exact u_of b13
   · exact u_of b14
   · exact u_of b15
 · intro w hw
   have hw:w∈[x17,x18,x19,x20,x21,x22,x23,x24]:=hw
   simp only[List.mem_cons,List.not_mem_nil,or_false]at hw
   rcases hw with rfl|rfl|rfl|rfl|rfl|rfl|rfl|rfl
   · exact u_of b17
   · exact u_of b18
   · exact u_of b19
   · exact u_of b20
   · exact u_of b21
   · exact u_of b22
   · exact u_of b23
   · exact u_of b24
end Go.Proofs.YtdkiadhigcfmkaaGreat
namespace Go.Proofs.YtdkiadhigcfmkaaGreat
open Go Go.GD
attribute [local irreducible] Q55
set_option linter.unusedVariables false
set_option linter.unusedSimpArgs false
set_option maxRecDepth 100000
theorem few_two{l acts:List Int}{x0:Bool}(hx0:x0=Qut l acts)(hb:(!x0)=false):l.length≤40∧acts.length≤30:=by
 have hb:x0=true:=by simpa using hb
 rw[hb]at hx0
 simp only[Qut,Qrm,Tree.m]at hx0
 cases h1:decide ((l.length:Int)≤40)<;>rw[h1]at hx0
 · cases hx0
 · have:=of_decide_eq_true hx0.symm
   have:=of_decide_eq_true h1
   omega
theorem raw_w{w:Q00}(hw:okV w)(raw:Bool)(kind:Int)(l acts:List Int)(where0 what:Int)(hl:l.length*8≤reachBytes)(f1:l.length≤40)(f2:acts.length≤30):(Qhv w raw kind l acts where0 what).w (fun m=>okV m∧m.Mem.length≤1024):=by
 have t: ∀{K:Q00→Tree Q00},(∀y,(K y).w (fun m=>okV m∧m.Mem.length≤1024)↔okV y∧y.Mem.length≤1024)→(Tree.an (Qdp kind l acts) (.lv (Qkr kind l acts) fun x0=> .an (Qim x0 where0 what) (.lv (Qvm x0 where0 what) fun x1=>K x1))).w (fun m=>okV m∧m.Mem.length≤1024):=fun hK=>
   Q0b (Zfq kind l acts hl f1 f2) fun x2 h2=>Q0b (bend_w h2 (by decide) h2.cnt where0 what (fun k a b=>by show k≤1000000000000;omega)) fun x3 h3=>(hK x3).2 ⟨⟨h3.cpu,h3.u,h3.disk,h3.nic,h3.bal,h3.cnt⟩,h3.len⟩
 unfold Qhv
 have t0:=t (K:=fun x1=> .lf x1) (fun y=>Iff.rfl)
 exact w_br (fun _=>w_br (fun h=>w_br (fun _=>w_br (fun _=>⟨hw,by have:=of_decide_eq_true h;omega⟩) (fun _=>t0)) (fun _=>t0)) (fun _=>t0)) (fun _=>t0)
section
variable {m:Q00} (h:okV m) (hl:m.Mem.length≤1024)
include h
theorem may_P(hm:Q1y m=true): ∃P,okS P m∧okM P m:=by
 rcases(Qw0 m.Mem h.mem).2 with c|⟨P,hP,hmem⟩
 · exact absurd c ((Qw3 m).1 hm).1
 · exact⟨P,⟨h.cpu,hmem,h.disk,h.nic,h.bal.1,h.bal.2⟩,⟨h.cpu,hmem,h.disk,h.nic,h.bal,h.cnt⟩⟩
include hl
theorem stepV_pre{clock:Int}(hk:U clock):Qdc m clock∧(Q7u m clock).2.length≤1∧(Q7u m clock).1.Mem.length≤1024:=by
 cases hr:Q2a m
 · have e:Q7u m clock=(m,[]):=by rw[Zc4,hr];rfl
   rw[e]
   refine⟨?_,Nat.zero_le _,hl⟩
   have hcl:Q04 m.Mem=m.Mem:=rfl
   show(Q4 m clock).p
   unfold Tree.p Q4
   refine w_an (by show m.Mem.length≤35184372088832;omega) (w_lv fun l hl=> ?_)
   rw[hcl]at hl;subst hl
   refine w_an (Tree.pp (runsP_w (m:=⟨_,_,_,_,_,_,m.Balloon,_,_,_⟩) h.bal.2)).1 (w_lv fun x1 hx1=>w_br (fun _=>trivial) (fun hb=> ?_))
   have:x1=false:=hx1.trans hr
   rw[this]at hb;cases hb
 · obtain⟨P,s,_⟩:=may_P h (Qus hr).1
   have g:=Tree.pp (step_w0 s h.cnt hk)
   have ml:=g.2.2.ok.mem.len
   have mp:=g.2.2.ok.mem.p2
   exact⟨g.1,g.2.1,by show(Q4 m clock).m.1.Mem.length≤1024;omega⟩
omit h in
theorem ownV:(Q77 m).w (fun x=>x=m):=by
 unfold Q77 Ql
 have c:(Q80 m.Mem).w (fun r=>r=m.Mem):=by
   unfold Q80
   refine w_cn ?_ ?_
   · simp [Nat.blt,D.plain];omega
   · show _=_;simp
 exact Q0b c fun x hx=>by rw[hx];rfl
theorem Zea{clock:Int}(hk:U clock):Qj m clock:=by
 show(Qbh m clock).p
 unfold Tree.p Qbh
 refine Q0b (ownV hl) fun x0 e0=> ?_
 subst e0
 refine w_an (Tree.pp (Z2q x0)).1 (w_lv fun x1 h1=>w_br (fun _=>trivial) (fun hb=> ?_))
 have hs:Q70 x0=false:=h1.symm.trans hb
 have hr:Q2a x0=true:=by rw[Qx4 h,hs];rfl
 obtain⟨P,_,o⟩:=may_P h (Qus hr).1
 exact Q0b (Z0n o hk) fun _ _=>trivial
omit h hl in
end
theorem rsame_w(a:Q00)(ha:a.Mem.length≤1000000000000):(Q86 a a).w (fun b=>b=true):=by
 unfold Q86
 repeat'(first
   |refine w_br (fun _=> ?_) (fun h=>absurd h (by simp [eqs,eq1];done))
   |exact w_an ha (w_lv fun x hx=>by rw[hx];exact Qs0 _ ha)
   |refine w_an ha (w_lv fun x hx=>w_br (fun _=> ?_) (fun h=>by rw[hx,Qs0 _ ha]at h;cases h))
   |exact rfl)
 all_goals(show(_==_)=true;simp)
theorem same_outs(a:List Q08)(ha:a.length≤1000000000000):(Q3e a a).w (fun b=>b=true):=by
 unfold Q3e
 refine w_br (fun h=>by simp at h) (fun _=> ?_)
 refine w_lp (inv:=fun v:Int=>0≤v∧v≤a.length) (μ:=Q4n a a) ⟨by omega,by omega⟩ (Nat.lt_succ_self _) fun v ⟨h1,h2⟩=> ?_
 refine w_br (fun hb=> ?_) (fun _=>rfl)
 have hb:=of_decide_eq_true hb
 have e:IntKind.i64.wrap (v+1)=v+1:=by rw[IntKind.wrap_i64];omega
 refine w_cn (by simp [Nat.blt];omega) (w_cn (by simp [Nat.blt];omega) (w_br (fun h=>by simp [eqs,eq1]at h) (fun _=>w_nx ?_)))
 show(_∧_)∧(_:Nat)<_
 exact⟨⟨by rw[e];omega,by rw[e];omega⟩,by show(a.length-IntKind.i64.wrap (v+1)).toNat<(a.length-v).toNat;rw[e];omega⟩
end Go.Proofs.YtdkiadhigcfmkaaGreat
namespace Go.Proofs.YtdkiadhigcfmkaaGreat
open Go Go.GD
attribute [local irreducible] Q55
set_option linter.unusedVariables false
set_option linter.unusedSimpArgs false
set_option maxRecDepth 100000
theorem Q8f(kind:Int)(l acts:List Int)(where0 what:Int){w:Q00}(hw:okV w)(raw:Bool){clock:Int}(uc:U clock)(hl:l.length*8≤reachBytes):Qb6 kind l acts where0 what w raw clock∧Qb0 kind l acts where0 what w raw clock=true:=by
 have aw: ∀x,x=Q3m→x=true:=fun x e=>e.trans Z12
 refine Tree.pp (W:=fun r=>r=true) ?_
 unfold Q5r
 refine w_lv fun x0 hx0=>w_br (fun _=>w_an Qia (w_lv aw)) fun hb=> ?_
 obtain⟨f1,f2⟩:=few_two hx0 hb
 refine Q0b (raw_w hw raw kind l acts where0 what hl f1 f2) fun x2 ⟨h2,l2⟩=> ?_
 obtain⟨p1,o1,m1⟩:=stepV_pre h2 l2 uc
 have sm:=step_same h2 clock
 refine w_an p1 (w_lv fun x3 e3=>w_an (Zea h2 l2 uc) (w_lv fun x4 e4=> ?_))
 have e34:x4=x3:=by rw[e4,e3,sm]
 subst e34
 rw[←e3]at o1 m1
 refine Q0b (rsame_w x4.1 (by omega)) fun x5 h5=>w_br (fun _=> ?_) (fun h=>by rw[h5]at h;cases h)
 have so:=Tree.pp (same_outs x4.2 (by omega))
 refine w_an (by show x4.2.length≤1000000000000;omega) (w_lv fun x6 h6=>w_br (fun _=>w_an Qia (w_lv aw)) (fun h=> ?_))
 have:x6=true:=by rw[h6];exact so.2
 rw[this]at h;cases h
end Go.Proofs.YtdkiadhigcfmkaaGreat

/-
  A part of the proof.
-/
import Derived.Test.YtdkiadhigcfmkaaGreatMachineInterruptsLaws2
import Derived.Test.YtdkiadhigcfmkaaGreatMachineInterruptsNews
import Derived.Test.YtdkiadhigcfmkaaGreatMachineInterruptsZg
import Derived.Test.YtdkiadhigcfmkaaGreatMachineInterruptsZt
import Derived.Test.YtdkiadhigcfmkaaGreatMachineInterruptsFe
namespace Go.Proofs.YtdkiadhigcfmkaaGreat
open Go Go.GD
set_option linter.unusedVariables false
set_option linter.unusedSimpArgs false
set_option maxRecDepth 100000
theorem encode_U(i:Q0g):U (Q11 i).1:=by
 refine Tree.post (Qev i) (W:=fun r=>U r.1) ?_
 unfold Qev
 exact w_lv fun _ _=>w_br (fun _=>U_0) (fun _=>U_or _ _)
theorem code_w(l:List Int)(hl:l.length*8≤reachBytes):(Qaf l).w (fun r=>(r.length:Int)=l.length∧ ∀w∈r,U w):=by
 have hl':l.length*8≤140737488351232:=hl
 have app: ∀{r:List Int} {x:Int},(∀w∈r,U w)→U x→ ∀w∈r++[x],U w:=fun hr hx w hw=>by
   rw[List.mem_append]at hw
   rcases hw with hw|hw
   · exact hr w hw
   · rw[List.mem_singleton.1 hw];exact hx
 unfold Qaf
 refine w_lp (inv:=fun z=>Qcy l z∧ ∀w∈z.2,U w) (μ:=Q4q l) ⟨⟨by omega,by simp,by simp⟩,by simp⟩ (Nat.lt_succ_self _) (fun v0 hv=> ?_)
 obtain⟨⟨h1,h2,h3⟩,h4⟩:=hv
 refine w_br (fun h=> ?_) (fun h=> ?_)
 · have h:=of_decide_eq_true h
   have next: ∀x:Int,U x→(Qcy l (IntKind.wrap IntKind.i64 (v0.1+1),v0.2++[x])∧ ∀w∈v0.2++[x],U w)∧Q4q l (IntKind.wrap IntKind.i64 (v0.1+1),v0.2++[x])<Q4q l v0:=fun x hx=>by
     have hw:IntKind.i64.wrap (v0.1+1)=v0.1+1:=by rw[IntKind.wrap_i64];omega
     rw[hw]
     refine⟨⟨⟨?_,?_,?_⟩,app h4 hx⟩,?_⟩
     · show 0≤v0.1+1;omega
     · show v0.1+1≤l.length;omega
     · show((v0.2++[x]).length:Int)=v0.1+1;simp;omega
     · show(l.length-(v0.1+1)).toNat<(l.length-v0.1).toNat;omega
   have hb:(Nat.beq 1 1&&Nat.blt 0 1&&decide (0≤v0.1∧v0.1<(l.length:Int)))=true:=by simp [Nat.blt];omega
   have hc:decide (4*(v0.2.length+1)≤140737488355328)=true:=decide_eq_true (by omega)
   exact w_cn hb (w_br (fun _=>w_cn hb (w_cn hc (next _ (Q0o _)))) (fun _=>w_cn hb (w_an (Zed _) (w_lv fun x0 _=>w_lv fun x1 hx=>w_cn hc (next _ (by rw[hx];exact encode_U _))))))
 · have h:=of_decide_eq_false h
   exact⟨by show(v0.2.length:Int)=l.length;omega,h4⟩
end Go.Proofs.YtdkiadhigcfmkaaGreat
namespace Go.Proofs.YtdkiadhigcfmkaaGreat
open Go Go.GD
set_option linter.unusedVariables false
set_option linter.unusedSimpArgs false
set_option maxRecDepth 100000
theorem Qy3(steps:Int):0≤Q19 steps∧Q19 steps≤4000:=by
 refine Tree.post (Qb7 steps) (W:=fun r=>0≤r∧r≤4000) ?_
 unfold Qb7
 refine w_lf ?_
 constructor<;>(repeat' split)<;>omega
theorem Z97{P:Nat}{r:Q01}(h:okR P r)(steps:Int){clock:Int}(hc:U clock)(hl:r.Log.length≤900000)(hq:r.Queue.length≤16)(hu: ∀q∈r.Queue,U q.N):
    (Q51 r steps clock).w (fun x=>okR P x.1∧x.1.Log.length≤r.Log.length+8016∧(x.1.Queue=r.Queue∨x.1.Queue=[])∧x.2.length≤4000):=by
  unfold Q51
  refine Q0a (own_w h (by omega) (by omega)) fun x0 hx=> ?_
  obtain⟨k1,k2,k3⟩:=hx
  refine w_lv fun x1 _=>w_br (fun _=>⟨k1,by rw[k2];omega, .inl k3,Nat.zero_le _⟩) (fun _=> ?_)
  have hcl:U (if clock>x0.Clock then clock else x0.Clock):=by split<;>first|exact hc|exact k1.clock
  refine w_lp (inv:=fun z=>0≤z.1∧z.1≤r.Queue.length∧okR P z.2∧(z.2.Log.length:Int)≤r.Log.length+z.1∧z.2.Queue=r.Queue) (μ:=Qak r steps clock) ⟨by omega,by omega,⟨k1.m,hcl⟩,by rw[k2];omega,k3⟩ (Nat.lt_succ_self _) (fun z hz=> ?_)
  obtain⟨z1,z2,z3,z4,z5⟩:=hz
  refine w_br (fun hb=> ?_) (fun hb=> ?_)
  · have hb:=of_decide_eq_true hb
    rw[z5]at hb
    have hm:(List.getD z.2.Queue (Int.toNat z.1) (RK.dflt RK.apiEvent))∈r.Queue:=by
      rw[z5]
      have hlt:z.1.toNat<r.Queue.length:=by omega
      rw[List.getD_eq_getElem?_getD,List.getElem?_eq_getElem hlt]
      exact List.getElem_mem hlt
    refine w_cn (by rw[z5];simp [Nat.blt];omega) (Q0a (offer_w z3 (hu _ hm) (by omega)) fun x hx=>w_nx ?_)
    obtain⟨a1,a2,a3⟩:=hx
    show(0≤IntKind.i64.wrap (z.1+1)∧IntKind.i64.wrap (z.1+1)≤r.Queue.length∧okR P x∧(x.Log.length:Int)≤r.Log.length+IntKind.i64.wrap (z.1+1)∧x.Queue=r.Queue)∧(x.Queue.length-IntKind.i64.wrap (z.1+1)).toNat<(z.2.Queue.length-z.1).toNat
    have ew:IntKind.i64.wrap (z.1+1)=z.1+1:=by rw[IntKind.wrap_i64];omega
    rw[ew,a3,z5]
    exact⟨⟨by omega,by omega,a1,by omega,rfl⟩,by omega⟩
  · refine w_lp (inv:=fun y=>0≤y.1∧y.1≤4000∧okR P y.2.1∧(y.2.1.Log.length:Int)≤r.Log.length+r.Queue.length+2*y.1∧y.2.1.Queue=[]∧(y.2.2.length:Int)≤y.1) (μ:=Q53 r steps clock z) ⟨by omega,by omega,⟨z3.m,z3.clock⟩,by simp;omega,rfl,by simp⟩ (Nat.lt_succ_self _) (fun y hy=> ?_)
    obtain⟨y1,y2,y3,y4,y5,y6⟩:=hy
    have ew:IntKind.i64.wrap (y.1+1)=y.1+1:=by rw[IntKind.wrap_i64];omega
    refine w_lv fun x3 hx3=>w_br (fun hb=> ?_) (fun _=>⟨y3,by show y.2.1.Log.length≤_;omega, .inr y5,by show y.2.2.length≤_;omega⟩)
    have hb:=of_decide_eq_true hb
    have lim:=(Qy3 steps).2
    rw[←hx3]at lim
    refine w_lv fun x4 _=>w_br (fun _=>Q0a (offer_w (e:=⟨_,_,_⟩) y3 U_0 (by omega)) fun x5 h5=> ?_) (fun _=> ?_)
    · obtain⟨q1,q2,q3⟩:=h5
      have q3:=q3.trans y5
      refine Q0a (Zcp _) fun s1 _=>w_br (fun _=>⟨q1,by show x5.Log.length≤_;omega, .inr q3,by show y.2.2.length≤_;omega⟩) (fun _=>Q0a (Qt5 q1.m.cpu q1.m.mem) fun s2 _=>w_br (fun _=>w_cn (decide_eq_true (by omega)) (Q0a (Qqu (r:=⟨x5.Machine,x5.Clock,x5.Log++[_],x5.Queue⟩) ⟨q1.m,q1.clock⟩ q1.clock) fun o ho=> ?_)) (fun _=>Q0a (Qqu q1 q1.clock) fun o ho=> ?_))
      · obtain⟨a1,⟨⟨a2,a3⟩,a4,a5⟩⟩:=ho
        have e4:o.2.Log.length=x5.Log.length+1:=by rw[a4];simp
        have a5:o.2.Queue=[]:=a5.trans q3
        refine w_cn (decide_eq_true (by omega)) (w_nx ?_)
        show(0≤IntKind.i64.wrap (y.1+1)∧IntKind.i64.wrap (y.1+1)≤4000∧okR P _∧(o.2.Log.length:Int)≤r.Log.length+r.Queue.length+2*IntKind.i64.wrap (y.1+1)∧o.2.Queue=[]∧((y.2.2++o.1).length:Int)≤IntKind.i64.wrap (y.1+1))∧(4000-IntKind.i64.wrap (y.1+1)).toNat<(4000-y.1).toNat
        rw[ew,a5,List.length_append]
        exact⟨⟨by omega,by omega,⟨a2,Q0o _⟩,by omega,rfl,by omega⟩,by omega⟩
      · obtain⟨a1,⟨⟨a2,a3⟩,a4,a5⟩⟩:=ho
        have e4:o.2.Log.length=x5.Log.length:=by rw[a4]
        have a5:o.2.Queue=[]:=a5.trans q3
        refine w_cn (decide_eq_true (by omega)) (w_nx ?_)
        show(0≤IntKind.i64.wrap (y.1+1)∧IntKind.i64.wrap (y.1+1)≤4000∧okR P _∧(o.2.Log.length:Int)≤r.Log.length+r.Queue.length+2*IntKind.i64.wrap (y.1+1)∧o.2.Queue=[]∧((y.2.2++o.1).length:Int)≤IntKind.i64.wrap (y.1+1))∧(4000-IntKind.i64.wrap (y.1+1)).toNat<(4000-y.1).toNat
        rw[ew,a5,List.length_append]
        exact⟨⟨by omega,by omega,⟨a2,Q0o _⟩,by omega,rfl,by omega⟩,by omega⟩
    · refine Q0a (Zcp _) fun s1 _=>w_br (fun _=>⟨y3,by show y.2.1.Log.length≤_;omega, .inr y5,by show y.2.2.length≤_;omega⟩) (fun _=>Q0a (Qt5 y3.m.cpu y3.m.mem) fun s2 _=>w_br (fun _=>w_cn (decide_eq_true (by omega)) (Q0a (Qqu (r:=⟨y.2.1.Machine,y.2.1.Clock,y.2.1.Log++[_],y.2.1.Queue⟩) ⟨y3.m,y3.clock⟩ y3.clock) fun o ho=> ?_)) (fun _=>Q0a (Qqu y3 y3.clock) fun o ho=> ?_))
      · obtain⟨a1,⟨⟨a2,a3⟩,a4,a5⟩⟩:=ho
        have e4:o.2.Log.length=y.2.1.Log.length+1:=by rw[a4];simp
        have a5:o.2.Queue=[]:=a5.trans y5
        refine w_cn (decide_eq_true (by omega)) (w_nx ?_)
        show(0≤IntKind.i64.wrap (y.1+1)∧IntKind.i64.wrap (y.1+1)≤4000∧okR P _∧(o.2.Log.length:Int)≤r.Log.length+r.Queue.length+2*IntKind.i64.wrap (y.1+1)∧o.2.Queue=[]∧((y.2.2++o.1).length:Int)≤IntKind.i64.wrap (y.1+1))∧(4000-IntKind.i64.wrap (y.1+1)).toNat<(4000-y.1).toNat
        rw[ew,a5,List.length_append]
        exact⟨⟨by omega,by omega,⟨a2,Q0o _⟩,by omega,rfl,by omega⟩,by omega⟩
      · obtain⟨a1,⟨⟨a2,a3⟩,a4,a5⟩⟩:=ho
        have e4:o.2.Log.length=y.2.1.Log.length:=by rw[a4]
        have a5:o.2.Queue=[]:=a5.trans y5
        refine w_cn (decide_eq_true (by omega)) (w_nx ?_)
        show(0≤IntKind.i64.wrap (y.1+1)∧IntKind.i64.wrap (y.1+1)≤4000∧okR P _∧(o.2.Log.length:Int)≤r.Log.length+r.Queue.length+2*IntKind.i64.wrap (y.1+1)∧o.2.Queue=[]∧((y.2.2++o.1).length:Int)≤IntKind.i64.wrap (y.1+1))∧(4000-IntKind.i64.wrap (y.1+1)).toNat<(4000-y.1).toNat
        rw[ew,a5,List.length_append]
        exact⟨⟨by omega,by omega,⟨a2,Q0o _⟩,by omega,rfl,by omega⟩,by omega⟩
end Go.Proofs.YtdkiadhigcfmkaaGreat
namespace Go.Proofs.YtdkiadhigcfmkaaGreat
open Go Go.GD
set_option linter.unusedVariables false
set_option linter.unusedSimpArgs false
set_option maxRecDepth 100000
section
variable {P:Nat} {m:Q00} (h:okM P m)
include h
theorem min_w(port:Int){clock:Int}(hc:U clock):(Qid m port clock).w (fun x=>U x.1∧okM P x.2∧x.2.Count=m.Count):=by
 have k:=(⟨h,rfl⟩:okM P m∧m.Count=m.Count)
 obtain⟨h1,h2,h3,h4,h5,h7⟩:=h
 unfold Qid
 exact w_br (fun _=>w_lv fun x hx=>⟨hx▸Qwv _ _,⟨⟨h1,h2,h3,h4,h5,h7⟩,rfl⟩⟩) (fun _=>w_br (fun _=>⟨hc,k⟩) (fun _=>w_br (fun _=>w_lv fun x hx=>⟨hx▸Z81 _,k⟩) (fun _=>w_br (fun _=>w_lv fun x hx=>⟨hx▸Zdj h3 _,k⟩) (fun _=>w_br (fun _=>w_lv fun x hx=>⟨hx▸nicIn_w h4 _,k⟩) (fun _=>w_lv fun x hx=>⟨hx▸Qwb h5.1 _,k⟩)))))
theorem mout_w(port:Int){v:Int}(hv:U v):(Qcf m port v).w (fun x=>x.1.length≤1∧okM P x.2∧x.2.Count=m.Count):=by
 have k:=(⟨h,rfl⟩:okM P m∧m.Count=m.Count)
 obtain⟨h1,h2,h3,h4,h5,h7⟩:=h
 unfold Qcf
 exact w_br (fun _=>⟨Nat.le_refl _,k⟩) (fun _=>w_br (fun _=>⟨Nat.zero_le _,k⟩) (fun _=>w_br (fun _=>w_lv fun _ _=>⟨Nat.zero_le _,⟨⟨h1,h2,h3,h4,h5,h7⟩,rfl⟩⟩) (fun _=>w_br (fun _=>Q0a (Z9g h2 h3 _ hv _) fun x hx=>⟨hx.2,⟨⟨h1,h2,hx.1,h4,h5,h7⟩,rfl⟩⟩) (fun _=>w_br (fun _=>Q0a (Zeg h2 h4 _ hv _) fun x hx=>⟨hx.2,⟨⟨h1,h2,h3,hx.1,h5,h7⟩,rfl⟩⟩) (fun _=>Q0a (give_w h2 h5 _ hv) fun x hx=>⟨Nat.zero_le _,⟨⟨h1,hx.2,h3,h4,hx.1,h7⟩,rfl⟩⟩)))))
theorem Z2i{clock:Int}(hc:U clock):(Q7o m clock).w (fun x=>x.1.length≤1∧okM P x.2∧x.2.Count=IntKind.wrap .u64 (m.Count+1)):=by
 obtain⟨h1,h2,h3,h4,h5,h7⟩:=h
 unfold Q7o
 refine Q0a (Qjo h1) fun x0 c0=>Q0a (do_w c0 h2) fun x1 hx=> ?_
 obtain⟨c1,v1,m1⟩:=hx
 refine w_br (fun _=>Z9n (min_w (m:=⟨_,_,_,_,_,_,_,_,_,_⟩) ⟨c1,m1,h3,h4,h5,h7⟩ _ hc) fun x2 hx=> ?_) (fun _=>w_br (fun _=>Q0a (mout_w (m:=⟨_,_,_,_,_,_,_,_,_,_⟩) ⟨c1,m1,h3,h4,h5,h7⟩ _ v1) fun x4 hx=> ?_) (fun _=> ?_))
 · obtain⟨u,⟨k1,k2,k3,k4,k5,k7⟩,k6⟩:=hx
   exact Q0a (Z0e k1 _ u) fun x3 h3=>⟨Nat.zero_le _,⟨h3,k2,k3,k4,k5,w0 _⟩,congrArg (fun n=>IntKind.wrap .u64 (n+1)) k6⟩
 · obtain⟨u,⟨k1,k2,k3,k4,k5,k7⟩,k6⟩:=hx
   exact⟨u,⟨k1,k2,k3,k4,k5,w0 _⟩,congrArg (fun n=>IntKind.wrap .u64 (n+1)) k6⟩
 · repeat'(first
     |exact⟨Nat.zero_le _,⟨c1,m1,h3,h4,h5,w0 _⟩,rfl⟩
     |refine w_br (fun _=> ?_) (fun _=> ?_))
theorem own7_w:(Q7s m).w (fun x=>okM P x∧x.Count=m.Count):=by
 obtain⟨h1,h2,h3,h4,h5,h7⟩:=h
 unfold Q7s
 exact Q0a (copy_w h2) fun x hx=>⟨⟨h1,by rw[hx];exact h2,h3,h4,h5,h7⟩,rfl⟩
end
theorem U_all(n:Nat): ∀w∈List.replicate n (0:Int),U w:=fun w hw=>by rw[(List.mem_replicate.1 hw).2];exact U_0
end Go.Proofs.YtdkiadhigcfmkaaGreat
namespace Go.Proofs.YtdkiadhigcfmkaaGreat
open Go Go.GD
set_option linter.unusedVariables false
set_option maxRecDepth 100000
set_option synthInstance.maxHeartbeats 2000000
set_option synthInstance.maxSize 100000
noncomputable section
instance ref1_lines_ck (src:(List UInt8)):Ck (Qi3 src):=ckT (t:=Qdo src) (by delta Qdo;infer_instance)
instance ref1_tokens_ck (s:(List UInt8)):Ck (Qgt s):=ckT (t:=Qbj s) (by delta Qbj;infer_instance)
instance ref1_digits_ck (n:Int):Ck (Q3 n):=let d:Decidable (Q3 n):=(by delta Q3;infer_instance);⟨@decide _ d,@of_decide_eq_true _ d⟩
instance ref1_Decimal_ck (n:Int):Ck (Qef n):=ckT (t:=Q64 n) (by delta Q64;infer_instance)
instance ref1_reg_ck (r:Int):Ck (Qlj r):=ckT (t:=Qcp r) (by delta Qcp;infer_instance)
instance ref1_name_ck (s:(List UInt8)):Ck (Qen s):=ckT (t:=Qfr s) (by delta Qfr;infer_instance)
instance Zhe (op:Int):Ck (Qcj op):=ckT (t:=Q92 op) (by delta Q92;infer_instance)
instance Zh7 (s:(List UInt8)):Ck (Q30 s):=ckT (t:=Q7g s) (by delta Q7g;infer_instance)
instance ref1_pattern_ck (what:(List UInt8)):Ck (Q5e what):=ckT (t:=Q9y what) (by delta Q9y;infer_instance)
instance ref1_number_ck (s:(List UInt8)):Ck (Qg5 s):=ckT (t:=Qbg s) (by delta Qbg;infer_instance)
instance ref1_matched_ck (l:(List Q0f)) (p:(List UInt8)):Ck (Q5c l p):=ckT (t:=Qa7 l p) (by delta Qa7;infer_instance)
instance ref1_parsed_ck (s:(List UInt8)):Ck (Qfx s):=ckT (t:=Qbw s) (by delta Qbw;infer_instance)
instance ref1_address_ck (l:(List Q1r)) (label:(List UInt8)):Ck (Q31 l label):=let d:Decidable (Q31 l label):=(by delta Q31;infer_instance);⟨@decide _ d,@of_decide_eq_true _ d⟩
instance ref1_read_ck (src:(List UInt8)):Ck (Qjw src):=ckT (t:=Qh src) (by delta Qh;infer_instance)
instance ref1_inst_ck (st:Q08) (v:Int):Ck (Q9b st v):=ckT (t:=Qg0 st v) (by delta Qg0;infer_instance)
instance Zhc (src:(List UInt8)):Ck (Q9a src):=ckT (t:=Q8f src) (by delta Q8f;infer_instance)
theorem asm_pre:Q9a ((108:UInt8)::(tblZe0++Z1u++(Z1k++Z2v)++(Z1p++Z2k++(Z1r++Z2p))++(Z25++Z2x++(Qr3++Qrn)++(Qs++Qrv++(Qsb++Qri))))):=ck inferInstance (by kernel_rfl)
def inU(x:Int):Bool:=decide (0≤x)&&decide (x<4294967296)
theorem asm_gen(l:List Int)(h:(Nat.ble l.length 160&&List.all l inU)=true):l.length≤160∧ ∀w∈l,U w:=by
 rw[Bool.and_eq_true]at h
 refine⟨Nat.le_of_ble_eq_true h.1,fun w hw=> ?_⟩
 have:=List.all_eq_true.1 h.2 w hw
 simp only[inU,Bool.and_eq_true,decide_eq_true_eq]at this
 exact this
theorem asm_ok:(Q2p (List.append (List.append (List.append (List.append Z4p Z1u) (List.append Z1k Z2v)) (List.append (List.append Z1p Z2k) (List.append Z1r Z2p))) (List.append (List.append (List.append Z25 Z2x) (List.append Qr3 Qrn)) (List.append (List.append Qs Qrv) (List.append Qsb Qri))))).1.length≤160∧ ∀w∈(Q2p (List.append (List.append (List.append (List.append Z4p Z1u) (List.append Z1k Z2v)) (List.append (List.append Z1p Z2k) (List.append Z1r Z2p))) (List.append (List.append (List.append Z25 Z2x) (List.append Qr3 Qrn)) (List.append (List.append Qs Qrv) (List.append Qsb Qri))))).1,U w:=asm_gen _ (by kernel_rfl)
end
end Go.Proofs.YtdkiadhigcfmkaaGreat
namespace Go.Proofs.YtdkiadhigcfmkaaGreat
open Go Go.GD
set_option linter.unusedVariables false
set_option linter.unusedSimpArgs false
set_option maxRecDepth 100000
theorem new_w(i:List Int)(hu: ∀w∈i,U w)(hl:i.length≤256):(Q7q 8 4 i).w (fun x=>okM 8 x.1∧x.1.Count=0):=by
 unfold Q7q
 refine w_br (fun h=>absurd h (by decide)) fun _=>w_br (fun h=>absurd h (by decide)) fun _=>w_br (fun h=>absurd h (by decide)) fun _=>w_br (fun h=>absurd h (by decide)) fun _=>w_br (fun h=> ?_) fun _=>w_lv fun x0 e0=>w_an (Qi0 _) (w_lv fun x1 e1=> ?_)
 · have h:=of_decide_eq_true h
   rw[show IntKind.i64.wrap (8*32)=256 by decide]at h
   omega
 have hx:x1=List.replicate 256 0:=by rw[e1];kernel_rfl
 have c0:Q2g x0:=by rw[e0];exact⟨by
   intro w hw
   simp only[Qmc,Qhh,Tree.m,A16.l,List.mem_cons,List.not_mem_nil,or_false,or_self]at hw
   rw[hw];exact U_0,U_0,by
   intro w hw
   simp only[Qmc,Qhh,Tree.m,A8.l,List.mem_cons,List.not_mem_nil,or_false,or_self]at hw
   rcases hw with rfl|rfl
   · exact⟨by omega,by omega⟩
   · exact U_0⟩
 have hz: ∀w∈x1,U w:=by rw[hx];exact U_all 256
 have hn:x1.length=256:=by rw[hx,List.length_replicate]
 refine⟨⟨c0,⟨?_,by omega,by omega,fun w hw=> ?_⟩,⟨U_0,U_0,U_0,U_0⟩,⟨U_0,U_0,U_0,U_0⟩,⟨U_0,U_0⟩,Int.le_refl _⟩,rfl⟩
 · simp only[List.length_append,List.length_take,List.length_drop,hn];omega
 · rcases List.mem_append.1 hw with h1|h1
   · exact hu w (List.mem_of_mem_take h1)
   · exact hz w (List.mem_of_mem_drop h1)
end Go.Proofs.YtdkiadhigcfmkaaGreat
namespace Go.Proofs.YtdkiadhigcfmkaaGreat
open Go Go.GD
set_option linter.unusedVariables false
set_option linter.unusedSimpArgs false
set_option maxRecDepth 100000
theorem step_w{P:Nat}{r:Q01}(h:okR P r)(n:Int)(hl:r.Log.length≤900000)(hq:r.Queue.length≤16)(hu: ∀q∈r.Queue,U q.N):
   (Q75 r n).w (fun x=>okR P x.1∧x.1.Log.length≤r.Log.length+8016∧(x.1.Queue.length≤16∧ ∀q∈x.1.Queue,U q.N)∧x.2.length≤4000):=by
 unfold Q75
 refine w_lv fun x0 _=>w_br (fun _=>Q0a (Zbv n) fun e he=>Q0a (arrive_w h e (by omega) hq hu he) fun x hx=> ?_) (fun _=>w_an (Qb8 (by decide)) (w_lv fun x3 _=>Q0a (Z97 h _ (Q0o _) hl hq hu) fun x hx=> ?_))
 · obtain⟨a1,a2,a3,a4⟩:=hx
   exact⟨a1,by rw[a2];omega,⟨a3,a4⟩,Nat.zero_le _⟩
 · obtain⟨a1,a2,a3,a4⟩:=hx
   refine⟨a1,a2,?_,a4⟩
   rcases a3 with a3|a3
   · rw[a3];exact⟨hq,hu⟩
   · rw[a3];exact⟨Nat.zero_le _,fun q hq=>by cases hq⟩
theorem play_w{P:Nat}{m:Q00}(h:okM P m)(l:List Int)(hl:l.length≤30):(Qah m l).w (fun x=>okR P x.1):=by
 unfold Qah
 have nr:(Q3d m).w (fun x=>okR P x∧x.Log=[]∧x.Queue=[]):=by
   unfold Q3d
   exact Q0a (own7_w h) fun x hx=>⟨⟨hx.1,U_0⟩,rfl,rfl⟩
 refine Q0a nr fun x0 ⟨n1,n2,n3⟩=> ?_
 refine w_lp (inv:=fun v:Int×Q01×List Q07=>0≤v.1∧v.1≤l.length∧okR P v.2.1∧(v.2.1.Log.length:Int)≤8016*v.1∧(v.2.1.Queue.length≤16∧ ∀q∈v.2.1.Queue,U q.N)∧(v.2.2.length:Int)≤4000*v.1) (μ:=Qg m l) ⟨Int.le_refl _,by show(0:Int)≤l.length;omega,n1,by rw[n2];exact Int.le_refl _,by rw[n3];exact⟨Nat.zero_le _,fun q hq=>by cases hq⟩,Int.le_refl _⟩ (Nat.lt_succ_self _) fun v0 ⟨a1,a2,a3,a4,⟨a5,a6⟩,a7⟩=> ?_
 refine w_br (fun hb=> ?_) (fun _=>a3)
 have hb:=of_decide_eq_true hb
 refine w_cn (by simp [Nat.blt];omega) (Q0a (step_w a3 _ (by omega) a5 a6) fun x1 ⟨b1,b2,b3,b4⟩=>w_cn (decide_eq_true (by omega)) (w_nx ?_))
 have e:IntKind.i64.wrap (v0.1+1)=v0.1+1:=by rw[IntKind.wrap_i64];omega
 show(_∧_∧_∧_∧_∧_)∧(_:Nat)<_
 refine⟨⟨by rw[e];omega,by rw[e];omega,b1,by rw[e];show(x1.1.Log.length:Int)≤_;omega,b3,by rw[e,List.length_append];omega⟩,by show(l.length-IntKind.i64.wrap (v0.1+1)).toNat<(l.length-v0.1).toNat;rw[e];omega⟩
theorem Qst(a:List Int)(ha:a.length≤1000000000000):Q35 a a=true:=by
 simp only[Q35,Q2,Tree.m]
 have h0:((a.length:Int) !=(a.length:Int))=false:=by simp
 rw[h0,cond_false]
 refine Zbg (P:=fun v:Int=>0≤v∧v≤a.length) (R:=fun b=>b=true) (μ:=Q1k a a) (fun v ⟨h1,h2⟩=> ?_) _ _ ⟨by omega,by omega⟩ (Nat.lt_succ_self _)
 cases h:decide (v<(a.length:Int))
 · rfl
 · have h:=of_decide_eq_true h
   have h3:(List.getD a (Int.toNat v) (0:Int) !=List.getD a (Int.toNat v) (0:Int))=false:=by simp
   rw[h3]
   have hw:IntKind.i64.wrap (v+1)=v+1:=by rw[IntKind.wrap_i64];omega
   simp only[cond_true,cond_false,hw]
   refine⟨⟨by omega,by omega⟩,?_⟩
   show(_:Nat)<_
   unfold Q1k
   omega
theorem msame_w(a:Q00)(ha:a.Mem.length≤1000000000000):(Q7t a a).w (fun b=>b=true):=by
 unfold Q7t
 repeat'(first
   |refine w_br (fun _=> ?_) (fun h=>absurd h (by simp [eqs,eq1];done))
   |exact w_an ha (w_lv fun x hx=>by rw[hx];exact Qst _ ha)
   |exact w_an ha (w_lv fun x hx=>w_br (fun _=>by rw[hx];exact Qst _ ha) (fun h=>by rw[hx,Qst _ ha]at h;cases h))
   |exact rfl)
end Go.Proofs.YtdkiadhigcfmkaaGreat
namespace Go.Proofs.YtdkiadhigcfmkaaGreat
open Go Go.GD
set_option linter.unusedVariables false
set_option linter.unusedSimpArgs false
set_option maxRecDepth 100000
def out(f:Int)(m m':List Int):Prop:= ∀j:Nat,¬(f*32≤j∧(j:Int)<f*32+32)→m'.getD j 0=m.getD j 0
theorem Qmo(f:Int)(m:List Int):out f m m:=fun _ _=>rfl
theorem Zbo(l:List Int)(i j:Nat)(v:Int)(h:i≠j):(l.set i v).getD j 0=l.getD j 0:=by
 simp only[List.getD_eq_getElem?_getD,List.getElem?_set_ne h]
theorem Q21{P:Nat}{m:List Int}(h:Q0u P m):Q0q m=P:=by
 obtain⟨h1,h2,h3,_⟩:=h
 simp only[Q0q,Q7n,Tree.m]
 have e:(m.length:Int)=32*P:=by omega
 rw[e]
 have e1:(Int.tmod (32*(P:Int)) 32 !=0)=false:=by simp [Int.mul_tmod_right]
 have e2:decide ((32*(P:Int))>1024)=false:=decide_eq_false (by omega)
 rw[e1,e2]
 simp only[cond_false]
 rw[Int.mul_tdiv_cancel_left _ (by decide),IntKind.wrap_i64];omega
theorem has_eq{P:Nat}{m:List Int}(h:Q0u P m)(f:Int):Q4c m f=true→0≤f∧f<P:=by
 have hp:=Q21 h
 simp only[Q4c,Q7h,Tree.m,letv,hp]
 cases h1:decide (f≥0)
 · intro h;cases h
 · intro h;exact⟨of_decide_eq_true h1,of_decide_eq_true h⟩
theorem Qyp{P:Nat}{m:List Int}(h:Q0u P m)(f:Int)(s:List UInt8):(Q2n m f s).w (fun r=>Q0u P r.1∧out f m r.1∧(r.2=false→r.1=m)):=by
 have hcl:Q02 m=m:=rfl
 have h2:=h.p2
 unfold Q2n
 refine w_an (Q81 h) (w_lv fun x0 hx0=>w_lv fun x1 hx1=> ?_)
 rw[hcl]at hx0;subst hx0
 refine w_br (fun _=>⟨h,Qmo _ _,fun _=>rfl⟩) fun hb=>w_br (fun _=>⟨h,Qmo _ _,fun _=>rfl⟩) fun hs=> ?_
 have hb:x1=true:=by simpa using hb
 obtain⟨f0,f1⟩:=has_eq h f (hx1.symm.trans hb)
 have hs:(s.length:Int)=128:=by simpa using hs
 refine w_lp (inv:=fun z:Int×List Int=>0≤z.1∧z.1≤32∧Q0u P z.2∧out f x0 z.2) (μ:=Q9t x0 f s) ⟨show(0:Int)≤0 by decide,show(0:Int)≤32 by decide,h,Qmo _ _⟩ (Nat.lt_succ_self _) fun z ⟨z1,z2,z3,z4⟩=> ?_
 refine w_br (fun hb=> ?_) (fun _=>⟨z3,z4,fun h=>by cases h⟩)
 have hb:=of_decide_eq_true hb
 have e1:IntKind.i64.wrap (4*z.1)=4*z.1:=by rw[IntKind.wrap_i64];omega
 have e2:IntKind.i64.wrap (IntKind.i64.wrap (4*z.1)+4)=4*z.1+4:=by rw[IntKind.wrap_i64,IntKind.wrap_i64];omega
 have e3:IntKind.i64.wrap (IntKind.i64.wrap (f*32)+z.1)=f*32+z.1:=by rw[IntKind.wrap_i64,IntKind.wrap_i64];omega
 have hl:=z3.len
 have hlen:(List.take (Int.toNat (IntKind.i64.wrap (IntKind.i64.wrap (4*z.1)+4))-Int.toNat (IntKind.i64.wrap (4*z.1))) (List.drop (Int.toNat (IntKind.i64.wrap (4*z.1))) s)).length=4:=by
   rw[e2,e1,List.length_take,List.length_drop];omega
 refine w_cn (decide_eq_true (by rw[e2,e1];omega)) ?_
 refine w_cn (decide_eq_true (by rw[hlen];decide)) (w_cn (decide_eq_true (by rw[hlen];decide)) (w_cn (decide_eq_true (by rw[hlen];decide)) (w_cn (decide_eq_true (by rw[hlen];decide)) (w_cn (by rw[e3];simp [Nat.blt];omega) (w_nx ?_)))))
 show(_∧_∧Q0u P (List.set _ _ _)∧out f x0 (List.set _ _ _))∧(_:Nat)<_
 have ew:IntKind.i64.wrap (z.1+1)=z.1+1:=by rw[IntKind.wrap_i64];omega
 rw[e3]
 refine⟨⟨by rw[ew];omega,by rw[ew];omega,⟨by rw[List.length_set];exact hl,z3.p1,z3.p2,Qu8 z3.u (U_or _ _) _⟩,fun j hj=> ?_⟩,by show(32-IntKind.i64.wrap (z.1+1)).toNat<(32-z.1).toNat;rw[ew];omega⟩
 rw[Zbo _ _ _ _ (by omega)]
 exact z4 j hj
theorem text_w(w:List Int)(h:w.length≤32):(Q45 w).w (fun r=>r.length=4*w.length):=by
 have e0:IntKind.i64.wrap (4*(w.length:Int))=4*w.length:=by rw[IntKind.wrap_i64];omega
 unfold Q45
 refine w_cn (by rw[e0];simp [Nat.blt,D.plain];omega) ?_
 refine w_lp (inv:=fun z:Int×List Int=>0≤z.1∧z.1≤w.length∧(z.2.length:Int)=4*z.1) (μ:=Q6d w) ⟨by decide,by show(0:Int)≤w.length;omega,rfl⟩ (Nat.lt_succ_self _) fun z ⟨z1,z2,z3⟩=> ?_
 refine w_br (fun hb=> ?_) (fun hb=> ?_)
 · have hb:=of_decide_eq_true hb
   have ew:IntKind.i64.wrap (z.1+1)=z.1+1:=by rw[IntKind.wrap_i64];omega
   refine w_cn (by simp [Nat.blt];omega) (w_cn (decide_eq_true (by omega)) (w_nx ?_))
   show(_∧_∧_)∧(_:Nat)<_
   refine⟨⟨by rw[ew];omega,by rw[ew];omega,by rw[ew,List.length_append];simp only[List.length_cons,List.length_nil];omega⟩,by show(w.length-IntKind.i64.wrap (z.1+1)).toNat<(w.length-z.1).toNat;rw[ew];omega⟩
 · have hb:=of_decide_eq_false hb
   show(bytesOf z.2).length=_
   rw[Qh3];omega
theorem Zaz{P:Nat}{m:List Int}(h:Q0u P m)(f:Int):(Q4a m f).w (fun r=>0≤f→f<P→r.1.length=128):=by
 have hl:=h.len
 have h2:=h.p2
 unfold Q4a
 refine w_lv fun x0 hx0=>w_br (fun hb=>fun f0 f1=> ?_) (fun hb=> ?_)
 · have hp:=Q21 h
   have hb:x0=false:=by simpa using hb
   rw[hb]at hx0
   simp only[Q4c,Q7h,Tree.m,letv,hp]at hx0
   rw[decide_eq_true f0]at hx0
   exact absurd f1 (of_decide_eq_false hx0.symm)
 · have hb:x0=true:=by simpa using hb
   obtain⟨f0,f1⟩:=has_eq h f (hx0.symm.trans hb)
   have e1:IntKind.i64.wrap (f*32)=f*32:=by rw[IntKind.wrap_i64];omega
   have e2:IntKind.i64.wrap (IntKind.i64.wrap (f*32)+32)=f*32+32:=by rw[IntKind.wrap_i64,IntKind.wrap_i64];omega
   have hlen:(List.take (Int.toNat (IntKind.i64.wrap (IntKind.i64.wrap (f*32)+32))-Int.toNat (IntKind.i64.wrap (f*32))) (List.drop (Int.toNat (IntKind.i64.wrap (f*32))) m)).length=32:=by
     rw[e2,e1,List.length_take,List.length_drop];omega
   refine w_cn (by rw[e2,e1];simp [Nat.blt];omega) ?_
   refine w_an (by show List.length _≤1000000000000;rw[hlen];decide) (w_lv fun x1 h1=> ?_)
   have h1:x1.length=4*(List.take (Int.toNat (IntKind.i64.wrap (IntKind.i64.wrap (f*32)+32))-Int.toNat (IntKind.i64.wrap (f*32))) (List.drop (Int.toNat (IntKind.i64.wrap (f*32))) m)).length:=by rw[h1];exact(Tree.pp (text_w _ (Nat.le_of_eq hlen))).2
   intro _ _
   show x1.length=128
   rw[h1,hlen]
end Go.Proofs.YtdkiadhigcfmkaaGreat
namespace Go.Proofs.YtdkiadhigcfmkaaGreat
open Go Go.GD
set_option linter.unusedVariables false
set_option linter.unusedSimpArgs false
set_option maxRecDepth 100000
theorem Ze2{f:Int}(hf:U f){P:Nat}(hP:P≤32)(h:decide (IntKind.u64.wrap f<IntKind.u64.wrap (P:Int))=true):0≤f∧f<P:=by
 have h:=of_decide_eq_true h
 obtain⟨h1,h2⟩:=hf
 rw[IntKind.wrap_u64,IntKind.wrap_u64,Int.emod_eq_of_lt h1 (by omega),Int.emod_eq_of_lt (by omega) (by omega)]at h
 exact⟨h1,h⟩
theorem Zet{P:Nat}{m:List Int}(h:Q0u P m){d:Q0d}(hd:Q85 d)(e:Q0e):(Q8z d m e).w (fun r=>Q85 r.1∧Q0u P r.2.1∧out d.OpFrame m r.2.1∧(r.2.2=false→r.2.1=m)∧(∀p,Q18 d p=true→Q18 r.1 p=true)):=by
 have hcl:Q02 m=m:=rfl
 have keep: ∀b:Bool,Q85 d∧Q0u P m∧out d.OpFrame m m∧(b=false→m=m)∧(∀p,Q18 d p=true→Q18 d p=true):=fun b=>⟨hd,h,Qmo _ _,fun _=>rfl,fun _ h=>h⟩
 have blk: ∀{p:Int},Q18 d p=true→decide (d.Blocks>64)=false:=fun{p} hm=>by
   cases hb:decide (d.Blocks>64)
   · rfl
   · have:Q18 d p=false:=by simp only[Q18,Q5f,Tree.m];rw[hb];rfl
     rw[this]at hm;cases hm
 have m2: ∀p,Q18 d p=true→Q18 {Blocks:=d.Blocks,Block:=d.Block,Frame:=d.Frame,State:=2,Cmd:=0,OpBlock:=0,OpFrame:=0,OpData:=[]} p=true:=fun p hm=>by
   simp only[Q18,Q5f,Tree.m];rw[blk hm];rfl
 have m3: ∀p,Q18 d p=true→Q18 {Blocks:=d.Blocks,Block:=d.Block,Frame:=d.Frame,State:=3,Cmd:=0,OpBlock:=0,OpFrame:=0,OpData:=[]} p=true:=fun p hm=>by
   simp only[Q18,Q5f,Tree.m];rw[blk hm];rfl
 unfold Q8z
 refine w_br (fun _=>w_an (Q81 h) (w_lv fun x hx=>by rw[hcl]at hx;subst hx;exact keep _)) fun _=>w_br (fun _=>w_an (Q81 h) (w_lv fun x hx=>by rw[hcl]at hx;subst hx;exact keep _)) fun _=>w_br (fun _=>w_an (Q81 h) (w_lv fun x hx=>by rw[hcl]at hx;subst hx;exact keep _)) fun _=>w_an (Q81 h) (w_lv fun x3 hx3=> ?_)
 rw[hcl]at hx3;subst hx3
 have fin: ∀{m':List Int},Q0u P m'→out d.OpFrame x3 m'→(Tree.br (e.N==1) (.lf (({Blocks:=d.Blocks,Block:=d.Block,Frame:=d.Frame,State:=2,Cmd:=0,OpBlock:=0,OpFrame:=0,OpData:=[]}:Q0d),m',true)) (.lf (({Blocks:=d.Blocks,Block:=d.Block,Frame:=d.Frame,State:=3,Cmd:=0,OpBlock:=0,OpFrame:=0,OpData:=[]}:Q0d),m',true))).w (fun r=>Q85 r.1∧Q0u P r.2.1∧out d.OpFrame x3 r.2.1∧(r.2.2=false→r.2.1=x3)∧(∀p,Q18 d p=true→Q18 r.1 p=true)):=fun hm ho=>
   w_br (fun _=>⟨⟨hd.block,hd.frame,U_0,U_0⟩,hm,ho,(fun h=>by cases h),m2⟩) (fun _=>⟨⟨hd.block,hd.frame,U_0,U_0⟩,hm,ho,(fun h=>by cases h),m3⟩)
 have nod:(Tree.br (!decide (e.Data=[])) (.lf (d,x3,false)) (Tree.br (e.N==1) (.lf (({Blocks:=d.Blocks,Block:=d.Block,Frame:=d.Frame,State:=2,Cmd:=0,OpBlock:=0,OpFrame:=0,OpData:=[]}:Q0d),x3,true)) (.lf (({Blocks:=d.Blocks,Block:=d.Block,Frame:=d.Frame,State:=3,Cmd:=0,OpBlock:=0,OpFrame:=0,OpData:=[]}:Q0d),x3,true)))).w (fun r=>Q85 r.1∧Q0u P r.2.1∧out d.OpFrame x3 r.2.1∧(r.2.2=false→r.2.1=x3)∧(∀p,Q18 d p=true→Q18 r.1 p=true)):=
   w_br (fun _=>keep _) (fun _=>fin h (Qmo _ _))
 refine w_br (fun _=>w_br (fun _=>w_lv fun x4 hx4=>w_br (fun _=>keep _) fun hb=> ?_) (fun _=>nod)) (fun _=>nod)
 have hp:=Q21 h
 have hb:x4=true:=by simpa using hb
 rw[hb]at hx4
 simp only[Q8w,Qbt,Tree.m,letv,hp]at hx4
 obtain⟨f0,f1⟩:=Ze2 hd.opFrame h.p2 hx4.symm
 have ef:IntKind.i64.wrap d.OpFrame=d.OpFrame:=by have:=h.p2;rw[IntKind.wrap_i64];omega
 refine Q0a (Qyp h _ _) fun x5 ⟨h5,o5,k5⟩=> ?_
 rw[ef]at o5
 exact w_br (fun hf=>⟨hd,h5,o5,fun _=>k5 (by simpa using hf),fun _ h=>h⟩) (fun _=>fin h5 o5)
theorem receive_w{P:Nat}{m:List Int}(h:Q0u P m){n:Q0m}(hn:Qh6 n)(frame:List UInt8):(Qb1 n m frame).w (fun r=>Qh6 r.1∧Q0u P r.2.1∧out n.Buffer m r.2.1∧(r.2.2=false→r.2.1=m)∧(∀p,Q4m n p=true→Q4m r.1 p=true)):=by
 have hcl:Q02 m=m:=rfl
 have keep:Qh6 n∧Q0u P m∧out n.Buffer m m∧(false=false→m=m)∧(∀p,Q4m n p=true→Q4m n p=true):=⟨hn,h,Qmo _ _,fun _=>rfl,fun _ h=>h⟩
 unfold Qb1
 refine w_br (fun _=>w_an (Q81 h) (w_lv fun x hx=>by rw[hcl]at hx;subst hx;exact keep)) fun hpo=>w_br (fun _=>w_an (Q81 h) (w_lv fun x hx=>by rw[hcl]at hx;subst hx;exact keep)) fun l1=>w_br (fun _=>w_an (Q81 h) (w_lv fun x hx=>by rw[hcl]at hx;subst hx;exact keep)) fun l2=>w_lv fun x3 hx3=>w_br (fun _=>w_an (Q81 h) (w_lv fun x hx=>by rw[hcl]at hx;subst hx;exact keep)) fun hb=> ?_
 have l1:=of_decide_eq_false l1
 have l2:=of_decide_eq_false l2
 have hp:=Q21 h
 have hb:x3=true:=by simpa using hb
 rw[hb]at hx3
 simp only[Q97,Qdk,Tree.m,letv,hp]at hx3
 obtain⟨f0,f1⟩:=Ze2 hn.buffer h.p2 hx3.symm
 have ef:IntKind.i64.wrap n.Buffer=n.Buffer:=by have:=h.p2;rw[IntKind.wrap_i64];omega
 refine Q0a (Zaz h _) fun x5 h5=> ?_
 rw[ef]at h5
 have h5:=h5 f0 f1
 have hmax:(maxLen:Nat)=9223372036854775807:=rfl
 refine w_cn (decide_eq_true (by omega)) (w_cn (decide_eq_true (by simp only[List.length_take,List.length_drop,hmax];omega)) (Q0a (Qyp h _ _) fun x6 ⟨h6,o6,_⟩=> ?_))
 rw[ef]at o6
 have hg:IntKind.u32.wrap (frame.length:Int)=frame.length:=by rw[IntKind.wrap_u32];omega
 refine⟨⟨hn.frame,hn.len,U_0,Q0o _⟩,h6,o6,(fun h=>by cases h),fun p _=> ?_⟩
 simp only[Q4m,Qig,Tree.m]
 rw[hg,decide_eq_true (show(frame.length:Int)≥1 by omega),decide_eq_true (show(frame.length:Int)≤128 by omega)]
 rfl
theorem ctype_w(c:Q0c)(b:Int):(Qd6 c b).w (fun r=>Q1z c=true→Q1z r.1=true):=by
 have hmax:(maxLen:Nat)=9223372036854775807:=rfl
 unfold Qd6
 refine w_br (fun _=>fun h=>h) (fun hb=> ?_)
 have hb:=of_decide_eq_false hb
 refine w_cn (decide_eq_true (by rw[hmax];omega)) ?_
 intro _
 show decide (((c.Keys++[_]).length:Int)≤16)=true
 rw[List.length_append,List.length_singleton]
 exact decide_eq_true (by omega)
theorem fire_may(t:Q0h)(h:Q36 t=true):Q36 (Qmp t).1=true:=by
 simp only[Qmp,Qtd,Tree.m]
 cases ha:t.Armed
 · exact h
 · rfl
end Go.Proofs.YtdkiadhigcfmkaaGreat
namespace Go.Proofs.YtdkiadhigcfmkaaGreat
open Go Go.GD
set_option linter.unusedVariables false
set_option linter.unusedSimpArgs false
set_option maxRecDepth 100000
theorem Zdq(m:Q00):Q0r m=(Q1z m.Console&&(Q36 m.Timer&&(Q18 m.Disk (Q0q m.Mem)&&(Q4m m.Nic (Q0q m.Mem)&&Q27 m.Balloon (Q0q m.Mem))))):=by
 simp only[Q0r,Q1l,Tree.m,letv]
 cases Q1z m.Console<;>cases Q36 m.Timer<;>cases Q18 m.Disk (Q0q m.Mem)<;>cases Q4m m.Nic (Q0q m.Mem)<;>rfl
theorem bal_eq{b c:Q05}(h:c.Given=b.Given)(p:Int):Q27 c p=Q27 b p:=by
 simp only[Q27,Q4b,Tree.m,h]
theorem cnd{a x y:Bool}(h:x=true→y=true):(bif a then false else x)=true→(bif a then false else y)=true:=by cases a<;>simp_all
def chain(b1 b2 b3 b4 b5 b6 b7 w h dev:Bool):Bool:=bif b1 then false else bif b2 then false else bif b3 then false else bif b4 then false else bif b5 then false else bif b6 then false else bif b7 then false else bif w then(bif h then false else dev) else dev
theorem Zg7{b1 b2 b3 b4 b5 b6 b7 w h d d':Bool}(hd:d=true→d'=true):chain b1 b2 b3 b4 b5 b6 b7 w h d=true→chain b1 b2 b3 b4 b5 b6 b7 w h d'=true:=by
 refine cnd (cnd (cnd (cnd (cnd (cnd (cnd ?_))))))
 cases w
 · exact hd
 · cases h
   · exact hd
   · exact fun h=>h
def mayC(p:Int)(c:Q03)(ct:Int)(w h dev:Bool):Bool:=chain (p==0) (c.X.a0 !=0) (decide (c.Csr.a0>31)) (decide (c.Csr.a7>31)) (decide (c.Csr.a6>255)) (Int.tmod c.Csr.a1 4 !=0) (decide (ct>1152921504606846976)) w h dev
theorem mayC_mono{p:Int}{c:Q03}{ct:Int}{w h d d':Bool}(hd:d=true→d'=true)(g:mayC p c ct w h d=true):mayC p c ct w h d'=true:=Zg7 hd g
theorem may_eq(m:Q00):Q0z m=mayC (Q0q m.Mem) m.Cpu m.Count m.Waiting m.Halted (Q0r m):=rfl
theorem Qpx{m n:Q00}(hp:Q0q n.Mem=Q0q m.Mem)(hcpu:n.Cpu=m.Cpu)(hct:n.Count=m.Count)(hw:n.Waiting=m.Waiting)(hh:n.Halted=m.Halted)
   (hc:Q1z m.Console=true→Q1z n.Console=true) (ht:Q36 m.Timer=true→Q36 n.Timer=true) (hd: ∀p,Q18 m.Disk p=true→Q18 n.Disk p=true) (hn: ∀p,Q4m m.Nic p=true→Q4m n.Nic p=true) (hb:n.Balloon.Given=m.Balloon.Given) (h:Q0z m=true):Q0z n=true:=by
 have dev:Q0r m=true→Q0r n=true:=fun h=>by
   rw[Zdq]at h⊢
   simp only[Bool.and_eq_true]at h⊢
   rw[hp,bal_eq hb]
   exact⟨hc h.1,ht h.2.1,hd _ h.2.2.1,hn _ h.2.2.2.1,h.2.2.2.2⟩
 rw[may_eq]at h⊢
 rw[hp,hcpu,hct,hw,hh]
 exact mayC_mono dev h
end Go.Proofs.YtdkiadhigcfmkaaGreat
namespace Go.Proofs.YtdkiadhigcfmkaaGreat
open Go Go.GD
set_option linter.unusedVariables false
set_option linter.unusedSimpArgs false
set_option maxRecDepth 100000
section
variable {P:Nat} {m:List Int} (h:Q0u P m)
include h
theorem dpage{f:Int}(hf:U f){b:Bool}(hx:b=Q8w m f)(hb:b=true):0≤f∧f<P:=by
 have hp:=Q21 h
 rw[hb]at hx
 simp only[Q8w,Qbt,Tree.m,letv,hp]at hx
 exact Ze2 hf h.p2 hx.symm
theorem npage{f:Int}(hf:U f){b:Bool}(hx:b=Q97 m f)(hb:b=true):0≤f∧f<P:=by
 have hp:=Q21 h
 rw[hb]at hx
 simp only[Q97,Qdk,Tree.m,letv,hp]at hx
 exact Ze2 hf h.p2 hx.symm
def keepD(P:Nat)(d d':Q0d):Prop:=Q85 d'∧(Q18 d P=true→Q18 d' P=true)
theorem issue_w{d:Q0d}(hd:Q85 d){cmd:Int}(hc:cmd=1∨cmd=2)(at0:Int):(Q8h d m cmd at0).w (fun r=>keepD P d r.1∧r.2.length≤1):=by
 have h2:=h.p2
 have st3:(d.State !=0)=false→keepD P d {Blocks:=d.Blocks,Block:=d.Block,Frame:=d.Frame,State:=3,Cmd:=d.Cmd,OpBlock:=d.OpBlock,OpFrame:=d.OpFrame,OpData:=d.OpData}:=fun hs=>by
   have hs:d.State=0:=by simpa using hs
   refine⟨⟨hd.block,hd.frame,hd.opBlock,hd.opFrame⟩,fun hm=> ?_⟩
   simp only[Q18,Q5f,Tree.m,hs]at hm⊢
   exact hm
 have blk:Q18 d P=true→decide (d.Blocks>64)=false:=fun hm=>by
   cases hb:decide (d.Blocks>64)
   · rfl
   · have:Q18 d P=false:=by simp only[Q18,Q5f,Tree.m];rw[hb];rfl
     rw[this]at hm;cases hm
 unfold Q8h
 refine w_br (fun _=>⟨⟨hd,fun h=>h⟩,Nat.zero_le _⟩) fun hs=>w_br (fun _=>⟨st3 hs,Nat.zero_le _⟩) fun hb=>w_lv fun x0 hx=>w_br (fun _=>⟨st3 hs,Nat.zero_le _⟩) fun hp=> ?_
 have hb:=of_decide_eq_false hb
 obtain⟨f0,f1⟩:=dpage h hd.frame hx (by simpa using hp)
 have ef:IntKind.i64.wrap d.Frame=d.Frame:=by rw[IntKind.wrap_i64];omega
 have e1:decide (d.Block<d.Blocks)=true:=decide_eq_true (by omega)
 have e2:decide (IntKind.i64.wrap d.Frame<(P:Int))=true:=by rw[ef];exact decide_eq_true f1
 refine w_br (fun hcm=>Q0a (Zaz h _) fun x1 h1=> ?_) (fun hcm=> ?_)
 · rw[ef]at h1
   have h1:=h1 f0 f1
   have hcm:=eq_of_beq hcm
   subst hcm
   refine w_lv fun x2 _=>⟨⟨⟨hd.block,hd.frame,hd.block,hd.frame⟩,fun hm=> ?_⟩,Nat.le_refl _⟩
   simp only[Q18,Q5f,Q8b,Q6r,Tree.m,letv,blk hm,e1,e2,h1]
   rfl
 · have hc:cmd=1:=by
     rcases hc with h|h
     · exact h
     · rw[h]at hcm;exact absurd hcm (by decide)
   subst hc
   refine w_lv fun x2 _=>⟨⟨⟨hd.block,hd.frame,hd.block,hd.frame⟩,fun hm=> ?_⟩,Nat.le_refl _⟩
   simp only[Q18,Q5f,Q8b,Q6r,Tree.m,letv,blk hm,e1,e2]
   rfl
theorem diskP_w{d:Q0d}(hd:Q85 d)(port:Int){v:Int}(hv:U v)(at0:Int):(Qch d m port v at0).w (fun r=>keepD P d r.1∧r.2.length≤1):=by
 have keep:keepD P d d:=⟨hd,fun h=>h⟩
 have e1: ∀{k:Int},(v==k)=true→IntKind.i64.wrap v=k:=fun hk=>by
   have:=eq_of_beq hk
   obtain⟨a,b⟩:=hv
   rw[IntKind.wrap_i64];omega
 unfold Qch
 refine w_br (fun _=>⟨⟨⟨hv,hd.frame,hd.opBlock,hd.opFrame⟩,fun h=>h⟩,Nat.zero_le _⟩) fun _=>w_br (fun _=>⟨⟨⟨hd.block,hv,hd.opBlock,hd.opFrame⟩,fun h=>h⟩,Nat.zero_le _⟩) fun _=>w_br (fun _=>w_br (fun hk=>Q0a (issue_w h hd (.inl (e1 hk)) _) fun x hx=>hx) fun _=>w_br (fun hk=>Q0a (issue_w h hd (.inr (e1 hk)) _) fun x hx=>hx) fun _=>w_br (fun _=>w_lv fun x hx=>w_br (fun hb=> ?_) (fun _=>⟨keep,Nat.zero_le _⟩)) (fun _=>⟨keep,Nat.zero_le _⟩)) (fun _=>⟨keep,Nat.zero_le _⟩)
 refine⟨⟨⟨hd.block,hd.frame,hd.opBlock,hd.opFrame⟩,fun hm=> ?_⟩,Nat.zero_le _⟩
 rw[hb]at hx
 simp only[Q5v,Qi1,Tree.m]at hx
 cases h2:d.State==2
 · rw[h2]at hx
   have h3:d.State=3:=eq_of_beq hx.symm
   simp only[Q18,Q5f,Tree.m,h3]at hm⊢
   exact hm
 · have h3:d.State=2:=eq_of_beq h2
   simp only[Q18,Q5f,Tree.m,h3]at hm⊢
   exact hm
def keepN(P:Nat)(n n':Q0m):Prop:=Qh6 n'∧(Q4m n P=true→Q4m n' P=true)
theorem send_w{n:Q0m}(hn:Qh6 n)(at0:Int):(Qca n m at0).w (fun r=>r.length≤1):=by
 have h2:=h.p2
 unfold Qca
 refine w_br (fun _=>Nat.zero_le _) fun l1=>w_br (fun _=>Nat.zero_le _) fun l2=>w_lv fun x0 hx=>w_br (fun _=>Nat.zero_le _) fun hp=>Q0a (Zaz h _) fun x1 h1=> ?_
 have l1:=of_decide_eq_false l1
 have l2:=of_decide_eq_false l2
 obtain⟨f0,f1⟩:=npage h hn.frame hx (by simpa using hp)
 have ef:IntKind.i64.wrap n.Frame=n.Frame:=by rw[IntKind.wrap_i64];omega
 rw[ef]at h1
 have h1:=h1 f0 f1
 exact w_cn (decide_eq_true (by omega)) (Nat.le_refl _)
theorem nicP_w{n:Q0m}(hn:Qh6 n)(port:Int){v:Int}(hv:U v)(at0:Int):(Qfl n m port v at0).w (fun r=>keepN P n r.1∧r.2.length≤1):=by
 have h2:=h.p2
 have keep:keepN P n n:=⟨hn,fun h=>h⟩
 unfold Qfl
 refine w_br (fun _=>⟨⟨⟨hv,hn.len,hn.buffer,hn.got⟩,fun h=>h⟩,Nat.zero_le _⟩) fun _=>w_br (fun _=>⟨⟨⟨hn.frame,hv,hn.buffer,hn.got⟩,fun h=>h⟩,Nat.zero_le _⟩) fun _=>w_br (fun _=>w_br (fun _=>Q0a (send_w h hn _) fun x hx=>⟨keep,hx⟩) fun _=>w_br (fun _=>w_lv fun x hx=>w_br (fun hb=>w_br (fun np=>w_br (fun nr=> ?_) (fun _=>⟨keep,Nat.zero_le _⟩)) (fun _=>⟨keep,Nat.zero_le _⟩)) (fun _=>⟨keep,Nat.zero_le _⟩)) fun _=>w_br (fun _=> ?_) (fun _=>⟨keep,Nat.zero_le _⟩)) (fun _=>⟨keep,Nat.zero_le _⟩)
 · obtain⟨f0,f1⟩:=npage h hn.frame hx hb
   have np:n.Posted=false:=by simpa using np
   have nr:n.Received=false:=by simpa using nr
   have e2:decide (IntKind.i64.wrap n.Frame≥(P:Int))=false:=decide_eq_false (by rw[IntKind.wrap_i64];omega)
   refine⟨⟨⟨hn.frame,hn.len,hn.frame,hn.got⟩,fun hm=> ?_⟩,Nat.zero_le _⟩
   simp only[Q4m,Qig,Tree.m,np,nr,e2]at hm⊢
   cases hb:(n.Buffer !=0)
   · rw[hb]at hm;exact hm
   · rw[hb]at hm;cases hm
 · refine⟨⟨⟨hn.frame,hn.len,hn.buffer,U_0⟩,fun hm=> ?_⟩,Nat.zero_le _⟩
   simp only[Q4m,Qig,Tree.m]at hm⊢
   revert hm
   cases n.Posted<;>cases n.Received<;>cases decide (IntKind.i64.wrap n.Buffer≥(P:Int))<;>cases(n.Buffer !=0)<;>simp
end
theorem arm_may(t:Q0h)(v:Int):Q36 (Qj8 t v)=true:=by
 simp only[Qj8,Qjp,Q36,Qjb,Tree.m]
 cases h:(v !=0)
 · have:v=0:=by simpa using h
   subst this;rfl
 · rfl
end Go.Proofs.YtdkiadhigcfmkaaGreat
namespace Go.Proofs.YtdkiadhigcfmkaaGreat
open Go Go.GD
set_option linter.unusedVariables false
set_option linter.unusedSimpArgs false
set_option maxRecDepth 100000
theorem Qko{a:Int}(k:Nat)(hk:k≤32):ishr .u32 a k=a/2^k:=by
 unfold ishr
 have e:min (k:Int).toNat IntKind.u32.bits=k:=by show min (k:Int).toNat 32=k;omega
 have hp:(0:Int)<2^k:=Int.pow_pos (by decide)
 rw[e,Int.fdiv_eq_ediv_of_nonneg _ (Int.le_of_lt hp)]
def Zfu(x:Int)(n:Nat):Prop:=x<2^n∧(n=0∨(2:Int)^(n-1)≤x)
theorem Z36{x q:Int}{n k:Nat}(hq:q=x/2^k)(h0:0<q)(h:Zfu q n):Zfu x (n+k):=by
 have hp:(0:Int)<2^k:=Int.pow_pos (by decide)
 obtain⟨h1,h2⟩:=h
 have hn:n≠0:=fun e=>by subst e;simp at h1;omega
 refine⟨?_, .inr ?_⟩
 · rw[Int.pow_add]
   have:x<(x/2^k+1)*2^k:=Int.lt_ediv_add_one_mul_self x hp
   have h3:(x/2^k+1)*2^k≤2^n*2^k:=Int.mul_le_mul_of_nonneg_right (by omega) (Int.le_of_lt hp)
   omega
 · have h2:=h2.resolve_left hn
   have e:n+k-1=(n-1)+k:=by omega
   rw[e,Int.pow_add]
   have h3:(2:Int)^(n-1)*2^k≤q*2^k:=Int.mul_le_mul_of_nonneg_right h2 (Int.le_of_lt hp)
   have h4:q*2^k≤x:=by rw[hq];exact Int.ediv_mul_le x (Int.ne_of_gt hp)
   omega
theorem isLen_le{x:Int}{n p:Nat}(h:Zfu x n)(hx:x<2^p):n≤p:=by
  obtain⟨h1,h2⟩:=h
  rcases h2 with h2|h2
  · omega
  · rcases Nat.lt_or_ge p n with hlt|hge
    · have:(2:Int)^p≤2^(n-1):=by
        have:=Nat.pow_le_pow_right (show 0<2 by omega) (show p≤n-1 by omega)
        exact_mod_cast this
      omega
    · exact hge
theorem Zbd{x:Int}{n p:Nat}(h:Zfu x n)(hn:n≤p):x<2^p:=by
 have:(2:Int)^n≤2^p:=by
   have:=Nat.pow_le_pow_right (show 0<2 by omega) hn
   exact_mod_cast this
 exact Int.lt_of_lt_of_le h.1 this
def lenChk(i:Nat):Bool:=match(Q1c (i:Int)) with
 | .ofNat n=>decide ((i:Int)<2^n)&&(Nat.beq n 0||decide ((2:Int)^(n-1)≤i))&&decide (n≤8)
 |_=>false
theorem Qpy{q:Int}(h0:0≤q)(h1:q<256): ∃n:Nat,Q1c q=n∧Zfu q n∧n≤8:=by
 have all:List.all (List.range 256) lenChk=true:=by kernel_rfl
 have:=List.all_eq_true.1 all q.toNat (List.mem_range.2 (by omega))
 have hq:((q.toNat:Nat):Int)=q:=by omega
 unfold lenChk at this
 rw[hq]at this
 split at this
 · rename_i n hn
   simp only[Bool.and_eq_true,Bool.or_eq_true,decide_eq_true_eq]at this
   refine⟨n,hn,⟨this.1.1,?_⟩,this.2⟩
   rcases this.1.2 with h|h
   · exact .inl (Nat.eq_of_beq_eq_true h)
   · exact .inr h
 · cases this
theorem len_24{x:Int}(h:U x)(hx:16777216≤x):Q1c x=24+Q1c (x/16777216):=by
 obtain⟨h0,h1⟩:=h
 have s16:ishr .u32 x 16=x/65536:=Qko 16 (by omega)
 have s24:ishr .u32 (x/65536) 8=x/16777216:=by rw[show((8:Int))=((8:Nat):Int) from rfl,Qko 8 (by omega)];omega
 have d1:decide (x≥65536)=true:=decide_eq_true (by omega)
 have d2:decide (x/65536≥256)=true:=decide_eq_true (by omega)
 have d3:decide (x/16777216≥65536)=false:=decide_eq_false (by omega)
 have d4:decide (x/16777216≥256)=false:=decide_eq_false (by omega)
 have u:IntKind.u8.wrap (x/16777216)=x/16777216:=by rw[IntKind.wrap_u8];omega
 simp only[Q1c,Q2d,Tree.m,s16,s24,d1,d2,d3,d4,u,cond_true,cond_false]
 generalize(List.getD _ (Int.toNat (x/16777216)) (0:UInt8))=b
 have hb:=UInt8.toNat_lt b
 rw[IntKind.wrap_i64,IntKind.wrap_i64,IntKind.wrap_i64,IntKind.wrap_i64]
 omega
theorem len_16{x:Int}(h0:65536≤x)(h1:x<16777216):Q1c x=16+Q1c (x/65536):=by
 have s16:ishr .u32 x 16=x/65536:=Qko 16 (by omega)
 have d1:decide (x≥65536)=true:=decide_eq_true (by omega)
 have d2:decide (x/65536≥256)=false:=decide_eq_false (by omega)
 have d3:decide (x/65536≥65536)=false:=decide_eq_false (by omega)
 have u:IntKind.u8.wrap (x/65536)=x/65536:=by rw[IntKind.wrap_u8];omega
 simp only[Q1c,Q2d,Tree.m,s16,d1,d2,d3,u,cond_true,cond_false]
 generalize(List.getD _ (Int.toNat (x/65536)) (0:UInt8))=b
 have hb:=UInt8.toNat_lt b
 rw[IntKind.wrap_i64,IntKind.wrap_i64,IntKind.wrap_i64]
 omega
theorem len_8{x:Int}(h0:256≤x)(h1:x<65536):Q1c x=8+Q1c (x/256):=by
 have s8:ishr .u32 x 8=x/256:=Qko 8 (by omega)
 have d1:decide (x≥65536)=false:=decide_eq_false (by omega)
 have d2:decide (x≥256)=true:=decide_eq_true (by omega)
 have d3:decide (x/256≥65536)=false:=decide_eq_false (by omega)
 have d4:decide (x/256≥256)=false:=decide_eq_false (by omega)
 have u:IntKind.u8.wrap (x/256)=x/256:=by rw[IntKind.wrap_u8];omega
 simp only[Q1c,Q2d,Tree.m,s8,d1,d2,d3,d4,u,cond_true,cond_false]
 generalize(List.getD _ (Int.toNat (x/256)) (0:UInt8))=b
 have hb:=UInt8.toNat_lt b
 rw[IntKind.wrap_i64,IntKind.wrap_i64,IntKind.wrap_i64,IntKind.wrap_i64]
 omega
theorem Zgg{x:Int}(h:U x): ∃n:Nat,Q1c x=n∧Zfu x n:=by
  obtain⟨h0,h1⟩:=h
  rcases Int.lt_or_le x 256 with a|a
  · obtain⟨n,e,l,_⟩:=Qpy h0 a
    exact⟨n,e,l⟩
  · rcases Int.lt_or_le x 65536 with b|b
    · obtain⟨n,e,l,_⟩:=Qpy (q:=x/256) (by omega) (by omega)
      exact⟨n+8,by rw[len_8 a b,e];omega,Z36 (k:=8) rfl (by omega) l⟩
    · rcases Int.lt_or_le x 16777216 with c|c
      · obtain⟨n,e,l,_⟩:=Qpy (q:=x/65536) (by omega) (by omega)
        exact⟨n+16,by rw[len_16 b c,e];omega,Z36 (k:=16) rfl (by omega) l⟩
      · obtain⟨n,e,l,_⟩:=Qpy (q:=x/16777216) (by omega) (by omega)
        exact⟨n+24,by rw[len_24 ⟨h0,h1⟩ c,e];omega,Z36 (k:=24) rfl (by omega) l⟩
theorem Qy0{b:Q05}(h:U b.Given){P:Nat}:Q27 b P=true↔b.Given<2^P:=by
 obtain⟨n,e,l⟩:=Zgg h
 have hp:(if(0:Int)>(P:Int) then(0:Int) else P)=P:=by rw[if_neg (by omega)]
 simp only[Q27,Q4b,Tree.m,letv,e,hp,decide_eq_true_eq]
 constructor
 · intro h;exact Zbd l (by omega)
 · intro h;have:=isLen_le l h;omega
end Go.Proofs.YtdkiadhigcfmkaaGreat
namespace Go.Proofs.YtdkiadhigcfmkaaGreat
open Go Go.GD
set_option linter.unusedVariables false
set_option linter.unusedSimpArgs false
set_option maxRecDepth 100000
theorem Z62{a:Int}(h:U a){P:Nat}(h1:a<2^P):(BitVec.ofInt 32 a).toNat<2^P:=by
 obtain⟨a0,a1⟩:=h
 rw[BitVec.toNat_ofInt,Int.emod_eq_of_lt a0 (by omega)]
 have:((2^P:Nat):Int)=(2:Int)^P:=by exact_mod_cast rfl
 omega
theorem or_lt{a b:Int}(ha:U a)(hb:U b){P:Nat}(hP:P≤32)(h1:a<2^P)(h2:b<2^P):ior .u32 a b<2^P:=by
 have e:(BitVec.ofInt 32 a|||BitVec.ofInt 32 b).toNat<2^P:=by
   rw[BitVec.toNat_or]
   exact Nat.or_lt_two_pow (Z62 ha h1) (Z62 hb h2)
 have hc:((2^P:Nat):Int)=(2:Int)^P:=by exact_mod_cast rfl
 have l:=(BitVec.ofInt 32 a|||BitVec.ofInt 32 b).isLt
 show IntKind.wrap .u32 ((BitVec.ofInt 32 a|||BitVec.ofInt 32 b).toNat:Int)<2^P
 rw[IntKind.wrap_u32]
 omega
theorem andn_lt{a b:Int}(ha:U a){P:Nat}(h1:a<2^P):Qey .u32 a b<2^P:=by
 have e:(BitVec.ofInt 32 a&&&~~~BitVec.ofInt 32 b).toNat<2^P:=by
   rw[BitVec.toNat_and]
   exact Nat.lt_of_le_of_lt Nat.and_le_left (Z62 ha h1)
 have hc:((2^P:Nat):Int)=(2:Int)^P:=by exact_mod_cast rfl
 have l:=(BitVec.ofInt 32 a&&&~~~BitVec.ofInt 32 b).isLt
 show IntKind.wrap .u32 ((BitVec.ofInt 32 a&&&~~~BitVec.ofInt 32 b).toNat:Int)<2^P
 rw[IntKind.wrap_u32]
 omega
theorem shl_one{v:Int}(h0:0≤v)(h1:v<32):ishl .u32 1 v=2^v.toNat:=by
 have e:min v.toNat IntKind.u32.bits=v.toNat:=by show min v.toNat 32=v.toNat;omega
 obtain⟨n,rfl⟩: ∃n:Nat,v=n:=⟨v.toNat,by omega⟩
 have hn:n<32:=by omega
 have hlt:(2:Nat)^n<4294967296:=by
   have:=Nat.pow_lt_pow_right (show 1<2 by omega) hn
   simpa using this
 have hc:((2^n:Nat):Int)=(2:Int)^n:=by exact_mod_cast rfl
 unfold ishl
 rw[e,IntKind.wrap_u32,Int.one_mul,Int.toNat_natCast,←hc]
 clear hc e
 generalize(2:Nat)^n=z at*
 omega
def keepB(P:Nat)(b b':Q05):Prop:=okB b'∧(Q27 b P=true→Q27 b' P=true)
theorem Zgp{P:Nat}{m:List Int}(h:Q0u P m){b:Q05}(hb:okB b)(port:Int){v:Int}(hv:U v):(Q2y b m port v).w (fun r=>keepB P b r.1∧Q0u P r.2):=by
 have hcl:Q02 m=m:=rfl
 have h2:=h.p2
 have hp:=Q21 h
 have keep:(Tree.an (Q06 m) (.lv (Q02 m) fun x=> .lf (b,x))).w (fun r=>keepB P b r.1∧Q0u P r.2):=w_an (Q81 h) (w_lv fun x hx=>by rw[hcl]at hx;subst hx;exact⟨⟨hb,fun h=>h⟩,h⟩)
 unfold Q2y
 refine w_br (fun _=>keep) fun hlt=>w_cn (decide_eq_true hv.1) (w_br (fun _=>w_lv fun x1 hx=>w_br (fun hpg=>w_br (fun _=>w_an ⟨by decide,by decide,by decide⟩ (w_lv fun x2 _=>Q0a (Qyp h _ _) fun x3 ⟨h3,_⟩=> ?_)) (fun _=>keep)) (fun _=>keep)) (fun _=>w_br (fun _=>w_an (Q81 h) (w_lv fun x hx=> ?_)) (fun _=>keep)))
 · have hlt:=of_decide_eq_false hlt
   have hpg:=of_decide_eq_true hpg
   rw[hx,hp]at hpg
   obtain⟨v0,v1⟩:=hv
   have ev:IntKind.i64.wrap v=v:=by rw[IntKind.wrap_i64];omega
   rw[ev]at hpg
   refine⟨⟨⟨hb.1,Q0o _⟩,fun hm=> ?_⟩,h3⟩
   rw[Qy0 hb.2]at hm
   rw[Qy0 (Q0o _)]
   have hs:ishl .u32 1 v<2^P:=by
     rw[shl_one v0 (by omega)]
     have:=Nat.pow_lt_pow_right (show 1<2 by omega) (show v.toNat<P by omega)
     exact_mod_cast this
   exact or_lt hb.2 (Q0o _) h2 hm hs
 · rw[hcl]at hx;subst hx
   refine⟨⟨⟨hb.1,Q0o _⟩,fun hm=> ?_⟩,h⟩
   rw[Qy0 hb.2]at hm
   rw[Qy0 (Q0o _)]
   exact andn_lt hb.2 hm
end Go.Proofs.YtdkiadhigcfmkaaGreat
namespace Go.Proofs.YtdkiadhigcfmkaaGreat
open Go Go.GD
set_option linter.unusedVariables false
set_option linter.unusedSimpArgs false
set_option maxRecDepth 100000
structure kept(P:Nat)(m n:Q00):Prop where
 ok:okS P n
 dev:Q0r m=true→Q0r n=true
 cpu:n.Cpu=m.Cpu
 cnt:n.Count=m.Count
 wait:n.Waiting=m.Waiting
 halt:n.Halted=m.Halted
theorem Z9i{P:Nat}{m:Q00}(h:okS P m):kept P m m:=⟨h,fun h=>h,rfl,rfl,rfl,rfl⟩
theorem Qjd{P:Nat}{m n:Q00}(hm:Q0u P m.Mem)(hn:Q0u P n.Mem)(hc:Q1z m.Console=true→Q1z n.Console=true)(ht:Q36 m.Timer=true→Q36 n.Timer=true)
   (hd:Q18 m.Disk P=true→Q18 n.Disk P=true) (hk:Q4m m.Nic P=true→Q4m n.Nic P=true) (hb:Q27 m.Balloon P=true→Q27 n.Balloon P=true) (h:Q0r m=true):Q0r n=true:=by
 rw[Zdq]at h⊢
 rw[Q21 hm]at h
 rw[Q21 hn]
 simp only[Bool.and_eq_true]at h⊢
 exact⟨hc h.1,ht h.2.1,hd h.2.2.1,hk h.2.2.2.1,hb h.2.2.2.2⟩
theorem Qvu{P:Nat}{m:Q00}(h:okS P m)(port:Int){v:Int}(hv:U v)(at0:Int):(Q2q m port v at0).w (fun r=>kept P m r.1∧r.2.length≤1):=by
 have k:=Z9i h
 obtain⟨h1,h2,h3,h4,h5,h6⟩:=h
 have id: ∀{p:Prop},p→p:=fun h=>h
 have D: ∀(x:Q0d×List Q07),(keepD P m.Disk x.1∧x.2.length≤1)→kept P m {Cpu:=m.Cpu,Mem:=m.Mem,Console:=m.Console,Timer:=m.Timer,Disk:=x.1,Nic:=m.Nic,Balloon:=m.Balloon,Count:=m.Count,Waiting:=m.Waiting,Halted:=m.Halted}∧x.2.length≤1:=fun x hx=>
   ⟨⟨⟨h1,h2,hx.1.1,h4,h5,h6⟩,Qjd h2 h2 id id hx.1.2 id id,rfl,rfl,rfl,rfl⟩,hx.2⟩
 have N: ∀(x:Q0m×List Q07),(keepN P m.Nic x.1∧x.2.length≤1)→kept P m {Cpu:=m.Cpu,Mem:=m.Mem,Console:=m.Console,Timer:=m.Timer,Disk:=m.Disk,Nic:=x.1,Balloon:=m.Balloon,Count:=m.Count,Waiting:=m.Waiting,Halted:=m.Halted}∧x.2.length≤1:=fun x hx=>
   ⟨⟨⟨h1,h2,h3,hx.1.1,h5,h6⟩,Qjd h2 h2 id id id hx.1.2 id,rfl,rfl,rfl,rfl⟩,hx.2⟩
 have B: ∀(x:Q05×List Int),(keepB P m.Balloon x.1∧Q0u P x.2)→kept P m {Cpu:=m.Cpu,Mem:=x.2,Console:=m.Console,Timer:=m.Timer,Disk:=m.Disk,Nic:=m.Nic,Balloon:=x.1,Count:=m.Count,Waiting:=m.Waiting,Halted:=m.Halted}∧([]:List Q07).length≤1:=fun x hx=>
   ⟨⟨⟨h1,hx.2,h3,h4,hx.1.1.1,hx.1.1.2⟩,Qjd h2 hx.2 id id id id hx.1.2,rfl,rfl,rfl,rfl⟩,Nat.zero_le _⟩
 unfold Q2q
 repeat'(first
   |exact⟨k,Nat.le_refl _⟩
   |exact⟨k,Nat.zero_le _⟩
   |exact w_lv fun x hx=>⟨⟨⟨h1,h2,h3,h4,h5,h6⟩,Qjd h2 h2 id (fun _=>by rw[hx];exact arm_may _ _) id id id,rfl,rfl,rfl,rfl⟩,Nat.zero_le _⟩
   |exact Q0a (diskP_w h2 h3 _ hv _) fun x hx=>D x hx
   |exact Q0a (nicP_w h2 h4 _ hv _) fun x hx=>N x hx
   |exact Q0a (Zgp h2 ⟨h5,h6⟩ _ hv) fun x hx=>B x hx
   |refine w_br (fun _=> ?_) (fun _=> ?_))
theorem Z18(c:Q0c)(port:Int):(Q8s c port).w (fun r=>U r.2∧(Q1z c=true→Q1z r.1=true)):=by
 have u1:U 4294967295:=⟨by omega,by omega⟩
 unfold Q8s
 refine w_br (fun _=>w_br (fun _=>⟨u1,fun h=>h⟩) (fun hb=>w_cn ?_ (w_cn ?_ ⟨Q0o _,fun hm=> ?_⟩))) (fun _=>w_br (fun _=>⟨Q0o _,fun h=>h⟩) (fun _=>⟨U_0,fun h=>h⟩))
 · have hb:=of_decide_eq_false hb
   have:0<c.Keys.length:=List.length_pos_iff.2 hb
   simp [Nat.blt];omega
 · have hb:=of_decide_eq_false hb
   have:0<c.Keys.length:=List.length_pos_iff.2 hb
   exact decide_eq_true (by omega)
 · have hm:decide ((c.Keys.length:Int)≤16)=true:=hm
   have hm:=of_decide_eq_true hm
   show decide (((List.take _ (List.drop _ c.Keys)).length:Int)≤16)=true
   refine decide_eq_true ?_
   rw[List.length_take,List.length_drop];omega
theorem Z23{P:Nat}{m:Q00}(h:okS P m)(port:Int){clock:Int}(hc:U clock):(Q2z m port clock).w (fun r=>kept P m r.1∧U r.2):=by
 have k:=Z9i h
 obtain⟨h1,h2,h3,h4,h5,h6⟩:=h
 have id: ∀{p:Prop},p→p:=fun h=>h
 have ti: ∀t,U (Qv8 t):=fun t=>by
   refine Tree.post (Qmk t) (W:=U) ?_
   unfold Qmk
   exact w_br (fun _=>⟨by omega,by omega⟩) (fun _=>U_0)
 have di: ∀p,U (Qru m.Disk p):=fun p=>by
   refine Tree.post (Qow m.Disk p) (W:=U) ?_
   unfold Qow
   exact w_br (fun _=>h3.block) (fun _=>w_br (fun _=>h3.frame) (fun _=>w_br (fun _=>Q0o _) (fun _=>U_0)))
 have ni: ∀p,U (Qys m.Nic p):=fun p=>by
   refine Tree.post (Qox m.Nic p) (W:=U) ?_
   unfold Qox
   exact w_br (fun _=>h4.frame) (fun _=>w_br (fun _=>h4.got) (fun _=>w_br (fun _=>w_br (fun _=>w_br (fun _=>Q0o _) (fun _=>Q0o _)) (fun _=>w_br (fun _=>Q0o _) (fun _=>U_0))) (fun _=>U_0)))
 have bi: ∀p,(Q90 m.Balloon p).w U:=fun p=>by
   unfold Q90
   exact w_br (fun _=>h5) (fun _=>w_br (fun _=>Q0a (Zdk h6) fun _ _=>Q0o _) (fun _=>U_0))
 have C: ∀(x:Q0c×Int),(U x.2∧(Q1z m.Console=true→Q1z x.1=true))→kept P m {Cpu:=m.Cpu,Mem:=m.Mem,Console:=x.1,Timer:=m.Timer,Disk:=m.Disk,Nic:=m.Nic,Balloon:=m.Balloon,Count:=m.Count,Waiting:=m.Waiting,Halted:=m.Halted}∧U x.2:=fun x hx=>
   ⟨⟨⟨h1,h2,h3,h4,h5,h6⟩,Qjd h2 h2 hx.2 id id id id,rfl,rfl,rfl,rfl⟩,hx.1⟩
 unfold Q2z
 repeat'(first
   |exact⟨k,hc⟩
   |exact⟨k,U_0⟩
   |exact Q0a (Z18 _ _) fun x hx=>C x hx
   |exact Z9n (Z18 _ _) fun x hx=>C x hx
   |exact w_lv fun x hx=>⟨k,by rw[hx];exact ti _⟩
   |exact w_lv fun x hx=>⟨k,by rw[hx];exact di _⟩
   |exact w_lv fun x hx=>⟨k,by rw[hx];exact ni _⟩
   |exact Q0a (bi _) fun x hx=>⟨k,hx⟩
   |refine w_br (fun _=> ?_) (fun _=> ?_))
end Go.Proofs.YtdkiadhigcfmkaaGreat
namespace Go.Proofs.YtdkiadhigcfmkaaGreat
open Go Go.GD
set_option linter.unusedVariables false
set_option linter.unusedSimpArgs false
set_option maxRecDepth 100000
structure Q6(c:Q03):Prop where
 x0:c.X.a0=0
 st:c.Csr.a0≤31
 en:c.Csr.a7≤31
 rt:c.Csr.a6≤255
 ve:Int.tmod c.Csr.a1 4=0
theorem Q6.pc{c:Q03}(h:Q6 c)(p:Int):Q6 {X:=c.X,Pc:=p,Csr:=c.Csr}:=⟨h.x0,h.st,h.en,h.rt,h.ve⟩
theorem and31(a:Int):iand .u32 a 31≤31:=by
 have e:(BitVec.ofInt 32 a&&&BitVec.ofInt 32 31).toNat≤31:=by
   rw[BitVec.toNat_and]
   exact Nat.le_trans Nat.and_le_right (by decide)
 show IntKind.wrap .u32 ((BitVec.ofInt 32 a&&&BitVec.ofInt 32 31).toNat:Int)≤31
 rw[IntKind.wrap_u32];omega
theorem and255'(a:Int):iand .u32 a 255≤255:=by have:=and255 a;omega
theorem andn3(a:Int):Int.tmod (Qey .u32 a 3) 4=0:=by
 have e:(BitVec.ofInt 32 a&&&~~~BitVec.ofInt 32 3).toNat%4=0:=by
   rw[BitVec.toNat_and,show(~~~BitVec.ofInt 32 3).toNat=4294967292 by decide]
   have:=Nat.and_mod_two_pow (a:=(BitVec.ofInt 32 a).toNat) (b:=4294967292) (n:=2)
   simpa using this
 have l:=(BitVec.ofInt 32 a&&&~~~BitVec.ofInt 32 3).isLt
 show Int.tmod (IntKind.wrap .u32 ((BitVec.ofInt 32 a&&&~~~BitVec.ofInt 32 3).toNat:Int)) 4=0
 rw[IntKind.wrap_u32,Int.tmod_eq_emod_of_nonneg (by omega)]
 omega
theorem fin32{f:Int→Int}(h:(List.range 32).all (fun n=>decide (f n≤31))=true){s:Int}(h0:0≤s)(h1:s≤31):f s≤31:=by
 have:=List.all_eq_true.1 h s.toNat (List.mem_range.2 (by omega))
 have e:((s.toNat:Nat):Int)=s:=by omega
 rw[e]at this
 exact of_decide_eq_true this
theorem Qjv{c:Q03}(h:Q2g c)(m:Q6 c)(k b:Int):Q6 (Q40 c k b):=
 ⟨m.x0,fin32 (f:=fun s=>Qey .u32 (ior .u32 (Q87 (Q87 s 1 8) 2 16) 1) 2) (by kernel_rfl) h.a0.1 m.st,m.en,m.rt,m.ve⟩
theorem Zfx{c:Q03}(h:Q2g c)(m:Q6 c):Q6 (Qcg c):=
 ⟨m.x0,fin32 (f:=fun s=>Q87 (Q87 s 8 1) 16 2) (by kernel_rfl) h.a0.1 m.st,m.en,m.rt,m.ve⟩
theorem Qrz{c:Q03}(m:Q6 c){r:Int}(hr:0≤r∧r<16)(v:Int):(Qa5 c r v).w Q6:=by
 unfold Qa5
 refine w_br (fun hn=>w_cn (rc hr) ?_) (fun _=>m)
 have hn:r≠0:=by simpa using hn
 obtain⟨n,e⟩: ∃n:Nat,r.toNat=n+1:=⟨r.toNat-1,by omega⟩
 refine⟨?_,m.st,m.en,m.rt,m.ve⟩
 show(A16.of 0 (List.set (A16.l c.X) r.toNat v)).a0=0
 rw[e]
 exact m.x0
theorem write_may{c:Q03}(m:Q6 c)(k v:Int):(Q8i c k v).w Q6:=by
 unfold Q8i
 refine w_br (fun hk=>w_cn (by rw[eq_of_beq hk];decide) ?_) fun _=>w_br (fun hk=>w_cn (by rw[eq_of_beq hk];decide) ?_) fun _=>w_br (fun hk=>w_cn (by rw[eq_of_beq hk];decide) ?_) fun _=>w_br (fun hk=>w_cn (by rw[eq_of_beq hk];decide) ?_) fun _=>w_br (fun hk=>w_cn (by rw[eq_of_beq hk];decide) ?_) fun _=>w_br (fun hk=>w_cn (by rw[eq_of_beq hk];decide) ?_) fun _=>w_br (fun hk=>w_cn (by rw[eq_of_beq hk];decide) ?_) fun _=>w_br (fun hk=>w_cn (by rw[eq_of_beq hk];decide) ?_) (fun _=>m)
 all_goals(have hk:=eq_of_beq hk;subst hk)
 · exact⟨m.x0,and31 _,m.en,m.rt,m.ve⟩
 · exact⟨m.x0,m.st,and31 _,m.rt,m.ve⟩
 · exact⟨m.x0,m.st,m.en,and255' _,m.ve⟩
 · exact⟨m.x0,m.st,m.en,m.rt,andn3 _⟩
 · exact⟨m.x0,m.st,m.en,m.rt,m.ve⟩
 · exact⟨m.x0,m.st,m.en,m.rt,m.ve⟩
 · exact⟨m.x0,m.st,m.en,m.rt,m.ve⟩
 · exact⟨m.x0,m.st,m.en,m.rt,m.ve⟩
section
variable {c:Q03} (h:Q2g c) (m:Q6 c) {i:Q0g} (hi:Qdm i)
include h m hi
theorem Zai:(Q3f c i).w (fun r=>Q6 r.1):=by
 unfold Q3f
 refine w_cn (rc hi.a) (w_cn (rc hi.b) ?_)
 repeat'(first
   |refine w_br (fun _=> ?_) (fun _=> ?_)
   |exact Q0a (Qrz m hi.a _) fun x hx=>hx.pc _
   |exact w_lv fun x _=>w_br (fun _=>m.pc _) (fun _=>m.pc _)
   |exact w_lv fun x hx=>by rw[hx];exact Qjv h m _ _
   |exact w_lv fun x hx=>by rw[hx];exact Zfx h m
   |exact w_cn (by have:=hi.csr (by simp_all);simp [Nat.blt];omega) (Q0a (Qrz m hi.a _) fun x hx=>hx.pc _)
   |exact Q0a (write_may m _ _) fun x hx=>hx.pc _
   |refine w_cn (rc hi.c) ?_
   |exact Q0a (Z26 _ (h.r _) (Q0o _)) fun y hy=>Q0a (Qrz m hi.a _) fun x hx=>hx.pc _
   |exact Q0a (Z26 _ (h.r _) (h.r _)) fun y hy=>Q0a (Qrz m hi.a _) fun x hx=>hx.pc _
   |refine w_lf ?_)
 all_goals exact m.pc _
theorem load_may{P:Nat}{mem:List Int}(hm:Q0u P mem):(Qas c mem i).w (fun r=>Q6 r.1):=by
 have w:=Z3c i.Op
 unfold Qas
 refine w_cn (rc hi.b) (w_lv fun x0 h0=> ?_)
 rw[←h0]at w
 refine Q0a (Qj2 hm (Q0o _) w 2) fun x1 h1=>w_br (fun _=>w_lv fun y hy=>by rw[hy];exact Qjv h m _ _) (fun _=>w_lv fun x3 h3=> ?_)
 rw[h0,←h3]at w
 exact Q0a (Qof h1.2 h1.1 w) fun x4 h4=>w_br (fun _=>Q0a (Qs7 h4.1 8) fun y hy=>Q0a (Qrz m hi.a _) fun x hx=>hx.pc _) (fun _=>Q0a (Qrz m hi.a _) fun x hx=>hx.pc _)
theorem store_may{P:Nat}{mem:List Int}(hm:Q0u P mem):(Q88 c mem i).w (fun r=>Q6 r.1):=by
 have w:=Z3c i.Op
 unfold Q88
 refine w_cn (rc hi.b) (w_lv fun x0 h0=> ?_)
 rw[←h0]at w
 refine Q0a (Qj2 hm (Q0o _) w 3) fun x1 h1=>w_br (fun _=>w_lv fun y hy=>by rw[hy];exact Qjv h m _ _) (fun _=>w_lv fun x3 h3=>w_cn (rc hi.a) ?_)
 rw[h0,←h3]at w
 exact Q0a (Qvd h1.2 h1.1 w (h.r _)) fun x hx=>m.pc _
end
theorem Zdt{c:Q03}(h:Q2g c)(m:Q6 c){P:Nat}{mem:List Int}(hm:Q0u P mem):(Q8 c mem).w (fun r=>Q6 r.1):=by
 unfold Q8
 refine Q0a (Z47 hm h) fun x0 h0=>w_br (fun _=>w_lv fun y hy=>by rw[hy];exact Qjv h m _ _) (fun _=>Q0a (Qw9 _) fun x2 h2=>w_br (fun _=>w_lv fun y hy=>by rw[hy];exact Qjv h m _ _) (fun hb=> ?_))
 have hi:=h2 (by simpa using hb)
 refine w_lv fun x4 _=> ?_
 repeat'(first
   |refine w_br (fun _=> ?_) (fun _=> ?_)
   |exact Q0a (load_may h m hi h0.2) fun x hx=>hx
   |exact Q0a (store_may h m hi h0.2) fun x hx=>hx
   |exact Q0a (Zai h m hi) fun x hx=>hx
   |exact w_lv fun y hy=>by rw[hy];exact Qjv h m _ _
   |refine w_lv fun _ _=> ?_)
end Go.Proofs.YtdkiadhigcfmkaaGreat
namespace Go.Proofs.YtdkiadhigcfmkaaGreat
open Go Go.GD
set_option linter.unusedVariables false
set_option linter.unusedSimpArgs false
set_option maxRecDepth 100000
theorem Zb5{c:Q03}(h:Q2g c){i:Q0g}(hi:Qdm i):(Q3f c i).w (fun r=>0≤r.2.Reg∧r.2.Reg<16):=by
 have z:(0:Int)≤0∧(0:Int)<16:=⟨by decide,by decide⟩
 unfold Q3f
 refine w_cn (rc hi.a) (w_cn (rc hi.b) ?_)
 repeat'(first
   |refine w_br (fun _=> ?_) (fun _=> ?_)
   |exact Q0a (Qni h hi.a (Q0o _)) fun x hx=>z
   |exact w_lv fun x _=>w_br (fun _=>z) (fun _=>z)
   |exact w_lv fun x hx=>z
   |exact w_cn (by have:=hi.csr (by simp_all);simp [Nat.blt];omega) (Q0a (Qni h hi.a (h.a _)) fun x hx=>z)
   |exact Q0a (Zdx h _ (h.r _)) fun x hx=>z
   |refine w_cn (rc hi.c) ?_
   |exact Q0a (Z26 _ (h.r _) (Q0o _)) fun y hy=>Q0a (Qni h hi.a hy) fun x hx=>z
   |exact Q0a (Z26 _ (h.r _) (h.r _)) fun y hy=>Q0a (Qni h hi.a hy) fun x hx=>z
   |refine w_lf ?_)
 all_goals first|exact z|exact hi.a
theorem Z49{c:Q03}(h:Q2g c){P:Nat}{mem:List Int}(hm:Q0u P mem):(Q8 c mem).w (fun r=>0≤r.2.2.Reg∧r.2.2.Reg<16):=by
 have z:(0:Int)≤0∧(0:Int)<16:=⟨by decide,by decide⟩
 unfold Q8
 refine Q0a (Z47 hm h) fun x0 h0=>w_br (fun _=>w_lv fun y hy=>z) (fun _=>Q0a (Qw9 _) fun x2 h2=>w_br (fun _=>w_lv fun y hy=>z) (fun hb=> ?_))
 have hi:=h2 (by simpa using hb)
 refine w_lv fun x4 _=> ?_
 repeat'(first
   |refine w_br (fun _=> ?_) (fun _=> ?_)
   |exact Q0a (Qyf h hi h0.2) fun x hx=>z
   |exact Q0a (Qtc h hi h0.2) fun x hx=>z
   |exact Q0a (Zb5 h hi) fun x hx=>hx
   |exact w_lv fun y hy=>z
   |refine w_lv fun _ _=> ?_)
theorem cnd2{a x:Bool}:(bif a then false else x)=true↔a=false∧x=true:=by cases a<;>simp
theorem Qi5(m:Q00):Q0z m=true↔Q0q m.Mem≠0∧Q6 m.Cpu∧m.Count≤1152921504606846976∧ ¬(m.Waiting=true∧m.Halted=true)∧Q0r m=true:=by
  rw[may_eq]
  unfold mayC chain
  rw[cnd2,cnd2,cnd2,cnd2,cnd2,cnd2,cnd2]
  simp only[decide_eq_false_iff_not,Int.not_lt,beq_eq_false_iff_ne,bne_eq_false_iff_eq,gt_iff_lt]
  constructor
  · rintro⟨a1,a2,a3,a4,a5,a6,a7,a8⟩
    refine⟨a1,⟨a2,a3,a4,a5,a6⟩,a7,?_,?_⟩
    · rintro⟨w,h⟩;rw[w,h]at a8;cases a8
    · revert a8;cases m.Waiting
      · exact fun h=>h
      · cases m.Halted
        · exact fun h=>h
        · intro h;cases h
  · rintro⟨a1,⟨a2,a3,a4,a5,a6⟩,a7,a8,a9⟩
    refine⟨a1,a2,a3,a4,a5,a6,a7,?_⟩
    rw[a9]
    cases hw:m.Waiting
    · rfl
    · cases hh:m.Halted
      · rfl
      · exact absurd ⟨hw,hh⟩ a8
theorem Z3{m:Q00}(h:Q2j m=true):Q0z m=true∧m.Halted=false∧m.Count<1152921504606846976:=by
  simp only[Q2j,Q4e,Tree.m,letv]at h
  cases h1:Q0z m
  · rw[h1]at h;cases h
  · cases h2:m.Halted
    · rw[h1,h2]at h
      cases h3:Q2i m
      · rw[h3]at h
        have h:decide (m.Count<1152921504606846976)=true:=h
        exact⟨rfl,rfl,of_decide_eq_true h⟩
      · rw[h3]at h;cases h
    · rw[h1,h2]at h;cases h
theorem Qx7{P:Nat}{m:Q00}(h:okS P m)(g:Q6 m.Cpu):(Q4s m).w (fun r=>Q6 r.Cpu∧okS P r∧r.Mem=m.Mem∧r.Waiting=false∧r.Halted=m.Halted∧r.Count=m.Count∧r.Console=m.Console∧r.Timer=m.Timer∧r.Disk=m.Disk∧r.Nic=m.Nic∧r.Balloon=m.Balloon):=by
 obtain⟨h1,h2,h3,h4,h5,h6⟩:=h
 unfold Q4s
 refine w_br (fun _=>⟨g,⟨h1,h2,h3,h4,h5,h6⟩,rfl,rfl,rfl,rfl,rfl,rfl,rfl,rfl,rfl⟩) (fun _=>Q0a (Z12 (m:=⟨_,_,_,_,_,_,m.Balloon,_,_,_⟩) h6) fun x0 _=>w_lp (inv:=fun z=>0≤z∧z≤5) (μ:=Qfn m) ⟨by omega,by omega⟩ (Nat.lt_succ_self _) (fun z hz=> ?_))
 obtain⟨z1,z2⟩:=hz
 refine w_br (fun hb=>w_cn (decide_eq_true z1) (w_br (fun _=>w_lv fun x1 hx=>⟨by rw[hx];exact Qjv h1 g _ _,⟨by rw[hx];exact Qnv h1 _ U_0,h2,h3,h4,h5,h6⟩,rfl,rfl,rfl,rfl,rfl,rfl,rfl,rfl,rfl⟩) (fun _=>w_nx ?_))) (fun _=>⟨g,⟨h1,h2,h3,h4,h5,h6⟩,rfl,rfl,rfl,rfl,rfl,rfl,rfl,rfl,rfl⟩)
 have hb:=of_decide_eq_true hb
 show(0≤IntKind.i64.wrap (z+1)∧IntKind.i64.wrap (z+1)≤5)∧(5-IntKind.i64.wrap (z+1)).toNat<(5-z).toNat
 have ew:IntKind.i64.wrap (z+1)=z+1:=by rw[IntKind.wrap_i64];omega
 rw[ew];omega
end Go.Proofs.YtdkiadhigcfmkaaGreat
namespace Go.Proofs.YtdkiadhigcfmkaaGreat
open Go Go.GD
set_option linter.unusedVariables false
set_option linter.unusedSimpArgs false
set_option maxRecDepth 100000
structure Good(P:Nat)(m r:Q00):Prop where
 ok:okS P r
 cnt:0≤r.Count
 may:Q0z m=true→Q0z r=true
 or:r=m∨r.Count=m.Count+1
theorem Z6{P:Nat}{m:Q00}(h:okS P m)(hc0:0≤m.Count){clock:Int}(hk:U clock):(Q42 m clock).w (fun r=>r.2.2=m.Mem∧r.2.1.length≤1∧Good P m r.1):=by
 have hcl:Q02 m.Mem=m.Mem:=rfl
 unfold Q42
 refine w_an (Q81 h.mem) (w_lv fun l hl=> ?_)
 rw[hcl]at hl;subst hl
 refine w_an (Tree.pp (runsP_w (m:=⟨_,_,_,_,_,_,m.Balloon,_,_,_⟩) h.given)).1 (w_lv fun x1 hx1=>w_br (fun _=>⟨rfl,Nat.zero_le _,h,hc0,fun h=>h, .inl rfl⟩) (fun hb=> ?_))
 have hr:Q2j m=true:=by rw[←show x1=Q2j m from hx1];simpa using hb
 obtain⟨hm,hh,hct⟩:=Z3 hr
 obtain⟨g1,g2,g3,g4,g5⟩:=(Qi5 m).1 hm
 have hP:(P:Int)≠0:=by rw[←Q21 h.mem];exact g1
 have fin: ∀(n:Q00),okS P n→Q6 n.Cpu→Q0r n=true→n.Count=m.Count→ ¬(n.Waiting=true∧n.Halted=true)→Good P m {Cpu:=n.Cpu,Mem:=n.Mem,Console:=n.Console,Timer:=n.Timer,Disk:=n.Disk,Nic:=n.Nic,Balloon:=n.Balloon,Count:=IntKind.wrap .u64 (n.Count+1),Waiting:=n.Waiting,Halted:=n.Halted}:=fun n a b c d e=>by
   have ec:IntKind.wrap .u64 (n.Count+1)=m.Count+1:=by rw[d,IntKind.wrap_u64];omega
   refine⟨⟨a.cpu,a.mem,a.disk,a.nic,a.target,a.given⟩,?_,fun _=>(Qi5 _).2 ⟨?_,b,?_,e,c⟩, .inr ec⟩
   · show 0≤IntKind.wrap .u64 (n.Count+1);omega
   · show Q0q n.Mem≠0;rw[Q21 a.mem];exact hP
   · show IntKind.wrap .u64 (n.Count+1)≤_;omega
 refine Q0a (Qx7 (m:=⟨_,_,m.Console,m.Timer,m.Disk,m.Nic,m.Balloon,m.Count,m.Waiting,m.Halted⟩) ⟨h.cpu,h.mem,h.disk,h.nic,h.target,h.given⟩ g2) fun x2 hx2=> ?_
 obtain⟨b1,b2,b3,b4,b5,b6,b7,b8,b9,b10,b11⟩:=hx2
 have ex:=Tree.pp (execP_w b2.cpu b2.mem)
 have em:=Tree.pp (Zdt b2.cpu b1 b2.mem)
 have er:=Tree.pp (Z49 b2.cpu b2.mem)
 refine w_an ex.1 (w_lv fun x3 h3=> ?_)
 obtain⟨e1,e2,e3⟩:Q2g x3.1∧Q0u P x3.2.1∧U x3.2.2.Value:=by rw[h3];exact ex.2
 have f1:Q6 x3.1:=by rw[h3];exact em.2
 have r1:0≤x3.2.2.Reg∧x3.2.2.Reg<16:=by rw[h3];exact er.2
 have ok3:okS P ⟨x3.1,x3.2.1,x2.Console,x2.Timer,x2.Disk,x2.Nic,x2.Balloon,x2.Count,x2.Waiting,x2.Halted⟩:=⟨e1,e2,b2.disk,b2.nic,b2.target,b2.given⟩
 have dev: ∀(w h:Bool),Q0r ⟨x3.1,x3.2.1,x2.Console,x2.Timer,x2.Disk,x2.Nic,x2.Balloon,x2.Count,w,h⟩=true:=fun w hh=>by
   have id: ∀{p:Prop},p→p:=fun h=>h
   refine Qjd (m:=m) (P:=P) h.mem e2 ?_ ?_ ?_ ?_ ?_ g5
   · show _→Q1z x2.Console=true;rw[b7];exact id
   · show _→Q36 x2.Timer=true;rw[b8];exact id
   · show _→Q18 x2.Disk P=true;rw[b9];exact id
   · show _→Q4m x2.Nic P=true;rw[b10];exact id
   · show _→Q27 x2.Balloon P=true;rw[b11];exact id
 have hw:x2.Waiting=false:=b4
 have hh2:x2.Halted=false:=b5.trans hh
 have hct2:x2.Count=m.Count:=b6
 refine w_br (fun _=> ?_) fun _=>w_br (fun _=> ?_) fun _=>w_br (fun _=> ?_) fun _=>w_br (fun _=> ?_) fun _=> ?_
 · refine Q0a (Z23 ok3 _ hk) fun x4 h4=> ?_
   obtain⟨k,u⟩:=h4
   have kc:x4.1.Cpu=x3.1:=k.cpu
   have kt:x4.1.Count=m.Count:=k.cnt.trans hct2
   have kw: ¬(x4.1.Waiting=true∧x4.1.Halted=true):=fun e=>by have:x4.1.Waiting=x2.Waiting:=k.wait;rw[this,hw]at e;cases e.1
   have km:Q6 x4.1.Cpu:=by rw[kc];exact f1
   refine w_br (fun hn=>w_cn (rc r1) ⟨rfl,Nat.zero_le _,?_⟩) (fun _=>⟨rfl,Nat.zero_le _,fin x4.1 k.ok km (k.dev (dev _ _)) kt kw⟩)
   have hn:x3.2.2.Reg≠0:=by simpa using hn
   obtain⟨q,e⟩: ∃q:Nat,x3.2.2.Reg.toNat=q+1:=⟨x3.2.2.Reg.toNat-1,by omega⟩
   refine fin ⟨⟨A16.of 0 (List.set (A16.l x4.1.Cpu.X) (Int.toNat x3.2.2.Reg) x4.2),x4.1.Cpu.Pc,x4.1.Cpu.Csr⟩,x4.1.Mem,x4.1.Console,x4.1.Timer,x4.1.Disk,x4.1.Nic,x4.1.Balloon,x4.1.Count,x4.1.Waiting,x4.1.Halted⟩ ⟨⟨Z51 k.ok.cpu.x u _,k.ok.cpu.pc,k.ok.cpu.csr⟩,k.ok.mem,k.ok.disk,k.ok.nic,k.ok.target,k.ok.given⟩ ⟨?_,km.st,km.en,km.rt,km.ve⟩ (k.dev (dev _ _)) kt kw
   show(A16.of 0 (List.set (A16.l x4.1.Cpu.X) (Int.toNat x3.2.2.Reg) x4.2)).a0=0
   rw[e]
   exact km.x0
 · refine Q0a (Qvu ok3 _ e3 _) fun x5 h5=> ?_
   obtain⟨k,u⟩:=h5
   have kc:x5.1.Cpu=x3.1:=k.cpu
   exact⟨rfl,u,fin x5.1 k.ok (by rw[kc];exact f1) (k.dev (dev _ _)) (k.cnt.trans hct2) (fun e=>by have:x5.1.Waiting=x2.Waiting:=k.wait;rw[this,hw]at e;cases e.1)⟩
 · exact⟨rfl,Nat.zero_le _,fin ⟨x3.1,x3.2.1,x2.Console,x2.Timer,x2.Disk,x2.Nic,x2.Balloon,x2.Count,true,x2.Halted⟩ ⟨e1,e2,b2.disk,b2.nic,b2.target,b2.given⟩ f1 (dev _ _) hct2 (fun e=>by have e2:x2.Halted=true:=e.2;rw[hh2]at e2;cases e2)⟩
 · exact⟨rfl,Nat.zero_le _,fin ⟨x3.1,x3.2.1,x2.Console,x2.Timer,x2.Disk,x2.Nic,x2.Balloon,x2.Count,x2.Waiting,true⟩ ⟨e1,e2,b2.disk,b2.nic,b2.target,b2.given⟩ f1 (dev _ _) hct2 (fun e=>by have e2:x2.Waiting=true:=e.1;rw[hw]at e2;cases e2)⟩
 · exact⟨rfl,Nat.zero_le _,fin ⟨x3.1,x3.2.1,x2.Console,x2.Timer,x2.Disk,x2.Nic,x2.Balloon,x2.Count,x2.Waiting,x2.Halted⟩ ok3 f1 (dev _ _) hct2 (fun e=>by have e2:x2.Waiting=true:=e.1;rw[hw]at e2;cases e2)⟩
end Go.Proofs.YtdkiadhigcfmkaaGreat
namespace Go.Proofs.YtdkiadhigcfmkaaGreat
open Go Go.GD
set_option linter.unusedVariables false
set_option linter.unusedSimpArgs false
set_option maxRecDepth 100000
end Go.Proofs.YtdkiadhigcfmkaaGreat
namespace Go.Proofs.YtdkiadhigcfmkaaGreat
open Go Go.GD
set_option linter.unusedVariables false
set_option linter.unusedSimpArgs false
set_option maxRecDepth 100000
theorem step_w0{P:Nat}{m:Q00}(h:okS P m)(hc0:0≤m.Count){clock:Int}(hk:U clock):(Qd2 m clock).w (fun r=>r.2.length≤1∧Good P m r.1):=by
 have hcl:Q02 m.Mem=m.Mem:=rfl
 unfold Qd2
 refine w_an (Q81 h.mem) (w_lv fun l hl=> ?_)
 rw[hcl]at hl;subst hl
 refine w_an (Tree.pp (runsP_w (m:=⟨_,_,_,_,_,_,m.Balloon,_,_,_⟩) h.given)).1 (w_lv fun x1 hx1=>w_br (fun _=>⟨Nat.zero_le _,h,hc0,fun h=>h, .inl rfl⟩) (fun hb=> ?_))
 have hr:Q2j m=true:=by rw[←show x1=Q2j m from hx1];simpa using hb
 obtain⟨hm,hh,hct⟩:=Z3 hr
 obtain⟨g1,g2,g3,g4,g5⟩:=(Qi5 m).1 hm
 have hP:(P:Int)≠0:=by rw[←Q21 h.mem];exact g1
 have fin: ∀(n:Q00),okS P n→Q6 n.Cpu→Q0r n=true→n.Count=m.Count→ ¬(n.Waiting=true∧n.Halted=true)→Good P m {Cpu:=n.Cpu,Mem:=n.Mem,Console:=n.Console,Timer:=n.Timer,Disk:=n.Disk,Nic:=n.Nic,Balloon:=n.Balloon,Count:=IntKind.wrap .u64 (n.Count+1),Waiting:=n.Waiting,Halted:=n.Halted}:=fun n a b c d e=>by
   have ec:IntKind.wrap .u64 (n.Count+1)=m.Count+1:=by rw[d,IntKind.wrap_u64];omega
   refine⟨⟨a.cpu,a.mem,a.disk,a.nic,a.target,a.given⟩,?_,fun _=>(Qi5 _).2 ⟨?_,b,?_,e,c⟩, .inr ec⟩
   · show 0≤IntKind.wrap .u64 (n.Count+1);omega
   · show Q0q n.Mem≠0;rw[Q21 a.mem];exact hP
   · show IntKind.wrap .u64 (n.Count+1)≤_;omega
 refine Q0a (Qx7 (m:=⟨_,_,m.Console,m.Timer,m.Disk,m.Nic,m.Balloon,m.Count,m.Waiting,m.Halted⟩) ⟨h.cpu,h.mem,h.disk,h.nic,h.target,h.given⟩ g2) fun x2 hx2=> ?_
 obtain⟨b1,b2,b3,b4,b5,b6,b7,b8,b9,b10,b11⟩:=hx2
 have ex:=Tree.pp (execP_w b2.cpu b2.mem)
 have em:=Tree.pp (Zdt b2.cpu b1 b2.mem)
 have er:=Tree.pp (Z49 b2.cpu b2.mem)
 refine w_an ex.1 (w_lv fun x3 h3=> ?_)
 obtain⟨e1,e2,e3⟩:Q2g x3.1∧Q0u P x3.2.1∧U x3.2.2.Value:=by rw[h3];exact ex.2
 have f1:Q6 x3.1:=by rw[h3];exact em.2
 have r1:0≤x3.2.2.Reg∧x3.2.2.Reg<16:=by rw[h3];exact er.2
 have ok3:okS P ⟨x3.1,x3.2.1,x2.Console,x2.Timer,x2.Disk,x2.Nic,x2.Balloon,x2.Count,x2.Waiting,x2.Halted⟩:=⟨e1,e2,b2.disk,b2.nic,b2.target,b2.given⟩
 have dev: ∀(w h:Bool),Q0r ⟨x3.1,x3.2.1,x2.Console,x2.Timer,x2.Disk,x2.Nic,x2.Balloon,x2.Count,w,h⟩=true:=fun w hh=>by
   have id: ∀{p:Prop},p→p:=fun h=>h
   refine Qjd (m:=m) (P:=P) h.mem e2 ?_ ?_ ?_ ?_ ?_ g5
   · show _→Q1z x2.Console=true;rw[b7];exact id
   · show _→Q36 x2.Timer=true;rw[b8];exact id
   · show _→Q18 x2.Disk P=true;rw[b9];exact id
   · show _→Q4m x2.Nic P=true;rw[b10];exact id
   · show _→Q27 x2.Balloon P=true;rw[b11];exact id
 have hw:x2.Waiting=false:=b4
 have hh2:x2.Halted=false:=b5.trans hh
 have hct2:x2.Count=m.Count:=b6
 refine w_br (fun _=> ?_) fun _=>w_br (fun _=> ?_) fun _=>w_br (fun _=> ?_) fun _=>w_br (fun _=> ?_) fun _=> ?_
 · refine Q0a (Z23 ok3 _ hk) fun x4 h4=> ?_
   obtain⟨k,u⟩:=h4
   have kc:x4.1.Cpu=x3.1:=k.cpu
   have kt:x4.1.Count=m.Count:=k.cnt.trans hct2
   have kw: ¬(x4.1.Waiting=true∧x4.1.Halted=true):=fun e=>by have:x4.1.Waiting=x2.Waiting:=k.wait;rw[this,hw]at e;cases e.1
   have km:Q6 x4.1.Cpu:=by rw[kc];exact f1
   refine w_br (fun hn=>w_cn (rc r1) ⟨Nat.zero_le _,?_⟩) (fun _=>⟨Nat.zero_le _,fin x4.1 k.ok km (k.dev (dev _ _)) kt kw⟩)
   have hn:x3.2.2.Reg≠0:=by simpa using hn
   obtain⟨q,e⟩: ∃q:Nat,x3.2.2.Reg.toNat=q+1:=⟨x3.2.2.Reg.toNat-1,by omega⟩
   refine fin ⟨⟨A16.of 0 (List.set (A16.l x4.1.Cpu.X) (Int.toNat x3.2.2.Reg) x4.2),x4.1.Cpu.Pc,x4.1.Cpu.Csr⟩,x4.1.Mem,x4.1.Console,x4.1.Timer,x4.1.Disk,x4.1.Nic,x4.1.Balloon,x4.1.Count,x4.1.Waiting,x4.1.Halted⟩ ⟨⟨Z51 k.ok.cpu.x u _,k.ok.cpu.pc,k.ok.cpu.csr⟩,k.ok.mem,k.ok.disk,k.ok.nic,k.ok.target,k.ok.given⟩ ⟨?_,km.st,km.en,km.rt,km.ve⟩ (k.dev (dev _ _)) kt kw
   show(A16.of 0 (List.set (A16.l x4.1.Cpu.X) (Int.toNat x3.2.2.Reg) x4.2)).a0=0
   rw[e]
   exact km.x0
 · refine Q0a (Qvu ok3 _ e3 _) fun x5 h5=> ?_
   obtain⟨k,u⟩:=h5
   have kc:x5.1.Cpu=x3.1:=k.cpu
   exact⟨u,fin x5.1 k.ok (by rw[kc];exact f1) (k.dev (dev _ _)) (k.cnt.trans hct2) (fun e=>by have:x5.1.Waiting=x2.Waiting:=k.wait;rw[this,hw]at e;cases e.1)⟩
 · exact⟨Nat.zero_le _,fin ⟨x3.1,x3.2.1,x2.Console,x2.Timer,x2.Disk,x2.Nic,x2.Balloon,x2.Count,true,x2.Halted⟩ ⟨e1,e2,b2.disk,b2.nic,b2.target,b2.given⟩ f1 (dev _ _) hct2 (fun e=>by have e2:x2.Halted=true:=e.2;rw[hh2]at e2;cases e2)⟩
 · exact⟨Nat.zero_le _,fin ⟨x3.1,x3.2.1,x2.Console,x2.Timer,x2.Disk,x2.Nic,x2.Balloon,x2.Count,x2.Waiting,true⟩ ⟨e1,e2,b2.disk,b2.nic,b2.target,b2.given⟩ f1 (dev _ _) hct2 (fun e=>by have e2:x2.Waiting=true:=e.1;rw[hw]at e2;cases e2)⟩
 · exact⟨Nat.zero_le _,fin ⟨x3.1,x3.2.1,x2.Console,x2.Timer,x2.Disk,x2.Nic,x2.Balloon,x2.Count,x2.Waiting,x2.Halted⟩ ok3 f1 (dev _ _) hct2 (fun e=>by have e2:x2.Waiting=true:=e.1;rw[hw]at e2;cases e2)⟩
theorem apply_w0{P:Nat}{m:Q00}(h:okM P m){e:Q0e}(he:U e.N):(Qbr m e).w (fun r=>(Q0z m=true→Q0z r.1=true)∧r.1.Count=m.Count∧U r.1.Balloon.Given):=by
 obtain⟨h1,h2,h3,h4,h5,h7⟩:=h
 have hcl:Q02 m.Mem=m.Mem:=rfl
 have pg: ∀{m':List Int},Q0u P m'→Q0q m'=Q0q m.Mem:=fun h=>by rw[Q21 h,Q21 h2]
 have keep:(Q0z m=true→Q0z m=true)∧m.Count=m.Count∧U m.Balloon.Given:=⟨fun h=>h,rfl,h5.2⟩
 unfold Qbr
 refine w_an (Q81 h2) (w_lv fun l hl=> ?_)
 rw[hcl]at hl;subst hl
 refine Q0a (mayP_w (m:=⟨_,_,_,_,_,_,m.Balloon,_,_,_⟩) h5.2) fun x1 _=>w_br (fun _=>keep) fun _=>w_br (fun _=>keep) fun _=> ?_
 refine w_br (fun _=>w_br (fun _=>w_br (fun _=>w_lv fun x hx=> ?_) (fun _=>keep)) (fun _=>keep)) fun _=>w_br (fun _=>w_br (fun _=>w_br (fun _=>Q0a (ctype_w _ _) fun x hx=> ?_) (fun _=>keep)) (fun _=>keep)) fun _=>w_br (fun hk=>Q0a (Zet h2 h3 e) fun x hx=> ?_) fun _=>w_br (fun hk=>w_br (fun _=>Q0a (receive_w h2 h4 _) fun x hx=> ?_) (fun _=>keep)) fun _=>w_br (fun _=>w_br (fun _=> ?_) (fun _=>keep)) (fun _=>keep)
 · exact⟨Qpx rfl rfl rfl rfl rfl (fun h=>h) (fun h=>by rw[hx];exact fire_may _ h) (fun _ h=>h) (fun _ h=>h) rfl,rfl,h5.2⟩
 · exact⟨Qpx rfl rfl rfl rfl rfl hx (fun h=>h) (fun _ h=>h) (fun _ h=>h) rfl,rfl,h5.2⟩
 · obtain⟨a1,a2,a3,a4,a5⟩:=hx
   exact⟨Qpx (pg a2) rfl rfl rfl rfl (fun h=>h) (fun h=>h) a5 (fun _ h=>h) rfl,rfl,h5.2⟩
 · obtain⟨a1,a2,a3,a4,a5⟩:=hx
   exact⟨Qpx (pg a2) rfl rfl rfl rfl (fun h=>h) (fun h=>h) (fun _ h=>h) a5 rfl,rfl,h5.2⟩
 · exact⟨Qpx rfl rfl rfl rfl rfl (fun h=>h) (fun h=>h) (fun _ h=>h) (fun _ h=>h) rfl,rfl,h5.2⟩
end Go.Proofs.YtdkiadhigcfmkaaGreat
namespace Go.Proofs.YtdkiadhigcfmkaaGreat
open Go Go.GD
set_option maxRecDepth 100000
noncomputable section
def boot:List Int:=(Q2p (List.append (List.append (List.append (List.append Z4p Z1u) (List.append Z1k Z2v)) (List.append (List.append Z1p Z2k) (List.append Z1r Z2p))) (List.append (List.append (List.append Z25 Z2x) (List.append Qr3 Qrn)) (List.append (List.append Qs Qrv) (List.append Qsb Qri))))).1
def Q9s:List Int:=boot++List.replicate (160-boot.length) 0
theorem run87(t0 t1 t2 t3 t4 t5 t6 t7 t8 t9 t10 t11 t12 t13 t14 t15 t16 t17 t18 t19 t20 t21 t22 t23 t24 t25 t26 t27 t28 t29 t30 t31 t32 t33 t34 t35 t36 t37 t38 t39 t40 t41 t42 t43 t44 t45 t46 t47 t48 t49 t50 t51 t52 t53 t54 t55 t56 t57 t58 t59 t60 t61 t62 t63 t64 t65 t66 t67 t68 t69 t70 t71 t72 t73 t74 t75 t76 t77 t78 t79 t80 t81 t82 t83 t84 t85 t86 t87 t88 t89 t90 t91 t92 t93 t94 t95:Int):(Qcm (Q2v 8 4 (Q9s++[t0,t1,t2,t3,t4,t5,t6,t7,t8,t9,t10,t11,t12,t13,t14,t15,t16,t17,t18,t19,t20,t21,t22,t23,t24,t25,t26,t27,t28,t29,t30,t31,t32,t33,t34,t35,t36,t37,t38,t39,t40,t41,t42,t43,t44,t45,t46,t47,t48,t49,t50,t51,t52,t53,t54,t55,t56,t57,t58,t59,t60,t61,t62,t63,t64,t65,t66,t67,t68,t69,t70,t71,t72,t73,t74,t75,t76,t77,t78,t79,t80,t81,t82,t83,t84,t85,t86,t87,t88,t89,t90,t91,t92,t93,t94,t95])).1 [] 87).2.2.2=0:=by kernel_rfl
end
end Go.Proofs.YtdkiadhigcfmkaaGreat
namespace Go.Proofs.YtdkiadhigcfmkaaGreat
open Go Go.GD
attribute [local irreducible] Q2p
set_option linter.unusedVariables false
set_option linter.unusedSimpArgs false
set_option maxRecDepth 100000
theorem new_mem(i j:List Int)(hi:i.length≤256)(hj:j.length≤256)(e:i++List.replicate (256-i.length) 0=j++List.replicate (256-j.length) 0):Q2v 8 4 i=Q2v 8 4 j:=by
 have w:IntKind.i64.wrap (8*32)=256:=by decide
 have m:Qmx 8=List.replicate 256 0:=by kernel_rfl
 have d: ∀k:List Int,k.length≤256→decide ((k.length:Int)>256)=false:=fun k h=>decide_eq_false (by omega)
 have mem: ∀k:List Int,k.length≤256→List.take (min k.length (List.replicate 256 (0:Int)).length) k++List.drop (min k.length (List.replicate 256 (0:Int)).length) (List.replicate 256 0)=k++List.replicate (256-k.length) 0:=fun k h=>by
   rw[List.length_replicate,Nat.min_eq_left h,List.take_length,List.drop_replicate]
 have r:Z46 8=List.replicate 256 0:=by kernel_rfl
 simp only[Q2v,Q7q,Tree.m,w,letv,r,d i hi,d j hj]
 simp only[mem i hi,mem j hj,e]
theorem list96(t:List Int)(ht:t.length=96):t=[t.getD 0 0,t.getD 1 0,t.getD 2 0,t.getD 3 0,t.getD 4 0,t.getD 5 0,t.getD 6 0,t.getD 7 0,t.getD 8 0,t.getD 9 0,t.getD 10 0,t.getD 11 0,t.getD 12 0,t.getD 13 0,t.getD 14 0,t.getD 15 0,t.getD 16 0,t.getD 17 0,t.getD 18 0,t.getD 19 0,t.getD 20 0,t.getD 21 0,t.getD 22 0,t.getD 23 0,t.getD 24 0,t.getD 25 0,t.getD 26 0,t.getD 27 0,t.getD 28 0,t.getD 29 0,t.getD 30 0,t.getD 31 0,t.getD 32 0,t.getD 33 0,t.getD 34 0,t.getD 35 0,t.getD 36 0,t.getD 37 0,t.getD 38 0,t.getD 39 0,t.getD 40 0,t.getD 41 0,t.getD 42 0,t.getD 43 0,t.getD 44 0,t.getD 45 0,t.getD 46 0,t.getD 47 0,t.getD 48 0,t.getD 49 0,t.getD 50 0,t.getD 51 0,t.getD 52 0,t.getD 53 0,t.getD 54 0,t.getD 55 0,t.getD 56 0,t.getD 57 0,t.getD 58 0,t.getD 59 0,t.getD 60 0,t.getD 61 0,t.getD 62 0,t.getD 63 0,t.getD 64 0,t.getD 65 0,t.getD 66 0,t.getD 67 0,t.getD 68 0,t.getD 69 0,t.getD 70 0,t.getD 71 0,t.getD 72 0,t.getD 73 0,t.getD 74 0,t.getD 75 0,t.getD 76 0,t.getD 77 0,t.getD 78 0,t.getD 79 0,t.getD 80 0,t.getD 81 0,t.getD 82 0,t.getD 83 0,t.getD 84 0,t.getD 85 0,t.getD 86 0,t.getD 87 0,t.getD 88 0,t.getD 89 0,t.getD 90 0,t.getD 91 0,t.getD 92 0,t.getD 93 0,t.getD 94 0,t.getD 95 0]:=by
 apply List.ext_getElem
 · rw[ht];rfl
 · intro i h1 h2
   have e: ∀j (hj:j<96),[t.getD 0 0,t.getD 1 0,t.getD 2 0,t.getD 3 0,t.getD 4 0,t.getD 5 0,t.getD 6 0,t.getD 7 0,t.getD 8 0,t.getD 9 0,t.getD 10 0,t.getD 11 0,t.getD 12 0,t.getD 13 0,t.getD 14 0,t.getD 15 0,t.getD 16 0,t.getD 17 0,t.getD 18 0,t.getD 19 0,t.getD 20 0,t.getD 21 0,t.getD 22 0,t.getD 23 0,t.getD 24 0,t.getD 25 0,t.getD 26 0,t.getD 27 0,t.getD 28 0,t.getD 29 0,t.getD 30 0,t.getD 31 0,t.getD 32 0,t.getD 33 0,t.getD 34 0,t.getD 35 0,t.getD 36 0,t.getD 37 0,t.getD 38 0,t.getD 39 0,t.getD 40 0,t.getD 41 0,t.getD 42 0,t.getD 43 0,t.getD 44 0,t.getD 45 0,t.getD 46 0,t.getD 47 0,t.getD 48 0,t.getD 49 0,t.getD 50 0,t.getD 51 0,t.getD 52 0,t.getD 53 0,t.getD 54 0,t.getD 55 0,t.getD 56 0,t.getD 57 0,t.getD 58 0,t.getD 59 0,t.getD 60 0,t.getD 61 0,t.getD 62 0,t.getD 63 0,t.getD 64 0,t.getD 65 0,t.getD 66 0,t.getD 67 0,t.getD 68 0,t.getD 69 0,t.getD 70 0,t.getD 71 0,t.getD 72 0,t.getD 73 0,t.getD 74 0,t.getD 75 0,t.getD 76 0,t.getD 77 0,t.getD 78 0,t.getD 79 0,t.getD 80 0,t.getD 81 0,t.getD 82 0,t.getD 83 0,t.getD 84 0,t.getD 85 0,t.getD 86 0,t.getD 87 0,t.getD 88 0,t.getD 89 0,t.getD 90 0,t.getD 91 0,t.getD 92 0,t.getD 93 0,t.getD 94 0,t.getD 95 0][j]'hj=t.getD j 0:=by
     intro j hj
     have:[t.getD 0 0,t.getD 1 0,t.getD 2 0,t.getD 3 0,t.getD 4 0,t.getD 5 0,t.getD 6 0,t.getD 7 0,t.getD 8 0,t.getD 9 0,t.getD 10 0,t.getD 11 0,t.getD 12 0,t.getD 13 0,t.getD 14 0,t.getD 15 0,t.getD 16 0,t.getD 17 0,t.getD 18 0,t.getD 19 0,t.getD 20 0,t.getD 21 0,t.getD 22 0,t.getD 23 0,t.getD 24 0,t.getD 25 0,t.getD 26 0,t.getD 27 0,t.getD 28 0,t.getD 29 0,t.getD 30 0,t.getD 31 0,t.getD 32 0,t.getD 33 0,t.getD 34 0,t.getD 35 0,t.getD 36 0,t.getD 37 0,t.getD 38 0,t.getD 39 0,t.getD 40 0,t.getD 41 0,t.getD 42 0,t.getD 43 0,t.getD 44 0,t.getD 45 0,t.getD 46 0,t.getD 47 0,t.getD 48 0,t.getD 49 0,t.getD 50 0,t.getD 51 0,t.getD 52 0,t.getD 53 0,t.getD 54 0,t.getD 55 0,t.getD 56 0,t.getD 57 0,t.getD 58 0,t.getD 59 0,t.getD 60 0,t.getD 61 0,t.getD 62 0,t.getD 63 0,t.getD 64 0,t.getD 65 0,t.getD 66 0,t.getD 67 0,t.getD 68 0,t.getD 69 0,t.getD 70 0,t.getD 71 0,t.getD 72 0,t.getD 73 0,t.getD 74 0,t.getD 75 0,t.getD 76 0,t.getD 77 0,t.getD 78 0,t.getD 79 0,t.getD 80 0,t.getD 81 0,t.getD 82 0,t.getD 83 0,t.getD 84 0,t.getD 85 0,t.getD 86 0,t.getD 87 0,t.getD 88 0,t.getD 89 0,t.getD 90 0,t.getD 91 0,t.getD 92 0,t.getD 93 0,t.getD 94 0,t.getD 95 0]=(List.range 96).map (fun k=>t.getD k 0):=rfl
     simp only[this,List.getElem_map,List.getElem_range]
   rw[e i (by omega),List.getD_eq_getElem?_getD,List.getElem?_eq_getElem h1]
   rfl
theorem run_ok(t:List Int)(ht:t.length=96):(Qcm (Q2v 8 4 (Q9s++t)).1 [] 87).2.2.2=0:=by
 rw[list96 t ht]
 exact run87 _ _ _ _ _ _ _ _ _ _ _ _ _ _ _ _ _ _ _ _ _ _ _ _ _ _ _ _ _ _ _ _ _ _ _ _ _ _ _ _ _ _ _ _ _ _ _ _ _ _ _ _ _ _ _ _ _ _ _ _ _ _ _ _ _ _ _ _ _ _ _ _ _ _ _ _ _ _ _ _ _ _ _ _ _ _ _ _ _ _ _ _ _ _ _ _
theorem pad_len:Q9s.length=160:=by
 have h:boot.length≤160:=asm_ok.1
 unfold Q9s
 rw[List.length_append,List.length_replicate];omega
theorem runN8_w{P:Nat}{m:Q00}(h:okM P m):(Q9 m [] 87).w (fun x=>x.2.2.2=0→okM P x.1):=by
 have z: ∀{k:Int} {p:Prop},k≠0→k=0→p:=fun a b=>absurd b a
 unfold Q9
 refine w_lv fun x0 _=>w_br (fun _=>z (by decide)) fun _=>w_br (fun _=>z (by decide)) fun _=>w_br (fun _=>z (by decide)) fun _=>w_an (show Q7i [] by show([]:List Q2o).length≤1000000000000;decide) (w_lv fun x1 _=>w_br (fun _=>z (by decide)) fun _=>Q0a (own7_w h) fun x2 hx=> ?_)
 have hc:=h.cnt
 refine w_lp (inv:=fun v:Q00×List Q07=>okM P v.1∧v.2.length+(87-v.1.Count).toNat≤87) (μ:=Qei m [] 87) ⟨hx.1,by rw[hx.2];show 0+_≤87;omega⟩ (Nat.lt_succ_self _) fun v0 ⟨a1,a3⟩=> ?_
 have a2:=a1.cnt
 refine w_br (fun hb=>w_br (fun _=> ?_) (fun _=>fun _=>a1)) (fun _=>fun _=>a1)
 have hb:=of_decide_eq_true hb
 refine w_lp (inv:=fun _=>True) (μ:=Qe6 m [] 87 v0) trivial (Nat.lt_succ_self _) fun v1 _=> ?_
 refine w_br (fun _=>fun _=>a1) fun _=>Q0a (idle_w _) fun x3 _=>w_br (fun _=>fun _=>a1) fun _=>Q0a (reads_w a1.cpu a1.mem) fun x4 _=>w_br (fun _=>z (by decide)) fun _=>Q0a (Z2i a1 U_0) fun x5 h5=> ?_
 obtain⟨b1,b2,b3⟩:=h5
 refine w_cn (decide_eq_true (by omega)) (w_nx ?_)
 have e:x5.2.Count=v0.1.Count+1:=by rw[b3,IntKind.wrap_u64];omega
 show(_∧_)∧(_:Nat)<_
 refine⟨⟨b2,by show(v0.2++x5.1).length+(87-x5.2.Count).toNat≤87;rw[List.length_append];omega⟩,by show(87-x5.2.Count).toNat<(87-v0.1.Count).toNat;omega⟩
theorem Zez(kind:Int)(l:List Int)(hl:l.length*8≤reachBytes)(h40:l.length≤40):(Q63 kind l).w (okM 8):=by
  unfold Q63
  refine w_an (Qb8 (by decide)) (w_lv fun x0 hx0=>w_br (fun _=>w_an asm_pre (w_lv fun x1 e1=> ?_)) (fun hk=> ?_))
  · have eb:x1.1=boot:=by rw[e1];rfl
    obtain⟨q1,q2⟩:boot.length≤160∧ ∀w∈boot,U w:=asm_ok
    refine w_lp (inv:=fun v:List Int=>v.length≤160∧v=boot++List.replicate (v.length-boot.length) 0) (μ:=Qbp kind l) ⟨by rw[eb];exact q1,by rw[eb];simp⟩ (Nat.lt_succ_self _) fun v0 ⟨a1,a2⟩=> ?_
    have a3:boot.length≤v0.length:=by rw[a2,List.length_append];omega
    refine w_br (fun hb=> ?_) (fun hb=> ?_)
    · have hb:=of_decide_eq_true hb
      refine w_cn (decide_eq_true (by omega)) (w_nx ?_)
      show(_∧_)∧(_:Nat)<_
      refine⟨⟨by rw[List.length_append,List.length_singleton];omega,?_⟩,by show 160-(v0++[0]).length<160-v0.length;rw[List.length_append,List.length_singleton];omega⟩
      show v0++[0]=boot++List.replicate ((v0++[0]).length-boot.length) 0
      rw[List.length_append,List.length_singleton,show v0.length+1-boot.length=(v0.length-boot.length)+1 by omega,List.replicate_succ',←List.append_assoc,←a2]
    · have hb:=of_decide_eq_false hb
      have hv:v0=Q9s:=by
        unfold Q9s
        rw[show(160:Nat)=v0.length by omega]
        exact a2
      subst hv
      have hp:=pad_len
      have hu0: ∀w∈Q9s,U w:=fun w hw=>(List.mem_append.1 hw).elim (q2 w) (U_all _ w)
      refine Q0a (code_w l hl) fun x2 ⟨b1,b2⟩=>w_cn (decide_eq_true (by omega)) ?_
      have hu: ∀w∈Q9s++x2,U w:=fun w hw=>(List.mem_append.1 hw).elim (hu0 w) (b2 w)
      have hlen:(Q9s++x2).length≤256:=by rw[List.length_append];omega
      refine w_br (fun hb=> ?_) (fun hb=> ?_)
      · have hb:=of_decide_eq_true hb;omega
      · have nw:=Tree.pp (new_w _ hu hlen)
        refine w_an nw.1 (w_lv fun x3 h3=> ?_)
        have c1:okM 8 x3.1:=by rw[h3];exact nw.2.1
        have rn:=Tree.pp (runN8_w c1)
        refine w_br (fun _=>w_an rn.1 (w_lv fun x4 hx=> ?_)) (fun _=>c1)
        have e:x3=Q2v 8 4 (Q9s++(x2++List.replicate (96-x2.length) 0)):=by
          rw[h3]
          have hl2:(x2++List.replicate (96-x2.length) (0:Int)).length=96:=by rw[List.length_append,List.length_replicate];omega
          refine new_mem _ _ hlen (by rw[List.length_append,hl2];omega) ?_
          rw[List.length_append,List.length_append,hl2,hp,List.append_assoc,List.append_assoc,List.append_assoc,show 256-(160+96)=0 by omega,show 256-(160+x2.length)=96-x2.length by omega]
          simp
        have h0:x4.2.2.2=0:=by
          rw[hx,e]
          exact run_ok _ (by rw[List.length_append,List.length_replicate];omega)
        exact(by rw[hx];exact rn.2:x4.2.2.2=0→okM 8 x4.1) h0
  · have hk:=of_decide_eq_false hk
    refine Q0a (code_w l hl) fun x2 ⟨b1,b2⟩=>w_cn (decide_eq_true (by omega)) ?_
    refine w_br (fun hb=> ?_) (fun hb=> ?_)
    · have hb:=of_decide_eq_true hb;omega
    · have nw:=Tree.pp (new_w _ b2 (by omega))
      refine w_an nw.1 (w_lv fun x3 h3=> ?_)
      have c1:okM 8 x3.1:=by rw[h3];exact nw.2.1
      exact w_br (fun h=>absurd (eq_of_beq h) (by omega)) (fun _=>c1)
theorem Zf5(kind:Int)(l acts:List Int)(hl:l.length*8≤reachBytes)(h40:l.length≤40)(ha:acts.length≤30):(Q62 kind l acts).w (okM 8):=by
 unfold Q62
 exact Q0a (Zez kind l hl h40) fun x0 h=>Q0a (play_w h acts ha) fun x1 hx=>hx.m
end Go.Proofs.YtdkiadhigcfmkaaGreat
namespace Go.Proofs.YtdkiadhigcfmkaaGreat
open Go Go.GD
set_option linter.unusedVariables false
set_option linter.unusedSimpArgs false
set_option maxRecDepth 100000
structure okW(m:Q00):Prop where
 cpu:Q2g m.Cpu
 u: ∀w∈m.Mem,U w
 len:m.Mem.length≤1024
 disk:Q85 m.Disk
 nic:Qh6 m.Nic
 bal:okB m.Balloon
 cnt:0≤m.Count
end Go.Proofs.YtdkiadhigcfmkaaGreat
namespace Go.Proofs.YtdkiadhigcfmkaaGreat
open Go Go.GD
set_option linter.unusedVariables false
set_option linter.unusedSimpArgs false
set_option maxRecDepth 100000
theorem Qrh{a:Int}(h:U a):(BitVec.ofInt 32 a).toNat=a.toNat:=by
 obtain⟨h1,h2⟩:=h
 rw[BitVec.toNat_ofInt];omega
theorem Qod{a b:Int}(ha:U a)(hb:U b):iand .u32 a b=((a.toNat&&&b.toNat:Nat):Int):=by
 have l:=(BitVec.ofInt 32 a&&&BitVec.ofInt 32 b).isLt
 have e:(BitVec.ofInt 32 a&&&BitVec.ofInt 32 b).toNat=a.toNat&&&b.toNat:=by rw[BitVec.toNat_and,Qrh ha,Qrh hb]
 show IntKind.wrap .u32 ((BitVec.ofInt 32 a&&&BitVec.ofInt 32 b).toNat:Int)=_
 rw[IntKind.wrap_u32,←e];omega
theorem or_nat{a b:Int}(ha:U a)(hb:U b):ior .u32 a b=((a.toNat|||b.toNat:Nat):Int):=by
 have l:=(BitVec.ofInt 32 a|||BitVec.ofInt 32 b).isLt
 have e:(BitVec.ofInt 32 a|||BitVec.ofInt 32 b).toNat=a.toNat|||b.toNat:=by rw[BitVec.toNat_or,Qrh ha,Qrh hb]
 show IntKind.wrap .u32 ((BitVec.ofInt 32 a|||BitVec.ofInt 32 b).toNat:Int)=_
 rw[IntKind.wrap_u32,←e];omega
theorem Qv6{a:Int}(ha:U a)(k:Nat)(hk:k≤32){q:Int}(hq:q=((2^k-1:Nat):Int)):iand .u32 a q=a%2^k:=by
 have hp:2^k≤2^32:=Nat.pow_le_pow_right (by decide) hk
 have h1:(2:Nat)^32=4294967296:=by decide
 have hpos:=Nat.two_pow_pos k
 subst hq
 rw[Qod ha ⟨by omega,by omega⟩,Int.toNat_natCast,Nat.and_two_pow_sub_one_eq_mod]
 have:=ha.1
 rw[Int.natCast_emod,Int.toNat_of_nonneg this]
 simp
theorem m15{a:Int}(ha:U a):iand .u32 a 15=a%16:=Qv6 ha 4 (by decide) rfl
theorem m31{a:Int}(ha:U a):iand .u32 a 31=a%32:=Qv6 ha 5 (by decide) rfl
theorem m255{a:Int}(ha:U a):iand .u32 a 255=a%256:=Qv6 ha 8 (by decide) rfl
theorem m65535{a:Int}(ha:U a):iand .u32 a 65535=a%65536:=Qv6 ha 16 (by decide) rfl
theorem Qpi(p:Int→Bool)(N:Nat)(h:(List.range N).all (fun n=>p n)=true){s:Int}(h0:0≤s)(h1:s<N):p s=true:=by
 have:=List.all_eq_true.1 h s.toNat (List.mem_range.2 (by omega))
 rwa [Int.toNat_of_nonneg h0]at this
theorem w64{x:Int}(h0: -9223372036854775808≤x)(h1:x<9223372036854775808):IntKind.wrap .i64 x=x:=by rw[IntKind.wrap_i64];omega
theorem shr0(a:Int):ishr .u32 a 0=a:=by have:=Qko (a:=a) 0 (by decide);simpa using this
theorem fld(w:Int):Q2r w 24 8=iand .u32 (ishr .u32 w 24) 255∧Q2r w 20 4=iand .u32 (ishr .u32 w 20) 15∧Q2r w 16 4=iand .u32 (ishr .u32 w 16) 15∧Q2r w 0 16=iand .u32 (ishr .u32 w 0) 65535∧Q2r w 8 8=iand .u32 (ishr .u32 w 8) 255:=
 ⟨by kernel_rfl,by kernel_rfl,by kernel_rfl,by kernel_rfl,by kernel_rfl⟩
def useOf(f:Int):Q84×Bool:=
 bif f==1 then(⟨false,false,false,0,0⟩,true) else bif f==2 then(⟨true,true,true,0,0⟩,true) else bif f==3 then(⟨true,true,false,-32768,32767⟩,true)
 else bif f==4 then(⟨true,true,false,0,65535⟩,true) else bif f==5 then(⟨true,true,false,0,31⟩,true) else bif f==6 then(⟨true,false,false,0,65535⟩,true)
 else bif f==7 then(⟨true,false,false,-32768,32767⟩,true) else bif f==8 then(⟨true,false,false,0,7⟩,true) else bif f==9 then(⟨true,false,false,0,11⟩,true) else(⟨false,false,false,0,0⟩,false)
def sameU(x y:Q84×Bool):Bool:=x.1.a==y.1.a&&x.1.b==y.1.b&&x.1.c==y.1.c&&x.1.low==y.1.low&&x.1.high==y.1.high&&x.2==y.2
theorem sameU_eq{x y:Q84×Bool}(h:sameU x y=true):x=y:=by
 obtain⟨⟨a,b,c,d,e⟩,f⟩:=x
 obtain⟨⟨a',b',c',d',e'⟩,f'⟩:=y
 simp only[sameU,Bool.and_eq_true,beq_iff_eq]at h
 obtain⟨⟨⟨⟨⟨rfl,rfl⟩,rfl⟩,rfl⟩,rfl⟩,rfl⟩:=h
 rfl
theorem use_eq{op:Int}(h0:0≤op)(h1:op<256):Qya op=useOf (Q29 op):=by
 exact sameU_eq (Qpi (fun op=>sameU (Qya op) (useOf (Q29 op))) 256 (by kernel_rfl) h0 h1)
theorem form_le{op:Int}(h0:0≤op)(h1:op<256):Q29 op=0∨Q29 op=1∨Q29 op=2∨Q29 op=3∨Q29 op=4∨Q29 op=5∨Q29 op=6∨Q29 op=7∨Q29 op=8∨Q29 op=9:=by
 have:=of_decide_eq_true (Qpi (fun op=>decide (0≤Q29 op∧Q29 op≤9)) 256 (by kernel_rfl) h0 h1)
 omega
theorem priv_eq{op:Int}(h0:0≤op)(h1:op<256):Q7m op=Q4t op:=by
 exact eq_of_beq (Qpi (fun op=>Q7m op==Q4t op) 256 (by kernel_rfl) h0 h1)
theorem cond_iff{a x y:Bool}:(cond a x y=true)↔((a=true∧x=true)∨(a=false∧y=true)):=by cases a<;>simp
theorem Z33{i:Q0g}(h0:0≤i.Op)(h1:i.Op<256)(hi:IntKind.wrap .i64 i.Imm=i.Imm):Qe2 i=Q7z i:=by
 rw[Bool.eq_iff_iff]
 simp only[Qe2,Qfj,Tree.m,letv,Q7z,Qds,use_eq h0 h1,hi]
 rcases form_le h0 h1 with h|h|h|h|h|h|h|h|h|h<;>rw[h]<;>
 simp [useOf,Q8a,Qd7,Q72,Qb3,Qjy,Qjl,Tree.m,letv,cond_iff]<;>omega
theorem sx16{x:Int}(h0:0≤x)(h1:x<65536):IntKind.wrap .i32 (Q26 x 16)=IntKind.wrap .i32 (IntKind.wrap .i16 x):=by
 have e:Q26 x 16=IntKind.wrap .u32 (ishr .i32 (IntKind.wrap .i32 (ishl .u32 x 16)) 16):=by kernel_rfl
 have e2: ∀y,ishr .i32 y 16=y/65536:=fun y=>by
   show Int.fdiv y 65536=_
   rw[Int.fdiv_eq_ediv_of_nonneg _ (by decide)]
 have e3:ishl .u32 x 16=IntKind.wrap .u32 (x*65536):=rfl
 have e4:IntKind.wrap .i16 x=(x+32768)%65536-32768:=by
   simp [IntKind.wrap,IntKind.bits,IntKind.signed]
   split<;>omega
 rw[e,e2,e3,e4]
 simp only[IntKind.wrap_i32,IntKind.wrap_u32]
 omega
theorem sx8{x:Int}(h0:0≤x)(h1:x<256):Q26 x 8=Q2x x 8:=by
 exact eq_of_beq (Qpi (fun x=>Q26 x 8==Q2x x 8) 256 (by kernel_rfl) h0 h1)
theorem decode_eq{w:Int}(hw:U w):Qf8 w=Q28 w:=by
 obtain⟨f1,f2,f3,f4,_⟩:=fld w
 obtain⟨w0,w1⟩:=hw
 have s24:ishr .u32 w 24=w/16777216:=by have:=Qko (a:=w) 24 (by decide);simpa using this
 have s20:U (ishr .u32 w 20):=Qo ⟨w0,w1⟩ _
 have s16:U (ishr .u32 w 16):=Qo ⟨w0,w1⟩ _
 rw[m255 (Qo ⟨w0,w1⟩ _),s24]at f1
 rw[m15 s20]at f2
 rw[m15 s16]at f3
 rw[shr0]at f4
 have g1:w/16777216%256=w/16777216:=by omega
 rw[g1]at f1
 have o0:0≤w/16777216:=by omega
 have o1:w/16777216<256:=by omega
 have eo:IntKind.wrap .i64 (w/16777216)=w/16777216:=w64 (by omega) (by omega)
 have i32: ∀x,IntKind.wrap .i64 (IntKind.wrap .i32 x)=IntKind.wrap .i32 x:=fun x=>by rw[IntKind.wrap_i64,IntKind.wrap_i32];omega
 have l0:=m65535 ⟨w0,w1⟩
 have lx:=sx16 (x:=iand .u32 w 65535) (by omega) (by omega)
 simp only[Qf8,Q8p,Q28,Q9l,Tree.m,letv,f1,f2,f3,f4,s24,eo,use_eq o0 o1,m15 s20,m15 s16,lx]
 generalize w/16777216=op at*
 generalize IntKind.wrap .i64 (ishr .u32 w 20%16)=a
 generalize IntKind.wrap .i64 (ishr .u32 w 16%16)=b
 generalize iand .u32 w 65535=l
 rw[Z33 (i:=⟨op,a,b,IntKind.wrap .i64 l,0⟩) o0 o1 rfl,Z33 (i:=⟨op,a,b,0,IntKind.wrap .i32 (IntKind.wrap .i16 l)⟩) o0 o1 (i32 _),Z33 (i:=⟨op,a,b,0,IntKind.wrap .i32 l⟩) o0 o1 (i32 _)]
 rcases form_le o0 o1 with h|h|h|h|h|h|h|h|h|h<;>rw[h]<;>rfl
end Go.Proofs.YtdkiadhigcfmkaaGreat
namespace Go.Proofs.YtdkiadhigcfmkaaGreat
open Go Go.GD
set_option linter.unusedVariables false
set_option linter.unusedSimpArgs false
set_option maxRecDepth 100000
theorem put_nat(x v:BitVec 32)(s:Nat)(hs:s≤24):((x&&&~~~(255#32<<<s))|||((v&&&255#32)<<<s)).toNat=2^(s+8)*(x.toNat/2^(s+8))+(2^s*(v.toNat%256)+x.toNat%2^s):=by
  have hx:=x.isLt
  have h1:x.toNat%2^s<2^s:=Nat.mod_lt _ (Nat.two_pow_pos s)
  have h2:2^s*(v.toNat%256)+x.toNat%2^s<2^(s+8):=by
    have:v.toNat%256<256:=Nat.mod_lt _ (by decide)
    have h3:2^s*(v.toNat%256)≤2^s*255:=Nat.mul_le_mul_left _ (by omega)
    have:2^(s+8)=2^s*256:=by rw[Nat.pow_add]
    omega
  rw[Nat.two_pow_add_eq_or_of_lt h2,Nat.two_pow_add_eq_or_of_lt h1]
  apply Nat.eq_of_testBit_eq
  intro i
  rw[BitVec.testBit_toNat]
  simp only[BitVec.getLsbD_or,BitVec.getLsbD_and,BitVec.getLsbD_not,BitVec.getLsbD_shiftLeft,Nat.testBit_or,Nat.testBit_two_pow_mul,Nat.testBit_mod_two_pow,Nat.testBit_div_two_pow,BitVec.getLsbD_ofNat]
  have e255: ∀j,Nat.testBit 255 j=decide (j<8):=fun j=>by
    rw[show 255=2^8-1 from rfl,Nat.testBit_two_pow_sub_one]
  have e256: ∀n j,Nat.testBit (n%256) j=(decide (j<8)&&Nat.testBit n j):=fun n j=>by
    rw[show 256=2^8 from rfl,Nat.testBit_mod_two_pow]
  rw[e255,e256]
  by_cases hi:i<32
  · by_cases a1:i<s
    · have a2: ¬(s≤i):=by omega
      have a3: ¬(s+8≤i):=by omega
      simp [hi,a1,a2,a3,BitVec.getLsbD]
    · by_cases a4:s+8≤i
      · have a2: ¬(i-s<8):=by omega
        have a5:i-(s+8)+(s+8)=i:=by omega
        have a6:s≤i:=by omega
        simp [hi,a1,a2,a4,a5,a6,BitVec.getLsbD]
      · have a2:(i-s<8):=by omega
        have a6:s≤i:=by omega
        have a7:i-s<32:=by omega
        simp [hi,a1,a2,a4,a6,a7,BitVec.getLsbD]
  · have a0:x.toNat.testBit i=false:=Nat.testBit_lt_two_pow (Nat.lt_of_lt_of_le hx (Nat.pow_le_pow_right (by decide) (by omega)))
    have a1: ¬(i<s):=by omega
    have a2: ¬(i-s<8):=by omega
    have a4:s+8≤i:=by omega
    have a5:i-(s+8)+(s+8)=i:=by omega
    simp [hi,a0,a1,a2,a4,a5]
theorem Z2m(b:BitVec 32):BitVec.ofInt 32 (IntKind.wrap .u32 (b.toNat:Int))=b:=by
 have:=b.isLt
 rw[IntKind.wrap_u32]
 apply BitVec.eq_of_toNat_eq
 rw[BitVec.toNat_ofInt];omega
theorem Zfk(x:Int):BitVec.ofInt 32 (IntKind.wrap .u32 x)=BitVec.ofInt 32 x:=by
 apply BitVec.eq_of_toNat_eq
 rw[BitVec.toNat_ofInt,BitVec.toNat_ofInt,IntKind.wrap_u32]
 have:((2^32:Nat):Int)=4294967296:=by decide
 rw[this,Int.emod_emod_of_dvd _ (Int.dvd_refl _)]
theorem Z9o{x:Int}(hx:U x)(s:Nat)(hs:s≤32):BitVec.ofInt 32 (ishl .u32 x s)=BitVec.ofInt 32 x<<<s:=by
 obtain⟨n,rfl⟩: ∃n:Nat,x=n:=⟨x.toNat,by have:=hx.1;omega⟩
 have e:min (Int.toNat (s:Int)) IntKind.u32.bits=s:=by show min (Int.toNat (s:Int)) 32=s;omega
 unfold ishl
 rw[e,Zfk]
 have e2:((n:Int)*2^s)=((n*2^s:Nat):Int):=by simp
 have:=hx.2
 rw[e2,BitVec.ofInt_natCast,BitVec.ofInt_natCast]
 apply BitVec.eq_of_toNat_eq
 rw[BitVec.toNat_shiftLeft,BitVec.toNat_ofNat,BitVec.toNat_ofNat,Nat.shiftLeft_eq,Nat.mod_mul_mod]
def putW(W v:Int)(s:Nat):Int:=ior .u32 (Qey .u32 W (ishl .u32 255 s)) (ishl .u32 (iand .u32 v 255) s)
theorem put_num{W v:Int}(hW:U W)(hv:U v)(s:Nat)(hs:s≤24):putW W v s=2^(s+8)*(W/2^(s+8))+(2^s*(v%256)+W%2^s):=by
 have e:=put_nat (BitVec.ofInt 32 W) (BitVec.ofInt 32 v) s hs
 have l:=((BitVec.ofInt 32 W&&&~~~(255#32<<<s))|||((BitVec.ofInt 32 v&&&255#32)<<<s)).isLt
 have h1:BitVec.ofInt 32 (Qey .u32 W (ishl .u32 255 s))=BitVec.ofInt 32 W&&&~~~(255#32<<<s):=by
   show BitVec.ofInt 32 (IntKind.wrap .u32 (BitVec.ofInt 32 W&&&~~~BitVec.ofInt 32 (ishl .u32 255 s)).toNat)=_
   rw[Z2m,Z9o ⟨by decide,by decide⟩ s (by omega)]
   rfl
 have h2:BitVec.ofInt 32 (ishl .u32 (iand .u32 v 255) s)=(BitVec.ofInt 32 v&&&255#32)<<<s:=by
   rw[Z9o (Qzd _ _) s (by omega)]
   congr 1
   show BitVec.ofInt 32 (IntKind.wrap .u32 (BitVec.ofInt 32 v&&&BitVec.ofInt 32 255).toNat)=_
   rw[Z2m];rfl
 show IntKind.wrap .u32 ((BitVec.ofInt 32 (Qey .u32 W (ishl .u32 255 s))|||BitVec.ofInt 32 (ishl .u32 (iand .u32 v 255) s)).toNat:Int)=_
 rw[h1,h2]
 have lw:IntKind.wrap .u32 ((((BitVec.ofInt 32 W&&&~~~(255#32<<<s))|||((BitVec.ofInt 32 v&&&255#32)<<<s)).toNat:Nat):Int)=(((BitVec.ofInt 32 W&&&~~~(255#32<<<s))|||((BitVec.ofInt 32 v&&&255#32)<<<s)).toNat:Nat):=by rw[IntKind.wrap_u32];omega
 rw[lw,e,Qrh hW,Qrh hv]
 obtain⟨n,rfl⟩: ∃n:Nat,W=n:=⟨W.toNat,by have:=hW.1;omega⟩
 obtain⟨k,rfl⟩: ∃n:Nat,v=n:=⟨v.toNat,by have:=hv.1;omega⟩
 simp
def dig(w:Int)(k:Nat):Int:=if k=0 then w%256 else if k=1 then w/256%256 else if k=2 then w/65536%256 else w/16777216%256
def byt(m:List Int)(a:Nat):Int:=dig (m.getD (a/4) 0) (a%4)
theorem dig_lt(w:Int)(k:Nat):0≤dig w k∧dig w k<256:=by
 unfold dig
 split
 · omega
 · split
   · omega
   · split<;>omega
theorem dig_ext{w v:Int}(hw:U w)(hv:U v)(h: ∀k,k<4→dig w k=dig v k):w=v:=by
 have h0:=h 0 (by omega)
 have h1:=h 1 (by omega)
 have h2:=h 2 (by omega)
 have h3:=h 3 (by omega)
 simp [dig]at h0 h1 h2 h3
 obtain⟨a,b⟩:=hw
 obtain⟨c,d⟩:=hv
 omega
theorem Zar{m n:List Int}(hl:m.length=n.length)(hm: ∀w∈m,U w)(hn: ∀w∈n,U w)(h: ∀a,byt m a=byt n a):m=n:=by
 refine List.ext_getElem hl fun i h1 h2=> ?_
 have e1:m[i]=m.getD i 0:=by simp [List.getD,h1]
 have e2:n[i]=n.getD i 0:=by simp [List.getD,h2]
 rw[e1,e2]
 refine dig_ext (Qiw hm i) (Qiw hn i) fun k hk=> ?_
 have:=h (4*i+k)
 simp only[byt]at this
 rwa [show(4*i+k)/4=i by omega,show(4*i+k)%4=k by omega]at this
theorem Qer{l:List Int}{i:Nat}(h:i<l.length)(v:Int):(l.set i v).getD i 0=v:=by
 simp [List.getD,h]
theorem Zc0{m:List Int}{i:Nat}(hi:i<m.length)(v:Int)(a:Nat):byt (m.set i v) a=if a/4=i then dig v (a%4) else byt m a:=by
 unfold byt
 split
 · rename_i h;rw[h,Qer hi]
 · rename_i h;rw[Zbo _ _ _ _ (fun e=>h e.symm)]
theorem put_dig{W v:Int}(hW:U W)(hv:U v){j:Nat}(hj:j<4){k:Nat}(hk:k<4):dig (putW W v (8*j)) k=if k=j then v%256 else dig W k:=by
 have h:=put_num hW hv (8*j) (by omega)
 rw[h]
 obtain⟨w0,w1⟩:=hW
 have h0:0≤v%256:=by omega
 have h1:v%256<256:=by omega
 generalize v%256=b at*
 clear h
 have hj:j=0∨j=1∨j=2∨j=3:=by omega
 have hk:k=0∨k=1∨k=2∨k=3:=by omega
 rcases hj with rfl|rfl|rfl|rfl<;>rcases hk with rfl|rfl|rfl|rfl<;>simp [dig]<;>omega
theorem puts_eq{m:List Int}{a v:Int}(ha:U a):Q9m m a 1 v=m.set (a/4).toNat (putW (m.getD (a/4).toNat 0) v (8*(a%4).toNat)):=by
 obtain⟨a0,a1⟩:=ha
 have e1:IntKind.wrap .u32 (Int.tdiv a 4)=a/4:=by rw[IntKind.wrap_u32,Int.tdiv_eq_ediv_of_nonneg a0];omega
 have e2:IntKind.wrap .u32 (8*Int.tmod a 4)=((8*(a%4).toNat:Nat):Int):=by rw[IntKind.wrap_u32,Int.tmod_eq_emod_of_nonneg a0];omega
 have e3:((1:Int)==4)=false:=rfl
 simp only[Q9m,Qci,Tree.m,e1,e2,e3,cond_false]
 rfl
theorem puts_byte{P:Nat}{m:List Int}(h:Q0u P m){a v:Int}(ha:U a)(hl:a<128*P)(hv:U v):Q0u P (Q9m m a 1 v)∧ ∀b:Nat,byt (Q9m m a 1 v) b=if(b:Int)=a then v%256 else byt m b:=by
 have hlen:=h.len
 have a0:=ha.1
 rw[puts_eq ha]
 have hi:(a/4).toNat<m.length:=by omega
 refine⟨⟨by rw[List.length_set];exact hlen,h.p1,h.p2,Qu8 h.u (U_or _ _) _⟩,fun b=> ?_⟩
 rw[Zc0 hi]
 by_cases hb:b/4=(a/4).toNat
 · rw[if_pos hb,put_dig (Qiw h.u _) hv (by omega) (by omega)]
   by_cases hc:b%4=(a%4).toNat
   · rw[if_pos hc,if_pos (by omega)]
   · rw[if_neg hc,if_neg (by omega),byt,hb]
 · rw[if_neg hb,if_neg (by omega)]
theorem fill_b{P:Nat}{m:List Int}(h:Q0u P m){frame:Int}(f0:0≤frame)(f1:frame<P)(s:List UInt8):(Q8x m frame s).w (fun r=>Q0u P r∧ ∀b:Nat,byt r b=if frame*128≤b∧(b:Int)<frame*128+min s.length 128 then((s.getD (b-frame*128).toNat 0).toNat:Int) else byt m b):=by
 unfold Q8x
 have h3:=h.p2
 refine w_lp (inv:=fun z=>0≤z.1∧z.1≤min s.length 128∧Q0u P z.2∧ ∀b:Nat,byt z.2 b=if frame*128≤b∧(b:Int)<frame*128+z.1 then((s.getD (b-frame*128).toNat 0).toNat:Int) else byt m b) (μ:=Qgk m frame s) ⟨show(0:Int)≤0 by decide,by show(0:Int)≤_;omega,h,fun b=>by rw[if_neg];show¬(_∧_<_+(0:Int));omega⟩ (Nat.lt_succ_self _) (fun v0 hv0=> ?_)
 obtain⟨i,mm⟩:=v0
 obtain⟨i0,i1,hm,hy⟩:=hv0
 have i0:0≤i:=i0
 have i1:i≤min s.length 128:=i1
 have hm:Q0u P mm:=hm
 have fin: ∀r:List Int,r=mm→i=min s.length 128→Q0u P r∧ ∀b:Nat,byt r b=if frame*128≤b∧(b:Int)<frame*128+min s.length 128 then((s.getD (b-frame*128).toNat 0).toNat:Int) else byt m b:=fun r hr hi=>by
   subst hr;refine⟨hm,fun b=> ?_⟩
   rw[hy b];simp only[hi]
 refine w_br (fun h1=>w_br (fun h2=>w_cn ?_ ?_) (fun h2=>fin mm rfl ?_)) (fun h1=>fin mm rfl ?_)
 · have:=of_decide_eq_true h1
   simp [Nat.blt];omega
 · have h1:i<s.length:=of_decide_eq_true h1
   have h2:i<128:=of_decide_eq_true h2
   have e:IntKind.wrap IntKind.u32 (IntKind.wrap IntKind.i64 (IntKind.wrap IntKind.i64 (frame*128)+i))=frame*128+i:=by
     rw[IntKind.wrap_u32,IntKind.wrap_i64,IntKind.wrap_i64];omega
   show(Tree.an (Qdp mm (IntKind.wrap IntKind.u32 (IntKind.wrap IntKind.i64 (IntKind.wrap IntKind.i64 (frame*128)+i))) 1 _) (Tree.lv _ _)).w _
   rw[e]
   have hu:U (frame*128+i):=⟨by omega,by omega⟩
   have hvU: ∀n:Nat,U (IntKind.wrap .u32 (n:Int)):=fun n=>Q0o _
   obtain⟨g1,_⟩:=Tree.pp (put_w hm (size:=1) (addr:=frame*128+i) hu (by rw[hm.len];omega) (hvU (UInt8.toNat (List.getD s (Int.toNat i) 0))))
   obtain⟨g2,g3⟩:=puts_byte hm hu (by omega) (hvU (UInt8.toNat (List.getD s (Int.toNat i) 0)))
   refine w_an g1 (w_lv fun x0 hx0=> ?_)
   rw[hx0]
   have ew:IntKind.i64.wrap (i+1)=i+1:=by rw[IntKind.wrap_i64];omega
   refine w_nx ?_
   show(0≤IntKind.i64.wrap (i+1)∧IntKind.i64.wrap (i+1)≤min s.length 128∧Q0u P _∧ ∀b:Nat,byt _ b=if frame*128≤b∧(b:Int)<frame*128+IntKind.i64.wrap (i+1) then _ else _)∧(128-IntKind.i64.wrap (i+1)).toNat<(128-i).toNat
   rw[ew]
   refine⟨⟨by omega,by omega,g2,fun b=> ?_⟩,by omega⟩
   rw[show Q9m mm (frame*128+i) 1 _=_ from rfl,g3 b]
   by_cases hb:(b:Int)=frame*128+i
   · rw[if_pos hb,if_pos (by omega),IntKind.wrap_u32]
     have:=(List.getD s (Int.toNat i) 0).toNat_lt
     rw[show(b-frame*128).toNat=i.toNat by omega];omega
   · rw[if_neg hb,hy b]
     show(if frame*128≤(b:Int)∧(b:Int)<frame*128+i then _ else _)=_
     by_cases hc:frame*128≤(b:Int)∧(b:Int)<frame*128+i
     · rw[if_pos hc,if_pos (by omega)]
     · rw[if_neg hc,if_neg (by omega)]
 · have h1:i<s.length:=of_decide_eq_true h1
   have h2: ¬i<128:=of_decide_eq_false h2
   omega
 · have h1: ¬i<s.length:=of_decide_eq_false h1
   omega
theorem or_add{x y:Int}(hx:U x)(hy:U y)(k:Nat)(hk:x<2^k)(h:x+y*2^k<4294967296):ior .u32 x (y*2^k)=x+y*2^k:=by
 obtain⟨n,rfl⟩: ∃n:Nat,x=n:=⟨x.toNat,by have:=hx.1;omega⟩
 obtain⟨z,rfl⟩: ∃n:Nat,y=n:=⟨y.toNat,by have:=hy.1;omega⟩
 have e:((z:Int)*2^k)=((z*2^k:Nat):Int):=by simp
 rw[e]at h⊢
 have hn:n<2^k:=by exact_mod_cast hk
 rw[or_nat hx ⟨by omega,by omega⟩,Int.toNat_natCast,Int.toNat_natCast,Nat.or_comm,Nat.mul_comm,←Nat.two_pow_add_eq_or_of_lt hn]
 omega
theorem four{a b c d:Int}(ha:0≤a∧a<256)(hb:0≤b∧b<256)(hc:0≤c∧c<256)(hd:0≤d∧d<256):ior .u32 (ior .u32 (ior .u32 (IntKind.wrap .u32 a) (ishl .u32 (IntKind.wrap .u32 b) 8)) (ishl .u32 (IntKind.wrap .u32 c) 16)) (ishl .u32 (IntKind.wrap .u32 d) 24)=a+b*2^8+c*2^16+d*2^24:=by
 have w: ∀{x:Int},0≤x∧x<256→IntKind.wrap .u32 x=x:=fun hx=>by rw[IntKind.wrap_u32];omega
 have s8: ∀{x:Int},0≤x∧x<256→ishl .u32 x 8=x*2^8:=fun{x} hx=>by show IntKind.wrap .u32 (x*2^8)=_;rw[IntKind.wrap_u32];omega
 have s16: ∀{x:Int},0≤x∧x<256→ishl .u32 x 16=x*2^16:=fun{x} hx=>by show IntKind.wrap .u32 (x*2^16)=_;rw[IntKind.wrap_u32];omega
 have s24: ∀{x:Int},0≤x∧x<256→ishl .u32 x 24=x*2^24:=fun{x} hx=>by show IntKind.wrap .u32 (x*2^24)=_;rw[IntKind.wrap_u32];omega
 rw[w ha,w hb,w hc,w hd,s8 hb,s16 hc,s24 hd]
 rw[or_add ⟨by omega,by omega⟩ ⟨by omega,by omega⟩ 8 (by omega) (by omega),or_add ⟨by omega,by omega⟩ ⟨by omega,by omega⟩ 16 (by omega) (by omega),or_add ⟨by omega,by omega⟩ ⟨by omega,by omega⟩ 24 (by omega) (by omega)]
theorem four_dig{a b c d:Int}(ha:0≤a∧a<256)(hb:0≤b∧b<256)(hc:0≤c∧c<256)(hd:0≤d∧d<256)(k:Nat)(hk:k<4):dig (a+b*2^8+c*2^16+d*2^24) k=if k=0 then a else if k=1 then b else if k=2 then c else d:=by
 have hk:k=0∨k=1∨k=2∨k=3:=by omega
 rcases hk with rfl|rfl|rfl|rfl<;>simp [dig]<;>omega
theorem Z4u{P:Nat}{m:List Int}(h:Q0u P m)(f:Int):Q4c m f=decide (0≤f∧f<P):=by
 have hp:=Q21 h
 simp only[Q4c,Q7h,Tree.m,letv,hp]
 by_cases h1:0≤f
 · rw[decide_eq_true h1];simp [h1]
 · rw[decide_eq_false h1];simp [h1]
theorem getD_cut(s:List UInt8)(a b k:Nat)(h:k<b):(List.take b (List.drop a s)).getD k 0=s.getD (a+k) 0:=by
 simp [List.getD_eq_getElem?_getD,List.getElem?_take,h]
theorem u8I(x:UInt8):0≤(x.toNat:Int)∧(x.toNat:Int)<256:=by have:=x.toNat_lt;omega
theorem Qxk{P:Nat}{m:List Int}(h:Q0u P m){f:Int}(f0:0≤f)(f1:f<P){s:List UInt8}(hs:s.length=128):(Q2n m f s).w (fun r=>r.2=true∧Q0u P r.1∧ ∀b:Nat,byt r.1 b=if f*128≤b∧(b:Int)<f*128+128 then((s.getD (b-f*128).toNat 0).toNat:Int) else byt m b):=by
  have hcl:Q02 m=m:=rfl
  have h2:=h.p2
  unfold Q2n
  refine w_an (Q81 h) (w_lv fun x0 hx0=>w_lv fun x1 hx1=> ?_)
  rw[hcl]at hx0;subst hx0
  rw[Z4u h,decide_eq_true ⟨f0,f1⟩]at hx1
  subst hx1
  refine w_br (fun hb=>by cases hb) fun _=>w_br (fun hb=>by simp [hs]at hb) fun _=> ?_
  refine w_lp (inv:=fun z:Int×List Int=>0≤z.1∧z.1≤32∧Q0u P z.2∧ ∀b:Nat,byt z.2 b=if f*128≤b∧(b:Int)<f*128+4*z.1 then((s.getD (b-f*128).toNat 0).toNat:Int) else byt x0 b) (μ:=Q9t x0 f s) ⟨show(0:Int)≤0 by decide,show(0:Int)≤32 by decide,h,fun b=>by rw[if_neg];show¬(_∧_<_+4*(0:Int));omega⟩ (Nat.lt_succ_self _) fun z ⟨z1,z2,z3,z4⟩=> ?_
  refine w_br (fun hb=> ?_) (fun hb=>⟨rfl,z3,fun b=> ?_⟩)
  · have hb:=of_decide_eq_true hb
    have e1:IntKind.i64.wrap (4*z.1)=4*z.1:=by rw[IntKind.wrap_i64];omega
    have e2:IntKind.i64.wrap (IntKind.i64.wrap (4*z.1)+4)=4*z.1+4:=by rw[IntKind.wrap_i64,IntKind.wrap_i64];omega
    have e3:IntKind.i64.wrap (IntKind.i64.wrap (f*32)+z.1)=f*32+z.1:=by rw[IntKind.wrap_i64,IntKind.wrap_i64];omega
    have hl:=z3.len
    have cut:Int.toNat (IntKind.i64.wrap (IntKind.i64.wrap (4*z.1)+4))-Int.toNat (IntKind.i64.wrap (4*z.1))=4:=by rw[e2,e1];omega
    have hlen:(List.take (Int.toNat (IntKind.i64.wrap (IntKind.i64.wrap (4*z.1)+4))-Int.toNat (IntKind.i64.wrap (4*z.1))) (List.drop (Int.toNat (IntKind.i64.wrap (4*z.1))) s)).length=4:=by
      rw[cut,e1,List.length_take,List.length_drop];omega
    refine w_cn (decide_eq_true (by rw[e2,e1];omega)) ?_
    refine w_cn (decide_eq_true (by rw[hlen];decide)) (w_cn (decide_eq_true (by rw[hlen];decide)) (w_cn (decide_eq_true (by rw[hlen];decide)) (w_cn (decide_eq_true (by rw[hlen];decide)) (w_cn (by rw[e3];simp [Nat.blt];omega) (w_nx ?_)))))
    have ew:IntKind.i64.wrap (z.1+1)=z.1+1:=by rw[IntKind.wrap_i64];omega
    rw[cut]
    refine⟨⟨by show 0≤IntKind.i64.wrap (z.1+1);rw[ew];omega,by show IntKind.i64.wrap (z.1+1)≤32;rw[ew];omega,?_,?_⟩,by show(32-IntKind.i64.wrap (z.1+1)).toNat<(32-z.1).toNat;rw[ew];omega⟩
    · show Q0u P (List.set _ _ _)
      exact⟨by rw[List.length_set];exact hl,z3.p1,z3.p2,Qu8 z3.u (U_or _ _) _⟩
    · intro b
      show byt (List.set z.2 (Int.toNat (IntKind.i64.wrap (IntKind.i64.wrap (f*32)+z.1))) _) b=if f*128≤(b:Int)∧(b:Int)<f*128+4*IntKind.i64.wrap (z.1+1) then _ else _
      rw[e3,ew,four (u8I _) (u8I _) (u8I _) (u8I _),Zc0 (by omega)]
      have g: ∀k:Nat,k<4→(List.take 4 (List.drop (Int.toNat (IntKind.i64.wrap (4*z.1))) s)).getD k 0=s.getD ((4*z.1).toNat+k) 0:=fun k hk=>by rw[e1];exact getD_cut _ _ _ _ hk
      by_cases hc:b/4=(f*32+z.1).toNat
      · have hin:f*128≤(b:Int)∧(b:Int)<f*128+4*(z.1+1):=by omega
        rw[if_pos hc,four_dig (u8I _) (u8I _) (u8I _) (u8I _) _ (by omega),if_pos hin]
        have hb4:b%4=0∨b%4=1∨b%4=2∨b%4=3:=by omega
        have gi:(b-f*128).toNat=(4*z.1).toNat+b%4:=by omega
        rw[gi]
        rcases hb4 with h4|h4|h4|h4<;>rw[h4]
        · rw[if_pos rfl,←g 0 (by omega)];rfl
        · rw[if_neg (by decide),if_pos rfl,←g 1 (by omega)];rfl
        · rw[if_neg (by decide),if_neg (by decide),if_pos rfl,←g 2 (by omega)];rfl
        · rw[if_neg (by decide),if_neg (by decide),if_neg (by decide),←g 3 (by omega)];rfl
      · rw[if_neg hc,z4 b]
        by_cases hd:f*128≤(b:Int)∧(b:Int)<f*128+4*z.1
        · rw[if_pos hd,if_pos (by omega)]
        · rw[if_neg hd,if_neg (by omega)]
  · have hb:=of_decide_eq_false hb
    show byt z.2 b=_
    rw[z4 b,show z.1=32 by omega]
    rfl
end Go.Proofs.YtdkiadhigcfmkaaGreat
namespace Go.Proofs.YtdkiadhigcfmkaaGreat
open Go Go.GD
set_option linter.unusedVariables false
set_option linter.unusedSimpArgs false
set_option maxRecDepth 100000
theorem Z4b{α:Type}(l l2:List α)(k:Nat)(z:α):(l++l2).getD k z=if k<l.length then l.getD k z else l2.getD (k-l.length) z:=by
 simp only[List.getD_eq_getElem?_getD,List.getElem?_append]
 split<;>rfl
theorem u8w{x:Int}:IntKind.wrap .u8 x=x%256:=IntKind.wrap_u8 x
theorem shr_c(W:Int):ishr .u32 W 8=W/256∧ishr .u32 W 16=W/65536∧ishr .u32 W 24=W/16777216:=by
 refine⟨?_,?_,?_⟩
 · show Int.fdiv W 256=_;rw[Int.fdiv_eq_ediv_of_nonneg _ (by decide)]
 · show Int.fdiv W 65536=_;rw[Int.fdiv_eq_ediv_of_nonneg _ (by decide)]
 · show Int.fdiv W 16777216=_;rw[Int.fdiv_eq_ediv_of_nonneg _ (by decide)]
theorem b4d(W:Int){k:Nat}(hk:k<4):[IntKind.wrap .u8 W,IntKind.wrap .u8 (ishr .u32 W 8),IntKind.wrap .u8 (ishr .u32 W 16),IntKind.wrap .u8 (ishr .u32 W 24)].getD k 0=dig W k:=by
 obtain⟨a,b,c⟩:=shr_c W
 have hk:k=0∨k=1∨k=2∨k=3:=by omega
 rcases hk with rfl|rfl|rfl|rfl<;>simp [dig,a,b,c,u8w]
theorem Qlq(l:List Int)(k:Nat)(h:0≤l.getD k 0∧l.getD k 0<256)(hk:k<l.length):(((bytesOf l).getD k 0).toNat:Int)=l.getD k 0:=by
 have e:(bytesOf l).getD k 0=UInt8.ofNat (l.getD k 0).toNat:=by
   simp [bytesOf,List.getD_eq_getElem?_getD,hk]
 rw[e,UInt8.toNat_ofNat']
 omega
theorem Zaf(l:List UInt8)(k:Nat)(hk:k<l.length):(Qa1 l).getD k 0=((l.getD k 0).toNat:Int):=by
 simp [Qa1,List.getD_eq_getElem?_getD,hk]
theorem text_b(w:List Int)(h:w.length≤32):(Q45 w).w (fun r=>r.length=4*w.length∧ ∀k:Nat,k<4*w.length→((r.getD k 0).toNat:Int)=dig (w.getD (k/4) 0) (k%4)):=by
 have e0:IntKind.i64.wrap (4*(w.length:Int))=4*w.length:=by rw[IntKind.wrap_i64];omega
 unfold Q45
 refine w_cn (by rw[e0];simp [Nat.blt,D.plain];omega) ?_
 refine w_lp (inv:=fun z:Int×List Int=>0≤z.1∧z.1≤w.length∧(z.2.length:Int)=4*z.1∧ ∀k:Nat,(k:Int)<4*z.1→z.2.getD k 0=dig (w.getD (k/4) 0) (k%4)) (μ:=Q6d w) ⟨by decide,by show(0:Int)≤w.length;omega,rfl,fun k hk=>by have hk:(k:Int)<4*0:=hk;omega⟩ (Nat.lt_succ_self _) fun z ⟨z1,z2,z3,z4⟩=> ?_
 refine w_br (fun hb=> ?_) (fun hb=> ?_)
 · have hb:=of_decide_eq_true hb
   have ew:IntKind.i64.wrap (z.1+1)=z.1+1:=by rw[IntKind.wrap_i64];omega
   refine w_cn (by simp [Nat.blt];omega) (w_cn (decide_eq_true (by omega)) (w_nx ?_))
   show(_∧_∧_∧ ∀k:Nat,(k:Int)<4*IntKind.i64.wrap (z.1+1)→(z.2++_).getD k 0=_)∧(_:Nat)<_
   refine⟨⟨by rw[ew];omega,by rw[ew];omega,by rw[ew,List.length_append];simp only[List.length_cons,List.length_nil];omega,fun k hk=> ?_⟩,by show(w.length-IntKind.i64.wrap (z.1+1)).toNat<(w.length-z.1).toNat;rw[ew];omega⟩
   rw[ew]at hk
   rw[Z4b]
   split
   · exact z4 k (by omega)
   · rename_i hn
     rw[b4d _ (by omega),show z.1.toNat=k/4 by omega,show k-z.2.length=k%4 by omega]
 · have hb:=of_decide_eq_false hb
   show(bytesOf z.2).length=_∧ ∀k:Nat,_→(((bytesOf z.2).getD k 0).toNat:Int)=_
   refine⟨by rw[Qh3];omega,fun k hk=> ?_⟩
   have e:=z4 k (by omega)
   have:=dig_lt (w.getD (k/4) 0) (k%4)
   rw[Qlq _ _ (by rw[e];exact this) (by omega),e]
def isPg(m:List Int)(f:Int)(r:List UInt8):Prop:=r.length=128∧ ∀k:Nat,k<128→((r.getD k 0).toNat:Int)=byt m ((f*128).toNat+k)
theorem pg_ext{m:List Int}{f:Int}{r s:List UInt8}(a:isPg m f r)(b:isPg m f s):r=s:=by
 obtain⟨a1,a2⟩:=a
 obtain⟨b1,b2⟩:=b
 refine List.ext_getElem (by omega) fun i h1 h2=> ?_
 have e:=(a2 i (by omega)).trans (b2 i (by omega)).symm
 have e1:r[i]=r.getD i 0:=by simp [List.getD,h1]
 have e2:s[i]=s.getD i 0:=by simp [List.getD,h2]
 rw[e1,e2]
 exact UInt8.toNat_inj.1 (by omega)
theorem mpage_b{P:Nat}{m:List Int}(h:Q0u P m){f:Int}(f0:0≤f)(f1:f<P):(Q4a m f).w (fun r=>isPg m f r.1∧r.2=true):=by
 have hl:=h.len
 have h2:=h.p2
 unfold Q4a
 refine w_lv fun x0 hx0=> ?_
 rw[Z4u h,decide_eq_true ⟨f0,f1⟩]at hx0
 subst hx0
 refine w_br (fun hb=>by cases hb) (fun hb=> ?_)
 have e1:IntKind.i64.wrap (f*32)=f*32:=by rw[IntKind.wrap_i64];omega
 have e2:IntKind.i64.wrap (IntKind.i64.wrap (f*32)+32)=f*32+32:=by rw[IntKind.wrap_i64,IntKind.wrap_i64];omega
 have cut:Int.toNat (IntKind.i64.wrap (IntKind.i64.wrap (f*32)+32))-Int.toNat (IntKind.i64.wrap (f*32))=32:=by rw[e2,e1];omega
 have hlen:(List.take 32 (List.drop (Int.toNat (IntKind.i64.wrap (f*32))) m)).length=32:=by
   rw[e1,List.length_take,List.length_drop];omega
 refine w_cn (by rw[e2,e1];simp [Nat.blt];omega) ?_
 rw[cut]
 refine w_an (by show List.length _≤1000000000000;rw[hlen];decide) (w_lv fun x1 h1=> ?_)
 have t:=(Tree.pp (text_b _ (Nat.le_of_eq hlen))).2
 rw[hlen,show(Q45 (List.take 32 (List.drop (Int.toNat (IntKind.i64.wrap (f*32))) m))).m=x1 from h1.symm]at t
 refine⟨⟨t.1,fun k hk=> ?_⟩,rfl⟩
 show((x1.getD k 0).toNat:Int)=_
 rw[t.2 k hk,byt,e1]
 have g:(List.take 32 (List.drop (Int.toNat (f*32)) m)).getD (k/4) 0=m.getD ((f*32).toNat+k/4) 0:=by
   simp [List.getD_eq_getElem?_getD,List.getElem?_take,show k/4<32 by omega]
 rw[g,show((f*128).toNat+k)/4=(f*32).toNat+k/4 by omega,show((f*128).toNat+k)%4=k%4 by omega]
theorem low_eq(x:Int):Z4w x 4=bytesOf [IntKind.wrap .u8 (ishr .u32 x 0),IntKind.wrap .u8 (ishr .u32 x 8),IntKind.wrap .u8 (ishr .u32 x 16),IntKind.wrap .u8 (ishr .u32 x 24)]:=by kernel_rfl
theorem rpage_b{P:Nat}{m:List Int}(hm:Q0u P m){frame:Int}(f0:0≤frame)(f1:frame<P):(Q8t m frame).w (fun r=>isPg m frame r.1∧r.2=true):=by
 have hp:=Qd8 hm
 have hl:=hm.len
 have h2:=hm.p2
 unfold Q8t
 refine w_br (fun h=>by have:=of_decide_eq_true h;omega) (fun h=>w_lv fun x0 hx=>w_br (fun h1=>by have:=of_decide_eq_true h1;rw[hx,hp]at this;omega) (fun h1=> ?_))
 refine w_lp (inv:=fun z:Int×List Int=>0≤z.1∧z.1≤32∧(z.2.length:Int)=4*z.1∧ ∀k:Nat,(k:Int)<4*z.1→z.2.getD k 0=byt m ((frame*128).toNat+k)) (μ:=Qfs m frame) ⟨by decide,by decide,rfl,fun k hk=>by have hk:(k:Int)<4*0:=hk;omega⟩ (Nat.lt_succ_self _) (fun z hz=> ?_)
 obtain⟨z1,z2,z3,z4⟩:=hz
 refine w_br (fun hb=> ?_) (fun hb=> ?_)
 · have hb:=of_decide_eq_true hb
   have e:IntKind.wrap IntKind.i64 (IntKind.wrap IntKind.i64 (frame*32)+z.1)=frame*32+z.1:=by rw[IntKind.wrap_i64,IntKind.wrap_i64];omega
   refine w_cn (by rw[e];simp [Nat.blt];omega) (w_an (show(4:Int)≤1000000000000 by decide) (w_lv fun x1 h4=> ?_))
   rw[low_eq,shr0,e]at h4
   have l4:x1.length=4:=by rw[h4];rfl
   refine w_cn (decide_eq_true (by rw[Qm4,l4];omega)) (w_nx ?_)
   show(0≤IntKind.i64.wrap (z.1+1)∧IntKind.i64.wrap (z.1+1)≤32∧((z.2++Qa1 x1).length:Int)=4*IntKind.i64.wrap (z.1+1)∧ ∀k:Nat,(k:Int)<4*IntKind.i64.wrap (z.1+1)→(z.2++Qa1 x1).getD k 0=_)∧(32-IntKind.i64.wrap (z.1+1)).toNat<(32-z.1).toNat
   have ew:IntKind.i64.wrap (z.1+1)=z.1+1:=by rw[IntKind.wrap_i64];omega
   rw[ew]
   refine⟨⟨by omega,by omega,by rw[List.length_append,Qm4,l4];omega,fun k hk=> ?_⟩,by omega⟩
   rw[Z4b]
   split
   · exact z4 k (by omega)
   · rename_i hn
     have hk4:k-z.2.length<4:=by omega
     rw[Zaf _ _ (by omega),h4]
     have d:=b4d (m.getD (frame*32+z.1).toNat 0) hk4
     rw[Qlq _ _ (by rw[d];exact dig_lt _ _) (by simpa using hk4),d,byt]
     rw[show((frame*128).toNat+k)/4=(frame*32+z.1).toNat by omega,show((frame*128).toNat+k)%4=k-z.2.length by omega]
 · have hb:=of_decide_eq_false hb
   refine⟨⟨?_,fun k hk=> ?_⟩,rfl⟩
   · show(bytesOf z.2).length=128
     rw[Qh3];omega
   · show(((bytesOf z.2).getD k 0).toNat:Int)=_
     have e:=z4 k (by omega)
     rw[Qlq _ _ (by rw[e];exact dig_lt _ _) (by omega),e]
theorem Z6i{P:Nat}{m:List Int}(h:Q0u P m)(f:Int):Q4u m f=Qfw m f:=by
 by_cases hf:0≤f∧f<P
 · have a:=(Tree.pp (mpage_b h hf.1 hf.2)).2
   have b:=(Tree.pp (rpage_b h hf.1 hf.2)).2
   exact Prod.ext (pg_ext a.1 b.1) (a.2.trans b.2.symm)
 · have hp:=Qd8 h
   have e1:Q4u m f=([],false):=by
     simp only[Q4u,Q4a,Tree.m,letv,Z4u h,decide_eq_false hf];rfl
   have e2:Qfw m f=([],false):=by
     simp only[Qfw,Q8t,Tree.m,letv,hp]
     by_cases h0:f<0
     · rw[decide_eq_true h0];rfl
     · rw[decide_eq_false h0,decide_eq_true (show f≥P by omega)];rfl
   rw[e1,e2]
section
variable {P:Nat} {m:List Int} (h:Q0u P m)
include h
theorem Z7y{f:Int}(f0:0≤f)(f1:f<P){s:List UInt8}(hs:s.length=128):Q2k m f s=(Qj5 m f s,true):=by
 have a:=(Tree.pp (Qxk h f0 f1 hs)).2
 have b:=(Tree.pp (fill_b h f0 f1 s)).2
 refine Prod.ext (Zar (a.2.1.len.trans b.1.len.symm) a.2.1.u b.1.u fun k=> ?_) a.1
 have e:((min s.length 128:Nat):Int)=128:=by rw[hs];rfl
 have b2:=b.2 k
 have a2:=a.2.2 k
 rw[e]at b2
 exact a2.trans b2.symm
theorem Z7c{f:Int}(f0:0≤f)(f1:f<P){s r:List UInt8}(hs:s.length≤128)(hr:isPg m f r):Q2k m f (s++r.drop s.length)=(Qj5 m f s,true):=by
  have hl:(s++r.drop s.length).length=128:=by have:=hr.1;simp;omega
  have a:=(Tree.pp (Qxk h f0 f1 hl)).2
  have b:=(Tree.pp (fill_b h f0 f1 s)).2
  refine Prod.ext (Zar (a.2.1.len.trans b.1.len.symm) a.2.1.u b.1.u fun k=> ?_) a.1
  have b2:=b.2 k
  have a2:=a.2.2 k
  refine a2.trans (Eq.trans ?_ b2.symm)
  by_cases hc:f*128≤(k:Int)∧(k:Int)<f*128+128
  · rw [if_pos hc,Z4b]
    by_cases hd:(k-f*128).toNat<s.length
    · rw[if_pos hd,if_pos (by omega)]
    · rw[if_neg hd,if_neg (by omega)]
      have e:(r.drop s.length).getD ((k-f*128).toNat-s.length) 0=r.getD (k-f*128).toNat 0:=by
        simp [List.getD_eq_getElem?_getD,show s.length+((k-f*128).toNat-s.length)=(k-f*128).toNat by omega]
      rw[e,hr.2 _ (by omega),show(f*128).toNat+(k-f*128).toNat=k by omega]
  · rw[if_neg hc,if_neg (by omega)]
theorem Qfd{a:Int}(ha:U a){size:Int}(hs:size=1∨size=4):Q25 m a size=decide (a%size=0∧a<128*P):=by
 have hq:=Qd8 h
 have h2:=h.p2
 have a0:=ha.1
 have e:IntKind.wrap IntKind.u32 size=size:=by rcases hs with rfl|rfl<;>decide
 have e0:decide (IntKind.wrap IntKind.u32 size≠0)=true:=by rcases hs with rfl|rfl<;>decide
 have t:Int.tmod a (IntKind.wrap IntKind.u32 size)=a%size:=by rw[e,Int.tmod_eq_emod_of_nonneg a0]
 have l: ∀x,x=Q3c m→a%size=0→decide (a<IntKind.wrap IntKind.u32 (IntKind.wrap IntKind.i64 (128*x)))=decide (a%size=0∧a<128*P):=fun x hx hz=>by
   rw[hx,hq,IntKind.wrap_u32,IntKind.wrap_i64]
   exact decide_eq_decide.2 ⟨fun h=>⟨hz,by omega⟩,fun h=>by omega⟩
 refine Tree.post (Q7d m a size) (W:=fun b=>b=decide (a%size=0∧a<128*P)) ?_
 unfold Q7d
 refine w_br (fun h1=>w_br (fun h4=> ?_) (fun _=> ?_)) (fun _=> ?_)
 · have h1: ¬size=1:=by simpa using h1
   have h4: ¬size=4:=by simpa using h4
   omega
 all_goals
   refine w_cn e0 (w_br (fun hb=>w_lv fun x hx=>l x hx ?_) (fun hb=> ?_))
   · rw[t]at hb;exact eq_of_beq hb
   · rw[t]at hb
     exact(decide_eq_false (fun h=>by rw[h.1]at hb;cases hb)).symm
theorem Qy5{a:Int}(ha:U a){size:Int}(hs:size=1∨size=4):Qf5 m a size=Q25 m a size:=by
 rw[Qfd h ha hs]
 have hq:=Qxe h
 have h2:=h.p2
 have a0:=ha.1
 have a1:=ha.2
 have e:IntKind.wrap IntKind.u32 size=size:=by rcases hs with rfl|rfl<;>decide
 have e0:decide (IntKind.wrap IntKind.u32 size≠0)=true:=by rcases hs with rfl|rfl<;>decide
 have t:Int.tmod a (IntKind.wrap IntKind.u32 size)=a%size:=by rw[e,Int.tmod_eq_emod_of_nonneg a0]
 have l: ∀x,x=Q0q m→a%size=0→decide (IntKind.wrap IntKind.u64 (IntKind.wrap IntKind.u64 a+IntKind.wrap IntKind.u64 size)≤IntKind.wrap IntKind.u64 (IntKind.wrap IntKind.u64 x*128))=decide (a%size=0∧a<128*P):=fun x hx hz=>by
   rw[hx,hq]
   simp only[IntKind.wrap_u64]
   refine decide_eq_decide.2 ⟨fun h=>⟨hz,?_⟩,fun h=> ?_⟩<;>rcases hs with rfl|rfl<;>omega
 refine Tree.post (Q3o m a size) (W:=fun b=>b=decide (a%size=0∧a<128*P)) ?_
 unfold Q3o
 refine w_br (fun h1=>w_br (fun h4=> ?_) (fun _=> ?_)) (fun _=> ?_)
 · have h1: ¬size=1:=by simpa using h1
   have h4: ¬size=4:=by simpa using h4
   omega
 all_goals
   refine w_cn e0 (w_br (fun hb=> ?_) (fun hb=>w_lv fun x hx=>l x hx ?_))
   · rw[t]at hb
     exact(decide_eq_false (fun h=>by rw[h.1]at hb;cases hb)).symm
   · rw[t]at hb;simpa using hb
end
theorem fldj(w:Int):Q2r w 0 8=iand .u32 (ishr .u32 w 0) 255∧Q2r w 8 8=iand .u32 (ishr .u32 w 8) 255∧Q2r w 16 8=iand .u32 (ishr .u32 w 16) 255∧Q2r w 24 8=iand .u32 (ishr .u32 w 24) 255:=
 ⟨by kernel_rfl,by kernel_rfl,by kernel_rfl,by kernel_rfl⟩
theorem setj(w v:Int):Q74 w 0 8 v=putW w v 0∧Q74 w 8 8 v=putW w v 8∧Q74 w 16 8 v=putW w v 16∧Q74 w 24 8 v=putW w v 24:=
 ⟨by kernel_rfl,by kernel_rfl,by kernel_rfl,by kernel_rfl⟩
theorem sh_same{a:Int}(ha:U a):IntKind.wrap .i64 (IntKind.wrap .i64 (Int.tmod a 4)*8)=8*(a%4)∧IntKind.wrap .u32 (8*Int.tmod a 4)=8*(a%4):=by
 obtain⟨a0,a1⟩:=ha
 rw[Int.tmod_eq_emod_of_nonneg a0]
 exact⟨by rw[IntKind.wrap_i64,IntKind.wrap_i64];omega,by rw[IntKind.wrap_u32];omega⟩
section
variable {P:Nat} {m:List Int} (h:Q0u P m)
include h
theorem Qlu{a:Int}(ha:U a){size:Int}(hs:size=1∨size=4):Q43 m a size=Q1b m a size:=by
 have e:=Qy5 h ha hs
 obtain⟨s1,s2⟩:=sh_same ha
 have f:Q2r (m.getD (Int.toNat (IntKind.wrap .u32 (Int.tdiv a 4))) 0) (8*(a%4)) 8=iand .u32 (ishr .u32 (m.getD (Int.toNat (IntKind.wrap .u32 (Int.tdiv a 4))) 0) (8*(a%4))) 255:=by
   obtain⟨f0,f1,f2,f3⟩:=fldj (m.getD (Int.toNat (IntKind.wrap .u32 (Int.tdiv a 4))) 0)
   have:a%4=0∨a%4=1∨a%4=2∨a%4=3:=by omega
   rcases this with h|h|h|h<;>rw[h]
   · exact f0
   · exact f1
   · exact f2
   · exact f3
 simp only[Q43,Q7e,Q1b,Q4z,Tree.m,letv,e,s1,s2,f]
omit h in
theorem Z34(a:Int)(size:Int):(Q1b m a size).2=Q25 m a size:=by
 simp only[Q1b,Q4z,Tree.m,letv]
 cases Q25 m a size
 · rfl
 · cases size==1<;>rfl
theorem Z22{a:Int}(ha:U a){size:Int}(hs:size=1∨size=4)(v:Int):Q8n m a size v=bif Q25 m a size then(Q9m m a size v,true) else(m,false):=by
 have hcl:Q02 m=m:=rfl
 have e:=Qy5 h ha hs
 obtain⟨s1,s2⟩:=sh_same ha
 have f: ∀w,Q74 w (8*(a%4)) 8 v=ior .u32 (Qey .u32 w (ishl .u32 255 (8*(a%4)))) (ishl .u32 (iand .u32 v 255) (8*(a%4))):=fun w=>by
   obtain⟨f0,f1,f2,f3⟩:=setj w v
   have:a%4=0∨a%4=1∨a%4=2∨a%4=3:=by omega
   rcases this with h|h|h|h<;>rw[h]
   · exact f0
   · exact f1
   · exact f2
   · exact f3
 simp only[Q8n,Q61,Q9m,Qci,Tree.m,letv,hcl,e,s1,s2,f]
 rcases hs with rfl|rfl<;>cases Q25 m a _<;>rfl
end
end Go.Proofs.YtdkiadhigcfmkaaGreat
namespace Go.Proofs.YtdkiadhigcfmkaaGreat
open Go Go.GD
set_option linter.unusedVariables false
set_option linter.unusedSimpArgs false
set_option maxRecDepth 100000
section
variable {P:Nat} {m:List Int} (h:Q0u P m)
include h
theorem walk_same{root va:Int}(hr:U root)(hv:U va){access:Int}(ha:access=1∨access=2∨access=3):Qgj m root va access=Q5s m root va access:=by
 have hp:=Qd8 h
 have h2:=h.p2
 have hlen:=h.len
 obtain⟨r1,r2⟩:=hr
 obtain⟨v1,v2⟩:=hv
 have hpg: ∀{f:Int},U f→Q9g m f=decide (f<P):=fun hf=>pageP_eq h hf
 have eP:IntKind.wrap .u32 (P:Int)=P:=by rw[IntKind.wrap_u32];omega
 have kn:Qc7 access=true:=by rcases ha with rfl|rfl|rfl<;>rfl
 have ca:Qhz access=(Q32 access,true):=by rcases ha with rfl|rfl|rfl<;>rfl
 simp only[Qgj,Q7,Q5s,Q91,Tree.m,letv,hp,eP,kn,ca,hpg ⟨r1,r2⟩]
 by_cases c1:va≥4096
 · rw[decide_eq_true c1];rfl
 by_cases c2:root<P
 · have eE:IntKind.wrap IntKind.u32 (IntKind.wrap IntKind.u32 (root*128)+IntKind.wrap IntKind.u32 (4*IntKind.wrap IntKind.u32 (Int.tdiv va 128)))=root*128+4*(va/128):=by
     rw[Int.tdiv_eq_ediv_of_nonneg v1,IntKind.wrap_u32,IntKind.wrap_u32,IntKind.wrap_u32,IntKind.wrap_u32];omega
   have hE:U (root*128+4*(va/128)):=⟨by omega,by omega⟩
   have wi:Q25 m (root*128+4*(va/128)) 4=true:=by
     rw[Qfd h hE (.inr rfl)];exact decide_eq_true ⟨by omega,by omega⟩
   rw[decide_eq_false c1,decide_eq_true c2,decide_eq_false (show¬root≥P by omega),eE,Qlu h hE (.inr rfl),Z34,wi]
   have ld:(Q1b m (root*128+4*(va/128)) 4).1=m.getD (Int.toNat (IntKind.wrap .u32 (Int.tdiv (root*128+4*(va/128)) 4))) 0:=by
     simp only[Q1b,Q4z,Tree.m,letv,wi];rfl
   rw[ld]
   generalize m.getD (Int.toNat (IntKind.wrap .u32 (Int.tdiv (root*128+4*(va/128)) 4))) 0=w
   have fo:Qd3 w=iand .u32 (ishr .u32 w 8) 255:=(fld w).2.2.2.2
   rw[fo,hpg (Qzd _ _)]
   have hge:decide (iand .u32 (ishr .u32 w 8) 255≥(P:Int))=!decide (iand .u32 (ishr .u32 w 8) 255<(P:Int)):=by
     by_cases hq:iand .u32 (ishr .u32 w 8) 255<(P:Int)
     · rw[decide_eq_true hq,decide_eq_false (by omega)];rfl
     · rw[decide_eq_false hq,decide_eq_true (by omega)];rfl
   rw[hge]
   generalize decide (iand .u32 (ishr .u32 w 8) 255<(P:Int))=d
   rcases ha with rfl|rfl|rfl
   · show _=(bif iand .u32 w 1==0 then _ else bif iand .u32 w 4==0 then _ else bif !d then _ else _)
     have:Qa w 1=(bif iand .u32 w 1==0 then false else !(iand .u32 w 4==0)):=rfl
     rw[this]
     cases iand .u32 w 1==0<;>cases iand .u32 w 4==0<;>cases d<;>rfl
   · show _=(bif iand .u32 w 1==0 then _ else bif !d then _ else _)
     have:Qa w 2=(bif iand .u32 w 1==0 then false else true):=rfl
     rw[this]
     cases iand .u32 w 1==0<;>cases d<;>rfl
   · show _=(bif iand .u32 w 1==0 then _ else bif iand .u32 w 2==0 then _ else bif !d then _ else _)
     have:Qa w 3=(bif iand .u32 w 1==0 then false else !(iand .u32 w 2==0)):=rfl
     rw[this]
     cases iand .u32 w 1==0<;>cases iand .u32 w 2==0<;>cases d<;>rfl
 · rw[decide_eq_false c1,decide_eq_false c2,decide_eq_true (show root≥P by omega)];rfl
theorem Zgs{a:Int}(ha:U a)(access:Int):Qao m a access=Qm3 m a access:=by
 have hcl:Q02 m=m:=rfl
 have hl:=h.len
 have a0:=ha.1
 simp only[Qao,Q67,Qm3,Qc5,Tree.m,letv,Qlu h ha (.inr rfl),Z34,Z22 h ha (.inr rfl),hcl]
 cases hw:Q25 m a 4
 · rfl
 · rw[Qfd h ha (.inr rfl)]at hw
   have hw:=of_decide_eq_true hw
   have wi:Q25 m a 4=true:=by rw[Qfd h ha (.inr rfl)];exact decide_eq_true hw
   have ld:(Q1b m a 4).1=m.getD (Int.toNat (IntKind.wrap .u32 (Int.tdiv a 4))) 0:=by
     simp only[Q1b,Q4z,Tree.m,letv,wi];rfl
   have pu: ∀v,Q9m m a 4 v=m.set (Int.toNat (IntKind.wrap .u32 (Int.tdiv a 4))) v:=fun v=>rfl
   rw[ld,pu,pu]
   have hi:Int.toNat (IntKind.wrap .u32 (Int.tdiv a 4))<m.length:=by
     rw[Int.tdiv_eq_ediv_of_nonneg a0,IntKind.wrap_u32];omega
   generalize Int.toNat (IntKind.wrap .u32 (Int.tdiv a 4))=i at*
   rw[Qer hi,List.set_set]
   rfl
end
theorem Ql6{c:Q03}(h0:0≤c.Csr.a0)(h:c.Csr.a0≤31)(k b:Int):Q40 c k b=Q24 c k b:=by
 have e:=eq_of_beq (Qpi (fun s=>Qey .u32 (ior .u32 (Q87 (Q87 s 1 8) 2 16) 1) 2==ior .u32 (Qey .u32 (ior .u32 (ior .u32 (Qey .u32 s 24) (IntKind.wrap .u32 (8*Qaa (iand .u32 s 1 !=0)))) (IntKind.wrap .u32 (16*Qaa (iand .u32 s 2 !=0)))) 2) 1) 32 (by kernel_rfl) h0 (by omega))
 simp only[Q40,Qic,Q24,Qgm,Tree.m,letv,e]
theorem Zbz{c:Q03}(h0:0≤c.Csr.a0)(h:c.Csr.a0≤31):Qcg c=Qfi c:=by
 have e:=eq_of_beq (Qpi (fun s=>Q87 (Q87 s 8 1) 16 2==ior .u32 (ior .u32 (Qey .u32 s 3) (IntKind.wrap .u32 (1*Qaa (iand .u32 s 8 !=0)))) (IntKind.wrap .u32 (2*Qaa (iand .u32 s 16 !=0)))) 32 (by kernel_rfl) h0 (by omega))
 simp only[Qcg,Qdc,Qfi,Qbb,Tree.m,letv,e]
theorem Zf7{c:Q03}(h0:0≤c.Csr.a0)(h:c.Csr.a0≤31):Qiq c=(!Qaw c&&(iand .u32 c.Csr.a0 4 !=0)):=
 eq_of_beq (Qpi (fun s=>(iand .u32 s 5==4)==(!(iand .u32 s 1 !=0)&&(iand .u32 s 4 !=0))) 32 (by kernel_rfl) h0 (by omega))
theorem Qvb(c:Q03){r:Int}(hr:0≤r∧r<16)(v:Int):Q9u c r v=Q1i c r v:=by
 simp only[Q9u,Qa5,Q1i,Qcr,Tree.m]
 by_cases h:r=0
 · subst h;rfl
 · rw[decide_eq_true (show r>0 by omega),decide_eq_true hr.2,show(r !=0)=true by simpa using h];rfl
theorem div_same{a b:Int}(ha:U a)(hb:U b):Qan a b=Qam a b:=by
  obtain⟨a0,a1⟩:=ha
  obtain⟨b0,b1⟩:=hb
  have i: ∀x,IntKind.wrap .i64 (IntKind.wrap .i32 x)=IntKind.wrap .i32 x:=fun x=>by rw[IntKind.wrap_i64,IntKind.wrap_i32];omega
  have r32: ∀x,-2147483648≤IntKind.wrap .i32 x∧IntKind.wrap .i32 x<2147483648:=fun x=>by rw[IntKind.wrap_i32];omega
  have q32: ∀x y:Int,-2147483648≤x∧x<2147483648→ -2147483648≤Int.tdiv x y∧Int.tdiv x y≤2147483648:=fun x y hx=>by
    have h1:(Int.tdiv x y).natAbs≤x.natAbs:=by rw[Int.natAbs_tdiv];exact Nat.div_le_self _ _
    omega
  simp only[Qan,Q7c,Qam,Q9o,Tree.m,i]
  cases hb:b==0
  · have w: ∀z,IntKind.wrap .u32 (IntKind.wrap .i32 z)=IntKind.wrap .u32 z:=fun z=>by rw[IntKind.wrap_i32,IntKind.wrap_u32,IntKind.wrap_u32];omega
    have w2:IntKind.wrap .i64 (Int.tdiv (IntKind.wrap .i32 a) (IntKind.wrap .i32 b))=Int.tdiv (IntKind.wrap .i32 a) (IntKind.wrap .i32 b):=by
      have:=q32 _ (IntKind.wrap .i32 b) (r32 a)
      rw[IntKind.wrap_i64];omega
    rw[w,w2]
    cases h1:a==2147483648
    · rfl
    · cases h2:b==4294967295
      · rfl
      · have h1:=eq_of_beq h1
        have h2:=eq_of_beq h2
        subst h1;subst h2
        rfl
  · rfl
theorem alu_same{op a b:Int}(h0:1≤op)(h1:op≤23)(ha:U a)(hb:U b):Q3k op a b=Qbl op a b:=by
 have sub:IntKind.wrap .u32 (a+IntKind.wrap .u32 (0-b))=IntKind.wrap .u32 (a-b):=by
   rw[IntKind.wrap_u32,IntKind.wrap_u32,IntKind.wrap_u32];omega
 have hop:op=1∨op=2∨op=3∨op=4∨op=5∨op=6∨op=7∨op=8∨op=9∨op=10∨op=11∨op=12∨op=13∨op=14∨op=15∨op=16∨op=17∨op=18∨op=19∨op=20∨op=21∨op=22∨op=23:=by omega
 have d:=div_same ha hb
 rcases hop with rfl|rfl|rfl|rfl|rfl|rfl|rfl|rfl|rfl|rfl|rfl|rfl|rfl|rfl|rfl|rfl|rfl|rfl|rfl|rfl|rfl|rfl|rfl
 · rfl
 · show(IntKind.wrap .u32 (a+IntKind.wrap .u32 (0-b)),true)=(IntKind.wrap .u32 (a-b),true)
   rw[sub]
 · rfl
 · rfl
 · rfl
 · rfl
 · rfl
 · rfl
 · rfl
 · show((Qan a b).1,true)=((Qam a b).1,true)
   rw[d]
 · show((Qan a b).2,true)=((Qam a b).2,true)
   rw[d]
 all_goals rfl
theorem Qkv{P:Nat}{m:List Int}(h:Q0u P m){c:Q03}(hc:Q2g c)(hst:c.Csr.a0≤31){va:Int}(hv:U va){size:Int}(hs:size=1∨size=4){access:Int}(ha:access=1∨access=2∨access=3):Q1n c m va size access=((Q0w c m va size access).1,(Q0w c m va size access).2.2,(Q0w c m va size access).2.1):=by
 have hcl:Q02 m=m:=rfl
 have kn:Qc7 access=true:=by rcases ha with rfl|rfl|rfl<;>rfl
 have ca:Qob access=(Q32 access,true):=by rcases ha with rfl|rfl|rfl<;>rfl
 have pg:=Zf7 hc.a0.1 hst
 have wk:=walk_same h hc.a6 hv ha
 have tc:Qao m (Q5s m c.Csr.a6 va access).Entry access=Qm3 m (Q5s m c.Csr.a6 va access).Entry access:=Zgs h (Tree.pp (walk_w h hc.a6 hv access)).2.2.1 access
 have sz:(bif size !=1 then bif size !=4 then false else true else true)=true:=by rcases hs with rfl|rfl<;>rfl
 simp only[Q1n,Q70,Q0w,Q6x,Tree.m,letv,hcl,kn,ca,pg,wk,tc,Qlu h hv hs,Z34]
 rcases hs with rfl|rfl<;>
 · show(bif _ then _ else _)=_
   cases Int.tmod va _ !=0<;>cases Qaw c<;>cases iand .u32 c.Csr.a0 4 !=0<;>cases(Q5s m c.Csr.a6 va access).Cause !=0<;>cases Q25 m va _<;>rfl
end Go.Proofs.YtdkiadhigcfmkaaGreat
namespace Go.Proofs.YtdkiadhigcfmkaaGreat
open Go Go.GD
set_option linter.unusedVariables false
set_option linter.unusedSimpArgs false
set_option maxRecDepth 100000
theorem Qq5{α:Type}{Q:α→Prop}{c:Bool}{x y:α}(hx:Q x)(hy:Q y):Q (cond c x y):=by cases c<;>assumption
theorem walk_al(m:List Int)(root:Int){va:Int}(hv:U va)(access:Int):(Q5s m root va access).Cause=0→(Q5s m root va access).Addr%4=va%4:=by
 have hc:Q32 access≠0:=by
   simp only[Q32,Q7x,Tree.m]
   cases access==1<;>cases access==3<;>simp
 have q :(fun t:Q10=>t.Cause=0→t.Addr%4=va%4) (Q5s m root va access):=by
   simp only[Q5s,Q91,Tree.m,letv]
   repeat'(first
     |exact fun e=>absurd e hc
     | (intro _
        show IntKind.wrap .u32 (IntKind.wrap .u32 (_*128)+Int.tmod va 128)%4=va%4
        rw[Int.tmod_eq_emod_of_nonneg hv.1,IntKind.wrap_u32,IntKind.wrap_u32];omega)
     |refine Qq5 (Q:=fun t:Q10=>t.Cause=0→t.Addr%4=va%4) ?_ ?_)
 exact q
theorem reach_al{c:Q03}{m:List Int}{va:Int}(hv:U va){size:Int}(hs:size=1∨size=4){access:Int}(ha:access=1∨access=2∨access=3):(Q0w c m va size access).2.1=0→(Q0w c m va size access).1%size=0:=by
  have kn:Qc7 access=true:=by rcases ha with rfl|rfl|rfl<;>rfl
  have hc:Q32 access≠0:=by
    simp only[Q32,Q7x,Tree.m]
    cases access==1<;>cases access==3<;>simp
  rcases hs with rfl|rfl
  · intro _;omega
  simp only[Q0w,Q6x,Tree.m,letv,kn]
  show(bif Int.tmod va 4 !=0 then((0:Int),(3:Int),m) else _).2.1=0→(bif Int.tmod va 4 !=0 then((0:Int),(3:Int),m) else _).1%4=0
  rw[Int.tmod_eq_emod_of_nonneg hv.1]
  cases hz:va%4 !=0
  · have hz:va%4=0:=by simpa using hz
    have w:=walk_al m c.Csr.a6 hv access
    cases hp:Qiq c
    · cases hw:Q25 m va 4
      · exact fun e=>absurd e hc
      · exact fun _=>hz
    · cases hq:(Q5s m c.Csr.a6 va access).Cause !=0
      · have hq:(Q5s m c.Csr.a6 va access).Cause=0:=by simpa using hq
        exact fun _=>(w hq).trans hz
      · have hq: ¬(Q5s m c.Csr.a6 va access).Cause=0:=by simpa using hq
        exact fun e=>absurd e hq
  · intro e;cases e
def eff0:Q1:={Kind:=0,Port:=0,Reg:=0,Value:=0}
def Q50(c:Q03)(m:List Int)(i:Q0g):Q03×List Int×Q1:=
 bif i.Op==32 then((Q5z c m i).1,(Q5z c m i).2,eff0) else bif i.Op==33 then((Q5z c m i).1,(Q5z c m i).2,eff0) else bif i.Op==34 then((Q5z c m i).1,(Q5z c m i).2,eff0)
 else bif i.Op==35 then((Q7l c m i).1,(Q7l c m i).2,eff0) else bif i.Op==36 then((Q7l c m i).1,(Q7l c m i).2,eff0) else((Qk1 c i).1,m,(Qk1 c i).2)
def regX(c:Q03)(r:Int):Int:=List.getD (A16.l c.X) (Int.toNat r) 0
def Qhw(c:Q03)(m:List Int)(i:Q0g):Q03×Q1×List Int:=
 bif decide (i.Op≥56) then((Qja c i).1,(Qja c i).2,m) else bif decide (i.Op≥40) then(Qyl c i,eff0,m) else bif decide (i.Op≥32) then((Q49 c m i).1,eff0,(Q49 c m i).2)
 else bif i.Op==24 then({X:=(Q1i c i.A (ishl .u32 (IntKind.wrap .u32 i.Imm) 16)).X,Pc:=IntKind.wrap .u32 ((Q1i c i.A (ishl .u32 (IntKind.wrap .u32 i.Imm) 16)).Pc+4),Csr:=(Q1i c i.A (ishl .u32 (IntKind.wrap .u32 i.Imm) 16)).Csr},eff0,m)
 else bif decide (i.Op≤13) then
   ({X:=(Q1i c i.A (Qbl i.Op (regX c i.B) (regX c i.C)).1).X,Pc:=IntKind.wrap .u32 ((Q1i c i.A (Qbl i.Op (regX c i.B) (regX c i.C)).1).Pc+4),Csr:=(Q1i c i.A (Qbl i.Op (regX c i.B) (regX c i.C)).1).Csr},eff0,m)
 else({X:=(Q1i c i.A (Qbl i.Op (regX c i.B) (IntKind.wrap .u32 i.Imm)).1).X,Pc:=IntKind.wrap .u32 ((Q1i c i.A (Qbl i.Op (regX c i.B) (IntKind.wrap .u32 i.Imm)).1).Pc+4),Csr:=(Q1i c i.A (Qbl i.Op (regX c i.B) (IntKind.wrap .u32 i.Imm)).1).Csr},eff0,m)
def isOp(op:Int):Prop:=op=1∨op=2∨op=3∨op=4∨op=5∨op=6∨op=7∨op=8∨op=9∨op=10∨op=11∨op=12∨op=13∨op=16∨op=17∨op=18∨op=19∨op=20∨op=21∨op=22∨op=23∨op=24∨op=32∨op=33∨op=34∨op=35∨op=36∨op=40∨op=41∨op=42∨op=43∨op=44∨op=45∨op=48∨op=49∨op=56∨op=57∨op=58∨op=59∨op=60∨op=61∨op=62∨op=63∨op=64
theorem set_pc(c:Q03)(r v:Int):(Q1i c r v).Pc=c.Pc∧(Q1i c r v).Csr=c.Csr:=by
 simp only[Q1i,Qcr,Tree.m]
 cases decide (r>0)
 · exact⟨rfl,rfl⟩
 · cases decide (r<16)<;>exact⟨rfl,rfl⟩
def adv(c:Q03):Q03:={X:=c.X,Pc:=IntKind.wrap .u32 (c.Pc+4),Csr:=c.Csr}
def va(c:Q03)(B Imm:Int):Int:=IntKind.wrap .u32 (List.getD (A16.l c.X) (Int.toNat B) 0+IntKind.wrap .u32 Imm)
def ldP(c:Q03)(A v size:Int)(f:Int→Int)(y:Int×List Int×Int):Q03×List Int:=bif y.2.2 !=0 then(Q40 c y.2.2 v,y.2.1) else(adv (Q9u c A (f (Q43 y.2.1 y.1 size).1)),y.2.1)
def ldR(c:Q03)(A v size:Int)(f:Int→Int)(x:Int×Int×List Int):Q03×List Int:=bif x.2.1 !=0 then(Q24 c x.2.1 v,x.2.2) else(adv (Q1i c A (f (Q1b x.2.2 x.1 size).1)),x.2.2)
def stP(c:Q03)(A v size:Int)(y:Int×List Int×Int):Q03×List Int:=bif y.2.2 !=0 then(Q40 c y.2.2 v,y.2.1) else(adv c,(Q8n y.2.1 y.1 size (List.getD (A16.l c.X) (Int.toNat A) 0)).1)
def stR(c:Q03)(A v size:Int)(x:Int×Int×List Int):Q03×List Int:=bif x.2.1 !=0 then(Q24 c x.2.1 v,x.2.2) else(adv c,Q9m x.2.2 x.1 size (List.getD (A16.l c.X) (Int.toNat A) 0))
theorem ld_eq(c:Q03)(m:List Int)(A B C Imm:Int):
   (Q5z c m ⟨32,A,B,C,Imm⟩=ldP c A (va c B Imm) 4 (fun v=>v) (Q1n c m (va c B Imm) 4 2)∧Q49 c m ⟨32,A,B,C,Imm⟩=ldR c A (va c B Imm) 4 (fun v=>v) (Q0w c m (va c B Imm) 4 2))∧
   (Q5z c m ⟨33,A,B,C,Imm⟩=ldP c A (va c B Imm) 1 (fun v=>Q26 v 8) (Q1n c m (va c B Imm) 1 2)∧Q49 c m ⟨33,A,B,C,Imm⟩=ldR c A (va c B Imm) 1 (fun v=>Q2x v 8) (Q0w c m (va c B Imm) 1 2))∧
   (Q5z c m ⟨34,A,B,C,Imm⟩=ldP c A (va c B Imm) 1 (fun v=>v) (Q1n c m (va c B Imm) 1 2)∧Q49 c m ⟨34,A,B,C,Imm⟩=ldR c A (va c B Imm) 1 (fun v=>v) (Q0w c m (va c B Imm) 1 2))∧
   (Q7l c m ⟨35,A,B,C,Imm⟩=stP c A (va c B Imm) 4 (Q1n c m (va c B Imm) 4 3)∧Q49 c m ⟨35,A,B,C,Imm⟩=stR c A (va c B Imm) 4 (Q0w c m (va c B Imm) 4 3))∧
   (Q7l c m ⟨36,A,B,C,Imm⟩=stP c A (va c B Imm) 1 (Q1n c m (va c B Imm) 1 3)∧Q49 c m ⟨36,A,B,C,Imm⟩=stR c A (va c B Imm) 1 (Q0w c m (va c B Imm) 1 3)):=
 ⟨⟨by kernel_rfl,by kernel_rfl⟩,⟨by kernel_rfl,by kernel_rfl⟩,⟨by kernel_rfl,by kernel_rfl⟩,⟨by kernel_rfl,by kernel_rfl⟩,⟨by kernel_rfl,by kernel_rfl⟩⟩
theorem sx_load{P:Nat}{m:List Int}(h:Q0u P m)(a:Int):Q26 (Q1b m a 1).1 8=Q2x (Q1b m a 1).1 8:=by
 have: ∀x:Int×Bool,(∃w,U w∧x=(iand .u32 w 255,true))∨x=(0,false)→Q26 x.1 8=Q2x x.1 8:=fun x hx=>by
   rcases hx with⟨w,hw,rfl⟩|rfl
   · have e:=m255 hw
     exact sx8 (by show 0≤iand .u32 w 255;omega) (by show iand .u32 w 255<256;omega)
   · rfl
 refine this _ ?_
 simp only[Q1b,Q4z,Tree.m,letv]
 cases Q25 m a 1
 · exact .inr rfl
 · exact .inl ⟨_,Qo (Qiw h.u _) _,rfl⟩
section
variable {P:Nat} {m:List Int} (h:Q0u P m) {c:Q03} (hc:Q2g c) (hst:c.Csr.a0≤31)
include h hc hst
omit hst in
theorem Zbm{v:Int}(hv:U v){size:Int}(hs:size=1∨size=4)(access:Int):Q0u P (Q0w c m v size access).2.2∧U (Q0w c m v size access).1∧((Q0w c m v size access).2.1=0→(Q0w c m v size access).1<128*P):=(Tree.pp (Z59 h hc hv hs access)).2
theorem Zcr{A v:Int}(hA:0≤A∧A<16)(hv:U v){size:Int}(hs:size=1∨size=4){f g:Int→Int}(hf: ∀{m':List Int},Q0u P m'→ ∀a,f (Q1b m' a size).1=g (Q1b m' a size).1):ldP c A v size f (Q1n c m v size 2)=ldR c A v size g (Q0w c m v size 2):=by
 rw[Qkv h hc hst hv hs (.inr (.inl rfl))]
 obtain⟨k,u,_⟩:=Zbm h hc hv hs 2
 generalize Q0w c m v size 2=x at*
 simp only[ldP,ldR,Qlu k u hs,Ql6 hc.a0.1 hst,Qvb c hA,hf k]
theorem st_same{A v:Int}(hv:U v){size:Int}(hs:size=1∨size=4):stP c A v size (Q1n c m v size 3)=stR c A v size (Q0w c m v size 3):=by
 rw[Qkv h hc hst hv hs (.inr (.inr rfl))]
 obtain⟨k,u,b⟩:=Zbm h hc hv hs 3
 have al:=reach_al (c:=c) (m:=m) hv hs (access:=3) (.inr (.inr rfl))
 generalize Q0w c m v size 3=x at*
 simp only[stP,stR,Z22 k u hs,Ql6 hc.a0.1 hst,Qfd k u hs]
 cases hq:x.2.1 !=0
 · have hq:x.2.1=0:=by simpa using hq
   rw[decide_eq_true ⟨al hq,b hq⟩];rfl
 · rfl
end
end Go.Proofs.YtdkiadhigcfmkaaGreat
namespace Go.Proofs.YtdkiadhigcfmkaaGreat
open Go Go.GD
set_option linter.unusedVariables false
set_option linter.unusedSimpArgs false
set_option maxRecDepth 100000
theorem write_pc(c:Q03)(k v:Int):(Qfb c k v).Pc=c.Pc:=by
 simp only[Qfb,Qau,Tree.m]
 repeat'(first|rfl|refine Qq5 (Q:=fun x:Q03=>x.Pc=c.Pc) ?_ ?_)
def setP(c:Q03)(A v p:Int):Q03:={X:=(Q9u c A v).X,Pc:=p,Csr:=(Q9u c A v).Csr}
def setR(c:Q03)(A v p:Int):Q03:={X:=(Q1i c A v).X,Pc:=p,Csr:=(Q1i c A v).Csr}
def nxt(c:Q03):Int:=IntKind.wrap .u32 (c.Pc+4)
theorem Z8(c:Q03){A:Int}(hA:0≤A∧A<16)(v p:Int):setP c A v p=setR c A v p:=by
 unfold setP setR;rw[Qvb c hA]
theorem Zbw(c:Q03)(A v:Int):adv (Q1i c A v)=setR c A v (nxt c):=by
 unfold adv setR nxt;rw[(set_pc c A v).1]
theorem brc(t:Bool)(x y:Q03)(m:List Int):((bif t then(x,eff0) else(y,eff0)).1,m,(bif t then(x,eff0) else(y,eff0)).2)=((bif t then x else y),m,eff0):=by cases t<;>rfl
def isOpB(op:Int):Bool:=decide (op=1)||decide (op=2)||decide (op=3)||decide (op=4)||decide (op=5)||decide (op=6)||decide (op=7)||decide (op=8)||decide (op=9)||decide (op=10)||decide (op=11)||decide (op=12)||decide (op=13)||decide (op=16)||decide (op=17)||decide (op=18)||decide (op=19)||decide (op=20)||decide (op=21)||decide (op=22)||decide (op=23)||decide (op=24)||decide (op=32)||decide (op=33)||decide (op=34)||decide (op=35)||decide (op=36)||decide (op=40)||decide (op=41)||decide (op=42)||decide (op=43)||decide (op=44)||decide (op=45)||decide (op=48)||decide (op=49)||decide (op=56)||decide (op=57)||decide (op=58)||decide (op=59)||decide (op=60)||decide (op=61)||decide (op=62)||decide (op=63)||decide (op=64)
section
variable {P:Nat} {m:List Int} (h:Q0u P m) {c:Q03} (hc:Q2g c) (hst:c.Csr.a0≤31) {A B C Imm:Int} (hA:0≤A∧A<16)
include h hc hst hA
theorem post_same{op:Int}(hop:isOp op):Q50 c m ⟨op,A,B,C,Imm⟩=((Qhw c m ⟨op,A,B,C,Imm⟩).1,(Qhw c m ⟨op,A,B,C,Imm⟩).2.2,(Qhw c m ⟨op,A,B,C,Imm⟩).2.1):=by
 have alu: ∀{k y:Int},1≤k→k≤23→U y→((setP c A (Q3k k (regX c B) y).1 (nxt c),m,eff0):Q03×List Int×Q1)=(adv (Q1i c A (Qbl k (regX c B) y).1),m,eff0):=fun h1 h2 hy=>by
   rw[alu_same h1 h2 (show U (regX c B) from hc.r _) hy,Zbw,Z8 c hA]
 have uC:U (regX c C):=hc.r _
 have uI:U (IntKind.wrap .u32 Imm):=Q0o _
 obtain⟨⟨l1,l2⟩,⟨l3,l4⟩,⟨l5,l6⟩,⟨l7,l8⟩,⟨l9,l10⟩⟩:=ld_eq c m A B C Imm
 have hva:U (va c B Imm):=Q0o _
 rcases hop with rfl|rfl|rfl|rfl|rfl|rfl|rfl|rfl|rfl|rfl|rfl|rfl|rfl|rfl|rfl|rfl|rfl|rfl|rfl|rfl|rfl|rfl|rfl|rfl|rfl|rfl|rfl|rfl|rfl|rfl|rfl|rfl|rfl|rfl|rfl|rfl|rfl|rfl|rfl|rfl|rfl|rfl|rfl|rfl
 · exact(show Q50 c m ⟨1,A,B,C,Imm⟩=(setP c A (Q3k 1 (regX c B) (regX c C)).1 (nxt c),m,eff0) by kernel_rfl).trans ((alu (by decide) (by decide) uC).trans (by kernel_rfl))
 · exact(show Q50 c m ⟨2,A,B,C,Imm⟩=(setP c A (Q3k 2 (regX c B) (regX c C)).1 (nxt c),m,eff0) by kernel_rfl).trans ((alu (by decide) (by decide) uC).trans (by kernel_rfl))
 · exact(show Q50 c m ⟨3,A,B,C,Imm⟩=(setP c A (Q3k 3 (regX c B) (regX c C)).1 (nxt c),m,eff0) by kernel_rfl).trans ((alu (by decide) (by decide) uC).trans (by kernel_rfl))
 · exact(show Q50 c m ⟨4,A,B,C,Imm⟩=(setP c A (Q3k 4 (regX c B) (regX c C)).1 (nxt c),m,eff0) by kernel_rfl).trans ((alu (by decide) (by decide) uC).trans (by kernel_rfl))
 · exact(show Q50 c m ⟨5,A,B,C,Imm⟩=(setP c A (Q3k 5 (regX c B) (regX c C)).1 (nxt c),m,eff0) by kernel_rfl).trans ((alu (by decide) (by decide) uC).trans (by kernel_rfl))
 · exact(show Q50 c m ⟨6,A,B,C,Imm⟩=(setP c A (Q3k 6 (regX c B) (regX c C)).1 (nxt c),m,eff0) by kernel_rfl).trans ((alu (by decide) (by decide) uC).trans (by kernel_rfl))
 · exact(show Q50 c m ⟨7,A,B,C,Imm⟩=(setP c A (Q3k 7 (regX c B) (regX c C)).1 (nxt c),m,eff0) by kernel_rfl).trans ((alu (by decide) (by decide) uC).trans (by kernel_rfl))
 · exact(show Q50 c m ⟨8,A,B,C,Imm⟩=(setP c A (Q3k 8 (regX c B) (regX c C)).1 (nxt c),m,eff0) by kernel_rfl).trans ((alu (by decide) (by decide) uC).trans (by kernel_rfl))
 · exact(show Q50 c m ⟨9,A,B,C,Imm⟩=(setP c A (Q3k 9 (regX c B) (regX c C)).1 (nxt c),m,eff0) by kernel_rfl).trans ((alu (by decide) (by decide) uC).trans (by kernel_rfl))
 · exact(show Q50 c m ⟨10,A,B,C,Imm⟩=(setP c A (Q3k 10 (regX c B) (regX c C)).1 (nxt c),m,eff0) by kernel_rfl).trans ((alu (by decide) (by decide) uC).trans (by kernel_rfl))
 · exact(show Q50 c m ⟨11,A,B,C,Imm⟩=(setP c A (Q3k 11 (regX c B) (regX c C)).1 (nxt c),m,eff0) by kernel_rfl).trans ((alu (by decide) (by decide) uC).trans (by kernel_rfl))
 · exact(show Q50 c m ⟨12,A,B,C,Imm⟩=(setP c A (Q3k 12 (regX c B) (regX c C)).1 (nxt c),m,eff0) by kernel_rfl).trans ((alu (by decide) (by decide) uC).trans (by kernel_rfl))
 · exact(show Q50 c m ⟨13,A,B,C,Imm⟩=(setP c A (Q3k 13 (regX c B) (regX c C)).1 (nxt c),m,eff0) by kernel_rfl).trans ((alu (by decide) (by decide) uC).trans (by kernel_rfl))
 · exact(show Q50 c m ⟨16,A,B,C,Imm⟩=(setP c A (Q3k 16 (regX c B) (IntKind.wrap .u32 Imm)).1 (nxt c),m,eff0) by kernel_rfl).trans ((alu (by decide) (by decide) uI).trans (by kernel_rfl))
 · exact(show Q50 c m ⟨17,A,B,C,Imm⟩=(setP c A (Q3k 17 (regX c B) (IntKind.wrap .u32 Imm)).1 (nxt c),m,eff0) by kernel_rfl).trans ((alu (by decide) (by decide) uI).trans (by kernel_rfl))
 · exact(show Q50 c m ⟨18,A,B,C,Imm⟩=(setP c A (Q3k 18 (regX c B) (IntKind.wrap .u32 Imm)).1 (nxt c),m,eff0) by kernel_rfl).trans ((alu (by decide) (by decide) uI).trans (by kernel_rfl))
 · exact(show Q50 c m ⟨19,A,B,C,Imm⟩=(setP c A (Q3k 19 (regX c B) (IntKind.wrap .u32 Imm)).1 (nxt c),m,eff0) by kernel_rfl).trans ((alu (by decide) (by decide) uI).trans (by kernel_rfl))
 · exact(show Q50 c m ⟨20,A,B,C,Imm⟩=(setP c A (Q3k 20 (regX c B) (IntKind.wrap .u32 Imm)).1 (nxt c),m,eff0) by kernel_rfl).trans ((alu (by decide) (by decide) uI).trans (by kernel_rfl))
 · exact(show Q50 c m ⟨21,A,B,C,Imm⟩=(setP c A (Q3k 21 (regX c B) (IntKind.wrap .u32 Imm)).1 (nxt c),m,eff0) by kernel_rfl).trans ((alu (by decide) (by decide) uI).trans (by kernel_rfl))
 · exact(show Q50 c m ⟨22,A,B,C,Imm⟩=(setP c A (Q3k 22 (regX c B) (IntKind.wrap .u32 Imm)).1 (nxt c),m,eff0) by kernel_rfl).trans ((alu (by decide) (by decide) uI).trans (by kernel_rfl))
 · exact(show Q50 c m ⟨23,A,B,C,Imm⟩=(setP c A (Q3k 23 (regX c B) (IntKind.wrap .u32 Imm)).1 (nxt c),m,eff0) by kernel_rfl).trans ((alu (by decide) (by decide) uI).trans (by kernel_rfl))
 · refine(show Q50 c m ⟨24,A,B,C,Imm⟩=(setP c A (ishl .u32 (IntKind.wrap .u32 Imm) 16) (nxt c),m,eff0) by kernel_rfl).trans ?_
   rw[Z8 c hA,←Zbw];kernel_rfl
 · have e:=Zcr h hc hst hA hva (.inr rfl) (f:=fun v=>v) (g:=fun v=>v) (fun _ _=>rfl)
   rw[←l1,←l2]at e
   refine(show Q50 c m ⟨32,A,B,C,Imm⟩=((Q5z c m ⟨32,A,B,C,Imm⟩).1,(Q5z c m ⟨32,A,B,C,Imm⟩).2,eff0) by kernel_rfl).trans ?_
   rw[e];kernel_rfl
 · have e:=Zcr h hc hst hA hva (.inl rfl) (f:=fun v=>Q26 v 8) (g:=fun v=>Q2x v 8) (fun hm a=>sx_load hm a)
   rw[←l3,←l4]at e
   refine(show Q50 c m ⟨33,A,B,C,Imm⟩=((Q5z c m ⟨33,A,B,C,Imm⟩).1,(Q5z c m ⟨33,A,B,C,Imm⟩).2,eff0) by kernel_rfl).trans ?_
   rw[e];kernel_rfl
 · have e:=Zcr h hc hst hA hva (.inl rfl) (f:=fun v=>v) (g:=fun v=>v) (fun _ _=>rfl)
   rw[←l5,←l6]at e
   refine(show Q50 c m ⟨34,A,B,C,Imm⟩=((Q5z c m ⟨34,A,B,C,Imm⟩).1,(Q5z c m ⟨34,A,B,C,Imm⟩).2,eff0) by kernel_rfl).trans ?_
   rw[e];kernel_rfl
 · have e:=st_same h hc hst (A:=A) hva (.inr rfl)
   rw[←l7,←l8]at e
   refine(show Q50 c m ⟨35,A,B,C,Imm⟩=((Q7l c m ⟨35,A,B,C,Imm⟩).1,(Q7l c m ⟨35,A,B,C,Imm⟩).2,eff0) by kernel_rfl).trans ?_
   rw[e];kernel_rfl
 · have e:=st_same h hc hst (A:=A) hva (.inl rfl)
   rw[←l9,←l10]at e
   refine(show Q50 c m ⟨36,A,B,C,Imm⟩=((Q7l c m ⟨36,A,B,C,Imm⟩).1,(Q7l c m ⟨36,A,B,C,Imm⟩).2,eff0) by kernel_rfl).trans ?_
   rw[e];kernel_rfl
 · exact(show Q50 c m ⟨40,A,B,C,Imm⟩=((bif(Q20 40 (regX c A) (regX c B)) then((⟨c.X,IntKind.wrap .u32 (c.Pc+IntKind.wrap .u32 (4*IntKind.wrap .u32 Imm)),c.Csr⟩:Q03),eff0) else(⟨c.X,nxt c,c.Csr⟩,eff0)).1,m,(bif(Q20 40 (regX c A) (regX c B)) then((⟨c.X,IntKind.wrap .u32 (c.Pc+IntKind.wrap .u32 (4*IntKind.wrap .u32 Imm)),c.Csr⟩:Q03),eff0) else(⟨c.X,nxt c,c.Csr⟩,eff0)).2) by kernel_rfl).trans ((brc (Q20 40 (regX c A) (regX c B)) ⟨c.X,IntKind.wrap .u32 (c.Pc+IntKind.wrap .u32 (4*IntKind.wrap .u32 Imm)),c.Csr⟩ ⟨c.X,nxt c,c.Csr⟩ m).trans (by kernel_rfl))
 · exact(show Q50 c m ⟨41,A,B,C,Imm⟩=((bif(Q20 41 (regX c A) (regX c B)) then((⟨c.X,IntKind.wrap .u32 (c.Pc+IntKind.wrap .u32 (4*IntKind.wrap .u32 Imm)),c.Csr⟩:Q03),eff0) else(⟨c.X,nxt c,c.Csr⟩,eff0)).1,m,(bif(Q20 41 (regX c A) (regX c B)) then((⟨c.X,IntKind.wrap .u32 (c.Pc+IntKind.wrap .u32 (4*IntKind.wrap .u32 Imm)),c.Csr⟩:Q03),eff0) else(⟨c.X,nxt c,c.Csr⟩,eff0)).2) by kernel_rfl).trans ((brc (Q20 41 (regX c A) (regX c B)) ⟨c.X,IntKind.wrap .u32 (c.Pc+IntKind.wrap .u32 (4*IntKind.wrap .u32 Imm)),c.Csr⟩ ⟨c.X,nxt c,c.Csr⟩ m).trans (by kernel_rfl))
 · exact(show Q50 c m ⟨42,A,B,C,Imm⟩=((bif(Q20 42 (regX c A) (regX c B)) then((⟨c.X,IntKind.wrap .u32 (c.Pc+IntKind.wrap .u32 (4*IntKind.wrap .u32 Imm)),c.Csr⟩:Q03),eff0) else(⟨c.X,nxt c,c.Csr⟩,eff0)).1,m,(bif(Q20 42 (regX c A) (regX c B)) then((⟨c.X,IntKind.wrap .u32 (c.Pc+IntKind.wrap .u32 (4*IntKind.wrap .u32 Imm)),c.Csr⟩:Q03),eff0) else(⟨c.X,nxt c,c.Csr⟩,eff0)).2) by kernel_rfl).trans ((brc (Q20 42 (regX c A) (regX c B)) ⟨c.X,IntKind.wrap .u32 (c.Pc+IntKind.wrap .u32 (4*IntKind.wrap .u32 Imm)),c.Csr⟩ ⟨c.X,nxt c,c.Csr⟩ m).trans (by kernel_rfl))
 · exact(show Q50 c m ⟨43,A,B,C,Imm⟩=((bif(Q20 43 (regX c A) (regX c B)) then((⟨c.X,IntKind.wrap .u32 (c.Pc+IntKind.wrap .u32 (4*IntKind.wrap .u32 Imm)),c.Csr⟩:Q03),eff0) else(⟨c.X,nxt c,c.Csr⟩,eff0)).1,m,(bif(Q20 43 (regX c A) (regX c B)) then((⟨c.X,IntKind.wrap .u32 (c.Pc+IntKind.wrap .u32 (4*IntKind.wrap .u32 Imm)),c.Csr⟩:Q03),eff0) else(⟨c.X,nxt c,c.Csr⟩,eff0)).2) by kernel_rfl).trans ((brc (Q20 43 (regX c A) (regX c B)) ⟨c.X,IntKind.wrap .u32 (c.Pc+IntKind.wrap .u32 (4*IntKind.wrap .u32 Imm)),c.Csr⟩ ⟨c.X,nxt c,c.Csr⟩ m).trans (by kernel_rfl))
 · exact(show Q50 c m ⟨44,A,B,C,Imm⟩=((bif(Q20 44 (regX c A) (regX c B)) then((⟨c.X,IntKind.wrap .u32 (c.Pc+IntKind.wrap .u32 (4*IntKind.wrap .u32 Imm)),c.Csr⟩:Q03),eff0) else(⟨c.X,nxt c,c.Csr⟩,eff0)).1,m,(bif(Q20 44 (regX c A) (regX c B)) then((⟨c.X,IntKind.wrap .u32 (c.Pc+IntKind.wrap .u32 (4*IntKind.wrap .u32 Imm)),c.Csr⟩:Q03),eff0) else(⟨c.X,nxt c,c.Csr⟩,eff0)).2) by kernel_rfl).trans ((brc (Q20 44 (regX c A) (regX c B)) ⟨c.X,IntKind.wrap .u32 (c.Pc+IntKind.wrap .u32 (4*IntKind.wrap .u32 Imm)),c.Csr⟩ ⟨c.X,nxt c,c.Csr⟩ m).trans (by kernel_rfl))
 · exact(show Q50 c m ⟨45,A,B,C,Imm⟩=((bif(Q20 45 (regX c A) (regX c B)) then((⟨c.X,IntKind.wrap .u32 (c.Pc+IntKind.wrap .u32 (4*IntKind.wrap .u32 Imm)),c.Csr⟩:Q03),eff0) else(⟨c.X,nxt c,c.Csr⟩,eff0)).1,m,(bif(Q20 45 (regX c A) (regX c B)) then((⟨c.X,IntKind.wrap .u32 (c.Pc+IntKind.wrap .u32 (4*IntKind.wrap .u32 Imm)),c.Csr⟩:Q03),eff0) else(⟨c.X,nxt c,c.Csr⟩,eff0)).2) by kernel_rfl).trans ((brc (Q20 45 (regX c A) (regX c B)) ⟨c.X,IntKind.wrap .u32 (c.Pc+IntKind.wrap .u32 (4*IntKind.wrap .u32 Imm)),c.Csr⟩ ⟨c.X,nxt c,c.Csr⟩ m).trans (by kernel_rfl))
 · refine(show Q50 c m ⟨48,A,B,C,Imm⟩=(setP c A (nxt c) (IntKind.wrap .u32 ((Q9u c A (nxt c)).Pc+IntKind.wrap .u32 (4*IntKind.wrap .u32 Imm))),m,eff0) by kernel_rfl).trans ?_
   rw[Z8 c hA,Qvb c hA,(set_pc c A (nxt c)).1];kernel_rfl
 · refine(show Q50 c m ⟨49,A,B,C,Imm⟩=(setP c A (nxt c) (va c B Imm),m,eff0) by kernel_rfl).trans ?_
   rw[Z8 c hA];kernel_rfl
 · refine(show Q50 c m ⟨56,A,B,C,Imm⟩=(Q40 c 7 0,m,eff0) by kernel_rfl).trans ?_
   rw[Ql6 hc.a0.1 hst];kernel_rfl
 · refine(show Q50 c m ⟨57,A,B,C,Imm⟩=(Qcg c,m,eff0) by kernel_rfl).trans ?_
   rw[Zbz hc.a0.1 hst];kernel_rfl
 · refine(show Q50 c m ⟨58,A,B,C,Imm⟩=(setP c A (List.getD (A8.l c.Csr) (Int.toNat Imm) 0) (nxt c),m,eff0) by kernel_rfl).trans ?_
   rw[Z8 c hA,←Zbw];kernel_rfl
 · have e:=write_pc c (IntKind.wrap .i64 Imm) (regX c A)
   refine(show Q50 c m ⟨59,A,B,C,Imm⟩=((⟨(Qfb c (IntKind.wrap .i64 Imm) (regX c A)).X,IntKind.wrap .u32 (c.Pc+4),(Qfb c (IntKind.wrap .i64 Imm) (regX c A)).Csr⟩:Q03),m,eff0) by kernel_rfl).trans ?_
   rw[←e];kernel_rfl
 · exact(show Q50 c m ⟨60,A,B,C,Imm⟩=((Qhw c m ⟨60,A,B,C,Imm⟩).1,(Qhw c m ⟨60,A,B,C,Imm⟩).2.2,(Qhw c m ⟨60,A,B,C,Imm⟩).2.1) by kernel_rfl)
 · exact(show Q50 c m ⟨61,A,B,C,Imm⟩=((Qhw c m ⟨61,A,B,C,Imm⟩).1,(Qhw c m ⟨61,A,B,C,Imm⟩).2.2,(Qhw c m ⟨61,A,B,C,Imm⟩).2.1) by kernel_rfl)
 · exact(show Q50 c m ⟨62,A,B,C,Imm⟩=((Qhw c m ⟨62,A,B,C,Imm⟩).1,(Qhw c m ⟨62,A,B,C,Imm⟩).2.2,(Qhw c m ⟨62,A,B,C,Imm⟩).2.1) by kernel_rfl)
 · exact(show Q50 c m ⟨63,A,B,C,Imm⟩=((Qhw c m ⟨63,A,B,C,Imm⟩).1,(Qhw c m ⟨63,A,B,C,Imm⟩).2.2,(Qhw c m ⟨63,A,B,C,Imm⟩).2.1) by kernel_rfl)
 · exact(show Q50 c m ⟨64,A,B,C,Imm⟩=((Qhw c m ⟨64,A,B,C,Imm⟩).1,(Qhw c m ⟨64,A,B,C,Imm⟩).2.2,(Qhw c m ⟨64,A,B,C,Imm⟩).2.1) by kernel_rfl)
end
theorem form_op{op:Int}(h0:0≤op)(h1:op<256)(h:Q29 op≠0):isOp op:=by
 have e:=of_decide_eq_true (Qpi (fun op=>decide (Q29 op=0∨isOpB op=true)) 256 (by kernel_rfl) h0 h1)
 rcases e with e|e
 · exact absurd e h
 · simpa only[isOpB,isOp,Bool.or_eq_true,decide_eq_true_eq,or_assoc] using e
end Go.Proofs.YtdkiadhigcfmkaaGreat
namespace Go.Proofs.YtdkiadhigcfmkaaGreat
open Go Go.GD
set_option linter.unusedVariables false
set_option linter.unusedSimpArgs false
set_option maxRecDepth 100000
theorem isOp_le{op:Int}(o:isOp op):1≤op∧op≤64:=by
 unfold isOp at o
 rcases o with h|h|h|h|h|h|h|h|h|h|h|h|h|h|h|h|h|h|h|h|h|h|h|h|h|h|h|h|h|h|h|h|h|h|h|h|h|h|h|h|h|h|h|h<;>(rw[h];decide)
theorem decode_op{w:Int}(hw:U w):(Q28 w).2=true→isOp (Q28 w).1.Op:=by
  have s24:ishr .u32 w 24=w/16777216:=by have:=Qko (a:=w) 24 (by decide);simpa using this
  obtain⟨w0,w1⟩:=hw
  have eo:IntKind.wrap .i64 (w/16777216)=w/16777216:=w64 (by omega) (by omega)
  have q:(fun r:Q0g×Bool=>r.2=true→isOp r.1.Op) (Q28 w):=by
    simp only[Q28,Q9l,Tree.m,letv,s24,eo]
    cases hf:Q29 (w/16777216)==0
    · have g:isOp (w/16777216):=form_op (by omega) (by omega) (by simpa using hf)
      repeat'(first
        |exact fun _=>g
        |exact fun e=>Bool.noConfusion (show false=true from e)
        |refine Qq5 (Q:=fun r:Q0g×Bool=>r.2=true→isOp r.1.Op) ?_ ?_)
    · exact fun e=>Bool.noConfusion (show false=true from e)
  exact q
section
variable (c:Q03) (m:List Int)
def doR(x:Int×Int×List Int)(w:Int)(d:Q0g×Bool):Q03×Q1×List Int:=
 bif x.2.1 !=0 then(Q24 c x.2.1 c.Pc,eff0,x.2.2) else bif !d.2 then(Q24 c 1 w,eff0,x.2.2) else bif Q4t d.1.Op then(bif iand .u32 c.Csr.a0 1==0 then(Q24 c 2 w,eff0,x.2.2) else Qhw c x.2.2 d.1) else Qhw c x.2.2 d.1
def doP(y:Int×List Int×Int)(d:Q0g×Bool):Q03×List Int×Q1:=
 bif y.2.2 !=0 then(Q40 c y.2.2 c.Pc,y.2.1,eff0) else bif !d.2 then(Q40 c 1 y.1,y.2.1,eff0) else bif Q7m d.1.Op then(bif !Qaw c then(Q40 c 2 y.1,y.2.1,eff0) else Q50 c y.2.1 d.1) else Q50 c y.2.1 d.1
theorem do_eq:Q2w c m=doR c (Q0w c m c.Pc 4 1) (Q1b (Q0w c m c.Pc 4 1).2.2 (Q0w c m c.Pc 4 1).1 4).1 (Q28 (Q1b (Q0w c m c.Pc 4 1).2.2 (Q0w c m c.Pc 4 1).1 4).1):=by kernel_rfl
theorem exec_eq:Q86 c m=doP c (Qly c m) (Qf8 (Qly c m).1):=by kernel_rfl
theorem fetch_eq:Qly c m=bif(Q1n c m c.Pc 4 1).2.2 !=0 then(0,(Q1n c m c.Pc 4 1).2.1,(Q1n c m c.Pc 4 1).2.2) else((Q43 (Q1n c m c.Pc 4 1).2.1 (Q1n c m c.Pc 4 1).1 4).1,(Q1n c m c.Pc 4 1).2.1,0):=by kernel_rfl
end
theorem exec_same{P:Nat}{m:List Int}(h:Q0u P m){c:Q03}(hc:Q2g c)(hst:c.Csr.a0≤31):Q86 c m=((Q2w c m).1,(Q2w c m).2.2,(Q2w c m).2.1):=by
  obtain⟨k,u,b⟩:=Zbm h hc hc.pc (.inr rfl) 1
  have tr: ∀k b,Q40 c k b=Q24 c k b:=Ql6 hc.a0.1 hst
  rw[exec_eq,do_eq,fetch_eq,Qkv h hc hst hc.pc (.inr rfl) (.inl rfl)]
  generalize Q0w c m c.Pc 4 1=x at*
  cases hx:x.2.1 !=0
  · rw [Qlu k u (.inr rfl)]
    have hw:U (Q1b x.2.2 x.1 4).1:=(Tree.pp (Z8b k u (.inr rfl))).2
    generalize(Q1b x.2.2 x.1 4).1=w at*
    show doP c (w,x.2.2,0) (Qf8 w)=_
    rw[decode_eq hw]
    have o:=decode_op hw
    have i:=Tree.post _ (Ze w)
    change(Q28 w).2=true→Qdm (Q28 w).1 at i
    generalize Q28 w=d at*
    obtain⟨⟨op,A,B,C,Imm⟩,ok⟩:=d
    cases ok
    · simp only[doP,doR,hx,tr];rfl
    · have o:isOp op:=o rfl
      have i:=i rfl
      have p:=post_same (C:=C) (B:=B) (Imm:=Imm) k hc hst i.a o
      have pv:Q7m op=Q4t op:=priv_eq (by have:=isOp_le o;omega) (by have:=isOp_le o;omega)
      have kn:(!Qaw c)=(iand .u32 c.Csr.a0 1==0):=by
        show(!(!(iand .u32 c.Csr.a0 1==0)))=_
        exact Bool.not_not _
      simp only[doP,doR,hx,tr,pv,kn,p]
      cases Q4t op
      · rfl
      · cases iand .u32 c.Csr.a0 1==0<;>rfl
  · simp only[doP,doR,hx,cond_true,tr]
end Go.Proofs.YtdkiadhigcfmkaaGreat
namespace Go.Proofs.YtdkiadhigcfmkaaGreat
open Go Go.GD
set_option linter.unusedVariables false
set_option linter.unusedSimpArgs false
set_option maxRecDepth 100000
theorem ge_not{a b:Int}:decide (a≥b)=!decide (a<b):=by
 by_cases h:a<b
 · rw[decide_eq_true h,decide_eq_false (by omega)];rfl
 · rw[decide_eq_false h,decide_eq_true (by omega)];rfl
def bits(g:Int)(l:List Nat)(s:Int):Int:=l.foldl (fun(a:Int) (i:Nat)=>IntKind.wrap .i64 (a+IntKind.wrap .i64 (iand .u32 (ishr .u32 g (i:Int)) 1))) s
theorem given_eq(b:Q05):Qc3 b=bits b.Given [0,1,2,3,4,5,6,7,8,9,10,11,12,13,14,15,16,17,18,19,20,21,22,23,24,25,26,27,28,29,30,31] 0:=by kernel_rfl
theorem bit_eq{g:Int}(hg:U g){i:Nat}(hi:i≤32):IntKind.wrap .i64 (iand .u32 (ishr .u32 g (i:Int)) 1)=g/2^i%2:=by
 rw[and1 (Qo hg _),Qko i hi]
 have:0≤g/2^i%2∧g/2^i%2<2:=by omega
 exact w64 (by omega) (by omega)
theorem bits_sum{g:Int}(hg:U g)(l:List Nat): ∀s:Int,(∀i∈l,i≤32)→0≤s→s+l.length≤1000→bits g l s=s+(l.map fun i=>g/2^i%2).sum:=by
 induction l with
 |nil=>intro s _ _ _;simp [bits]
 | cons i l ih=>
   intro s hl h0 h1
   have h1:s+(l.length+1)≤1000:=by simpa using h1
   have hb:0≤g/2^i%2∧g/2^i%2<2:=by omega
   have e:bits g (i::l) s=bits g l (s+g/2^i%2):=by
     show bits g l (IntKind.wrap .i64 (s+IntKind.wrap .i64 (iand .u32 (ishr .u32 g (i:Int)) 1)))=_
     rw[bit_eq hg (hl i (by simp)),w64 (by omega) (by omega)]
   rw[e,ih _ (fun j hj=>hl j (by simp [hj])) (by omega) (by omega)]
   simp;omega
theorem Zfj(n:Q0m)(port:Int):Qys n port=Qf6 n port:=by
 simp only[Qys,Qox,Qf6,Qe0,Tree.m]
 cases n.Posted<;>cases n.Received<;>rfl
theorem Qz5(t:Q0h):Q36 t=Qb0 t:=by
 simp only[Q36,Qjb,Qb0,Qfp,Tree.m]
 cases t.Armed<;>cases t.Fired<;>rfl
theorem Z7j(n:Q0m)(p:Int):Q4m n p=Qge n p:=by
 simp only[Q4m,Qig,Qge,Qjm,Tree.m]
 cases n.Posted<;>cases n.Received<;>rfl
theorem Z4i (d:Q0d)(p:Int):Q18 d p=Qdn d p:=by
  simp only[Q18,Q5f,Q8b,Q6r,Qdn,Qi,Tree.m,letv,ge_not]
  cases decide (d.Blocks>64)
  · by_cases s:d.State=0∨d.State=1∨d.State=2∨d.State=3
    · rcases s with s|s|s|s<;>rw[s]
      · rfl
      · by_cases c1:d.Cmd=1
        · rw[c1];cases decide (d.OpBlock<d.Blocks)<;>cases decide (IntKind.wrap .i64 d.OpFrame<p)<;>cases decide (d.OpData=[])<;>rfl
        · by_cases c2:d.Cmd=2
          · rw[c2];cases decide (d.OpBlock<d.Blocks)<;>cases decide (IntKind.wrap .i64 d.OpFrame<p)<;>cases(d.OpData.length:Int)==128<;>rfl
          · rw[show(d.Cmd==1)=false by simpa using c1,show(d.Cmd==2)=false by simpa using c2]
            cases decide (d.OpBlock<d.Blocks)<;>cases decide (IntKind.wrap .i64 d.OpFrame<p)<;>rfl
      · rfl
      · rfl
    · rw[show(d.State==0)=false by simp;omega,show(d.State==1)=false by simp;omega,show(d.State==2)=false by simp;omega,show(d.State==3)=false by simp;omega]
      by_cases n:d.State<0
      · rw[decide_eq_true n];rfl
      · rw[decide_eq_false n,decide_eq_true (show d.State>3 by omega)];rfl
  · rfl
theorem con_same(c:Q0c):Q4p c=Q4w c:=by
 show(!decide (c.Keys=[]))=decide ((c.Keys.length:Int)>0)
 cases c.Keys with
 |nil=>rfl
 |cons a l=>rw[decide_eq_false (by simp),decide_eq_true (by simp)];rfl
theorem len_nil(k:List UInt8):decide (k=[])=((k.length:Int)==0):=by
 cases k with
 |nil=>rfl
 | cons a l=>
   rw[decide_eq_false (by simp)]
   exact(beq_eq_false_iff_ne.2 (by simp;omega)).symm
theorem Zgm(c:Q0c)(port:Int):Qmd c port=Q4f c port:=by
 simp only[Qmd,Q8s,Q4f,Q33,Tree.m,len_nil]
 cases port==0
 · rfl
 · cases(c.Keys.length:Int)==0<;>rfl
theorem arm_same(t:Q0h)(v:Int):Qj8 t v=Qp9 v:=by
 simp only[Qj8,Qjp,Qp9,Qsc,Tree.m]
 cases h:v==0
 · rw[show(v !=0)=true by simp only[bne,h];rfl];rfl
 · rw[show(v !=0)=false by simp only[bne,h];rfl,eq_of_beq h];rfl
section
variable {P:Nat} {m:List Int} (h:Q0u P m)
include h
theorem Z2g(f:Int):Q8w m f=Q1p m f:=by
 have a:=Q21 h
 have b:=Qd8 h
 simp only[Q8w,Qbt,Q1p,Qg7,Tree.m,letv,a,b]
theorem Z2o(f:Int):Q97 m f=Q1p m f:=by
 have a:=Q21 h
 have b:=Qd8 h
 simp only[Q97,Qdk,Q1p,Qg7,Tree.m,letv,a,b]
theorem Z6l (d:Q0d)(port:Int)(v:Int)(at0:Int):Qv9 d m port v at0=Qde d m port v at0:=by
  have pg:=Z2g h
  have pa:=Z6i h
  have rq: ∀d a,Qhm d a=Qhb d a:=fun _ _=>rfl
  simp only[Qv9,Qch,Qsi,Q8h,Qde,Q7u,Tree.m,letv,pg,pa,rq]
  cases port==4
  · cases port==5
    · cases h6:port==6
      · rw[show(port !=6)=true by simp only[bne,h6];rfl];rfl
      · rw [show(port !=6)=false by simp only[bne,h6];rfl]
        by_cases v1:v=1
        · subst v1
          cases hs:d.State==0
          · rw[show(d.State !=0)=true by simp only[bne,hs];rfl];rfl
          · rw[show(d.State !=0)=false by simp only[bne,hs];rfl];rfl
        · by_cases v2:v=2
          · subst v2
            cases hs:d.State==0
            · rw[show(d.State !=0)=true by simp only[bne,hs];rfl];rfl
            · rw[show(d.State !=0)=false by simp only[bne,hs];rfl];rfl
          · rw[show(v==1)=false by simpa using v1,show(v==2)=false by simpa using v2]
            cases v==0
            · rfl
            · have:Q5v d=(bif d.State==2 then true else d.State==3):=rfl
              rw[this]
              cases d.State==2<;>cases d.State==3<;>rfl
    · rfl
  · rfl
theorem Zb6 (n:Q0m)(port:Int)(v:Int)(at0:Int):Z4j n m port v at0=Qfu n m port v at0:=by
  have pg:=Z2o h
  have pa:=Z6i h
  simp only[Z4j,Qfl,Z4o,Qca,Qfu,Q9n,Tree.m,letv,pg,pa]
  have g1:decide (n.Len≥1)=!decide (n.Len<1):=ge_not
  have g2:decide (n.Len≤128)=!decide (n.Len>128):=by
    by_cases h:n.Len>128
    · rw[decide_eq_true h,decide_eq_false (by omega)];rfl
    · rw[decide_eq_false h,decide_eq_true (by omega)];rfl
  rw[g1,g2]
  cases port==7
  · cases port==8
    · cases h9:port==9
      · rw[show(port !=9)=true by simp only[bne,h9];rfl];rfl
      · rw [show(port !=9)=false by simp only[bne,h9];rfl]
        by_cases v1:v=1
        · subst v1
          cases decide (n.Len<1)<;>cases decide (n.Len>128)<;>cases Q1p m n.Frame<;>rfl
        · by_cases v2:v=2
          · subst v2;rfl
          · rw[show(v==1)=false by simpa using v1,show(v==2)=false by simpa using v2]
            cases v==0<;>rfl
    · rfl
  · rfl
theorem Z4y {d:Q0d}(hd:Q85 d)(e:Q0e):Qj9 d m e=((Qaj d m e).1,(Qaj d m e).2.2,(Qaj d m e).2.1):=by
  have hcl:Q02 m=m:=rfl
  have pg:=Z2g h d.OpFrame
  have lp:decide ((e.Data.length:Int)>0)=!decide (e.Data=[]):=by
    cases e.Data with
    |nil=>rfl
    |cons a l=>rw[decide_eq_true (by simp),decide_eq_false (by simp)];rfl
  have bad:(e.Data.length:Int)≠128→Q1p m d.OpFrame=true→Q2k m (IntKind.wrap .i64 d.OpFrame) e.Data=(m,false):=fun hl hp=>by
    rw[Qju h hd.opFrame]at hp
    have hp:=of_decide_eq_true hp
    have h1:=hd.opFrame.1
    have h3:=h.p2
    have ew:IntKind.i64.wrap d.OpFrame=d.OpFrame:=w64 (by omega) (by omega)
    simp only[Q2k,Q2n,Tree.m,letv,hcl,ew,Z4u h,decide_eq_true (⟨h1,hp⟩:0≤d.OpFrame∧d.OpFrame<P),show((e.Data.length:Int) !=128)=true by simpa using hl]
    rfl
  have good:(e.Data.length:Int)=128→Q1p m d.OpFrame=true→Q2k m (IntKind.wrap .i64 d.OpFrame) e.Data=(Qj5 m (IntKind.wrap .i64 d.OpFrame) e.Data,true):=fun hl hp=>by
    rw[Qju h hd.opFrame]at hp
    have hp:=of_decide_eq_true hp
    have h1:=hd.opFrame.1
    have h3:=h.p2
    have ew:IntKind.i64.wrap d.OpFrame=d.OpFrame:=w64 (by omega) (by omega)
    rw[ew];exact Z7y h h1 hp (by omega)
  simp only[Qj9,Q8z,Qaj,Q9f,Tree.m,letv,hcl,pg,lp]
  cases d.State !=1
  · cases e.Kind !=4
    · cases decide (e.N>1)
      · cases e.N==1
        · cases decide (e.Data=[])<;>rfl
        · cases hc:d.Cmd==1
          · cases decide (e.Data=[])<;>rfl
          · by_cases hl:(e.Data.length:Int)=128
            · rw[show((e.Data.length:Int) !=128)=false by simpa using hl]
              cases hp:Q1p m d.OpFrame
              · rfl
              · rw[good hl hp];rfl
            · rw[show((e.Data.length:Int) !=128)=true by simpa using hl]
              cases hp:Q1p m d.OpFrame
              · rfl
              · rw[bad hl hp];rfl
      · rfl
    · rfl
  · rfl
theorem Z9h {n:Q0m}(hn:Qh6 n)(frame:List UInt8):Qoc n m frame=((Qad n m frame).1,(Qad n m frame).2.2,(Qad n m frame).2.1):=by
  have hcl:Q02 m=m:=rfl
  have pg:=Z2o h n.Buffer
  simp only[Qoc,Qb1,Qad,Q9c,Tree.m,letv,hcl,pg]
  cases !n.Posted
  · cases decide ((frame.length:Int)<1)
    · cases hf:decide ((frame.length:Int)>128)
      · cases hp:Q1p m n.Buffer
        · rfl
        · rw[Qju h hn.buffer]at hp
          have hp:=of_decide_eq_true hp
          have h1:=hn.buffer.1
          have h3:=h.p2
          have ew:IntKind.i64.wrap n.Buffer=n.Buffer:=w64 (by omega) (by omega)
          have hf:=of_decide_eq_false hf
          obtain⟨b1,b2⟩:=(Tree.pp (mpage_b h h1 hp)).2
          change isPg m n.Buffer (Q4u m n.Buffer).1 at b1
          have tk:List.take (Int.toNat ((Q4u m n.Buffer).1.length:Int)-Int.toNat (frame.length:Int)) (List.drop (Int.toNat (frame.length:Int)) (Q4u m n.Buffer).1)=(Q4u m n.Buffer).1.drop frame.length:=by
            rw[Int.toNat_natCast,Int.toNat_natCast]
            exact List.take_of_length_le (by simp)
          rw[ew,tk,Z7c h h1 hp (by omega) b1]
          rfl
      · rfl
    · rfl
  · rfl
end
end Go.Proofs.YtdkiadhigcfmkaaGreat
namespace Go.Proofs.YtdkiadhigcfmkaaGreat
open Go Go.GD
set_option linter.unusedVariables false
set_option linter.unusedSimpArgs false
set_option maxRecDepth 100000
def ptab:List UInt8:=(List.range 256).map fun n=>UInt8.ofNat (n%2+n/2%2+n/4%2+n/8%2+n/16%2+n/32%2+n/64%2+n/128%2)
def pt(n:Int):Int:=((UInt8.toNat (List.getD ptab (Int.toNat n) 0):Nat):Int)
theorem pop_form(x:Int):Q5l x=IntKind.wrap .i64 (IntKind.wrap .u8 (IntKind.wrap .u8 (IntKind.wrap .u8 (pt (ishr .u32 x 24)+pt (iand .u32 (ishr .u32 x 16) 255))+pt (iand .u32 (ishr .u32 x 8) 255))+pt (iand .u32 x 255))):=by kernel_rfl
theorem pt8{a:Int}(h0:0≤a)(h1:a<256):pt a=a%2+a/2%2+a/4%2+a/8%2+a/16%2+a/32%2+a/64%2+a/128%2:=
 eq_of_beq (Qpi (fun a=>pt a==a%2+a/2%2+a/4%2+a/8%2+a/16%2+a/32%2+a/64%2+a/128%2) 256 (by kernel_rfl) h0 h1)
theorem given_sum{g:Int}(hg:U g):bits g [0,1,2,3,4,5,6,7,8,9,10,11,12,13,14,15,16,17,18,19,20,21,22,23,24,25,26,27,28,29,30,31] 0=pt (g%256)+pt (g/256%256)+pt (g/65536%256)+pt (g/16777216):=by
 rw[bits_sum hg _ 0 (by decide) (by decide) (by decide),pt8 (by omega) (by omega),pt8 (by omega) (by omega),pt8 (by omega) (by omega),pt8 (by have:=hg.1;omega) (by have:=hg.2;omega)]
 obtain⟨g0,g1⟩:=hg
 simp only[List.map_cons,List.map_nil,List.sum_cons,List.sum_nil]
 have e: ∀i j:Nat,∀k:Int,i<8→k=2^j→g/2^(i+j)%2=(g/k%256)/2^i%2:=fun i j k hi hk=>by
   subst hk
   rw[Nat.add_comm,Int.pow_add,←Int.ediv_ediv_of_nonneg (Int.le_of_lt (Int.pow_pos (by decide)))]
   generalize g/2^j=x
   have:i=0∨i=1∨i=2∨i=3∨i=4∨i=5∨i=6∨i=7:=by omega
   rcases this with rfl|rfl|rfl|rfl|rfl|rfl|rfl|rfl<;>simp<;>omega
 have e0: ∀i:Nat,i<8→g/2^i%2=(g%256)/2^i%2:=fun i hi=>by have:=e i 0 1 hi rfl;simpa using this
 have e24:g/16777216%256=g/16777216:=by omega
 rw[e0 0 (by decide),e0 1 (by decide),e0 2 (by decide),e0 3 (by decide),e0 4 (by decide),e0 5 (by decide),e0 6 (by decide),e0 7 (by decide)]
 rw[e 0 8 256 (by decide) (by decide),e 1 8 256 (by decide) (by decide),e 2 8 256 (by decide) (by decide),e 3 8 256 (by decide) (by decide),e 4 8 256 (by decide) (by decide),e 5 8 256 (by decide) (by decide),e 6 8 256 (by decide) (by decide),e 7 8 256 (by decide) (by decide)]
 rw[e 0 16 65536 (by decide) (by decide),e 1 16 65536 (by decide) (by decide),e 2 16 65536 (by decide) (by decide),e 3 16 65536 (by decide) (by decide),e 4 16 65536 (by decide) (by decide),e 5 16 65536 (by decide) (by decide),e 6 16 65536 (by decide) (by decide),e 7 16 65536 (by decide) (by decide)]
 rw[e 0 24 16777216 (by decide) (by decide),e 1 24 16777216 (by decide) (by decide),e 2 24 16777216 (by decide) (by decide),e 3 24 16777216 (by decide) (by decide),e 4 24 16777216 (by decide) (by decide),e 5 24 16777216 (by decide) (by decide),e 6 24 16777216 (by decide) (by decide),e 7 24 16777216 (by decide) (by decide),e24]
 generalize g%256=a
 generalize g/256%256=b
 generalize g/65536%256=c
 generalize g/16777216=d
 simp only[show(2:Int)^0=1 from rfl,show(2:Int)^1=2 from rfl,show(2:Int)^2=4 from rfl,show(2:Int)^3=8 from rfl,show(2:Int)^4=16 from rfl,show(2:Int)^5=32 from rfl,show(2:Int)^6=64 from rfl,show(2:Int)^7=128 from rfl,Int.ediv_one]
 omega
theorem pt_le{a:Int}(h0:0≤a)(h1:a<256):0≤pt a∧pt a≤8:=by rw[pt8 h0 h1];omega
theorem Z2w{b:Q05}(hg:U b.Given):Qby b=Qc3 b∧0≤Qc3 b∧Qc3 b≤32:=by
 obtain⟨s8,s16,s24⟩:=shr_c b.Given
 have u8:U (ishr .u32 b.Given 8):=Qo hg _
 have u16:U (ishr .u32 b.Given 16):=Qo hg _
 have e:Qby b=Q5l b.Given:=rfl
 rw[e,pop_form,given_eq,given_sum hg,m255 u8,m255 u16,m255 hg,s8,s16,s24]
 obtain⟨g0,g1⟩:=hg
 have p0:=pt_le (a:=b.Given%256) (by omega) (by omega)
 have p1:=pt_le (a:=b.Given/256%256) (by omega) (by omega)
 have p2:=pt_le (a:=b.Given/65536%256) (by omega) (by omega)
 have p3:=pt_le (a:=b.Given/16777216) (by omega) (by omega)
 have w8: ∀x,IntKind.wrap .u8 x=x%256:=fun x=>IntKind.wrap_u8 x
 rw[w8,w8,w8,IntKind.wrap_i64]
 omega
theorem Z8v{b:Q05}(h:okB b):Q3q b=Q3b b:=by
 obtain⟨e,l0,l1⟩:=Z2w h.2
 obtain⟨t0,t1⟩:=h.1
 simp only[Q3q,Q3a,Q3b,Q8q,Tree.m,letv,e]
 rw[IntKind.wrap_u32,IntKind.wrap_u64,IntKind.wrap_u64,Int.emod_eq_of_lt l0 (by omega),Int.emod_eq_of_lt l0 (by omega),Int.emod_eq_of_lt t0 (by omega)]
theorem Zf{b:Q05}(h:okB b)(port:Int):Qmb b port=Q4d b port:=by
 simp only[Qmb,Q90,Q4d,Q5g,Tree.m,letv,(Z2w h.2).1]
theorem bit_pow(g:Int)(z:Nat):g%2^(z+1)=g%2^z+2^z*(g/2^z%2):=by
 have hp:(0:Int)<2^z:=Int.pow_pos (by decide)
 have h1:=Int.mul_ediv_add_emod g (2^z)
 have h2:=Int.mul_ediv_add_emod (g/2^z) 2
 have h3:(g/2^z)/2=g/2^(z+1):=by rw[Int.pow_succ,Int.ediv_ediv_of_nonneg (Int.le_of_lt hp)]
 have h4:=Int.mul_ediv_add_emod g (2^(z+1))
 rw[h3]at h2
 have h5:(2:Int)^(z+1)*(g/2^(z+1))=2^z*(2*(g/2^(z+1))):=by rw[Int.pow_succ,Int.mul_assoc]
 have h6:(2:Int)^z*(g/2^z)=2^z*(2*(g/2^(z+1)))+2^z*(g/2^z%2):=by rw[←Int.mul_add,h2]
 omega
theorem rbal_w{b:Q05}(hg:U b.Given){P:Nat}(hP:P≤32):(Q4i b P).w (fun r=>r=decide (b.Given<2^P)):=by
 unfold Q4i
 have fin: ∀v:Int,0≤v→v≤32→IntKind.wrap .u64 v=(v.toNat:Int):=fun v h0 h1=>by rw[IntKind.wrap_u64];omega
 refine w_lp (inv:=fun z:Int=>0≤z∧z≤32∧b.Given%2^z.toNat<2^P) (μ:=Q5k b P) ⟨by decide,by decide,by have:(0:Int)<2^P:=Int.pow_pos (by decide);simpa using this⟩ (Nat.lt_succ_self _) fun z ⟨z0,z1,z2⟩=> ?_
 refine w_br (fun hb=> ?_) (fun hb=> ?_)
 · have hb:=of_decide_eq_true hb
   have ew:IntKind.i64.wrap (z+1)=z+1:=w64 (by omega) (by omega)
   have bt:iand .u32 (ishr .u32 b.Given (IntKind.wrap .u64 z)) 1=b.Given/2^z.toNat%2:=by
     rw[fin z z0 z1,and1 (Qo hg _),Qko _ (by omega)]
   have bp:=bit_pow b.Given z.toNat
   have zt:(z+1).toNat=z.toNat+1:=by omega
   refine w_cn (decide_eq_true (by rw[IntKind.wrap_u64];omega)) ?_
   rw[bt]
   refine w_br (fun e=>w_br (fun hp=> ?_) (fun hp=>w_nx ?_)) (fun e=>w_nx ?_)
   · have e:=eq_of_beq e
     have hp:=of_decide_eq_true hp
     show false=_
     refine(decide_eq_false fun hlt=> ?_).symm
     have hle:(2:Int)^P≤2^z.toNat:=by exact_mod_cast Nat.pow_le_pow_right (show 0<2 by decide) (show P≤z.toNat by omega)
     have:b.Given/2^z.toNat=0:=Int.ediv_eq_zero_of_lt hg.1 (by omega)
     rw[this]at e;cases e
   · have e:=eq_of_beq e
     have hp:=of_decide_eq_false hp
     show(0≤IntKind.i64.wrap (z+1)∧IntKind.i64.wrap (z+1)≤32∧b.Given%2^(IntKind.i64.wrap (z+1)).toNat<2^P)∧(32-IntKind.i64.wrap (z+1)).toNat<(32-z).toNat
     rw[ew,zt]
     have hle:(2:Int)^(z.toNat+1)≤2^P:=by exact_mod_cast Nat.pow_le_pow_right (show 0<2 by decide) (show z.toNat+1≤P by omega)
     have:=Int.emod_lt_of_pos b.Given (show(0:Int)<2^(z.toNat+1) from Int.pow_pos (by decide))
     exact⟨⟨by omega,by omega,by omega⟩,by omega⟩
   · have e: ¬b.Given/2^z.toNat%2=1:=by simpa using e
     have e:b.Given/2^z.toNat%2=0:=by omega
     rw[e]at bp
     show(0≤IntKind.i64.wrap (z+1)∧IntKind.i64.wrap (z+1)≤32∧b.Given%2^(IntKind.i64.wrap (z+1)).toNat<2^P)∧(32-IntKind.i64.wrap (z+1)).toNat<(32-z).toNat
     rw[ew,zt,bp]
     exact⟨⟨by omega,by omega,by omega⟩,by omega⟩
 · have hb:=of_decide_eq_false hb
   have:z=32:=by omega
   subst this
   show true=_
   refine(decide_eq_true ?_).symm
   have h2:b.Given%2^(32:Int).toNat=b.Given:=Int.emod_eq_of_lt hg.1 hg.2
   rwa [h2]at z2
theorem Zb3{b:Q05}(hg:U b.Given){P:Nat}(hP:P≤32):Q27 b P=Q8c b P:=by
 have r:=(Tree.pp (rbal_w hg hP)).2
 change Q8c b P=_ at r
 rw[r,Bool.eq_iff_iff,Qy0 hg,decide_eq_true_eq]
end Go.Proofs.YtdkiadhigcfmkaaGreat
namespace Go.Proofs.YtdkiadhigcfmkaaGreat
open Go Go.GD
set_option linter.unusedVariables false
set_option linter.unusedSimpArgs false
set_option maxRecDepth 100000
theorem zeros:strings_Repeat [(0:UInt8)] 128=List.replicate 128 0:=by kernel_rfl
theorem give_b{P:Nat}{m:List Int}(hm:Q0u P m){b:Q05}{port:Int}{v:Int}(hv:U v)(hp:v<P)(h10:port=10)(hb:(iand .u32 (ishr .u32 b.Given v) 1==0)=true):(Q41 b m port v).w (fun r=>r.1={Target:=b.Target,Given:=ior .u32 b.Given (ishl .u32 1 v)}∧Q0u P r.2∧ ∀k:Nat,byt r.2 k=if v*128≤k∧(k:Int)<v*128+128 then 0 else byt m k):=by
 have hv0:decide (0≤v)=true:=decide_eq_true hv.1
 have h2:=hm.p2
 have pg:Q1p m v=true:=by rw[Qju hm hv];exact decide_eq_true hp
 obtain⟨v1,v2⟩:=hv
 subst h10
 unfold Q41
 refine w_br (fun _=>w_lv fun x0 hx=>w_br (fun _=>w_cn hv0 (w_br (fun _=>w_cn hv0 ?_) (fun h=>by rw[hb]at h;cases h))) (fun h=>by rw[hx,pg]at h;cases h)) (fun h=>by cases h)
 refine w_lp (inv:=fun z=>0≤z.1∧z.1≤32∧Q0u P z.2∧ ∀k:Nat,byt z.2 k=if v*128≤k∧(k:Int)<v*128+4*z.1 then 0 else byt m k) (μ:=Qfm b m 10 v) ⟨show(0:Int)≤0 by decide,show(0:Int)≤32 by decide,hm,fun k=>by rw[if_neg];show¬(_∧_<_+4*(0:Int));omega⟩ (Nat.lt_succ_self _) (fun z hz=> ?_)
 obtain⟨z1,z2,z3,z4⟩:=hz
 have hl:=z3.len
 refine w_br (fun h=> ?_) (fun h=>⟨rfl,z3,fun k=> ?_⟩)
 · have h:=of_decide_eq_true h
   have e:IntKind.wrap IntKind.i64 (IntKind.wrap IntKind.i64 (IntKind.wrap IntKind.i64 v*32)+z.1)=v*32+z.1:=by rw[IntKind.wrap_i64,IntKind.wrap_i64,IntKind.wrap_i64];omega
   refine w_cn (by rw[e];simp [Nat.blt];omega) (w_nx ?_)
   have ew:IntKind.i64.wrap (z.1+1)=z.1+1:=by rw[IntKind.wrap_i64];omega
   show(0≤IntKind.i64.wrap (z.1+1)∧IntKind.i64.wrap (z.1+1)≤32∧Q0u P (List.set _ _ _)∧ ∀k:Nat,byt (List.set z.2 (Int.toNat (IntKind.wrap IntKind.i64 (IntKind.wrap IntKind.i64 (IntKind.wrap IntKind.i64 v*32)+z.1))) 0) k=if v*128≤(k:Int)∧(k:Int)<v*128+4*IntKind.i64.wrap (z.1+1) then 0 else _)∧(32-IntKind.i64.wrap (z.1+1)).toNat<(32-z.1).toNat
   rw[ew,e]
   refine⟨⟨by omega,by omega,⟨by simp [hl],z3.p1,z3.p2,Qu8 z3.u U_0 _⟩,fun k=> ?_⟩,by omega⟩
   rw[Zc0 (by omega)]
   by_cases hc:k/4=(v*32+z.1).toNat
   · rw[if_pos hc,if_pos (by omega)]
     have:k%4=0∨k%4=1∨k%4=2∨k%4=3:=by omega
     rcases this with h|h|h|h<;>rw[h]<;>rfl
   · rw[if_neg hc,z4 k]
     by_cases hd:v*128≤(k:Int)∧(k:Int)<v*128+4*z.1
     · rw[if_pos hd,if_pos (by omega)]
     · rw[if_neg hd,if_neg (by omega)]
 · have h:=of_decide_eq_false h
   show byt z.2 k=_
   rw[z4 k,show z.1=32 by omega];rfl
theorem bitv{g v:Int}(hg:U g)(v0:0≤v)(v1:v<32):(iand .u32 g (ishl .u32 1 v)==0)=(iand .u32 (ishr .u32 g v) 1==0):=by
 obtain⟨z,rfl⟩: ∃z:Nat,v=z:=⟨v.toNat,by omega⟩
 obtain⟨n,rfl⟩: ∃n:Nat,g=n:=⟨g.toNat,by have:=hg.1;omega⟩
 have hz:z<32:=by omega
 have hlt:(2:Nat)^z<4294967296:=by have:=Nat.pow_lt_pow_right (show 1<2 by omega) hz;simpa using this
 rw[and1 (Qo hg _),Qko z (by omega),shl_one v0 v1,Int.toNat_natCast]
 have hc:((2:Int)^z)=((2^z:Nat):Int):=by simp
 generalize hq:2^z=q at*
 rw[hc,Qod hg ⟨by omega,by omega⟩,Int.toNat_natCast,Int.toNat_natCast,←hq]
 have e1:(n&&&2^z)=0↔n/2^z%2=0:=by
   have t:n.testBit z=decide (n/2^z%2=1):=Nat.testBit_eq_decide_div_mod_eq
   constructor
   · intro h
     have h2:(n&&&2^z).testBit z=false:=by rw[h];exact Nat.zero_testBit z
     rw[Nat.testBit_and,Nat.testBit_two_pow_self,Bool.and_true,t]at h2
     have:=of_decide_eq_false h2
     omega
   · intro h
     have t0:n.testBit z=false:=by rw[t];exact decide_eq_false (by omega)
     apply Nat.eq_of_testBit_eq
     intro i
     rw[Nat.testBit_and,Nat.testBit_two_pow,Nat.zero_testBit]
     by_cases hi:z=i
     · subst hi;rw[t0];rfl
     · rw[decide_eq_false hi,Bool.and_false]
 rw[Bool.eq_iff_iff,beq_iff_eq,beq_iff_eq]
 constructor
 · intro h;have:=e1.1 (by omega);omega
 · intro h;have:=e1.2 (by omega);omega
theorem Zb1 {P:Nat}{m:List Int}(h:Q0u P m){b:Q05}(hb:okB b)(port:Int){v:Int}(hv:U v):Q6y b m port v=Q5y b m port v:=by
  have hcl:Q02 m=m:=rfl
  have hp:=Q21 h
  have h2:=h.p2
  have ew:IntKind.i64.wrap v=v:=w64 (by have:=hv.1;omega) (by have:=hv.2;omega)
  have pe:=Qju h hv
  by_cases h32:v<32
  · have bv :=bitv hb.2 hv.1 h32
    by_cases h10:port=10
    · by_cases hP:v<P
      · cases hz:iand .u32 (ishr .u32 b.Given v) 1==0
        · simp only[Q6y,Q2y,Q5y,Q41,Tree.m,letv,hcl,hp,ew,pe,bv,hz,h10,decide_eq_true hP,decide_eq_false (show¬v≥32 by omega)]
          rfl
        · obtain⟨g1,g2,g3⟩:=(Tree.pp (give_b h hv hP h10 hz)).2
          change(Q5y b m port v).1=_ at g1
          change Q0u P (Q5y b m port v).2 at g2
          change∀k:Nat,byt (Q5y b m port v).2 k=_ at g3
          obtain⟨s1,s2,s3⟩:=(Tree.pp (Qxk h hv.1 hP (s:=List.replicate 128 0) (by simp))).2
          have em:(Q2k m v (List.replicate 128 0)).1=(Q5y b m port v).2:=by
            refine Zar (s2.len.trans g2.len.symm) s2.u g2.u fun k=> ?_
            rw[g3 k]
            refine(s3 k).trans ?_
            by_cases hk:v*128≤(k:Int)∧(k:Int)<v*128+128
            · rw[if_pos hk,if_pos hk]
              have:(List.replicate 128 (0:UInt8)).getD ((k:Int)-v*128).toNat 0=0:=by
                rw[List.getD_eq_getElem?_getD,List.getElem?_replicate]
                split<;>rfl
              rw[this];rfl
            · rw[if_neg hk,if_neg hk]
          have el:Q6y b m port v=({Target:=b.Target,Given:=ior .u32 b.Given (ishl .u32 1 v)},(Q2k m v (List.replicate 128 0)).1):=by
            simp only[Q6y,Q2y,Tree.m,letv,hcl,hp,ew,bv,hz,h10,decide_eq_true hP,decide_eq_false (show¬v≥32 by omega),zeros]
            rfl
          rw[el,em,←g1]
      · simp only[Q6y,Q2y,Q5y,Q41,Tree.m,letv,hcl,hp,ew,pe,h10,decide_eq_false hP,decide_eq_false (show¬v≥32 by omega)]
        rfl
    · simp only[Q6y,Q2y,Q5y,Q41,Tree.m,letv,hcl,decide_eq_true h32,decide_eq_false (show¬v≥32 by omega),show(port==10)=false by simpa using h10]
      cases port==11<;>rfl
  · simp only[Q6y,Q2y,Q5y,Q41,Tree.m,letv,hcl,pe,decide_eq_false h32,decide_eq_true (show v≥32 by omega),decide_eq_false (show¬v<P by omega)]
    cases port==10<;>cases port==11<;>rfl
end Go.Proofs.YtdkiadhigcfmkaaGreat
namespace Go.Proofs.YtdkiadhigcfmkaaGreat
open Go Go.GD
set_option linter.unusedVariables false
set_option linter.unusedSimpArgs false
set_option maxRecDepth 100000
structure okV(m:Q00):Prop where
 cpu:Q2g m.Cpu
 mem: ∀w∈m.Mem,U w
 disk:Q85 m.Disk
 nic:Qh6 m.Nic
 bal:okB m.Balloon
 cnt:0≤m.Count
theorem Qqm(m:List Int)(hm: ∀w∈m,U w):Q0q m=Q3c m∧(Q0q m=0∨ ∃P:Nat,1≤P∧Q0u P m):=by
 refine⟨rfl,?_⟩
 simp only[Q0q,Q7n,Tree.m]
 cases h1:Int.tmod (m.length:Int) 32 !=0
 · cases h2:decide ((m.length:Int)>1024)
   · have h1:Int.tmod (m.length:Int) 32=0:=by simpa using h1
     have h2:=of_decide_eq_false h2
     rw[Int.tmod_eq_emod_of_nonneg (by omega)]at h1
     by_cases h0:m.length=0
     · left;rw[h0];rfl
     · right;exact⟨m.length/32,by omega,⟨by omega,by omega,by omega,hm⟩⟩
   · left;rfl
 · left;rfl
theorem rcnd{a x:Bool}:(bif !a then false else x)=true↔a=true∧x=true:=by cases a<;>simp
theorem rmay_iff(m:Q00):Q9d m=true↔ ¬(Q3c m.Mem<1)∧Q6 m.Cpu∧Qfv m.Console=true∧Qb0 m.Timer=true∧Qdn m.Disk (Q3c m.Mem)=true∧Qge m.Nic (Q3c m.Mem)=true∧Q8c m.Balloon (Q3c m.Mem)=true∧m.Count≤1152921504606846976∧ ¬(m.Waiting=true∧m.Halted=true):=by
 simp only[Q9d,Qr6,Tree.m,letv]
 rw[cnd2,cnd2,cnd2,cnd2,cnd2,cnd2,rcnd,rcnd,rcnd,rcnd,rcnd]
 simp only[decide_eq_false_iff_not,Int.not_lt,bne_eq_false_iff_eq,gt_iff_lt]
 have l:((bif decide (m.Count≤1152921504606846976) then(bif m.Waiting then !m.Halted else true) else false)=true)↔m.Count≤1152921504606846976∧ ¬(m.Waiting=true∧m.Halted=true):=by
   by_cases hc:m.Count≤1152921504606846976
   · rw[decide_eq_true hc]
     cases m.Waiting<;>cases m.Halted<;>simp [hc]
   · rw[decide_eq_false hc];simp [hc]
 rw[l]
 constructor
 · rintro⟨a1,a2,a3,a4,a5,a6,a7⟩
   exact⟨by omega,⟨a2,a3,a4,a5,a6⟩,a7⟩
 · rintro⟨a1,⟨a2,a3,a4,a5,a6⟩,a7⟩
   exact⟨by omega,a2,a3,a4,a5,a6,a7⟩
theorem Qvk{m:Q00}(h:okV m):Q0z m=Q9d m:=by
 rw[Bool.eq_iff_iff,Qi5,rmay_iff,Zdq]
 obtain⟨e,c⟩:=Qqm m.Mem h.mem
 simp only[Bool.and_eq_true,←e]
 rcases c with c|⟨P,hP,hm⟩
 · constructor
   · rintro⟨a,_⟩;exact absurd c a
   · rintro⟨a,_⟩;omega
 · rw[Q21 hm,Qz5,Z4i,Z7j,Zb3 h.bal.2 hm.p2]
   constructor
   · rintro⟨a1,a2,a3,a4,a5,a6,a7,a8,a9⟩;exact⟨by omega,a2,a5,a6,a7,a8,a9,a3,a4⟩
   · rintro⟨a1,a2,a5,a6,a7,a8,a9,a3,a4⟩;exact⟨by omega,a2,a3,a4,a5,a6,a7,a8,a9⟩
def Qwp(a b c d e:Bool):Int:=ior .u32 (ior .u32 (ior .u32 (ior .u32 (Q8e a 0) (Q8e b 1)) (Q8e c 2)) (Q8e d 3)) (Q8e e 4)
theorem mlines(m:Q00):Q5j m=Qwp (Q9k m.Timer) (Q4p m.Console) (Q5v m.Disk) (Qcq m.Nic) (Q3q m.Balloon):=by
 unfold Q5j Q4o
 simp only[Tree.m,letv]
 generalize Q9k m.Timer=a
 generalize Q4p m.Console=b
 generalize Q5v m.Disk=c
 generalize Qcq m.Nic=d
 generalize Q3q m.Balloon=e
 cases a<;>cases b<;>cases c<;>cases d<;>cases e<;>kernel_rfl
theorem Z1t(a b c d e:Bool):0≤Qwp a b c d e∧Qwp a b c d e<32:=by
 cases a<;>cases b<;>cases c<;>cases d<;>cases e<;>decide
theorem rlines(m:Q00):Qf9 m=Qwp (Q98 m.Timer) (Q4w m.Console) (Qab m.Disk) (Qbh m.Nic) (Q3b m.Balloon):=rfl
section
variable {m:Q00} (h:okV m)
include h
theorem Zh1:Q5j m=Qf9 m:=by
 rw[mlines,rlines,con_same,Z8v h.bal];rfl
theorem Qhd:Q0l m=Q2s m:=by
 have e:=Zh1 h
 simp only[Q0l,Q2e,Q2s,Q80,Tree.m,letv,e]
theorem Z91:Q2i m=Qbs m:=by
 have e:=Qhd h
 simp only[Q2i,Q1s,Qbs,Qco,Tree.m,letv,e]
theorem Z8n:Q2j m=!Q2c m:=by
 have e1:=Qvk h
 have e2:=Z91 h
 have e3:decide (m.Count≥1152921504606846976)=!decide (m.Count<1152921504606846976):=ge_not
 simp only[Q2j,Q4e,Q2c,Q8d,Tree.m,letv,e1,e2,e3]
 cases Q9d m<;>cases m.Halted<;>cases Qbs m<;>cases decide (m.Count<1152921504606846976)<;>rfl
theorem Qr7:0≤Q2s m∧Q2s m<32:=by
 have e:Q2s m=iand .u32 (Qf9 m) m.Cpu.Csr.a7:=rfl
 have l:=Z1t (Q98 m.Timer) (Q4w m.Console) (Qab m.Disk) (Qbh m.Nic) (Q3b m.Balloon)
 rw[←rlines]at l
 rw[e,Qod ⟨l.1,by omega⟩ h.cpu.a7]
 have:=Nat.and_le_left (n:=(Qf9 m).toNat) (m:=m.Cpu.Csr.a7.toNat)
 omega
def low(l:Int):Int:=if l%2=1 then 0 else if l/2%2=1 then 1 else if l/4%2=1 then 2 else if l/8%2=1 then 3 else 4
end
theorem cases32{l:Int}(h0:0≤l)(h1:l<32):l=0∨l=1∨l=2∨l=3∨l=4∨l=5∨l=6∨l=7∨l=8∨l=9∨l=10∨l=11∨l=12∨l=13∨l=14∨l=15∨l=16∨l=17∨l=18∨l=19∨l=20∨l=21∨l=22∨l=23∨l=24∨l=25∨l=26∨l=27∨l=28∨l=29∨l=30∨l=31:=by omega
def intr(m:Q00)(l:Int):Q03:=bif iand .u32 m.Cpu.Csr.a0 2==0 then m.Cpu else bif l==0 then m.Cpu else Q24 m.Cpu (IntKind.wrap .i64 (16+low l)) 0
theorem rintr{m:Q00}(h:okV m):Q0n m=intr m (Q2s m):=by
 obtain⟨l0,l1⟩:=Qr7 h
 unfold Q0n Q3u
 simp only[Tree.m,letv]
 revert l0 l1
 generalize Q2s m=l
 intro l0 l1
 unfold intr
 cases iand .u32 m.Cpu.Csr.a0 2==0
 · rcases cases32 l0 l1 with rfl|rfl|rfl|rfl|rfl|rfl|rfl|rfl|rfl|rfl|rfl|rfl|rfl|rfl|rfl|rfl|rfl|rfl|rfl|rfl|rfl|rfl|rfl|rfl|rfl|rfl|rfl|rfl|rfl|rfl|rfl|rfl<;>kernel_rfl
 · rfl
def beg(m:Q00)(c:Q03):Q00:={Cpu:=c,Mem:=m.Mem,Console:=m.Console,Timer:=m.Timer,Disk:=m.Disk,Nic:=m.Nic,Balloon:=m.Balloon,Count:=m.Count,Waiting:=false,Halted:=m.Halted}
theorem Zf2{m:Q00}(h:okV m)(hst:m.Cpu.Csr.a0≤31):Q0y m=beg m (Q0n m):=by
 obtain⟨l0,l1⟩:=Qr7 h
 have tr: ∀k b,Q40 m.Cpu k b=Q24 m.Cpu k b:=Ql6 h.cpu.a0.1 hst
 have e:Q0l (beg m m.Cpu)=Q2s m:=Qhd (m:=beg m m.Cpu) ⟨h.cpu,h.mem,h.disk,h.nic,h.bal,h.cnt⟩
 rw[rintr h]
 unfold Q0y Q4s
 simp only[Tree.m,letv]
 rw[show Q0l {Cpu:=m.Cpu,Mem:=m.Mem,Console:=m.Console,Timer:=m.Timer,Disk:=m.Disk,Nic:=m.Nic,Balloon:=m.Balloon,Count:=m.Count,Waiting:=false,Halted:=m.Halted}=Q2s m from e]
 revert l0 l1
 generalize Q2s m=l
 intro l0 l1
 unfold intr
 simp only[←tr]
 cases iand .u32 m.Cpu.Csr.a0 2==0
 · rcases cases32 l0 l1 with rfl|rfl|rfl|rfl|rfl|rfl|rfl|rfl|rfl|rfl|rfl|rfl|rfl|rfl|rfl|rfl|rfl|rfl|rfl|rfl|rfl|rfl|rfl|rfl|rfl|rfl|rfl|rfl|rfl|rfl|rfl|rfl<;>(show _=_;kernel_rfl)
 · rfl
end Go.Proofs.YtdkiadhigcfmkaaGreat
namespace Go.Proofs.YtdkiadhigcfmkaaGreat
open Go Go.GD
set_option linter.unusedVariables false
set_option linter.unusedSimpArgs false
set_option maxRecDepth 100000
theorem ports{p:Int}:p=0∨p=1∨p=2∨p=3∨p=4∨p=5∨p=6∨p=7∨p=8∨p=9∨p=10∨p=11∨p<0∨12≤p:=by omega
theorem in_same{m:Q00}(hb:okB m.Balloon)(port clock:Int):Q12 m port clock=((Qbu m port clock).2,(Qbu m port clock).1):=by
 have e1:=Zgm m.Console
 have e2: ∀p,Qru m.Disk p=Qfk m.Disk p:=fun _=>rfl
 have e3:=Zfj m.Nic
 have e4:=Zf hb
 have e5:Qv8 m.Timer=Qdd m.Timer:=rfl
 simp only[Q12,Q2z,Qbu,Qid,Tree.m,letv,e1,e2,e3,e4,e5]
 rcases ports (p:=port) with rfl|rfl|rfl|rfl|rfl|rfl|rfl|rfl|rfl|rfl|rfl|rfl|h|h
 all_goals first|rfl|skip
 · have n: ∀k:Int,0≤k→(port==k)=false:=fun k hk=>beq_eq_false_iff_ne.2 (by omega)
   have c:Q4f m.Console port=(m.Console,0):=by
     simp only[Q4f,Q33,Tree.m,n 0 (by decide),n 1 (by decide),cond_false]
   simp only[n 0 (by decide),n 1 (by decide),n 2 (by decide),n 3 (by decide),n 4 (by decide),n 5 (by decide),n 6 (by decide),n 7 (by decide),n 8 (by decide),n 9 (by decide),n 10 (by decide),n 11 (by decide),cond_false,decide_eq_true (show port≤1 by omega),cond_true,c]
 · have n: ∀k:Int,k<12→(port==k)=false:=fun k hk=>beq_eq_false_iff_ne.2 (by omega)
   have c:Q4d m.Balloon port=0:=by
     simp only[Q4d,Q5g,Tree.m,n 10 (by decide),n 11 (by decide),cond_false]
   simp only[n 0 (by decide),n 1 (by decide),n 2 (by decide),n 3 (by decide),n 4 (by decide),n 5 (by decide),n 6 (by decide),n 7 (by decide),n 8 (by decide),n 9 (by decide),n 10 (by decide),n 11 (by decide),cond_false,decide_eq_false (show¬port≤1 by omega),decide_eq_false (show¬port≤6 by omega),decide_eq_false (show¬port≤9 by omega),c]
theorem out_same{P:Nat}{m:Q00}(hm:Q0u P m.Mem)(hb:okB m.Balloon)(port:Int){v:Int}(hv:U v):Q1w m port v m.Count=((Q9h m port v).2,(Q9h m port v).1):=by
 have e1:=Z6l hm m.Disk
 have e2:=Zb6 hm m.Nic
 have e3:=Zb1 hm hb port hv
 have e4:=arm_same m.Timer v
 simp only[Q1w,Q2q,Q9h,Qcf,Tree.m,letv,e1,e2,e3,e4]
 rcases ports (p:=port) with rfl|rfl|rfl|rfl|rfl|rfl|rfl|rfl|rfl|rfl|rfl|rfl|h|h
 all_goals first|rfl|skip
 · have n: ∀k:Int,0≤k→(port==k)=false:=fun k hk=>beq_eq_false_iff_ne.2 (by omega)
   simp only[n 0 (by decide),n 1 (by decide),n 2 (by decide),n 3 (by decide),n 4 (by decide),n 5 (by decide),n 6 (by decide),n 7 (by decide),n 8 (by decide),n 9 (by decide),n 10 (by decide),n 11 (by decide),cond_false,decide_eq_true (show port≤2 by omega),cond_true]
 · have n: ∀k:Int,k<12→(port==k)=false:=fun k hk=>beq_eq_false_iff_ne.2 (by omega)
   have c:Q5y m.Balloon m.Mem port v=(m.Balloon,m.Mem):=by
     simp only[Q5y,Q41,Tree.m,n 10 (by decide),n 11 (by decide),cond_false]
   simp only[n 0 (by decide),n 1 (by decide),n 2 (by decide),n 3 (by decide),n 4 (by decide),n 5 (by decide),n 6 (by decide),n 7 (by decide),n 8 (by decide),n 9 (by decide),n 10 (by decide),n 11 (by decide),cond_false,decide_eq_false (show¬port≤2 by omega),decide_eq_false (show¬port≤6 by omega),decide_eq_false (show¬port≤9 by omega),c]
def tick(n:Q00)(c:Q03)(w h:Bool):Q00:={Cpu:=c,Mem:=n.Mem,Console:=n.Console,Timer:=n.Timer,Disk:=n.Disk,Nic:=n.Nic,Balloon:=n.Balloon,Count:=IntKind.wrap .u64 (n.Count+1),Waiting:=w,Halted:=h}
def withX(m:Q00)(c:Q03)(mem:List Int):Q00:={Cpu:=c,Mem:=mem,Console:=m.Console,Timer:=m.Timer,Disk:=m.Disk,Nic:=m.Nic,Balloon:=m.Balloon,Count:=m.Count,Waiting:=false,Halted:=m.Halted}
def finP(n:Q00)(e:Q1)(clock at0:Int):Q00×List Q07:=
 bif e.Kind==1 then
   (bif e.Reg !=0 then(tick (Q12 n e.Port clock).1 {X:=A16.of 0 (List.set (A16.l (Q12 n e.Port clock).1.Cpu.X) (Int.toNat e.Reg) (Q12 n e.Port clock).2),Pc:=(Q12 n e.Port clock).1.Cpu.Pc,Csr:=(Q12 n e.Port clock).1.Cpu.Csr} (Q12 n e.Port clock).1.Waiting (Q12 n e.Port clock).1.Halted,[])
   else(tick (Q12 n e.Port clock).1 (Q12 n e.Port clock).1.Cpu (Q12 n e.Port clock).1.Waiting (Q12 n e.Port clock).1.Halted,[]))
 else bif e.Kind==2 then(tick (Q1w n e.Port e.Value at0).1 (Q1w n e.Port e.Value at0).1.Cpu (Q1w n e.Port e.Value at0).1.Waiting (Q1w n e.Port e.Value at0).1.Halted,(Q1w n e.Port e.Value at0).2)
 else bif e.Kind==3 then(tick n n.Cpu true n.Halted,[]) else bif e.Kind==4 then(tick n n.Cpu n.Waiting true,[]) else(tick n n.Cpu n.Waiting n.Halted,[])
def finR(n:Q00)(e:Q1)(clock:Int):List Q07×Q00:=
 bif e.Kind==1 then([],tick (Qbu n e.Port clock).2 (Q1i (Qbu n e.Port clock).2.Cpu e.Reg (Qbu n e.Port clock).1) (Qbu n e.Port clock).2.Waiting (Qbu n e.Port clock).2.Halted)
 else bif e.Kind==2 then((Q9h n e.Port e.Value).1,tick (Q9h n e.Port e.Value).2 (Q9h n e.Port e.Value).2.Cpu (Q9h n e.Port e.Value).2.Waiting (Q9h n e.Port e.Value).2.Halted)
 else bif e.Kind==3 then([],tick n n.Cpu true n.Halted) else bif e.Kind==4 then([],tick n n.Cpu n.Waiting true) else([],tick n n.Cpu n.Waiting n.Halted)
theorem adv_eq(m:Q00)(clock:Int):Q1a m clock=finR (withX m (Q2w (Q0n m) m.Mem).1 (Q2w (Q0n m) m.Mem).2.2) (Q2w (Q0n m) m.Mem).2.1 clock:=by kernel_rfl
theorem pstep_eq(m:Q00)(clock:Int):Q8j m clock=bif !Q2j m then(m,[]) else finP {Cpu:=(Q86 (Q0y m).Cpu (Q0y m).Mem).1,Mem:=(Q86 (Q0y m).Cpu (Q0y m).Mem).2.1,Console:=(Q0y m).Console,Timer:=(Q0y m).Timer,Disk:=(Q0y m).Disk,Nic:=(Q0y m).Nic,Balloon:=(Q0y m).Balloon,Count:=(Q0y m).Count,Waiting:=(Q0y m).Waiting,Halted:=(Q0y m).Halted} (Q86 (Q0y m).Cpu (Q0y m).Mem).2.2 clock m.Count:=by kernel_rfl
theorem copy_eq(m:List Int):Qln m=m:=by
 simp [Qln,Q8v,Tree.m]
theorem Qwe(m:Q00):Qhs m=m:=by
 simp only[Qhs,Q7s,Tree.m,letv,copy_eq]
theorem Z5h(m:Q00)(clock:Int):Qxr m clock=bif Q2c m then(m,[]) else((Q1a m clock).2,(Q1a m clock).1):=by
 simp only[Qxr,Qw,Tree.m,letv,Qwe]
theorem fin_same{P:Nat}{n:Q00}(hm:Q0u P n.Mem)(hb:okB n.Balloon){e:Q1}(hr:0≤e.Reg∧e.Reg<16)(hv:U e.Value)(clock:Int):finP n e clock n.Count=((finR n e clock).2,(finR n e clock).1):=by
 unfold finP finR
 rw[in_same hb e.Port clock,out_same hm hb e.Port hv]
 cases e.Kind==1
 · cases e.Kind==2
   · cases e.Kind==3
     · cases e.Kind==4<;>rfl
     · rfl
   · rfl
 · generalize Qbu n e.Port clock=r
   have s:=Qvb r.2.Cpu hr r.1
   show(bif e.Reg !=0 then _ else _)=(tick r.2 (Q1i r.2.Cpu e.Reg r.1) r.2.Waiting r.2.Halted,[])
   rw[←s]
   simp only[Q9u,Qa5,Tree.m]
   cases e.Reg !=0<;>rfl
theorem Z9z{m:Q00}(h:okV m)(clock:Int):Q8j m clock=Qxr m clock:=by
 rw[pstep_eq,Z5h,Z8n h]
 cases hs:Q2c m
 · have hr:Q2j m=true:=by rw[Z8n h,hs];rfl
   obtain⟨hm,hh,hct⟩:=Z3 hr
   obtain⟨g1,g2,g3,g4,g5⟩:=(Qi5 m).1 hm
   rcases(Qqm m.Mem h.mem).2 with c|⟨P,hP,hmem⟩
   · exact absurd c g1
   have okm:okS P m:=⟨h.cpu,hmem,h.disk,h.nic,h.bal.1,h.bal.2⟩
   obtain⟨b1,b2,b3,_⟩:=(Tree.pp (Qx7 okm g2)).2
   change Q6 (Q0y m).Cpu at b1
   change okS P (Q0y m) at b2
   change(Q0y m).Mem=m.Mem at b3
   have be:=Zf2 h g2.st
   have b1':Q6 (Q0n m):=by have:=b1;rw[be]at this;exact this
   have b2':Q2g (Q0n m):=by have:=b2.cpu;rw[be]at this;exact this
   have ex:=exec_same hmem b2' b1'.st
   have er:=(Tree.pp (Z49 b2' hmem)).2
   change 0≤(Q86 (Q0n m) m.Mem).2.2.Reg∧(Q86 (Q0n m) m.Mem).2.2.Reg<16 at er
   obtain⟨d1,d2,d3⟩:=(Tree.pp (do_w b2' hmem)).2
   change U (Q2w (Q0n m) m.Mem).2.1.Value at d2
   change Q0u P (Q2w (Q0n m) m.Mem).2.2 at d3
   rw[ex]at er
   rw[adv_eq,be]
   show finP {Cpu:=(Q86 (Q0n m) m.Mem).1,Mem:=(Q86 (Q0n m) m.Mem).2.1,Console:=m.Console,Timer:=m.Timer,Disk:=m.Disk,Nic:=m.Nic,Balloon:=m.Balloon,Count:=m.Count,Waiting:=false,Halted:=m.Halted} (Q86 (Q0n m) m.Mem).2.2 clock m.Count=_
   rw[ex]
   exact fin_same (n:=withX m (Q2w (Q0n m) m.Mem).1 (Q2w (Q0n m) m.Mem).2.2) d3 h.bal er d2 clock
 · rfl
end Go.Proofs.YtdkiadhigcfmkaaGreat
namespace Go.Proofs.YtdkiadhigcfmkaaGreat
open Go Go.GD
set_option linter.unusedVariables false
set_option linter.unusedSimpArgs false
set_option maxRecDepth 100000
theorem Zff{m:Q00}(h:okV m)(e:Q0e):Qex m e=Q9p m e:=by
 have hcl:Q02 m.Mem=m.Mem:=rfl
 have mm:=Qvk h
 have t1:Qmp m.Timer=Qq3 m.Timer:=rfl
 have t2: ∀b,Qtw m.Console b=Qpg m.Console b:=fun _=>rfl
 simp only[Qex,Qbr,Q9p,Q6v,Q13,Q6u,Tree.m,letv,Qwe,hcl,t1,t2]
 rw[show Q0z {Cpu:=m.Cpu,Mem:=m.Mem,Console:=m.Console,Timer:=m.Timer,Disk:=m.Disk,Nic:=m.Nic,Balloon:=m.Balloon,Count:=m.Count,Waiting:=m.Waiting,Halted:=m.Halted}=Q9d m from mm]
 cases hM:Q9d m
 · rfl
 have hM':Q0z m=true:=mm.trans hM
 rcases(Qqm m.Mem h.mem).2 with c|⟨P,hP,hmem⟩
 · exact absurd c ((Qi5 m).1 hM').1
 have cs:=Z4y hmem h.disk e
 have rs:=Z9h hmem h.nic e.Data
 clear mm hM hM' hcl h
 obtain⟨c,mem,con,ti,d,n,b,ct,w,hl⟩:=m
 cases hl
 · by_cases k2:e.Kind=2
   · rw[k2];cases e.N==0<;>cases decide (e.Data=[])<;>rfl
   by_cases k3:e.Kind=3
   · rw[k3];cases decide (e.N≤255)<;>cases decide (e.Data=[])<;>rfl
   by_cases k4:e.Kind=4
   · rw[k4,cs];rfl
   by_cases k5:e.Kind=5
   · rw[k5,rs];cases e.N==0<;>rfl
   by_cases k6:e.Kind=6
   · rw[k6];cases decide (e.Data=[])<;>rfl
   · rw[show(e.Kind==2)=false by simpa using k2,show(e.Kind==3)=false by simpa using k3,show(e.Kind==4)=false by simpa using k4,show(e.Kind==5)=false by simpa using k5,show(e.Kind==6)=false by simpa using k6]
     rfl
 · rfl
end Go.Proofs.YtdkiadhigcfmkaaGreat
namespace Go.Proofs.YtdkiadhigcfmkaaGreat
open Go Go.GD
attribute [local irreducible] Q2p
set_option linter.unusedVariables false
set_option linter.unusedSimpArgs false
set_option maxRecDepth 100000
theorem few_two{l acts:List Int}{x0:Bool}(hx0:x0=Qvc l acts)(hb:(!x0)=false):l.length≤40∧acts.length≤30:=by
 have hb:x0=true:=by simpa using hb
 rw[hb]at hx0
 simp only[Qvc,Qsj,Tree.m]at hx0
 cases h1:decide ((l.length:Int)≤40)<;>rw[h1]at hx0
 · cases hx0
 · have:=of_decide_eq_true hx0.symm
   have:=of_decide_eq_true h1
   omega
theorem ownV{m:Q00}(hl:m.Mem.length≤1024):(Q7s m).w (fun x=>x=m):=by
 unfold Q7s Qln
 have c:(Q8v m.Mem).w (fun r=>r=m.Mem):=by
   unfold Q8v
   refine w_cn ?_ ?_
   · simp [Nat.blt,D.plain];omega
   · show _=_;simp
 exact Q0a c fun x hx=>by rw[hx];rfl
theorem Zd3{m:Q00}{P:Nat}(h:okM P m){e:Q0e}(he:U e.N):(Q6u m e).w (fun x=>okM P x.2):=by
 have k:=h
 obtain⟨h1,h2,h3,h4,h5,h7⟩:=h
 unfold Q6u
 repeat'(first
   |exact k
   |exact⟨h1,h2,h3,h4,⟨he,h5.2⟩,h7⟩
   |exact w_lv fun _ _=>⟨h1,h2,h3,h4,h5,h7⟩
   |exact Q0a (type_w _ _) fun _ _=>⟨h1,h2,h3,h4,h5,h7⟩
   |exact Q0a (Zdv h2 h3 _) fun x hx=>⟨h1,hx.2,hx.1,h4,h5,h7⟩
   |exact Q0a (Zd9 h2 h4 _) fun x hx=>⟨h1,hx.2,h3,hx.1,h5,h7⟩
   |refine w_br (fun _=> ?_) (fun _=> ?_))
section
variable {m:Q00} (h:okV m) (hl:m.Mem.length≤1024)
include h
theorem may_P(hm:Q0z m=true): ∃P,okS P m∧okM P m:=by
 rcases(Qqm m.Mem h.mem).2 with c|⟨P,hP,hmem⟩
 · exact absurd c ((Qi5 m).1 hm).1
 · exact⟨P,⟨h.cpu,hmem,h.disk,h.nic,h.bal.1,h.bal.2⟩,⟨h.cpu,hmem,h.disk,h.nic,h.bal,h.cnt⟩⟩
include hl
theorem rapplyV{e:Q0e}(he:U e.N):Qhx m e∧(Q9p m e).1.Mem.length≤1024:=by
 refine Tree.pp (t:=Q6v m e) (W:=fun r=>r.1.Mem.length≤1024) ?_
 unfold Q6v
 refine Q0a (ownV hl) fun x0 e0=> ?_
 subst e0
 refine w_lv fun x1 h1=>w_br (fun _=>hl) fun hb=> ?_
 have hm:Q0z x0=true:=by
   rw[Qvk h]
   have:x1=true:=by simpa using hb
   exact h1.symm.trans this
 obtain⟨P,_,o⟩:=may_P h hm
 exact Q0a (Zd3 o he) fun x hx=>by
   show x.2.Mem.length≤1024
   have:=hx.mem.len
   have:=hx.mem.p2
   omega
end
end Go.Proofs.YtdkiadhigcfmkaaGreat
namespace Go.Proofs.YtdkiadhigcfmkaaGreat
open Go Go.GD
attribute [local irreducible] Q2p
set_option linter.unusedVariables false
set_option linter.unusedSimpArgs false
set_option maxRecDepth 100000
def Tree.V{β:Type}(t:Tree β)(W:β→Prop):Prop:=W t.m
section
variable {α β:Type} {W:β→Prop} {c:Bool} {t e:Tree β}
theorem v_lf{x:β}(h:W x):Tree.V (.lf x) W:=h
theorem v_nx{f:Prop}{x:β}{hf:f}(h:W x):Tree.V (.nx f x hf) W:=h
theorem v_br(h:c=true→Tree.V t W)(g:c=false→Tree.V e W):Tree.V (.br c t e) W:=by
 cases c
 · exact g rfl
 · exact h rfl
theorem v_cn(g:Tree.V t W):Tree.V (.cn c t) W:=g
theorem v_an{p:Prop}(g:Tree.V t W):Tree.V (.an p t) W:=g
theorem v_lv{x:α}{k:α→Tree β}(h: ∀y,y=x→Tree.V (k y) W):Tree.V (.lv x k) W:=h x rfl
theorem v_lp{d:Inhabited β}{n:Nat}{f:Prop}{x:α}{k:α→Tree (α⊕β)}{hf:f}{inv:α→Prop}{μ:α→Nat}(h:inv x)(hn:μ x<n)(g: ∀y,inv y→Tree.V (k y) (Sum.elim (fun z=>inv z∧μ z<μ y) W)):Tree.V (.lp d n f x k hf) W:=by
 refine Zbg (P:=inv) (R:=W) (μ:=μ) (fun a ha=> ?_) n x h hn
 have:=g a ha
 unfold Tree.V at this
 revert this
 cases(k a).m with
 |inl z=>exact fun h=>h
 |inr b=>exact fun h=>h
end
def Z0i(r:Q01)(m:Q00):Q01:={Machine:=m,Clock:=r.Clock,Log:=r.Log,Queue:=r.Queue}
theorem inR_eq(r:Q01)(port clock:Int):Qqs r port clock=((Qbu r.Machine port clock).1,Z0i r (Qbu r.Machine port clock).2):=by
 simp only[Qqs,Qgl,Qbu,Qid,Tree.m,letv]
 cases decide (port≤1)<;>cases port==2<;>cases port==3<;>cases decide (port≤6)<;>cases decide (port≤9)<;>rfl
theorem outR_eq(r:Q01)(port v:Int):Qmq r port v=((Q9h r.Machine port v).1,Z0i r (Q9h r.Machine port v).2):=by
 simp only[Qmq,Qav,Q9h,Qcf,Tree.m,letv]
 cases port==0<;>cases decide (port≤2)<;>cases port==3<;>cases decide (port≤6)<;>cases decide (port≤9)<;>rfl
theorem cond_R{r:Q01}{c:Bool}{x y:Bool×Q01}{x' y':Bool×Q00}(hx:x=(x'.1,Z0i r x'.2))(hy:y=(y'.1,Z0i r y'.2)):cond c x y=((cond c x' y').1,Z0i r (cond c x' y').2):=by cases c<;>assumption
theorem applyR_eq(r:Q01)(e:Q0e):Qhq r e=((Q13 r.Machine e).1,Z0i r (Q13 r.Machine e).2):=by
 simp only[Qhq,Q7y,Q13,Q6u,Tree.m,letv]
 repeat'(first|rfl|refine cond_R ?_ ?_)
theorem Z3i(r:Q01)(clock:Int):Q66 r clock=((Q1a r.Machine clock).1,Z0i r (Q1a r.Machine clock).2):=by
 simp only[Q66,Q5b,Q1a,Q7o,Tree.m,letv,inR_eq,outR_eq,Z0i]
 cases(Q2w (Q0n r.Machine) r.Machine.Mem).2.1.Kind==1<;>cases(Q2w (Q0n r.Machine) r.Machine.Mem).2.1.Kind==2<;>cases(Q2w (Q0n r.Machine) r.Machine.Mem).2.1.Kind==3<;>cases(Q2w (Q0n r.Machine) r.Machine.Mem).2.1.Kind==4<;>rfl
def Qdt(r:Q01)(e:Q0e):Q01:=
 bif(Q13 r.Machine e).1 then{Machine:=(Q13 r.Machine e).2,Clock:=r.Clock,Log:=r.Log++[{At:=(Q13 r.Machine e).2.Count,Event:=e}],Queue:=r.Queue} else Z0i r (Q13 r.Machine e).2
theorem Zep(r:Q01)(e:Q0e):Qgh r e=Qdt r e:=by
 have a:Qet r e=((Q13 r.Machine e).1,Z0i r (Q13 r.Machine e).2):=by
   simp only[Qet,Q6m,Tree.m,letv,applyR_eq]
 simp only[Qgh,Q9i,Tree.m,letv,a,Qdt]
 cases(Q13 r.Machine e).1<;>rfl
def Qk6(r:Q01):Q01:=bif Qmm r.Machine.Timer r.Clock then Qdt r {Kind:=2,N:=0,Data:=[]} else r
def readF(r:Q01):Q01:=bif Qbq r.Machine then{Machine:=r.Machine,Clock:=r.Clock,Log:=r.Log++[{At:=r.Machine.Count,Event:={Kind:=1,N:=r.Clock,Data:=[]}}],Queue:=r.Queue} else r
def Zgw(r:Q01):Q01:={Machine:=(Q1a r.Machine r.Clock).2,Clock:=IntKind.wrap .u32 (r.Clock+1),Log:=(readF r).Log,Queue:=r.Queue}
def recF:Nat→Q01→List Q07→Q01×List Q07
 |0,r,o=>(r,o)
 |n+1,r,o=>bif Q2c (Qk6 r).Machine then(Qk6 r,o) else recF n (Zgw (Qk6 r)) (o++(Q1a (Qk6 r).Machine (Qk6 r).Clock).1)
def noQ(r:Q01):Q01:={Machine:=r.Machine,Clock:=r.Clock,Log:=r.Log,Queue:=[]}
def advF(r:Q01)(steps clock:Int):Q01×List Q07:=
 bif !Q9d r.Machine then(r,[]) else recF (Q19 steps).toNat (noQ (r.Queue.foldl Qdt {Machine:=r.Machine,Clock:=if clock>r.Clock then clock else r.Clock,Log:=r.Log,Queue:=r.Queue})) []
theorem Qm1(r:Q01)(e:Q0e):(Qdt r e).Queue=r.Queue:=by
 unfold Qdt;cases(Q13 r.Machine e).1<;>rfl
theorem Ze0(r:Q01):Qlx r=r:=by
 simp only[Qlx,Qcu,Tree.m,letv,Qwe]
theorem adv19_eq(r:Q01)(steps clock:Int)(hq:r.Queue.length≤1000000):Qbk r steps clock=advF r steps clock:=by
  show Tree.V (Q51 r steps clock) (fun x=>x=advF r steps clock)
  obtain⟨lim0,lim⟩:=Qy3 steps
  unfold Q51
  refine v_an (v_lv fun x0 e0=>v_lv fun x1 e1=> ?_)
  rw[Ze0]at e0
  subst e0
  refine v_br (fun hb=>v_lf ?_) fun hb=> ?_
  · unfold advF;rw[←e1,hb];rfl
  generalize hr0:({Machine:=x0.Machine,Clock:=if clock>x0.Clock then clock else x0.Clock,Log:=x0.Log,Queue:=x0.Queue}:Q01)=r0
  have hA:advF x0 steps clock=recF (Q19 steps).toNat (noQ (x0.Queue.foldl Qdt r0)) []:=by
    unfold advF;rw[←e1,hb,hr0];rfl
  have hQ:r0.Queue=x0.Queue:=by rw[←hr0]
  refine v_lp (inv:=fun z:Int×Q01=>0≤z.1∧z.1≤x0.Queue.length∧z.2.Queue=x0.Queue∧(x0.Queue.drop z.1.toNat).foldl Qdt z.2=x0.Queue.foldl Qdt r0) (μ:=Qak x0 steps clock) ⟨Int.le_refl 0,by show(0:Int)≤_;omega,hQ,rfl⟩ (Nat.lt_succ_self _) fun z ⟨z0,z1,z2,z3⟩=> ?_
  refine v_br (fun hb=> ?_) (fun hb=> ?_)
  · have hb:=of_decide_eq_true hb
    rw[z2]at hb
    refine v_cn (v_an (v_lv fun x2 e2=>v_nx ?_))
    have ew:IntKind.i64.wrap (z.1+1)=z.1+1:=by rw[IntKind.wrap_i64];omega
    rw[Zep]at e2
    have q2:x2.Queue=x0.Queue:=by rw[e2,Qm1,z2]
    have hlt:z.1.toNat<x0.Queue.length:=by omega
    have ed:List.getD z.2.Queue z.1.toNat (RK.dflt RK.apiEvent)=x0.Queue[z.1.toNat]:=by rw[z2,List.getD_eq_getElem?_getD,List.getElem?_eq_getElem hlt];rfl
    show(0≤IntKind.i64.wrap (z.1+1)∧IntKind.i64.wrap (z.1+1)≤x0.Queue.length∧x2.Queue=x0.Queue∧(x0.Queue.drop (IntKind.i64.wrap (z.1+1)).toNat).foldl Qdt x2=_)∧(x2.Queue.length-IntKind.i64.wrap (z.1+1)).toNat<(z.2.Queue.length-z.1).toNat
    rw[ew,q2,z2]
    refine⟨⟨by omega,by omega,rfl,?_⟩,by omega⟩
    rw[←z3,List.drop_eq_getElem_cons hlt,List.foldl_cons,show(z.1+1).toNat=z.1.toNat+1 by omega,e2,ed]
  · have hb:=of_decide_eq_false hb
    rw[z2]at hb
    obtain⟨zi,zr⟩:=z
    have hb: ¬zi<x0.Queue.length:=hb
    have ze:zr=x0.Queue.foldl Qdt r0:=by
      rw[←z3,List.drop_eq_nil_of_le (by show x0.Queue.length≤zi.toNat;omega)];rfl
    rw[←ze]at hA
    refine v_lp (inv:=fun y:Int×Q01×List Q07=>0≤y.1∧y.1≤Q19 steps∧recF (Q19 steps-y.1).toNat y.2.1 y.2.2=advF x0 steps clock) (μ:=Q53 x0 steps clock (zi,zr)) ⟨Int.le_refl 0,by show(0:Int)≤_;omega,by rw[hA];show recF (Q19 steps-0).toNat _ _=_;rw[Int.sub_zero];rfl⟩ (Nat.lt_succ_self _) fun y ⟨y0,y1,y2⟩=> ?_
    obtain⟨yi,yr,yo⟩:=y
    have mu: ∀q,yi<4000→Q53 x0 steps clock (zi,zr) (IntKind.wrap .i64 (yi+1),q)<Q53 x0 steps clock (zi,zr) (yi,yr,yo):=fun q h=>by
      show(4000-IntKind.wrap .i64 (yi+1)).toNat<(4000-yi).toNat
      have y0:0≤yi:=y0
      rw[IntKind.wrap_i64];omega
    have y0:0≤yi:=y0
    refine v_lv fun x3 e3=>v_br (fun hb=> ?_) (fun hb=> ?_)
    · have hb:yi<x3:=of_decide_eq_true hb
      rw[e3]at hb
      have mu:=fun q=>mu q (by omega)
      have ew:IntKind.i64.wrap (yi+1)=yi+1:=by rw[IntKind.wrap_i64];omega
      have en:(Q19 steps-yi).toNat=(Q19 steps-(yi+1)).toNat+1:=by omega
      change recF (Q19 steps-yi).toNat yr yo=_ at y2
      rw[en]at y2
      refine v_lv fun x4 e4=>v_br (fun hd=>v_an (v_lv fun x5 e5=> ?_)) (fun hd=> ?_)
      · have e5:x5=Qk6 yr:=by rw[e5,Zep];unfold Qk6;rw[←e4,hd];rfl
        refine v_an (v_lv fun x6 e6=>v_br (fun hs=>v_lf ?_) fun hs=>v_an (v_lv fun x7 e7=>v_br (fun hr=>v_cn (v_an (v_lv fun x8 e8=>v_cn (v_nx ?_)))) fun hr=>v_an (v_lv fun x9 e9=>v_cn (v_nx ?_))))
        · show(_,yo)=_
          rw[←y2];unfold recF
          rw[←e5,←e6,hs];rfl
        · rw[Z3i]at e8
          refine⟨⟨by show 0≤IntKind.wrap .i64 (yi+1);rw[ew];omega,by show IntKind.wrap .i64 (yi+1)≤_;rw[ew];omega,?_⟩,mu _⟩
          show recF (Q19 steps-IntKind.wrap .i64 (yi+1)).toNat _ _=_
          rw[ew,←y2,e8]
          conv=>rhs;unfold recF
          rw[←e5,←e6,hs]
          unfold Zgw readF
          rw[←e7,hr];rfl
        · rw[Z3i]at e9
          refine⟨⟨by show 0≤IntKind.wrap .i64 (yi+1);rw[ew];omega,by show IntKind.wrap .i64 (yi+1)≤_;rw[ew];omega,?_⟩,mu _⟩
          show recF (Q19 steps-IntKind.wrap .i64 (yi+1)).toNat _ _=_
          rw[ew,←y2,e9]
          conv=>rhs;unfold recF
          rw[←e5,←e6,hs]
          unfold Zgw readF
          rw[←e7,hr];rfl
      · have e5:yr=Qk6 yr:=by
          have e4:x4=Qmm yr.Machine.Timer yr.Clock:=e4
          unfold Qk6;rw[←e4,hd];rfl
        refine v_an (v_lv fun x6 e6=>v_br (fun hs=>v_lf ?_) fun hs=>v_an (v_lv fun x7 e7=>v_br (fun hr=>v_cn (v_an (v_lv fun x8 e8=>v_cn (v_nx ?_)))) fun hr=>v_an (v_lv fun x9 e9=>v_cn (v_nx ?_))))
        · show(_,yo)=_
          rw[←y2];unfold recF
          rw[←e5,←e6,hs];rfl
        · rw[Z3i]at e8
          refine⟨⟨by show 0≤IntKind.wrap .i64 (yi+1);rw[ew];omega,by show IntKind.wrap .i64 (yi+1)≤_;rw[ew];omega,?_⟩,mu _⟩
          show recF (Q19 steps-IntKind.wrap .i64 (yi+1)).toNat _ _=_
          rw[ew,←y2,e8]
          conv=>rhs;unfold recF
          rw[←e5,←e6,hs]
          unfold Zgw readF
          rw[←e7,hr];rfl
        · rw[Z3i]at e9
          refine⟨⟨by show 0≤IntKind.wrap .i64 (yi+1);rw[ew];omega,by show IntKind.wrap .i64 (yi+1)≤_;rw[ew];omega,?_⟩,mu _⟩
          show recF (Q19 steps-IntKind.wrap .i64 (yi+1)).toNat _ _=_
          rw[ew,←y2,e9]
          conv=>rhs;unfold recF
          rw[←e5,←e6,hs]
          unfold Zgw readF
          rw[←e7,hr];rfl
    · have hb: ¬yi<x3:=of_decide_eq_false hb
      rw[e3]at hb
      refine v_lf ?_
      show(yr,yo)=_
      change recF (Q19 steps-yi).toNat yr yo=_ at y2
      rw[←y2,show(Q19 steps-yi).toNat=0 by omega];rfl
end Go.Proofs.YtdkiadhigcfmkaaGreat
namespace Go.Proofs.YtdkiadhigcfmkaaGreat
open Go Go.GD
attribute [local irreducible] Q2p
set_option linter.unusedVariables false
set_option linter.unusedSimpArgs false
set_option maxRecDepth 100000
structure good(P:Nat)(m:Q00):Prop where
 ok:okM P m
 may:Q0z m=true
section
variable {P:Nat} {m:Q00} (h:good P m)
include h
theorem good.v:okV m:=⟨h.ok.cpu,h.ok.mem.u,h.ok.disk,h.ok.nic,h.ok.target,h.ok.cnt⟩
theorem good.s:okS P m:=⟨h.ok.cpu,h.ok.mem,h.ok.disk,h.ok.nic,h.ok.target.1,h.ok.target.2⟩
theorem good.rmay:Q9d m=true:=(Qvk h.v).symm.trans h.may
theorem Zd0{e:Q0e}(he:U e.N):good P (Q13 m e).2∧(Q13 m e).2.Count=m.Count:=by
 have o:okM P (Q13 m e).2:=Tree.post _ (Zd3 h.ok he)
 have a:=(Tree.pp (apply_w0 h.ok he)).2
 change(Q0z m=true→Q0z (Qex m e).1=true)∧(Qex m e).1.Count=m.Count∧_ at a
 have e1:Q9p m e=((Q13 m e).2,(Q13 m e).1):=by
   simp only[Q9p,Q6v,Tree.m,letv,Qwe,h.rmay];rfl
 rw[Zff h.v e,e1]at a
 exact⟨⟨o,a.1 h.may⟩,a.2.1⟩
theorem Qqn:Q2c m=false↔m.Halted=false∧Qbs m=false∧m.Count<1152921504606846976:=by
 simp only[Q2c,Q8d,Tree.m,letv,h.rmay]
 cases m.Halted<;>cases Qbs m<;>simp
theorem Zd5(hs:Q2c m=false){clock:Int}(hc:U clock):good P (Q1a m clock).2∧(Q1a m clock).2.Count=m.Count+1∧(Q1a m clock).1.length≤1:=by
 have o:=Tree.post _ (Z2i h.ok hc)
 change(Q1a m clock).1.length≤1∧okM P (Q1a m clock).2∧(Q1a m clock).2.Count=IntKind.wrap .u64 (m.Count+1) at o
 have s:=(Tree.pp (step_w0 h.s h.ok.cnt hc)).2
 change _∧Good P m (Q8j m clock).1 at s
 have e:Q8j m clock=((Q1a m clock).2,(Q1a m clock).1):=by rw[Z9z h.v,Z5h,hs];rfl
 rw[e]at s
 have hct:=((Qqn h).1 hs).2.2
 have h0:=h.ok.cnt
 refine⟨⟨o.2.1,s.2.may h.may⟩,?_,o.1⟩
 rw[o.2.2,IntKind.wrap_u64];omega
end
structure Qdy(P:Nat)(k:Int)(r:Q01):Prop where
 m:good P r.Machine
 clock:U r.Clock
 cnt:r.Machine.Count≤k
theorem Qws{P:Nat}{k:Int}{r:Q01}(h:Qdy P k r){e:Q0e}(he:U e.N):Qdy P k (Qdt r e)∧(Qdt r e).Machine.Count=r.Machine.Count:=by
 obtain⟨a,b⟩:=Zd0 h.m he
 have hc:=h.cnt
 unfold Qdt
 cases(Q13 r.Machine e).1
 · exact⟨⟨a,h.clock,by show(Q13 r.Machine e).2.Count≤k;omega⟩,b⟩
 · exact⟨⟨a,h.clock,by show(Q13 r.Machine e).2.Count≤k;omega⟩,b⟩
theorem Zgj{P:Nat}{k:Int}{r:Q01}(h:Qdy P k r):Qdy P k (Qk6 r)∧(Qk6 r).Machine.Count=r.Machine.Count:=by
 unfold Qk6
 cases Qmm r.Machine.Timer r.Clock
 · exact⟨h,rfl⟩
 · exact Qws h U_0
theorem Zfm{P:Nat}{k:Int}{r:Q01}(h:Qdy P k r)(hs:Q2c r.Machine=false):Qdy P (k+1) (Zgw r):=by
 obtain⟨a,b,_⟩:=Zd5 h.m hs h.clock
 have hc:=h.cnt
 exact⟨a,Q0o _,by show(Q1a r.Machine r.Clock).2.Count≤k+1;omega⟩
theorem recF_keep{P:Nat}(n:Nat): ∀{k:Int} {r:Q01} {o:List Q07},Qdy P k r→Qdy P (k+n) (recF n r o).1:=by
 induction n with
 |zero=>intro k r o h;exact⟨h.m,h.clock,by have:=h.cnt;show r.Machine.Count≤k+(0:Nat);omega⟩
 | succ n ih=>
   intro k r o h
   obtain⟨f,fc⟩:=Zgj h
   unfold recF
   cases hs:Q2c (Qk6 r).Machine
   · have t:=ih (o:=o++(Q1a (Qk6 r).Machine (Qk6 r).Clock).1) (Zfm f hs)
     exact⟨t.m,t.clock,by have:=t.cnt;show(recF n _ _).1.Machine.Count≤_;omega⟩
   · exact⟨f.m,f.clock,by have:=f.cnt;show(Qk6 r).Machine.Count≤_;omega⟩
theorem Zex{P:Nat}{k:Int}(l:List Q0e): ∀{r:Q01},Qdy P k r→(∀q∈l,U q.N)→Qdy P k (l.foldl Qdt r)∧(l.foldl Qdt r).Queue=r.Queue:=by
 induction l with
 |nil=>intro r h _;exact⟨h,rfl⟩
 | cons e l ih=>
   intro r h hu
   obtain⟨a,b⟩:=ih (Qws h (hu e (by simp))).1 (fun q hq=>hu q (by simp [hq]))
   exact⟨a,b.trans (Qm1 r e)⟩
theorem Zf6(n:Nat): ∀(r:Q01) (o:List Q07),(recF n r o).1.Queue=r.Queue:=by
 induction n with
 |zero=>intro r o;rfl
 | succ n ih=>
   intro r o
   have f:(Qk6 r).Queue=r.Queue:=by
     unfold Qk6;cases Qmm r.Machine.Timer r.Clock
     · rfl
     · exact Qm1 _ _
   unfold recF
   cases Q2c (Qk6 r).Machine
   · exact(ih _ _).trans f
   · exact f
def okQ(l:List Q0e):Prop:=l.length≤16∧ ∀q∈l,U q.N
theorem advF_keep{P:Nat}{k:Int}{r:Q01}(h:Qdy P k r)(hq:okQ r.Queue)(steps:Int){clock:Int}(hc:U clock):Qdy P (k+4000) (advF r steps clock).1∧okQ (advF r steps clock).1.Queue:=by
 obtain⟨l0,l1⟩:=Qy3 steps
 unfold advF
 rw[h.m.rmay]
 have hcl:U (if clock>r.Clock then clock else r.Clock):=by split<;>first|exact hc|exact h.clock
 obtain⟨a,b⟩:=Zex r.Queue (r:={Machine:=r.Machine,Clock:=if clock>r.Clock then clock else r.Clock,Log:=r.Log,Queue:=r.Queue}) ⟨h.m,hcl,h.cnt⟩ hq.2
 have c:=recF_keep (Q19 steps).toNat (o:=[]) (r:=noQ (r.Queue.foldl Qdt {Machine:=r.Machine,Clock:=if clock>r.Clock then clock else r.Clock,Log:=r.Log,Queue:=r.Queue})) ⟨a.m,a.clock,a.cnt⟩
 refine⟨⟨c.m,c.clock,?_⟩,?_⟩
 · have:=c.cnt
   show(recF _ _ _).1.Machine.Count≤_
   omega
 · show okQ (recF _ _ _).1.Queue
   rw[Zf6];exact⟨Nat.zero_le _,fun q hq=>by cases hq⟩
theorem event_U(n:Int):U (Qfe n).N:=Tree.post _ (Zbv n)
theorem arrive_eq(r:Q01)(e:Q0e):Q6w r e=bif !Qjh e then(r,false) else bif e.Kind==1 then(r,false) else bif decide ((r.Queue.length:Int)≥16) then(r,false) else({Machine:=r.Machine,Clock:=r.Clock,Log:=r.Log,Queue:=r.Queue++[e]},true):=by
 simp only[Q6w,Q7v,Tree.m,letv,Ze0]
theorem Zcx{P:Nat}{k:Int}{r:Q01}(h:Qdy P k r)(hq:okQ r.Queue){e:Q0e}(he:U e.N):Qdy P k (Q6w r e).1∧okQ (Q6w r e).1.Queue:=by
  rw[arrive_eq]
  cases Qjh e
  · exact⟨h,hq⟩
  · cases e.Kind==1
    · cases hl:decide ((r.Queue.length:Int)≥16)
      · have hl:=of_decide_eq_false hl
        refine⟨⟨h.m,h.clock,h.cnt⟩,?_,fun q hm=> ?_⟩
        · show(r.Queue++[e]).length≤16
          rw[List.length_append,List.length_singleton];omega
        · have hm:q∈r.Queue++[e]:=hm
          rcases List.mem_append.1 hm with hm|hm
          · exact hq.2 q hm
          · rw[List.mem_singleton.1 hm];exact he
      · exact⟨h,hq⟩
    · exact⟨h,hq⟩
theorem mstep_ev{r:Q01}{n:Int}(h:(Int.tmod (Qa9 n 3) 3==0)=true):Q7f r n=((Q6w r (Qfe n)).1,[]):=by
 show Tree.V (Q75 r n) (fun x=>x=((Q6w r (Qfe n)).1,[]))
 unfold Q75
 refine v_lv fun x0 e0=>v_br (fun _=>v_an (v_lv fun x1 e1=>v_an (v_lv fun x2 e2=>v_lf ?_))) (fun hb=> ?_)
 · rw[e2,e1]
 · rw[e0,h]at hb;cases hb
theorem mstep_ad{r:Q01}{n:Int}(h:(Int.tmod (Qa9 n 3) 3==0)=false):Q7f r n=Qbk r (Q37 (ishr .i64 (Qa9 n 3) 4) 12) (IntKind.wrap .u32 (iand .i64 (ishr .i64 (Qa9 n 3) 12) 255)):=by
 show Tree.V (Q75 r n) (fun x=>x=Qbk r (Q37 (ishr .i64 (Qa9 n 3) 4) 12) (IntKind.wrap .u32 (iand .i64 (ishr .i64 (Qa9 n 3) 12) 255)))
 unfold Q75
 refine v_lv fun x0 e0=>v_br (fun hb=> ?_) (fun _=>v_an (v_lv fun x1 e1=>v_an (v_lv fun x2 e2=>v_lf ?_)))
 · rw[e0,h]at hb;cases hb
 · rw[e2,e1,e0]
theorem more_keep{P:Nat}{k:Int}{A:Q01×Bool}(h:Qdy P k A.1∧okQ A.1.Queue):Qdy P (k+4000) (A.1,([]:List Q07)).1∧okQ (A.1,([]:List Q07)).1.Queue:=
 ⟨⟨h.1.m,h.1.clock,by have:=h.1.cnt;show A.1.Machine.Count≤_;omega⟩,h.2⟩
theorem Zh3{P:Nat}{k:Int}{r:Q01}(h:Qdy P k r)(hq:okQ r.Queue)(n:Int):Qdy P (k+4000) (Q7f r n).1∧okQ (Q7f r n).1.Queue:=by
 cases hm:Int.tmod (Qa9 n 3) 3==0
 · rw[mstep_ad hm,adv19_eq _ _ _ (by have:=hq.1;omega)]
   exact advF_keep h hq _ (Q0o _)
 · rw[mstep_ev hm]
   exact more_keep (Zcx h hq (event_U n))
def Qnz(s:Q01×List Q07)(n:Int):Q01×List Q07:=((Q7f s.1 n).1,s.2++(Q7f s.1 n).2)
theorem play_eq(m:Q00)(l:List Int)(hl:l.length≤1000000):Qm2 m l=l.foldl Qnz (Q1v m,[]):=by
 show Tree.V (Qah m l) (fun x=>x=l.foldl Qnz (Q1v m,[]))
 unfold Qah
 refine v_an (v_lv fun x0 e0=> ?_)
 subst e0
 refine v_lp (inv:=fun z:Int×Q01×List Q07=>0≤z.1∧z.1≤l.length∧(l.drop z.1.toNat).foldl Qnz z.2=l.foldl Qnz (Q1v m,[])) (μ:=Qg m l) ⟨Int.le_refl 0,by show(0:Int)≤_;omega,rfl⟩ (Nat.lt_succ_self _) fun z ⟨z0,z1,z2⟩=> ?_
 obtain⟨i,r,o⟩:=z
 have z0:0≤i:=z0
 have z1:i≤l.length:=z1
 refine v_br (fun hb=>v_cn (v_an (v_lv fun x1 e1=>v_cn (v_nx ?_)))) (fun hb=>v_lf ?_)
 · have hb:i<l.length:=of_decide_eq_true hb
   have ew:IntKind.i64.wrap (i+1)=i+1:=by rw[IntKind.wrap_i64];omega
   have hlt:i.toNat<l.length:=by omega
   show(0≤IntKind.i64.wrap (i+1)∧IntKind.i64.wrap (i+1)≤l.length∧(l.drop (IntKind.i64.wrap (i+1)).toNat).foldl Qnz (x1.1,o++x1.2)=_)∧(l.length-IntKind.i64.wrap (i+1)).toNat<(l.length-i).toNat
   rw[ew]
   refine⟨⟨by omega,by omega,?_⟩,by omega⟩
   rw[←z2]
   show _=(l.drop i.toNat).foldl Qnz (r,o)
   rw[List.drop_eq_getElem_cons hlt,List.foldl_cons,show(i+1).toNat=i.toNat+1 by omega,e1]
   have ed:List.getD l i.toNat 0=l[i.toNat]:=by rw[List.getD_eq_getElem?_getD,List.getElem?_eq_getElem hlt];rfl
   rw[show Qnz (r,o) l[i.toNat]=((Q7f r l[i.toNat]).1,o++(Q7f r l[i.toNat]).2) from by unfold Qnz;rfl,←ed]
 · have hb: ¬i<l.length:=of_decide_eq_false hb
   show(r,o)=_
   rw[←z2]
   show _=(l.drop i.toNat).foldl Qnz (r,o)
   rw[List.drop_eq_nil_of_le (by omega)];rfl
theorem pair_keep{P:Nat}{k:Int}{x:Q01×List Q07}(h:Qdy P k x.1∧okQ x.1.Queue)(o:List Q07):Qdy P k (x.1,o++x.2).1∧okQ (x.1,o++x.2).1.Queue:=h
theorem playF_def(s:Q01×List Q07)(n:Int):Qnz s n=((Q7f s.1 n).1,s.2++(Q7f s.1 n).2):=by unfold Qnz;rfl
theorem playF_one{P:Nat}{k:Int}{s:Q01×List Q07}(h:Qdy P k s.1∧okQ s.1.Queue)(n:Int):Qdy P (k+4000) (Qnz s n).1∧okQ (Qnz s n).1.Queue:=by
 rw[playF_def]
 exact pair_keep (Zh3 h.1 h.2 n) s.2
theorem fold_keep{σ:Type}{f:σ→Int→σ}{I:Int→σ→Prop}(hf: ∀k s n,I k s→I (k+4000) (f s n))(l:List Int): ∀k s,I k s→I (k+4000*l.length) (l.foldl f s):=by
 induction l with
 |nil=>intro k s h;simpa using h
 | cons n l ih=>
   intro k s h
   have:=ih _ _ (hf k s n h)
   rw[List.foldl_cons,List.length_cons]
   rwa [show k+4000*((l.length+1:Nat):Int)=k+4000+4000*l.length by omega]
theorem Zgc{P:Nat}(l:List Int){k:Int}{s:Q01×List Q07}(h:Qdy P k s.1∧okQ s.1.Queue):Qdy P (k+4000*l.length) (l.foldl Qnz s).1∧okQ (l.foldl Qnz s).1.Queue:=
 fold_keep (I:=fun k s=>Qdy P k s.1∧okQ s.1.Queue) (fun k s n h=>playF_one h n) l k s h
theorem newRec_eq(m:Q00):Q1v m={Machine:=m,Clock:=0,Log:=[],Queue:=[]}:=by
 simp only[Q1v,Q3d,Tree.m,letv,Qwe]
end Go.Proofs.YtdkiadhigcfmkaaGreat
namespace Go.Proofs.YtdkiadhigcfmkaaGreat
open Go Go.GD
attribute [local irreducible] Q2p
set_option linter.unusedVariables false
set_option linter.unusedSimpArgs false
set_option maxRecDepth 100000
theorem Ze6{i:List Int}(hu: ∀w∈i,U w)(hl:i.length≤256):good 8 (Q2v 8 4 i).1∧(Q2v 8 4 i).1.Count=0:=by
 obtain⟨a,b⟩:=(Tree.pp (new_w i hu hl)).2
 change okM 8 (Q2v 8 4 i).1 at a
 refine⟨⟨a,?_⟩,b⟩
 obtain⟨e1,e2,e3⟩:=Zcz 8 4 i
 have e:(Q2v 8 4 i).2=true:=by
   have w:IntKind.i64.wrap (8*32)=256:=by decide
   simp only[Q2v,Q7q,Tree.m,w,letv,decide_eq_false (show¬((i.length:Int)>256) by omega)]
   rfl
 have h0:(Q0p 8 4 i).2=0:=by rw[e]at e2;exact eq_of_beq e2.symm
 rw[e1]
 rcases(facts 8 4 i).2 with f|f
 · exact f.2.2.1
 · exact absurd f.1 (by rw[h0];decide)
theorem runN_good{m:Q00}(h:good 8 m)(hc:m.Count≤87):Tree.V (Q9 m [] 87) (fun x=>x.2.2.2=0→good 8 x.1∧x.1.Count≤87):=by
 have z: ∀{k:Int} {p:Prop},k≠0→k=0→p:=fun a b=>absurd b a
 unfold Q9
 refine v_lv fun x0 _=>v_br (fun _=>v_lf (z (by decide))) fun _=>v_br (fun _=>v_lf (z (by decide))) fun _=>v_br (fun _=>v_lf (z (by decide))) fun _=>v_an (v_lv fun x1 _=>v_br (fun _=>v_lf (z (by decide))) fun _=>v_an (v_lv fun x2 hx=> ?_))
 rw[Qwe]at hx
 refine v_lp (inv:=fun v:Q00×List Q07=>good 8 v.1∧v.1.Count≤87) (μ:=Qei m [] 87) ⟨by rw[hx];exact h,by rw[hx];exact hc⟩ (Nat.lt_succ_self _) fun v0 ⟨a1,a3⟩=> ?_
 have a2:=a1.ok.cnt
 refine v_br (fun hb=>v_br (fun hm=> ?_) (fun _=>v_lf fun _=>⟨a1,a3⟩)) (fun _=>v_lf fun _=>⟨a1,a3⟩)
 have hb:=of_decide_eq_true hb
 have hm:=of_decide_eq_true hm
 refine v_lp (inv:=fun _=>True) (μ:=Qe6 m [] 87 v0) trivial (Nat.lt_succ_self _) fun v1 _=> ?_
 refine v_br (fun _=>v_lf fun _=>⟨a1,a3⟩) fun hh=>v_an (v_lv fun x3 h3=>v_br (fun _=>v_lf fun _=>⟨a1,a3⟩) fun hi=>v_an (v_lv fun x4 _=>v_br (fun _=>v_lf (z (by decide))) fun _=>v_an (v_lv fun x5 h5=>v_cn (v_nx ?_))))
 obtain⟨b1,b2,_⟩:=Zd5 a1 ((Qqn a1).2 ⟨hh,h3.symm.trans hi,hm⟩) (clock:=0) U_0
 rw[←h5]at b1 b2
 show(good 8 x5.2∧x5.2.Count≤87)∧(87-x5.2.Count).toNat<(87-v0.1.Count).toNat
 exact⟨⟨b1,by omega⟩,by omega⟩
theorem Z67(kind:Int)(l:List Int)(hl:l.length*8≤reachBytes)(h40:l.length≤40):good 8 (Q5x kind l)∧(Q5x kind l).Count≤87:=by
  show Tree.V (Q63 kind l) (fun m=>good 8 m∧m.Count≤87)
  have code:=(Tree.pp (code_w l hl)).2
  change((Qim l).length:Int)=l.length∧ ∀w∈Qim l,U w at code
  obtain⟨b1,b2⟩:=code
  unfold Q63
  refine v_an (v_lv fun x0 hx0=>v_br (fun _=>v_an (v_lv fun x1 e1=> ?_)) (fun hk=> ?_))
  · have eb:x1.1=boot:=by rw[e1];rfl
    obtain⟨q1,q2⟩:boot.length≤160∧ ∀w∈boot,U w:=asm_ok
    refine v_lp (inv:=fun v:List Int=>v.length≤160∧v=boot++List.replicate (v.length-boot.length) 0) (μ:=Qbp kind l) ⟨by rw[eb];exact q1,by rw[eb];simp⟩ (Nat.lt_succ_self _) fun v0 ⟨a1,a2⟩=> ?_
    have a3:boot.length≤v0.length:=by rw[a2,List.length_append];omega
    refine v_br (fun hb=> ?_) (fun hb=> ?_)
    · have hb:=of_decide_eq_true hb
      refine v_cn (v_nx ?_)
      show(_∧_)∧(_:Nat)<_
      refine⟨⟨by rw[List.length_append,List.length_singleton];omega,?_⟩,by show 160-(v0++[0]).length<160-v0.length;rw[List.length_append,List.length_singleton];omega⟩
      show v0++[0]=boot++List.replicate ((v0++[0]).length-boot.length) 0
      rw[List.length_append,List.length_singleton,show v0.length+1-boot.length=(v0.length-boot.length)+1 by omega,List.replicate_succ',←List.append_assoc,←a2]
    · have hb:=of_decide_eq_false hb
      have hv:v0=Q9s:=by
        unfold Q9s
        rw[show(160:Nat)=v0.length by omega]
        exact a2
      subst hv
      have hp:=pad_len
      have hu0: ∀w∈Q9s,U w:=fun w hw=>(List.mem_append.1 hw).elim (q2 w) (U_all _ w)
      refine v_an (v_lv fun x2 e2=>v_cn ?_)
      rw[←e2]at b1 b2
      have hu: ∀w∈Q9s++x2,U w:=fun w hw=>(List.mem_append.1 hw).elim (hu0 w) (b2 w)
      have hlen:(Q9s++x2).length≤256:=by rw[List.length_append];omega
      refine v_br (fun hb=> ?_) (fun hb=> ?_)
      · have hb:=of_decide_eq_true hb;omega
      · obtain⟨c1,c2⟩:=Ze6 hu hlen
        refine v_an (v_lv fun x3 h3=> ?_)
        rw[←h3]at c1 c2
        have rn:=runN_good c1 (by omega)
        refine v_br (fun _=>v_an (v_lv fun x4 hx=>v_lf ?_)) (fun _=>v_lf ⟨c1,by omega⟩)
        have e:x3=Q2v 8 4 (Q9s++(x2++List.replicate (96-x2.length) 0)):=by
          rw[h3]
          have hl2:(x2++List.replicate (96-x2.length) (0:Int)).length=96:=by rw[List.length_append,List.length_replicate];omega
          refine new_mem _ _ hlen (by rw[List.length_append,hl2];omega) ?_
          rw[List.length_append,List.length_append,hl2,hp,List.append_assoc,List.append_assoc,List.append_assoc,show 256-(160+96)=0 by omega,show 256-(160+x2.length)=96-x2.length by omega]
          simp
        have h0:x4.2.2.2=0:=by
          rw[hx,e]
          exact run_ok _ (by rw[List.length_append,List.length_replicate];omega)
        exact(by rw[hx];exact rn:x4.2.2.2=0→good 8 x4.1∧x4.1.Count≤87) h0
  · have hk:=of_decide_eq_false hk
    refine v_an (v_lv fun x2 e2=>v_cn ?_)
    rw[←e2]at b1 b2
    refine v_br (fun hb=> ?_) (fun hb=> ?_)
    · have hb:=of_decide_eq_true hb;omega
    · obtain⟨c1,c2⟩:=Ze6 b2 (by omega)
      refine v_an (v_lv fun x3 h3=> ?_)
      rw[←h3]at c1 c2
      exact v_br (fun h=>absurd (eq_of_beq h) (by omega)) (fun _=>v_lf ⟨c1,by omega⟩)
theorem Z8s(kind:Int)(l acts:List Int)(hl:l.length*8≤reachBytes)(h40:l.length≤40)(ha:acts.length≤30):good 8 (Qdj kind l acts)∧(Qdj kind l acts).Count≤200000:=by
 obtain⟨a,b⟩:=Z67 kind l hl h40
 have e:Qdj kind l acts=(Qm2 (Q5x kind l) acts).1.Machine:=by
   show Tree.V (Q62 kind l acts) (fun x=>x=(Qm2 (Q5x kind l) acts).1.Machine)
   unfold Q62
   exact v_an (v_lv fun x0 e0=>v_an (v_lv fun x1 e1=>v_lf (by rw[e1,e0])))
 rw[e,play_eq _ _ (by omega)]
 have n:Qdy 8 87 (Q1v (Q5x kind l))∧okQ (Q1v (Q5x kind l)).Queue:=by
   rw[newRec_eq]
   exact⟨⟨a,U_0,b⟩,Nat.zero_le _,fun q hq=>by cases hq⟩
 have:=(Zgc acts (s:=(Q1v (Q5x kind l),[])) n).1
 exact⟨this.m,by have:=this.cnt;omega⟩
end Go.Proofs.YtdkiadhigcfmkaaGreat
namespace Go.Proofs.YtdkiadhigcfmkaaGreat
open Go Go.GD
attribute [local irreducible] Q2p
set_option linter.unusedVariables false
set_option linter.unusedSimpArgs false
set_option maxRecDepth 100000
theorem stepL_eq(m:Q00)(clock:Int):Q15 m clock=((Q8j m clock).1,(Q8j m clock).2,m.Mem):=by
  simp only[Q15,Q42,Q8j,Qd2,Tree.m,letv]
  cases(!Q2j {Cpu:=m.Cpu,Mem:=Q02 m.Mem,Console:=m.Console,Timer:=m.Timer,Disk:=m.Disk,Nic:=m.Nic,Balloon:=m.Balloon,Count:=m.Count,Waiting:=m.Waiting,Halted:=m.Halted})
  · generalize Q0y {Cpu:=m.Cpu,Mem:=Q02 m.Mem,Console:=m.Console,Timer:=m.Timer,Disk:=m.Disk,Nic:=m.Nic,Balloon:=m.Balloon,Count:=m.Count,Waiting:=m.Waiting,Halted:=m.Halted}=b
    generalize Q86 b.Cpu b.Mem=x
    cases x.2.2.Kind==1
    · cases x.2.2.Kind==2
      · cases x.2.2.Kind==3
        · cases x.2.2.Kind==4<;>rfl
        · rfl
      · rfl
    · cases x.2.2.Reg !=0<;>rfl
  · rfl
theorem Zbl(m:Q00)(e:Q0e):(Q13 m e).2.Halted=m.Halted∧(Q13 m e).2.Cpu=m.Cpu:=by
 have q:(fun x:Bool×Q00=>x.2.Halted=m.Halted∧x.2.Cpu=m.Cpu) (Q13 m e):=by
   simp only[Q13,Q6u,Tree.m,letv]
   repeat'(first|exact⟨rfl,rfl⟩|refine Qq5 (Q:=fun x:Bool×Q00=>x.2.Halted=m.Halted∧x.2.Cpu=m.Cpu) ?_ ?_)
 exact q
theorem reach_k{m:List Int}(h:Q0u 8 m){c:Q03}(hp:(iand .u32 c.Csr.a0 5==4)=false){a:Int}(ha:c.Pc=a)(h0:0≤a)(h4:a%4=0)(hl:a<1024):Q0w c m c.Pc 4 1=(a,0,m)∧(Q1b m a 4).1=m.getD (a/4).toNat 0:=by
 have hU:U a:=⟨h0,by omega⟩
 have wi:Q25 m a 4=true:=by rw[Qfd h hU (.inr rfl)];exact decide_eq_true ⟨h4,hl⟩
 have kn:Qc7 1=true:=rfl
 have pg:Qiq c=false:=hp
 constructor
 · rw[ha]
   have tm:Int.tmod a (IntKind.wrap .u32 4)=0:=by
     rw[show IntKind.wrap .u32 4=4 from rfl,Int.tmod_eq_emod_of_nonneg h0,h4]
   simp only[Q0w,Q6x,Tree.m,letv,kn,pg,wi,tm]
   rfl
 · have e:IntKind.wrap .u32 (Int.tdiv a 4)=a/4:=by rw[IntKind.wrap_u32,Int.tdiv_eq_ediv_of_nonneg h0];omega
   simp only[Q1b,Q4z,Tree.m,letv,wi,e]
   rfl
theorem do_jal{m:List Int}(h:Q0u 8 m){c:Q03}(hp:(iand .u32 c.Csr.a0 5==4)=false)(hpc:c.Pc=512)(hw:m.getD 128 0=805306368):Q2w c m=({X:=c.X,Pc:=512,Csr:=c.Csr},eff0,m):=by
 obtain⟨r,l⟩:=reach_k h hp hpc (by decide) (by decide) (by decide)
 have l:(Q1b m 512 4).1=805306368:=by rw[l];exact hw
 have d:Q28 805306368=(⟨48,0,0,0,0⟩,true):=by kernel_rfl
 rw[do_eq,r]
 show doR c (512,0,m) (Q1b m 512 4).1 (Q28 (Q1b m 512 4).1)=_
 rw[l,d]
 have e:doR c (512,0,m) 805306368 (⟨48,0,0,0,0⟩,true)=({X:=c.X,Pc:=IntKind.wrap .u32 (c.Pc+0),Csr:=c.Csr},eff0,m):=by kernel_rfl
 rw[e,hpc];rfl
theorem do_csrr{m:List Int}(h:Q0u 8 m){c:Q03}(hp:(iand .u32 c.Csr.a0 5==4)=false)(hk:(iand .u32 c.Csr.a0 1==0)=false)(hpc:c.Pc=0)(hw:m.getD 0 0=978321411):(Q2w c m).1.X.a5=c.Csr.a3∧(Q2w c m).1.Csr=c.Csr∧(Q2w c m).1.Pc=4∧(Q2w c m).2.1=eff0:=by
 obtain⟨r,l⟩:=reach_k h hp hpc (by decide) (by decide) (by decide)
 have l:(Q1b m 0 4).1=978321411:=by rw[l];exact hw
 have d:Q28 978321411=(⟨58,5,0,0,3⟩,true):=by kernel_rfl
 have e:Q2w c m=({X:=A16.of 0 (List.set (A16.l c.X) 5 c.Csr.a3),Pc:=IntKind.wrap .u32 (c.Pc+4),Csr:=c.Csr},eff0,m):=by
   rw[do_eq,r]
   show doR c (0,0,m) (Q1b m 0 4).1 (Q28 (Q1b m 0 4).1)=_
   rw[l,d]
   unfold doR
   rw[hk]
   exact(show Qhw c m ⟨58,5,0,0,3⟩=_ by kernel_rfl)
 rw[e]
 exact⟨rfl,rfl,by show IntKind.wrap .u32 (c.Pc+4)=4;rw[hpc];rfl,rfl⟩
theorem Zdp{l:Int}(h0:0<l)(h1:l<32):0≤low l∧low l≤4∧l/2^(low l).toNat%2=1∧ ∀v:Int,0≤v→v<low l→l/2^v.toNat%2=0:=by
 have d:(List.range 32).all (fun n=>decide (n=0)||(fun l:Int=>decide (0≤low l∧low l≤4∧l/2^(low l).toNat%2=1)&&(List.range 4).all fun v=>decide ((v:Int)<low l→l/2^v%2=0)) n)=true:=by decide
 have e:=List.all_eq_true.1 d l.toNat (List.mem_range.2 (by omega))
 rw[Int.toNat_of_nonneg (by omega),Bool.or_eq_true,decide_eq_true_eq]at e
 rcases e with e|e
 · omega
 · rw[Bool.and_eq_true,decide_eq_true_eq]at e
   refine⟨e.1.1,e.1.2.1,e.1.2.2,fun v h2 h3=> ?_⟩
   have:=List.all_eq_true.1 e.2 v.toNat (List.mem_range.2 (by have:=e.1.2.1;omega))
   rw[decide_eq_true_eq]at this
   exact this (by omega)
theorem Zab{x y:Int}(hx:U x)(hy:U y):iand .u32 (iand .u32 x y) 31=iand .u32 x (iand .u32 y 31):=by
 have u31:U 31:=⟨by decide,by decide⟩
 rw[Qod (Qzd _ _) u31,Qod hx (Qzd _ _),Qod hx hy,Qod hy u31,Int.toNat_natCast,Int.toNat_natCast,Nat.and_assoc]
def prep(x:Q00)(st enable:Int)(waiting:Bool):Q00:=
 {Cpu:={X:=x.Cpu.X,Pc:=512,Csr:={a0:=st,a1:=0,a2:=x.Cpu.Csr.a2,a3:=x.Cpu.Csr.a3,a4:=x.Cpu.Csr.a4,a5:=x.Cpu.Csr.a5,a6:=x.Cpu.Csr.a6,a7:=iand .u32 enable 31}},Mem:=List.set (List.set x.Mem (Int.toNat 0) 978321411) (Int.toNat 128) 805306368,Console:=x.Console,Timer:=x.Timer,Disk:=x.Disk,Nic:=x.Nic,Balloon:=x.Balloon,Count:=x.Count,Waiting:=waiting,Halted:=x.Halted}
section
variable {x:Q00} (h:good 8 x) (hc:x.Count≤200000) (hh:x.Halted=false) {st enable:Int} (hst:st=1∨st=3) (he:U enable) (waiting:Bool)
include h hst he
omit hst he in
theorem Z37:Q0u 8 (prep x st enable waiting).Mem:=by
 have:=h.ok.mem.len
 exact⟨by show(List.set (List.set _ _ _) _ _).length=_;rw[List.length_set,List.length_set];exact this,by decide,by decide,Qu8 (Qu8 h.ok.mem.u ⟨by decide,by decide⟩ _) ⟨by decide,by decide⟩ _⟩
omit he in
theorem prep_cpu:Q2g (prep x st enable waiting).Cpu:=by
 refine⟨h.ok.cpu.x,(⟨by decide,by decide⟩:U 512),?_⟩
 have c:=h.ok.cpu
 intro w hw
 have hw:w∈[st,0,x.Cpu.Csr.a2,x.Cpu.Csr.a3,x.Cpu.Csr.a4,x.Cpu.Csr.a5,x.Cpu.Csr.a6,iand .u32 enable 31]:=hw
 simp only[List.mem_cons,List.not_mem_nil,or_false]at hw
 rcases hw with rfl|rfl|rfl|rfl|rfl|rfl|rfl|rfl
 · rcases hst with rfl|rfl<;>exact⟨by decide,by decide⟩
 · exact U_0
 · exact c.a2
 · exact c.a3
 · exact c.a4
 · exact c.a5
 · exact c.a6
 · exact Qzd _ _
include hh
theorem Qj6:good 8 (prep x st enable waiting):=by
 obtain⟨a1,a2,a3,a4,a5⟩:=(Qi5 x).1 h.may
 refine⟨⟨prep_cpu h hst waiting,Z37 h waiting,h.ok.disk,h.ok.nic,h.ok.target,h.ok.cnt⟩,(Qi5 _).2 ⟨?_,⟨a2.x0,?_,?_,a2.rt,?_⟩,?_,?_,?_⟩⟩
 · rw[Q21 (Z37 h waiting)];decide
 · show st≤31
   rcases hst with rfl|rfl<;>decide
 · have:=m31 he
   show iand .u32 enable 31≤31
   omega
 · show Int.tmod 0 4=0;rfl
 · show x.Count≤_;omega
 · rintro⟨_,b⟩
   rw[show(prep x st enable waiting).Halted=x.Halted from rfl,hh]at b;cases b
 · rw[Zdq]at a5⊢
   rw[Q21 h.ok.mem]at a5
   rw[Q21 (Z37 h waiting)]
   exact a5
include hc
theorem Qqp:(Q15 (prep x st enable waiting) 0).2.2=(prep x st enable waiting).Mem∧
    ((waiting=true∧Q0l (prep x st enable waiting)=0)→(Q15 (prep x st enable waiting) 0).1=prep x st enable waiting)∧
    (¬(waiting=true∧Q0l (prep x st enable waiting)=0)→(Q15 (prep x st enable waiting) 0).1.Count=IntKind.wrap .u64 (x.Count+1)∧(Q15 (prep x st enable waiting) 0).1.Waiting=false∧
      ((st=1∨Q0l (prep x st enable waiting)=0)→(Q15 (prep x st enable waiting) 0).1.Cpu.Pc=512)∧
      (st=3→Q0l (prep x st enable waiting)≠0→(Q15 (prep x st enable waiting) 0).1.Cpu.X.a5=IntKind.wrap .u32 (IntKind.wrap .i64 (16+low (Q0l (prep x st enable waiting))))∧(Q15 (prep x st enable waiting) 0).1.Cpu.Csr.a2=512∧(Q15 (prep x st enable waiting) 0).1.Cpu.Pc=4)):=by
  have g:=Qj6 h hh hst he waiting
  have hm:=g.ok.mem
  have hlen:=h.ok.mem.len
  have hw0:(prep x st enable waiting).Mem.getD 0 0=978321411:=by
    show(List.set (List.set x.Mem 0 978321411) 128 805306368).getD 0 0=_
    rw[Zbo _ _ _ _ (by decide),Qer (by omega)]
  have hw128:(prep x st enable waiting).Mem.getD 128 0=805306368:=by
    show(List.set (List.set x.Mem 0 978321411) 128 805306368).getD 128 0=_
    rw[Qer (by rw[List.length_set];omega)]
  rw[stepL_eq,Z9z g.v,Z5h]
  have en:=Qhd g.v
  have ri:=rintr g.v
  rw[←en]at ri
  have id:Qbs (prep x st enable waiting)=(waiting&&(Q0l (prep x st enable waiting)==0)):=by
    rw[←Z91 g.v]
    simp only[Q2i,Q1s,Tree.m,letv]
    show(bif waiting then _ else false)=_
    cases waiting<;>rfl
  refine⟨rfl,fun hi=> ?_,fun hi=> ?_⟩
  · have:Q2c (prep x st enable waiting)=true:=by
      cases hs:Q2c (prep x st enable waiting)
      · have:=((Qqn g).1 hs).2.1
        rw[id,hi.2,hi.1]at this;cases this
      · rfl
    rw[this];rfl
  · have hs:Q2c (prep x st enable waiting)=false:=by
      refine(Qqn g).2 ⟨hh,?_,by show x.Count<_;omega⟩
      rw[id]
      cases hwt:waiting
      · rfl
      · rw[hwt]at hi
        have:Q0l (prep x st enable true)≠0:=fun e=>hi ⟨rfl,e⟩
        simpa using this
    rw[hs,adv_eq,ri]
    have z:finR (withX (prep x st enable waiting) (Q2w (intr (prep x st enable waiting) (Q0l (prep x st enable waiting))) (prep x st enable waiting).Mem).1 (Q2w (intr (prep x st enable waiting) (Q0l (prep x st enable waiting))) (prep x st enable waiting).Mem).2.2) eff0 0=([],tick (withX (prep x st enable waiting) (Q2w (intr (prep x st enable waiting) (Q0l (prep x st enable waiting))) (prep x st enable waiting).Mem).1 (Q2w (intr (prep x st enable waiting) (Q0l (prep x st enable waiting))) (prep x st enable waiting).Mem).2.2) (Q2w (intr (prep x st enable waiting) (Q0l (prep x st enable waiting))) (prep x st enable waiting).Mem).1 false x.Halted):=rfl
    by_cases hA:st=1∨Q0l (prep x st enable waiting)=0
    · have ic:intr (prep x st enable waiting) (Q0l (prep x st enable waiting))=(prep x st enable waiting).Cpu:=by
        unfold intr
        rcases hA with hA|hA
        · rw[show(iand .u32 (prep x st enable waiting).Cpu.Csr.a0 2==0)=true by rw[hA];kernel_rfl];rfl
        · rw[hA]
          show(bif _ then _ else _)=_
          cases(iand .u32 (prep x st enable waiting).Cpu.Csr.a0 2==0)<;>rfl
      have dj:=do_jal hm (c:=(prep x st enable waiting).Cpu) (by rcases hst with h|h<;>(rw[h];kernel_rfl)) rfl hw128
      rw[ic]at z⊢
      rw[dj]at z⊢
      show(finR _ eff0 0).2.Count=_∧_
      rw[z]
      refine⟨rfl,rfl,fun _=>rfl,fun h3 hn=> ?_⟩
      rcases hA with hA|hA
      · omega
      · exact absurd hA hn
    · have hn:Q0l (prep x st enable waiting)≠0:=fun e=>hA (.inr e)
      have h3:st=3:=by rcases hst with e|e;exact absurd (.inl e) hA;exact e
      have ic:intr (prep x st enable waiting) (Q0l (prep x st enable waiting))=Q24 (prep x st enable waiting).Cpu (IntKind.wrap .i64 (16+low (Q0l (prep x st enable waiting)))) 0:=by
        have q0:(iand .u32 (prep x st enable waiting).Cpu.Csr.a0 2==0)=false:=by rw[h3];kernel_rfl
        have q1:(Q0l (prep x st enable waiting)==0)=false:=by simpa using hn
        unfold intr
        rw[q0,q1];rfl
      obtain⟨d1,d2,d3,d4⟩:=do_csrr hm (c:=Q24 (prep x st enable waiting).Cpu (IntKind.wrap .i64 (16+low (Q0l (prep x st enable waiting)))) 0) (by rw[h3];kernel_rfl) (by rw[h3];kernel_rfl) rfl hw0
      rw[ic]at z⊢
      rw[d4,z]
      refine⟨rfl,rfl,fun e=>absurd e hA,fun _ _=>⟨d1,?_,d3⟩⟩
      show(Q2w _ _).1.Csr.a2=512
      rw[d2];rfl
end
end Go.Proofs.YtdkiadhigcfmkaaGreat
namespace Go.Proofs.YtdkiadhigcfmkaaGreat
open Go Go.GD
attribute [local irreducible] Q2p
set_option linter.unusedVariables false
set_option linter.unusedSimpArgs false
set_option maxRecDepth 100000
theorem Z4t{a b c:Bool}{t:Tree Bool}{W:Bool→Prop}(ha:a=true)(hb:b=true)(hc:c=true)(ht:t.w W):(Tree.br a (.br b (.br c t (.lf false)) (.lf false)) (.lf false)).w W:=
 w_br (fun _=>w_br (fun _=>w_br (fun _=>ht) (fun h=>by rw[hc]at h;cases h)) (fun h=>by rw[hb]at h;cases h)) (fun h=>by rw[ha]at h;cases h)
theorem Z5l{m:Q00}(h:U m.Balloon.Given):Q1q m:=by
 show(Q1s m).p
 unfold Tree.p Q1s
 refine w_br (fun _=>w_an ?_ (w_lv fun _ _=>trivial)) (fun _=>trivial)
 show(Q2e m).p
 unfold Tree.p Q2e
 exact Q0a (Qmr h) fun _ _=>trivial
theorem Zf1 (l acts:List Int){enable:Int}(on0 waiting:Bool)(n:Int)(he:U enable)(hl:l.length*8≤reachBytes):Q8r l acts enable on0 waiting n∧Q6z l acts enable on0 waiting n=true:=by
  have aw: ∀x,x=Q1o→x=true:=fun x e=>e.trans Z1v
  have awt:(Tree.an Q0x (.lv Q1o fun x=> .lf x)).w (fun r=>r=true):=w_an Qg1 (w_lv aw)
  refine Tree.pp (W:=fun r=>r=true) ?_
  unfold Q3g
  refine w_lv fun x0 hx0=>w_br (fun _=>awt) fun hb=> ?_
  obtain⟨f1,f2⟩:=few_two hx0 hb
  have rg:=Z8s 2 l acts hl f1 f2
  refine w_an (Tree.pp (Zf5 2 l acts hl f1 f2)).1 (w_lv fun x2 e2=> ?_)
  rw[←e2]at rg
  obtain⟨g2,c2⟩:=rg
  refine w_br (fun _=>awt) fun hh=>Q0a (Zbv n) fun x4 h4=> ?_
  have l2:x2.Mem.length≤1024:=by have:=g2.ok.mem.len;omega
  obtain⟨a1,a2⟩:=Zd0 g2 h4
  obtain⟨a3,_⟩:=Zbl x2 x4
  have ev:Q9p x2 x4=((Q13 x2 x4).2,(Q13 x2 x4).1):=by
    simp only[Q9p,Q6v,Tree.m,letv,Qwe,g2.rmay];rfl
  refine w_an (rapplyV g2.v l2 h4).1 (w_lv fun x5 e5=> ?_)
  have e5:x5.1=(Q13 x2 x4).2:=by rw[e5,ev]
  rw[←e5]at a1 a2 a3
  have c5:x5.1.Count≤200000:=by omega
  have h5:x5.1.Halted=false:=a3.trans hh
  have n5:=a1.ok.mem.len
  refine w_lv fun x6 e6=>w_cn (by simp [Nat.blt];omega) (w_lv fun x7 e7=>w_cn (by simp [Nat.blt,List.length_set];omega) ?_)
  obtain⟨w6,o6⟩:=x6
  obtain⟨w7,o7⟩:=x7
  have q6:w6=978321411:=(congrArg Prod.fst e6).trans (show(Q11 {Op:=58,A:=5,B:=0,C:=0,Imm:=3}).1=978321411 by kernel_rfl)
  have q7:w7=805306368:=(congrArg Prod.fst e7).trans (show(Q11 {Op:=48,A:=0,B:=0,C:=0,Imm:=0}).1=805306368 by kernel_rfl)
  subst q6
  subst q7
  clear e6 e7
  have key: ∀(st:Int),st=1∨st=3→ ∀x8,x8=Q5j (prep x5.1 st enable waiting)→iand .u32 (iand .u32 x8 enable) 31=Q0l (prep x5.1 st enable waiting)∧0≤iand .u32 (iand .u32 x8 enable) 31∧iand .u32 (iand .u32 x8 enable) 31<32:=fun st hst x8 e8=>by
    have g:=Qj6 a1 h5 hst he waiting
    have lt:=Z1t (Q9k x5.1.Timer) (Q4p x5.1.Console) (Q5v x5.1.Disk) (Qcq x5.1.Nic) (Q3q x5.1.Balloon)
    have u8:U x8:=by rw[e8,mlines];exact⟨lt.1,by show Qwp (Q9k x5.1.Timer) (Q4p x5.1.Console) (Q5v x5.1.Disk) (Qcq x5.1.Nic) (Q3q x5.1.Balloon)<_;omega⟩
    have e:iand .u32 (iand .u32 x8 enable) 31=Q0l (prep x5.1 st enable waiting):=by
      rw[Zab u8 he,e8];rfl
    refine⟨e,?_⟩
    rw[e,Qhd g.v]
    exact Qr7 g.v
  have idle: ∀(st:Int),st=1∨st=3→ ∀x9,x9=Q2i (prep x5.1 st enable waiting)→x9=(waiting&&(Q0l (prep x5.1 st enable waiting)==0)):=fun st hst x9 e9=>by
    rw[e9]
    simp only[Q2i,Q1s,Tree.m,letv]
    show(bif waiting then _ else false)=_
    cases waiting<;>rfl
  cases on0
  · refine w_br (fun h=>by cases h) (fun _=> ?_)
    cases waiting
    · refine w_an (Tree.pp (Qmr (m:=prep x5.1 1 enable false) a1.ok.target.2)).1 (w_lv fun x8 e8=>w_an (Z5l (m:=prep x5.1 1 enable false) a1.ok.target.2) (w_lv fun x9 e9=> ?_))
      obtain⟨k1,k2,k3⟩:=key 1 (.inl rfl) x8 e8
      have i9:=idle 1 (.inl rfl) x9 e9
      obtain⟨L,hL⟩: ∃L,iand .u32 (iand .u32 x8 enable) 31=L:=⟨_,rfl⟩
      rw[hL]at k1 k2 k3
      rw[←k1]at i9
      have g:=Qj6 a1 h5 (st:=1) (.inl rfl) he false
      obtain⟨s0,s1,s5⟩:=Qqp a1 c5 h5 (st:=1) (.inl rfl) he false
      rw[←k1]at s1 s5
      refine w_br (fun h=>by cases h) (fun _=>w_br (fun h=>by rw[i9]at h;cases h) (fun _=>w_an (Tree.pp (Z6 g.s g.ok.cnt U_0)).1 (w_lv fun x10 e10=> ?_)))
      have e10:x10=Q15 (prep x5.1 1 enable false) 0:=e10
      rw[←e10]at s0 s1 s5
      have hp: ¬(false=true∧L=0):=fun e=>by cases e.1
      exact w_br (fun h=>by cases h) (fun _=>w_br (fun _=>by obtain⟨s2,s3,s4,s6⟩:=s5 hp;exact Z4t (by rw[s4 (.inl rfl)];rfl) (by rw[s2];simp) (by rw[s3];rfl) awt) (fun h=>by cases h))
    · refine w_an (Tree.pp (Qmr (m:=prep x5.1 1 enable true) a1.ok.target.2)).1 (w_lv fun x8 e8=>w_an (Z5l (m:=prep x5.1 1 enable true) a1.ok.target.2) (w_lv fun x9 e9=> ?_))
      obtain⟨k1,k2,k3⟩:=key 1 (.inl rfl) x8 e8
      have i9:=idle 1 (.inl rfl) x9 e9
      obtain⟨L,hL⟩: ∃L,iand .u32 (iand .u32 x8 enable) 31=L:=⟨_,rfl⟩
      rw[hL]at k1 k2 k3
      rw[←k1]at i9
      have g:=Qj6 a1 h5 (st:=1) (.inl rfl) he true
      obtain⟨s0,s1,s5⟩:=Qqp a1 c5 h5 (st:=1) (.inl rfl) he true
      rw[←k1]at s1 s5
      refine w_br (fun _=>w_br (fun h=>by rw[i9,hL]at h;cases hq:(L==0)<;>rw[hq]at h<;>cases h) (fun _=>w_an (Tree.pp (Z6 g.s g.ok.cnt U_0)).1 (w_lv fun x10 e10=> ?_))) (fun h=>by cases h)
      have e10:x10=Q15 (prep x5.1 1 enable true) 0:=e10
      rw[←e10]at s0 s1 s5
      refine w_br (fun _=>w_br (fun hz=> ?_) (fun hz0=> ?_)) (fun h=>by cases h)
      · have ex:=s1 ⟨rfl,hL.symm.trans (eq_of_beq hz)⟩
        have es:({Cpu:=(prep x5.1 1 enable true).Cpu,Mem:=x10.2.2,Console:=x5.1.Console,Timer:=x5.1.Timer,Disk:=x5.1.Disk,Nic:=x5.1.Nic,Balloon:=x5.1.Balloon,Count:=x5.1.Count,Waiting:=true,Halted:=x5.1.Halted}:Q00)=x10.1:=by rw[ex,s0];rfl
        have lm:x10.1.Mem.length≤1000000000000:=by rw[ex];have:=g.ok.mem.len;omega
        have sm:=Tree.pp (msame_w x10.1 lm)
        refine w_an (show Q34 x10.1 {Cpu:=(prep x5.1 1 enable true).Cpu,Mem:=x10.2.2,Console:=x5.1.Console,Timer:=x5.1.Timer,Disk:=x5.1.Disk,Nic:=x5.1.Nic,Balloon:=x5.1.Balloon,Count:=x5.1.Count,Waiting:=true,Halted:=x5.1.Halted} by rw[es];exact sm.1) (w_lv fun x11 e11=>w_br (fun _=>awt) (fun h=> ?_))
        have e11:x11=Qap x10.1 {Cpu:=(prep x5.1 1 enable true).Cpu,Mem:=x10.2.2,Console:=x5.1.Console,Timer:=x5.1.Timer,Disk:=x5.1.Disk,Nic:=x5.1.Nic,Balloon:=x5.1.Balloon,Count:=x5.1.Count,Waiting:=true,Halted:=x5.1.Halted}:=e11
        rw[es]at e11
        have:x11=true:=e11.trans sm.2
        rw[this]at h;cases h
      · have hp: ¬(true=true∧L=0):=fun e=>by rw[hL,e.2]at hz0;cases hz0
        exact w_br (fun _=>by obtain⟨s2,s3,s4,s6⟩:=s5 hp;exact Z4t (by rw[s4 (.inl rfl)];rfl) (by rw[s2];simp) (by rw[s3];rfl) awt) (fun h=>by cases h)
  · refine w_br (fun _=> ?_) (fun h=>by cases h)
    cases waiting
    · refine w_an (Tree.pp (Qmr (m:=prep x5.1 3 enable false) a1.ok.target.2)).1 (w_lv fun x8 e8=>w_an (Z5l (m:=prep x5.1 3 enable false) a1.ok.target.2) (w_lv fun x9 e9=> ?_))
      obtain⟨k1,k2,k3⟩:=key 3 (.inr rfl) x8 e8
      have i9:=idle 3 (.inr rfl) x9 e9
      obtain⟨L,hL⟩: ∃L,iand .u32 (iand .u32 x8 enable) 31=L:=⟨_,rfl⟩
      rw[hL]at k1 k2 k3
      rw[←k1]at i9
      have g:=Qj6 a1 h5 (st:=3) (.inr rfl) he false
      obtain⟨s0,s1,s5⟩:=Qqp a1 c5 h5 (st:=3) (.inr rfl) he false
      rw[←k1]at s1 s5
      refine w_br (fun h=>by cases h) (fun _=>w_br (fun h=>by rw[i9]at h;cases h) (fun _=>w_an (Tree.pp (Z6 g.s g.ok.cnt U_0)).1 (w_lv fun x10 e10=> ?_)))
      have e10:x10=Q15 (prep x5.1 3 enable false) 0:=e10
      rw[←e10]at s0 s1 s5
      have hp: ¬(false=true∧L=0):=fun e=>by cases e.1
      exact w_br (fun h=>by cases h) (fun _=>w_br (fun h=>by cases h) (fun _=>w_br (fun hz=>by obtain⟨s2,s3,s4,s6⟩:=s5 hp;exact Z4t (by rw[s4 (.inr (hL.symm.trans (eq_of_beq hz)))];rfl) (by rw[s2];simp) (by rw[s3];rfl) awt) (fun hz=>by
        obtain⟨s2,s3,s4,s6⟩:=s5 hp
        have hn:L≠0:=by rw[hL]at hz;simpa using hz
        obtain⟨t1,t2,t3⟩:=s6 rfl hn
        obtain⟨q1,q2,q3,q4⟩:=Zdp (l:=L) (by omega) k3
        refine w_lp (inv:=fun v:Int=>0≤v∧v≤low L) (μ:=Q2m l acts enable true false n) ⟨Int.le_refl 0,q1⟩ (Nat.lt_succ_self _) fun v ⟨v1,v2⟩=> ?_
        have uL:U L:=⟨k2,by omega⟩
        have wv:IntKind.wrap .u64 v=(v.toNat:Int):=by rw[IntKind.wrap_u64];omega
        have bt:iand .u32 (ishr .u32 L (IntKind.wrap .u64 v)) 1=L/2^v.toNat%2:=by
          rw[wv,and1 (Qo uL _),Qko _ (by omega)]
        refine w_cn (decide_eq_true (by rw[IntKind.wrap_u64];omega)) ?_
        refine w_br (fun h=>w_nx ?_) (fun h=> ?_)
        · rw[hL,bt]at h
          have h:L/2^v.toNat%2=0:=eq_of_beq h
          have ne:v≠low L:=fun e=>by rw[e,q3]at h;cases h
          have ew:IntKind.i64.wrap (v+1)=v+1:=by rw[IntKind.wrap_i64];omega
          show(0≤IntKind.i64.wrap (v+1)∧IntKind.i64.wrap (v+1)≤low L)∧(32-IntKind.i64.wrap (v+1)).toNat<(32-v).toNat
          rw[ew]
          exact⟨⟨by omega,by omega⟩,by omega⟩
        · rw[hL,bt]at h
          have ve:v=low L:=by
            rcases Int.lt_or_le v (low L) with h'|h'
            · rw[q4 v v1 h']at h;cases h
            · omega
          subst ve
          refine w_br (fun _=>w_br (fun _=>w_br (fun _=>w_br (fun _=>w_an Qg1 (w_lv aw)) (fun h=>by rw[s3]at h;cases h)) (fun h=>by rw[t3]at h;cases h)) (fun h=>by rw[t2]at h;cases h)) (fun h=> ?_)
          have t1:x10.1.Cpu.X.a5=IntKind.wrap .u32 (IntKind.wrap .i64 (16+low L)):=t1
          rw[t1]at h;simp at h)))
    · refine w_an (Tree.pp (Qmr (m:=prep x5.1 3 enable true) a1.ok.target.2)).1 (w_lv fun x8 e8=>w_an (Z5l (m:=prep x5.1 3 enable true) a1.ok.target.2) (w_lv fun x9 e9=> ?_))
      obtain⟨k1,k2,k3⟩:=key 3 (.inr rfl) x8 e8
      have i9:=idle 3 (.inr rfl) x9 e9
      obtain⟨L,hL⟩: ∃L,iand .u32 (iand .u32 x8 enable) 31=L:=⟨_,rfl⟩
      rw[hL]at k1 k2 k3
      rw[←k1]at i9
      have g:=Qj6 a1 h5 (st:=3) (.inr rfl) he true
      obtain⟨s0,s1,s5⟩:=Qqp a1 c5 h5 (st:=3) (.inr rfl) he true
      rw[←k1]at s1 s5
      refine w_br (fun _=>w_br (fun h=>by rw[i9,hL]at h;cases hq:(L==0)<;>rw[hq]at h<;>cases h) (fun _=>w_an (Tree.pp (Z6 g.s g.ok.cnt U_0)).1 (w_lv fun x10 e10=> ?_))) (fun h=>by cases h)
      have e10:x10=Q15 (prep x5.1 3 enable true) 0:=e10
      rw[←e10]at s0 s1 s5
      refine w_br (fun _=>w_br (fun hz=> ?_) (fun hz0=> ?_)) (fun h=>by cases h)
      · have ex:=s1 ⟨rfl,hL.symm.trans (eq_of_beq hz)⟩
        have es:({Cpu:=(prep x5.1 3 enable true).Cpu,Mem:=x10.2.2,Console:=x5.1.Console,Timer:=x5.1.Timer,Disk:=x5.1.Disk,Nic:=x5.1.Nic,Balloon:=x5.1.Balloon,Count:=x5.1.Count,Waiting:=true,Halted:=x5.1.Halted}:Q00)=x10.1:=by rw[ex,s0];rfl
        have lm:x10.1.Mem.length≤1000000000000:=by rw[ex];have:=g.ok.mem.len;omega
        have sm:=Tree.pp (msame_w x10.1 lm)
        refine w_an (show Q34 x10.1 {Cpu:=(prep x5.1 3 enable true).Cpu,Mem:=x10.2.2,Console:=x5.1.Console,Timer:=x5.1.Timer,Disk:=x5.1.Disk,Nic:=x5.1.Nic,Balloon:=x5.1.Balloon,Count:=x5.1.Count,Waiting:=true,Halted:=x5.1.Halted} by rw[es];exact sm.1) (w_lv fun x11 e11=>w_br (fun _=>awt) (fun h=> ?_))
        have e11:x11=Qap x10.1 {Cpu:=(prep x5.1 3 enable true).Cpu,Mem:=x10.2.2,Console:=x5.1.Console,Timer:=x5.1.Timer,Disk:=x5.1.Disk,Nic:=x5.1.Nic,Balloon:=x5.1.Balloon,Count:=x5.1.Count,Waiting:=true,Halted:=x5.1.Halted}:=e11
        rw[es]at e11
        have:x11=true:=e11.trans sm.2
        rw[this]at h;cases h
      · have hp: ¬(true=true∧L=0):=fun e=>by rw[hL,e.2]at hz0;cases hz0
        exact w_br (fun h=>by cases h) (fun _=>w_br (fun hz=>by obtain⟨s2,s3,s4,s6⟩:=s5 hp;exact Z4t (by rw[s4 (.inr (hL.symm.trans (eq_of_beq hz)))];rfl) (by rw[s2];simp) (by rw[s3];rfl) awt) (fun hz=>by
        obtain⟨s2,s3,s4,s6⟩:=s5 hp
        have hn:L≠0:=by rw[hL]at hz;simpa using hz
        obtain⟨t1,t2,t3⟩:=s6 rfl hn
        obtain⟨q1,q2,q3,q4⟩:=Zdp (l:=L) (by omega) k3
        refine w_lp (inv:=fun v:Int=>0≤v∧v≤low L) (μ:=Q2m l acts enable true true n) ⟨Int.le_refl 0,q1⟩ (Nat.lt_succ_self _) fun v ⟨v1,v2⟩=> ?_
        have uL:U L:=⟨k2,by omega⟩
        have wv:IntKind.wrap .u64 v=(v.toNat:Int):=by rw[IntKind.wrap_u64];omega
        have bt:iand .u32 (ishr .u32 L (IntKind.wrap .u64 v)) 1=L/2^v.toNat%2:=by
          rw[wv,and1 (Qo uL _),Qko _ (by omega)]
        refine w_cn (decide_eq_true (by rw[IntKind.wrap_u64];omega)) ?_
        refine w_br (fun h=>w_nx ?_) (fun h=> ?_)
        · rw[hL,bt]at h
          have h:L/2^v.toNat%2=0:=eq_of_beq h
          have ne:v≠low L:=fun e=>by rw[e,q3]at h;cases h
          have ew:IntKind.i64.wrap (v+1)=v+1:=by rw[IntKind.wrap_i64];omega
          show(0≤IntKind.i64.wrap (v+1)∧IntKind.i64.wrap (v+1)≤low L)∧(32-IntKind.i64.wrap (v+1)).toNat<(32-v).toNat
          rw[ew]
          exact⟨⟨by omega,by omega⟩,by omega⟩
        · rw[hL,bt]at h
          have ve:v=low L:=by
            rcases Int.lt_or_le v (low L) with h'|h'
            · rw[q4 v v1 h']at h;cases h
            · omega
          subst ve
          refine w_br (fun _=>w_br (fun _=>w_br (fun _=>w_br (fun _=>w_an Qg1 (w_lv aw)) (fun h=>by rw[s3]at h;cases h)) (fun h=>by rw[t3]at h;cases h)) (fun h=>by rw[t2]at h;cases h)) (fun h=> ?_)
          have t1:x10.1.Cpu.X.a5=IntKind.wrap .u32 (IntKind.wrap .i64 (16+low L)):=t1
          rw[t1]at h;simp at h))
end Go.Proofs.YtdkiadhigcfmkaaGreat

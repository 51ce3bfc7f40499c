/-
  A part of the proof.
-/
import Derived.Test.YtdkiadhigcfmkaaGreatMachineAppliesLaws2
import Derived.Test.YtdkiadhigcfmkaaGreatMachineAppliesNews
import Derived.Test.YtdkiadhigcfmkaaGreatMachineAppliesZg
import Derived.Test.YtdkiadhigcfmkaaGreatMachineAppliesZt
import Derived.Test.YtdkiadhigcfmkaaGreatMachineAppliesFe
import Derived.Test.YtdkiadhigcfmkaaGreatMachineAppliesLaw
namespace Go.Proofs.YtdkiadhigcfmkaaGreat
open Go Go.GD
set_option linter.unusedVariables false
set_option linter.unusedSimpArgs false
set_option maxRecDepth 100000
theorem Zbo(i:Q0i):U (Q1 i).1:=by
 refine Tree.post (Qb6 i) (W:=fun r=>U r.1) ?_
 unfold Qb6
 exact w_lv fun _ _=>w_br (fun _=>U_0) (fun _=>U_or _ _)
theorem code_w(l:List Int)(hl:l.length*8≤reachBytes):(Q7i l).w (fun r=>(r.length:Int)=l.length∧ ∀w∈r,U w):=by
 have hl':l.length*8≤140737488351232:=hl
 have app: ∀{r:List Int} {x:Int},(∀w∈r,U w)→U x→ ∀w∈r++[x],U w:=fun hr hx w hw=>by
   rw[List.mem_append]at hw
   rcases hw with hw|hw
   · exact hr w hw
   · rw[List.mem_singleton.1 hw];exact hx
 unfold Q7i
 refine w_lp (inv:=fun z=>Q9q l z∧ ∀w∈z.2,U w) (μ:=Q3a l) ⟨⟨by omega,by simp,by simp⟩,by simp⟩ (Nat.lt_succ_self _) (fun v0 hv=> ?_)
 obtain⟨⟨h1,h2,h3⟩,h4⟩:=hv
 refine w_br (fun h=> ?_) (fun h=> ?_)
 · have h:=of_decide_eq_true h
   have next: ∀x:Int,U x→(Q9q l (IntKind.wrap IntKind.i64 (v0.1+1),v0.2++[x])∧ ∀w∈v0.2++[x],U w)∧Q3a l (IntKind.wrap IntKind.i64 (v0.1+1),v0.2++[x])<Q3a l v0:=fun x hx=>by
     have hw:IntKind.i64.wrap (v0.1+1)=v0.1+1:=by rw[IntKind.wrap_i64];omega
     rw[hw]
     refine⟨⟨⟨?_,?_,?_⟩,app h4 hx⟩,?_⟩
     · show 0≤v0.1+1;omega
     · show v0.1+1≤l.length;omega
     · show((v0.2++[x]).length:Int)=v0.1+1;simp;omega
     · show(l.length-(v0.1+1)).toNat<(l.length-v0.1).toNat;omega
   have hb:(Nat.beq 1 1&&Nat.blt 0 1&&decide (0≤v0.1∧v0.1<(l.length:Int)))=true:=by simp [Nat.blt];omega
   have hc:decide (4*(v0.2.length+1)≤140737488355328)=true:=decide_eq_true (by omega)
   exact w_cn hb (w_br (fun _=>w_cn hb (w_cn hc (next _ (Q17 _)))) (fun _=>w_cn hb (w_an (Z3z _) (w_lv fun x0 _=>w_lv fun x1 hx=>w_cn hc (next _ (by rw[hx];exact Zbo _))))))
 · have h:=of_decide_eq_false h
   exact⟨by show(v0.2.length:Int)=l.length;omega,h4⟩
end Go.Proofs.YtdkiadhigcfmkaaGreat
namespace Go.Proofs.YtdkiadhigcfmkaaGreat
open Go Go.GD
set_option linter.unusedVariables false
set_option linter.unusedSimpArgs false
set_option maxRecDepth 100000
theorem limited_w(steps:Int):0≤Qbm steps∧Qbm steps≤4000:=by
 refine Tree.post (Q8i steps) (W:=fun r=>0≤r∧r≤4000) ?_
 unfold Q8i
 refine w_lf ?_
 constructor<;>(repeat' split)<;>omega
theorem Z58{P:Nat}{r:Q01}(h:okR P r)(steps:Int){clock:Int}(hc:U clock)(hl:r.Log.length≤900000)(hq:r.Queue.length≤16)(hu: ∀q∈r.Queue,U q.N):
    (Q5h r steps clock).w (fun x=>okR P x.1∧x.1.Log.length≤r.Log.length+8016∧(x.1.Queue=r.Queue∨x.1.Queue=[])∧x.2.length≤4000):=by
  unfold Q5h
  refine Q0l (own_w h (by omega) (by omega)) fun x0 hx=> ?_
  obtain⟨k1,k2,k3⟩:=hx
  refine w_lv fun x1 _=>w_br (fun _=>⟨k1,by rw[k2];omega, .inl k3,Nat.zero_le _⟩) (fun _=> ?_)
  have hcl:U (if clock>x0.Clock then clock else x0.Clock):=by split<;>first|exact hc|exact k1.clock
  refine w_lp (inv:=fun z=>0≤z.1∧z.1≤r.Queue.length∧okR P z.2∧(z.2.Log.length:Int)≤r.Log.length+z.1∧z.2.Queue=r.Queue) (μ:=Qc5 r steps clock) ⟨by omega,by omega,⟨k1.m,hcl⟩,by rw[k2];omega,k3⟩ (Nat.lt_succ_self _) (fun z hz=> ?_)
  obtain⟨z1,z2,z3,z4,z5⟩:=hz
  refine w_br (fun hb=> ?_) (fun hb=> ?_)
  · have hb:=of_decide_eq_true hb
    rw[z5]at hb
    have hm:(List.getD z.2.Queue (Int.toNat z.1) (RK.dflt RK.apiEvent))∈r.Queue:=by
      rw[z5]
      have hlt:z.1.toNat<r.Queue.length:=by omega
      rw[List.getD_eq_getElem?_getD,List.getElem?_eq_getElem hlt]
      exact List.getElem_mem hlt
    refine w_cn (by rw[z5];simp [Nat.blt];omega) (Q0l (offer_w z3 (hu _ hm) (by omega)) fun x hx=>w_nx ?_)
    obtain⟨a1,a2,a3⟩:=hx
    show(0≤IntKind.i64.wrap (z.1+1)∧IntKind.i64.wrap (z.1+1)≤r.Queue.length∧okR P x∧(x.Log.length:Int)≤r.Log.length+IntKind.i64.wrap (z.1+1)∧x.Queue=r.Queue)∧(x.Queue.length-IntKind.i64.wrap (z.1+1)).toNat<(z.2.Queue.length-z.1).toNat
    have ew:IntKind.i64.wrap (z.1+1)=z.1+1:=by rw[IntKind.wrap_i64];omega
    rw[ew,a3,z5]
    exact⟨⟨by omega,by omega,a1,by omega,rfl⟩,by omega⟩
  · refine w_lp (inv:=fun y=>0≤y.1∧y.1≤4000∧okR P y.2.1∧(y.2.1.Log.length:Int)≤r.Log.length+r.Queue.length+2*y.1∧y.2.1.Queue=[]∧(y.2.2.length:Int)≤y.1) (μ:=Qcb r steps clock z) ⟨by omega,by omega,⟨z3.m,z3.clock⟩,by simp;omega,rfl,by simp⟩ (Nat.lt_succ_self _) (fun y hy=> ?_)
    obtain⟨y1,y2,y3,y4,y5,y6⟩:=hy
    have ew:IntKind.i64.wrap (y.1+1)=y.1+1:=by rw[IntKind.wrap_i64];omega
    refine w_lv fun x3 hx3=>w_br (fun hb=> ?_) (fun _=>⟨y3,by show y.2.1.Log.length≤_;omega, .inr y5,by show y.2.2.length≤_;omega⟩)
    have hb:=of_decide_eq_true hb
    have lim:=(limited_w steps).2
    rw[←hx3]at lim
    refine w_lv fun x4 _=>w_br (fun _=>Q0l (offer_w (e:=⟨_,_,_⟩) y3 U_0 (by omega)) fun x5 h5=> ?_) (fun _=> ?_)
    · obtain⟨q1,q2,q3⟩:=h5
      have q3:=q3.trans y5
      refine Q0l (Z9d _) fun s1 _=>w_br (fun _=>⟨q1,by show x5.Log.length≤_;omega, .inr q3,by show y.2.2.length≤_;omega⟩) (fun _=>Q0l (Qr8 q1.m.cpu q1.m.mem) fun s2 _=>w_br (fun _=>w_cn (decide_eq_true (by omega)) (Q0l (Qok (r:=⟨x5.Machine,x5.Clock,x5.Log++[_],x5.Queue⟩) ⟨q1.m,q1.clock⟩ q1.clock) fun o ho=> ?_)) (fun _=>Q0l (Qok q1 q1.clock) fun o ho=> ?_))
      · obtain⟨a1,⟨⟨a2,a3⟩,a4,a5⟩⟩:=ho
        have e4:o.2.Log.length=x5.Log.length+1:=by rw[a4];simp
        have a5:o.2.Queue=[]:=a5.trans q3
        refine w_cn (decide_eq_true (by omega)) (w_nx ?_)
        show(0≤IntKind.i64.wrap (y.1+1)∧IntKind.i64.wrap (y.1+1)≤4000∧okR P _∧(o.2.Log.length:Int)≤r.Log.length+r.Queue.length+2*IntKind.i64.wrap (y.1+1)∧o.2.Queue=[]∧((y.2.2++o.1).length:Int)≤IntKind.i64.wrap (y.1+1))∧(4000-IntKind.i64.wrap (y.1+1)).toNat<(4000-y.1).toNat
        rw[ew,a5,List.length_append]
        exact⟨⟨by omega,by omega,⟨a2,Q17 _⟩,by omega,rfl,by omega⟩,by omega⟩
      · obtain⟨a1,⟨⟨a2,a3⟩,a4,a5⟩⟩:=ho
        have e4:o.2.Log.length=x5.Log.length:=by rw[a4]
        have a5:o.2.Queue=[]:=a5.trans q3
        refine w_cn (decide_eq_true (by omega)) (w_nx ?_)
        show(0≤IntKind.i64.wrap (y.1+1)∧IntKind.i64.wrap (y.1+1)≤4000∧okR P _∧(o.2.Log.length:Int)≤r.Log.length+r.Queue.length+2*IntKind.i64.wrap (y.1+1)∧o.2.Queue=[]∧((y.2.2++o.1).length:Int)≤IntKind.i64.wrap (y.1+1))∧(4000-IntKind.i64.wrap (y.1+1)).toNat<(4000-y.1).toNat
        rw[ew,a5,List.length_append]
        exact⟨⟨by omega,by omega,⟨a2,Q17 _⟩,by omega,rfl,by omega⟩,by omega⟩
    · refine Q0l (Z9d _) fun s1 _=>w_br (fun _=>⟨y3,by show y.2.1.Log.length≤_;omega, .inr y5,by show y.2.2.length≤_;omega⟩) (fun _=>Q0l (Qr8 y3.m.cpu y3.m.mem) fun s2 _=>w_br (fun _=>w_cn (decide_eq_true (by omega)) (Q0l (Qok (r:=⟨y.2.1.Machine,y.2.1.Clock,y.2.1.Log++[_],y.2.1.Queue⟩) ⟨y3.m,y3.clock⟩ y3.clock) fun o ho=> ?_)) (fun _=>Q0l (Qok y3 y3.clock) fun o ho=> ?_))
      · obtain⟨a1,⟨⟨a2,a3⟩,a4,a5⟩⟩:=ho
        have e4:o.2.Log.length=y.2.1.Log.length+1:=by rw[a4];simp
        have a5:o.2.Queue=[]:=a5.trans y5
        refine w_cn (decide_eq_true (by omega)) (w_nx ?_)
        show(0≤IntKind.i64.wrap (y.1+1)∧IntKind.i64.wrap (y.1+1)≤4000∧okR P _∧(o.2.Log.length:Int)≤r.Log.length+r.Queue.length+2*IntKind.i64.wrap (y.1+1)∧o.2.Queue=[]∧((y.2.2++o.1).length:Int)≤IntKind.i64.wrap (y.1+1))∧(4000-IntKind.i64.wrap (y.1+1)).toNat<(4000-y.1).toNat
        rw[ew,a5,List.length_append]
        exact⟨⟨by omega,by omega,⟨a2,Q17 _⟩,by omega,rfl,by omega⟩,by omega⟩
      · obtain⟨a1,⟨⟨a2,a3⟩,a4,a5⟩⟩:=ho
        have e4:o.2.Log.length=y.2.1.Log.length:=by rw[a4]
        have a5:o.2.Queue=[]:=a5.trans y5
        refine w_cn (decide_eq_true (by omega)) (w_nx ?_)
        show(0≤IntKind.i64.wrap (y.1+1)∧IntKind.i64.wrap (y.1+1)≤4000∧okR P _∧(o.2.Log.length:Int)≤r.Log.length+r.Queue.length+2*IntKind.i64.wrap (y.1+1)∧o.2.Queue=[]∧((y.2.2++o.1).length:Int)≤IntKind.i64.wrap (y.1+1))∧(4000-IntKind.i64.wrap (y.1+1)).toNat<(4000-y.1).toNat
        rw[ew,a5,List.length_append]
        exact⟨⟨by omega,by omega,⟨a2,Q17 _⟩,by omega,rfl,by omega⟩,by omega⟩
end Go.Proofs.YtdkiadhigcfmkaaGreat
namespace Go.Proofs.YtdkiadhigcfmkaaGreat
open Go Go.GD
set_option linter.unusedVariables false
set_option linter.unusedSimpArgs false
set_option maxRecDepth 100000
section
variable {P:Nat} {m:Q00} (h:okM P m)
include h
theorem min_w(port:Int){clock:Int}(hc:U clock):(Qog m port clock).w (fun x=>U x.1∧okM P x.2∧x.2.Count=m.Count):=by
 have k:=(⟨h,rfl⟩:okM P m∧m.Count=m.Count)
 obtain⟨h1,h2,h3,h4,h5,h7⟩:=h
 unfold Qog
 exact w_br (fun _=>w_lv fun x hx=>⟨hx▸Qut _ _,⟨⟨h1,h2,h3,h4,h5,h7⟩,rfl⟩⟩) (fun _=>w_br (fun _=>⟨hc,k⟩) (fun _=>w_br (fun _=>w_lv fun x hx=>⟨hx▸Z6a _,k⟩) (fun _=>w_br (fun _=>w_lv fun x hx=>⟨hx▸Zc6 h3 _,k⟩) (fun _=>w_br (fun _=>w_lv fun x hx=>⟨hx▸nicIn_w h4 _,k⟩) (fun _=>w_lv fun x hx=>⟨hx▸Qwt h5.1 _,k⟩)))))
theorem mout_w(port:Int){v:Int}(hv:U v):(Qfc m port v).w (fun x=>x.1.length≤1∧okM P x.2∧x.2.Count=m.Count):=by
 have k:=(⟨h,rfl⟩:okM P m∧m.Count=m.Count)
 obtain⟨h1,h2,h3,h4,h5,h7⟩:=h
 unfold Qfc
 exact w_br (fun _=>⟨Nat.le_refl _,k⟩) (fun _=>w_br (fun _=>⟨Nat.zero_le _,k⟩) (fun _=>w_br (fun _=>w_lv fun _ _=>⟨Nat.zero_le _,⟨⟨h1,h2,h3,h4,h5,h7⟩,rfl⟩⟩) (fun _=>w_br (fun _=>Q0l (Z7c h2 h3 _ hv _) fun x hx=>⟨hx.2,⟨⟨h1,h2,hx.1,h4,h5,h7⟩,rfl⟩⟩) (fun _=>w_br (fun _=>Q0l (Zar h2 h4 _ hv _) fun x hx=>⟨hx.2,⟨⟨h1,h2,h3,hx.1,h5,h7⟩,rfl⟩⟩) (fun _=>Q0l (give_w h2 h5 _ hv) fun x hx=>⟨Nat.zero_le _,⟨⟨h1,hx.2,h3,h4,hx.1,h7⟩,rfl⟩⟩)))))
theorem Zch{clock:Int}(hc:U clock):(Q7 m clock).w (fun x=>x.1.length≤1∧okM P x.2∧x.2.Count=IntKind.wrap .u64 (m.Count+1)):=by
 obtain⟨h1,h2,h3,h4,h5,h7⟩:=h
 unfold Q7
 refine Q0l (Qg7 h1) fun x0 c0=>Q0l (do_w c0 h2) fun x1 hx=> ?_
 obtain⟨c1,v1,m1⟩:=hx
 refine w_br (fun _=>Zbd (min_w (m:=⟨_,_,_,_,_,_,_,_,_,_⟩) ⟨c1,m1,h3,h4,h5,h7⟩ _ hc) fun x2 hx=> ?_) (fun _=>w_br (fun _=>Q0l (mout_w (m:=⟨_,_,_,_,_,_,_,_,_,_⟩) ⟨c1,m1,h3,h4,h5,h7⟩ _ v1) fun x4 hx=> ?_) (fun _=> ?_))
 · obtain⟨u,⟨k1,k2,k3,k4,k5,k7⟩,k6⟩:=hx
   exact Q0l (Qyy k1 _ u) fun x3 h3=>⟨Nat.zero_le _,⟨h3,k2,k3,k4,k5,w0 _⟩,congrArg (fun n=>IntKind.wrap .u64 (n+1)) k6⟩
 · obtain⟨u,⟨k1,k2,k3,k4,k5,k7⟩,k6⟩:=hx
   exact⟨u,⟨k1,k2,k3,k4,k5,w0 _⟩,congrArg (fun n=>IntKind.wrap .u64 (n+1)) k6⟩
 · repeat'(first
     |exact⟨Nat.zero_le _,⟨c1,m1,h3,h4,h5,w0 _⟩,rfl⟩
     |refine w_br (fun _=> ?_) (fun _=> ?_))
theorem own7_w:(Q55 m).w (fun x=>okM P x∧x.Count=m.Count):=by
 obtain⟨h1,h2,h3,h4,h5,h7⟩:=h
 unfold Q55
 exact Q0l (copy_w h2) fun x hx=>⟨⟨h1,by rw[hx];exact h2,h3,h4,h5,h7⟩,rfl⟩
end
theorem U_all(n:Nat): ∀w∈List.replicate n (0:Int),U w:=fun w hw=>by rw[(List.mem_replicate.1 hw).2];exact U_0
end Go.Proofs.YtdkiadhigcfmkaaGreat
namespace Go.Proofs.YtdkiadhigcfmkaaGreat
open Go Go.GD
set_option linter.unusedVariables false
set_option maxRecDepth 100000
set_option synthInstance.maxHeartbeats 2000000
set_option synthInstance.maxSize 100000
noncomputable section
instance ref1_lines_ck (src:(List UInt8)):Ck (Qf5 src):=ckT (t:=Qag src) (by delta Qag;infer_instance)
instance ref1_tokens_ck (s:(List UInt8)):Ck (Qdd s):=ckT (t:=Q7w s) (by delta Q7w;infer_instance)
instance ref1_digits_ck (n:Int):Ck (Q1w n):=let d:Decidable (Q1w n):=(by delta Q1w;infer_instance);⟨@decide _ d,@of_decide_eq_true _ d⟩
instance ref1_Decimal_ck (n:Int):Ck (Qaz n):=ckT (t:=Q45 n) (by delta Q45;infer_instance)
instance ref1_reg_ck (r:Int):Ck (Qiv r):=ckT (t:=Q94 r) (by delta Q94;infer_instance)
instance ref1_name_ck (s:(List UInt8)):Ck (Qbe s):=ckT (t:=Qdq s) (by delta Qdq;infer_instance)
instance Zel (op:Int):Ck (Q9e op):=ckT (t:=Q5l op) (by delta Q5l;infer_instance)
instance Zct (s:(List UInt8)):Ck (Q1x s):=ckT (t:=Q53 s) (by delta Q53;infer_instance)
instance ref1_pattern_ck (what:(List UInt8)):Ck (Q3k what):=ckT (t:=Q6t what) (by delta Q6t;infer_instance)
instance ref1_number_ck (s:(List UInt8)):Ck (Qdi s):=ckT (t:=Q8m s) (by delta Q8m;infer_instance)
instance ref1_matched_ck (l:(List Q0e)) (p:(List UInt8)):Ck (Q3m l p):=ckT (t:=Q6s l p) (by delta Q6s;infer_instance)
instance ref1_parsed_ck (s:(List UInt8)):Ck (Qci s):=ckT (t:=Q8 s) (by delta Q8;infer_instance)
instance ref1_address_ck (l:(List Q1e)) (label:(List UInt8)):Ck (Q1y l label):=let d:Decidable (Q1y l label):=(by delta Q1y;infer_instance);⟨@decide _ d,@of_decide_eq_true _ d⟩
instance ref1_read_ck (src:(List UInt8)):Ck (Qgz src):=ckT (t:=Qd0 src) (by delta Qd0;infer_instance)
instance ref1_inst_ck (st:Q05) (v:Int):Ck (Q68 st v):=ckT (t:=Qdo st v) (by delta Qdo;infer_instance)
instance Zei (src:(List UInt8)):Ck (Q63 src):=ckT (t:=Q5q src) (by delta Q5q;infer_instance)
theorem asm_pre:Q63 ((108:UInt8)::(tblZe0++Z07++(Qzx++Qze)++(Z0i++Qzu++(Z11++Qzl))++(Qzj++Z0y++(Qpn++Qqm)++(Qpm++Qq3++(Qqa++Qpc))))):=ck inferInstance (by kernel_rfl)
def inU(x:Int):Bool:=decide (0≤x)&&decide (x<4294967296)
theorem asm_gen(l:List Int)(h:(Nat.ble l.length 160&&List.all l inU)=true):l.length≤160∧ ∀w∈l,U w:=by
 rw[Bool.and_eq_true]at h
 refine⟨Nat.le_of_ble_eq_true h.1,fun w hw=> ?_⟩
 have:=List.all_eq_true.1 h.2 w hw
 simp only[inU,Bool.and_eq_true,decide_eq_true_eq]at this
 exact this
theorem asm_ok:(Q4 (List.append (List.append (List.append (List.append Z2h Z07) (List.append Qzx Qze)) (List.append (List.append Z0i Qzu) (List.append Z11 Qzl))) (List.append (List.append (List.append Qzj Z0y) (List.append Qpn Qqm)) (List.append (List.append Qpm Qq3) (List.append Qqa Qpc))))).1.length≤160∧ ∀w∈(Q4 (List.append (List.append (List.append (List.append Z2h Z07) (List.append Qzx Qze)) (List.append (List.append Z0i Qzu) (List.append Z11 Qzl))) (List.append (List.append (List.append Qzj Z0y) (List.append Qpn Qqm)) (List.append (List.append Qpm Qq3) (List.append Qqa Qpc))))).1,U w:=asm_gen _ (by kernel_rfl)
end
end Go.Proofs.YtdkiadhigcfmkaaGreat
namespace Go.Proofs.YtdkiadhigcfmkaaGreat
open Go Go.GD
set_option linter.unusedVariables false
set_option linter.unusedSimpArgs false
set_option maxRecDepth 100000
theorem new_w(i:List Int)(hu: ∀w∈i,U w)(hl:i.length≤256):(Q61 8 4 i).w (fun x=>okM 8 x.1∧x.1.Count=0):=by
 unfold Q61
 refine w_br (fun h=>absurd h (by decide)) fun _=>w_br (fun h=>absurd h (by decide)) fun _=>w_br (fun h=>absurd h (by decide)) fun _=>w_br (fun h=>absurd h (by decide)) fun _=>w_br (fun h=> ?_) fun _=>w_lv fun x0 e0=>w_an (Qf6 _) (w_lv fun x1 e1=> ?_)
 · have h:=of_decide_eq_true h
   rw[show IntKind.i64.wrap (8*32)=256 by decide]at h
   omega
 have hx:x1=List.replicate 256 0:=by rw[e1];kernel_rfl
 have c0:Q3j x0:=by rw[e0];exact⟨by
   intro w hw
   simp only[Qju,Qeg,Tree.m,A16.l,List.mem_cons,List.not_mem_nil,or_false,or_self]at hw
   rw[hw];exact U_0,U_0,by
   intro w hw
   simp only[Qju,Qeg,Tree.m,A8.l,List.mem_cons,List.not_mem_nil,or_false,or_self]at hw
   rcases hw with rfl|rfl
   · exact⟨by omega,by omega⟩
   · exact U_0⟩
 have hz: ∀w∈x1,U w:=by rw[hx];exact U_all 256
 have hn:x1.length=256:=by rw[hx,List.length_replicate]
 refine⟨⟨c0,⟨?_,by omega,by omega,fun w hw=> ?_⟩,⟨U_0,U_0,U_0,U_0⟩,⟨U_0,U_0,U_0,U_0⟩,⟨U_0,U_0⟩,Int.le_refl _⟩,rfl⟩
 · simp only[List.length_append,List.length_take,List.length_drop,hn];omega
 · rcases List.mem_append.1 hw with h1|h1
   · exact hu w (List.mem_of_mem_take h1)
   · exact hz w (List.mem_of_mem_drop h1)
end Go.Proofs.YtdkiadhigcfmkaaGreat
namespace Go.Proofs.YtdkiadhigcfmkaaGreat
open Go Go.GD
set_option linter.unusedVariables false
set_option linter.unusedSimpArgs false
set_option maxRecDepth 100000
theorem step_w{P:Nat}{r:Q01}(h:okR P r)(n:Int)(hl:r.Log.length≤900000)(hq:r.Queue.length≤16)(hu: ∀q∈r.Queue,U q.N):
   (Qcd r n).w (fun x=>okR P x.1∧x.1.Log.length≤r.Log.length+8016∧(x.1.Queue.length≤16∧ ∀q∈x.1.Queue,U q.N)∧x.2.length≤4000):=by
 unfold Qcd
 refine w_lv fun x0 _=>w_br (fun _=>Q0l (event_w n) fun e he=>Q0l (arrive_w h e (by omega) hq hu he) fun x hx=> ?_) (fun _=>w_an (Q2n (by decide)) (w_lv fun x3 _=>Q0l (Z58 h _ (Q17 _) hl hq hu) fun x hx=> ?_))
 · obtain⟨a1,a2,a3,a4⟩:=hx
   exact⟨a1,by rw[a2];omega,⟨a3,a4⟩,Nat.zero_le _⟩
 · obtain⟨a1,a2,a3,a4⟩:=hx
   refine⟨a1,a2,?_,a4⟩
   rcases a3 with a3|a3
   · rw[a3];exact⟨hq,hu⟩
   · rw[a3];exact⟨Nat.zero_le _,fun q hq=>by cases hq⟩
theorem play_w{P:Nat}{m:Q00}(h:okM P m)(l:List Int)(hl:l.length≤30):(Qdv m l).w (fun x=>okR P x.1):=by
 unfold Qdv
 have nr:(Q3b m).w (fun x=>okR P x∧x.Log=[]∧x.Queue=[]):=by
   unfold Q3b
   exact Q0l (own7_w h) fun x hx=>⟨⟨hx.1,U_0⟩,rfl,rfl⟩
 refine Q0l nr fun x0 ⟨n1,n2,n3⟩=> ?_
 refine w_lp (inv:=fun v:Int×Q01×List Q0a=>0≤v.1∧v.1≤l.length∧okR P v.2.1∧(v.2.1.Log.length:Int)≤8016*v.1∧(v.2.1.Queue.length≤16∧ ∀q∈v.2.1.Queue,U q.N)∧(v.2.2.length:Int)≤4000*v.1) (μ:=Qj5 m l) ⟨Int.le_refl _,by show(0:Int)≤l.length;omega,n1,by rw[n2];exact Int.le_refl _,by rw[n3];exact⟨Nat.zero_le _,fun q hq=>by cases hq⟩,Int.le_refl _⟩ (Nat.lt_succ_self _) fun v0 ⟨a1,a2,a3,a4,⟨a5,a6⟩,a7⟩=> ?_
 refine w_br (fun hb=> ?_) (fun _=>a3)
 have hb:=of_decide_eq_true hb
 refine w_cn (by simp [Nat.blt];omega) (Q0l (step_w a3 _ (by omega) a5 a6) fun x1 ⟨b1,b2,b3,b4⟩=>w_cn (decide_eq_true (by omega)) (w_nx ?_))
 have e:IntKind.i64.wrap (v0.1+1)=v0.1+1:=by rw[IntKind.wrap_i64];omega
 show(_∧_∧_∧_∧_∧_)∧(_:Nat)<_
 refine⟨⟨by rw[e];omega,by rw[e];omega,b1,by rw[e];show(x1.1.Log.length:Int)≤_;omega,b3,by rw[e,List.length_append];omega⟩,by show(l.length-IntKind.i64.wrap (v0.1+1)).toNat<(l.length-v0.1).toNat;rw[e];omega⟩
end Go.Proofs.YtdkiadhigcfmkaaGreat
namespace Go.Proofs.YtdkiadhigcfmkaaGreat
open Go Go.GD
set_option linter.unusedVariables false
set_option linter.unusedSimpArgs false
set_option maxRecDepth 100000
def out(f:Int)(m m':List Int):Prop:= ∀j:Nat,¬(f*32≤j∧(j:Int)<f*32+32)→m'.getD j 0=m.getD j 0
theorem Qjz(f:Int)(m:List Int):out f m m:=fun _ _=>rfl
theorem getDset(l:List Int)(i j:Nat)(v:Int)(h:i≠j):(l.set i v).getD j 0=l.getD j 0:=by
 simp only[List.getD_eq_getElem?_getD,List.getElem?_set_ne h]
theorem Q6o{P:Nat}{m:List Int}(h:Q1d P m):Q0s m=P:=by
 obtain⟨h1,h2,h3,_⟩:=h
 simp only[Q0s,Q6k,Tree.m]
 have e:(m.length:Int)=32*P:=by omega
 rw[e]
 have e1:(Int.tmod (32*(P:Int)) 32 !=0)=false:=by simp [Int.mul_tmod_right]
 have e2:decide ((32*(P:Int))>1024)=false:=decide_eq_false (by omega)
 rw[e1,e2]
 simp only[cond_false]
 rw[Int.mul_tdiv_cancel_left _ (by decide),IntKind.wrap_i64];omega
theorem has_eq{P:Nat}{m:List Int}(h:Q1d P m)(f:Int):Q2x m f=true→0≤f∧f<P:=by
 have hp:=Q6o h
 simp only[Q2x,Q52,Tree.m,letv,hp]
 cases h1:decide (f≥0)
 · intro h;cases h
 · intro h;exact⟨of_decide_eq_true h1,of_decide_eq_true h⟩
theorem Z7e{P:Nat}{m:List Int}(h:Q1d P m)(f:Int)(s:List UInt8):(Q1q m f s).w (fun r=>Q1d P r.1∧out f m r.1∧(r.2=false→r.1=m)):=by
 have hcl:Q07 m=m:=rfl
 have h2:=h.p2
 unfold Q1q
 refine w_an (Qc7 h) (w_lv fun x0 hx0=>w_lv fun x1 hx1=> ?_)
 rw[hcl]at hx0;subst hx0
 refine w_br (fun _=>⟨h,Qjz _ _,fun _=>rfl⟩) fun hb=>w_br (fun _=>⟨h,Qjz _ _,fun _=>rfl⟩) fun hs=> ?_
 have hb:x1=true:=by simpa using hb
 obtain⟨f0,f1⟩:=has_eq h f (hx1.symm.trans hb)
 have hs:(s.length:Int)=128:=by simpa using hs
 refine w_lp (inv:=fun z:Int×List Int=>0≤z.1∧z.1≤32∧Q1d P z.2∧out f x0 z.2) (μ:=Q6i x0 f s) ⟨show(0:Int)≤0 by decide,show(0:Int)≤32 by decide,h,Qjz _ _⟩ (Nat.lt_succ_self _) fun z ⟨z1,z2,z3,z4⟩=> ?_
 refine w_br (fun hb=> ?_) (fun _=>⟨z3,z4,fun h=>by cases h⟩)
 have hb:=of_decide_eq_true hb
 have e1:IntKind.i64.wrap (4*z.1)=4*z.1:=by rw[IntKind.wrap_i64];omega
 have e2:IntKind.i64.wrap (IntKind.i64.wrap (4*z.1)+4)=4*z.1+4:=by rw[IntKind.wrap_i64,IntKind.wrap_i64];omega
 have e3:IntKind.i64.wrap (IntKind.i64.wrap (f*32)+z.1)=f*32+z.1:=by rw[IntKind.wrap_i64,IntKind.wrap_i64];omega
 have hl:=z3.len
 have hlen:(List.take (Int.toNat (IntKind.i64.wrap (IntKind.i64.wrap (4*z.1)+4))-Int.toNat (IntKind.i64.wrap (4*z.1))) (List.drop (Int.toNat (IntKind.i64.wrap (4*z.1))) s)).length=4:=by
   rw[e2,e1,List.length_take,List.length_drop];omega
 refine w_cn (decide_eq_true (by rw[e2,e1];omega)) ?_
 refine w_cn (decide_eq_true (by rw[hlen];decide)) (w_cn (decide_eq_true (by rw[hlen];decide)) (w_cn (decide_eq_true (by rw[hlen];decide)) (w_cn (decide_eq_true (by rw[hlen];decide)) (w_cn (by rw[e3];simp [Nat.blt];omega) (w_nx ?_)))))
 show(_∧_∧Q1d P (List.set _ _ _)∧out f x0 (List.set _ _ _))∧(_:Nat)<_
 have ew:IntKind.i64.wrap (z.1+1)=z.1+1:=by rw[IntKind.wrap_i64];omega
 rw[e3]
 refine⟨⟨by rw[ew];omega,by rw[ew];omega,⟨by rw[List.length_set];exact hl,z3.p1,z3.p2,Qyg z3.u (U_or _ _) _⟩,fun j hj=> ?_⟩,by show(32-IntKind.i64.wrap (z.1+1)).toNat<(32-z.1).toNat;rw[ew];omega⟩
 rw[getDset _ _ _ _ (by omega)]
 exact z4 j hj
theorem text_w(w:List Int)(h:w.length≤32):(Q2t w).w (fun r=>r.length=4*w.length):=by
 have e0:IntKind.i64.wrap (4*(w.length:Int))=4*w.length:=by rw[IntKind.wrap_i64];omega
 unfold Q2t
 refine w_cn (by rw[e0];simp [Nat.blt,D.plain];omega) ?_
 refine w_lp (inv:=fun z:Int×List Int=>0≤z.1∧z.1≤w.length∧(z.2.length:Int)=4*z.1) (μ:=Q4m w) ⟨by decide,by show(0:Int)≤w.length;omega,rfl⟩ (Nat.lt_succ_self _) fun z ⟨z1,z2,z3⟩=> ?_
 refine w_br (fun hb=> ?_) (fun hb=> ?_)
 · have hb:=of_decide_eq_true hb
   have ew:IntKind.i64.wrap (z.1+1)=z.1+1:=by rw[IntKind.wrap_i64];omega
   refine w_cn (by simp [Nat.blt];omega) (w_cn (decide_eq_true (by omega)) (w_nx ?_))
   show(_∧_∧_)∧(_:Nat)<_
   refine⟨⟨by rw[ew];omega,by rw[ew];omega,by rw[ew,List.length_append];simp only[List.length_cons,List.length_nil];omega⟩,by show(w.length-IntKind.i64.wrap (z.1+1)).toNat<(w.length-z.1).toNat;rw[ew];omega⟩
 · have hb:=of_decide_eq_false hb
   show(bytesOf z.2).length=_
   rw[Qgg];omega
theorem mpage_w{P:Nat}{m:List Int}(h:Q1d P m)(f:Int):(Q3y m f).w (fun r=>0≤f→f<P→r.1.length=128):=by
 have hl:=h.len
 have h2:=h.p2
 unfold Q3y
 refine w_lv fun x0 hx0=>w_br (fun hb=>fun f0 f1=> ?_) (fun hb=> ?_)
 · have hp:=Q6o h
   have hb:x0=false:=by simpa using hb
   rw[hb]at hx0
   simp only[Q2x,Q52,Tree.m,letv,hp]at hx0
   rw[decide_eq_true f0]at hx0
   exact absurd f1 (of_decide_eq_false hx0.symm)
 · have hb:x0=true:=by simpa using hb
   obtain⟨f0,f1⟩:=has_eq h f (hx0.symm.trans hb)
   have e1:IntKind.i64.wrap (f*32)=f*32:=by rw[IntKind.wrap_i64];omega
   have e2:IntKind.i64.wrap (IntKind.i64.wrap (f*32)+32)=f*32+32:=by rw[IntKind.wrap_i64,IntKind.wrap_i64];omega
   have hlen:(List.take (Int.toNat (IntKind.i64.wrap (IntKind.i64.wrap (f*32)+32))-Int.toNat (IntKind.i64.wrap (f*32))) (List.drop (Int.toNat (IntKind.i64.wrap (f*32))) m)).length=32:=by
     rw[e2,e1,List.length_take,List.length_drop];omega
   refine w_cn (by rw[e2,e1];simp [Nat.blt];omega) ?_
   refine w_an (by show List.length _≤1000000000000;rw[hlen];decide) (w_lv fun x1 h1=> ?_)
   have h1:x1.length=4*(List.take (Int.toNat (IntKind.i64.wrap (IntKind.i64.wrap (f*32)+32))-Int.toNat (IntKind.i64.wrap (f*32))) (List.drop (Int.toNat (IntKind.i64.wrap (f*32))) m)).length:=by rw[h1];exact(Tree.pp (text_w _ (Nat.le_of_eq hlen))).2
   intro _ _
   show x1.length=128
   rw[h1,hlen]
end Go.Proofs.YtdkiadhigcfmkaaGreat
namespace Go.Proofs.YtdkiadhigcfmkaaGreat
open Go Go.GD
set_option linter.unusedVariables false
set_option linter.unusedSimpArgs false
set_option maxRecDepth 100000
theorem u64_lt{f:Int}(hf:U f){P:Nat}(hP:P≤32)(h:decide (IntKind.u64.wrap f<IntKind.u64.wrap (P:Int))=true):0≤f∧f<P:=by
 have h:=of_decide_eq_true h
 obtain⟨h1,h2⟩:=hf
 rw[IntKind.wrap_u64,IntKind.wrap_u64,Int.emod_eq_of_lt h1 (by omega),Int.emod_eq_of_lt (by omega) (by omega)]at h
 exact⟨h1,h⟩
theorem Zd9{P:Nat}{m:List Int}(h:Q1d P m){d:Q0b}(hd:Q6d d)(e:Q0d):(Q4k d m e).w (fun r=>Q6d r.1∧Q1d P r.2.1∧out d.OpFrame m r.2.1∧(r.2.2=false→r.2.1=m)∧(∀p,Q1p d p=true→Q1p r.1 p=true)):=by
 have hcl:Q07 m=m:=rfl
 have keep: ∀b:Bool,Q6d d∧Q1d P m∧out d.OpFrame m m∧(b=false→m=m)∧(∀p,Q1p d p=true→Q1p d p=true):=fun b=>⟨hd,h,Qjz _ _,fun _=>rfl,fun _ h=>h⟩
 have blk: ∀{p:Int},Q1p d p=true→decide (d.Blocks>64)=false:=fun{p} hm=>by
   cases hb:decide (d.Blocks>64)
   · rfl
   · have:Q1p d p=false:=by simp only[Q1p,Qc1,Tree.m];rw[hb];rfl
     rw[this]at hm;cases hm
 have m2: ∀p,Q1p d p=true→Q1p {Blocks:=d.Blocks,Block:=d.Block,Frame:=d.Frame,State:=2,Cmd:=0,OpBlock:=0,OpFrame:=0,OpData:=[]} p=true:=fun p hm=>by
   simp only[Q1p,Qc1,Tree.m];rw[blk hm];rfl
 have m3: ∀p,Q1p d p=true→Q1p {Blocks:=d.Blocks,Block:=d.Block,Frame:=d.Frame,State:=3,Cmd:=0,OpBlock:=0,OpFrame:=0,OpData:=[]} p=true:=fun p hm=>by
   simp only[Q1p,Qc1,Tree.m];rw[blk hm];rfl
 unfold Q4k
 refine w_br (fun _=>w_an (Qc7 h) (w_lv fun x hx=>by rw[hcl]at hx;subst hx;exact keep _)) fun _=>w_br (fun _=>w_an (Qc7 h) (w_lv fun x hx=>by rw[hcl]at hx;subst hx;exact keep _)) fun _=>w_br (fun _=>w_an (Qc7 h) (w_lv fun x hx=>by rw[hcl]at hx;subst hx;exact keep _)) fun _=>w_an (Qc7 h) (w_lv fun x3 hx3=> ?_)
 rw[hcl]at hx3;subst hx3
 have fin: ∀{m':List Int},Q1d P m'→out d.OpFrame x3 m'→(Tree.br (e.N==1) (.lf (({Blocks:=d.Blocks,Block:=d.Block,Frame:=d.Frame,State:=2,Cmd:=0,OpBlock:=0,OpFrame:=0,OpData:=[]}:Q0b),m',true)) (.lf (({Blocks:=d.Blocks,Block:=d.Block,Frame:=d.Frame,State:=3,Cmd:=0,OpBlock:=0,OpFrame:=0,OpData:=[]}:Q0b),m',true))).w (fun r=>Q6d r.1∧Q1d P r.2.1∧out d.OpFrame x3 r.2.1∧(r.2.2=false→r.2.1=x3)∧(∀p,Q1p d p=true→Q1p r.1 p=true)):=fun hm ho=>
   w_br (fun _=>⟨⟨hd.block,hd.frame,U_0,U_0⟩,hm,ho,(fun h=>by cases h),m2⟩) (fun _=>⟨⟨hd.block,hd.frame,U_0,U_0⟩,hm,ho,(fun h=>by cases h),m3⟩)
 have nod:(Tree.br (!decide (e.Data=[])) (.lf (d,x3,false)) (Tree.br (e.N==1) (.lf (({Blocks:=d.Blocks,Block:=d.Block,Frame:=d.Frame,State:=2,Cmd:=0,OpBlock:=0,OpFrame:=0,OpData:=[]}:Q0b),x3,true)) (.lf (({Blocks:=d.Blocks,Block:=d.Block,Frame:=d.Frame,State:=3,Cmd:=0,OpBlock:=0,OpFrame:=0,OpData:=[]}:Q0b),x3,true)))).w (fun r=>Q6d r.1∧Q1d P r.2.1∧out d.OpFrame x3 r.2.1∧(r.2.2=false→r.2.1=x3)∧(∀p,Q1p d p=true→Q1p r.1 p=true)):=
   w_br (fun _=>keep _) (fun _=>fin h (Qjz _ _))
 refine w_br (fun _=>w_br (fun _=>w_lv fun x4 hx4=>w_br (fun _=>keep _) fun hb=> ?_) (fun _=>nod)) (fun _=>nod)
 have hp:=Q6o h
 have hb:x4=true:=by simpa using hb
 rw[hb]at hx4
 simp only[Q8w,Qbu,Tree.m,letv,hp]at hx4
 obtain⟨f0,f1⟩:=u64_lt hd.opFrame h.p2 hx4.symm
 have ef:IntKind.i64.wrap d.OpFrame=d.OpFrame:=by have:=h.p2;rw[IntKind.wrap_i64];omega
 refine Q0l (Z7e h _ _) fun x5 ⟨h5,o5,k5⟩=> ?_
 rw[ef]at o5
 exact w_br (fun hf=>⟨hd,h5,o5,fun _=>k5 (by simpa using hf),fun _ h=>h⟩) (fun _=>fin h5 o5)
theorem receive_w{P:Nat}{m:List Int}(h:Q1d P m){n:Q0k}(hn:Qfw n)(frame:List UInt8):(Q66 n m frame).w (fun r=>Qfw r.1∧Q1d P r.2.1∧out n.Buffer m r.2.1∧(r.2.2=false→r.2.1=m)∧(∀p,Q7c n p=true→Q7c r.1 p=true)):=by
 have hcl:Q07 m=m:=rfl
 have keep:Qfw n∧Q1d P m∧out n.Buffer m m∧(false=false→m=m)∧(∀p,Q7c n p=true→Q7c n p=true):=⟨hn,h,Qjz _ _,fun _=>rfl,fun _ h=>h⟩
 unfold Q66
 refine w_br (fun _=>w_an (Qc7 h) (w_lv fun x hx=>by rw[hcl]at hx;subst hx;exact keep)) fun hpo=>w_br (fun _=>w_an (Qc7 h) (w_lv fun x hx=>by rw[hcl]at hx;subst hx;exact keep)) fun l1=>w_br (fun _=>w_an (Qc7 h) (w_lv fun x hx=>by rw[hcl]at hx;subst hx;exact keep)) fun l2=>w_lv fun x3 hx3=>w_br (fun _=>w_an (Qc7 h) (w_lv fun x hx=>by rw[hcl]at hx;subst hx;exact keep)) fun hb=> ?_
 have l1:=of_decide_eq_false l1
 have l2:=of_decide_eq_false l2
 have hp:=Q6o h
 have hb:x3=true:=by simpa using hb
 rw[hb]at hx3
 simp only[Q9f,Qep,Tree.m,letv,hp]at hx3
 obtain⟨f0,f1⟩:=u64_lt hn.buffer h.p2 hx3.symm
 have ef:IntKind.i64.wrap n.Buffer=n.Buffer:=by have:=h.p2;rw[IntKind.wrap_i64];omega
 refine Q0l (mpage_w h _) fun x5 h5=> ?_
 rw[ef]at h5
 have h5:=h5 f0 f1
 have hmax:(maxLen:Nat)=9223372036854775807:=rfl
 refine w_cn (decide_eq_true (by omega)) (w_cn (decide_eq_true (by simp only[List.length_take,List.length_drop,hmax];omega)) (Q0l (Z7e h _ _) fun x6 ⟨h6,o6,_⟩=> ?_))
 rw[ef]at o6
 have hg:IntKind.u32.wrap (frame.length:Int)=frame.length:=by rw[IntKind.wrap_u32];omega
 refine⟨⟨hn.frame,hn.len,U_0,Q17 _⟩,h6,o6,(fun h=>by cases h),fun p _=> ?_⟩
 simp only[Q7c,Qmz,Tree.m]
 rw[hg,decide_eq_true (show(frame.length:Int)≥1 by omega),decide_eq_true (show(frame.length:Int)≤128 by omega)]
 rfl
theorem ctype_w(c:Q09)(b:Int):(Q6y c b).w (fun r=>Q44 c=true→Q44 r.1=true):=by
 have hmax:(maxLen:Nat)=9223372036854775807:=rfl
 unfold Q6y
 refine w_br (fun _=>fun h=>h) (fun hb=> ?_)
 have hb:=of_decide_eq_false hb
 refine w_cn (decide_eq_true (by rw[hmax];omega)) ?_
 intro _
 show decide (((c.Keys++[_]).length:Int)≤16)=true
 rw[List.length_append,List.length_singleton]
 exact decide_eq_true (by omega)
theorem fire_may(t:Q0h)(h:Q50 t=true):Q50 (Qg0 t).1=true:=by
 simp only[Qg0,Qik,Tree.m]
 cases ha:t.Armed
 · exact h
 · rfl
end Go.Proofs.YtdkiadhigcfmkaaGreat
namespace Go.Proofs.YtdkiadhigcfmkaaGreat
open Go Go.GD
set_option linter.unusedVariables false
set_option linter.unusedSimpArgs false
set_option maxRecDepth 100000
theorem dev_eq(m:Q00):Q0v m=(Q44 m.Console&&(Q50 m.Timer&&(Q1p m.Disk (Q0s m.Mem)&&(Q7c m.Nic (Q0s m.Mem)&&Q32 m.Balloon (Q0s m.Mem))))):=by
 simp only[Q0v,Q1a,Tree.m,letv]
 cases Q44 m.Console<;>cases Q50 m.Timer<;>cases Q1p m.Disk (Q0s m.Mem)<;>cases Q7c m.Nic (Q0s m.Mem)<;>rfl
theorem bal_eq{b c:Q04}(h:c.Given=b.Given)(p:Int):Q32 c p=Q32 b p:=by
 simp only[Q32,Q2u,Tree.m,h]
theorem cnd{a x y:Bool}(h:x=true→y=true):(bif a then false else x)=true→(bif a then false else y)=true:=by cases a<;>simp_all
def chain(b1 b2 b3 b4 b5 b6 b7 w h dev:Bool):Bool:=bif b1 then false else bif b2 then false else bif b3 then false else bif b4 then false else bif b5 then false else bif b6 then false else bif b7 then false else bif w then(bif h then false else dev) else dev
theorem Zec{b1 b2 b3 b4 b5 b6 b7 w h d d':Bool}(hd:d=true→d'=true):chain b1 b2 b3 b4 b5 b6 b7 w h d=true→chain b1 b2 b3 b4 b5 b6 b7 w h d'=true:=by
 refine cnd (cnd (cnd (cnd (cnd (cnd (cnd ?_))))))
 cases w
 · exact hd
 · cases h
   · exact hd
   · exact fun h=>h
def mayC(p:Int)(c:Q03)(ct:Int)(w h dev:Bool):Bool:=chain (p==0) (c.X.a0 !=0) (decide (c.Csr.a0>31)) (decide (c.Csr.a7>31)) (decide (c.Csr.a6>255)) (Int.tmod c.Csr.a1 4 !=0) (decide (ct>1152921504606846976)) w h dev
theorem mayC_mono{p:Int}{c:Q03}{ct:Int}{w h d d':Bool}(hd:d=true→d'=true)(g:mayC p c ct w h d=true):mayC p c ct w h d'=true:=Zec hd g
theorem may_eq(m:Q00):Q0y m=mayC (Q0s m.Mem) m.Cpu m.Count m.Waiting m.Halted (Q0v m):=rfl
theorem Qo5{m n:Q00}(hp:Q0s n.Mem=Q0s m.Mem)(hcpu:n.Cpu=m.Cpu)(hct:n.Count=m.Count)(hw:n.Waiting=m.Waiting)(hh:n.Halted=m.Halted)
   (hc:Q44 m.Console=true→Q44 n.Console=true) (ht:Q50 m.Timer=true→Q50 n.Timer=true) (hd: ∀p,Q1p m.Disk p=true→Q1p n.Disk p=true) (hn: ∀p,Q7c m.Nic p=true→Q7c n.Nic p=true) (hb:n.Balloon.Given=m.Balloon.Given) (h:Q0y m=true):Q0y n=true:=by
 have dev:Q0v m=true→Q0v n=true:=fun h=>by
   rw[dev_eq]at h⊢
   simp only[Bool.and_eq_true]at h⊢
   rw[hp,bal_eq hb]
   exact⟨hc h.1,ht h.2.1,hd _ h.2.2.1,hn _ h.2.2.2.1,h.2.2.2.2⟩
 rw[may_eq]at h⊢
 rw[hp,hcpu,hct,hw,hh]
 exact mayC_mono dev h
end Go.Proofs.YtdkiadhigcfmkaaGreat
namespace Go.Proofs.YtdkiadhigcfmkaaGreat
open Go Go.GD
set_option linter.unusedVariables false
set_option linter.unusedSimpArgs false
set_option maxRecDepth 100000
section
variable {P:Nat} {m:List Int} (h:Q1d P m)
include h
end
end Go.Proofs.YtdkiadhigcfmkaaGreat
namespace Go.Proofs.YtdkiadhigcfmkaaGreat
open Go Go.GD
set_option linter.unusedVariables false
set_option linter.unusedSimpArgs false
set_option maxRecDepth 100000
theorem Z6n{a:Int}(k:Nat)(hk:k≤32):ishr .u32 a k=a/2^k:=by
 unfold ishr
 have e:min (k:Int).toNat IntKind.u32.bits=k:=by show min (k:Int).toNat 32=k;omega
 have hp:(0:Int)<2^k:=Int.pow_pos (by decide)
 rw[e,Int.fdiv_eq_ediv_of_nonneg _ (Int.le_of_lt hp)]
def Zck(x:Int)(n:Nat):Prop:=x<2^n∧(n=0∨(2:Int)^(n-1)≤x)
theorem Z1m{x q:Int}{n k:Nat}(hq:q=x/2^k)(h0:0<q)(h:Zck q n):Zck x (n+k):=by
 have hp:(0:Int)<2^k:=Int.pow_pos (by decide)
 obtain⟨h1,h2⟩:=h
 have hn:n≠0:=fun e=>by subst e;simp at h1;omega
 refine⟨?_, .inr ?_⟩
 · rw[Int.pow_add]
   have:x<(x/2^k+1)*2^k:=Int.lt_ediv_add_one_mul_self x hp
   have h3:(x/2^k+1)*2^k≤2^n*2^k:=Int.mul_le_mul_of_nonneg_right (by omega) (Int.le_of_lt hp)
   omega
 · have h2:=h2.resolve_left hn
   have e:n+k-1=(n-1)+k:=by omega
   rw[e,Int.pow_add]
   have h3:(2:Int)^(n-1)*2^k≤q*2^k:=Int.mul_le_mul_of_nonneg_right h2 (Int.le_of_lt hp)
   have h4:q*2^k≤x:=by rw[hq];exact Int.ediv_mul_le x (Int.ne_of_gt hp)
   omega
theorem isLen_le{x:Int}{n p:Nat}(h:Zck x n)(hx:x<2^p):n≤p:=by
  obtain⟨h1,h2⟩:=h
  rcases h2 with h2|h2
  · omega
  · rcases Nat.lt_or_ge p n with hlt|hge
    · have:(2:Int)^p≤2^(n-1):=by
        have:=Nat.pow_le_pow_right (show 0<2 by omega) (show p≤n-1 by omega)
        exact_mod_cast this
      omega
    · exact hge
theorem Z8q{x:Int}{n p:Nat}(h:Zck x n)(hn:n≤p):x<2^p:=by
 have:(2:Int)^n≤2^p:=by
   have:=Nat.pow_le_pow_right (show 0<2 by omega) hn
   exact_mod_cast this
 exact Int.lt_of_lt_of_le h.1 this
def lenChk(i:Nat):Bool:=match(Q10 (i:Int)) with
 | .ofNat n=>decide ((i:Int)<2^n)&&(Nat.beq n 0||decide ((2:Int)^(n-1)≤i))&&decide (n≤8)
 |_=>false
theorem Qmx{q:Int}(h0:0≤q)(h1:q<256): ∃n:Nat,Q10 q=n∧Zck q n∧n≤8:=by
 have all:List.all (List.range 256) lenChk=true:=by kernel_rfl
 have:=List.all_eq_true.1 all q.toNat (List.mem_range.2 (by omega))
 have hq:((q.toNat:Nat):Int)=q:=by omega
 unfold lenChk at this
 rw[hq]at this
 split at this
 · rename_i n hn
   simp only[Bool.and_eq_true,Bool.or_eq_true,decide_eq_true_eq]at this
   refine⟨n,hn,⟨this.1.1,?_⟩,this.2⟩
   rcases this.1.2 with h|h
   · exact .inl (Nat.eq_of_beq_eq_true h)
   · exact .inr h
 · cases this
theorem len_24{x:Int}(h:U x)(hx:16777216≤x):Q10 x=24+Q10 (x/16777216):=by
 obtain⟨h0,h1⟩:=h
 have s16:ishr .u32 x 16=x/65536:=Z6n 16 (by omega)
 have s24:ishr .u32 (x/65536) 8=x/16777216:=by rw[show((8:Int))=((8:Nat):Int) from rfl,Z6n 8 (by omega)];omega
 have d1:decide (x≥65536)=true:=decide_eq_true (by omega)
 have d2:decide (x/65536≥256)=true:=decide_eq_true (by omega)
 have d3:decide (x/16777216≥65536)=false:=decide_eq_false (by omega)
 have d4:decide (x/16777216≥256)=false:=decide_eq_false (by omega)
 have u:IntKind.u8.wrap (x/16777216)=x/16777216:=by rw[IntKind.wrap_u8];omega
 simp only[Q10,Q1m,Tree.m,s16,s24,d1,d2,d3,d4,u,cond_true,cond_false]
 generalize(List.getD _ (Int.toNat (x/16777216)) (0:UInt8))=b
 have hb:=UInt8.toNat_lt b
 rw[IntKind.wrap_i64,IntKind.wrap_i64,IntKind.wrap_i64,IntKind.wrap_i64]
 omega
theorem len_16{x:Int}(h0:65536≤x)(h1:x<16777216):Q10 x=16+Q10 (x/65536):=by
 have s16:ishr .u32 x 16=x/65536:=Z6n 16 (by omega)
 have d1:decide (x≥65536)=true:=decide_eq_true (by omega)
 have d2:decide (x/65536≥256)=false:=decide_eq_false (by omega)
 have d3:decide (x/65536≥65536)=false:=decide_eq_false (by omega)
 have u:IntKind.u8.wrap (x/65536)=x/65536:=by rw[IntKind.wrap_u8];omega
 simp only[Q10,Q1m,Tree.m,s16,d1,d2,d3,u,cond_true,cond_false]
 generalize(List.getD _ (Int.toNat (x/65536)) (0:UInt8))=b
 have hb:=UInt8.toNat_lt b
 rw[IntKind.wrap_i64,IntKind.wrap_i64,IntKind.wrap_i64]
 omega
theorem len_8{x:Int}(h0:256≤x)(h1:x<65536):Q10 x=8+Q10 (x/256):=by
 have s8:ishr .u32 x 8=x/256:=Z6n 8 (by omega)
 have d1:decide (x≥65536)=false:=decide_eq_false (by omega)
 have d2:decide (x≥256)=true:=decide_eq_true (by omega)
 have d3:decide (x/256≥65536)=false:=decide_eq_false (by omega)
 have d4:decide (x/256≥256)=false:=decide_eq_false (by omega)
 have u:IntKind.u8.wrap (x/256)=x/256:=by rw[IntKind.wrap_u8];omega
 simp only[Q10,Q1m,Tree.m,s8,d1,d2,d3,d4,u,cond_true,cond_false]
 generalize(List.getD _ (Int.toNat (x/256)) (0:UInt8))=b
 have hb:=UInt8.toNat_lt b
 rw[IntKind.wrap_i64,IntKind.wrap_i64,IntKind.wrap_i64,IntKind.wrap_i64]
 omega
theorem Zed{x:Int}(h:U x): ∃n:Nat,Q10 x=n∧Zck x n:=by
  obtain⟨h0,h1⟩:=h
  rcases Int.lt_or_le x 256 with a|a
  · obtain⟨n,e,l,_⟩:=Qmx h0 a
    exact⟨n,e,l⟩
  · rcases Int.lt_or_le x 65536 with b|b
    · obtain⟨n,e,l,_⟩:=Qmx (q:=x/256) (by omega) (by omega)
      exact⟨n+8,by rw[len_8 a b,e];omega,Z1m (k:=8) rfl (by omega) l⟩
    · rcases Int.lt_or_le x 16777216 with c|c
      · obtain⟨n,e,l,_⟩:=Qmx (q:=x/65536) (by omega) (by omega)
        exact⟨n+16,by rw[len_16 b c,e];omega,Z1m (k:=16) rfl (by omega) l⟩
      · obtain⟨n,e,l,_⟩:=Qmx (q:=x/16777216) (by omega) (by omega)
        exact⟨n+24,by rw[len_24 ⟨h0,h1⟩ c,e];omega,Z1m (k:=24) rfl (by omega) l⟩
theorem bal_iff{b:Q04}(h:U b.Given){P:Nat}:Q32 b P=true↔b.Given<2^P:=by
 obtain⟨n,e,l⟩:=Zed h
 have hp:(if(0:Int)>(P:Int) then(0:Int) else P)=P:=by rw[if_neg (by omega)]
 simp only[Q32,Q2u,Tree.m,letv,e,hp,decide_eq_true_eq]
 constructor
 · intro h;exact Z8q l (by omega)
 · intro h;have:=isLen_le l h;omega
end Go.Proofs.YtdkiadhigcfmkaaGreat
namespace Go.Proofs.YtdkiadhigcfmkaaGreat
open Go Go.GD
set_option linter.unusedVariables false
set_option linter.unusedSimpArgs false
set_option maxRecDepth 100000
end Go.Proofs.YtdkiadhigcfmkaaGreat
namespace Go.Proofs.YtdkiadhigcfmkaaGreat
open Go Go.GD
set_option linter.unusedVariables false
set_option linter.unusedSimpArgs false
set_option maxRecDepth 100000
structure kept(P:Nat)(m n:Q00):Prop where
 ok:okS P n
 dev:Q0v m=true→Q0v n=true
 cpu:n.Cpu=m.Cpu
 cnt:n.Count=m.Count
 wait:n.Waiting=m.Waiting
 halt:n.Halted=m.Halted
end Go.Proofs.YtdkiadhigcfmkaaGreat
namespace Go.Proofs.YtdkiadhigcfmkaaGreat
open Go Go.GD
set_option linter.unusedVariables false
set_option linter.unusedSimpArgs false
set_option maxRecDepth 100000
structure Z0t(c:Q03):Prop where
 x0:c.X.a0=0
 st:c.Csr.a0≤31
 en:c.Csr.a7≤31
 rt:c.Csr.a6≤255
 ve:Int.tmod c.Csr.a1 4=0
theorem Z0t.pc{c:Q03}(h:Z0t c)(p:Int):Z0t {X:=c.X,Pc:=p,Csr:=c.Csr}:=⟨h.x0,h.st,h.en,h.rt,h.ve⟩
section
variable {c:Q03} (h:Q3j c) (m:Z0t c) {i:Q0i} (hi:Ql7 i)
include h m hi
end
end Go.Proofs.YtdkiadhigcfmkaaGreat
namespace Go.Proofs.YtdkiadhigcfmkaaGreat
open Go Go.GD
set_option linter.unusedVariables false
set_option linter.unusedSimpArgs false
set_option maxRecDepth 100000
theorem cnd2{a x:Bool}:(bif a then false else x)=true↔a=false∧x=true:=by cases a<;>simp
theorem Z87(m:Q00):Q0y m=true↔Q0s m.Mem≠0∧Z0t m.Cpu∧m.Count≤1152921504606846976∧ ¬(m.Waiting=true∧m.Halted=true)∧Q0v m=true:=by
  rw[may_eq]
  unfold mayC chain
  rw[cnd2,cnd2,cnd2,cnd2,cnd2,cnd2,cnd2]
  simp only[decide_eq_false_iff_not,Int.not_lt,beq_eq_false_iff_ne,bne_eq_false_iff_eq,gt_iff_lt]
  constructor
  · rintro⟨a1,a2,a3,a4,a5,a6,a7,a8⟩
    refine⟨a1,⟨a2,a3,a4,a5,a6⟩,a7,?_,?_⟩
    · rintro⟨w,h⟩;rw[w,h]at a8;cases a8
    · revert a8;cases m.Waiting
      · exact fun h=>h
      · cases m.Halted
        · exact fun h=>h
        · intro h;cases h
  · rintro⟨a1,⟨a2,a3,a4,a5,a6⟩,a7,a8,a9⟩
    refine⟨a1,a2,a3,a4,a5,a6,a7,?_⟩
    rw[a9]
    cases hw:m.Waiting
    · rfl
    · cases hh:m.Halted
      · rfl
      · exact absurd ⟨hw,hh⟩ a8
end Go.Proofs.YtdkiadhigcfmkaaGreat
namespace Go.Proofs.YtdkiadhigcfmkaaGreat
open Go Go.GD
set_option linter.unusedVariables false
set_option linter.unusedSimpArgs false
set_option maxRecDepth 100000
structure Good(P:Nat)(m r:Q00):Prop where
 ok:okS P r
 cnt:0≤r.Count
 may:Q0y m=true→Q0y r=true
 or:r=m∨r.Count=m.Count+1
end Go.Proofs.YtdkiadhigcfmkaaGreat
namespace Go.Proofs.YtdkiadhigcfmkaaGreat
open Go Go.GD
set_option linter.unusedVariables false
set_option linter.unusedSimpArgs false
set_option maxRecDepth 100000
end Go.Proofs.YtdkiadhigcfmkaaGreat
namespace Go.Proofs.YtdkiadhigcfmkaaGreat
open Go Go.GD
set_option linter.unusedVariables false
set_option linter.unusedSimpArgs false
set_option maxRecDepth 100000
theorem apply_w0{P:Nat}{m:Q00}(h:okM P m){e:Q0d}(he:U e.N):(Q29 m e).w (fun r=>(Q0y m=true→Q0y r.1=true)∧r.1.Count=m.Count∧U r.1.Balloon.Given):=by
 obtain⟨h1,h2,h3,h4,h5,h7⟩:=h
 have hcl:Q07 m.Mem=m.Mem:=rfl
 have pg: ∀{m':List Int},Q1d P m'→Q0s m'=Q0s m.Mem:=fun h=>by rw[Q6o h,Q6o h2]
 have keep:(Q0y m=true→Q0y m=true)∧m.Count=m.Count∧U m.Balloon.Given:=⟨fun h=>h,rfl,h5.2⟩
 unfold Q29
 refine w_an (Qc7 h2) (w_lv fun l hl=> ?_)
 rw[hcl]at hl;subst hl
 refine Q0l (mayP_w (m:=⟨_,_,_,_,_,_,m.Balloon,_,_,_⟩) h5.2) fun x1 _=>w_br (fun _=>keep) fun _=>w_br (fun _=>keep) fun _=> ?_
 refine w_br (fun _=>w_br (fun _=>w_br (fun _=>w_lv fun x hx=> ?_) (fun _=>keep)) (fun _=>keep)) fun _=>w_br (fun _=>w_br (fun _=>w_br (fun _=>Q0l (ctype_w _ _) fun x hx=> ?_) (fun _=>keep)) (fun _=>keep)) fun _=>w_br (fun hk=>Q0l (Zd9 h2 h3 e) fun x hx=> ?_) fun _=>w_br (fun hk=>w_br (fun _=>Q0l (receive_w h2 h4 _) fun x hx=> ?_) (fun _=>keep)) fun _=>w_br (fun _=>w_br (fun _=> ?_) (fun _=>keep)) (fun _=>keep)
 · exact⟨Qo5 rfl rfl rfl rfl rfl (fun h=>h) (fun h=>by rw[hx];exact fire_may _ h) (fun _ h=>h) (fun _ h=>h) rfl,rfl,h5.2⟩
 · exact⟨Qo5 rfl rfl rfl rfl rfl hx (fun h=>h) (fun _ h=>h) (fun _ h=>h) rfl,rfl,h5.2⟩
 · obtain⟨a1,a2,a3,a4,a5⟩:=hx
   exact⟨Qo5 (pg a2) rfl rfl rfl rfl (fun h=>h) (fun h=>h) a5 (fun _ h=>h) rfl,rfl,h5.2⟩
 · obtain⟨a1,a2,a3,a4,a5⟩:=hx
   exact⟨Qo5 (pg a2) rfl rfl rfl rfl (fun h=>h) (fun h=>h) (fun _ h=>h) a5 rfl,rfl,h5.2⟩
 · exact⟨Qo5 rfl rfl rfl rfl rfl (fun h=>h) (fun h=>h) (fun _ h=>h) (fun _ h=>h) rfl,rfl,h5.2⟩
end Go.Proofs.YtdkiadhigcfmkaaGreat
namespace Go.Proofs.YtdkiadhigcfmkaaGreat
open Go Go.GD
set_option maxRecDepth 100000
noncomputable section
def boot:List Int:=(Q4 (List.append (List.append (List.append (List.append Z2h Z07) (List.append Qzx Qze)) (List.append (List.append Z0i Qzu) (List.append Z11 Qzl))) (List.append (List.append (List.append Qzj Z0y) (List.append Qpn Qqm)) (List.append (List.append Qpm Qq3) (List.append Qqa Qpc))))).1
def Qf1:List Int:=boot++List.replicate (160-boot.length) 0
theorem run87(t0 t1 t2 t3 t4 t5 t6 t7 t8 t9 t10 t11 t12 t13 t14 t15 t16 t17 t18 t19 t20 t21 t22 t23 t24 t25 t26 t27 t28 t29 t30 t31 t32 t33 t34 t35 t36 t37 t38 t39 t40 t41 t42 t43 t44 t45 t46 t47 t48 t49 t50 t51 t52 t53 t54 t55 t56 t57 t58 t59 t60 t61 t62 t63 t64 t65 t66 t67 t68 t69 t70 t71 t72 t73 t74 t75 t76 t77 t78 t79 t80 t81 t82 t83 t84 t85 t86 t87 t88 t89 t90 t91 t92 t93 t94 t95:Int):(Q97 (Q3c 8 4 (Qf1++[t0,t1,t2,t3,t4,t5,t6,t7,t8,t9,t10,t11,t12,t13,t14,t15,t16,t17,t18,t19,t20,t21,t22,t23,t24,t25,t26,t27,t28,t29,t30,t31,t32,t33,t34,t35,t36,t37,t38,t39,t40,t41,t42,t43,t44,t45,t46,t47,t48,t49,t50,t51,t52,t53,t54,t55,t56,t57,t58,t59,t60,t61,t62,t63,t64,t65,t66,t67,t68,t69,t70,t71,t72,t73,t74,t75,t76,t77,t78,t79,t80,t81,t82,t83,t84,t85,t86,t87,t88,t89,t90,t91,t92,t93,t94,t95])).1 [] 87).2.2.2=0:=by kernel_rfl
end
end Go.Proofs.YtdkiadhigcfmkaaGreat
namespace Go.Proofs.YtdkiadhigcfmkaaGreat
open Go Go.GD
attribute [local irreducible] Q4
set_option linter.unusedVariables false
set_option linter.unusedSimpArgs false
set_option maxRecDepth 100000
theorem new_mem(i j:List Int)(hi:i.length≤256)(hj:j.length≤256)(e:i++List.replicate (256-i.length) 0=j++List.replicate (256-j.length) 0):Q3c 8 4 i=Q3c 8 4 j:=by
 have w:IntKind.i64.wrap (8*32)=256:=by decide
 have m:Qjs 8=List.replicate 256 0:=by kernel_rfl
 have d: ∀k:List Int,k.length≤256→decide ((k.length:Int)>256)=false:=fun k h=>decide_eq_false (by omega)
 have mem: ∀k:List Int,k.length≤256→List.take (min k.length (List.replicate 256 (0:Int)).length) k++List.drop (min k.length (List.replicate 256 (0:Int)).length) (List.replicate 256 0)=k++List.replicate (256-k.length) 0:=fun k h=>by
   rw[List.length_replicate,Nat.min_eq_left h,List.take_length,List.drop_replicate]
 have r:Z3r 8=List.replicate 256 0:=by kernel_rfl
 simp only[Q3c,Q61,Tree.m,w,letv,r,d i hi,d j hj]
 simp only[mem i hi,mem j hj,e]
theorem list96(t:List Int)(ht:t.length=96):t=[t.getD 0 0,t.getD 1 0,t.getD 2 0,t.getD 3 0,t.getD 4 0,t.getD 5 0,t.getD 6 0,t.getD 7 0,t.getD 8 0,t.getD 9 0,t.getD 10 0,t.getD 11 0,t.getD 12 0,t.getD 13 0,t.getD 14 0,t.getD 15 0,t.getD 16 0,t.getD 17 0,t.getD 18 0,t.getD 19 0,t.getD 20 0,t.getD 21 0,t.getD 22 0,t.getD 23 0,t.getD 24 0,t.getD 25 0,t.getD 26 0,t.getD 27 0,t.getD 28 0,t.getD 29 0,t.getD 30 0,t.getD 31 0,t.getD 32 0,t.getD 33 0,t.getD 34 0,t.getD 35 0,t.getD 36 0,t.getD 37 0,t.getD 38 0,t.getD 39 0,t.getD 40 0,t.getD 41 0,t.getD 42 0,t.getD 43 0,t.getD 44 0,t.getD 45 0,t.getD 46 0,t.getD 47 0,t.getD 48 0,t.getD 49 0,t.getD 50 0,t.getD 51 0,t.getD 52 0,t.getD 53 0,t.getD 54 0,t.getD 55 0,t.getD 56 0,t.getD 57 0,t.getD 58 0,t.getD 59 0,t.getD 60 0,t.getD 61 0,t.getD 62 0,t.getD 63 0,t.getD 64 0,t.getD 65 0,t.getD 66 0,t.getD 67 0,t.getD 68 0,t.getD 69 0,t.getD 70 0,t.getD 71 0,t.getD 72 0,t.getD 73 0,t.getD 74 0,t.getD 75 0,t.getD 76 0,t.getD 77 0,t.getD 78 0,t.getD 79 0,t.getD 80 0,t.getD 81 0,t.getD 82 0,t.getD 83 0,t.getD 84 0,t.getD 85 0,t.getD 86 0,t.getD 87 0,t.getD 88 0,t.getD 89 0,t.getD 90 0,t.getD 91 0,t.getD 92 0,t.getD 93 0,t.getD 94 0,t.getD 95 0]:=by
 apply List.ext_getElem
 · rw[ht];rfl
 · intro i h1 h2
   have e: ∀j (hj:j<96),[t.getD 0 0,t.getD 1 0,t.getD 2 0,t.getD 3 0,t.getD 4 0,t.getD 5 0,t.getD 6 0,t.getD 7 0,t.getD 8 0,t.getD 9 0,t.getD 10 0,t.getD 11 0,t.getD 12 0,t.getD 13 0,t.getD 14 0,t.getD 15 0,t.getD 16 0,t.getD 17 0,t.getD 18 0,t.getD 19 0,t.getD 20 0,t.getD 21 0,t.getD 22 0,t.getD 23 0,t.getD 24 0,t.getD 25 0,t.getD 26 0,t.getD 27 0,t.getD 28 0,t.getD 29 0,t.getD 30 0,t.getD 31 0,t.getD 32 0,t.getD 33 0,t.getD 34 0,t.getD 35 0,t.getD 36 0,t.getD 37 0,t.getD 38 0,t.getD 39 0,t.getD 40 0,t.getD 41 0,t.getD 42 0,t.getD 43 0,t.getD 44 0,t.getD 45 0,t.getD 46 0,t.getD 47 0,t.getD 48 0,t.getD 49 0,t.getD 50 0,t.getD 51 0,t.getD 52 0,t.getD 53 0,t.getD 54 0,t.getD 55 0,t.getD 56 0,t.getD 57 0,t.getD 58 0,t.getD 59 0,t.getD 60 0,t.getD 61 0,t.getD 62 0,t.getD 63 0,t.getD 64 0,t.getD 65 0,t.getD 66 0,t.getD 67 0,t.getD 68 0,t.getD 69 0,t.getD 70 0,t.getD 71 0,t.getD 72 0,t.getD 73 0,t.getD 74 0,t.getD 75 0,t.getD 76 0,t.getD 77 0,t.getD 78 0,t.getD 79 0,t.getD 80 0,t.getD 81 0,t.getD 82 0,t.getD 83 0,t.getD 84 0,t.getD 85 0,t.getD 86 0,t.getD 87 0,t.getD 88 0,t.getD 89 0,t.getD 90 0,t.getD 91 0,t.getD 92 0,t.getD 93 0,t.getD 94 0,t.getD 95 0][j]'hj=t.getD j 0:=by
     intro j hj
     have:[t.getD 0 0,t.getD 1 0,t.getD 2 0,t.getD 3 0,t.getD 4 0,t.getD 5 0,t.getD 6 0,t.getD 7 0,t.getD 8 0,t.getD 9 0,t.getD 10 0,t.getD 11 0,t.getD 12 0,t.getD 13 0,t.getD 14 0,t.getD 15 0,t.getD 16 0,t.getD 17 0,t.getD 18 0,t.getD 19 0,t.getD 20 0,t.getD 21 0,t.getD 22 0,t.getD 23 0,t.getD 24 0,t.getD 25 0,t.getD 26 0,t.getD 27 0,t.getD 28 0,t.getD 29 0,t.getD 30 0,t.getD 31 0,t.getD 32 0,t.getD 33 0,t.getD 34 0,t.getD 35 0,t.getD 36 0,t.getD 37 0,t.getD 38 0,t.getD 39 0,t.getD 40 0,t.getD 41 0,t.getD 42 0,t.getD 43 0,t.getD 44 0,t.getD 45 0,t.getD 46 0,t.getD 47 0,t.getD 48 0,t.getD 49 0,t.getD 50 0,t.getD 51 0,t.getD 52 0,t.getD 53 0,t.getD 54 0,t.getD 55 0,t.getD 56 0,t.getD 57 0,t.getD 58 0,t.getD 59 0,t.getD 60 0,t.getD 61 0,t.getD 62 0,t.getD 63 0,t.getD 64 0,t.getD 65 0,t.getD 66 0,t.getD 67 0,t.getD 68 0,t.getD 69 0,t.getD 70 0,t.getD 71 0,t.getD 72 0,t.getD 73 0,t.getD 74 0,t.getD 75 0,t.getD 76 0,t.getD 77 0,t.getD 78 0,t.getD 79 0,t.getD 80 0,t.getD 81 0,t.getD 82 0,t.getD 83 0,t.getD 84 0,t.getD 85 0,t.getD 86 0,t.getD 87 0,t.getD 88 0,t.getD 89 0,t.getD 90 0,t.getD 91 0,t.getD 92 0,t.getD 93 0,t.getD 94 0,t.getD 95 0]=(List.range 96).map (fun k=>t.getD k 0):=rfl
     simp only[this,List.getElem_map,List.getElem_range]
   rw[e i (by omega),List.getD_eq_getElem?_getD,List.getElem?_eq_getElem h1]
   rfl
theorem run_ok(t:List Int)(ht:t.length=96):(Q97 (Q3c 8 4 (Qf1++t)).1 [] 87).2.2.2=0:=by
 rw[list96 t ht]
 exact run87 _ _ _ _ _ _ _ _ _ _ _ _ _ _ _ _ _ _ _ _ _ _ _ _ _ _ _ _ _ _ _ _ _ _ _ _ _ _ _ _ _ _ _ _ _ _ _ _ _ _ _ _ _ _ _ _ _ _ _ _ _ _ _ _ _ _ _ _ _ _ _ _ _ _ _ _ _ _ _ _ _ _ _ _ _ _ _ _ _ _ _ _ _ _ _ _
theorem pad_len:Qf1.length=160:=by
 have h:boot.length≤160:=asm_ok.1
 unfold Qf1
 rw[List.length_append,List.length_replicate];omega
theorem runN8_w{P:Nat}{m:Q00}(h:okM P m):(Qaj m [] 87).w (fun x=>x.2.2.2=0→okM P x.1):=by
 have z: ∀{k:Int} {p:Prop},k≠0→k=0→p:=fun a b=>absurd b a
 unfold Qaj
 refine w_lv fun x0 _=>w_br (fun _=>z (by decide)) fun _=>w_br (fun _=>z (by decide)) fun _=>w_br (fun _=>z (by decide)) fun _=>w_an (show Q5 [] by show([]:List Q1r).length≤1000000000000;decide) (w_lv fun x1 _=>w_br (fun _=>z (by decide)) fun _=>Q0l (own7_w h) fun x2 hx=> ?_)
 have hc:=h.cnt
 refine w_lp (inv:=fun v:Q00×List Q0a=>okM P v.1∧v.2.length+(87-v.1.Count).toNat≤87) (μ:=Qhs m [] 87) ⟨hx.1,by rw[hx.2];show 0+_≤87;omega⟩ (Nat.lt_succ_self _) fun v0 ⟨a1,a3⟩=> ?_
 have a2:=a1.cnt
 refine w_br (fun hb=>w_br (fun _=> ?_) (fun _=>fun _=>a1)) (fun _=>fun _=>a1)
 have hb:=of_decide_eq_true hb
 refine w_lp (inv:=fun _=>True) (μ:=Qhq m [] 87 v0) trivial (Nat.lt_succ_self _) fun v1 _=> ?_
 refine w_br (fun _=>fun _=>a1) fun _=>Q0l (idle_w _) fun x3 _=>w_br (fun _=>fun _=>a1) fun _=>Q0l (reads_w a1.cpu a1.mem) fun x4 _=>w_br (fun _=>z (by decide)) fun _=>Q0l (Zch a1 U_0) fun x5 h5=> ?_
 obtain⟨b1,b2,b3⟩:=h5
 refine w_cn (decide_eq_true (by omega)) (w_nx ?_)
 have e:x5.2.Count=v0.1.Count+1:=by rw[b3,IntKind.wrap_u64];omega
 show(_∧_)∧(_:Nat)<_
 refine⟨⟨b2,by show(v0.2++x5.1).length+(87-x5.2.Count).toNat≤87;rw[List.length_append];omega⟩,by show(87-x5.2.Count).toNat<(87-v0.1.Count).toNat;omega⟩
theorem Zcu(kind:Int)(l:List Int)(hl:l.length*8≤reachBytes)(h40:l.length≤40):(Q6j kind l).w (okM 8):=by
  unfold Q6j
  refine w_an (Q2n (by decide)) (w_lv fun x0 hx0=>w_br (fun _=>w_an asm_pre (w_lv fun x1 e1=> ?_)) (fun hk=> ?_))
  · have eb:x1.1=boot:=by rw[e1];rfl
    obtain⟨q1,q2⟩:boot.length≤160∧ ∀w∈boot,U w:=asm_ok
    refine w_lp (inv:=fun v:List Int=>v.length≤160∧v=boot++List.replicate (v.length-boot.length) 0) (μ:=Qen kind l) ⟨by rw[eb];exact q1,by rw[eb];simp⟩ (Nat.lt_succ_self _) fun v0 ⟨a1,a2⟩=> ?_
    have a3:boot.length≤v0.length:=by rw[a2,List.length_append];omega
    refine w_br (fun hb=> ?_) (fun hb=> ?_)
    · have hb:=of_decide_eq_true hb
      refine w_cn (decide_eq_true (by omega)) (w_nx ?_)
      show(_∧_)∧(_:Nat)<_
      refine⟨⟨by rw[List.length_append,List.length_singleton];omega,?_⟩,by show 160-(v0++[0]).length<160-v0.length;rw[List.length_append,List.length_singleton];omega⟩
      show v0++[0]=boot++List.replicate ((v0++[0]).length-boot.length) 0
      rw[List.length_append,List.length_singleton,show v0.length+1-boot.length=(v0.length-boot.length)+1 by omega,List.replicate_succ',←List.append_assoc,←a2]
    · have hb:=of_decide_eq_false hb
      have hv:v0=Qf1:=by
        unfold Qf1
        rw[show(160:Nat)=v0.length by omega]
        exact a2
      subst hv
      have hp:=pad_len
      have hu0: ∀w∈Qf1,U w:=fun w hw=>(List.mem_append.1 hw).elim (q2 w) (U_all _ w)
      refine Q0l (code_w l hl) fun x2 ⟨b1,b2⟩=>w_cn (decide_eq_true (by omega)) ?_
      have hu: ∀w∈Qf1++x2,U w:=fun w hw=>(List.mem_append.1 hw).elim (hu0 w) (b2 w)
      have hlen:(Qf1++x2).length≤256:=by rw[List.length_append];omega
      refine w_br (fun hb=> ?_) (fun hb=> ?_)
      · have hb:=of_decide_eq_true hb;omega
      · have nw:=Tree.pp (new_w _ hu hlen)
        refine w_an nw.1 (w_lv fun x3 h3=> ?_)
        have c1:okM 8 x3.1:=by rw[h3];exact nw.2.1
        have rn:=Tree.pp (runN8_w c1)
        refine w_br (fun _=>w_an rn.1 (w_lv fun x4 hx=> ?_)) (fun _=>c1)
        have e:x3=Q3c 8 4 (Qf1++(x2++List.replicate (96-x2.length) 0)):=by
          rw[h3]
          have hl2:(x2++List.replicate (96-x2.length) (0:Int)).length=96:=by rw[List.length_append,List.length_replicate];omega
          refine new_mem _ _ hlen (by rw[List.length_append,hl2];omega) ?_
          rw[List.length_append,List.length_append,hl2,hp,List.append_assoc,List.append_assoc,List.append_assoc,show 256-(160+96)=0 by omega,show 256-(160+x2.length)=96-x2.length by omega]
          simp
        have h0:x4.2.2.2=0:=by
          rw[hx,e]
          exact run_ok _ (by rw[List.length_append,List.length_replicate];omega)
        exact(by rw[hx];exact rn.2:x4.2.2.2=0→okM 8 x4.1) h0
  · have hk:=of_decide_eq_false hk
    refine Q0l (code_w l hl) fun x2 ⟨b1,b2⟩=>w_cn (decide_eq_true (by omega)) ?_
    refine w_br (fun hb=> ?_) (fun hb=> ?_)
    · have hb:=of_decide_eq_true hb;omega
    · have nw:=Tree.pp (new_w _ b2 (by omega))
      refine w_an nw.1 (w_lv fun x3 h3=> ?_)
      have c1:okM 8 x3.1:=by rw[h3];exact nw.2.1
      exact w_br (fun h=>absurd (eq_of_beq h) (by omega)) (fun _=>c1)
theorem Ze1(kind:Int)(l acts:List Int)(hl:l.length*8≤reachBytes)(h40:l.length≤40)(ha:acts.length≤30):(Q6x kind l acts).w (okM 8):=by
 unfold Q6x
 exact Q0l (Zcu kind l hl h40) fun x0 h=>Q0l (play_w h acts ha) fun x1 hx=>hx.m
end Go.Proofs.YtdkiadhigcfmkaaGreat
namespace Go.Proofs.YtdkiadhigcfmkaaGreat
open Go Go.GD
set_option linter.unusedVariables false
set_option linter.unusedSimpArgs false
set_option maxRecDepth 100000
structure okW(m:Q00):Prop where
 cpu:Q3j m.Cpu
 u: ∀w∈m.Mem,U w
 len:m.Mem.length≤1024
 disk:Q6d m.Disk
 nic:Qfw m.Nic
 bal:okB m.Balloon
 cnt:0≤m.Count
theorem Zaa{c:Q03}(h:Q3j c){i:Nat}{v:Int}(hv:U v){x:A8 Int}(hx:x=A8.of 0 (List.set (A8.l c.Csr) i v))(p:Int)(hp:U p):Q3j {X:=c.X,Pc:=p,Csr:=x}:=⟨h.x,hp,by rw[hx];exact Qvk h.csr hv i⟩
theorem bend_w{P:Nat}{m:Q00}(h:okM P m)(hP:1≤P)(hc:0≤m.Count)(where0 what:Int)(hd: ∀k:Int,0≤k→k≤128→Q2s what k):(Qc3 m where0 what).w okW:=by
 unfold Qc3
 refine Q0l (own7_w h) fun x0 ⟨g,hct⟩=>w_an (Q2n (by decide)) (w_lv fun x1 _=> ?_)
 have hc:0≤x0.Count:=by rw[hct];exact hc
 obtain⟨h1,h2,h3,h4,h5,_⟩:=g
 have hl:=h2.len
 have hp2:=h2.p2
 have hlen:x0.Mem.length≤1024:=by omega
 have hne:(x0.Mem.length:Int)≠0:=by omega
 have rr: ∀k:Int,0<k→k≤1000000→0≤Q1c what k∧Q1c what k<k:=fun k a b=>Qw1 a (by omega)
 have rl:=rr x0.Mem.length (by omega) (by omega)
 have C: ∀c,Q3j c→okW {Cpu:=c,Mem:=x0.Mem,Console:=x0.Console,Timer:=x0.Timer,Disk:=x0.Disk,Nic:=x0.Nic,Balloon:=x0.Balloon,Count:=x0.Count,Waiting:=x0.Waiting,Halted:=x0.Halted}:=fun c a=>⟨a,h2.u,hlen,h3,h4,h5,hc⟩
 have M: ∀l:List Int,(∀w∈l,U w)→l.length≤1024→okW {Cpu:=x0.Cpu,Mem:=l,Console:=x0.Console,Timer:=x0.Timer,Disk:=x0.Disk,Nic:=x0.Nic,Balloon:=x0.Balloon,Count:=x0.Count,Waiting:=x0.Waiting,Halted:=x0.Halted}:=fun l a b=>⟨h1,a,b,h3,h4,h5,hc⟩
 have D: ∀d,Q6d d→okW {Cpu:=x0.Cpu,Mem:=x0.Mem,Console:=x0.Console,Timer:=x0.Timer,Disk:=d,Nic:=x0.Nic,Balloon:=x0.Balloon,Count:=x0.Count,Waiting:=x0.Waiting,Halted:=x0.Halted}:=fun d a=>⟨h1,h2.u,hlen,a,h4,h5,hc⟩
 have N: ∀n,Qfw n→okW {Cpu:=x0.Cpu,Mem:=x0.Mem,Console:=x0.Console,Timer:=x0.Timer,Disk:=x0.Disk,Nic:=n,Balloon:=x0.Balloon,Count:=x0.Count,Waiting:=x0.Waiting,Halted:=x0.Halted}:=fun n a=>⟨h1,h2.u,hlen,h3,a,h5,hc⟩
 refine w_br (fun _=>C _ (h1.pcs (Q17 _))) fun _=> ?_
 refine w_br (fun _=>w_an (Q2n (by decide)) (w_lv fun x2 e2=>w_cn (by rw[e2];exact rc (rr 16 (by decide) (by decide))) (C _ ⟨okX_set h1.x (Q17 _) _,h1.pc,h1.csr⟩))) fun _=> ?_
 refine w_br (fun _=>w_an (Q2n (by decide)) (w_lv fun x3 e3=>w_cn (by rw[e3];have:=rr 8 (by decide) (by decide);simp [Nat.blt];omega) (C _ ⟨h1.x,h1.pc,Qvk h1.csr (U_shr (Q17 _) _) _⟩))) fun _=> ?_
 refine w_br (fun _=>C _ (Zaa h1 (i:=0) (Qhb _ _) rfl _ h1.pc)) fun _=> ?_
 refine w_br (fun _=>C _ (Zaa h1 (i:=7) (Qhb _ _) rfl _ h1.pc)) fun _=> ?_
 refine w_br (fun _=>w_an (Q2n hne) (w_lv fun x4 e4=>w_cn (by rw[e4];simp [Nat.blt];omega) (M _ (Qyg h2.u (Q17 _) _) (by rw[List.length_set];exact hlen)))) fun _=> ?_
 refine w_br (fun _=>w_an (Q2n hne) (w_lv fun x5 e5=>w_an (Z3z _) (w_lv fun x6 _=>w_lv fun x7 e7=>w_cn (by rw[e5];simp [Nat.blt];omega) (M _ (Qyg h2.u (by rw[e7];exact Zbo _) _) (by rw[List.length_set];exact hlen))))) fun _=> ?_
 refine w_br (fun _=>w_an (Q2n (by decide)) (w_lv fun x8 e8=>w_an (hd _ (by rw[e8];exact(rr 18 (by decide) (by decide)).1) (by rw[e8];have:=(rr 18 (by decide) (by decide)).2;omega)) (w_lv fun x9 _=>⟨h1,h2.u,hlen,h3,h4,h5,hc⟩))) fun _=> ?_
 refine w_br (fun _=>⟨h1,h2.u,hlen,h3,h4,h5,hc⟩) fun _=> ?_
 refine w_br (fun _=>D _ ⟨h3.block,h3.frame,h3.opBlock,h3.opFrame⟩) fun _=> ?_
 refine w_br (fun _=>w_br (fun _=>w_an (hd _ (by decide) (by decide)) (w_lv fun x10 _=>D _ ⟨U_0,U_0,Qhb _ _,Qhb _ _⟩)) (fun _=>D _ ⟨U_0,U_0,Qhb _ _,Qhb _ _⟩)) fun _=> ?_
 refine w_br (fun _=>D _ ⟨Qhb _ _,Qhb _ _,h3.opBlock,h3.opFrame⟩) fun _=> ?_
 refine w_br (fun _=>N _ ⟨Qhb _ _,Qhb _ _,Qhb _ _,U_0⟩) fun _=> ?_
 refine w_br (fun _=>N _ ⟨U_0,U_0,U_0,Qhb _ _⟩) fun _=> ?_
 refine w_br (fun _=>⟨h1,h2.u,hlen,h3,h4,⟨Qhb _ _,Qhb _ _⟩,hc⟩) fun _=> ?_
 refine w_br (fun _=>⟨h1,h2.u,hlen,h3,h4,h5,hc⟩) fun _=> ?_
 refine w_br (fun _=>⟨h1,h2.u,hlen,h3,h4,h5,hc⟩) fun _=> ?_
 refine w_br (fun _=>⟨h1,h2.u,hlen,h3,h4,h5,by show 0≤IntKind.u64.wrap what;rw[IntKind.wrap_u64];omega⟩) fun _=> ?_
 refine w_br (fun _=>w_an (Q2n hne) (w_lv fun x11 e11=>w_cn (by rw[e11];simp [Nat.blt];omega) (M _ (fun w hw=>h2.u w (List.mem_of_mem_drop (List.mem_of_mem_take hw))) (by rw[List.length_take,List.length_drop];omega)))) fun _=> ?_
 refine w_br (fun _=>⟨h1,h2.u,hlen,h3,h4,h5,by show 0≤IntKind.u64.wrap _;rw[IntKind.wrap_u64];omega⟩) fun _=> ?_
 refine w_br (fun _=>C _ (Zaa h1 (i:=6) (Qhb _ _) rfl _ h1.pc)) fun _=> ?_
 exact w_br (fun _=>C _ (h1.pcs (Q17 _))) (fun _=>⟨h1,h2.u,hlen,h3,h4,h5,hc⟩)
end Go.Proofs.YtdkiadhigcfmkaaGreat
namespace Go.Proofs.YtdkiadhigcfmkaaGreat
open Go Go.GD
set_option linter.unusedVariables false
set_option linter.unusedSimpArgs false
set_option maxRecDepth 100000
theorem Z2v{a:Int}(h:U a):(BitVec.ofInt 32 a).toNat=a.toNat:=by
 obtain⟨h1,h2⟩:=h
 rw[BitVec.toNat_ofInt];omega
theorem or_nat{a b:Int}(ha:U a)(hb:U b):ior .u32 a b=((a.toNat|||b.toNat:Nat):Int):=by
 have l:=(BitVec.ofInt 32 a|||BitVec.ofInt 32 b).isLt
 have e:(BitVec.ofInt 32 a|||BitVec.ofInt 32 b).toNat=a.toNat|||b.toNat:=by rw[BitVec.toNat_or,Z2v ha,Z2v hb]
 show IntKind.wrap .u32 ((BitVec.ofInt 32 a|||BitVec.ofInt 32 b).toNat:Int)=_
 rw[IntKind.wrap_u32,←e];omega
theorem w64{x:Int}(h0: -9223372036854775808≤x)(h1:x<9223372036854775808):IntKind.wrap .i64 x=x:=by rw[IntKind.wrap_i64];omega
end Go.Proofs.YtdkiadhigcfmkaaGreat
namespace Go.Proofs.YtdkiadhigcfmkaaGreat
open Go Go.GD
set_option linter.unusedVariables false
set_option linter.unusedSimpArgs false
set_option maxRecDepth 100000
theorem put_nat(x v:BitVec 32)(s:Nat)(hs:s≤24):((x&&&~~~(255#32<<<s))|||((v&&&255#32)<<<s)).toNat=2^(s+8)*(x.toNat/2^(s+8))+(2^s*(v.toNat%256)+x.toNat%2^s):=by
  have hx:=x.isLt
  have h1:x.toNat%2^s<2^s:=Nat.mod_lt _ (Nat.two_pow_pos s)
  have h2:2^s*(v.toNat%256)+x.toNat%2^s<2^(s+8):=by
    have:v.toNat%256<256:=Nat.mod_lt _ (by decide)
    have h3:2^s*(v.toNat%256)≤2^s*255:=Nat.mul_le_mul_left _ (by omega)
    have:2^(s+8)=2^s*256:=by rw[Nat.pow_add]
    omega
  rw[Nat.two_pow_add_eq_or_of_lt h2,Nat.two_pow_add_eq_or_of_lt h1]
  apply Nat.eq_of_testBit_eq
  intro i
  rw[BitVec.testBit_toNat]
  simp only[BitVec.getLsbD_or,BitVec.getLsbD_and,BitVec.getLsbD_not,BitVec.getLsbD_shiftLeft,Nat.testBit_or,Nat.testBit_two_pow_mul,Nat.testBit_mod_two_pow,Nat.testBit_div_two_pow,BitVec.getLsbD_ofNat]
  have e255: ∀j,Nat.testBit 255 j=decide (j<8):=fun j=>by
    rw[show 255=2^8-1 from rfl,Nat.testBit_two_pow_sub_one]
  have e256: ∀n j,Nat.testBit (n%256) j=(decide (j<8)&&Nat.testBit n j):=fun n j=>by
    rw[show 256=2^8 from rfl,Nat.testBit_mod_two_pow]
  rw[e255,e256]
  by_cases hi:i<32
  · by_cases a1:i<s
    · have a2: ¬(s≤i):=by omega
      have a3: ¬(s+8≤i):=by omega
      simp [hi,a1,a2,a3,BitVec.getLsbD]
    · by_cases a4:s+8≤i
      · have a2: ¬(i-s<8):=by omega
        have a5:i-(s+8)+(s+8)=i:=by omega
        have a6:s≤i:=by omega
        simp [hi,a1,a2,a4,a5,a6,BitVec.getLsbD]
      · have a2:(i-s<8):=by omega
        have a6:s≤i:=by omega
        have a7:i-s<32:=by omega
        simp [hi,a1,a2,a4,a6,a7,BitVec.getLsbD]
  · have a0:x.toNat.testBit i=false:=Nat.testBit_lt_two_pow (Nat.lt_of_lt_of_le hx (Nat.pow_le_pow_right (by decide) (by omega)))
    have a1: ¬(i<s):=by omega
    have a2: ¬(i-s<8):=by omega
    have a4:s+8≤i:=by omega
    have a5:i-(s+8)+(s+8)=i:=by omega
    simp [hi,a0,a1,a2,a4,a5]
theorem Qz3(b:BitVec 32):BitVec.ofInt 32 (IntKind.wrap .u32 (b.toNat:Int))=b:=by
 have:=b.isLt
 rw[IntKind.wrap_u32]
 apply BitVec.eq_of_toNat_eq
 rw[BitVec.toNat_ofInt];omega
theorem Zdt(x:Int):BitVec.ofInt 32 (IntKind.wrap .u32 x)=BitVec.ofInt 32 x:=by
 apply BitVec.eq_of_toNat_eq
 rw[BitVec.toNat_ofInt,BitVec.toNat_ofInt,IntKind.wrap_u32]
 have:((2^32:Nat):Int)=4294967296:=by decide
 rw[this,Int.emod_emod_of_dvd _ (Int.dvd_refl _)]
theorem Z6o{x:Int}(hx:U x)(s:Nat)(hs:s≤32):BitVec.ofInt 32 (ishl .u32 x s)=BitVec.ofInt 32 x<<<s:=by
 obtain⟨n,rfl⟩: ∃n:Nat,x=n:=⟨x.toNat,by have:=hx.1;omega⟩
 have e:min (Int.toNat (s:Int)) IntKind.u32.bits=s:=by show min (Int.toNat (s:Int)) 32=s;omega
 unfold ishl
 rw[e,Zdt]
 have e2:((n:Int)*2^s)=((n*2^s:Nat):Int):=by simp
 have:=hx.2
 rw[e2,BitVec.ofInt_natCast,BitVec.ofInt_natCast]
 apply BitVec.eq_of_toNat_eq
 rw[BitVec.toNat_shiftLeft,BitVec.toNat_ofNat,BitVec.toNat_ofNat,Nat.shiftLeft_eq,Nat.mod_mul_mod]
def putW(W v:Int)(s:Nat):Int:=ior .u32 (Qka .u32 W (ishl .u32 255 s)) (ishl .u32 (iand .u32 v 255) s)
theorem put_num{W v:Int}(hW:U W)(hv:U v)(s:Nat)(hs:s≤24):putW W v s=2^(s+8)*(W/2^(s+8))+(2^s*(v%256)+W%2^s):=by
 have e:=put_nat (BitVec.ofInt 32 W) (BitVec.ofInt 32 v) s hs
 have l:=((BitVec.ofInt 32 W&&&~~~(255#32<<<s))|||((BitVec.ofInt 32 v&&&255#32)<<<s)).isLt
 have h1:BitVec.ofInt 32 (Qka .u32 W (ishl .u32 255 s))=BitVec.ofInt 32 W&&&~~~(255#32<<<s):=by
   show BitVec.ofInt 32 (IntKind.wrap .u32 (BitVec.ofInt 32 W&&&~~~BitVec.ofInt 32 (ishl .u32 255 s)).toNat)=_
   rw[Qz3,Z6o ⟨by decide,by decide⟩ s (by omega)]
   rfl
 have h2:BitVec.ofInt 32 (ishl .u32 (iand .u32 v 255) s)=(BitVec.ofInt 32 v&&&255#32)<<<s:=by
   rw[Z6o (Qhb _ _) s (by omega)]
   congr 1
   show BitVec.ofInt 32 (IntKind.wrap .u32 (BitVec.ofInt 32 v&&&BitVec.ofInt 32 255).toNat)=_
   rw[Qz3];rfl
 show IntKind.wrap .u32 ((BitVec.ofInt 32 (Qka .u32 W (ishl .u32 255 s))|||BitVec.ofInt 32 (ishl .u32 (iand .u32 v 255) s)).toNat:Int)=_
 rw[h1,h2]
 have lw:IntKind.wrap .u32 ((((BitVec.ofInt 32 W&&&~~~(255#32<<<s))|||((BitVec.ofInt 32 v&&&255#32)<<<s)).toNat:Nat):Int)=(((BitVec.ofInt 32 W&&&~~~(255#32<<<s))|||((BitVec.ofInt 32 v&&&255#32)<<<s)).toNat:Nat):=by rw[IntKind.wrap_u32];omega
 rw[lw,e,Z2v hW,Z2v hv]
 obtain⟨n,rfl⟩: ∃n:Nat,W=n:=⟨W.toNat,by have:=hW.1;omega⟩
 obtain⟨k,rfl⟩: ∃n:Nat,v=n:=⟨v.toNat,by have:=hv.1;omega⟩
 simp
def dig(w:Int)(k:Nat):Int:=if k=0 then w%256 else if k=1 then w/256%256 else if k=2 then w/65536%256 else w/16777216%256
def byt(m:List Int)(a:Nat):Int:=dig (m.getD (a/4) 0) (a%4)
theorem dig_lt(w:Int)(k:Nat):0≤dig w k∧dig w k<256:=by
 unfold dig
 split
 · omega
 · split
   · omega
   · split<;>omega
theorem dig_ext{w v:Int}(hw:U w)(hv:U v)(h: ∀k,k<4→dig w k=dig v k):w=v:=by
 have h0:=h 0 (by omega)
 have h1:=h 1 (by omega)
 have h2:=h 2 (by omega)
 have h3:=h 3 (by omega)
 simp [dig]at h0 h1 h2 h3
 obtain⟨a,b⟩:=hw
 obtain⟨c,d⟩:=hv
 omega
theorem byt_ext{m n:List Int}(hl:m.length=n.length)(hm: ∀w∈m,U w)(hn: ∀w∈n,U w)(h: ∀a,byt m a=byt n a):m=n:=by
 refine List.ext_getElem hl fun i h1 h2=> ?_
 have e1:m[i]=m.getD i 0:=by simp [List.getD,h1]
 have e2:n[i]=n.getD i 0:=by simp [List.getD,h2]
 rw[e1,e2]
 refine dig_ext (Ql1 hm i) (Ql1 hn i) fun k hk=> ?_
 have:=h (4*i+k)
 simp only[byt]at this
 rwa [show(4*i+k)/4=i by omega,show(4*i+k)%4=k by omega]at this
theorem Z33{l:List Int}{i:Nat}(h:i<l.length)(v:Int):(l.set i v).getD i 0=v:=by
 simp [List.getD,h]
theorem byt_set{m:List Int}{i:Nat}(hi:i<m.length)(v:Int)(a:Nat):byt (m.set i v) a=if a/4=i then dig v (a%4) else byt m a:=by
 unfold byt
 split
 · rename_i h;rw[h,Z33 hi]
 · rename_i h;rw[getDset _ _ _ _ (fun e=>h e.symm)]
theorem put_dig{W v:Int}(hW:U W)(hv:U v){j:Nat}(hj:j<4){k:Nat}(hk:k<4):dig (putW W v (8*j)) k=if k=j then v%256 else dig W k:=by
 have h:=put_num hW hv (8*j) (by omega)
 rw[h]
 obtain⟨w0,w1⟩:=hW
 have h0:0≤v%256:=by omega
 have h1:v%256<256:=by omega
 generalize v%256=b at*
 clear h
 have hj:j=0∨j=1∨j=2∨j=3:=by omega
 have hk:k=0∨k=1∨k=2∨k=3:=by omega
 rcases hj with rfl|rfl|rfl|rfl<;>rcases hk with rfl|rfl|rfl|rfl<;>simp [dig]<;>omega
theorem puts_eq{m:List Int}{a v:Int}(ha:U a):Qbf m a 1 v=m.set (a/4).toNat (putW (m.getD (a/4).toNat 0) v (8*(a%4).toNat)):=by
 obtain⟨a0,a1⟩:=ha
 have e1:IntKind.wrap .u32 (Int.tdiv a 4)=a/4:=by rw[IntKind.wrap_u32,Int.tdiv_eq_ediv_of_nonneg a0];omega
 have e2:IntKind.wrap .u32 (8*Int.tmod a 4)=((8*(a%4).toNat:Nat):Int):=by rw[IntKind.wrap_u32,Int.tmod_eq_emod_of_nonneg a0];omega
 have e3:((1:Int)==4)=false:=rfl
 simp only[Qbf,Qby,Tree.m,e1,e2,e3,cond_false]
 rfl
theorem puts_byte{P:Nat}{m:List Int}(h:Q1d P m){a v:Int}(ha:U a)(hl:a<128*P)(hv:U v):Q1d P (Qbf m a 1 v)∧ ∀b:Nat,byt (Qbf m a 1 v) b=if(b:Int)=a then v%256 else byt m b:=by
 have hlen:=h.len
 have a0:=ha.1
 rw[puts_eq ha]
 have hi:(a/4).toNat<m.length:=by omega
 refine⟨⟨by rw[List.length_set];exact hlen,h.p1,h.p2,Qyg h.u (U_or _ _) _⟩,fun b=> ?_⟩
 rw[byt_set hi]
 by_cases hb:b/4=(a/4).toNat
 · rw[if_pos hb,put_dig (Ql1 h.u _) hv (by omega) (by omega)]
   by_cases hc:b%4=(a%4).toNat
   · rw[if_pos hc,if_pos (by omega)]
   · rw[if_neg hc,if_neg (by omega),byt,hb]
 · rw[if_neg hb,if_neg (by omega)]
theorem fill_b{P:Nat}{m:List Int}(h:Q1d P m){frame:Int}(f0:0≤frame)(f1:frame<P)(s:List UInt8):(Q5f m frame s).w (fun r=>Q1d P r∧ ∀b:Nat,byt r b=if frame*128≤b∧(b:Int)<frame*128+min s.length 128 then((s.getD (b-frame*128).toNat 0).toNat:Int) else byt m b):=by
 unfold Q5f
 have h3:=h.p2
 refine w_lp (inv:=fun z=>0≤z.1∧z.1≤min s.length 128∧Q1d P z.2∧ ∀b:Nat,byt z.2 b=if frame*128≤b∧(b:Int)<frame*128+z.1 then((s.getD (b-frame*128).toNat 0).toNat:Int) else byt m b) (μ:=Qca m frame s) ⟨show(0:Int)≤0 by decide,by show(0:Int)≤_;omega,h,fun b=>by rw[if_neg];show¬(_∧_<_+(0:Int));omega⟩ (Nat.lt_succ_self _) (fun v0 hv0=> ?_)
 obtain⟨i,mm⟩:=v0
 obtain⟨i0,i1,hm,hy⟩:=hv0
 have i0:0≤i:=i0
 have i1:i≤min s.length 128:=i1
 have hm:Q1d P mm:=hm
 have fin: ∀r:List Int,r=mm→i=min s.length 128→Q1d P r∧ ∀b:Nat,byt r b=if frame*128≤b∧(b:Int)<frame*128+min s.length 128 then((s.getD (b-frame*128).toNat 0).toNat:Int) else byt m b:=fun r hr hi=>by
   subst hr;refine⟨hm,fun b=> ?_⟩
   rw[hy b];simp only[hi]
 refine w_br (fun h1=>w_br (fun h2=>w_cn ?_ ?_) (fun h2=>fin mm rfl ?_)) (fun h1=>fin mm rfl ?_)
 · have:=of_decide_eq_true h1
   simp [Nat.blt];omega
 · have h1:i<s.length:=of_decide_eq_true h1
   have h2:i<128:=of_decide_eq_true h2
   have e:IntKind.wrap IntKind.u32 (IntKind.wrap IntKind.i64 (IntKind.wrap IntKind.i64 (frame*128)+i))=frame*128+i:=by
     rw[IntKind.wrap_u32,IntKind.wrap_i64,IntKind.wrap_i64];omega
   show(Tree.an (Qal mm (IntKind.wrap IntKind.u32 (IntKind.wrap IntKind.i64 (IntKind.wrap IntKind.i64 (frame*128)+i))) 1 _) (Tree.lv _ _)).w _
   rw[e]
   have hu:U (frame*128+i):=⟨by omega,by omega⟩
   have hvU: ∀n:Nat,U (IntKind.wrap .u32 (n:Int)):=fun n=>Q17 _
   obtain⟨g1,_⟩:=Tree.pp (put_w hm (size:=1) (addr:=frame*128+i) hu (by rw[hm.len];omega) (hvU (UInt8.toNat (List.getD s (Int.toNat i) 0))))
   obtain⟨g2,g3⟩:=puts_byte hm hu (by omega) (hvU (UInt8.toNat (List.getD s (Int.toNat i) 0)))
   refine w_an g1 (w_lv fun x0 hx0=> ?_)
   rw[hx0]
   have ew:IntKind.i64.wrap (i+1)=i+1:=by rw[IntKind.wrap_i64];omega
   refine w_nx ?_
   show(0≤IntKind.i64.wrap (i+1)∧IntKind.i64.wrap (i+1)≤min s.length 128∧Q1d P _∧ ∀b:Nat,byt _ b=if frame*128≤b∧(b:Int)<frame*128+IntKind.i64.wrap (i+1) then _ else _)∧(128-IntKind.i64.wrap (i+1)).toNat<(128-i).toNat
   rw[ew]
   refine⟨⟨by omega,by omega,g2,fun b=> ?_⟩,by omega⟩
   rw[show Qbf mm (frame*128+i) 1 _=_ from rfl,g3 b]
   by_cases hb:(b:Int)=frame*128+i
   · rw[if_pos hb,if_pos (by omega),IntKind.wrap_u32]
     have:=(List.getD s (Int.toNat i) 0).toNat_lt
     rw[show(b-frame*128).toNat=i.toNat by omega];omega
   · rw[if_neg hb,hy b]
     show(if frame*128≤(b:Int)∧(b:Int)<frame*128+i then _ else _)=_
     by_cases hc:frame*128≤(b:Int)∧(b:Int)<frame*128+i
     · rw[if_pos hc,if_pos (by omega)]
     · rw[if_neg hc,if_neg (by omega)]
 · have h1:i<s.length:=of_decide_eq_true h1
   have h2: ¬i<128:=of_decide_eq_false h2
   omega
 · have h1: ¬i<s.length:=of_decide_eq_false h1
   omega
theorem or_add{x y:Int}(hx:U x)(hy:U y)(k:Nat)(hk:x<2^k)(h:x+y*2^k<4294967296):ior .u32 x (y*2^k)=x+y*2^k:=by
 obtain⟨n,rfl⟩: ∃n:Nat,x=n:=⟨x.toNat,by have:=hx.1;omega⟩
 obtain⟨z,rfl⟩: ∃n:Nat,y=n:=⟨y.toNat,by have:=hy.1;omega⟩
 have e:((z:Int)*2^k)=((z*2^k:Nat):Int):=by simp
 rw[e]at h⊢
 have hn:n<2^k:=by exact_mod_cast hk
 rw[or_nat hx ⟨by omega,by omega⟩,Int.toNat_natCast,Int.toNat_natCast,Nat.or_comm,Nat.mul_comm,←Nat.two_pow_add_eq_or_of_lt hn]
 omega
theorem four{a b c d:Int}(ha:0≤a∧a<256)(hb:0≤b∧b<256)(hc:0≤c∧c<256)(hd:0≤d∧d<256):ior .u32 (ior .u32 (ior .u32 (IntKind.wrap .u32 a) (ishl .u32 (IntKind.wrap .u32 b) 8)) (ishl .u32 (IntKind.wrap .u32 c) 16)) (ishl .u32 (IntKind.wrap .u32 d) 24)=a+b*2^8+c*2^16+d*2^24:=by
 have w: ∀{x:Int},0≤x∧x<256→IntKind.wrap .u32 x=x:=fun hx=>by rw[IntKind.wrap_u32];omega
 have s8: ∀{x:Int},0≤x∧x<256→ishl .u32 x 8=x*2^8:=fun{x} hx=>by show IntKind.wrap .u32 (x*2^8)=_;rw[IntKind.wrap_u32];omega
 have s16: ∀{x:Int},0≤x∧x<256→ishl .u32 x 16=x*2^16:=fun{x} hx=>by show IntKind.wrap .u32 (x*2^16)=_;rw[IntKind.wrap_u32];omega
 have s24: ∀{x:Int},0≤x∧x<256→ishl .u32 x 24=x*2^24:=fun{x} hx=>by show IntKind.wrap .u32 (x*2^24)=_;rw[IntKind.wrap_u32];omega
 rw[w ha,w hb,w hc,w hd,s8 hb,s16 hc,s24 hd]
 rw[or_add ⟨by omega,by omega⟩ ⟨by omega,by omega⟩ 8 (by omega) (by omega),or_add ⟨by omega,by omega⟩ ⟨by omega,by omega⟩ 16 (by omega) (by omega),or_add ⟨by omega,by omega⟩ ⟨by omega,by omega⟩ 24 (by omega) (by omega)]
theorem four_dig{a b c d:Int}(ha:0≤a∧a<256)(hb:0≤b∧b<256)(hc:0≤c∧c<256)(hd:0≤d∧d<256)(k:Nat)(hk:k<4):dig (a+b*2^8+c*2^16+d*2^24) k=if k=0 then a else if k=1 then b else if k=2 then c else d:=by
 have hk:k=0∨k=1∨k=2∨k=3:=by omega
 rcases hk with rfl|rfl|rfl|rfl<;>simp [dig]<;>omega
theorem Z9y{P:Nat}{m:List Int}(h:Q1d P m)(f:Int):Q2x m f=decide (0≤f∧f<P):=by
 have hp:=Q6o h
 simp only[Q2x,Q52,Tree.m,letv,hp]
 by_cases h1:0≤f
 · rw[decide_eq_true h1];simp [h1]
 · rw[decide_eq_false h1];simp [h1]
theorem getD_cut(s:List UInt8)(a b k:Nat)(h:k<b):(List.take b (List.drop a s)).getD k 0=s.getD (a+k) 0:=by
 simp [List.getD_eq_getElem?_getD,List.getElem?_take,h]
theorem u8I(x:UInt8):0≤(x.toNat:Int)∧(x.toNat:Int)<256:=by have:=x.toNat_lt;omega
theorem Z4x{P:Nat}{m:List Int}(h:Q1d P m){f:Int}(f0:0≤f)(f1:f<P){s:List UInt8}(hs:s.length=128):(Q1q m f s).w (fun r=>r.2=true∧Q1d P r.1∧ ∀b:Nat,byt r.1 b=if f*128≤b∧(b:Int)<f*128+128 then((s.getD (b-f*128).toNat 0).toNat:Int) else byt m b):=by
  have hcl:Q07 m=m:=rfl
  have h2:=h.p2
  unfold Q1q
  refine w_an (Qc7 h) (w_lv fun x0 hx0=>w_lv fun x1 hx1=> ?_)
  rw[hcl]at hx0;subst hx0
  rw[Z9y h,decide_eq_true ⟨f0,f1⟩]at hx1
  subst hx1
  refine w_br (fun hb=>by cases hb) fun _=>w_br (fun hb=>by simp [hs]at hb) fun _=> ?_
  refine w_lp (inv:=fun z:Int×List Int=>0≤z.1∧z.1≤32∧Q1d P z.2∧ ∀b:Nat,byt z.2 b=if f*128≤b∧(b:Int)<f*128+4*z.1 then((s.getD (b-f*128).toNat 0).toNat:Int) else byt x0 b) (μ:=Q6i x0 f s) ⟨show(0:Int)≤0 by decide,show(0:Int)≤32 by decide,h,fun b=>by rw[if_neg];show¬(_∧_<_+4*(0:Int));omega⟩ (Nat.lt_succ_self _) fun z ⟨z1,z2,z3,z4⟩=> ?_
  refine w_br (fun hb=> ?_) (fun hb=>⟨rfl,z3,fun b=> ?_⟩)
  · have hb:=of_decide_eq_true hb
    have e1:IntKind.i64.wrap (4*z.1)=4*z.1:=by rw[IntKind.wrap_i64];omega
    have e2:IntKind.i64.wrap (IntKind.i64.wrap (4*z.1)+4)=4*z.1+4:=by rw[IntKind.wrap_i64,IntKind.wrap_i64];omega
    have e3:IntKind.i64.wrap (IntKind.i64.wrap (f*32)+z.1)=f*32+z.1:=by rw[IntKind.wrap_i64,IntKind.wrap_i64];omega
    have hl:=z3.len
    have cut:Int.toNat (IntKind.i64.wrap (IntKind.i64.wrap (4*z.1)+4))-Int.toNat (IntKind.i64.wrap (4*z.1))=4:=by rw[e2,e1];omega
    have hlen:(List.take (Int.toNat (IntKind.i64.wrap (IntKind.i64.wrap (4*z.1)+4))-Int.toNat (IntKind.i64.wrap (4*z.1))) (List.drop (Int.toNat (IntKind.i64.wrap (4*z.1))) s)).length=4:=by
      rw[cut,e1,List.length_take,List.length_drop];omega
    refine w_cn (decide_eq_true (by rw[e2,e1];omega)) ?_
    refine w_cn (decide_eq_true (by rw[hlen];decide)) (w_cn (decide_eq_true (by rw[hlen];decide)) (w_cn (decide_eq_true (by rw[hlen];decide)) (w_cn (decide_eq_true (by rw[hlen];decide)) (w_cn (by rw[e3];simp [Nat.blt];omega) (w_nx ?_)))))
    have ew:IntKind.i64.wrap (z.1+1)=z.1+1:=by rw[IntKind.wrap_i64];omega
    rw[cut]
    refine⟨⟨by show 0≤IntKind.i64.wrap (z.1+1);rw[ew];omega,by show IntKind.i64.wrap (z.1+1)≤32;rw[ew];omega,?_,?_⟩,by show(32-IntKind.i64.wrap (z.1+1)).toNat<(32-z.1).toNat;rw[ew];omega⟩
    · show Q1d P (List.set _ _ _)
      exact⟨by rw[List.length_set];exact hl,z3.p1,z3.p2,Qyg z3.u (U_or _ _) _⟩
    · intro b
      show byt (List.set z.2 (Int.toNat (IntKind.i64.wrap (IntKind.i64.wrap (f*32)+z.1))) _) b=if f*128≤(b:Int)∧(b:Int)<f*128+4*IntKind.i64.wrap (z.1+1) then _ else _
      rw[e3,ew,four (u8I _) (u8I _) (u8I _) (u8I _),byt_set (by omega)]
      have g: ∀k:Nat,k<4→(List.take 4 (List.drop (Int.toNat (IntKind.i64.wrap (4*z.1))) s)).getD k 0=s.getD ((4*z.1).toNat+k) 0:=fun k hk=>by rw[e1];exact getD_cut _ _ _ _ hk
      by_cases hc:b/4=(f*32+z.1).toNat
      · have hin:f*128≤(b:Int)∧(b:Int)<f*128+4*(z.1+1):=by omega
        rw[if_pos hc,four_dig (u8I _) (u8I _) (u8I _) (u8I _) _ (by omega),if_pos hin]
        have hb4:b%4=0∨b%4=1∨b%4=2∨b%4=3:=by omega
        have gi:(b-f*128).toNat=(4*z.1).toNat+b%4:=by omega
        rw[gi]
        rcases hb4 with h4|h4|h4|h4<;>rw[h4]
        · rw[if_pos rfl,←g 0 (by omega)];rfl
        · rw[if_neg (by decide),if_pos rfl,←g 1 (by omega)];rfl
        · rw[if_neg (by decide),if_neg (by decide),if_pos rfl,←g 2 (by omega)];rfl
        · rw[if_neg (by decide),if_neg (by decide),if_neg (by decide),←g 3 (by omega)];rfl
      · rw[if_neg hc,z4 b]
        by_cases hd:f*128≤(b:Int)∧(b:Int)<f*128+4*z.1
        · rw[if_pos hd,if_pos (by omega)]
        · rw[if_neg hd,if_neg (by omega)]
  · have hb:=of_decide_eq_false hb
    show byt z.2 b=_
    rw[z4 b,show z.1=32 by omega]
    rfl
end Go.Proofs.YtdkiadhigcfmkaaGreat
namespace Go.Proofs.YtdkiadhigcfmkaaGreat
open Go Go.GD
set_option linter.unusedVariables false
set_option linter.unusedSimpArgs false
set_option maxRecDepth 100000
theorem Zb4{α:Type}(l l2:List α)(k:Nat)(z:α):(l++l2).getD k z=if k<l.length then l.getD k z else l2.getD (k-l.length) z:=by
 simp only[List.getD_eq_getElem?_getD,List.getElem?_append]
 split<;>rfl
theorem u8w{x:Int}:IntKind.wrap .u8 x=x%256:=IntKind.wrap_u8 x
theorem shr_c(W:Int):ishr .u32 W 8=W/256∧ishr .u32 W 16=W/65536∧ishr .u32 W 24=W/16777216:=by
 refine⟨?_,?_,?_⟩
 · show Int.fdiv W 256=_;rw[Int.fdiv_eq_ediv_of_nonneg _ (by decide)]
 · show Int.fdiv W 65536=_;rw[Int.fdiv_eq_ediv_of_nonneg _ (by decide)]
 · show Int.fdiv W 16777216=_;rw[Int.fdiv_eq_ediv_of_nonneg _ (by decide)]
theorem b4d(W:Int){k:Nat}(hk:k<4):[IntKind.wrap .u8 W,IntKind.wrap .u8 (ishr .u32 W 8),IntKind.wrap .u8 (ishr .u32 W 16),IntKind.wrap .u8 (ishr .u32 W 24)].getD k 0=dig W k:=by
 obtain⟨a,b,c⟩:=shr_c W
 have hk:k=0∨k=1∨k=2∨k=3:=by omega
 rcases hk with rfl|rfl|rfl|rfl<;>simp [dig,a,b,c,u8w]
theorem Z6l(l:List Int)(k:Nat)(h:0≤l.getD k 0∧l.getD k 0<256)(hk:k<l.length):(((bytesOf l).getD k 0).toNat:Int)=l.getD k 0:=by
 have e:(bytesOf l).getD k 0=UInt8.ofNat (l.getD k 0).toNat:=by
   simp [bytesOf,List.getD_eq_getElem?_getD,hk]
 rw[e,UInt8.toNat_ofNat']
 omega
theorem text_b(w:List Int)(h:w.length≤32):(Q2t w).w (fun r=>r.length=4*w.length∧ ∀k:Nat,k<4*w.length→((r.getD k 0).toNat:Int)=dig (w.getD (k/4) 0) (k%4)):=by
 have e0:IntKind.i64.wrap (4*(w.length:Int))=4*w.length:=by rw[IntKind.wrap_i64];omega
 unfold Q2t
 refine w_cn (by rw[e0];simp [Nat.blt,D.plain];omega) ?_
 refine w_lp (inv:=fun z:Int×List Int=>0≤z.1∧z.1≤w.length∧(z.2.length:Int)=4*z.1∧ ∀k:Nat,(k:Int)<4*z.1→z.2.getD k 0=dig (w.getD (k/4) 0) (k%4)) (μ:=Q4m w) ⟨by decide,by show(0:Int)≤w.length;omega,rfl,fun k hk=>by have hk:(k:Int)<4*0:=hk;omega⟩ (Nat.lt_succ_self _) fun z ⟨z1,z2,z3,z4⟩=> ?_
 refine w_br (fun hb=> ?_) (fun hb=> ?_)
 · have hb:=of_decide_eq_true hb
   have ew:IntKind.i64.wrap (z.1+1)=z.1+1:=by rw[IntKind.wrap_i64];omega
   refine w_cn (by simp [Nat.blt];omega) (w_cn (decide_eq_true (by omega)) (w_nx ?_))
   show(_∧_∧_∧ ∀k:Nat,(k:Int)<4*IntKind.i64.wrap (z.1+1)→(z.2++_).getD k 0=_)∧(_:Nat)<_
   refine⟨⟨by rw[ew];omega,by rw[ew];omega,by rw[ew,List.length_append];simp only[List.length_cons,List.length_nil];omega,fun k hk=> ?_⟩,by show(w.length-IntKind.i64.wrap (z.1+1)).toNat<(w.length-z.1).toNat;rw[ew];omega⟩
   rw[ew]at hk
   rw[Zb4]
   split
   · exact z4 k (by omega)
   · rename_i hn
     rw[b4d _ (by omega),show z.1.toNat=k/4 by omega,show k-z.2.length=k%4 by omega]
 · have hb:=of_decide_eq_false hb
   show(bytesOf z.2).length=_∧ ∀k:Nat,_→(((bytesOf z.2).getD k 0).toNat:Int)=_
   refine⟨by rw[Qgg];omega,fun k hk=> ?_⟩
   have e:=z4 k (by omega)
   have:=dig_lt (w.getD (k/4) 0) (k%4)
   rw[Z6l _ _ (by rw[e];exact this) (by omega),e]
def isPg(m:List Int)(f:Int)(r:List UInt8):Prop:=r.length=128∧ ∀k:Nat,k<128→((r.getD k 0).toNat:Int)=byt m ((f*128).toNat+k)
theorem mpage_b{P:Nat}{m:List Int}(h:Q1d P m){f:Int}(f0:0≤f)(f1:f<P):(Q3y m f).w (fun r=>isPg m f r.1∧r.2=true):=by
 have hl:=h.len
 have h2:=h.p2
 unfold Q3y
 refine w_lv fun x0 hx0=> ?_
 rw[Z9y h,decide_eq_true ⟨f0,f1⟩]at hx0
 subst hx0
 refine w_br (fun hb=>by cases hb) (fun hb=> ?_)
 have e1:IntKind.i64.wrap (f*32)=f*32:=by rw[IntKind.wrap_i64];omega
 have e2:IntKind.i64.wrap (IntKind.i64.wrap (f*32)+32)=f*32+32:=by rw[IntKind.wrap_i64,IntKind.wrap_i64];omega
 have cut:Int.toNat (IntKind.i64.wrap (IntKind.i64.wrap (f*32)+32))-Int.toNat (IntKind.i64.wrap (f*32))=32:=by rw[e2,e1];omega
 have hlen:(List.take 32 (List.drop (Int.toNat (IntKind.i64.wrap (f*32))) m)).length=32:=by
   rw[e1,List.length_take,List.length_drop];omega
 refine w_cn (by rw[e2,e1];simp [Nat.blt];omega) ?_
 rw[cut]
 refine w_an (by show List.length _≤1000000000000;rw[hlen];decide) (w_lv fun x1 h1=> ?_)
 have t:=(Tree.pp (text_b _ (Nat.le_of_eq hlen))).2
 rw[hlen,show(Q2t (List.take 32 (List.drop (Int.toNat (IntKind.i64.wrap (f*32))) m))).m=x1 from h1.symm]at t
 refine⟨⟨t.1,fun k hk=> ?_⟩,rfl⟩
 show((x1.getD k 0).toNat:Int)=_
 rw[t.2 k hk,byt,e1]
 have g:(List.take 32 (List.drop (Int.toNat (f*32)) m)).getD (k/4) 0=m.getD ((f*32).toNat+k/4) 0:=by
   simp [List.getD_eq_getElem?_getD,List.getElem?_take,show k/4<32 by omega]
 rw[g,show((f*128).toNat+k)/4=(f*32).toNat+k/4 by omega,show((f*128).toNat+k)%4=k%4 by omega]
section
variable {P:Nat} {m:List Int} (h:Q1d P m)
include h
theorem Z7x{f:Int}(f0:0≤f)(f1:f<P){s:List UInt8}(hs:s.length=128):Q28 m f s=(Qg3 m f s,true):=by
 have a:=(Tree.pp (Z4x h f0 f1 hs)).2
 have b:=(Tree.pp (fill_b h f0 f1 s)).2
 refine Prod.ext (byt_ext (a.2.1.len.trans b.1.len.symm) a.2.1.u b.1.u fun k=> ?_) a.1
 have e:((min s.length 128:Nat):Int)=128:=by rw[hs];rfl
 have b2:=b.2 k
 have a2:=a.2.2 k
 rw[e]at b2
 exact a2.trans b2.symm
theorem Z52{f:Int}(f0:0≤f)(f1:f<P){s r:List UInt8}(hs:s.length≤128)(hr:isPg m f r):Q28 m f (s++r.drop s.length)=(Qg3 m f s,true):=by
  have hl:(s++r.drop s.length).length=128:=by have:=hr.1;simp;omega
  have a:=(Tree.pp (Z4x h f0 f1 hl)).2
  have b:=(Tree.pp (fill_b h f0 f1 s)).2
  refine Prod.ext (byt_ext (a.2.1.len.trans b.1.len.symm) a.2.1.u b.1.u fun k=> ?_) a.1
  have b2:=b.2 k
  have a2:=a.2.2 k
  refine a2.trans (Eq.trans ?_ b2.symm)
  by_cases hc:f*128≤(k:Int)∧(k:Int)<f*128+128
  · rw [if_pos hc,Zb4]
    by_cases hd:(k-f*128).toNat<s.length
    · rw[if_pos hd,if_pos (by omega)]
    · rw[if_neg hd,if_neg (by omega)]
      have e:(r.drop s.length).getD ((k-f*128).toNat-s.length) 0=r.getD (k-f*128).toNat 0:=by
        simp [List.getD_eq_getElem?_getD,show s.length+((k-f*128).toNat-s.length)=(k-f*128).toNat by omega]
      rw[e,hr.2 _ (by omega),show(f*128).toNat+(k-f*128).toNat=k by omega]
  · rw[if_neg hc,if_neg (by omega)]
end
section
variable {P:Nat} {m:List Int} (h:Q1d P m)
include h
end
end Go.Proofs.YtdkiadhigcfmkaaGreat
namespace Go.Proofs.YtdkiadhigcfmkaaGreat
open Go Go.GD
set_option linter.unusedVariables false
set_option linter.unusedSimpArgs false
set_option maxRecDepth 100000
section
variable {P:Nat} {m:List Int} (h:Q1d P m)
include h
end
end Go.Proofs.YtdkiadhigcfmkaaGreat
namespace Go.Proofs.YtdkiadhigcfmkaaGreat
open Go Go.GD
set_option linter.unusedVariables false
set_option linter.unusedSimpArgs false
set_option maxRecDepth 100000
def va(c:Q03)(B Imm:Int):Int:=IntKind.wrap .u32 (List.getD (A16.l c.X) (Int.toNat B) 0+IntKind.wrap .u32 Imm)
section
variable {P:Nat} {m:List Int} (h:Q1d P m) {c:Q03} (hc:Q3j c) (hst:c.Csr.a0≤31)
include h hc hst
end
end Go.Proofs.YtdkiadhigcfmkaaGreat
namespace Go.Proofs.YtdkiadhigcfmkaaGreat
open Go Go.GD
set_option linter.unusedVariables false
set_option linter.unusedSimpArgs false
set_option maxRecDepth 100000
section
variable {P:Nat} {m:List Int} (h:Q1d P m) {c:Q03} (hc:Q3j c) (hst:c.Csr.a0≤31) {A B C Imm:Int} (hA:0≤A∧A<16)
include h hc hst hA
end
end Go.Proofs.YtdkiadhigcfmkaaGreat
namespace Go.Proofs.YtdkiadhigcfmkaaGreat
open Go Go.GD
set_option linter.unusedVariables false
set_option linter.unusedSimpArgs false
set_option maxRecDepth 100000
section
variable (c:Q03) (m:List Int)
end
end Go.Proofs.YtdkiadhigcfmkaaGreat
namespace Go.Proofs.YtdkiadhigcfmkaaGreat
open Go Go.GD
set_option linter.unusedVariables false
set_option linter.unusedSimpArgs false
set_option maxRecDepth 100000
theorem ge_not{a b:Int}:decide (a≥b)=!decide (a<b):=by
 by_cases h:a<b
 · rw[decide_eq_true h,decide_eq_false (by omega)];rfl
 · rw[decide_eq_false h,decide_eq_true (by omega)];rfl
def bits(g:Int)(l:List Nat)(s:Int):Int:=l.foldl (fun(a:Int) (i:Nat)=>IntKind.wrap .i64 (a+IntKind.wrap .i64 (iand .u32 (ishr .u32 g (i:Int)) 1))) s
theorem Qx6(t:Q0h):Q50 t=Q7y t:=by
 simp only[Q50,Qm6,Q7y,Qdy,Tree.m]
 cases t.Armed<;>cases t.Fired<;>rfl
theorem Z5a(n:Q0k)(p:Int):Q7c n p=Qdu n p:=by
 simp only[Q7c,Qmz,Qdu,Qgl,Tree.m]
 cases n.Posted<;>cases n.Received<;>rfl
theorem Z1w (d:Q0b)(p:Int):Q1p d p=Qan d p:=by
  simp only[Q1p,Qc1,Qd5,Q8y,Qan,Qf2,Tree.m,letv,ge_not]
  cases decide (d.Blocks>64)
  · by_cases s:d.State=0∨d.State=1∨d.State=2∨d.State=3
    · rcases s with s|s|s|s<;>rw[s]
      · rfl
      · by_cases c1:d.Cmd=1
        · rw[c1];cases decide (d.OpBlock<d.Blocks)<;>cases decide (IntKind.wrap .i64 d.OpFrame<p)<;>cases decide (d.OpData=[])<;>rfl
        · by_cases c2:d.Cmd=2
          · rw[c2];cases decide (d.OpBlock<d.Blocks)<;>cases decide (IntKind.wrap .i64 d.OpFrame<p)<;>cases(d.OpData.length:Int)==128<;>rfl
          · rw[show(d.Cmd==1)=false by simpa using c1,show(d.Cmd==2)=false by simpa using c2]
            cases decide (d.OpBlock<d.Blocks)<;>cases decide (IntKind.wrap .i64 d.OpFrame<p)<;>rfl
      · rfl
      · rfl
    · rw[show(d.State==0)=false by simp;omega,show(d.State==1)=false by simp;omega,show(d.State==2)=false by simp;omega,show(d.State==3)=false by simp;omega]
      by_cases n:d.State<0
      · rw[decide_eq_true n];rfl
      · rw[decide_eq_false n,decide_eq_true (show d.State>3 by omega)];rfl
  · rfl
section
variable {P:Nat} {m:List Int} (h:Q1d P m)
include h
theorem Zdn(f:Int):Q8w m f=Q1j m f:=by
 have a:=Q6o h
 have b:=Qk0 h
 simp only[Q8w,Qbu,Q1j,Qcz,Tree.m,letv,a,b]
theorem Zd7(f:Int):Q9f m f=Q1j m f:=by
 have a:=Q6o h
 have b:=Qk0 h
 simp only[Q9f,Qep,Q1j,Qcz,Tree.m,letv,a,b]
theorem Z1f {d:Q0b}(hd:Q6d d)(e:Q0d):Qbr d m e=((Q7a d m e).1,(Q7a d m e).2.2,(Q7a d m e).2.1):=by
  have hcl:Q07 m=m:=rfl
  have pg:=Zdn h d.OpFrame
  have lp:decide ((e.Data.length:Int)>0)=!decide (e.Data=[]):=by
    cases e.Data with
    |nil=>rfl
    |cons a l=>rw[decide_eq_true (by simp),decide_eq_false (by simp)];rfl
  have bad:(e.Data.length:Int)≠128→Q1j m d.OpFrame=true→Q28 m (IntKind.wrap .i64 d.OpFrame) e.Data=(m,false):=fun hl hp=>by
    rw[Qlu h hd.opFrame]at hp
    have hp:=of_decide_eq_true hp
    have h1:=hd.opFrame.1
    have h3:=h.p2
    have ew:IntKind.i64.wrap d.OpFrame=d.OpFrame:=w64 (by omega) (by omega)
    simp only[Q28,Q1q,Tree.m,letv,hcl,ew,Z9y h,decide_eq_true (⟨h1,hp⟩:0≤d.OpFrame∧d.OpFrame<P),show((e.Data.length:Int) !=128)=true by simpa using hl]
    rfl
  have good:(e.Data.length:Int)=128→Q1j m d.OpFrame=true→Q28 m (IntKind.wrap .i64 d.OpFrame) e.Data=(Qg3 m (IntKind.wrap .i64 d.OpFrame) e.Data,true):=fun hl hp=>by
    rw[Qlu h hd.opFrame]at hp
    have hp:=of_decide_eq_true hp
    have h1:=hd.opFrame.1
    have h3:=h.p2
    have ew:IntKind.i64.wrap d.OpFrame=d.OpFrame:=w64 (by omega) (by omega)
    rw[ew];exact Z7x h h1 hp (by omega)
  simp only[Qbr,Q4k,Q7a,Q5w,Tree.m,letv,hcl,pg,lp]
  cases d.State !=1
  · cases e.Kind !=4
    · cases decide (e.N>1)
      · cases e.N==1
        · cases decide (e.Data=[])<;>rfl
        · cases hc:d.Cmd==1
          · cases decide (e.Data=[])<;>rfl
          · by_cases hl:(e.Data.length:Int)=128
            · rw[show((e.Data.length:Int) !=128)=false by simpa using hl]
              cases hp:Q1j m d.OpFrame
              · rfl
              · rw[good hl hp];rfl
            · rw[show((e.Data.length:Int) !=128)=true by simpa using hl]
              cases hp:Q1j m d.OpFrame
              · rfl
              · rw[bad hl hp];rfl
      · rfl
    · rfl
  · rfl
theorem Z5 {n:Q0k}(hn:Qfw n)(frame:List UInt8):Qg8 n m frame=((Q7h n m frame).1,(Q7h n m frame).2.2,(Q7h n m frame).2.1):=by
  have hcl:Q07 m=m:=rfl
  have pg:=Zd7 h n.Buffer
  simp only[Qg8,Q66,Q7h,Q6b,Tree.m,letv,hcl,pg]
  cases !n.Posted
  · cases decide ((frame.length:Int)<1)
    · cases hf:decide ((frame.length:Int)>128)
      · cases hp:Q1j m n.Buffer
        · rfl
        · rw[Qlu h hn.buffer]at hp
          have hp:=of_decide_eq_true hp
          have h1:=hn.buffer.1
          have h3:=h.p2
          have ew:IntKind.i64.wrap n.Buffer=n.Buffer:=w64 (by omega) (by omega)
          have hf:=of_decide_eq_false hf
          obtain⟨b1,b2⟩:=(Tree.pp (mpage_b h h1 hp)).2
          change isPg m n.Buffer (Q5j m n.Buffer).1 at b1
          have tk:List.take (Int.toNat ((Q5j m n.Buffer).1.length:Int)-Int.toNat (frame.length:Int)) (List.drop (Int.toNat (frame.length:Int)) (Q5j m n.Buffer).1)=(Q5j m n.Buffer).1.drop frame.length:=by
            rw[Int.toNat_natCast,Int.toNat_natCast]
            exact List.take_of_length_le (by simp)
          rw[ew,tk,Z52 h h1 hp (by omega) b1]
          rfl
      · rfl
    · rfl
  · rfl
end
end Go.Proofs.YtdkiadhigcfmkaaGreat
namespace Go.Proofs.YtdkiadhigcfmkaaGreat
open Go Go.GD
set_option linter.unusedVariables false
set_option linter.unusedSimpArgs false
set_option maxRecDepth 100000
theorem bit_pow(g:Int)(z:Nat):g%2^(z+1)=g%2^z+2^z*(g/2^z%2):=by
 have hp:(0:Int)<2^z:=Int.pow_pos (by decide)
 have h1:=Int.mul_ediv_add_emod g (2^z)
 have h2:=Int.mul_ediv_add_emod (g/2^z) 2
 have h3:(g/2^z)/2=g/2^(z+1):=by rw[Int.pow_succ,Int.ediv_ediv_of_nonneg (Int.le_of_lt hp)]
 have h4:=Int.mul_ediv_add_emod g (2^(z+1))
 rw[h3]at h2
 have h5:(2:Int)^(z+1)*(g/2^(z+1))=2^z*(2*(g/2^(z+1))):=by rw[Int.pow_succ,Int.mul_assoc]
 have h6:(2:Int)^z*(g/2^z)=2^z*(2*(g/2^(z+1)))+2^z*(g/2^z%2):=by rw[←Int.mul_add,h2]
 omega
theorem rbal_w{b:Q04}(hg:U b.Given){P:Nat}(hP:P≤32):(Q2y b P).w (fun r=>r=decide (b.Given<2^P)):=by
 unfold Q2y
 have fin: ∀v:Int,0≤v→v≤32→IntKind.wrap .u64 v=(v.toNat:Int):=fun v h0 h1=>by rw[IntKind.wrap_u64];omega
 refine w_lp (inv:=fun z:Int=>0≤z∧z≤32∧b.Given%2^z.toNat<2^P) (μ:=Q3p b P) ⟨by decide,by decide,by have:(0:Int)<2^P:=Int.pow_pos (by decide);simpa using this⟩ (Nat.lt_succ_self _) fun z ⟨z0,z1,z2⟩=> ?_
 refine w_br (fun hb=> ?_) (fun hb=> ?_)
 · have hb:=of_decide_eq_true hb
   have ew:IntKind.i64.wrap (z+1)=z+1:=w64 (by omega) (by omega)
   have bt:iand .u32 (ishr .u32 b.Given (IntKind.wrap .u64 z)) 1=b.Given/2^z.toNat%2:=by
     rw[fin z z0 z1,and1 (U_shr hg _),Z6n _ (by omega)]
   have bp:=bit_pow b.Given z.toNat
   have zt:(z+1).toNat=z.toNat+1:=by omega
   refine w_cn (decide_eq_true (by rw[IntKind.wrap_u64];omega)) ?_
   rw[bt]
   refine w_br (fun e=>w_br (fun hp=> ?_) (fun hp=>w_nx ?_)) (fun e=>w_nx ?_)
   · have e:=eq_of_beq e
     have hp:=of_decide_eq_true hp
     show false=_
     refine(decide_eq_false fun hlt=> ?_).symm
     have hle:(2:Int)^P≤2^z.toNat:=by exact_mod_cast Nat.pow_le_pow_right (show 0<2 by decide) (show P≤z.toNat by omega)
     have:b.Given/2^z.toNat=0:=Int.ediv_eq_zero_of_lt hg.1 (by omega)
     rw[this]at e;cases e
   · have e:=eq_of_beq e
     have hp:=of_decide_eq_false hp
     show(0≤IntKind.i64.wrap (z+1)∧IntKind.i64.wrap (z+1)≤32∧b.Given%2^(IntKind.i64.wrap (z+1)).toNat<2^P)∧(32-IntKind.i64.wrap (z+1)).toNat<(32-z).toNat
     rw[ew,zt]
     have hle:(2:Int)^(z.toNat+1)≤2^P:=by exact_mod_cast Nat.pow_le_pow_right (show 0<2 by decide) (show z.toNat+1≤P by omega)
     have:=Int.emod_lt_of_pos b.Given (show(0:Int)<2^(z.toNat+1) from Int.pow_pos (by decide))
     exact⟨⟨by omega,by omega,by omega⟩,by omega⟩
   · have e: ¬b.Given/2^z.toNat%2=1:=by simpa using e
     have e:b.Given/2^z.toNat%2=0:=by omega
     rw[e]at bp
     show(0≤IntKind.i64.wrap (z+1)∧IntKind.i64.wrap (z+1)≤32∧b.Given%2^(IntKind.i64.wrap (z+1)).toNat<2^P)∧(32-IntKind.i64.wrap (z+1)).toNat<(32-z).toNat
     rw[ew,zt,bp]
     exact⟨⟨by omega,by omega,by omega⟩,by omega⟩
 · have hb:=of_decide_eq_false hb
   have:z=32:=by omega
   subst this
   show true=_
   refine(decide_eq_true ?_).symm
   have h2:b.Given%2^(32:Int).toNat=b.Given:=Int.emod_eq_of_lt hg.1 hg.2
   rwa [h2]at z2
theorem Z9m{b:Q04}(hg:U b.Given){P:Nat}(hP:P≤32):Q32 b P=Q5t b P:=by
 have r:=(Tree.pp (rbal_w hg hP)).2
 change Q5t b P=_ at r
 rw[r,Bool.eq_iff_iff,bal_iff hg,decide_eq_true_eq]
end Go.Proofs.YtdkiadhigcfmkaaGreat
namespace Go.Proofs.YtdkiadhigcfmkaaGreat
open Go Go.GD
set_option linter.unusedVariables false
set_option linter.unusedSimpArgs false
set_option maxRecDepth 100000
end Go.Proofs.YtdkiadhigcfmkaaGreat
namespace Go.Proofs.YtdkiadhigcfmkaaGreat
open Go Go.GD
set_option linter.unusedVariables false
set_option linter.unusedSimpArgs false
set_option maxRecDepth 100000
structure okV(m:Q00):Prop where
 cpu:Q3j m.Cpu
 mem: ∀w∈m.Mem,U w
 disk:Q6d m.Disk
 nic:Qfw m.Nic
 bal:okB m.Balloon
 cnt:0≤m.Count
theorem Qw0(m:List Int)(hm: ∀w∈m,U w):Q0s m=Q2j m∧(Q0s m=0∨ ∃P:Nat,1≤P∧Q1d P m):=by
 refine⟨rfl,?_⟩
 simp only[Q0s,Q6k,Tree.m]
 cases h1:Int.tmod (m.length:Int) 32 !=0
 · cases h2:decide ((m.length:Int)>1024)
   · have h1:Int.tmod (m.length:Int) 32=0:=by simpa using h1
     have h2:=of_decide_eq_false h2
     rw[Int.tmod_eq_emod_of_nonneg (by omega)]at h1
     by_cases h0:m.length=0
     · left;rw[h0];rfl
     · right;exact⟨m.length/32,by omega,⟨by omega,by omega,by omega,hm⟩⟩
   · left;rfl
 · left;rfl
theorem rcnd{a x:Bool}:(bif !a then false else x)=true↔a=true∧x=true:=by cases a<;>simp
theorem rmay_iff(m:Q00):Q9x m=true↔ ¬(Q2j m.Mem<1)∧Z0t m.Cpu∧Qd4 m.Console=true∧Q7y m.Timer=true∧Qan m.Disk (Q2j m.Mem)=true∧Qdu m.Nic (Q2j m.Mem)=true∧Q5t m.Balloon (Q2j m.Mem)=true∧m.Count≤1152921504606846976∧ ¬(m.Waiting=true∧m.Halted=true):=by
 simp only[Q9x,Qqd,Tree.m,letv]
 rw[cnd2,cnd2,cnd2,cnd2,cnd2,cnd2,rcnd,rcnd,rcnd,rcnd,rcnd]
 simp only[decide_eq_false_iff_not,Int.not_lt,bne_eq_false_iff_eq,gt_iff_lt]
 have l:((bif decide (m.Count≤1152921504606846976) then(bif m.Waiting then !m.Halted else true) else false)=true)↔m.Count≤1152921504606846976∧ ¬(m.Waiting=true∧m.Halted=true):=by
   by_cases hc:m.Count≤1152921504606846976
   · rw[decide_eq_true hc]
     cases m.Waiting<;>cases m.Halted<;>simp [hc]
   · rw[decide_eq_false hc];simp [hc]
 rw[l]
 constructor
 · rintro⟨a1,a2,a3,a4,a5,a6,a7⟩
   exact⟨by omega,⟨a2,a3,a4,a5,a6⟩,a7⟩
 · rintro⟨a1,⟨a2,a3,a4,a5,a6⟩,a7⟩
   exact⟨by omega,a2,a3,a4,a5,a6,a7⟩
theorem Zb0{m:Q00}(h:okV m):Q0y m=Q9x m:=by
 rw[Bool.eq_iff_iff,Z87,rmay_iff,dev_eq]
 obtain⟨e,c⟩:=Qw0 m.Mem h.mem
 simp only[Bool.and_eq_true,←e]
 rcases c with c|⟨P,hP,hm⟩
 · constructor
   · rintro⟨a,_⟩;exact absurd c a
   · rintro⟨a,_⟩;omega
 · rw[Q6o hm,Qx6,Z1w,Z5a,Z9m h.bal.2 hm.p2]
   constructor
   · rintro⟨a1,a2,a3,a4,a5,a6,a7,a8,a9⟩;exact⟨by omega,a2,a5,a6,a7,a8,a9,a3,a4⟩
   · rintro⟨a1,a2,a5,a6,a7,a8,a9,a3,a4⟩;exact⟨by omega,a2,a3,a4,a5,a6,a7,a8,a9⟩
section
variable {m:Q00} (h:okV m)
include h
def low(l:Int):Int:=if l%2=1 then 0 else if l/2%2=1 then 1 else if l/4%2=1 then 2 else if l/8%2=1 then 3 else 4
end
end Go.Proofs.YtdkiadhigcfmkaaGreat
namespace Go.Proofs.YtdkiadhigcfmkaaGreat
open Go Go.GD
set_option linter.unusedVariables false
set_option linter.unusedSimpArgs false
set_option maxRecDepth 100000
theorem copy_eq(m:List Int):Qjh m=m:=by
 simp [Qjh,Q5e,Tree.m]
theorem own_eq(m:Q00):Qe7 m=m:=by
 simp only[Qe7,Q55,Tree.m,letv,copy_eq]
end Go.Proofs.YtdkiadhigcfmkaaGreat
namespace Go.Proofs.YtdkiadhigcfmkaaGreat
open Go Go.GD
set_option linter.unusedVariables false
set_option linter.unusedSimpArgs false
set_option maxRecDepth 100000
theorem Zd1{m:Q00}(h:okV m)(e:Q0d):Q5z m e=Q8v m e:=by
 have hcl:Q07 m.Mem=m.Mem:=rfl
 have mm:=Zb0 h
 have t1:Qg0 m.Timer=Qmf m.Timer:=rfl
 have t2: ∀b,Qjb m.Console b=Qo6 m.Console b:=fun _=>rfl
 simp only[Q5z,Q29,Q8v,Q7q,Qql,Q7j,Tree.m,letv,own_eq,hcl,t1,t2]
 rw[show Q0y {Cpu:=m.Cpu,Mem:=m.Mem,Console:=m.Console,Timer:=m.Timer,Disk:=m.Disk,Nic:=m.Nic,Balloon:=m.Balloon,Count:=m.Count,Waiting:=m.Waiting,Halted:=m.Halted}=Q9x m from mm]
 cases hM:Q9x m
 · rfl
 have hM':Q0y m=true:=mm.trans hM
 rcases(Qw0 m.Mem h.mem).2 with c|⟨P,hP,hmem⟩
 · exact absurd c ((Z87 m).1 hM').1
 have cs:=Z1f hmem h.disk e
 have rs:=Z5 hmem h.nic e.Data
 clear mm hM hM' hcl h
 obtain⟨c,mem,con,ti,d,n,b,ct,w,hl⟩:=m
 cases hl
 · by_cases k2:e.Kind=2
   · rw[k2];cases e.N==0<;>cases decide (e.Data=[])<;>rfl
   by_cases k3:e.Kind=3
   · rw[k3];cases decide (e.N≤255)<;>cases decide (e.Data=[])<;>rfl
   by_cases k4:e.Kind=4
   · rw[k4,cs];rfl
   by_cases k5:e.Kind=5
   · rw[k5,rs];cases e.N==0<;>rfl
   by_cases k6:e.Kind=6
   · rw[k6];cases decide (e.Data=[])<;>rfl
   · rw[show(e.Kind==2)=false by simpa using k2,show(e.Kind==3)=false by simpa using k3,show(e.Kind==4)=false by simpa using k4,show(e.Kind==5)=false by simpa using k5,show(e.Kind==6)=false by simpa using k6]
     rfl
 · rfl
end Go.Proofs.YtdkiadhigcfmkaaGreat
namespace Go.Proofs.YtdkiadhigcfmkaaGreat
open Go Go.GD
attribute [local irreducible] Q4
set_option linter.unusedVariables false
set_option linter.unusedSimpArgs false
set_option maxRecDepth 100000
theorem few_two{l acts:List Int}{x0:Bool}(hx0:x0=Qti l acts)(hb:(!x0)=false):l.length≤40∧acts.length≤30:=by
 have hb:x0=true:=by simpa using hb
 rw[hb]at hx0
 simp only[Qti,Qpg,Tree.m]at hx0
 cases h1:decide ((l.length:Int)≤40)<;>rw[h1]at hx0
 · cases hx0
 · have:=of_decide_eq_true hx0.symm
   have:=of_decide_eq_true h1
   omega
theorem raw_w{w:Q00}(hw:okV w)(raw:Bool)(kind:Int)(l acts:List Int)(where0 what:Int)(hl:l.length*8≤reachBytes)(f1:l.length≤40)(f2:acts.length≤30):(Qfp w raw kind l acts where0 what).w (fun m=>okV m∧m.Mem.length≤1024):=by
 have t: ∀{K:Q00→Tree Q00},(∀y,(K y).w (fun m=>okV m∧m.Mem.length≤1024)↔okV y∧y.Mem.length≤1024)→(Tree.an (Qau kind l acts) (.lv (Qiq kind l acts) fun x0=> .an (Qh3 x0 where0 what) (.lv (Qw8 x0 where0 what) fun x1=>K x1))).w (fun m=>okV m∧m.Mem.length≤1024):=fun hK=>
   Q0l (Ze1 kind l acts hl f1 f2) fun x2 h2=>Q0l (bend_w h2 (by decide) h2.cnt where0 what (fun k a b=>by show k≤1000000000000;omega)) fun x3 h3=>(hK x3).2 ⟨⟨h3.cpu,h3.u,h3.disk,h3.nic,h3.bal,h3.cnt⟩,h3.len⟩
 unfold Qfp
 have t0:=t (K:=fun x1=> .lf x1) (fun y=>Iff.rfl)
 exact w_br (fun _=>w_br (fun h=>w_br (fun _=>w_br (fun _=>⟨hw,by have:=of_decide_eq_true h;omega⟩) (fun _=>t0)) (fun _=>t0)) (fun _=>t0)) (fun _=>t0)
theorem ownV{m:Q00}(hl:m.Mem.length≤1024):(Q55 m).w (fun x=>x=m):=by
 unfold Q55 Qjh
 have c:(Q5e m.Mem).w (fun r=>r=m.Mem):=by
   unfold Q5e
   refine w_cn ?_ ?_
   · simp [Nat.blt,D.plain];omega
   · show _=_;simp
 exact Q0l c fun x hx=>by rw[hx];rfl
theorem mapply_w{m:Q00}{P:Nat}(h:okM P m){e:Q0d}(he:U e.N):(Q7j m e).w (fun x=>okM P x.2):=by
 have k:=h
 obtain⟨h1,h2,h3,h4,h5,h7⟩:=h
 unfold Q7j
 repeat'(first
   |exact k
   |exact⟨h1,h2,h3,h4,⟨he,h5.2⟩,h7⟩
   |exact w_lv fun _ _=>⟨h1,h2,h3,h4,h5,h7⟩
   |exact Q0l (type_w _ _) fun _ _=>⟨h1,h2,h3,h4,h5,h7⟩
   |exact Q0l (Zap h2 h3 _) fun x hx=>⟨h1,hx.2,hx.1,h4,h5,h7⟩
   |exact Q0l (Zbi h2 h4 _) fun x hx=>⟨h1,hx.2,h3,hx.1,h5,h7⟩
   |refine w_br (fun _=> ?_) (fun _=> ?_))
section
variable {m:Q00} (h:okV m) (hl:m.Mem.length≤1024)
include h
theorem may_P(hm:Q0y m=true): ∃P,okS P m∧okM P m:=by
 rcases(Qw0 m.Mem h.mem).2 with c|⟨P,hP,hmem⟩
 · exact absurd c ((Z87 m).1 hm).1
 · exact⟨P,⟨h.cpu,hmem,h.disk,h.nic,h.bal.1,h.bal.2⟩,⟨h.cpu,hmem,h.disk,h.nic,h.bal,h.cnt⟩⟩
include hl
theorem rapplyV{e:Q0d}(he:U e.N):Q6u m e∧(Q8v m e).1.Mem.length≤1024:=by
 refine Tree.pp (t:=Q7q m e) (W:=fun r=>r.1.Mem.length≤1024) ?_
 unfold Q7q
 refine Q0l (ownV hl) fun x0 e0=> ?_
 subst e0
 refine w_lv fun x1 h1=>w_br (fun _=>hl) fun hb=> ?_
 have hm:Q0y x0=true:=by
   rw[Zb0 h]
   have:x1=true:=by simpa using hb
   exact h1.symm.trans this
 obtain⟨P,_,o⟩:=may_P h hm
 exact Q0l (mapply_w o he) fun x hx=>by
   show x.2.Mem.length≤1024
   have:=hx.mem.len
   have:=hx.mem.p2
   omega
theorem Zcz{e:Q0d}(he:U e.N):Q4n m e:=by
 cases hm:Q0y m
 · have hcl:Q07 m.Mem=m.Mem:=rfl
   show(Q29 m e).p
   unfold Tree.p Q29
   refine w_an (by show m.Mem.length≤35184372088832;omega) (w_lv fun l hl=> ?_)
   rw[hcl]at hl;subst hl
   refine w_an (Tree.pp (mayP_w (m:=⟨_,_,_,_,_,_,m.Balloon,_,_,_⟩) h.bal.2)).1 (w_lv fun x1 hx1=>w_br (fun _=>trivial) (fun hb=> ?_))
   have:x1=false:=hx1.trans hm
   rw[this]at hb;cases hb
 · obtain⟨P,s,o⟩:=may_P h hm
   exact(Tree.pp (apply_w0 o he)).1
end
theorem rsame_w(a:Q00)(ha:a.Mem.length≤1000000000000):(Q5p a a).w (fun b=>b=true):=by
 unfold Q5p
 repeat'(first
   |refine w_br (fun _=> ?_) (fun h=>absurd h (by simp [eqs,eq1];done))
   |exact w_an ha (w_lv fun x hx=>by rw[hx];exact Qpb _ ha)
   |refine w_an ha (w_lv fun x hx=>w_br (fun _=> ?_) (fun h=>by rw[hx,Qpb _ ha]at h;cases h))
   |exact rfl)
 all_goals(show(_==_)=true;simp)
end Go.Proofs.YtdkiadhigcfmkaaGreat
namespace Go.Proofs.YtdkiadhigcfmkaaGreat
open Go Go.GD
set_option linter.unusedVariables false
set_option linter.unusedSimpArgs false
set_option maxRecDepth 100000
theorem Q0m{t:STy}{ts:List STy}{es:List D}(h:Fits (t::ts) es): ∃d ds,es=d::ds∧Fit t d∧Fits ts ds:=by
 cases es with
 |nil=>exact absurd h (by simp [Fits])
 |cons d ds=>unfold Fits at h;exact⟨d,ds,rfl,h.1,h.2⟩
theorem Zbz{es:List D}(h:Fits [] es):es=[]:=by
 cases es with
 |nil=>rfl
 |cons d ds=>exact absurd h (by simp [Fits])
theorem u_of{x:Int}(h:IntKind.u32.min≤x∧x≤IntKind.u32.max):U x:=⟨h.1,by have:IntKind.u32.max=4294967295:=rfl;have:=h.2;omega⟩
theorem Z6c{es:List D}(h:Fits [.int .u32, .int .u32, .int .u32, .int .u32, .int .u32, .int .u32, .int .u32, .int .u32, .int .u32, .int .u32, .int .u32, .int .u32, .int .u32, .int .u32, .int .u32, .int .u32, .int .u32, .int .u32, .int .u32, .int .u32, .int .u32, .int .u32, .int .u32, .int .u32, .int .u32, .sl [.int .u32], .str, .bool, .int .u32, .bool, .int .u32, .int .u32, .int .u32, .int .i64, .int .i64, .int .u32, .int .u32, .str, .int .u32, .int .u32, .bool, .int .u32, .bool, .int .u32, .int .u32, .int .u32, .int .u64, .bool, .bool] es): ∃m:Q00,es=m.cells∧okV m∧m.Mem.length*4≤reachBytes:=by
 obtain⟨d0,e0,rfl,h0,H0⟩:=Q0m h
 obtain⟨x0,rfl,b0⟩:=Q16 h0
 obtain⟨d1,e1,rfl,h1,H1⟩:=Q0m H0
 obtain⟨x1,rfl,b1⟩:=Q16 h1
 obtain⟨d2,e2,rfl,h2,H2⟩:=Q0m H1
 obtain⟨x2,rfl,b2⟩:=Q16 h2
 obtain⟨d3,e3,rfl,h3,H3⟩:=Q0m H2
 obtain⟨x3,rfl,b3⟩:=Q16 h3
 obtain⟨d4,e4,rfl,h4,H4⟩:=Q0m H3
 obtain⟨x4,rfl,b4⟩:=Q16 h4
 obtain⟨d5,e5,rfl,h5,H5⟩:=Q0m H4
 obtain⟨x5,rfl,b5⟩:=Q16 h5
 obtain⟨d6,e6,rfl,h6,H6⟩:=Q0m H5
 obtain⟨x6,rfl,b6⟩:=Q16 h6
 obtain⟨d7,e7,rfl,h7,H7⟩:=Q0m H6
 obtain⟨x7,rfl,b7⟩:=Q16 h7
 obtain⟨d8,e8,rfl,h8,H8⟩:=Q0m H7
 obtain⟨x8,rfl,b8⟩:=Q16 h8
 obtain⟨d9,e9,rfl,h9,H9⟩:=Q0m H8
 obtain⟨x9,rfl,b9⟩:=Q16 h9
 obtain⟨d10,e10,rfl,h10,H10⟩:=Q0m H9
 obtain⟨x10,rfl,b10⟩:=Q16 h10
 obtain⟨d11,e11,rfl,h11,H11⟩:=Q0m H10
 obtain⟨x11,rfl,b11⟩:=Q16 h11
 obtain⟨d12,e12,rfl,h12,H12⟩:=Q0m H11
 obtain⟨x12,rfl,b12⟩:=Q16 h12
 obtain⟨d13,e13,rfl,h13,H13⟩:=Q0m H12
 obtain⟨x13,rfl,b13⟩:=Q16 h13
 obtain⟨d14,e14,rfl,h14,H14⟩:=Q0m H13
 obtain⟨x14,rfl,b14⟩:=Q16 h14
 obtain⟨d15,e15,rfl,h15,H15⟩:=Q0m H14
 obtain⟨x15,rfl,b15⟩:=Q16 h15
 obtain⟨d16,e16,rfl,h16,H16⟩:=Q0m H15
 obtain⟨x16,rfl,b16⟩:=Q16 h16
 obtain⟨d17,e17,rfl,h17,H17⟩:=Q0m H16
 obtain⟨x17,rfl,b17⟩:=Q16 h17
 obtain⟨d18,e18,rfl,h18,H18⟩:=Q0m H17
 obtain⟨x18,rfl,b18⟩:=Q16 h18
 obtain⟨d19,e19,rfl,h19,H19⟩:=Q0m H18
 obtain⟨x19,rfl,b19⟩:=Q16 h19
 obtain⟨d20,e20,rfl,h20,H20⟩:=Q0m H19
 obtain⟨x20,rfl,b20⟩:=Q16 h20
 obtain⟨d21,e21,rfl,h21,H21⟩:=Q0m H20
 obtain⟨x21,rfl,b21⟩:=Q16 h21
 obtain⟨d22,e22,rfl,h22,H22⟩:=Q0m H21
 obtain⟨x22,rfl,b22⟩:=Q16 h22
 obtain⟨d23,e23,rfl,h23,H23⟩:=Q0m H22
 obtain⟨x23,rfl,b23⟩:=Q16 h23
 obtain⟨d24,e24,rfl,h24,H24⟩:=Q0m H23
 obtain⟨x24,rfl,b24⟩:=Q16 h24
 obtain⟨d25,e25,rfl,h25,H25⟩:=Q0m H24
 obtain⟨x25,rfl,r25,b25⟩:=Z1y h25
 obtain⟨d26,e26,rfl,h26,H26⟩:=Q0m H25
 obtain⟨x26,rfl,b26⟩:=Za4 h26
 obtain⟨d27,e27,rfl,h27,H27⟩:=Q0m H26
 obtain⟨x27,rfl⟩:=Qeh h27
 obtain⟨d28,e28,rfl,h28,H28⟩:=Q0m H27
 obtain⟨x28,rfl,b28⟩:=Q16 h28
 obtain⟨d29,e29,rfl,h29,H29⟩:=Q0m H28
 obtain⟨x29,rfl⟩:=Qeh h29
 obtain⟨d30,e30,rfl,h30,H30⟩:=Q0m H29
 obtain⟨x30,rfl,b30⟩:=Q16 h30
 obtain⟨d31,e31,rfl,h31,H31⟩:=Q0m H30
 obtain⟨x31,rfl,b31⟩:=Q16 h31
 obtain⟨d32,e32,rfl,h32,H32⟩:=Q0m H31
 obtain⟨x32,rfl,b32⟩:=Q16 h32
 obtain⟨d33,e33,rfl,h33,H33⟩:=Q0m H32
 obtain⟨x33,rfl,b33⟩:=Q16 h33
 obtain⟨d34,e34,rfl,h34,H34⟩:=Q0m H33
 obtain⟨x34,rfl,b34⟩:=Q16 h34
 obtain⟨d35,e35,rfl,h35,H35⟩:=Q0m H34
 obtain⟨x35,rfl,b35⟩:=Q16 h35
 obtain⟨d36,e36,rfl,h36,H36⟩:=Q0m H35
 obtain⟨x36,rfl,b36⟩:=Q16 h36
 obtain⟨d37,e37,rfl,h37,H37⟩:=Q0m H36
 obtain⟨x37,rfl,b37⟩:=Za4 h37
 obtain⟨d38,e38,rfl,h38,H38⟩:=Q0m H37
 obtain⟨x38,rfl,b38⟩:=Q16 h38
 obtain⟨d39,e39,rfl,h39,H39⟩:=Q0m H38
 obtain⟨x39,rfl,b39⟩:=Q16 h39
 obtain⟨d40,e40,rfl,h40,H40⟩:=Q0m H39
 obtain⟨x40,rfl⟩:=Qeh h40
 obtain⟨d41,e41,rfl,h41,H41⟩:=Q0m H40
 obtain⟨x41,rfl,b41⟩:=Q16 h41
 obtain⟨d42,e42,rfl,h42,H42⟩:=Q0m H41
 obtain⟨x42,rfl⟩:=Qeh h42
 obtain⟨d43,e43,rfl,h43,H43⟩:=Q0m H42
 obtain⟨x43,rfl,b43⟩:=Q16 h43
 obtain⟨d44,e44,rfl,h44,H44⟩:=Q0m H43
 obtain⟨x44,rfl,b44⟩:=Q16 h44
 obtain⟨d45,e45,rfl,h45,H45⟩:=Q0m H44
 obtain⟨x45,rfl,b45⟩:=Q16 h45
 obtain⟨d46,e46,rfl,h46,H46⟩:=Q0m H45
 obtain⟨x46,rfl,b46⟩:=Q16 h46
 obtain⟨d47,e47,rfl,h47,H47⟩:=Q0m H46
 obtain⟨x47,rfl⟩:=Qeh h47
 obtain⟨d48,e48,rfl,h48,H48⟩:=Q0m H47
 obtain⟨x48,rfl⟩:=Qeh h48
 obtain rfl:=Zbz H48
 refine⟨⟨⟨⟨x0,x1,x2,x3,x4,x5,x6,x7,x8,x9,x10,x11,x12,x13,x14,x15⟩,x16,⟨x17,x18,x19,x20,x21,x22,x23,x24⟩⟩,x25,⟨x26⟩,⟨x27,x28,x29⟩,⟨x30,x31,x32,x33,x34,x35,x36,x37⟩,⟨x38,x39,x40,x41,x42,x43⟩,⟨x44,x45⟩,x46,x47,x48⟩,rfl,⟨⟨?_,u_of b16,?_⟩,fun w hw=>u_of (b25 w hw),⟨u_of b31,u_of b32,u_of b35,u_of b36⟩,⟨u_of b38,u_of b39,u_of b41,u_of b43⟩,⟨u_of b44,u_of b45⟩,b46.1⟩,r25⟩
 · intro w hw
   have hw:w∈[x0,x1,x2,x3,x4,x5,x6,x7,x8,x9,x10,x11,x12,x13,x14,x15]:=hw
   simp only[List.mem_cons,List.not_mem_nil,or_false]at hw
   rcases hw with rfl|rfl|rfl|rfl|rfl|rfl|rfl|rfl|rfl|rfl|rfl|rfl|rfl|rfl|rfl|rfl
   · exact u_of b0
   · exact u_of b1
   · exact u_of b2
   · exact u_of b3
   · exact u_of b4
   · exact u_of b5
   · exact u_of b6
   · exact u_of b7
   · exact u_of b8
   · exact u_of b9
   · exact u_of b10
   · exact u_of b11
   · exact u_of b12
   · exact u_of b13
   · exact u_of b14
   · exact u_of b15
 · intro w hw
   have hw:w∈[x17,x18,x19,x20,x21,x22,x23,x24]:=hw
   simp only[List.mem_cons,List.not_mem_nil,or_false]at hw
   rcases hw with rfl|rfl|rfl|rfl|rfl|rfl|rfl|rfl
   · exact u_of b17
   · exact u_of b18
   · exact u_of b19
   · exact u_of b20
   · exact u_of b21
   · exact u_of b22
   · exact u_of b23
   · exact u_of b24
theorem Ze2{es:List D}(h:Fits [.int .i64, .int .u32, .str] es): ∃e:Q0d,es=e.cells∧U e.N:=by
 obtain⟨d0,e0,rfl,h0,H0⟩:=Q0m h
 obtain⟨x0,rfl,b0⟩:=Q16 h0
 obtain⟨d1,e1,rfl,h1,H1⟩:=Q0m H0
 obtain⟨x1,rfl,b1⟩:=Q16 h1
 obtain⟨d2,e2,rfl,h2,H2⟩:=Q0m H1
 obtain⟨x2,rfl,b2⟩:=Za4 h2
 obtain rfl:=Zbz H2
 exact⟨⟨x0,x1,x2⟩,rfl,u_of b1⟩
end Go.Proofs.YtdkiadhigcfmkaaGreat
namespace Go.Proofs.YtdkiadhigcfmkaaGreat
open Go Go.GD
attribute [local irreducible] Q4
set_option linter.unusedVariables false
set_option linter.unusedSimpArgs false
set_option maxRecDepth 100000
theorem applies(kind:Int)(l acts:List Int)(where0 what:Int){w:Q00}(hw:okV w)(raw:Bool){e:Q0d}(he:U e.N)(made:Bool)(hl:l.length*8≤reachBytes):Q7l kind l acts where0 what w raw e made∧Q6g kind l acts where0 what w raw e made=true:=by
 have aw: ∀x,x=Q1s→x=true:=fun x e=>e.trans Qzm
 refine Tree.pp (W:=fun r=>r=true) ?_
 unfold Q3e
 refine w_lv fun x0 hx0=>w_br (fun _=>w_an Qd6 (w_lv aw)) fun hb=>w_br (fun _=>w_an Qd6 (w_lv aw)) fun _=> ?_
 obtain⟨f1,f2⟩:=few_two hx0 hb
 have main: ∀e:Q0d,U e.N→(Tree.an (Qe0 w raw kind l acts where0 what) (.lv (Qta w raw kind l acts where0 what) fun(x9:Q00)=> .an (Q4n x9 e) (.lv (Q5z x9 e) fun(x10:Q00×Bool)=> .an (Q6u x9 e) (.lv (Q8v x9 e) fun(x11:Q00×Bool)=> .an (Q27 x10.fst x11.fst) (.lv (Qa6 x10.fst x11.fst) fun(x12:Bool)=> .br x12 (.br (x10.snd==x11.snd) (.an Q11 (.lv Q1s fun(x13:Bool)=> .lf x13)) (.lf false)) (.lf false)))))).w (fun r=>r=true):=fun e he=>by
   refine Q0l (raw_w hw raw kind l acts where0 what hl f1 f2) fun x2 ⟨h2,l2⟩=> ?_
   have sm:=Zd1 h2 e
   obtain⟨p1,m1⟩:=rapplyV h2 l2 he
   refine w_an (Zcz h2 l2 he) (w_lv fun x3 e3=>w_an p1 (w_lv fun x4 e4=> ?_))
   have e34:x4=x3:=by rw[e4,e3,sm]
   subst e34
   rw[←e4]at m1
   exact Q0l (rsame_w x4.1 (by omega)) fun x5 h5=>w_br (fun _=>w_br (fun _=>w_an Qd6 (w_lv aw)) (fun h=>by simp at h)) (fun h=>by rw[h5]at h;cases h)
 exact w_br (fun _=>Q0l (event_w what) fun x3 h3=>main x3 h3) (fun _=>main e he)
end Go.Proofs.YtdkiadhigcfmkaaGreat

/-
  A part of the proof.
-/
import Derived.Test.YtpcbkbalabgnlaaGreatRecordTellsLaws2
import Derived.Test.YtpcbkbalabgnlaaGreatRecordTellsNewsB
import Derived.Test.YtpcbkbalabgnlaaGreatRecordTellsZg
import Derived.Test.YtpcbkbalabgnlaaGreatRecordTellsZt
import Derived.Test.YtpcbkbalabgnlaaGreatRecordTellsFe
import Derived.Test.YtpcbkbalabgnlaaGreatRecordTellsLaw
set_option maxRecDepth 100000
set_option linter.unusedVariables false
set_option linter.unusedSimpArgs false
namespace Go.Proofs.YtpcbkbalabgnlaaGreat
open Go Go.GD
theorem Zig(i:Q0h):U (Q1m i).1:=by
 refine Tree.post (Qhl i) (W:=λr=>U r.1) ?_
 unfold Qhl
 exact w_lv λ_ _=>w_br (λ_=>U_0) (λ_=>U_or _ _)
theorem code_w(l:List Int)(hl:l.length*8≤reachBytes):(Qad l).w (λr=>(r.length:Int)=l.length∧ ∀w∈r,U w):=by
 have hl':l.length*8≤140737488351232:=hl
 have app: ∀{r:List Int} {x:Int},(∀w∈r,U w)→U x→ ∀w∈r++[x],U w:=λhr hx w hw=>by
   rw[List.mem_append]at hw
   rcases hw with hw|hw
   · exact hr w hw
   · rw[List.mem_singleton.1 hw];exact hx
 unfold Qad
 refine w_lp (inv:=λz=>Qqg l z∧ ∀w∈z.2,U w) (μ:=Qdl l) ⟨⟨by omega,by simp,by simp⟩,by simp⟩ (Nat.lt_succ_self _) (λv0 hv=> ?_)
 obtain⟨⟨h1,h2,h3⟩,h4⟩:=hv
 refine w_br (λh=> ?_) (λh=> ?_)
 · have h:=of_decide_eq_true h
   have next: ∀x:Int,U x→(Qqg l (IntKind.wrap IntKind.i64 (v0.1+1),v0.2++[x])∧ ∀w∈v0.2++[x],U w)∧Qdl l (IntKind.wrap IntKind.i64 (v0.1+1),v0.2++[x])<Qdl l v0:=λx hx=>by
     have hw:IntKind.i64.wrap (v0.1+1)=v0.1+1:=by rw[IntKind.wrap_i64];omega
     rw[hw]
     refine⟨⟨⟨?_,?_,?_⟩,app h4 hx⟩,?_⟩
     · show 0≤v0.1+1;omega
     · show v0.1+1≤l.length;omega
     · show((v0.2++[x]).length:Int)=v0.1+1;simp;omega
     · show(l.length-(v0.1+1)).toNat<(l.length-v0.1).toNat;omega
   have hb:(Nat.beq 1 1&&Nat.blt 0 1&&decide (0≤v0.1∧v0.1<(l.length:Int)))=true:=by simp [Nat.blt];omega
   have hc:decide (4*(v0.2.length+1)≤140737488355328)=true:=decide_eq_true (by omega)
   exact w_cn hb (w_br (λ_=>w_cn hb (w_cn hc (next _ (Q0s _)))) (λ_=>w_cn hb (w_an (Zix _) (w_lv λx0 _=>w_lv λx1 hx=>w_cn hc (next _ (by rw[hx];exact Zig _))))))
 · have h:=of_decide_eq_false h
   exact⟨by show(v0.2.length:Int)=l.length;omega,h4⟩
theorem Qkq(steps:Int):0≤Q0m steps∧Q0m steps≤4000:=by
 refine Tree.post (Qdy steps) (W:=λr=>0≤r∧r≤4000) ?_
 unfold Qdy
 refine w_lf ?_
 constructor<;>(repeat' split)<;>omega
theorem Qwv{P:Nat}{r:Q00}(h:okR P r)(steps:Int){clock:Int}(hc:U clock)(hl:r.B9.length≤900000)(hq:r.A2.length≤1000)(hu: ∀q∈r.A2,U q.N):
    (Q3z r steps clock).w (λx=>okR P x.1∧x.1.B9.length≤r.B9.length+r.A2.length+8000∧(x.1.A2=r.A2∨x.1.A2=[])∧x.2.length≤4000):=by
  unfold Q3z
  refine Q0b (own_w h (by omega) (by omega)) λx0 hx=> ?_
  obtain⟨k1,k2,k3⟩:=hx
  refine w_lv λx1 _=>w_br (λ_=>⟨k1,by rw[k2];omega, .inl k3,Nat.zero_le _⟩) (λ_=> ?_)
  have hcl:U (if clock>x0.B0 then clock else x0.B0):=by split<;>first|exact hc|exact k1.clock
  refine w_lp (inv:=λz=>0≤z.1∧z.1≤r.A2.length∧okR P z.2∧(z.2.B9.length:Int)≤r.B9.length+z.1∧z.2.A2=r.A2) (μ:=Qcq r steps clock) ⟨by omega,by omega,⟨k1.m,hcl⟩,by rw[k2];omega,k3⟩ (Nat.lt_succ_self _) (λz hz=> ?_)
  obtain⟨z1,z2,z3,z4,z5⟩:=hz
  refine w_br (λhb=> ?_) (λhb=> ?_)
  · have hb:=of_decide_eq_true hb
    rw[z5]at hb
    have hm:(z.2.A2.getD z.1.toNat (RK.dflt RK.apiEvent))∈r.A2:=by
      rw[z5]
      have hlt:z.1.toNat<r.A2.length:=by omega
      rw[List.getD_eq_getElem?_getD,List.getElem?_eq_getElem hlt]
      exact List.getElem_mem hlt
    refine w_cn (by rw[z5];simp [Nat.blt];omega) (Q0b (offer_w z3 (hu _ hm) (by omega)) λx hx=>w_nx ?_)
    obtain⟨a1,a2,a3⟩:=hx
    show(0≤IntKind.i64.wrap (z.1+1)∧IntKind.i64.wrap (z.1+1)≤r.A2.length∧okR P x∧(x.B9.length:Int)≤r.B9.length+IntKind.i64.wrap (z.1+1)∧x.A2=r.A2)∧(x.A2.length-IntKind.i64.wrap (z.1+1)).toNat<(z.2.A2.length-z.1).toNat
    have ew:IntKind.i64.wrap (z.1+1)=z.1+1:=by rw[IntKind.wrap_i64];omega
    rw[ew,a3,z5]
    exact⟨⟨by omega,by omega,a1,by omega,rfl⟩,by omega⟩
  · refine w_lp (inv:=λy=>0≤y.1∧y.1≤4000∧okR P y.2.1∧(y.2.1.B9.length:Int)≤r.B9.length+r.A2.length+2*y.1∧y.2.1.A2=[]∧(y.2.2.length:Int)≤y.1) (μ:=Q6k r steps clock z) ⟨by omega,by omega,⟨z3.m,z3.clock⟩,by simp;omega,rfl,by simp⟩ (Nat.lt_succ_self _) (λy hy=> ?_)
    obtain⟨y1,y2,y3,y4,y5,y6⟩:=hy
    have ew:IntKind.i64.wrap (y.1+1)=y.1+1:=by rw[IntKind.wrap_i64];omega
    refine w_lv λx3 hx3=>w_br (λhb=> ?_) (λ_=>⟨y3,by show y.2.1.B9.length≤_;omega, .inr y5,by show y.2.2.length≤_;omega⟩)
    have hb:=of_decide_eq_true hb
    have lim:=(Qkq steps).2
    rw[←hx3]at lim
    refine w_lv λx4 _=>w_br (λ_=>Q0b (offer_w (e:=⟨_,_,_⟩) y3 U_0 (by omega)) λx5 h5=> ?_) (λ_=> ?_)
    · obtain⟨q1,q2,q3⟩:=h5
      have q3:=q3.trans y5
      refine Q0b (Zhq _) λs1 _=>w_br (λ_=>⟨q1,by show x5.B9.length≤_;omega, .inr q3,by show y.2.2.length≤_;omega⟩) (λ_=>Q0b (Qwp q1.m.cpu q1.m.mem) λs2 _=>w_br (λ_=>w_cn (decide_eq_true (by omega)) (Q0b (Qtd (r:=⟨x5.A0,x5.B0,x5.B9++[_],x5.A2⟩) ⟨q1.m,q1.clock⟩ q1.clock) λo ho=> ?_)) (λ_=>Q0b (Qtd q1 q1.clock) λo ho=> ?_))
      · obtain⟨a1,⟨⟨a2,a3⟩,a4,a5⟩⟩:=ho
        have e4:o.2.B9.length=x5.B9.length+1:=by rw[a4];simp
        have a5:o.2.A2=[]:=a5.trans q3
        refine w_cn (decide_eq_true (by omega)) (w_nx ?_)
        show(0≤IntKind.i64.wrap (y.1+1)∧IntKind.i64.wrap (y.1+1)≤4000∧okR P _∧(o.2.B9.length:Int)≤r.B9.length+r.A2.length+2*IntKind.i64.wrap (y.1+1)∧o.2.A2=[]∧((y.2.2++o.1).length:Int)≤IntKind.i64.wrap (y.1+1))∧(4000-IntKind.i64.wrap (y.1+1)).toNat<(4000-y.1).toNat
        rw[ew,a5,List.length_append]
        exact⟨⟨by omega,by omega,⟨a2,Q0s _⟩,by omega,rfl,by omega⟩,by omega⟩
      · obtain⟨a1,⟨⟨a2,a3⟩,a4,a5⟩⟩:=ho
        have e4:o.2.B9.length=x5.B9.length:=by rw[a4]
        have a5:o.2.A2=[]:=a5.trans q3
        refine w_cn (decide_eq_true (by omega)) (w_nx ?_)
        show(0≤IntKind.i64.wrap (y.1+1)∧IntKind.i64.wrap (y.1+1)≤4000∧okR P _∧(o.2.B9.length:Int)≤r.B9.length+r.A2.length+2*IntKind.i64.wrap (y.1+1)∧o.2.A2=[]∧((y.2.2++o.1).length:Int)≤IntKind.i64.wrap (y.1+1))∧(4000-IntKind.i64.wrap (y.1+1)).toNat<(4000-y.1).toNat
        rw[ew,a5,List.length_append]
        exact⟨⟨by omega,by omega,⟨a2,Q0s _⟩,by omega,rfl,by omega⟩,by omega⟩
    · refine Q0b (Zhq _) λs1 _=>w_br (λ_=>⟨y3,by show y.2.1.B9.length≤_;omega, .inr y5,by show y.2.2.length≤_;omega⟩) (λ_=>Q0b (Qwp y3.m.cpu y3.m.mem) λs2 _=>w_br (λ_=>w_cn (decide_eq_true (by omega)) (Q0b (Qtd (r:=⟨y.2.1.A0,y.2.1.B0,y.2.1.B9++[_],y.2.1.A2⟩) ⟨y3.m,y3.clock⟩ y3.clock) λo ho=> ?_)) (λ_=>Q0b (Qtd y3 y3.clock) λo ho=> ?_))
      · obtain⟨a1,⟨⟨a2,a3⟩,a4,a5⟩⟩:=ho
        have e4:o.2.B9.length=y.2.1.B9.length+1:=by rw[a4];simp
        have a5:o.2.A2=[]:=a5.trans y5
        refine w_cn (decide_eq_true (by omega)) (w_nx ?_)
        show(0≤IntKind.i64.wrap (y.1+1)∧IntKind.i64.wrap (y.1+1)≤4000∧okR P _∧(o.2.B9.length:Int)≤r.B9.length+r.A2.length+2*IntKind.i64.wrap (y.1+1)∧o.2.A2=[]∧((y.2.2++o.1).length:Int)≤IntKind.i64.wrap (y.1+1))∧(4000-IntKind.i64.wrap (y.1+1)).toNat<(4000-y.1).toNat
        rw[ew,a5,List.length_append]
        exact⟨⟨by omega,by omega,⟨a2,Q0s _⟩,by omega,rfl,by omega⟩,by omega⟩
      · obtain⟨a1,⟨⟨a2,a3⟩,a4,a5⟩⟩:=ho
        have e4:o.2.B9.length=y.2.1.B9.length:=by rw[a4]
        have a5:o.2.A2=[]:=a5.trans y5
        refine w_cn (decide_eq_true (by omega)) (w_nx ?_)
        show(0≤IntKind.i64.wrap (y.1+1)∧IntKind.i64.wrap (y.1+1)≤4000∧okR P _∧(o.2.B9.length:Int)≤r.B9.length+r.A2.length+2*IntKind.i64.wrap (y.1+1)∧o.2.A2=[]∧((y.2.2++o.1).length:Int)≤IntKind.i64.wrap (y.1+1))∧(4000-IntKind.i64.wrap (y.1+1)).toNat<(4000-y.1).toNat
        rw[ew,a5,List.length_append]
        exact⟨⟨by omega,by omega,⟨a2,Q0s _⟩,by omega,rfl,by omega⟩,by omega⟩
section
variable {P:Nat} {m:Q01} (h:okM P m)
include h
theorem min_w(port:Int){clock:Int}(hc:U clock):(Qlo m port clock).w (λx=>U x.1∧okM P x.2∧x.2.A6=m.A6):=by
 have k:=(⟨h,rfl⟩:okM P m∧m.A6=m.A6)
 obtain⟨h1,h2,h3,h4,h5,h7⟩:=h
 unfold Qlo
 exact w_br (λ_=>w_lv λx hx=>⟨hx▸Z0l _ _,⟨⟨h1,h2,h3,h4,h5,h7⟩,rfl⟩⟩) (λ_=>w_br (λ_=>⟨hc,k⟩) (λ_=>w_br (λ_=>w_lv λx hx=>⟨hx▸Zct _,k⟩) (λ_=>w_br (λ_=>w_lv λx hx=>⟨hx▸Zi h3 _,k⟩) (λ_=>w_br (λ_=>w_lv λx hx=>⟨hx▸nicIn_w h4 _,k⟩) (λ_=>w_lv λx hx=>⟨hx▸Qzi h5.1 _,k⟩)))))
theorem mout_w(port:Int){v:Int}(hv:U v):(Qen m port v).w (λx=>x.1.length≤1∧okM P x.2∧x.2.A6=m.A6):=by
 have k:=(⟨h,rfl⟩:okM P m∧m.A6=m.A6)
 obtain⟨h1,h2,h3,h4,h5,h7⟩:=h
 unfold Qen
 exact w_br (λ_=>⟨Nat.le_refl _,k⟩) (λ_=>w_br (λ_=>⟨Nat.zero_le _,k⟩) (λ_=>w_br (λ_=>w_lv λ_ _=>⟨Nat.zero_le _,⟨⟨h1,h2,h3,h4,h5,h7⟩,rfl⟩⟩) (λ_=>w_br (λ_=>Q0b (Zcu h2 h3 _ hv _) λx hx=>⟨hx.2,⟨⟨h1,h2,hx.1,h4,h5,h7⟩,rfl⟩⟩) (λ_=>w_br (λ_=>Q0b (Zjv h2 h4 _ hv _) λx hx=>⟨hx.2,⟨⟨h1,h2,h3,hx.1,h5,h7⟩,rfl⟩⟩) (λ_=>Q0b (give_w h2 h5 _ hv) λx hx=>⟨Nat.zero_le _,⟨⟨h1,hx.2,h3,h4,hx.1,h7⟩,rfl⟩⟩)))))
theorem Z4z{clock:Int}(hc:U clock):(Q9t m clock).w (λx=>x.1.length≤1∧okM P x.2∧x.2.A6=IntKind.wrap .u64 (m.A6+1)):=by
 obtain⟨h1,h2,h3,h4,h5,h7⟩:=h
 unfold Q9t
 refine Q0b (Qmg h1) λx0 c0=>Q0b (do_w c0 h2) λx1 hx=> ?_
 obtain⟨c1,v1,m1⟩:=hx
 refine w_br (λ_=>Zae (min_w (m:=⟨_,_,_,_,_,_,_,_,_,_⟩) ⟨c1,m1,h3,h4,h5,h7⟩ _ hc) λx2 hx=> ?_) (λ_=>w_br (λ_=>Q0b (mout_w (m:=⟨_,_,_,_,_,_,_,_,_,_⟩) ⟨c1,m1,h3,h4,h5,h7⟩ _ v1) λx4 hx=> ?_) (λ_=> ?_))
 · obtain⟨u,⟨k1,k2,k3,k4,k5,k7⟩,k6⟩:=hx
   exact Q0b (Z4o k1 _ u) λx3 h3=>⟨Nat.zero_le _,⟨h3,k2,k3,k4,k5,w0 _⟩,congrArg (λn=>IntKind.wrap .u64 (n+1)) k6⟩
 · obtain⟨u,⟨k1,k2,k3,k4,k5,k7⟩,k6⟩:=hx
   exact⟨u,⟨k1,k2,k3,k4,k5,w0 _⟩,congrArg (λn=>IntKind.wrap .u64 (n+1)) k6⟩
 · repeat'(first
     |exact⟨Nat.zero_le _,⟨c1,m1,h3,h4,h5,w0 _⟩,rfl⟩
     |refine w_br (λ_=> ?_) (λ_=> ?_))
theorem own7_w:(Q9w m).w (λx=>okM P x∧x.A6=m.A6):=by
 obtain⟨h1,h2,h3,h4,h5,h7⟩:=h
 unfold Q9w
 exact Q0b (copy_w h2) λx hx=>⟨⟨h1,by rw[hx];exact h2,h3,h4,h5,h7⟩,rfl⟩
end
theorem U_all(n:Nat): ∀w∈List.replicate n (0:Int),U w:=λw hw=>by rw[(List.mem_replicate.1 hw).2];exact U_0
theorem zero_ok:okM 0 ⟨⟨⟨0,0,0,0,0,0,0,0,0,0,0,0,0,0,0,0⟩,0,⟨0,0,0,0,0,0,0,0⟩⟩,[],⟨[]⟩,⟨false,0,false⟩,⟨0,0,0,0,0,0,0,[]⟩,⟨0,0,false,0,false,0⟩,⟨0,0⟩,0,false,false⟩:=
 ⟨⟨U_all 16,U_0,U_all 8⟩,⟨rfl,by omega,by omega,λw hw=>by cases hw⟩,⟨U_0,U_0,U_0,U_0⟩,⟨U_0,U_0,U_0,U_0⟩,⟨U_0,U_0⟩,by decide⟩
theorem Zib{P:Nat}{m:Q01}(h:okM P m)(hc:0≤m.A6):(Qa3 m [] 87).w (λx=> ∃Q,okM Q x.1):=by
 have z: ∃Q,okM Q _:=⟨0,zero_ok⟩
 unfold Qa3
 refine w_lv λx0 _=>w_br (λ_=>z) λ_=>w_br (λ_=>z) λ_=>w_br (λ_=>z) λ_=>w_an (show Q9f [] by show([]:List Q0q).length≤1000000000000;decide) (w_lv λx1 _=>w_br (λ_=>z) λ_=>Q0b (own7_w h) λx2 hx=> ?_)
 refine w_lp (inv:=λv:Q01×List Q04=>okM P v.1∧0≤v.1.A6∧v.2.length+(87-v.1.A6).toNat≤87) (μ:=Qgx m [] 87) ⟨hx.1,by rw[hx.2];exact hc,by rw[hx.2];show 0+_≤87;omega⟩ (Nat.lt_succ_self _) λv0 ⟨a1,a2,a3⟩=> ?_
 refine w_br (λhb=>w_br (λ_=> ?_) (λ_=>⟨P,a1⟩)) (λ_=>⟨P,a1⟩)
 have hb:=of_decide_eq_true hb
 refine w_lp (inv:=λ_=>True) (μ:=Qgw m [] 87 v0) trivial (Nat.lt_succ_self _) λv1 _=> ?_
 refine w_br (λ_=>⟨P,a1⟩) λ_=>Q0b (idle_w _) λx3 _=>w_br (λ_=>⟨P,a1⟩) λ_=>Q0b (reads_w a1.cpu a1.mem) λx4 _=>w_br (λ_=>z) λ_=>Q0b (Z4z a1 U_0) λx5 h5=> ?_
 obtain⟨b1,b2,b3⟩:=h5
 refine w_cn (decide_eq_true (by omega)) (w_nx ?_)
 have e:x5.2.A6=v0.1.A6+1:=by rw[b3,IntKind.wrap_u64];omega
 show(_∧_∧_)∧(_:Nat)<_
 refine⟨⟨b2,by show 0≤x5.2.A6;omega,by show(v0.2++x5.1).length+(87-x5.2.A6).toNat≤87;rw[List.length_append];omega⟩,by show(87-x5.2.A6).toNat<(87-v0.1.A6).toNat;omega⟩
set_option synthInstance.maxHeartbeats 2000000
set_option synthInstance.maxSize 100000
noncomputable section
instance ref1_lines_ck (src:(List UInt8)):Ck (Qkl src):=ckT (t:=Qgb src) (by delta Qgb;infer_instance)
instance ref1_tokens_ck (s:(List UInt8)):Ck (Qie s):=ckT (t:=Qdm s) (by delta Qdm;infer_instance)
instance ref1_digits_ck (n:Int):Ck (Q41 n):=let d:Decidable (Q41 n):=(by delta Q41;infer_instance);⟨@decide _ d,@of_decide_eq_true _ d⟩
instance ref1_Decimal_ck (n:Int):Ck (Qgn n):=ckT (t:=Q84 n) (by delta Q84;infer_instance)
instance ref1_reg_ck (r:Int):Ck (Qor r):=ckT (t:=Qf2 r) (by delta Qf2;infer_instance)
instance ref1_name_ck (s:(List UInt8)):Ck (Qh8 s):=ckT (t:=Qi1 s) (by delta Qi1;infer_instance)
instance Zmv (op:Int):Ck (Qf op):=ckT (t:=Qa7 op) (by delta Qa7;infer_instance)
instance Zlc (s:(List UInt8)):Ck (Q47 s):=ckT (t:=Q9l s) (by delta Q9l;infer_instance)
instance ref1_pattern_ck (what:(List UInt8)):Ck (Q73 what):=ckT (t:=Qcf what) (by delta Qcf;infer_instance)
instance ref1_number_ck (s:(List UInt8)):Ck (Qi s):=ckT (t:=Qdh s) (by delta Qdh;infer_instance)
instance ref1_matched_ck (l:(List Q0g)) (p:(List UInt8)):Ck (Q74 l p):=ckT (t:=Qcc l p) (by delta Qcc;infer_instance)
instance ref1_parsed_ck (s:(List UInt8)):Ck (Qj9 s):=ckT (t:=Qec s) (by delta Qec;infer_instance)
instance ref1_address_ck (l:(List Q2e)) (label:(List UInt8)):Ck (Q4b l label):=let d:Decidable (Q4b l label):=(by delta Q4b;infer_instance);⟨@decide _ d,@of_decide_eq_true _ d⟩
instance ref1_read_ck (src:(List UInt8)):Ck (Qmf src):=ckT (t:=Qhv src) (by delta Qhv;infer_instance)
instance ref1_inst_ck (st:Q0a) (v:Int):Ck (Qbp st v):=ckT (t:=Qib st v) (by delta Qib;infer_instance)
instance Zmx (src:(List UInt8)):Ck (Qbb src):=ckT (t:=Qai src) (by delta Qai;infer_instance)
theorem asm_pre:Qbb ((108:UInt8)::(tblZe0++Z5m++(Z5r++Z6g)++(Z6j++Z69++(Z59++Z4v))++(Z56++Z64++(Qvx++Qvf)++(Qv8++Qvb++(Qw9++Qu8))))):=ck inferInstance (by kernel_rfl)
def inU(x:Int):Bool:=decide (0≤x)&&decide (x<4294967296)
theorem asm_gen(l:List Int)(h:(Nat.ble l.length 160&&List.all l inU)=true):l.length≤160∧ ∀w∈l,U w:=by
 rw[Bool.and_eq_true]at h
 refine⟨Nat.le_of_ble_eq_true h.1,λw hw=> ?_⟩
 have:=List.all_eq_true.1 h.2 w hw
 simp only[inU,Bool.and_eq_true,decide_eq_true_eq]at this
 exact this
theorem asm_ok:(Q28 (List.append (List.append (List.append (List.append Z7r Z5m) (List.append Z5r Z6g)) (List.append (List.append Z6j Z69) (List.append Z59 Z4v))) (List.append (List.append (List.append Z56 Z64) (List.append Qvx Qvf)) (List.append (List.append Qv8 Qvb) (List.append Qw9 Qu8))))).1.length≤160∧ ∀w∈(Q28 (List.append (List.append (List.append (List.append Z7r Z5m) (List.append Z5r Z6g)) (List.append (List.append Z6j Z69) (List.append Z59 Z4v))) (List.append (List.append (List.append Z56 Z64) (List.append Qvx Qvf)) (List.append (List.append Qv8 Qvb) (List.append Qw9 Qu8))))).1,U w:=asm_gen _ (by kernel_rfl)
end
theorem new_w(i:List Int)(hu: ∀w∈i,U w)(hl:i.length≤256):(Q8d 8 4 i).w (λx=>okM 8 x.1∧x.1.A6=0):=by
 unfold Q8d
 refine w_br (λh=>absurd h (by decide)) λ_=>w_br (λh=>absurd h (by decide)) λ_=>w_br (λh=>absurd h (by decide)) λ_=>w_br (λh=>absurd h (by decide)) λ_=>w_br (λh=> ?_) λ_=>w_lv λx0 e0=>w_an (Zd6 _) (w_lv λx1 e1=> ?_)
 · have h:=of_decide_eq_true h
   rw[show IntKind.i64.wrap (8*32)=256 by decide]at h
   omega
 have hx:x1=List.replicate 256 0:=by rw[e1];kernel_rfl
 have c0:Q2q x0:=by rw[e0];exact⟨by
   intro w hw
   simp only[Qpe,Qjy,Tree.m,A16.l,List.mem_cons,List.not_mem_nil,or_false,or_self]at hw
   rw[hw];exact U_0,U_0,by
   intro w hw
   simp only[Qpe,Qjy,Tree.m,A8.l,List.mem_cons,List.not_mem_nil,or_false,or_self]at hw
   rcases hw with rfl|rfl
   · exact⟨by omega,by omega⟩
   · exact U_0⟩
 have hz: ∀w∈x1,U w:=by rw[hx];exact U_all 256
 have hn:x1.length=256:=by rw[hx,List.length_replicate]
 refine⟨⟨c0,⟨?_,by omega,by omega,λw hw=> ?_⟩,⟨U_0,U_0,U_0,U_0⟩,⟨U_0,U_0,U_0,U_0⟩,⟨U_0,U_0⟩,Int.le_refl _⟩,rfl⟩
 · simp only[List.length_append,List.length_take,List.length_drop,hn];omega
 · rcases List.mem_append.1 hw with h1|h1
   · exact hu w (List.mem_of_mem_take h1)
   · exact hz w (List.mem_of_mem_drop h1)
theorem machine_w(kind:Int)(l:List Int)(hl:l.length*8≤reachBytes):(Q85 kind l).w (λx=> ∃Q,okM Q x):=by
  have hl':l.length*8≤140737488351232:=hl
  unfold Q85
  refine w_an (Q7c (by decide)) (w_lv λx0 _=>w_br (λ_=>w_an asm_pre (w_lv λx1 e1=> ?_)) (λ_=> ?_))
  · obtain⟨q1,q2⟩:x1.1.length≤160∧ ∀w∈x1.1,U w:=by rw[e1];exact asm_ok
    refine w_lp (inv:=λv:List Int=>v.length≤160∧ ∀w∈v,U w) (μ:=Qeb kind l) ⟨q1,q2⟩ (Nat.lt_succ_self _) λv0 ⟨a1,a2⟩=> ?_
    refine w_br (λhb=> ?_) (λ_=> ?_)
    · have hb:=of_decide_eq_true hb
      refine w_cn (decide_eq_true (by omega)) (w_nx ?_)
      show(_∧_)∧(_:Nat)<_
      refine⟨⟨by rw[List.length_append,List.length_singleton];omega,λw hw=> ?_⟩,by show 160-(v0++[0]).length<160-v0.length;rw[List.length_append,List.length_singleton];omega⟩
      rcases List.mem_append.1 hw with h1|h1
      · exact a2 w h1
      · rw[List.mem_singleton.1 h1];exact U_0
    · refine Q0b (code_w l hl) λx2 ⟨b1,b2⟩=>w_cn (decide_eq_true (by omega)) ?_
      have hu: ∀w∈v0++x2,U w:=λw hw=>(List.mem_append.1 hw).elim (a2 w) (b2 w)
      refine w_br (λhb=> ?_) (λhb=> ?_)
      · have hb:=of_decide_eq_true hb
        refine w_cn (by simp [Nat.blt];rw[List.length_append]at hb;omega) (Q0b (new_w _ (λw hw=>hu w (List.mem_of_mem_drop (List.mem_of_mem_take hw))) (by rw[List.length_take];exact Nat.le_trans (Nat.min_le_left _ _) (by decide))) λx3 ⟨c1,c2⟩=>w_br (λ_=>Q0b (Zib c1 (by omega)) λx4 hx=>hx) (λ_=>⟨8,c1⟩))
      · have hb:=of_decide_eq_false hb
        exact Q0b (new_w _ hu (by omega)) λx3 ⟨c1,c2⟩=>w_br (λ_=>Q0b (Zib c1 (by omega)) λx4 hx=>hx) (λ_=>⟨8,c1⟩)
  · refine Q0b (code_w l hl) λx2 ⟨b1,b2⟩=>w_cn (decide_eq_true (by omega)) ?_
    refine w_br (λhb=> ?_) (λhb=> ?_)
    · have hb:=of_decide_eq_true hb
      refine w_cn (by simp [Nat.blt];omega) (Q0b (new_w _ (λw hw=>b2 w (List.mem_of_mem_drop (List.mem_of_mem_take hw))) (by rw[List.length_take];exact Nat.le_trans (Nat.min_le_left _ _) (by decide))) λx3 ⟨c1,c2⟩=>w_br (λ_=>Q0b (Zib c1 (by omega)) λx4 hx=>hx) (λ_=>⟨8,c1⟩))
    · have hb:=of_decide_eq_false hb
      exact Q0b (new_w _ b2 (by omega)) λx3 ⟨c1,c2⟩=>w_br (λ_=>Q0b (Zib c1 (by omega)) λx4 hx=>hx) (λ_=>⟨8,c1⟩)
theorem step_w{P:Nat}{r:Q00}(h:okR P r)(n:Int)(hl:r.B9.length≤900000)(hq:r.A2.length≤16)(hu: ∀q∈r.A2,U q.N):
   (Q9c r n).w (λx=>okR P x.1∧x.1.B9.length≤r.B9.length+8016∧(x.1.A2.length≤16∧ ∀q∈x.1.A2,U q.N)∧x.2.length≤4000):=by
 unfold Q9c
 refine w_lv λx0 _=>w_br (λ_=>Q0b (Z9t n) λe he=>Q0b (arrive_w h e (by omega) hq hu he) λx hx=> ?_) (λ_=>w_an (Q7c (by decide)) (w_lv λx3 _=>Q0b (Qwv h _ (Q0s _) hl (by omega) hu) λx hx=> ?_))
 · obtain⟨a1,a2,a3,a4⟩:=hx
   exact⟨a1,by rw[a2];omega,⟨a3,a4⟩,Nat.zero_le _⟩
 · obtain⟨a1,a2,a3,a4⟩:=hx
   refine⟨a1,by show x.1.B9.length≤_;omega,?_,a4⟩
   rcases a3 with a3|a3
   · rw[a3];exact⟨hq,hu⟩
   · rw[a3];exact⟨Nat.zero_le _,λq hq=>by cases hq⟩
theorem play_w{P:Nat}{m:Q01}(h:okM P m)(l:List Int)(hl:l.length≤30):(Qd0 m l).w (λx=>okR P x.1):=by
 unfold Qd0
 have nr:(Q2p m).w (λx=>okR P x∧x.B9=[]∧x.A2=[]):=by
   unfold Q2p
   exact Q0b (own7_w h) λx hx=>⟨⟨hx.1,U_0⟩,rfl,rfl⟩
 refine Q0b nr λx0 ⟨n1,n2,n3⟩=> ?_
 refine w_lp (inv:=λv:Int×Q00×List Q04=>0≤v.1∧v.1≤l.length∧okR P v.2.1∧(v.2.1.B9.length:Int)≤8016*v.1∧(v.2.1.A2.length≤16∧ ∀q∈v.2.1.A2,U q.N)∧(v.2.2.length:Int)≤4000*v.1) (μ:=Qj0 m l) ⟨Int.le_refl _,by show(0:Int)≤l.length;omega,n1,by rw[n2];exact Int.le_refl _,by rw[n3];exact⟨Nat.zero_le _,λq hq=>by cases hq⟩,Int.le_refl _⟩ (Nat.lt_succ_self _) λv0 ⟨a1,a2,a3,a4,⟨a5,a6⟩,a7⟩=> ?_
 refine w_br (λhb=> ?_) (λ_=>a3)
 have hb:=of_decide_eq_true hb
 refine w_cn (by simp [Nat.blt];omega) (Q0b (step_w a3 _ (by omega) a5 a6) λx1 ⟨b1,b2,b3,b4⟩=>w_cn (decide_eq_true (by omega)) (w_nx ?_))
 have e:IntKind.i64.wrap (v0.1+1)=v0.1+1:=by rw[IntKind.wrap_i64];omega
 show(_∧_∧_∧_∧_∧_)∧(_:Nat)<_
 refine⟨⟨by rw[e];omega,by rw[e];omega,b1,by rw[e];show(x1.1.B9.length:Int)≤_;omega,b3,by rw[e,List.length_append];omega⟩,by show(l.length-IntKind.i64.wrap (v0.1+1)).toNat<(l.length-v0.1).toNat;rw[e];omega⟩
noncomputable section
def boot:List Int:=(Q28 (List.append (List.append (List.append (List.append Z7r Z5m) (List.append Z5r Z6g)) (List.append (List.append Z6j Z69) (List.append Z59 Z4v))) (List.append (List.append (List.append Z56 Z64) (List.append Qvx Qvf)) (List.append (List.append Qv8 Qvb) (List.append Qw9 Qu8))))).1
def Qke:List Int:=boot++List.replicate (160-boot.length) 0
theorem run87(t0 t1 t2 t3 t4 t5 t6 t7 t8 t9 t10 t11 t12 t13 t14 t15 t16 t17 t18 t19 t20 t21 t22 t23 t24 t25 t26 t27 t28 t29 t30 t31 t32 t33 t34 t35 t36 t37 t38 t39 t40 t41 t42 t43 t44 t45 t46 t47 t48 t49 t50 t51 t52 t53 t54 t55 t56 t57 t58 t59 t60 t61 t62 t63 t64 t65 t66 t67 t68 t69 t70 t71 t72 t73 t74 t75 t76 t77 t78 t79 t80 t81 t82 t83 t84 t85 t86 t87 t88 t89 t90 t91 t92 t93 t94 t95:Int):(Qfa (Q1v 8 4 (Qke++[t0,t1,t2,t3,t4,t5,t6,t7,t8,t9,t10,t11,t12,t13,t14,t15,t16,t17,t18,t19,t20,t21,t22,t23,t24,t25,t26,t27,t28,t29,t30,t31,t32,t33,t34,t35,t36,t37,t38,t39,t40,t41,t42,t43,t44,t45,t46,t47,t48,t49,t50,t51,t52,t53,t54,t55,t56,t57,t58,t59,t60,t61,t62,t63,t64,t65,t66,t67,t68,t69,t70,t71,t72,t73,t74,t75,t76,t77,t78,t79,t80,t81,t82,t83,t84,t85,t86,t87,t88,t89,t90,t91,t92,t93,t94,t95])).1 [] 87).2.2.2=0:=by kernel_rfl
end
attribute [local irreducible] Q28
theorem new_mem(i j:List Int)(hi:i.length≤256)(hj:j.length≤256)(e:i++List.replicate (256-i.length) 0=j++List.replicate (256-j.length) 0):Q1v 8 4 i=Q1v 8 4 j:=by
 have w:IntKind.i64.wrap (8*32)=256:=by decide
 have m:Qtx 8=List.replicate 256 0:=by kernel_rfl
 have d: ∀k:List Int,k.length≤256→decide ((k.length:Int)>256)=false:=λk h=>decide_eq_false (by omega)
 have mem: ∀k:List Int,k.length≤256→List.take (min k.length (List.replicate 256 (0:Int)).length) k++List.drop (min k.length (List.replicate 256 (0:Int)).length) (List.replicate 256 0)=k++List.replicate (256-k.length) 0:=λk h=>by
   rw[List.length_replicate,Nat.min_eq_left h,List.take_length,List.drop_replicate]
 have r:Qtx 8=List.replicate 256 0:=by kernel_rfl
 simp only[Q1v,Q8d,Tree.m,w,letv,r,d i hi,d j hj]
 simp only[mem i hi,mem j hj,e]
theorem list96(t:List Int)(ht:t.length=96):t=[t.getD 0 0,t.getD 1 0,t.getD 2 0,t.getD 3 0,t.getD 4 0,t.getD 5 0,t.getD 6 0,t.getD 7 0,t.getD 8 0,t.getD 9 0,t.getD 10 0,t.getD 11 0,t.getD 12 0,t.getD 13 0,t.getD 14 0,t.getD 15 0,t.getD 16 0,t.getD 17 0,t.getD 18 0,t.getD 19 0,t.getD 20 0,t.getD 21 0,t.getD 22 0,t.getD 23 0,t.getD 24 0,t.getD 25 0,t.getD 26 0,t.getD 27 0,t.getD 28 0,t.getD 29 0,t.getD 30 0,t.getD 31 0,t.getD 32 0,t.getD 33 0,t.getD 34 0,t.getD 35 0,t.getD 36 0,t.getD 37 0,t.getD 38 0,t.getD 39 0,t.getD 40 0,t.getD 41 0,t.getD 42 0,t.getD 43 0,t.getD 44 0,t.getD 45 0,t.getD 46 0,t.getD 47 0,t.getD 48 0,t.getD 49 0,t.getD 50 0,t.getD 51 0,t.getD 52 0,t.getD 53 0,t.getD 54 0,t.getD 55 0,t.getD 56 0,t.getD 57 0,t.getD 58 0,t.getD 59 0,t.getD 60 0,t.getD 61 0,t.getD 62 0,t.getD 63 0,t.getD 64 0,t.getD 65 0,t.getD 66 0,t.getD 67 0,t.getD 68 0,t.getD 69 0,t.getD 70 0,t.getD 71 0,t.getD 72 0,t.getD 73 0,t.getD 74 0,t.getD 75 0,t.getD 76 0,t.getD 77 0,t.getD 78 0,t.getD 79 0,t.getD 80 0,t.getD 81 0,t.getD 82 0,t.getD 83 0,t.getD 84 0,t.getD 85 0,t.getD 86 0,t.getD 87 0,t.getD 88 0,t.getD 89 0,t.getD 90 0,t.getD 91 0,t.getD 92 0,t.getD 93 0,t.getD 94 0,t.getD 95 0]:=by
 apply List.ext_getElem
 · rw[ht];rfl
 · intro i h1 h2
   have e: ∀j (hj:j<96),[t.getD 0 0,t.getD 1 0,t.getD 2 0,t.getD 3 0,t.getD 4 0,t.getD 5 0,t.getD 6 0,t.getD 7 0,t.getD 8 0,t.getD 9 0,t.getD 10 0,t.getD 11 0,t.getD 12 0,t.getD 13 0,t.getD 14 0,t.getD 15 0,t.getD 16 0,t.getD 17 0,t.getD 18 0,t.getD 19 0,t.getD 20 0,t.getD 21 0,t.getD 22 0,t.getD 23 0,t.getD 24 0,t.getD 25 0,t.getD 26 0,t.getD 27 0,t.getD 28 0,t.getD 29 0,t.getD 30 0,t.getD 31 0,t.getD 32 0,t.getD 33 0,t.getD 34 0,t.getD 35 0,t.getD 36 0,t.getD 37 0,t.getD 38 0,t.getD 39 0,t.getD 40 0,t.getD 41 0,t.getD 42 0,t.getD 43 0,t.getD 44 0,t.getD 45 0,t.getD 46 0,t.getD 47 0,t.getD 48 0,t.getD 49 0,t.getD 50 0,t.getD 51 0,t.getD 52 0,t.getD 53 0,t.getD 54 0,t.getD 55 0,t.getD 56 0,t.getD 57 0,t.getD 58 0,t.getD 59 0,t.getD 60 0,t.getD 61 0,t.getD 62 0,t.getD 63 0,t.getD 64 0,t.getD 65 0,t.getD 66 0,t.getD 67 0,t.getD 68 0,t.getD 69 0,t.getD 70 0,t.getD 71 0,t.getD 72 0,t.getD 73 0,t.getD 74 0,t.getD 75 0,t.getD 76 0,t.getD 77 0,t.getD 78 0,t.getD 79 0,t.getD 80 0,t.getD 81 0,t.getD 82 0,t.getD 83 0,t.getD 84 0,t.getD 85 0,t.getD 86 0,t.getD 87 0,t.getD 88 0,t.getD 89 0,t.getD 90 0,t.getD 91 0,t.getD 92 0,t.getD 93 0,t.getD 94 0,t.getD 95 0][j]'hj=t.getD j 0:=by
     intro j hj
     have:[t.getD 0 0,t.getD 1 0,t.getD 2 0,t.getD 3 0,t.getD 4 0,t.getD 5 0,t.getD 6 0,t.getD 7 0,t.getD 8 0,t.getD 9 0,t.getD 10 0,t.getD 11 0,t.getD 12 0,t.getD 13 0,t.getD 14 0,t.getD 15 0,t.getD 16 0,t.getD 17 0,t.getD 18 0,t.getD 19 0,t.getD 20 0,t.getD 21 0,t.getD 22 0,t.getD 23 0,t.getD 24 0,t.getD 25 0,t.getD 26 0,t.getD 27 0,t.getD 28 0,t.getD 29 0,t.getD 30 0,t.getD 31 0,t.getD 32 0,t.getD 33 0,t.getD 34 0,t.getD 35 0,t.getD 36 0,t.getD 37 0,t.getD 38 0,t.getD 39 0,t.getD 40 0,t.getD 41 0,t.getD 42 0,t.getD 43 0,t.getD 44 0,t.getD 45 0,t.getD 46 0,t.getD 47 0,t.getD 48 0,t.getD 49 0,t.getD 50 0,t.getD 51 0,t.getD 52 0,t.getD 53 0,t.getD 54 0,t.getD 55 0,t.getD 56 0,t.getD 57 0,t.getD 58 0,t.getD 59 0,t.getD 60 0,t.getD 61 0,t.getD 62 0,t.getD 63 0,t.getD 64 0,t.getD 65 0,t.getD 66 0,t.getD 67 0,t.getD 68 0,t.getD 69 0,t.getD 70 0,t.getD 71 0,t.getD 72 0,t.getD 73 0,t.getD 74 0,t.getD 75 0,t.getD 76 0,t.getD 77 0,t.getD 78 0,t.getD 79 0,t.getD 80 0,t.getD 81 0,t.getD 82 0,t.getD 83 0,t.getD 84 0,t.getD 85 0,t.getD 86 0,t.getD 87 0,t.getD 88 0,t.getD 89 0,t.getD 90 0,t.getD 91 0,t.getD 92 0,t.getD 93 0,t.getD 94 0,t.getD 95 0]=(List.range 96).map (λk=>t.getD k 0):=rfl
     simp only[this,List.getElem_map,List.getElem_range]
   rw[e i (by omega),List.getD_eq_getElem?_getD,List.getElem?_eq_getElem h1]
   rfl
theorem run_ok(t:List Int)(ht:t.length=96):(Qfa (Q1v 8 4 (Qke++t)).1 [] 87).2.2.2=0:=by
 rw[list96 t ht]
 exact run87 _ _ _ _ _ _ _ _ _ _ _ _ _ _ _ _ _ _ _ _ _ _ _ _ _ _ _ _ _ _ _ _ _ _ _ _ _ _ _ _ _ _ _ _ _ _ _ _ _ _ _ _ _ _ _ _ _ _ _ _ _ _ _ _ _ _ _ _ _ _ _ _ _ _ _ _ _ _ _ _ _ _ _ _ _ _ _ _ _ _ _ _ _ _ _ _
theorem pad_len:Qke.length=160:=by
 have h:boot.length≤160:=asm_ok.1
 unfold Qke
 rw[List.length_append,List.length_replicate];omega
def out(f:Int)(m m':List Int):Prop:= ∀j:Nat,¬(f*32≤j∧(j:Int)<f*32+32)→m'.getD j 0=m.getD j 0
theorem Qp2(f:Int)(m:List Int):out f m m:=λ_ _=>rfl
theorem getDset(l:List Int)(i j:Nat)(v:Int)(h:i≠j):(l.set i v).getD j 0=l.getD j 0:=by
 simp only[List.getD_eq_getElem?_getD,List.getElem?_set_ne h]
theorem Q4f{P:Nat}{m:List Int}(h:Q12 P m):Q0v m=P:=by
 obtain⟨h1,h2,h3,_⟩:=h
 simp only[Q0v,Q9m,Tree.m]
 have e:(m.length:Int)=32*P:=by omega
 rw[e]
 have e1:(Int.tmod (32*(P:Int)) 32 !=0)=false:=by simp [Int.mul_tmod_right]
 have e2:decide ((32*(P:Int))>1024)=false:=decide_eq_false (by omega)
 rw[e1,e2]
 simp only[cond_false]
 rw[Int.mul_tdiv_cancel_left _ (by decide),IntKind.wrap_i64];omega
theorem has_eq{P:Nat}{m:List Int}(h:Q12 P m)(f:Int):Q69 m f=true→0≤f∧f<P:=by
 have hp:=Q4f h
 simp only[Q69,Q9d,Tree.m,letv,hp]
 cases h1:decide (f≥0)
 · intro h;cases h
 · intro h;exact⟨of_decide_eq_true h1,of_decide_eq_true h⟩
theorem Qzt{P:Nat}{m:List Int}(h:Q12 P m)(f:Int)(s:List UInt8):(Q2d m f s).w (λr=>Q12 P r.1∧out f m r.1∧(r.2=false→r.1=m)):=by
 have hcl:Q03 m=m:=rfl
 have h2:=h.p2
 unfold Q2d
 refine w_an (Qan h) (w_lv λx0 hx0=>w_lv λx1 hx1=> ?_)
 rw[hcl]at hx0;subst hx0
 refine w_br (λ_=>⟨h,Qp2 _ _,λ_=>rfl⟩) λhb=>w_br (λ_=>⟨h,Qp2 _ _,λ_=>rfl⟩) λhs=> ?_
 have hb:x1=true:=by simpa using hb
 obtain⟨f0,f1⟩:=has_eq h f (hx1.symm.trans hb)
 have hs:(s.length:Int)=128:=by simpa using hs
 refine w_lp (inv:=λz:Int×List Int=>0≤z.1∧z.1≤32∧Q12 P z.2∧out f x0 z.2) (μ:=Qbu x0 f s) ⟨show(0:Int)≤0 by decide,show(0:Int)≤32 by decide,h,Qp2 _ _⟩ (Nat.lt_succ_self _) λz ⟨z1,z2,z3,z4⟩=> ?_
 refine w_br (λhb=> ?_) (λ_=>⟨z3,z4,λh=>by cases h⟩)
 have hb:=of_decide_eq_true hb
 have e1:IntKind.i64.wrap (4*z.1)=4*z.1:=by rw[IntKind.wrap_i64];omega
 have e2:IntKind.i64.wrap (IntKind.i64.wrap (4*z.1)+4)=4*z.1+4:=by rw[IntKind.wrap_i64,IntKind.wrap_i64];omega
 have e3:IntKind.i64.wrap (IntKind.i64.wrap (f*32)+z.1)=f*32+z.1:=by rw[IntKind.wrap_i64,IntKind.wrap_i64];omega
 have hl:=z3.len
 have hlen:(List.take (Int.toNat (IntKind.i64.wrap (IntKind.i64.wrap (4*z.1)+4))-Int.toNat (IntKind.i64.wrap (4*z.1))) (List.drop (Int.toNat (IntKind.i64.wrap (4*z.1))) s)).length=4:=by
   rw[e2,e1,List.length_take,List.length_drop];omega
 refine w_cn (decide_eq_true (by rw[e2,e1];omega)) ?_
 refine w_cn (decide_eq_true (by rw[hlen];decide)) (w_cn (decide_eq_true (by rw[hlen];decide)) (w_cn (decide_eq_true (by rw[hlen];decide)) (w_cn (decide_eq_true (by rw[hlen];decide)) (w_cn (by rw[e3];simp [Nat.blt];omega) (w_nx ?_)))))
 show(_∧_∧Q12 P (List.set _ _ _)∧out f x0 (List.set _ _ _))∧(_:Nat)<_
 have ew:IntKind.i64.wrap (z.1+1)=z.1+1:=by rw[IntKind.wrap_i64];omega
 rw[e3]
 refine⟨⟨by rw[ew];omega,by rw[ew];omega,⟨by rw[List.length_set];exact hl,z3.p1,z3.p2,Qye z3.u (U_or _ _) _⟩,λj hj=> ?_⟩,by show(32-IntKind.i64.wrap (z.1+1)).toNat<(32-z.1).toNat;rw[ew];omega⟩
 rw[getDset _ _ _ _ (by omega)]
 exact z4 j hj
theorem text_w(w:List Int)(h:w.length≤32):(Q5u w).w (λr=>r.length=4*w.length):=by
 have e0:IntKind.i64.wrap (4*(w.length:Int))=4*w.length:=by rw[IntKind.wrap_i64];omega
 unfold Q5u
 refine w_cn (by rw[e0];simp [Nat.blt,D.plain];omega) ?_
 refine w_lp (inv:=λz:Int×List Int=>0≤z.1∧z.1≤w.length∧(z.2.length:Int)=4*z.1) (μ:=Q8f w) ⟨by decide,by show(0:Int)≤w.length;omega,rfl⟩ (Nat.lt_succ_self _) λz ⟨z1,z2,z3⟩=> ?_
 refine w_br (λhb=> ?_) (λhb=> ?_)
 · have hb:=of_decide_eq_true hb
   have ew:IntKind.i64.wrap (z.1+1)=z.1+1:=by rw[IntKind.wrap_i64];omega
   refine w_cn (by simp [Nat.blt];omega) (w_cn (decide_eq_true (by omega)) (w_nx ?_))
   show(_∧_∧_)∧(_:Nat)<_
   refine⟨⟨by rw[ew];omega,by rw[ew];omega,by rw[ew,List.length_append];simp only[List.length_cons,List.length_nil];omega⟩,by show(w.length-IntKind.i64.wrap (z.1+1)).toNat<(w.length-z.1).toNat;rw[ew];omega⟩
 · have hb:=of_decide_eq_false hb
   show(bytesOf z.2).length=_
   rw[Qj1];omega
theorem Zh0{P:Nat}{m:List Int}(h:Q12 P m)(f:Int):(Q3y m f).w (λr=>0≤f→f<P→r.1.length=128):=by
 have hl:=h.len
 have h2:=h.p2
 unfold Q3y
 refine w_lv λx0 hx0=>w_br (λhb=>λf0 f1=> ?_) (λhb=> ?_)
 · have hp:=Q4f h
   have hb:x0=false:=by simpa using hb
   rw[hb]at hx0
   simp only[Q69,Q9d,Tree.m,letv,hp]at hx0
   rw[decide_eq_true f0]at hx0
   exact absurd f1 (of_decide_eq_false hx0.symm)
 · have hb:x0=true:=by simpa using hb
   obtain⟨f0,f1⟩:=has_eq h f (hx0.symm.trans hb)
   have e1:IntKind.i64.wrap (f*32)=f*32:=by rw[IntKind.wrap_i64];omega
   have e2:IntKind.i64.wrap (IntKind.i64.wrap (f*32)+32)=f*32+32:=by rw[IntKind.wrap_i64,IntKind.wrap_i64];omega
   have hlen:(List.take (Int.toNat (IntKind.i64.wrap (IntKind.i64.wrap (f*32)+32))-Int.toNat (IntKind.i64.wrap (f*32))) (List.drop (Int.toNat (IntKind.i64.wrap (f*32))) m)).length=32:=by
     rw[e2,e1,List.length_take,List.length_drop];omega
   refine w_cn (by rw[e2,e1];simp [Nat.blt];omega) ?_
   refine w_an (by show List.length _≤1000000000000;rw[hlen];decide) (w_lv λx1 h1=> ?_)
   have h1:x1.length=4*(List.take (Int.toNat (IntKind.i64.wrap (IntKind.i64.wrap (f*32)+32))-Int.toNat (IntKind.i64.wrap (f*32))) (List.drop (Int.toNat (IntKind.i64.wrap (f*32))) m)).length:=by rw[h1];exact(Tree.pp (text_w _ (Nat.le_of_eq hlen))).2
   intro _ _
   show x1.length=128
   rw[h1,hlen]
theorem Zie{f:Int}(hf:U f){P:Nat}(hP:P≤32)(h:decide (IntKind.u64.wrap f<IntKind.u64.wrap (P:Int))=true):0≤f∧f<P:=by
 have h:=of_decide_eq_true h
 obtain⟨h1,h2⟩:=hf
 rw[IntKind.wrap_u64,IntKind.wrap_u64,Int.emod_eq_of_lt h1 (by omega),Int.emod_eq_of_lt (by omega) (by omega)]at h
 exact⟨h1,h⟩
theorem Zkl{P:Nat}{m:List Int}(h:Q12 P m){d:Q0e}(hd:Q9j d)(e:Q06):(Q52 d m e).w (λr=>Q9j r.1∧Q12 P r.2.1∧out d.B3 m r.2.1∧(r.2.2=false→r.2.1=m)∧(∀p,Q1n d p=true→Q1n r.1 p=true)):=by
 have hcl:Q03 m=m:=rfl
 have keep: ∀b:Bool,Q9j d∧Q12 P m∧out d.B3 m m∧(b=false→m=m)∧(∀p,Q1n d p=true→Q1n d p=true):=λb=>⟨hd,h,Qp2 _ _,λ_=>rfl,λ_ h=>h⟩
 have blk: ∀{p:Int},Q1n d p=true→decide (d.Blocks>64)=false:=fun{p} hm=>by
   cases hb:decide (d.Blocks>64)
   · rfl
   · have:Q1n d p=false:=by simp only[Q1n,Q72,Tree.m];rw[hb];rfl
     rw[this]at hm;cases hm
 have m2: ∀p,Q1n d p=true→Q1n {Blocks:=d.Blocks,C1:=d.C1,B4:=d.B4,C0:=2,D7:=0,B6:=0,B3:=0,C4:=[]} p=true:=λp hm=>by
   simp only[Q1n,Q72,Tree.m];rw[blk hm];rfl
 have m3: ∀p,Q1n d p=true→Q1n {Blocks:=d.Blocks,C1:=d.C1,B4:=d.B4,C0:=3,D7:=0,B6:=0,B3:=0,C4:=[]} p=true:=λp hm=>by
   simp only[Q1n,Q72,Tree.m];rw[blk hm];rfl
 unfold Q52
 refine w_br (λ_=>w_an (Qan h) (w_lv λx hx=>by rw[hcl]at hx;subst hx;exact keep _)) λ_=>w_br (λ_=>w_an (Qan h) (w_lv λx hx=>by rw[hcl]at hx;subst hx;exact keep _)) λ_=>w_br (λ_=>w_an (Qan h) (w_lv λx hx=>by rw[hcl]at hx;subst hx;exact keep _)) λ_=>w_an (Qan h) (w_lv λx3 hx3=> ?_)
 rw[hcl]at hx3;subst hx3
 have fin: ∀{m':List Int},Q12 P m'→out d.B3 x3 m'→(Tree.br (e.N==1) (.lf (({Blocks:=d.Blocks,C1:=d.C1,B4:=d.B4,C0:=2,D7:=0,B6:=0,B3:=0,C4:=[]}:Q0e),m',true)) (.lf (({Blocks:=d.Blocks,C1:=d.C1,B4:=d.B4,C0:=3,D7:=0,B6:=0,B3:=0,C4:=[]}:Q0e),m',true))).w (λr=>Q9j r.1∧Q12 P r.2.1∧out d.B3 x3 r.2.1∧(r.2.2=false→r.2.1=x3)∧(∀p,Q1n d p=true→Q1n r.1 p=true)):=λhm ho=>
   w_br (λ_=>⟨⟨hd.block,hd.frame,U_0,U_0⟩,hm,ho,(λh=>by cases h),m2⟩) (λ_=>⟨⟨hd.block,hd.frame,U_0,U_0⟩,hm,ho,(λh=>by cases h),m3⟩)
 have nod:(Tree.br (!decide (e.C6=[])) (.lf (d,x3,false)) (Tree.br (e.N==1) (.lf (({Blocks:=d.Blocks,C1:=d.C1,B4:=d.B4,C0:=2,D7:=0,B6:=0,B3:=0,C4:=[]}:Q0e),x3,true)) (.lf (({Blocks:=d.Blocks,C1:=d.C1,B4:=d.B4,C0:=3,D7:=0,B6:=0,B3:=0,C4:=[]}:Q0e),x3,true)))).w (λr=>Q9j r.1∧Q12 P r.2.1∧out d.B3 x3 r.2.1∧(r.2.2=false→r.2.1=x3)∧(∀p,Q1n d p=true→Q1n r.1 p=true)):=
   w_br (λ_=>keep _) (λ_=>fin h (Qp2 _ _))
 refine w_br (λ_=>w_br (λ_=>w_lv λx4 hx4=>w_br (λ_=>keep _) λhb=> ?_) (λ_=>nod)) (λ_=>nod)
 have hp:=Q4f h
 have hb:x4=true:=by simpa using hb
 rw[hb]at hx4
 simp only[Qag,Qe9,Tree.m,letv,hp]at hx4
 obtain⟨f0,f1⟩:=Zie hd.opFrame h.p2 hx4.symm
 have ef:IntKind.i64.wrap d.B3=d.B3:=by have:=h.p2;rw[IntKind.wrap_i64];omega
 refine Q0b (Qzt h _ _) λx5 ⟨h5,o5,k5⟩=> ?_
 rw[ef]at o5
 exact w_br (λhf=>⟨hd,h5,o5,λ_=>k5 (by simpa using hf),λ_ h=>h⟩) (λ_=>fin h5 o5)
theorem receive_w{P:Nat}{m:List Int}(h:Q12 P m){n:Q0n}(hn:Qj n)(frame:List UInt8):(Q7l n m frame).w (λr=>Qj r.1∧Q12 P r.2.1∧out n.C3 m r.2.1∧(r.2.2=false→r.2.1=m)∧(∀p,Q70 n p=true→Q70 r.1 p=true)):=by
 have hcl:Q03 m=m:=rfl
 have keep:Qj n∧Q12 P m∧out n.C3 m m∧(false=false→m=m)∧(∀p,Q70 n p=true→Q70 n p=true):=⟨hn,h,Qp2 _ _,λ_=>rfl,λ_ h=>h⟩
 unfold Q7l
 refine w_br (λ_=>w_an (Qan h) (w_lv λx hx=>by rw[hcl]at hx;subst hx;exact keep)) λhpo=>w_br (λ_=>w_an (Qan h) (w_lv λx hx=>by rw[hcl]at hx;subst hx;exact keep)) λl1=>w_br (λ_=>w_an (Qan h) (w_lv λx hx=>by rw[hcl]at hx;subst hx;exact keep)) λl2=>w_lv λx3 hx3=>w_br (λ_=>w_an (Qan h) (w_lv λx hx=>by rw[hcl]at hx;subst hx;exact keep)) λhb=> ?_
 have l1:=of_decide_eq_false l1
 have l2:=of_decide_eq_false l2
 have hp:=Q4f h
 have hb:x3=true:=by simpa using hb
 rw[hb]at hx3
 simp only[Qbg,Qg5,Tree.m,letv,hp]at hx3
 obtain⟨f0,f1⟩:=Zie hn.buffer h.p2 hx3.symm
 have ef:IntKind.i64.wrap n.C3=n.C3:=by have:=h.p2;rw[IntKind.wrap_i64];omega
 refine Q0b (Zh0 h _) λx5 h5=> ?_
 rw[ef]at h5
 have h5:=h5 f0 f1
 have hmax:(maxLen:Nat)=9223372036854775807:=rfl
 refine w_cn (decide_eq_true (by omega)) (w_cn (decide_eq_true (by simp only[List.length_take,List.length_drop,hmax];omega)) (Q0b (Qzt h _ _) λx6 ⟨h6,o6,_⟩=> ?_))
 rw[ef]at o6
 have hg:IntKind.u32.wrap (frame.length:Int)=frame.length:=by rw[IntKind.wrap_u32];omega
 refine⟨⟨hn.frame,hn.len,U_0,Q0s _⟩,h6,o6,(λh=>by cases h),λp _=> ?_⟩
 simp only[Q70,Qlb,Tree.m]
 rw[hg,decide_eq_true (show(frame.length:Int)≥1 by omega),decide_eq_true (show(frame.length:Int)≤128 by omega)]
 rfl
theorem ctype_w(c:Q0c)(b:Int):(Q81 c b).w (λr=>Q2s c=true→Q2s r.1=true):=by
 have hmax:(maxLen:Nat)=9223372036854775807:=rfl
 unfold Q81
 refine w_br (λ_=>λh=>h) (λhb=> ?_)
 have hb:=of_decide_eq_false hb
 refine w_cn (decide_eq_true (by rw[hmax];omega)) ?_
 intro _
 show decide (((c.D1++[_]).length:Int)≤16)=true
 rw[List.length_append,List.length_singleton]
 exact decide_eq_true (by omega)
theorem fire_may(t:Q0f)(h:Q55 t=true):Q55 (Qli t).1=true:=by
 simp only[Qli,Qo9,Tree.m]
 cases ha:t.D4
 · exact h
 · rfl
theorem dev_eq(m:Q01):Q0z m=(Q2s m.A3&&(Q55 m.A9&&(Q1n m.B1 (Q0v m.Mem)&&(Q70 m.C2 (Q0v m.Mem)&&Q33 m.A1 (Q0v m.Mem))))):=by
 simp only[Q0z,Q1l,Tree.m,letv]
 cases Q2s m.A3<;>cases Q55 m.A9<;>cases Q1n m.B1 (Q0v m.Mem)<;>cases Q70 m.C2 (Q0v m.Mem)<;>rfl
theorem bal_eq{b c:Q07}(h:c.C5=b.C5)(p:Int):Q33 c p=Q33 b p:=by
 simp only[Q33,Q40,Tree.m,h]
theorem cnd{a x y:Bool}(h:x=true→y=true):(bif a then false else x)=true→(bif a then false else y)=true:=by cases a<;>simp_all
def chain(b1 b2 b3 b4 b5 b6 b7 w h dev:Bool):Bool:=bif b1 then false else bif b2 then false else bif b3 then false else bif b4 then false else bif b5 then false else bif b6 then false else bif b7 then false else bif w then(bif h then false else dev) else dev
theorem Zl{b1 b2 b3 b4 b5 b6 b7 w h d d':Bool}(hd:d=true→d'=true):chain b1 b2 b3 b4 b5 b6 b7 w h d=true→chain b1 b2 b3 b4 b5 b6 b7 w h d'=true:=by
 refine cnd (cnd (cnd (cnd (cnd (cnd (cnd ?_))))))
 cases w
 · exact hd
 · cases h
   · exact hd
   · exact λh=>h
def mayC(p:Int)(c:Q02)(ct:Int)(w h dev:Bool):Bool:=chain (p==0) (c.X.a0 !=0) (decide (c.B5.a0>31)) (decide (c.B5.a7>31)) (decide (c.B5.a6>255)) (Int.tmod c.B5.a1 4 !=0) (decide (ct>1152921504606846976)) w h dev
theorem mayC_mono{p:Int}{c:Q02}{ct:Int}{w h d d':Bool}(hd:d=true→d'=true)(g:mayC p c ct w h d=true):mayC p c ct w h d'=true:=Zl hd g
theorem may_eq(m:Q01):Q13 m=mayC (Q0v m.Mem) m.B2 m.A6 m.A4 m.A7 (Q0z m):=rfl
theorem Qsc{m n:Q01}(hp:Q0v n.Mem=Q0v m.Mem)(hcpu:n.B2=m.B2)(hct:n.A6=m.A6)(hw:n.A4=m.A4)(hh:n.A7=m.A7)
   (hc:Q2s m.A3=true→Q2s n.A3=true) (ht:Q55 m.A9=true→Q55 n.A9=true) (hd: ∀p,Q1n m.B1 p=true→Q1n n.B1 p=true) (hn: ∀p,Q70 m.C2 p=true→Q70 n.C2 p=true) (hb:n.A1.C5=m.A1.C5) (h:Q13 m=true):Q13 n=true:=by
 have dev:Q0z m=true→Q0z n=true:=λh=>by
   rw[dev_eq]at h⊢
   simp only[Bool.and_eq_true]at h⊢
   rw[hp,bal_eq hb]
   exact⟨hc h.1,ht h.2.1,hd _ h.2.2.1,hn _ h.2.2.2.1,h.2.2.2.2⟩
 rw[may_eq]at h⊢
 rw[hp,hcpu,hct,hw,hh]
 exact mayC_mono dev h
section
variable {P:Nat} {m:List Int} (h:Q12 P m)
include h
theorem dpage{f:Int}(hf:U f){b:Bool}(hx:b=Qag m f)(hb:b=true):0≤f∧f<P:=by
 have hp:=Q4f h
 rw[hb]at hx
 simp only[Qag,Qe9,Tree.m,letv,hp]at hx
 exact Zie hf h.p2 hx.symm
theorem npage{f:Int}(hf:U f){b:Bool}(hx:b=Qbg m f)(hb:b=true):0≤f∧f<P:=by
 have hp:=Q4f h
 rw[hb]at hx
 simp only[Qbg,Qg5,Tree.m,letv,hp]at hx
 exact Zie hf h.p2 hx.symm
def keepD(P:Nat)(d d':Q0e):Prop:=Q9j d'∧(Q1n d P=true→Q1n d' P=true)
theorem issue_w{d:Q0e}(hd:Q9j d){cmd:Int}(hc:cmd=1∨cmd=2)(at0:Int):(Q7j d m cmd at0).w (λr=>keepD P d r.1∧r.2.length≤1):=by
 have h2:=h.p2
 have st3:(d.C0 !=0)=false→keepD P d {Blocks:=d.Blocks,C1:=d.C1,B4:=d.B4,C0:=3,D7:=d.D7,B6:=d.B6,B3:=d.B3,C4:=d.C4}:=λhs=>by
   have hs:d.C0=0:=by simpa using hs
   refine⟨⟨hd.block,hd.frame,hd.opBlock,hd.opFrame⟩,λhm=> ?_⟩
   simp only[Q1n,Q72,Tree.m,hs]at hm⊢
   exact hm
 have blk:Q1n d P=true→decide (d.Blocks>64)=false:=λhm=>by
   cases hb:decide (d.Blocks>64)
   · rfl
   · have:Q1n d P=false:=by simp only[Q1n,Q72,Tree.m];rw[hb];rfl
     rw[this]at hm;cases hm
 unfold Q7j
 refine w_br (λ_=>⟨⟨hd,λh=>h⟩,Nat.zero_le _⟩) λhs=>w_br (λ_=>⟨st3 hs,Nat.zero_le _⟩) λhb=>w_lv λx0 hx=>w_br (λ_=>⟨st3 hs,Nat.zero_le _⟩) λhp=> ?_
 have hb:=of_decide_eq_false hb
 obtain⟨f0,f1⟩:=dpage h hd.frame hx (by simpa using hp)
 have ef:IntKind.i64.wrap d.B4=d.B4:=by rw[IntKind.wrap_i64];omega
 have e1:decide (d.C1<d.Blocks)=true:=decide_eq_true (by omega)
 have e2:decide (IntKind.i64.wrap d.B4<(P:Int))=true:=by rw[ef];exact decide_eq_true f1
 refine w_br (λhcm=>Q0b (Zh0 h _) λx1 h1=> ?_) (λhcm=> ?_)
 · rw[ef]at h1
   have h1:=h1 f0 f1
   have hcm:=eq_of_beq hcm
   subst hcm
   refine w_lv λx2 _=>⟨⟨⟨hd.block,hd.frame,hd.block,hd.frame⟩,λhm=> ?_⟩,Nat.le_refl _⟩
   simp only[Q1n,Q72,Qas,Q8l,Tree.m,letv,blk hm,e1,e2,h1]
   rfl
 · have hc:cmd=1:=by
     rcases hc with h|h
     · exact h
     · rw[h]at hcm;exact absurd hcm (by decide)
   subst hc
   refine w_lv λx2 _=>⟨⟨⟨hd.block,hd.frame,hd.block,hd.frame⟩,λhm=> ?_⟩,Nat.le_refl _⟩
   simp only[Q1n,Q72,Qas,Q8l,Tree.m,letv,blk hm,e1,e2]
   rfl
theorem diskP_w{d:Q0e}(hd:Q9j d)(port:Int){v:Int}(hv:U v)(at0:Int):(Qb3 d m port v at0).w (λr=>keepD P d r.1∧r.2.length≤1):=by
 have keep:keepD P d d:=⟨hd,λh=>h⟩
 have e1: ∀{k:Int},(v==k)=true→IntKind.i64.wrap v=k:=λhk=>by
   have:=eq_of_beq hk
   obtain⟨a,b⟩:=hv
   rw[IntKind.wrap_i64];omega
 unfold Qb3
 refine w_br (λ_=>⟨⟨⟨hv,hd.frame,hd.opBlock,hd.opFrame⟩,λh=>h⟩,Nat.zero_le _⟩) λ_=>w_br (λ_=>⟨⟨⟨hd.block,hv,hd.opBlock,hd.opFrame⟩,λh=>h⟩,Nat.zero_le _⟩) λ_=>w_br (λ_=>w_br (λhk=>Q0b (issue_w h hd (.inl (e1 hk)) _) λx hx=>hx) λ_=>w_br (λhk=>Q0b (issue_w h hd (.inr (e1 hk)) _) λx hx=>hx) λ_=>w_br (λ_=>w_lv λx hx=>w_br (λhb=> ?_) (λ_=>⟨keep,Nat.zero_le _⟩)) (λ_=>⟨keep,Nat.zero_le _⟩)) (λ_=>⟨keep,Nat.zero_le _⟩)
 refine⟨⟨⟨hd.block,hd.frame,hd.opBlock,hd.opFrame⟩,λhm=> ?_⟩,Nat.zero_le _⟩
 rw[hb]at hx
 simp only[Qaa,Qkk,Tree.m]at hx
 cases h2:d.C0==2
 · rw[h2]at hx
   have h3:d.C0=3:=eq_of_beq hx.symm
   simp only[Q1n,Q72,Tree.m,h3]at hm⊢
   exact hm
 · have h3:d.C0=2:=eq_of_beq h2
   simp only[Q1n,Q72,Tree.m,h3]at hm⊢
   exact hm
def keepN(P:Nat)(n n':Q0n):Prop:=Qj n'∧(Q70 n P=true→Q70 n' P=true)
theorem send_w{n:Q0n}(hn:Qj n)(at0:Int):(Qbe n m at0).w (λr=>r.length≤1):=by
 have h2:=h.p2
 unfold Qbe
 refine w_br (λ_=>Nat.zero_le _) λl1=>w_br (λ_=>Nat.zero_le _) λl2=>w_lv λx0 hx=>w_br (λ_=>Nat.zero_le _) λhp=>Q0b (Zh0 h _) λx1 h1=> ?_
 have l1:=of_decide_eq_false l1
 have l2:=of_decide_eq_false l2
 obtain⟨f0,f1⟩:=npage h hn.frame hx (by simpa using hp)
 have ef:IntKind.i64.wrap n.B4=n.B4:=by rw[IntKind.wrap_i64];omega
 rw[ef]at h1
 have h1:=h1 f0 f1
 exact w_cn (decide_eq_true (by omega)) (Nat.le_refl _)
theorem nicP_w{n:Q0n}(hn:Qj n)(port:Int){v:Int}(hv:U v)(at0:Int):(Qdk n m port v at0).w (λr=>keepN P n r.1∧r.2.length≤1):=by
 have h2:=h.p2
 have keep:keepN P n n:=⟨hn,λh=>h⟩
 unfold Qdk
 refine w_br (λ_=>⟨⟨⟨hv,hn.len,hn.buffer,hn.got⟩,λh=>h⟩,Nat.zero_le _⟩) λ_=>w_br (λ_=>⟨⟨⟨hn.frame,hv,hn.buffer,hn.got⟩,λh=>h⟩,Nat.zero_le _⟩) λ_=>w_br (λ_=>w_br (λ_=>Q0b (send_w h hn _) λx hx=>⟨keep,hx⟩) λ_=>w_br (λ_=>w_lv λx hx=>w_br (λhb=>w_br (λnp=>w_br (λnr=> ?_) (λ_=>⟨keep,Nat.zero_le _⟩)) (λ_=>⟨keep,Nat.zero_le _⟩)) (λ_=>⟨keep,Nat.zero_le _⟩)) λ_=>w_br (λ_=> ?_) (λ_=>⟨keep,Nat.zero_le _⟩)) (λ_=>⟨keep,Nat.zero_le _⟩)
 · obtain⟨f0,f1⟩:=npage h hn.frame hx hb
   have np:n.C7=false:=by simpa using np
   have nr:n.B7=false:=by simpa using nr
   have e2:decide (IntKind.i64.wrap n.B4≥(P:Int))=false:=decide_eq_false (by rw[IntKind.wrap_i64];omega)
   refine⟨⟨⟨hn.frame,hn.len,hn.frame,hn.got⟩,λhm=> ?_⟩,Nat.zero_le _⟩
   simp only[Q70,Qlb,Tree.m,np,nr,e2]at hm⊢
   cases hb:(n.C3 !=0)
   · rw[hb]at hm;exact hm
   · rw[hb]at hm;cases hm
 · refine⟨⟨⟨hn.frame,hn.len,hn.buffer,U_0⟩,λhm=> ?_⟩,Nat.zero_le _⟩
   simp only[Q70,Qlb,Tree.m]at hm⊢
   revert hm
   cases n.C7<;>cases n.B7<;>cases decide (IntKind.i64.wrap n.C3≥(P:Int))<;>cases(n.C3 !=0)<;>simp
end
theorem arm_may(t:Q0f)(v:Int):Q55 (Ql6 t v)=true:=by
 simp only[Ql6,Qm3,Q55,Qma,Tree.m]
 cases h:(v !=0)
 · have:v=0:=by simpa using h
   subst this;rfl
 · rfl
theorem Qq5{a:Int}(k:Nat)(hk:k≤32):ishr .u32 a k=a/2^k:=by
 unfold ishr
 have e:min (k:Int).toNat IntKind.u32.bits=k:=by show min (k:Int).toNat 32=k;omega
 have hp:(0:Int)<2^k:=Int.pow_pos (by decide)
 rw[e,Int.fdiv_eq_ediv_of_nonneg _ (Int.le_of_lt hp)]
def Zl8(x:Int)(n:Nat):Prop:=x<2^n∧(n=0∨(2:Int)^(n-1)≤x)
theorem Z8c{x q:Int}{n k:Nat}(hq:q=x/2^k)(h0:0<q)(h:Zl8 q n):Zl8 x (n+k):=by
 have hp:(0:Int)<2^k:=Int.pow_pos (by decide)
 obtain⟨h1,h2⟩:=h
 have hn:n≠0:=λe=>by subst e;simp at h1;omega
 refine⟨?_, .inr ?_⟩
 · rw[Int.pow_add]
   have:x<(x/2^k+1)*2^k:=Int.lt_ediv_add_one_mul_self x hp
   have h3:(x/2^k+1)*2^k≤2^n*2^k:=Int.mul_le_mul_of_nonneg_right (by omega) (Int.le_of_lt hp)
   omega
 · have h2:=h2.resolve_left hn
   have e:n+k-1=(n-1)+k:=by omega
   rw[e,Int.pow_add]
   have h3:(2:Int)^(n-1)*2^k≤q*2^k:=Int.mul_le_mul_of_nonneg_right h2 (Int.le_of_lt hp)
   have h4:q*2^k≤x:=by rw[hq];exact Int.ediv_mul_le x (Int.ne_of_gt hp)
   omega
theorem isLen_le{x:Int}{n p:Nat}(h:Zl8 x n)(hx:x<2^p):n≤p:=by
  obtain⟨h1,h2⟩:=h
  rcases h2 with h2|h2
  · omega
  · rcases Nat.lt_or_ge p n with hlt|hge
    · have:(2:Int)^p≤2^(n-1):=by
        have:=Nat.pow_le_pow_right (show 0<2 by omega) (show p≤n-1 by omega)
        exact_mod_cast this
      omega
    · exact hge
theorem Zfq{x:Int}{n p:Nat}(h:Zl8 x n)(hn:n≤p):x<2^p:=by
 have:(2:Int)^n≤2^p:=by
   have:=Nat.pow_le_pow_right (show 0<2 by omega) hn
   exact_mod_cast this
 exact Int.lt_of_lt_of_le h.1 this
def lenChk(i:Nat):Bool:=match(Q1q (i:Int)) with
 | .ofNat n=>decide ((i:Int)<2^n)&&(Nat.beq n 0||decide ((2:Int)^(n-1)≤i))&&decide (n≤8)
 |_=>false
theorem Qsj{q:Int}(h0:0≤q)(h1:q<256): ∃n:Nat,Q1q q=n∧Zl8 q n∧n≤8:=by
 have all:List.all (List.range 256) lenChk=true:=by kernel_rfl
 have:=List.all_eq_true.1 all q.toNat (List.mem_range.2 (by omega))
 have hq:((q.toNat:Nat):Int)=q:=by omega
 unfold lenChk at this
 rw[hq]at this
 split at this
 · rename_i n hn
   simp only[Bool.and_eq_true,Bool.or_eq_true,decide_eq_true_eq]at this
   refine⟨n,hn,⟨this.1.1,?_⟩,this.2⟩
   rcases this.1.2 with h|h
   · exact .inl (Nat.eq_of_beq_eq_true h)
   · exact .inr h
 · cases this
theorem len_24{x:Int}(h:U x)(hx:16777216≤x):Q1q x=24+Q1q (x/16777216):=by
 obtain⟨h0,h1⟩:=h
 have s16:ishr .u32 x 16=x/65536:=Qq5 16 (by omega)
 have s24:ishr .u32 (x/65536) 8=x/16777216:=by rw[show((8:Int))=((8:Nat):Int) from rfl,Qq5 8 (by omega)];omega
 have d1:decide (x≥65536)=true:=decide_eq_true (by omega)
 have d2:decide (x/65536≥256)=true:=decide_eq_true (by omega)
 have d3:decide (x/16777216≥65536)=false:=decide_eq_false (by omega)
 have d4:decide (x/16777216≥256)=false:=decide_eq_false (by omega)
 have u:IntKind.u8.wrap (x/16777216)=x/16777216:=by rw[IntKind.wrap_u8];omega
 simp only[Q1q,Q20,Tree.m,s16,s24,d1,d2,d3,d4,u,cond_true,cond_false]
 generalize(List.getD _ (Int.toNat (x/16777216)) (0:UInt8))=b
 have hb:=UInt8.toNat_lt b
 rw[IntKind.wrap_i64,IntKind.wrap_i64,IntKind.wrap_i64,IntKind.wrap_i64]
 omega
theorem len_16{x:Int}(h0:65536≤x)(h1:x<16777216):Q1q x=16+Q1q (x/65536):=by
 have s16:ishr .u32 x 16=x/65536:=Qq5 16 (by omega)
 have d1:decide (x≥65536)=true:=decide_eq_true (by omega)
 have d2:decide (x/65536≥256)=false:=decide_eq_false (by omega)
 have d3:decide (x/65536≥65536)=false:=decide_eq_false (by omega)
 have u:IntKind.u8.wrap (x/65536)=x/65536:=by rw[IntKind.wrap_u8];omega
 simp only[Q1q,Q20,Tree.m,s16,d1,d2,d3,u,cond_true,cond_false]
 generalize(List.getD _ (Int.toNat (x/65536)) (0:UInt8))=b
 have hb:=UInt8.toNat_lt b
 rw[IntKind.wrap_i64,IntKind.wrap_i64,IntKind.wrap_i64]
 omega
theorem len_8{x:Int}(h0:256≤x)(h1:x<65536):Q1q x=8+Q1q (x/256):=by
 have s8:ishr .u32 x 8=x/256:=Qq5 8 (by omega)
 have d1:decide (x≥65536)=false:=decide_eq_false (by omega)
 have d2:decide (x≥256)=true:=decide_eq_true (by omega)
 have d3:decide (x/256≥65536)=false:=decide_eq_false (by omega)
 have d4:decide (x/256≥256)=false:=decide_eq_false (by omega)
 have u:IntKind.u8.wrap (x/256)=x/256:=by rw[IntKind.wrap_u8];omega
 simp only[Q1q,Q20,Tree.m,s8,d1,d2,d3,d4,u,cond_true,cond_false]
 generalize(List.getD _ (Int.toNat (x/256)) (0:UInt8))=b
 have hb:=UInt8.toNat_lt b
 rw[IntKind.wrap_i64,IntKind.wrap_i64,IntKind.wrap_i64,IntKind.wrap_i64]
 omega
theorem Zm{x:Int}(h:U x): ∃n:Nat,Q1q x=n∧Zl8 x n:=by
  obtain⟨h0,h1⟩:=h
  rcases Int.lt_or_le x 256 with a|a
  · obtain⟨n,e,l,_⟩:=Qsj h0 a
    exact⟨n,e,l⟩
  · rcases Int.lt_or_le x 65536 with b|b
    · obtain⟨n,e,l,_⟩:=Qsj (q:=x/256) (by omega) (by omega)
      exact⟨n+8,by rw[len_8 a b,e];omega,Z8c (k:=8) rfl (by omega) l⟩
    · rcases Int.lt_or_le x 16777216 with c|c
      · obtain⟨n,e,l,_⟩:=Qsj (q:=x/65536) (by omega) (by omega)
        exact⟨n+16,by rw[len_16 b c,e];omega,Z8c (k:=16) rfl (by omega) l⟩
      · obtain⟨n,e,l,_⟩:=Qsj (q:=x/16777216) (by omega) (by omega)
        exact⟨n+24,by rw[len_24 ⟨h0,h1⟩ c,e];omega,Z8c (k:=24) rfl (by omega) l⟩
theorem Z2b{b:Q07}(h:U b.C5){P:Nat}:Q33 b P=true↔b.C5<2^P:=by
 obtain⟨n,e,l⟩:=Zm h
 have hp:(if(0:Int)>(P:Int) then(0:Int) else P)=P:=by rw[if_neg (by omega)]
 simp only[Q33,Q40,Tree.m,letv,e,hp,decide_eq_true_eq]
 constructor
 · intro h;exact Zfq l (by omega)
 · intro h;have:=isLen_le l h;omega
theorem Z8a{a:Int}(h:U a){P:Nat}(h1:a<2^P):(BitVec.ofInt 32 a).toNat<2^P:=by
 obtain⟨a0,a1⟩:=h
 rw[BitVec.toNat_ofInt,Int.emod_eq_of_lt a0 (by omega)]
 have:((2^P:Nat):Int)=(2:Int)^P:=by exact_mod_cast rfl
 omega
theorem or_lt{a b:Int}(ha:U a)(hb:U b){P:Nat}(hP:P≤32)(h1:a<2^P)(h2:b<2^P):ior .u32 a b<2^P:=by
 have e:(BitVec.ofInt 32 a|||BitVec.ofInt 32 b).toNat<2^P:=by
   rw[BitVec.toNat_or]
   exact Nat.or_lt_two_pow (Z8a ha h1) (Z8a hb h2)
 have hc:((2^P:Nat):Int)=(2:Int)^P:=by exact_mod_cast rfl
 have l:=(BitVec.ofInt 32 a|||BitVec.ofInt 32 b).isLt
 show IntKind.wrap .u32 ((BitVec.ofInt 32 a|||BitVec.ofInt 32 b).toNat:Int)<2^P
 rw[IntKind.wrap_u32]
 omega
theorem andn_lt{a b:Int}(ha:U a){P:Nat}(h1:a<2^P):Qhf .u32 a b<2^P:=by
 have e:(BitVec.ofInt 32 a&&&~~~BitVec.ofInt 32 b).toNat<2^P:=by
   rw[BitVec.toNat_and]
   exact Nat.lt_of_le_of_lt Nat.and_le_left (Z8a ha h1)
 have hc:((2^P:Nat):Int)=(2:Int)^P:=by exact_mod_cast rfl
 have l:=(BitVec.ofInt 32 a&&&~~~BitVec.ofInt 32 b).isLt
 show IntKind.wrap .u32 ((BitVec.ofInt 32 a&&&~~~BitVec.ofInt 32 b).toNat:Int)<2^P
 rw[IntKind.wrap_u32]
 omega
theorem shl_one{v:Int}(h0:0≤v)(h1:v<32):ishl .u32 1 v=2^v.toNat:=by
 have e:min v.toNat IntKind.u32.bits=v.toNat:=by show min v.toNat 32=v.toNat;omega
 obtain⟨n,rfl⟩: ∃n:Nat,v=n:=⟨v.toNat,by omega⟩
 have hn:n<32:=by omega
 have hlt:(2:Nat)^n<4294967296:=by
   have:=Nat.pow_lt_pow_right (show 1<2 by omega) hn
   simpa using this
 have hc:((2^n:Nat):Int)=(2:Int)^n:=by exact_mod_cast rfl
 unfold ishl
 rw[e,IntKind.wrap_u32,Int.one_mul,Int.toNat_natCast,←hc]
 clear hc e
 generalize(2:Nat)^n=z at*
 omega
def keepB(P:Nat)(b b':Q07):Prop:=okB b'∧(Q33 b P=true→Q33 b' P=true)
theorem Zmb{P:Nat}{m:List Int}(h:Q12 P m){b:Q07}(hb:okB b)(port:Int){v:Int}(hv:U v):(Q2z b m port v).w (λr=>keepB P b r.1∧Q12 P r.2):=by
 have hcl:Q03 m=m:=rfl
 have h2:=h.p2
 have hp:=Q4f h
 have keep:(Tree.an (Q08 m) (.lv (Q03 m) λx=> .lf (b,x))).w (λr=>keepB P b r.1∧Q12 P r.2):=w_an (Qan h) (w_lv λx hx=>by rw[hcl]at hx;subst hx;exact⟨⟨hb,λh=>h⟩,h⟩)
 unfold Q2z
 refine w_br (λ_=>keep) λhlt=>w_cn (decide_eq_true hv.1) (w_br (λ_=>w_lv λx1 hx=>w_br (λhpg=>w_br (λ_=>w_an ⟨by decide,by decide,by decide⟩ (w_lv λx2 _=>Q0b (Qzt h _ _) λx3 ⟨h3,_⟩=> ?_)) (λ_=>keep)) (λ_=>keep)) (λ_=>w_br (λ_=>w_an (Qan h) (w_lv λx hx=> ?_)) (λ_=>keep)))
 · have hlt:=of_decide_eq_false hlt
   have hpg:=of_decide_eq_true hpg
   rw[hx,hp]at hpg
   obtain⟨v0,v1⟩:=hv
   have ev:IntKind.i64.wrap v=v:=by rw[IntKind.wrap_i64];omega
   rw[ev]at hpg
   refine⟨⟨⟨hb.1,Q0s _⟩,λhm=> ?_⟩,h3⟩
   rw[Z2b hb.2]at hm
   rw[Z2b (Q0s _)]
   have hs:ishl .u32 1 v<2^P:=by
     rw[shl_one v0 (by omega)]
     have:=Nat.pow_lt_pow_right (show 1<2 by omega) (show v.toNat<P by omega)
     exact_mod_cast this
   exact or_lt hb.2 (Q0s _) h2 hm hs
 · rw[hcl]at hx;subst hx
   refine⟨⟨⟨hb.1,Q0s _⟩,λhm=> ?_⟩,h⟩
   rw[Z2b hb.2]at hm
   rw[Z2b (Q0s _)]
   exact andn_lt hb.2 hm
structure kept(P:Nat)(m n:Q01):Prop where
 ok:okS P n
 dev:Q0z m=true→Q0z n=true
 cpu:n.B2=m.B2
 cnt:n.A6=m.A6
 wait:n.A4=m.A4
 halt:n.A7=m.A7
theorem Zc1{P:Nat}{m:Q01}(h:okS P m):kept P m m:=⟨h,λh=>h,rfl,rfl,rfl,rfl⟩
theorem Qov{P:Nat}{m n:Q01}(hm:Q12 P m.Mem)(hn:Q12 P n.Mem)(hc:Q2s m.A3=true→Q2s n.A3=true)(ht:Q55 m.A9=true→Q55 n.A9=true)
   (hd:Q1n m.B1 P=true→Q1n n.B1 P=true) (hk:Q70 m.C2 P=true→Q70 n.C2 P=true) (hb:Q33 m.A1 P=true→Q33 n.A1 P=true) (h:Q0z m=true):Q0z n=true:=by
 rw[dev_eq]at h⊢
 rw[Q4f hm]at h
 rw[Q4f hn]
 simp only[Bool.and_eq_true]at h⊢
 exact⟨hc h.1,ht h.2.1,hd h.2.2.1,hk h.2.2.2.1,hb h.2.2.2.2⟩
theorem Zhu{P:Nat}{m:Q01}(h:okS P m)(port:Int){v:Int}(hv:U v)(at0:Int):(Q2a m port v at0).w (λr=>kept P m r.1∧r.2.length≤1):=by
 have k:=Zc1 h
 obtain⟨h1,h2,h3,h4,h5,h6⟩:=h
 have id: ∀{p:Prop},p→p:=λh=>h
 have D: ∀(x:Q0e×List Q04),(keepD P m.B1 x.1∧x.2.length≤1)→kept P m {B2:=m.B2,Mem:=m.Mem,A3:=m.A3,A9:=m.A9,B1:=x.1,C2:=m.C2,A1:=m.A1,A6:=m.A6,A4:=m.A4,A7:=m.A7}∧x.2.length≤1:=λx hx=>
   ⟨⟨⟨h1,h2,hx.1.1,h4,h5,h6⟩,Qov h2 h2 id id hx.1.2 id id,rfl,rfl,rfl,rfl⟩,hx.2⟩
 have N: ∀(x:Q0n×List Q04),(keepN P m.C2 x.1∧x.2.length≤1)→kept P m {B2:=m.B2,Mem:=m.Mem,A3:=m.A3,A9:=m.A9,B1:=m.B1,C2:=x.1,A1:=m.A1,A6:=m.A6,A4:=m.A4,A7:=m.A7}∧x.2.length≤1:=λx hx=>
   ⟨⟨⟨h1,h2,h3,hx.1.1,h5,h6⟩,Qov h2 h2 id id id hx.1.2 id,rfl,rfl,rfl,rfl⟩,hx.2⟩
 have B: ∀(x:Q07×List Int),(keepB P m.A1 x.1∧Q12 P x.2)→kept P m {B2:=m.B2,Mem:=x.2,A3:=m.A3,A9:=m.A9,B1:=m.B1,C2:=m.C2,A1:=x.1,A6:=m.A6,A4:=m.A4,A7:=m.A7}∧([]:List Q04).length≤1:=λx hx=>
   ⟨⟨⟨h1,hx.2,h3,h4,hx.1.1.1,hx.1.1.2⟩,Qov h2 hx.2 id id id id hx.1.2,rfl,rfl,rfl,rfl⟩,Nat.zero_le _⟩
 unfold Q2a
 repeat'(first
   |exact⟨k,Nat.le_refl _⟩
   |exact⟨k,Nat.zero_le _⟩
   |exact w_lv λx hx=>⟨⟨⟨h1,h2,h3,h4,h5,h6⟩,Qov h2 h2 id (λ_=>by rw[hx];exact arm_may _ _) id id id,rfl,rfl,rfl,rfl⟩,Nat.zero_le _⟩
   |exact Q0b (diskP_w h2 h3 _ hv _) λx hx=>D x hx
   |exact Q0b (nicP_w h2 h4 _ hv _) λx hx=>N x hx
   |exact Q0b (Zmb h2 ⟨h5,h6⟩ _ hv) λx hx=>B x hx
   |refine w_br (λ_=> ?_) (λ_=> ?_))
theorem Z5x(c:Q0c)(port:Int):(Qaj c port).w (λr=>U r.2∧(Q2s c=true→Q2s r.1=true)):=by
 have u1:U 4294967295:=⟨by omega,by omega⟩
 unfold Qaj
 refine w_br (λ_=>w_br (λ_=>⟨u1,λh=>h⟩) (λhb=>w_cn ?_ (w_cn ?_ ⟨Q0s _,λhm=> ?_⟩))) (λ_=>w_br (λ_=>⟨Q0s _,λh=>h⟩) (λ_=>⟨U_0,λh=>h⟩))
 · have hb:=of_decide_eq_false hb
   have:0<c.D1.length:=List.length_pos_iff.2 hb
   simp [Nat.blt];omega
 · have hb:=of_decide_eq_false hb
   have:0<c.D1.length:=List.length_pos_iff.2 hb
   exact decide_eq_true (by omega)
 · have hm:decide ((c.D1.length:Int)≤16)=true:=hm
   have hm:=of_decide_eq_true hm
   show decide (((List.take _ (List.drop _ c.D1)).length:Int)≤16)=true
   refine decide_eq_true ?_
   rw[List.length_take,List.length_drop];omega
theorem Zmr{P:Nat}{m:Q01}(h:okS P m)(port:Int){clock:Int}(hc:U clock):(Q2l m port clock).w (λr=>kept P m r.1∧U r.2):=by
 have k:=Zc1 h
 obtain⟨h1,h2,h3,h4,h5,h6⟩:=h
 have id: ∀{p:Prop},p→p:=λh=>h
 have ti: ∀t,U (Qz1 t):=λt=>by
   refine Tree.post (Qpa t) (W:=U) ?_
   unfold Qpa
   exact w_br (λ_=>⟨by omega,by omega⟩) (λ_=>U_0)
 have di: ∀p,U (Qvj m.B1 p):=λp=>by
   refine Tree.post (Qt9 m.B1 p) (W:=U) ?_
   unfold Qt9
   exact w_br (λ_=>h3.block) (λ_=>w_br (λ_=>h3.frame) (λ_=>w_br (λ_=>Q0s _) (λ_=>U_0)))
 have ni: ∀p,U (Z2c m.C2 p):=λp=>by
   refine Tree.post (Qsg m.C2 p) (W:=U) ?_
   unfold Qsg
   exact w_br (λ_=>h4.frame) (λ_=>w_br (λ_=>h4.got) (λ_=>w_br (λ_=>w_br (λ_=>w_br (λ_=>Q0s _) (λ_=>Q0s _)) (λ_=>w_br (λ_=>Q0s _) (λ_=>U_0))) (λ_=>U_0)))
 have bi: ∀p,(Q7m m.A1 p).w U:=λp=>by
   unfold Q7m
   exact w_br (λ_=>h5) (λ_=>w_br (λ_=>Q0b (Zi3 h6) λ_ _=>Q0s _) (λ_=>U_0))
 have C: ∀(x:Q0c×Int),(U x.2∧(Q2s m.A3=true→Q2s x.1=true))→kept P m {B2:=m.B2,Mem:=m.Mem,A3:=x.1,A9:=m.A9,B1:=m.B1,C2:=m.C2,A1:=m.A1,A6:=m.A6,A4:=m.A4,A7:=m.A7}∧U x.2:=λx hx=>
   ⟨⟨⟨h1,h2,h3,h4,h5,h6⟩,Qov h2 h2 hx.2 id id id id,rfl,rfl,rfl,rfl⟩,hx.1⟩
 unfold Q2l
 repeat'(first
   |exact⟨k,hc⟩
   |exact⟨k,U_0⟩
   |exact Q0b (Z5x _ _) λx hx=>C x hx
   |exact Zae (Z5x _ _) λx hx=>C x hx
   |exact w_lv λx hx=>⟨k,by rw[hx];exact ti _⟩
   |exact w_lv λx hx=>⟨k,by rw[hx];exact di _⟩
   |exact w_lv λx hx=>⟨k,by rw[hx];exact ni _⟩
   |exact Q0b (bi _) λx hx=>⟨k,hx⟩
   |refine w_br (λ_=> ?_) (λ_=> ?_))
structure Q86(c:Q02):Prop where
 x0:c.X.a0=0
 st:c.B5.a0≤31
 en:c.B5.a7≤31
 rt:c.B5.a6≤255
 ve:Int.tmod c.B5.a1 4=0
theorem Q86.pc{c:Q02}(h:Q86 c)(p:Int):Q86 {X:=c.X,Pc:=p,B5:=c.B5}:=⟨h.x0,h.st,h.en,h.rt,h.ve⟩
theorem and31(a:Int):iand .u32 a 31≤31:=by
 have e:(BitVec.ofInt 32 a&&&BitVec.ofInt 32 31).toNat≤31:=by
   rw[BitVec.toNat_and]
   exact Nat.le_trans Nat.and_le_right (by decide)
 show IntKind.wrap .u32 ((BitVec.ofInt 32 a&&&BitVec.ofInt 32 31).toNat:Int)≤31
 rw[IntKind.wrap_u32];omega
theorem and255'(a:Int):iand .u32 a 255≤255:=by have:=and255 a;omega
theorem andn3(a:Int):Int.tmod (Qhf .u32 a 3) 4=0:=by
 have e:(BitVec.ofInt 32 a&&&~~~BitVec.ofInt 32 3).toNat%4=0:=by
   rw[BitVec.toNat_and,show(~~~BitVec.ofInt 32 3).toNat=4294967292 by decide]
   have:=Nat.and_mod_two_pow (a:=(BitVec.ofInt 32 a).toNat) (b:=4294967292) (n:=2)
   simpa using this
 have l:=(BitVec.ofInt 32 a&&&~~~BitVec.ofInt 32 3).isLt
 show Int.tmod (IntKind.wrap .u32 ((BitVec.ofInt 32 a&&&~~~BitVec.ofInt 32 3).toNat:Int)) 4=0
 rw[IntKind.wrap_u32,Int.tmod_eq_emod_of_nonneg (by omega)]
 omega
theorem fin32{f:Int→Int}(h:(List.range 32).all (λn=>decide (f n≤31))=true){s:Int}(h0:0≤s)(h1:s≤31):f s≤31:=by
 have:=List.all_eq_true.1 h s.toNat (List.mem_range.2 (by omega))
 have e:((s.toNat:Nat):Int)=s:=by omega
 rw[e]at this
 exact of_decide_eq_true this
theorem Qlu{c:Q02}(h:Q2q c)(m:Q86 c)(k b:Int):Q86 (Q59 c k b):=
 ⟨m.x0,fin32 (f:=λs=>Qhf .u32 (ior .u32 (Q9z (Q9z s 1 8) 2 16) 1) 2) (by kernel_rfl) h.a0.1 m.st,m.en,m.rt,m.ve⟩
theorem Zmj{c:Q02}(h:Q2q c)(m:Q86 c):Q86 (Qek c):=
 ⟨m.x0,fin32 (f:=λs=>Q9z (Q9z s 8 1) 16 2) (by kernel_rfl) h.a0.1 m.st,m.en,m.rt,m.ve⟩
theorem Qw7{c:Q02}(m:Q86 c){r:Int}(hr:0≤r∧r<16)(v:Int):(Q9h c r v).w Q86:=by
 unfold Q9h
 refine w_br (λhn=>w_cn (rc hr) ?_) (λ_=>m)
 have hn:r≠0:=by simpa using hn
 obtain⟨n,e⟩: ∃n:Nat,r.toNat=n+1:=⟨r.toNat-1,by omega⟩
 refine⟨?_,m.st,m.en,m.rt,m.ve⟩
 show(A16.of 0 (List.set (A16.l c.X) r.toNat v)).a0=0
 rw[e]
 exact m.x0
theorem write_may{c:Q02}(m:Q86 c)(k v:Int):(Q83 c k v).w Q86:=by
 unfold Q83
 refine w_br (λhk=>w_cn (by rw[eq_of_beq hk];decide) ?_) λ_=>w_br (λhk=>w_cn (by rw[eq_of_beq hk];decide) ?_) λ_=>w_br (λhk=>w_cn (by rw[eq_of_beq hk];decide) ?_) λ_=>w_br (λhk=>w_cn (by rw[eq_of_beq hk];decide) ?_) λ_=>w_br (λhk=>w_cn (by rw[eq_of_beq hk];decide) ?_) λ_=>w_br (λhk=>w_cn (by rw[eq_of_beq hk];decide) ?_) λ_=>w_br (λhk=>w_cn (by rw[eq_of_beq hk];decide) ?_) λ_=>w_br (λhk=>w_cn (by rw[eq_of_beq hk];decide) ?_) (λ_=>m)
 all_goals(have hk:=eq_of_beq hk;subst hk)
 · exact⟨m.x0,and31 _,m.en,m.rt,m.ve⟩
 · exact⟨m.x0,m.st,and31 _,m.rt,m.ve⟩
 · exact⟨m.x0,m.st,m.en,and255' _,m.ve⟩
 · exact⟨m.x0,m.st,m.en,m.rt,andn3 _⟩
 · exact⟨m.x0,m.st,m.en,m.rt,m.ve⟩
 · exact⟨m.x0,m.st,m.en,m.rt,m.ve⟩
 · exact⟨m.x0,m.st,m.en,m.rt,m.ve⟩
 · exact⟨m.x0,m.st,m.en,m.rt,m.ve⟩
section
variable {c:Q02} (h:Q2q c) (m:Q86 c) {i:Q0h} (hi:Qfx i)
include h m hi
theorem Zft:(Q3g c i).w (λr=>Q86 r.1):=by
 unfold Q3g
 refine w_cn (rc hi.a) (w_cn (rc hi.b) ?_)
 repeat'(first
   |refine w_br (λ_=> ?_) (λ_=> ?_)
   |exact Q0b (Qw7 m hi.a _) λx hx=>hx.pc _
   |exact w_lv λx _=>w_br (λ_=>m.pc _) (λ_=>m.pc _)
   |exact w_lv λx hx=>by rw[hx];exact Qlu h m _ _
   |exact w_lv λx hx=>by rw[hx];exact Zmj h m
   |exact w_cn (by have:=hi.csr (by simp_all);simp [Nat.blt];omega) (Q0b (Qw7 m hi.a _) λx hx=>hx.pc _)
   |exact Q0b (write_may m _ _) λx hx=>hx.pc _
   |refine w_cn (rc hi.c) ?_
   |exact Q0b (Z6p _ (h.r _) (Q0s _)) λy hy=>Q0b (Qw7 m hi.a _) λx hx=>hx.pc _
   |exact Q0b (Z6p _ (h.r _) (h.r _)) λy hy=>Q0b (Qw7 m hi.a _) λx hx=>hx.pc _
   |refine w_lf ?_)
 all_goals exact m.pc _
theorem load_may{P:Nat}{mem:List Int}(hm:Q12 P mem):(Q9n c mem i).w (λr=>Q86 r.1):=by
 have w:=Z9k i.Op
 unfold Q9n
 refine w_cn (rc hi.b) (w_lv λx0 h0=> ?_)
 rw[←h0]at w
 refine Q0b (Qkm hm (Q0s _) w 2) λx1 h1=>w_br (λ_=>w_lv λy hy=>by rw[hy];exact Qlu h m _ _) (λ_=>w_lv λx3 h3=> ?_)
 rw[h0,←h3]at w
 exact Q0b (Qqp h1.2 h1.1 w) λx4 h4=>w_br (λ_=>Q0b (Qvm h4.1 8) λy hy=>Q0b (Qw7 m hi.a _) λx hx=>hx.pc _) (λ_=>Q0b (Qw7 m hi.a _) λx hx=>hx.pc _)
theorem store_may{P:Nat}{mem:List Int}(hm:Q12 P mem):(Q80 c mem i).w (λr=>Q86 r.1):=by
 have w:=Z9k i.Op
 unfold Q80
 refine w_cn (rc hi.b) (w_lv λx0 h0=> ?_)
 rw[←h0]at w
 refine Q0b (Qkm hm (Q0s _) w 3) λx1 h1=>w_br (λ_=>w_lv λy hy=>by rw[hy];exact Qlu h m _ _) (λ_=>w_lv λx3 h3=>w_cn (rc hi.a) ?_)
 rw[h0,←h3]at w
 exact Q0b (Qzb h1.2 h1.1 w (h.r _)) λx hx=>m.pc _
end
theorem exec_may{c:Q02}(h:Q2q c)(m:Q86 c){P:Nat}{mem:List Int}(hm:Q12 P mem):(Q78 c mem).w (λr=>Q86 r.1):=by
 unfold Q78
 refine Q0b (Z8w hm h) λx0 h0=>w_br (λ_=>w_lv λy hy=>by rw[hy];exact Qlu h m _ _) (λ_=>Q0b (Z2s _) λx2 h2=>w_br (λ_=>w_lv λy hy=>by rw[hy];exact Qlu h m _ _) (λhb=> ?_))
 have hi:=h2 (by simpa using hb)
 refine w_lv λx4 _=> ?_
 repeat'(first
   |refine w_br (λ_=> ?_) (λ_=> ?_)
   |exact Q0b (load_may h m hi h0.2) λx hx=>hx
   |exact Q0b (store_may h m hi h0.2) λx hx=>hx
   |exact Q0b (Zft h m hi) λx hx=>hx
   |exact w_lv λy hy=>by rw[hy];exact Qlu h m _ _
   |refine w_lv λ_ _=> ?_)
theorem Zgv{c:Q02}(h:Q2q c){i:Q0h}(hi:Qfx i):(Q3g c i).w (λr=>0≤r.2.D9∧r.2.D9<16):=by
 have z:(0:Int)≤0∧(0:Int)<16:=⟨by decide,by decide⟩
 unfold Q3g
 refine w_cn (rc hi.a) (w_cn (rc hi.b) ?_)
 repeat'(first
   |refine w_br (λ_=> ?_) (λ_=> ?_)
   |exact Q0b (Qpz h hi.a (Q0s _)) λx hx=>z
   |exact w_lv λx _=>w_br (λ_=>z) (λ_=>z)
   |exact w_lv λx hx=>z
   |exact w_cn (by have:=hi.csr (by simp_all);simp [Nat.blt];omega) (Q0b (Qpz h hi.a (h.a _)) λx hx=>z)
   |exact Q0b (Zjr h _ (h.r _)) λx hx=>z
   |refine w_cn (rc hi.c) ?_
   |exact Q0b (Z6p _ (h.r _) (Q0s _)) λy hy=>Q0b (Qpz h hi.a hy) λx hx=>z
   |exact Q0b (Z6p _ (h.r _) (h.r _)) λy hy=>Q0b (Qpz h hi.a hy) λx hx=>z
   |refine w_lf ?_)
 all_goals first|exact z|exact hi.a
theorem Zjh{c:Q02}(h:Q2q c){P:Nat}{mem:List Int}(hm:Q12 P mem):(Q78 c mem).w (λr=>0≤r.2.2.D9∧r.2.2.D9<16):=by
 have z:(0:Int)≤0∧(0:Int)<16:=⟨by decide,by decide⟩
 unfold Q78
 refine Q0b (Z8w hm h) λx0 h0=>w_br (λ_=>w_lv λy hy=>z) (λ_=>Q0b (Z2s _) λx2 h2=>w_br (λ_=>w_lv λy hy=>z) (λhb=> ?_))
 have hi:=h2 (by simpa using hb)
 refine w_lv λx4 _=> ?_
 repeat'(first
   |refine w_br (λ_=> ?_) (λ_=> ?_)
   |exact Q0b (Z1g h hi h0.2) λx hx=>z
   |exact Q0b (Qxj h hi h0.2) λx hx=>z
   |exact Q0b (Zgv h hi) λx hx=>hx
   |exact w_lv λy hy=>z
   |refine w_lv λ_ _=> ?_)
theorem cnd2{a x:Bool}:(bif a then false else x)=true↔a=false∧x=true:=by cases a<;>simp
theorem Qos(m:Q01):Q13 m=true↔Q0v m.Mem≠0∧Q86 m.B2∧m.A6≤1152921504606846976∧ ¬(m.A4=true∧m.A7=true)∧Q0z m=true:=by
  rw[may_eq]
  unfold mayC chain
  rw[cnd2,cnd2,cnd2,cnd2,cnd2,cnd2,cnd2]
  simp only[decide_eq_false_iff_not,Int.not_lt,beq_eq_false_iff_ne,bne_eq_false_iff_eq,gt_iff_lt]
  constructor
  · rintro⟨a1,a2,a3,a4,a5,a6,a7,a8⟩
    refine⟨a1,⟨a2,a3,a4,a5,a6⟩,a7,?_,?_⟩
    · rintro⟨w,h⟩;rw[w,h]at a8;cases a8
    · revert a8;cases m.A4
      · exact λh=>h
      · cases m.A7
        · exact λh=>h
        · intro h;cases h
  · rintro⟨a1,⟨a2,a3,a4,a5,a6⟩,a7,a8,a9⟩
    refine⟨a1,a2,a3,a4,a5,a6,a7,?_⟩
    rw[a9]
    cases hw:m.A4
    · rfl
    · cases hh:m.A7
      · rfl
      · exact absurd ⟨hw,hh⟩ a8
theorem Qz6{m:Q01}(h:Q36 m=true):Q13 m=true∧m.A7=false∧m.A6<1152921504606846976:=by
  simp only[Q36,Q3u,Tree.m,letv]at h
  cases h1:Q13 m
  · rw[h1]at h;cases h
  · cases h2:m.A7
    · rw[h1,h2]at h
      cases h3:Q7y m
      · rw[h3]at h
        have h:decide (m.A6<1152921504606846976)=true:=h
        exact⟨rfl,rfl,of_decide_eq_true h⟩
      · rw[h3]at h;cases h
    · rw[h1,h2]at h;cases h
theorem Z27{P:Nat}{m:Q01}(h:okS P m)(g:Q86 m.B2):(Q2o m).w (λr=>Q86 r.B2∧okS P r∧r.Mem=m.Mem∧r.A4=false∧r.A7=m.A7∧r.A6=m.A6∧r.A3=m.A3∧r.A9=m.A9∧r.B1=m.B1∧r.C2=m.C2∧r.A1=m.A1):=by
 obtain⟨h1,h2,h3,h4,h5,h6⟩:=h
 unfold Q2o
 refine w_br (λ_=>⟨g,⟨h1,h2,h3,h4,h5,h6⟩,rfl,rfl,rfl,rfl,rfl,rfl,rfl,rfl,rfl⟩) (λ_=>Q0b (Qvn (m:=⟨_,_,_,_,_,_,m.A1,_,_,_⟩) h6) λx0 _=>w_lp (inv:=λz=>0≤z∧z≤5) (μ:=Qcr m) ⟨by omega,by omega⟩ (Nat.lt_succ_self _) (λz hz=> ?_))
 obtain⟨z1,z2⟩:=hz
 refine w_br (λhb=>w_cn (decide_eq_true z1) (w_br (λ_=>w_lv λx1 hx=>⟨by rw[hx];exact Qlu h1 g _ _,⟨by rw[hx];exact Qof h1 _ U_0,h2,h3,h4,h5,h6⟩,rfl,rfl,rfl,rfl,rfl,rfl,rfl,rfl,rfl⟩) (λ_=>w_nx ?_))) (λ_=>⟨g,⟨h1,h2,h3,h4,h5,h6⟩,rfl,rfl,rfl,rfl,rfl,rfl,rfl,rfl,rfl⟩)
 have hb:=of_decide_eq_true hb
 show(0≤IntKind.i64.wrap (z+1)∧IntKind.i64.wrap (z+1)≤5)∧(5-IntKind.i64.wrap (z+1)).toNat<(5-z).toNat
 have ew:IntKind.i64.wrap (z+1)=z+1:=by rw[IntKind.wrap_i64];omega
 rw[ew];omega
structure Good(P:Nat)(m r:Q01):Prop where
 ok:okS P r
 cnt:0≤r.A6
 may:Q13 m=true→Q13 r=true
 or:r=m∨r.A6=m.A6+1
theorem step_w0{P:Nat}{m:Q01}(h:okS P m)(hc0:0≤m.A6){clock:Int}(hk:U clock):(Q3b m clock).w (λr=>r.2.length≤1∧Good P m r.1):=by
 have hcl:Q03 m.Mem=m.Mem:=rfl
 unfold Q3b
 refine w_an (Qan h.mem) (w_lv λl hl=> ?_)
 rw[hcl]at hl;subst hl
 refine w_an (Tree.pp (Zhl (m:=⟨_,_,_,_,_,_,m.A1,_,_,_⟩) h.given)).1 (w_lv λx1 hx1=>w_br (λ_=>⟨Nat.zero_le _,h,hc0,λh=>h, .inl rfl⟩) (λhb=> ?_))
 have hr:Q36 m=true:=by rw[←show x1=Q36 m from hx1];simpa using hb
 obtain⟨hm,hh,hct⟩:=Qz6 hr
 obtain⟨g1,g2,g3,g4,g5⟩:=(Qos m).1 hm
 have hP:(P:Int)≠0:=by rw[←Q4f h.mem];exact g1
 have fin: ∀(n:Q01),okS P n→Q86 n.B2→Q0z n=true→n.A6=m.A6→ ¬(n.A4=true∧n.A7=true)→Good P m {B2:=n.B2,Mem:=n.Mem,A3:=n.A3,A9:=n.A9,B1:=n.B1,C2:=n.C2,A1:=n.A1,A6:=IntKind.wrap .u64 (n.A6+1),A4:=n.A4,A7:=n.A7}:=λn a b c d e=>by
   have ec:IntKind.wrap .u64 (n.A6+1)=m.A6+1:=by rw[d,IntKind.wrap_u64];omega
   refine⟨⟨a.cpu,a.mem,a.disk,a.nic,a.target,a.given⟩,?_,λ_=>(Qos _).2 ⟨?_,b,?_,e,c⟩, .inr ec⟩
   · show 0≤IntKind.wrap .u64 (n.A6+1);omega
   · show Q0v n.Mem≠0;rw[Q4f a.mem];exact hP
   · show IntKind.wrap .u64 (n.A6+1)≤_;omega
 refine Q0b (Z27 (m:=⟨_,_,m.A3,m.A9,m.B1,m.C2,m.A1,m.A6,m.A4,m.A7⟩) ⟨h.cpu,h.mem,h.disk,h.nic,h.target,h.given⟩ g2) λx2 hx2=> ?_
 obtain⟨b1,b2,b3,b4,b5,b6,b7,b8,b9,b10,b11⟩:=hx2
 have ex:=Tree.pp (execP_w b2.cpu b2.mem)
 have em:=Tree.pp (exec_may b2.cpu b1 b2.mem)
 have er:=Tree.pp (Zjh b2.cpu b2.mem)
 refine w_an ex.1 (w_lv λx3 h3=> ?_)
 obtain⟨e1,e2,e3⟩:Q2q x3.1∧Q12 P x3.2.1∧U x3.2.2.Value:=by rw[h3];exact ex.2
 have f1:Q86 x3.1:=by rw[h3];exact em.2
 have r1:0≤x3.2.2.D9∧x3.2.2.D9<16:=by rw[h3];exact er.2
 have ok3:okS P ⟨x3.1,x3.2.1,x2.A3,x2.A9,x2.B1,x2.C2,x2.A1,x2.A6,x2.A4,x2.A7⟩:=⟨e1,e2,b2.disk,b2.nic,b2.target,b2.given⟩
 have dev: ∀(w h:Bool),Q0z ⟨x3.1,x3.2.1,x2.A3,x2.A9,x2.B1,x2.C2,x2.A1,x2.A6,w,h⟩=true:=λw hh=>by
   have id: ∀{p:Prop},p→p:=λh=>h
   refine Qov (m:=m) (P:=P) h.mem e2 ?_ ?_ ?_ ?_ ?_ g5
   · show _→Q2s x2.A3=true;rw[b7];exact id
   · show _→Q55 x2.A9=true;rw[b8];exact id
   · show _→Q1n x2.B1 P=true;rw[b9];exact id
   · show _→Q70 x2.C2 P=true;rw[b10];exact id
   · show _→Q33 x2.A1 P=true;rw[b11];exact id
 have hw:x2.A4=false:=b4
 have hh2:x2.A7=false:=b5.trans hh
 have hct2:x2.A6=m.A6:=b6
 refine w_br (λ_=> ?_) λ_=>w_br (λ_=> ?_) λ_=>w_br (λ_=> ?_) λ_=>w_br (λ_=> ?_) λ_=> ?_
 · refine Q0b (Zmr ok3 _ hk) λx4 h4=> ?_
   obtain⟨k,u⟩:=h4
   have kc:x4.1.B2=x3.1:=k.cpu
   have kt:x4.1.A6=m.A6:=k.cnt.trans hct2
   have kw: ¬(x4.1.A4=true∧x4.1.A7=true):=λe=>by have:x4.1.A4=x2.A4:=k.wait;rw[this,hw]at e;cases e.1
   have km:Q86 x4.1.B2:=by rw[kc];exact f1
   refine w_br (λhn=>w_cn (rc r1) ⟨Nat.zero_le _,?_⟩) (λ_=>⟨Nat.zero_le _,fin x4.1 k.ok km (k.dev (dev _ _)) kt kw⟩)
   have hn:x3.2.2.D9≠0:=by simpa using hn
   obtain⟨q,e⟩: ∃q:Nat,x3.2.2.D9.toNat=q+1:=⟨x3.2.2.D9.toNat-1,by omega⟩
   refine fin ⟨⟨A16.of 0 (List.set (A16.l x4.1.B2.X) x3.2.2.D9.toNat x4.2),x4.1.B2.Pc,x4.1.B2.B5⟩,x4.1.Mem,x4.1.A3,x4.1.A9,x4.1.B1,x4.1.C2,x4.1.A1,x4.1.A6,x4.1.A4,x4.1.A7⟩ ⟨⟨Z91 k.ok.cpu.x u _,k.ok.cpu.pc,k.ok.cpu.csr⟩,k.ok.mem,k.ok.disk,k.ok.nic,k.ok.target,k.ok.given⟩ ⟨?_,km.st,km.en,km.rt,km.ve⟩ (k.dev (dev _ _)) kt kw
   show(A16.of 0 (List.set (A16.l x4.1.B2.X) x3.2.2.D9.toNat x4.2)).a0=0
   rw[e]
   exact km.x0
 · refine Q0b (Zhu ok3 _ e3 _) λx5 h5=> ?_
   obtain⟨k,u⟩:=h5
   have kc:x5.1.B2=x3.1:=k.cpu
   exact⟨u,fin x5.1 k.ok (by rw[kc];exact f1) (k.dev (dev _ _)) (k.cnt.trans hct2) (λe=>by have:x5.1.A4=x2.A4:=k.wait;rw[this,hw]at e;cases e.1)⟩
 · exact⟨Nat.zero_le _,fin ⟨x3.1,x3.2.1,x2.A3,x2.A9,x2.B1,x2.C2,x2.A1,x2.A6,true,x2.A7⟩ ⟨e1,e2,b2.disk,b2.nic,b2.target,b2.given⟩ f1 (dev _ _) hct2 (λe=>by have e2:x2.A7=true:=e.2;rw[hh2]at e2;cases e2)⟩
 · exact⟨Nat.zero_le _,fin ⟨x3.1,x3.2.1,x2.A3,x2.A9,x2.B1,x2.C2,x2.A1,x2.A6,x2.A4,true⟩ ⟨e1,e2,b2.disk,b2.nic,b2.target,b2.given⟩ f1 (dev _ _) hct2 (λe=>by have e2:x2.A4=true:=e.1;rw[hw]at e2;cases e2)⟩
 · exact⟨Nat.zero_le _,fin ⟨x3.1,x3.2.1,x2.A3,x2.A9,x2.B1,x2.C2,x2.A1,x2.A6,x2.A4,x2.A7⟩ ok3 f1 (dev _ _) hct2 (λe=>by have e2:x2.A4=true:=e.1;rw[hw]at e2;cases e2)⟩
theorem Zjg{P:Nat}{m:Q01}(h:okM P m){e:Q06}(he:U e.N):(Q39 m e).w (λr=>(Q13 m=true→Q13 r.1=true)∧r.1.A6=m.A6∧U r.1.A1.C5):=by
 obtain⟨h1,h2,h3,h4,h5,h7⟩:=h
 have hcl:Q03 m.Mem=m.Mem:=rfl
 have pg: ∀{m':List Int},Q12 P m'→Q0v m'=Q0v m.Mem:=λh=>by rw[Q4f h,Q4f h2]
 have keep:(Q13 m=true→Q13 m=true)∧m.A6=m.A6∧U m.A1.C5:=⟨λh=>h,rfl,h5.2⟩
 unfold Q39
 refine w_an (Qan h2) (w_lv λl hl=> ?_)
 rw[hcl]at hl;subst hl
 refine Q0b (Zbv (m:=⟨_,_,_,_,_,_,m.A1,_,_,_⟩) h5.2) λx1 _=>w_br (λ_=>keep) λ_=>w_br (λ_=>keep) λ_=> ?_
 refine w_br (λ_=>w_br (λ_=>w_br (λ_=>w_lv λx hx=> ?_) (λ_=>keep)) (λ_=>keep)) λ_=>w_br (λ_=>w_br (λ_=>w_br (λ_=>Q0b (ctype_w _ _) λx hx=> ?_) (λ_=>keep)) (λ_=>keep)) λ_=>w_br (λhk=>Q0b (Zkl h2 h3 e) λx hx=> ?_) λ_=>w_br (λhk=>w_br (λ_=>Q0b (receive_w h2 h4 _) λx hx=> ?_) (λ_=>keep)) λ_=>w_br (λ_=>w_br (λ_=> ?_) (λ_=>keep)) (λ_=>keep)
 · exact⟨Qsc rfl rfl rfl rfl rfl (λh=>h) (λh=>by rw[hx];exact fire_may _ h) (λ_ h=>h) (λ_ h=>h) rfl,rfl,h5.2⟩
 · exact⟨Qsc rfl rfl rfl rfl rfl hx (λh=>h) (λ_ h=>h) (λ_ h=>h) rfl,rfl,h5.2⟩
 · obtain⟨a1,a2,a3,a4,a5⟩:=hx
   exact⟨Qsc (pg a2) rfl rfl rfl rfl (λh=>h) (λh=>h) a5 (λ_ h=>h) rfl,rfl,h5.2⟩
 · obtain⟨a1,a2,a3,a4,a5⟩:=hx
   exact⟨Qsc (pg a2) rfl rfl rfl rfl (λh=>h) (λh=>h) (λ_ h=>h) a5 rfl,rfl,h5.2⟩
 · exact⟨Qsc rfl rfl rfl rfl rfl (λh=>h) (λh=>h) (λ_ h=>h) (λ_ h=>h) rfl,rfl,h5.2⟩
structure okW(m:Q01):Prop where
 cpu:Q2q m.B2
 u: ∀w∈m.Mem,U w
 len:m.Mem.length≤1024
 disk:Q9j m.B1
 nic:Qj m.C2
 bal:okB m.A1
 cnt:0≤m.A6
theorem Zg3{c:Q02}(h:Q2q c){i:Nat}{v:Int}(hv:U v){x:A8 Int}(hx:x=A8.of 0 (List.set (A8.l c.B5) i v))(p:Int)(hp:U p):Q2q {X:=c.X,Pc:=p,B5:=x}:=⟨h.x,hp,by rw[hx];exact Qtl h.csr hv i⟩
theorem bend_w{P:Nat}{m:Q01}(h:okM P m)(hP:1≤P)(hc:0≤m.A6)(where0 what:Int)(hd: ∀k:Int,0≤k→k≤128→Q5z what k):(Qj7 m where0 what).w okW:=by
 unfold Qj7
 refine Q0b (own7_w h) λx0 ⟨g,hct⟩=>w_an (Q7c (by decide)) (w_lv λx1 _=> ?_)
 have hc:0≤x0.A6:=by rw[hct];exact hc
 obtain⟨h1,h2,h3,h4,h5,_⟩:=g
 have hl:=h2.len
 have hp2:=h2.p2
 have hlen:x0.Mem.length≤1024:=by omega
 have hne:(x0.Mem.length:Int)≠0:=by omega
 have rr: ∀k:Int,0<k→k≤1000000→0≤Q26 what k∧Q26 what k<k:=λk a b=>Z0c a (by omega)
 have rl:=rr x0.Mem.length (by omega) (by omega)
 have C: ∀c,Q2q c→okW {B2:=c,Mem:=x0.Mem,A3:=x0.A3,A9:=x0.A9,B1:=x0.B1,C2:=x0.C2,A1:=x0.A1,A6:=x0.A6,A4:=x0.A4,A7:=x0.A7}:=λc a=>⟨a,h2.u,hlen,h3,h4,h5,hc⟩
 have M: ∀l:List Int,(∀w∈l,U w)→l.length≤1024→okW {B2:=x0.B2,Mem:=l,A3:=x0.A3,A9:=x0.A9,B1:=x0.B1,C2:=x0.C2,A1:=x0.A1,A6:=x0.A6,A4:=x0.A4,A7:=x0.A7}:=λl a b=>⟨h1,a,b,h3,h4,h5,hc⟩
 have D: ∀d,Q9j d→okW {B2:=x0.B2,Mem:=x0.Mem,A3:=x0.A3,A9:=x0.A9,B1:=d,C2:=x0.C2,A1:=x0.A1,A6:=x0.A6,A4:=x0.A4,A7:=x0.A7}:=λd a=>⟨h1,h2.u,hlen,a,h4,h5,hc⟩
 have N: ∀n,Qj n→okW {B2:=x0.B2,Mem:=x0.Mem,A3:=x0.A3,A9:=x0.A9,B1:=x0.B1,C2:=n,A1:=x0.A1,A6:=x0.A6,A4:=x0.A4,A7:=x0.A7}:=λn a=>⟨h1,h2.u,hlen,h3,a,h5,hc⟩
 refine w_br (λ_=>C _ (h1.pcs (Q0s _))) λ_=> ?_
 refine w_br (λ_=>w_an (Q7c (by decide)) (w_lv λx2 e2=>w_cn (by rw[e2];exact rc (rr 16 (by decide) (by decide))) (C _ ⟨Z91 h1.x (Q0s _) _,h1.pc,h1.csr⟩))) λ_=> ?_
 refine w_br (λ_=>w_an (Q7c (by decide)) (w_lv λx3 e3=>w_cn (by rw[e3];have:=rr 8 (by decide) (by decide);simp [Nat.blt];omega) (C _ ⟨h1.x,h1.pc,Qtl h1.csr (Qso (Q0s _) _) _⟩))) λ_=> ?_
 refine w_br (λ_=>C _ (Zg3 h1 (i:=0) (Qjr _ _) rfl _ h1.pc)) λ_=> ?_
 refine w_br (λ_=>C _ (Zg3 h1 (i:=7) (Qjr _ _) rfl _ h1.pc)) λ_=> ?_
 refine w_br (λ_=>w_an (Q7c hne) (w_lv λx4 e4=>w_cn (by rw[e4];simp [Nat.blt];omega) (M _ (Qye h2.u (Q0s _) _) (by rw[List.length_set];exact hlen)))) λ_=> ?_
 refine w_br (λ_=>w_an (Q7c hne) (w_lv λx5 e5=>w_an (Zix _) (w_lv λx6 _=>w_lv λx7 e7=>w_cn (by rw[e5];simp [Nat.blt];omega) (M _ (Qye h2.u (by rw[e7];exact Zig _) _) (by rw[List.length_set];exact hlen))))) λ_=> ?_
 refine w_br (λ_=>w_an (Q7c (by decide)) (w_lv λx8 e8=>w_an (hd _ (by rw[e8];exact(rr 18 (by decide) (by decide)).1) (by rw[e8];have:=(rr 18 (by decide) (by decide)).2;omega)) (w_lv λx9 _=>⟨h1,h2.u,hlen,h3,h4,h5,hc⟩))) λ_=> ?_
 refine w_br (λ_=>⟨h1,h2.u,hlen,h3,h4,h5,hc⟩) λ_=> ?_
 refine w_br (λ_=>D _ ⟨h3.block,h3.frame,h3.opBlock,h3.opFrame⟩) λ_=> ?_
 refine w_br (λ_=>w_br (λ_=>w_an (hd _ (by decide) (by decide)) (w_lv λx10 _=>D _ ⟨U_0,U_0,Qjr _ _,Qjr _ _⟩)) (λ_=>D _ ⟨U_0,U_0,Qjr _ _,Qjr _ _⟩)) λ_=> ?_
 refine w_br (λ_=>D _ ⟨Qjr _ _,Qjr _ _,h3.opBlock,h3.opFrame⟩) λ_=> ?_
 refine w_br (λ_=>N _ ⟨Qjr _ _,Qjr _ _,Qjr _ _,U_0⟩) λ_=> ?_
 refine w_br (λ_=>N _ ⟨U_0,U_0,U_0,Qjr _ _⟩) λ_=> ?_
 refine w_br (λ_=>⟨h1,h2.u,hlen,h3,h4,⟨Qjr _ _,Qjr _ _⟩,hc⟩) λ_=> ?_
 refine w_br (λ_=>⟨h1,h2.u,hlen,h3,h4,h5,hc⟩) λ_=> ?_
 refine w_br (λ_=>⟨h1,h2.u,hlen,h3,h4,h5,hc⟩) λ_=> ?_
 refine w_br (λ_=>⟨h1,h2.u,hlen,h3,h4,h5,by show 0≤IntKind.u64.wrap what;rw[IntKind.wrap_u64];omega⟩) λ_=> ?_
 refine w_br (λ_=>w_an (Q7c hne) (w_lv λx11 e11=>w_cn (by rw[e11];simp [Nat.blt];omega) (M _ (λw hw=>h2.u w (List.mem_of_mem_drop (List.mem_of_mem_take hw))) (by rw[List.length_take,List.length_drop];omega)))) λ_=> ?_
 refine w_br (λ_=>⟨h1,h2.u,hlen,h3,h4,h5,by show 0≤IntKind.u64.wrap _;rw[IntKind.wrap_u64];omega⟩) λ_=> ?_
 refine w_br (λ_=>C _ (Zg3 h1 (i:=6) (Qjr _ _) rfl _ h1.pc)) λ_=> ?_
 exact w_br (λ_=>C _ (h1.pcs (Q0s _))) (λ_=>⟨h1,h2.u,hlen,h3,h4,h5,hc⟩)
theorem Qvg{a:Int}(h:U a):(BitVec.ofInt 32 a).toNat=a.toNat:=by
 obtain⟨h1,h2⟩:=h
 rw[BitVec.toNat_ofInt];omega
theorem Zgh{a b:Int}(ha:U a)(hb:U b):iand .u32 a b=((a.toNat&&&b.toNat:Nat):Int):=by
 have l:=(BitVec.ofInt 32 a&&&BitVec.ofInt 32 b).isLt
 have e:(BitVec.ofInt 32 a&&&BitVec.ofInt 32 b).toNat=a.toNat&&&b.toNat:=by rw[BitVec.toNat_and,Qvg ha,Qvg hb]
 show IntKind.wrap .u32 ((BitVec.ofInt 32 a&&&BitVec.ofInt 32 b).toNat:Int)=_
 rw[IntKind.wrap_u32,←e];omega
theorem or_nat{a b:Int}(ha:U a)(hb:U b):ior .u32 a b=((a.toNat|||b.toNat:Nat):Int):=by
 have l:=(BitVec.ofInt 32 a|||BitVec.ofInt 32 b).isLt
 have e:(BitVec.ofInt 32 a|||BitVec.ofInt 32 b).toNat=a.toNat|||b.toNat:=by rw[BitVec.toNat_or,Qvg ha,Qvg hb]
 show IntKind.wrap .u32 ((BitVec.ofInt 32 a|||BitVec.ofInt 32 b).toNat:Int)=_
 rw[IntKind.wrap_u32,←e];omega
theorem Z8h{a:Int}(ha:U a)(k:Nat)(hk:k≤32){q:Int}(hq:q=((2^k-1:Nat):Int)):iand .u32 a q=a%2^k:=by
 have hp:2^k≤2^32:=Nat.pow_le_pow_right (by decide) hk
 have h1:(2:Nat)^32=4294967296:=by decide
 have hpos:=Nat.two_pow_pos k
 subst hq
 rw[Zgh ha ⟨by omega,by omega⟩,Int.toNat_natCast,Nat.and_two_pow_sub_one_eq_mod]
 have:=ha.1
 rw[Int.natCast_emod,Int.toNat_of_nonneg this]
 simp
theorem m15{a:Int}(ha:U a):iand .u32 a 15=a%16:=Z8h ha 4 (by decide) rfl
theorem m255{a:Int}(ha:U a):iand .u32 a 255=a%256:=Z8h ha 8 (by decide) rfl
theorem m65535{a:Int}(ha:U a):iand .u32 a 65535=a%65536:=Z8h ha 16 (by decide) rfl
theorem Qt0(p:Int→Bool)(N:Nat)(h:(List.range N).all (λn=>p n)=true){s:Int}(h0:0≤s)(h1:s<N):p s=true:=by
 have:=List.all_eq_true.1 h s.toNat (List.mem_range.2 (by omega))
 rwa [Int.toNat_of_nonneg h0]at this
theorem w64{x:Int}(h0: -9223372036854775808≤x)(h1:x<9223372036854775808):IntKind.wrap .i64 x=x:=by rw[IntKind.wrap_i64];omega
theorem shr0(a:Int):ishr .u32 a 0=a:=by have:=Qq5 (a:=a) 0 (by decide);simpa using this
theorem fld(w:Int):Q3q w 24 8=iand .u32 (ishr .u32 w 24) 255∧Q3q w 20 4=iand .u32 (ishr .u32 w 20) 15∧Q3q w 16 4=iand .u32 (ishr .u32 w 16) 15∧Q3q w 0 16=iand .u32 (ishr .u32 w 0) 65535∧Q3q w 8 8=iand .u32 (ishr .u32 w 8) 255:=
 ⟨by kernel_rfl,by kernel_rfl,by kernel_rfl,by kernel_rfl,by kernel_rfl⟩
def useOf(f:Int):Qa0×Bool:=
 bif f==1 then(⟨false,false,false,0,0⟩,true) else bif f==2 then(⟨true,true,true,0,0⟩,true) else bif f==3 then(⟨true,true,false,-32768,32767⟩,true)
 else bif f==4 then(⟨true,true,false,0,65535⟩,true) else bif f==5 then(⟨true,true,false,0,31⟩,true) else bif f==6 then(⟨true,false,false,0,65535⟩,true)
 else bif f==7 then(⟨true,false,false,-32768,32767⟩,true) else bif f==8 then(⟨true,false,false,0,7⟩,true) else bif f==9 then(⟨true,false,false,0,11⟩,true) else(⟨false,false,false,0,0⟩,false)
def sameU(x y:Qa0×Bool):Bool:=x.1.a==y.1.a&&x.1.b==y.1.b&&x.1.c==y.1.c&&x.1.low==y.1.low&&x.1.D5==y.1.D5&&x.2==y.2
theorem sameU_eq{x y:Qa0×Bool}(h:sameU x y=true):x=y:=by
 obtain⟨⟨a,b,c,d,e⟩,f⟩:=x
 obtain⟨⟨a',b',c',d',e'⟩,f'⟩:=y
 simp only[sameU,Bool.and_eq_true,beq_iff_eq]at h
 obtain⟨⟨⟨⟨⟨rfl,rfl⟩,rfl⟩,rfl⟩,rfl⟩,rfl⟩:=h
 rfl
theorem use_eq{op:Int}(h0:0≤op)(h1:op<256):Z2t op=useOf (Q2u op):=by
 exact sameU_eq (Qt0 (λop=>sameU (Z2t op) (useOf (Q2u op))) 256 (by kernel_rfl) h0 h1)
theorem form_le{op:Int}(h0:0≤op)(h1:op<256):Q2u op=0∨Q2u op=1∨Q2u op=2∨Q2u op=3∨Q2u op=4∨Q2u op=5∨Q2u op=6∨Q2u op=7∨Q2u op=8∨Q2u op=9:=by
 have:=of_decide_eq_true (Qt0 (λop=>decide (0≤Q2u op∧Q2u op≤9)) 256 (by kernel_rfl) h0 h1)
 omega
theorem priv_eq{op:Int}(h0:0≤op)(h1:op<256):Q9v op=Q46 op:=by
 exact eq_of_beq (Qt0 (λop=>Q9v op==Q46 op) 256 (by kernel_rfl) h0 h1)
theorem cond_iff{a x y:Bool}:(cond a x y=true)↔((a=true∧x=true)∨(a=false∧y=true)):=by cases a<;>simp
theorem Z9o{i:Q0h}(h0:0≤i.Op)(h1:i.Op<256)(hi:IntKind.wrap .i64 i.Imm=i.Imm):Qft i=Q8j i:=by
 rw[Bool.eq_iff_iff]
 simp only[Qft,Qil,Tree.m,letv,Q8j,Qfy,use_eq h0 h1,hi]
 rcases form_le h0 h1 with h|h|h|h|h|h|h|h|h|h<;>rw[h]<;>
 simp [useOf,Qak,Qfm,Q96,Qe4,Qmh,Qls,Tree.m,letv,cond_iff]<;>omega
theorem sx16{x:Int}(h0:0≤x)(h1:x<65536):IntKind.wrap .i32 (Q2r x 16)=IntKind.wrap .i32 (IntKind.wrap .i16 x):=by
 have e:Q2r x 16=IntKind.wrap .u32 (ishr .i32 (IntKind.wrap .i32 (ishl .u32 x 16)) 16):=by kernel_rfl
 have e2: ∀y,ishr .i32 y 16=y/65536:=λy=>by
   show Int.fdiv y 65536=_
   rw[Int.fdiv_eq_ediv_of_nonneg _ (by decide)]
 have e3:ishl .u32 x 16=IntKind.wrap .u32 (x*65536):=rfl
 have e4:IntKind.wrap .i16 x=(x+32768)%65536-32768:=by
   simp [IntKind.wrap,IntKind.bits,IntKind.signed]
   split<;>omega
 rw[e,e2,e3,e4]
 simp only[IntKind.wrap_i32,IntKind.wrap_u32]
 omega
theorem sx8{x:Int}(h0:0≤x)(h1:x<256):Q2r x 8=Q43 x 8:=by
 exact eq_of_beq (Qt0 (λx=>Q2r x 8==Q43 x 8) 256 (by kernel_rfl) h0 h1)
theorem decode_eq{w:Int}(hw:U w):Qhu w=Q2 w:=by
 obtain⟨f1,f2,f3,f4,_⟩:=fld w
 obtain⟨w0,w1⟩:=hw
 have s24:ishr .u32 w 24=w/16777216:=by have:=Qq5 (a:=w) 24 (by decide);simpa using this
 have s20:U (ishr .u32 w 20):=Qso ⟨w0,w1⟩ _
 have s16:U (ishr .u32 w 16):=Qso ⟨w0,w1⟩ _
 rw[m255 (Qso ⟨w0,w1⟩ _),s24]at f1
 rw[m15 s20]at f2
 rw[m15 s16]at f3
 rw[shr0]at f4
 have g1:w/16777216%256=w/16777216:=by omega
 rw[g1]at f1
 have o0:0≤w/16777216:=by omega
 have o1:w/16777216<256:=by omega
 have eo:IntKind.wrap .i64 (w/16777216)=w/16777216:=w64 (by omega) (by omega)
 have i32: ∀x,IntKind.wrap .i64 (IntKind.wrap .i32 x)=IntKind.wrap .i32 x:=λx=>by rw[IntKind.wrap_i64,IntKind.wrap_i32];omega
 have l0:=m65535 ⟨w0,w1⟩
 have lx:=sx16 (x:=iand .u32 w 65535) (by omega) (by omega)
 simp only[Qhu,Q7p,Q2,Q7k,Tree.m,letv,f1,f2,f3,f4,s24,eo,use_eq o0 o1,m15 s20,m15 s16,lx]
 generalize w/16777216=op at*
 generalize IntKind.wrap .i64 (ishr .u32 w 20%16)=a
 generalize IntKind.wrap .i64 (ishr .u32 w 16%16)=b
 generalize iand .u32 w 65535=l
 rw[Z9o (i:=⟨op,a,b,IntKind.wrap .i64 l,0⟩) o0 o1 rfl,Z9o (i:=⟨op,a,b,0,IntKind.wrap .i32 (IntKind.wrap .i16 l)⟩) o0 o1 (i32 _),Z9o (i:=⟨op,a,b,0,IntKind.wrap .i32 l⟩) o0 o1 (i32 _)]
 rcases form_le o0 o1 with h|h|h|h|h|h|h|h|h|h<;>rw[h]<;>rfl
theorem put_nat(x v:BitVec 32)(s:Nat)(hs:s≤24):((x&&&~~~(255#32<<<s))|||((v&&&255#32)<<<s)).toNat=2^(s+8)*(x.toNat/2^(s+8))+(2^s*(v.toNat%256)+x.toNat%2^s):=by
  have hx:=x.isLt
  have h1:x.toNat%2^s<2^s:=Nat.mod_lt _ (Nat.two_pow_pos s)
  have h2:2^s*(v.toNat%256)+x.toNat%2^s<2^(s+8):=by
    have:v.toNat%256<256:=Nat.mod_lt _ (by decide)
    have h3:2^s*(v.toNat%256)≤2^s*255:=Nat.mul_le_mul_left _ (by omega)
    have:2^(s+8)=2^s*256:=by rw[Nat.pow_add]
    omega
  rw[Nat.two_pow_add_eq_or_of_lt h2,Nat.two_pow_add_eq_or_of_lt h1]
  apply Nat.eq_of_testBit_eq
  intro i
  rw[BitVec.testBit_toNat]
  simp only[BitVec.getLsbD_or,BitVec.getLsbD_and,BitVec.getLsbD_not,BitVec.getLsbD_shiftLeft,Nat.testBit_or,Nat.testBit_two_pow_mul,Nat.testBit_mod_two_pow,Nat.testBit_div_two_pow,BitVec.getLsbD_ofNat]
  have e255: ∀j,Nat.testBit 255 j=decide (j<8):=λj=>by
    rw[show 255=2^8-1 from rfl,Nat.testBit_two_pow_sub_one]
  have e256: ∀n j,Nat.testBit (n%256) j=(decide (j<8)&&Nat.testBit n j):=λn j=>by
    rw[show 256=2^8 from rfl,Nat.testBit_mod_two_pow]
  rw[e255,e256]
  by_cases hi:i<32
  · by_cases a1:i<s
    · have a2: ¬(s≤i):=by omega
      have a3: ¬(s+8≤i):=by omega
      simp [hi,a1,a2,a3,BitVec.getLsbD]
    · by_cases a4:s+8≤i
      · have a2: ¬(i-s<8):=by omega
        have a5:i-(s+8)+(s+8)=i:=by omega
        have a6:s≤i:=by omega
        simp [hi,a1,a2,a4,a5,a6,BitVec.getLsbD]
      · have a2:(i-s<8):=by omega
        have a6:s≤i:=by omega
        have a7:i-s<32:=by omega
        simp [hi,a1,a2,a4,a6,a7,BitVec.getLsbD]
  · have a0:x.toNat.testBit i=false:=Nat.testBit_lt_two_pow (Nat.lt_of_lt_of_le hx (Nat.pow_le_pow_right (by decide) (by omega)))
    have a1: ¬(i<s):=by omega
    have a2: ¬(i-s<8):=by omega
    have a4:s+8≤i:=by omega
    have a5:i-(s+8)+(s+8)=i:=by omega
    simp [hi,a0,a1,a2,a4,a5]
theorem Z5d(b:BitVec 32):BitVec.ofInt 32 (IntKind.wrap .u32 (b.toNat:Int))=b:=by
 have:=b.isLt
 rw[IntKind.wrap_u32]
 apply BitVec.eq_of_toNat_eq
 rw[BitVec.toNat_ofInt];omega
theorem Zkj(x:Int):BitVec.ofInt 32 (IntKind.wrap .u32 x)=BitVec.ofInt 32 x:=by
 apply BitVec.eq_of_toNat_eq
 rw[BitVec.toNat_ofInt,BitVec.toNat_ofInt,IntKind.wrap_u32]
 have:((2^32:Nat):Int)=4294967296:=by decide
 rw[this,Int.emod_emod_of_dvd _ (Int.dvd_refl _)]
theorem Zbt{x:Int}(hx:U x)(s:Nat)(hs:s≤32):BitVec.ofInt 32 (ishl .u32 x s)=BitVec.ofInt 32 x<<<s:=by
 obtain⟨n,rfl⟩: ∃n:Nat,x=n:=⟨x.toNat,by have:=hx.1;omega⟩
 have e:min (Int.toNat (s:Int)) IntKind.u32.bits=s:=by show min (Int.toNat (s:Int)) 32=s;omega
 unfold ishl
 rw[e,Zkj]
 have e2:((n:Int)*2^s)=((n*2^s:Nat):Int):=by simp
 have:=hx.2
 rw[e2,BitVec.ofInt_natCast,BitVec.ofInt_natCast]
 apply BitVec.eq_of_toNat_eq
 rw[BitVec.toNat_shiftLeft,BitVec.toNat_ofNat,BitVec.toNat_ofNat,Nat.shiftLeft_eq,Nat.mod_mul_mod]
def putW(W v:Int)(s:Nat):Int:=ior .u32 (Qhf .u32 W (ishl .u32 255 s)) (ishl .u32 (iand .u32 v 255) s)
theorem put_num{W v:Int}(hW:U W)(hv:U v)(s:Nat)(hs:s≤24):putW W v s=2^(s+8)*(W/2^(s+8))+(2^s*(v%256)+W%2^s):=by
 have e:=put_nat (BitVec.ofInt 32 W) (BitVec.ofInt 32 v) s hs
 have l:=((BitVec.ofInt 32 W&&&~~~(255#32<<<s))|||((BitVec.ofInt 32 v&&&255#32)<<<s)).isLt
 have h1:BitVec.ofInt 32 (Qhf .u32 W (ishl .u32 255 s))=BitVec.ofInt 32 W&&&~~~(255#32<<<s):=by
   show BitVec.ofInt 32 (IntKind.wrap .u32 (BitVec.ofInt 32 W&&&~~~BitVec.ofInt 32 (ishl .u32 255 s)).toNat)=_
   rw[Z5d,Zbt ⟨by decide,by decide⟩ s (by omega)]
   rfl
 have h2:BitVec.ofInt 32 (ishl .u32 (iand .u32 v 255) s)=(BitVec.ofInt 32 v&&&255#32)<<<s:=by
   rw[Zbt (Qjr _ _) s (by omega)]
   congr 1
   show BitVec.ofInt 32 (IntKind.wrap .u32 (BitVec.ofInt 32 v&&&BitVec.ofInt 32 255).toNat)=_
   rw[Z5d];rfl
 show IntKind.wrap .u32 ((BitVec.ofInt 32 (Qhf .u32 W (ishl .u32 255 s))|||BitVec.ofInt 32 (ishl .u32 (iand .u32 v 255) s)).toNat:Int)=_
 rw[h1,h2]
 have lw:IntKind.wrap .u32 ((((BitVec.ofInt 32 W&&&~~~(255#32<<<s))|||((BitVec.ofInt 32 v&&&255#32)<<<s)).toNat:Nat):Int)=(((BitVec.ofInt 32 W&&&~~~(255#32<<<s))|||((BitVec.ofInt 32 v&&&255#32)<<<s)).toNat:Nat):=by rw[IntKind.wrap_u32];omega
 rw[lw,e,Qvg hW,Qvg hv]
 obtain⟨n,rfl⟩: ∃n:Nat,W=n:=⟨W.toNat,by have:=hW.1;omega⟩
 obtain⟨k,rfl⟩: ∃n:Nat,v=n:=⟨v.toNat,by have:=hv.1;omega⟩
 simp
def dig(w:Int)(k:Nat):Int:=if k=0 then w%256 else if k=1 then w/256%256 else if k=2 then w/65536%256 else w/16777216%256
def byt(m:List Int)(a:Nat):Int:=dig (m.getD (a/4) 0) (a%4)
theorem dig_lt(w:Int)(k:Nat):0≤dig w k∧dig w k<256:=by
 unfold dig
 split
 · omega
 · split
   · omega
   · split<;>omega
theorem dig_ext{w v:Int}(hw:U w)(hv:U v)(h: ∀k,k<4→dig w k=dig v k):w=v:=by
 have h0:=h 0 (by omega)
 have h1:=h 1 (by omega)
 have h2:=h 2 (by omega)
 have h3:=h 3 (by omega)
 simp [dig]at h0 h1 h2 h3
 obtain⟨a,b⟩:=hw
 obtain⟨c,d⟩:=hv
 omega
theorem Zgl{m n:List Int}(hl:m.length=n.length)(hm: ∀w∈m,U w)(hn: ∀w∈n,U w)(h: ∀a,byt m a=byt n a):m=n:=by
 refine List.ext_getElem hl λi h1 h2=> ?_
 have e1:m[i]=m.getD i 0:=by simp [List.getD,h1]
 have e2:n[i]=n.getD i 0:=by simp [List.getD,h2]
 rw[e1,e2]
 refine dig_ext (Qky hm i) (Qky hn i) λk hk=> ?_
 have:=h (4*i+k)
 simp only[byt]at this
 rwa [show(4*i+k)/4=i by omega,show(4*i+k)%4=k by omega]at this
theorem Qsq{l:List Int}{i:Nat}(h:i<l.length)(v:Int):(l.set i v).getD i 0=v:=by
 simp [List.getD,h]
theorem Zgq{m:List Int}{i:Nat}(hi:i<m.length)(v:Int)(a:Nat):byt (m.set i v) a=if a/4=i then dig v (a%4) else byt m a:=by
 unfold byt
 split
 · rename_i h;rw[h,Qsq hi]
 · rename_i h;rw[getDset _ _ _ _ (λe=>h e.symm)]
theorem put_dig{W v:Int}(hW:U W)(hv:U v){j:Nat}(hj:j<4){k:Nat}(hk:k<4):dig (putW W v (8*j)) k=if k=j then v%256 else dig W k:=by
 have h:=put_num hW hv (8*j) (by omega)
 rw[h]
 obtain⟨w0,w1⟩:=hW
 have h0:0≤v%256:=by omega
 have h1:v%256<256:=by omega
 generalize v%256=b at*
 clear h
 have hj:j=0∨j=1∨j=2∨j=3:=by omega
 have hk:k=0∨k=1∨k=2∨k=3:=by omega
 rcases hj with rfl|rfl|rfl|rfl<;>rcases hk with rfl|rfl|rfl|rfl<;>simp [dig]<;>omega
theorem puts_eq{m:List Int}{a v:Int}(ha:U a):Qbl m a 1 v=m.set (a/4).toNat (putW (m.getD (a/4).toNat 0) v (8*(a%4).toNat)):=by
 obtain⟨a0,a1⟩:=ha
 have e1:IntKind.wrap .u32 (Int.tdiv a 4)=a/4:=by rw[IntKind.wrap_u32,Int.tdiv_eq_ediv_of_nonneg a0];omega
 have e2:IntKind.wrap .u32 (8*Int.tmod a 4)=((8*(a%4).toNat:Nat):Int):=by rw[IntKind.wrap_u32,Int.tmod_eq_emod_of_nonneg a0];omega
 have e3:((1:Int)==4)=false:=rfl
 simp only[Qbl,Qf8,Tree.m,e1,e2,e3,cond_false]
 rfl
theorem puts_byte{P:Nat}{m:List Int}(h:Q12 P m){a v:Int}(ha:U a)(hl:a<128*P)(hv:U v):Q12 P (Qbl m a 1 v)∧ ∀b:Nat,byt (Qbl m a 1 v) b=if(b:Int)=a then v%256 else byt m b:=by
 have hlen:=h.len
 have a0:=ha.1
 rw[puts_eq ha]
 have hi:(a/4).toNat<m.length:=by omega
 refine⟨⟨by rw[List.length_set];exact hlen,h.p1,h.p2,Qye h.u (U_or _ _) _⟩,λb=> ?_⟩
 rw[Zgq hi]
 by_cases hb:b/4=(a/4).toNat
 · rw[if_pos hb,put_dig (Qky h.u _) hv (by omega) (by omega)]
   by_cases hc:b%4=(a%4).toNat
   · rw[if_pos hc,if_pos (by omega)]
   · rw[if_neg hc,if_neg (by omega),byt,hb]
 · rw[if_neg hb,if_neg (by omega)]
theorem fill_b{P:Nat}{m:List Int}(h:Q12 P m){frame:Int}(f0:0≤frame)(f1:frame<P)(s:List UInt8):(Qb m frame s).w (λr=>Q12 P r∧ ∀b:Nat,byt r b=if frame*128≤b∧(b:Int)<frame*128+min s.length 128 then((s.getD (b-frame*128).toNat 0).toNat:Int) else byt m b):=by
 unfold Qb
 have h3:=h.p2
 refine w_lp (inv:=λz=>0≤z.1∧z.1≤min s.length 128∧Q12 P z.2∧ ∀b:Nat,byt z.2 b=if frame*128≤b∧(b:Int)<frame*128+z.1 then((s.getD (b-frame*128).toNat 0).toNat:Int) else byt m b) (μ:=Qj2 m frame s) ⟨show(0:Int)≤0 by decide,by show(0:Int)≤_;omega,h,λb=>by rw[if_neg];show¬(_∧_<_+(0:Int));omega⟩ (Nat.lt_succ_self _) (λv0 hv0=> ?_)
 obtain⟨i,mm⟩:=v0
 obtain⟨i0,i1,hm,hy⟩:=hv0
 have i0:0≤i:=i0
 have i1:i≤min s.length 128:=i1
 have hm:Q12 P mm:=hm
 have fin: ∀r:List Int,r=mm→i=min s.length 128→Q12 P r∧ ∀b:Nat,byt r b=if frame*128≤b∧(b:Int)<frame*128+min s.length 128 then((s.getD (b-frame*128).toNat 0).toNat:Int) else byt m b:=λr hr hi=>by
   subst hr;refine⟨hm,λb=> ?_⟩
   rw[hy b];simp only[hi]
 refine w_br (λh1=>w_br (λh2=>w_cn ?_ ?_) (λh2=>fin mm rfl ?_)) (λh1=>fin mm rfl ?_)
 · have:=of_decide_eq_true h1
   simp [Nat.blt];omega
 · have h1:i<s.length:=of_decide_eq_true h1
   have h2:i<128:=of_decide_eq_true h2
   have e:IntKind.wrap IntKind.u32 (IntKind.wrap IntKind.i64 (IntKind.wrap IntKind.i64 (frame*128)+i))=frame*128+i:=by
     rw[IntKind.wrap_u32,IntKind.wrap_i64,IntKind.wrap_i64];omega
   show(Tree.an (Qfv mm (IntKind.wrap IntKind.u32 (IntKind.wrap IntKind.i64 (IntKind.wrap IntKind.i64 (frame*128)+i))) 1 _) (Tree.lv _ _)).w _
   rw[e]
   have hu:U (frame*128+i):=⟨by omega,by omega⟩
   have hvU: ∀n:Nat,U (IntKind.wrap .u32 (n:Int)):=λn=>Q0s _
   obtain⟨g1,_⟩:=Tree.pp (put_w hm (size:=1) (addr:=frame*128+i) hu (by rw[hm.len];omega) (hvU (UInt8.toNat (s.getD i.toNat 0))))
   obtain⟨g2,g3⟩:=puts_byte hm hu (by omega) (hvU (UInt8.toNat (s.getD i.toNat 0)))
   refine w_an g1 (w_lv λx0 hx0=> ?_)
   rw[hx0]
   have ew:IntKind.i64.wrap (i+1)=i+1:=by rw[IntKind.wrap_i64];omega
   refine w_nx ?_
   show(0≤IntKind.i64.wrap (i+1)∧IntKind.i64.wrap (i+1)≤min s.length 128∧Q12 P _∧ ∀b:Nat,byt _ b=if frame*128≤b∧(b:Int)<frame*128+IntKind.i64.wrap (i+1) then _ else _)∧(128-IntKind.i64.wrap (i+1)).toNat<(128-i).toNat
   rw[ew]
   refine⟨⟨by omega,by omega,g2,λb=> ?_⟩,by omega⟩
   rw[show Qbl mm (frame*128+i) 1 _=_ from rfl,g3 b]
   by_cases hb:(b:Int)=frame*128+i
   · rw[if_pos hb,if_pos (by omega),IntKind.wrap_u32]
     have:=(s.getD i.toNat 0).toNat_lt
     rw[show(b-frame*128).toNat=i.toNat by omega];omega
   · rw[if_neg hb,hy b]
     show(if frame*128≤(b:Int)∧(b:Int)<frame*128+i then _ else _)=_
     by_cases hc:frame*128≤(b:Int)∧(b:Int)<frame*128+i
     · rw[if_pos hc,if_pos (by omega)]
     · rw[if_neg hc,if_neg (by omega)]
 · have h1:i<s.length:=of_decide_eq_true h1
   have h2: ¬i<128:=of_decide_eq_false h2
   omega
 · have h1: ¬i<s.length:=of_decide_eq_false h1
   omega
theorem or_add{x y:Int}(hx:U x)(hy:U y)(k:Nat)(hk:x<2^k)(h:x+y*2^k<4294967296):ior .u32 x (y*2^k)=x+y*2^k:=by
 obtain⟨n,rfl⟩: ∃n:Nat,x=n:=⟨x.toNat,by have:=hx.1;omega⟩
 obtain⟨z,rfl⟩: ∃n:Nat,y=n:=⟨y.toNat,by have:=hy.1;omega⟩
 have e:((z:Int)*2^k)=((z*2^k:Nat):Int):=by simp
 rw[e]at h⊢
 have hn:n<2^k:=by exact_mod_cast hk
 rw[or_nat hx ⟨by omega,by omega⟩,Int.toNat_natCast,Int.toNat_natCast,Nat.or_comm,Nat.mul_comm,←Nat.two_pow_add_eq_or_of_lt hn]
 omega
theorem four{a b c d:Int}(ha:0≤a∧a<256)(hb:0≤b∧b<256)(hc:0≤c∧c<256)(hd:0≤d∧d<256):ior .u32 (ior .u32 (ior .u32 (IntKind.wrap .u32 a) (ishl .u32 (IntKind.wrap .u32 b) 8)) (ishl .u32 (IntKind.wrap .u32 c) 16)) (ishl .u32 (IntKind.wrap .u32 d) 24)=a+b*2^8+c*2^16+d*2^24:=by
 have w: ∀{x:Int},0≤x∧x<256→IntKind.wrap .u32 x=x:=λhx=>by rw[IntKind.wrap_u32];omega
 have s8: ∀{x:Int},0≤x∧x<256→ishl .u32 x 8=x*2^8:=fun{x} hx=>by show IntKind.wrap .u32 (x*2^8)=_;rw[IntKind.wrap_u32];omega
 have s16: ∀{x:Int},0≤x∧x<256→ishl .u32 x 16=x*2^16:=fun{x} hx=>by show IntKind.wrap .u32 (x*2^16)=_;rw[IntKind.wrap_u32];omega
 have s24: ∀{x:Int},0≤x∧x<256→ishl .u32 x 24=x*2^24:=fun{x} hx=>by show IntKind.wrap .u32 (x*2^24)=_;rw[IntKind.wrap_u32];omega
 rw[w ha,w hb,w hc,w hd,s8 hb,s16 hc,s24 hd]
 rw[or_add ⟨by omega,by omega⟩ ⟨by omega,by omega⟩ 8 (by omega) (by omega),or_add ⟨by omega,by omega⟩ ⟨by omega,by omega⟩ 16 (by omega) (by omega),or_add ⟨by omega,by omega⟩ ⟨by omega,by omega⟩ 24 (by omega) (by omega)]
theorem four_dig{a b c d:Int}(ha:0≤a∧a<256)(hb:0≤b∧b<256)(hc:0≤c∧c<256)(hd:0≤d∧d<256)(k:Nat)(hk:k<4):dig (a+b*2^8+c*2^16+d*2^24) k=if k=0 then a else if k=1 then b else if k=2 then c else d:=by
 have hk:k=0∨k=1∨k=2∨k=3:=by omega
 rcases hk with rfl|rfl|rfl|rfl<;>simp [dig]<;>omega
theorem Z7x{P:Nat}{m:List Int}(h:Q12 P m)(f:Int):Q69 m f=decide (0≤f∧f<P):=by
 have hp:=Q4f h
 simp only[Q69,Q9d,Tree.m,letv,hp]
 by_cases h1:0≤f
 · rw[decide_eq_true h1];simp [h1]
 · rw[decide_eq_false h1];simp [h1]
theorem getD_cut(s:List UInt8)(a b k:Nat)(h:k<b):(List.take b (List.drop a s)).getD k 0=s.getD (a+k) 0:=by
 simp [List.getD_eq_getElem?_getD,List.getElem?_take,h]
theorem u8I(x:UInt8):0≤(x.toNat:Int)∧(x.toNat:Int)<256:=by have:=x.toNat_lt;omega
theorem Z2o{P:Nat}{m:List Int}(h:Q12 P m){f:Int}(f0:0≤f)(f1:f<P){s:List UInt8}(hs:s.length=128):(Q2d m f s).w (λr=>r.2=true∧Q12 P r.1∧ ∀b:Nat,byt r.1 b=if f*128≤b∧(b:Int)<f*128+128 then((s.getD (b-f*128).toNat 0).toNat:Int) else byt m b):=by
  have hcl:Q03 m=m:=rfl
  have h2:=h.p2
  unfold Q2d
  refine w_an (Qan h) (w_lv λx0 hx0=>w_lv λx1 hx1=> ?_)
  rw[hcl]at hx0;subst hx0
  rw[Z7x h,decide_eq_true ⟨f0,f1⟩]at hx1
  subst hx1
  refine w_br (λhb=>by cases hb) λ_=>w_br (λhb=>by simp [hs]at hb) λ_=> ?_
  refine w_lp (inv:=λz:Int×List Int=>0≤z.1∧z.1≤32∧Q12 P z.2∧ ∀b:Nat,byt z.2 b=if f*128≤b∧(b:Int)<f*128+4*z.1 then((s.getD (b-f*128).toNat 0).toNat:Int) else byt x0 b) (μ:=Qbu x0 f s) ⟨show(0:Int)≤0 by decide,show(0:Int)≤32 by decide,h,λb=>by rw[if_neg];show¬(_∧_<_+4*(0:Int));omega⟩ (Nat.lt_succ_self _) λz ⟨z1,z2,z3,z4⟩=> ?_
  refine w_br (λhb=> ?_) (λhb=>⟨rfl,z3,λb=> ?_⟩)
  · have hb:=of_decide_eq_true hb
    have e1:IntKind.i64.wrap (4*z.1)=4*z.1:=by rw[IntKind.wrap_i64];omega
    have e2:IntKind.i64.wrap (IntKind.i64.wrap (4*z.1)+4)=4*z.1+4:=by rw[IntKind.wrap_i64,IntKind.wrap_i64];omega
    have e3:IntKind.i64.wrap (IntKind.i64.wrap (f*32)+z.1)=f*32+z.1:=by rw[IntKind.wrap_i64,IntKind.wrap_i64];omega
    have hl:=z3.len
    have cut:Int.toNat (IntKind.i64.wrap (IntKind.i64.wrap (4*z.1)+4))-Int.toNat (IntKind.i64.wrap (4*z.1))=4:=by rw[e2,e1];omega
    have hlen:(List.take (Int.toNat (IntKind.i64.wrap (IntKind.i64.wrap (4*z.1)+4))-Int.toNat (IntKind.i64.wrap (4*z.1))) (List.drop (Int.toNat (IntKind.i64.wrap (4*z.1))) s)).length=4:=by
      rw[cut,e1,List.length_take,List.length_drop];omega
    refine w_cn (decide_eq_true (by rw[e2,e1];omega)) ?_
    refine w_cn (decide_eq_true (by rw[hlen];decide)) (w_cn (decide_eq_true (by rw[hlen];decide)) (w_cn (decide_eq_true (by rw[hlen];decide)) (w_cn (decide_eq_true (by rw[hlen];decide)) (w_cn (by rw[e3];simp [Nat.blt];omega) (w_nx ?_)))))
    have ew:IntKind.i64.wrap (z.1+1)=z.1+1:=by rw[IntKind.wrap_i64];omega
    rw[cut]
    refine⟨⟨by show 0≤IntKind.i64.wrap (z.1+1);rw[ew];omega,by show IntKind.i64.wrap (z.1+1)≤32;rw[ew];omega,?_,?_⟩,by show(32-IntKind.i64.wrap (z.1+1)).toNat<(32-z.1).toNat;rw[ew];omega⟩
    · show Q12 P (List.set _ _ _)
      exact⟨by rw[List.length_set];exact hl,z3.p1,z3.p2,Qye z3.u (U_or _ _) _⟩
    · intro b
      show byt (List.set z.2 (Int.toNat (IntKind.i64.wrap (IntKind.i64.wrap (f*32)+z.1))) _) b=if f*128≤(b:Int)∧(b:Int)<f*128+4*IntKind.i64.wrap (z.1+1) then _ else _
      rw[e3,ew,four (u8I _) (u8I _) (u8I _) (u8I _),Zgq (by omega)]
      have g: ∀k:Nat,k<4→(List.take 4 (List.drop (Int.toNat (IntKind.i64.wrap (4*z.1))) s)).getD k 0=s.getD ((4*z.1).toNat+k) 0:=λk hk=>by rw[e1];exact getD_cut _ _ _ _ hk
      by_cases hc:b/4=(f*32+z.1).toNat
      · have hin:f*128≤(b:Int)∧(b:Int)<f*128+4*(z.1+1):=by omega
        rw[if_pos hc,four_dig (u8I _) (u8I _) (u8I _) (u8I _) _ (by omega),if_pos hin]
        have hb4:b%4=0∨b%4=1∨b%4=2∨b%4=3:=by omega
        have gi:(b-f*128).toNat=(4*z.1).toNat+b%4:=by omega
        rw[gi]
        rcases hb4 with h4|h4|h4|h4<;>rw[h4]
        · rw[if_pos rfl,←g 0 (by omega)];rfl
        · rw[if_neg (by decide),if_pos rfl,←g 1 (by omega)];rfl
        · rw[if_neg (by decide),if_neg (by decide),if_pos rfl,←g 2 (by omega)];rfl
        · rw[if_neg (by decide),if_neg (by decide),if_neg (by decide),←g 3 (by omega)];rfl
      · rw[if_neg hc,z4 b]
        by_cases hd:f*128≤(b:Int)∧(b:Int)<f*128+4*z.1
        · rw[if_pos hd,if_pos (by omega)]
        · rw[if_neg hd,if_neg (by omega)]
  · have hb:=of_decide_eq_false hb
    show byt z.2 b=_
    rw[z4 b,show z.1=32 by omega]
    rfl
theorem Z99{α:Type}(l l2:List α)(k:Nat)(z:α):(l++l2).getD k z=if k<l.length then l.getD k z else l2.getD (k-l.length) z:=by
 simp only[List.getD_eq_getElem?_getD,List.getElem?_append]
 split<;>rfl
theorem u8w{x:Int}:IntKind.wrap .u8 x=x%256:=IntKind.wrap_u8 x
theorem shr_c(W:Int):ishr .u32 W 8=W/256∧ishr .u32 W 16=W/65536∧ishr .u32 W 24=W/16777216:=by
 refine⟨?_,?_,?_⟩
 · show Int.fdiv W 256=_;rw[Int.fdiv_eq_ediv_of_nonneg _ (by decide)]
 · show Int.fdiv W 65536=_;rw[Int.fdiv_eq_ediv_of_nonneg _ (by decide)]
 · show Int.fdiv W 16777216=_;rw[Int.fdiv_eq_ediv_of_nonneg _ (by decide)]
theorem b4d(W:Int){k:Nat}(hk:k<4):[IntKind.wrap .u8 W,IntKind.wrap .u8 (ishr .u32 W 8),IntKind.wrap .u8 (ishr .u32 W 16),IntKind.wrap .u8 (ishr .u32 W 24)].getD k 0=dig W k:=by
 obtain⟨a,b,c⟩:=shr_c W
 have hk:k=0∨k=1∨k=2∨k=3:=by omega
 rcases hk with rfl|rfl|rfl|rfl<;>simp [dig,a,b,c,u8w]
theorem Qnd(l:List Int)(k:Nat)(h:0≤l.getD k 0∧l.getD k 0<256)(hk:k<l.length):(((bytesOf l).getD k 0).toNat:Int)=l.getD k 0:=by
 have e:(bytesOf l).getD k 0=UInt8.ofNat (l.getD k 0).toNat:=by
   simp [bytesOf,List.getD_eq_getElem?_getD,hk]
 rw[e,UInt8.toNat_ofNat']
 omega
theorem Zh1(l:List UInt8)(k:Nat)(hk:k<l.length):(Qc2 l).getD k 0=((l.getD k 0).toNat:Int):=by
 simp [Qc2,List.getD_eq_getElem?_getD,hk]
theorem text_b(w:List Int)(h:w.length≤32):(Q5u w).w (λr=>r.length=4*w.length∧ ∀k:Nat,k<4*w.length→((r.getD k 0).toNat:Int)=dig (w.getD (k/4) 0) (k%4)):=by
 have e0:IntKind.i64.wrap (4*(w.length:Int))=4*w.length:=by rw[IntKind.wrap_i64];omega
 unfold Q5u
 refine w_cn (by rw[e0];simp [Nat.blt,D.plain];omega) ?_
 refine w_lp (inv:=λz:Int×List Int=>0≤z.1∧z.1≤w.length∧(z.2.length:Int)=4*z.1∧ ∀k:Nat,(k:Int)<4*z.1→z.2.getD k 0=dig (w.getD (k/4) 0) (k%4)) (μ:=Q8f w) ⟨by decide,by show(0:Int)≤w.length;omega,rfl,λk hk=>by have hk:(k:Int)<4*0:=hk;omega⟩ (Nat.lt_succ_self _) λz ⟨z1,z2,z3,z4⟩=> ?_
 refine w_br (λhb=> ?_) (λhb=> ?_)
 · have hb:=of_decide_eq_true hb
   have ew:IntKind.i64.wrap (z.1+1)=z.1+1:=by rw[IntKind.wrap_i64];omega
   refine w_cn (by simp [Nat.blt];omega) (w_cn (decide_eq_true (by omega)) (w_nx ?_))
   show(_∧_∧_∧ ∀k:Nat,(k:Int)<4*IntKind.i64.wrap (z.1+1)→(z.2++_).getD k 0=_)∧(_:Nat)<_
   refine⟨⟨by rw[ew];omega,by rw[ew];omega,by rw[ew,List.length_append];simp only[List.length_cons,List.length_nil];omega,λk hk=> ?_⟩,by show(w.length-IntKind.i64.wrap (z.1+1)).toNat<(w.length-z.1).toNat;rw[ew];omega⟩
   rw[ew]at hk
   rw[Z99]
   split
   · exact z4 k (by omega)
   · rename_i hn
     rw[b4d _ (by omega),show z.1.toNat=k/4 by omega,show k-z.2.length=k%4 by omega]
 · have hb:=of_decide_eq_false hb
   show(bytesOf z.2).length=_∧ ∀k:Nat,_→(((bytesOf z.2).getD k 0).toNat:Int)=_
   refine⟨by rw[Qj1];omega,λk hk=> ?_⟩
   have e:=z4 k (by omega)
   have:=dig_lt (w.getD (k/4) 0) (k%4)
   rw[Qnd _ _ (by rw[e];exact this) (by omega),e]
def isPg(m:List Int)(f:Int)(r:List UInt8):Prop:=r.length=128∧ ∀k:Nat,k<128→((r.getD k 0).toNat:Int)=byt m ((f*128).toNat+k)
theorem pg_ext{m:List Int}{f:Int}{r s:List UInt8}(a:isPg m f r)(b:isPg m f s):r=s:=by
 obtain⟨a1,a2⟩:=a
 obtain⟨b1,b2⟩:=b
 refine List.ext_getElem (by omega) λi h1 h2=> ?_
 have e:=(a2 i (by omega)).trans (b2 i (by omega)).symm
 have e1:r[i]=r.getD i 0:=by simp [List.getD,h1]
 have e2:s[i]=s.getD i 0:=by simp [List.getD,h2]
 rw[e1,e2]
 exact UInt8.toNat_inj.1 (by omega)
theorem mpage_b{P:Nat}{m:List Int}(h:Q12 P m){f:Int}(f0:0≤f)(f1:f<P):(Q3y m f).w (λr=>isPg m f r.1∧r.2=true):=by
 have hl:=h.len
 have h2:=h.p2
 unfold Q3y
 refine w_lv λx0 hx0=> ?_
 rw[Z7x h,decide_eq_true ⟨f0,f1⟩]at hx0
 subst hx0
 refine w_br (λhb=>by cases hb) (λhb=> ?_)
 have e1:IntKind.i64.wrap (f*32)=f*32:=by rw[IntKind.wrap_i64];omega
 have e2:IntKind.i64.wrap (IntKind.i64.wrap (f*32)+32)=f*32+32:=by rw[IntKind.wrap_i64,IntKind.wrap_i64];omega
 have cut:Int.toNat (IntKind.i64.wrap (IntKind.i64.wrap (f*32)+32))-Int.toNat (IntKind.i64.wrap (f*32))=32:=by rw[e2,e1];omega
 have hlen:(List.take 32 (List.drop (Int.toNat (IntKind.i64.wrap (f*32))) m)).length=32:=by
   rw[e1,List.length_take,List.length_drop];omega
 refine w_cn (by rw[e2,e1];simp [Nat.blt];omega) ?_
 rw[cut]
 refine w_an (by show List.length _≤1000000000000;rw[hlen];decide) (w_lv λx1 h1=> ?_)
 have t:=(Tree.pp (text_b _ (Nat.le_of_eq hlen))).2
 rw[hlen,show(Q5u (List.take 32 (List.drop (Int.toNat (IntKind.i64.wrap (f*32))) m))).m=x1 from h1.symm]at t
 refine⟨⟨t.1,λk hk=> ?_⟩,rfl⟩
 show((x1.getD k 0).toNat:Int)=_
 rw[t.2 k hk,byt,e1]
 have g:(List.take 32 (List.drop (Int.toNat (f*32)) m)).getD (k/4) 0=m.getD ((f*32).toNat+k/4) 0:=by
   simp [List.getD_eq_getElem?_getD,List.getElem?_take,show k/4<32 by omega]
 rw[g,show((f*128).toNat+k)/4=(f*32).toNat+k/4 by omega,show((f*128).toNat+k)%4=k%4 by omega]
theorem low_eq(x:Int):Z93 x 4=bytesOf [IntKind.wrap .u8 (ishr .u32 x 0),IntKind.wrap .u8 (ishr .u32 x 8),IntKind.wrap .u8 (ishr .u32 x 16),IntKind.wrap .u8 (ishr .u32 x 24)]:=by kernel_rfl
theorem rpage_b{P:Nat}{m:List Int}(hm:Q12 P m){frame:Int}(f0:0≤frame)(f1:frame<P):(Qab m frame).w (λr=>isPg m frame r.1∧r.2=true):=by
 have hp:=Qff hm
 have hl:=hm.len
 have h2:=hm.p2
 unfold Qab
 refine w_br (λh=>by have:=of_decide_eq_true h;omega) (λh=>w_lv λx0 hx=>w_br (λh1=>by have:=of_decide_eq_true h1;rw[hx,hp]at this;omega) (λh1=> ?_))
 refine w_lp (inv:=λz:Int×List Int=>0≤z.1∧z.1≤32∧(z.2.length:Int)=4*z.1∧ ∀k:Nat,(k:Int)<4*z.1→z.2.getD k 0=byt m ((frame*128).toNat+k)) (μ:=Qit m frame) ⟨by decide,by decide,rfl,λk hk=>by have hk:(k:Int)<4*0:=hk;omega⟩ (Nat.lt_succ_self _) (λz hz=> ?_)
 obtain⟨z1,z2,z3,z4⟩:=hz
 refine w_br (λhb=> ?_) (λhb=> ?_)
 · have hb:=of_decide_eq_true hb
   have e:IntKind.wrap IntKind.i64 (IntKind.wrap IntKind.i64 (frame*32)+z.1)=frame*32+z.1:=by rw[IntKind.wrap_i64,IntKind.wrap_i64];omega
   refine w_cn (by rw[e];simp [Nat.blt];omega) (w_an (show(4:Int)≤1000000000000 by decide) (w_lv λx1 h4=> ?_))
   rw[low_eq,shr0,e]at h4
   have l4:x1.length=4:=by rw[h4];rfl
   refine w_cn (decide_eq_true (by rw[Qpj,l4];omega)) (w_nx ?_)
   show(0≤IntKind.i64.wrap (z.1+1)∧IntKind.i64.wrap (z.1+1)≤32∧((z.2++Qc2 x1).length:Int)=4*IntKind.i64.wrap (z.1+1)∧ ∀k:Nat,(k:Int)<4*IntKind.i64.wrap (z.1+1)→(z.2++Qc2 x1).getD k 0=_)∧(32-IntKind.i64.wrap (z.1+1)).toNat<(32-z.1).toNat
   have ew:IntKind.i64.wrap (z.1+1)=z.1+1:=by rw[IntKind.wrap_i64];omega
   rw[ew]
   refine⟨⟨by omega,by omega,by rw[List.length_append,Qpj,l4];omega,λk hk=> ?_⟩,by omega⟩
   rw[Z99]
   split
   · exact z4 k (by omega)
   · rename_i hn
     have hk4:k-z.2.length<4:=by omega
     rw[Zh1 _ _ (by omega),h4]
     have d:=b4d (m.getD (frame*32+z.1).toNat 0) hk4
     rw[Qnd _ _ (by rw[d];exact dig_lt _ _) (by simpa using hk4),d,byt]
     rw[show((frame*128).toNat+k)/4=(frame*32+z.1).toNat by omega,show((frame*128).toNat+k)%4=k-z.2.length by omega]
 · have hb:=of_decide_eq_false hb
   refine⟨⟨?_,λk hk=> ?_⟩,rfl⟩
   · show(bytesOf z.2).length=128
     rw[Qj1];omega
   · show(((bytesOf z.2).getD k 0).toNat:Int)=_
     have e:=z4 k (by omega)
     rw[Qnd _ _ (by rw[e];exact dig_lt _ _) (by omega),e]
theorem Zc8{P:Nat}{m:List Int}(h:Q12 P m)(f:Int):Q6w m f=Qip m f:=by
 by_cases hf:0≤f∧f<P
 · have a:=(Tree.pp (mpage_b h hf.1 hf.2)).2
   have b:=(Tree.pp (rpage_b h hf.1 hf.2)).2
   exact Prod.ext (pg_ext a.1 b.1) (a.2.trans b.2.symm)
 · have hp:=Qff h
   have e1:Q6w m f=([],false):=by
     simp only[Q6w,Q3y,Tree.m,letv,Z7x h,decide_eq_false hf];rfl
   have e2:Qip m f=([],false):=by
     simp only[Qip,Qab,Tree.m,letv,hp]
     by_cases h0:f<0
     · rw[decide_eq_true h0];rfl
     · rw[decide_eq_false h0,decide_eq_true (show f≥P by omega)];rfl
   rw[e1,e2]
section
variable {P:Nat} {m:List Int} (h:Q12 P m)
include h
theorem Zaz{f:Int}(f0:0≤f)(f1:f<P){s:List UInt8}(hs:s.length=128):Q3d m f s=(Qko m f s,true):=by
 have a:=(Tree.pp (Z2o h f0 f1 hs)).2
 have b:=(Tree.pp (fill_b h f0 f1 s)).2
 refine Prod.ext (Zgl (a.2.1.len.trans b.1.len.symm) a.2.1.u b.1.u λk=> ?_) a.1
 have e:((min s.length 128:Nat):Int)=128:=by rw[hs];rfl
 have b2:=b.2 k
 have a2:=a.2.2 k
 rw[e]at b2
 exact a2.trans b2.symm
theorem Zet{f:Int}(f0:0≤f)(f1:f<P){s r:List UInt8}(hs:s.length≤128)(hr:isPg m f r):Q3d m f (s++r.drop s.length)=(Qko m f s,true):=by
  have hl:(s++r.drop s.length).length=128:=by have:=hr.1;simp;omega
  have a:=(Tree.pp (Z2o h f0 f1 hl)).2
  have b:=(Tree.pp (fill_b h f0 f1 s)).2
  refine Prod.ext (Zgl (a.2.1.len.trans b.1.len.symm) a.2.1.u b.1.u λk=> ?_) a.1
  have b2:=b.2 k
  have a2:=a.2.2 k
  refine a2.trans (Eq.trans ?_ b2.symm)
  by_cases hc:f*128≤(k:Int)∧(k:Int)<f*128+128
  · rw [if_pos hc,Z99]
    by_cases hd:(k-f*128).toNat<s.length
    · rw[if_pos hd,if_pos (by omega)]
    · rw[if_neg hd,if_neg (by omega)]
      have e:(r.drop s.length).getD ((k-f*128).toNat-s.length) 0=r.getD (k-f*128).toNat 0:=by
        simp [List.getD_eq_getElem?_getD,show s.length+((k-f*128).toNat-s.length)=(k-f*128).toNat by omega]
      rw[e,hr.2 _ (by omega),show(f*128).toNat+(k-f*128).toNat=k by omega]
  · rw[if_neg hc,if_neg (by omega)]
theorem Qhp{a:Int}(ha:U a){size:Int}(hs:size=1∨size=4):Q27 m a size=decide (a%size=0∧a<128*P):=by
 have hq:=Qff h
 have h2:=h.p2
 have a0:=ha.1
 have e:IntKind.wrap IntKind.u32 size=size:=by rcases hs with rfl|rfl<;>decide
 have e0:decide (IntKind.wrap IntKind.u32 size≠0)=true:=by rcases hs with rfl|rfl<;>decide
 have t:Int.tmod a (IntKind.wrap IntKind.u32 size)=a%size:=by rw[e,Int.tmod_eq_emod_of_nonneg a0]
 have l: ∀x,x=Q4m m→a%size=0→decide (a<IntKind.wrap IntKind.u32 (IntKind.wrap IntKind.i64 (128*x)))=decide (a%size=0∧a<128*P):=λx hx hz=>by
   rw[hx,hq,IntKind.wrap_u32,IntKind.wrap_i64]
   exact decide_eq_decide.2 ⟨λh=>⟨hz,by omega⟩,λh=>by omega⟩
 refine Tree.post (Q8x m a size) (W:=λb=>b=decide (a%size=0∧a<128*P)) ?_
 unfold Q8x
 refine w_br (λh1=>w_br (λh4=> ?_) (λ_=> ?_)) (λ_=> ?_)
 · have h1: ¬size=1:=by simpa using h1
   have h4: ¬size=4:=by simpa using h4
   omega
 all_goals
   refine w_cn e0 (w_br (λhb=>w_lv λx hx=>l x hx ?_) (λhb=> ?_))
   · rw[t]at hb;exact eq_of_beq hb
   · rw[t]at hb
     exact(decide_eq_false (λh=>by rw[h.1]at hb;cases hb)).symm
theorem Z0d{a:Int}(ha:U a){size:Int}(hs:size=1∨size=4):Qhe m a size=Q27 m a size:=by
 rw[Qhp h ha hs]
 have hq:=Z1m h
 have h2:=h.p2
 have a0:=ha.1
 have a1:=ha.2
 have e:IntKind.wrap IntKind.u32 size=size:=by rcases hs with rfl|rfl<;>decide
 have e0:decide (IntKind.wrap IntKind.u32 size≠0)=true:=by rcases hs with rfl|rfl<;>decide
 have t:Int.tmod a (IntKind.wrap IntKind.u32 size)=a%size:=by rw[e,Int.tmod_eq_emod_of_nonneg a0]
 have l: ∀x,x=Q0v m→a%size=0→decide (IntKind.wrap IntKind.u64 (IntKind.wrap IntKind.u64 a+IntKind.wrap IntKind.u64 size)≤IntKind.wrap IntKind.u64 (IntKind.wrap IntKind.u64 x*128))=decide (a%size=0∧a<128*P):=λx hx hz=>by
   rw[hx,hq]
   simp only[IntKind.wrap_u64]
   refine decide_eq_decide.2 ⟨λh=>⟨hz,?_⟩,λh=> ?_⟩<;>rcases hs with rfl|rfl<;>omega
 refine Tree.post (Q3c m a size) (W:=λb=>b=decide (a%size=0∧a<128*P)) ?_
 unfold Q3c
 refine w_br (λh1=>w_br (λh4=> ?_) (λ_=> ?_)) (λ_=> ?_)
 · have h1: ¬size=1:=by simpa using h1
   have h4: ¬size=4:=by simpa using h4
   omega
 all_goals
   refine w_cn e0 (w_br (λhb=> ?_) (λhb=>w_lv λx hx=>l x hx ?_))
   · rw[t]at hb
     exact(decide_eq_false (λh=>by rw[h.1]at hb;cases hb)).symm
   · rw[t]at hb;simpa using hb
end
theorem fldj(w:Int):Q3q w 0 8=iand .u32 (ishr .u32 w 0) 255∧Q3q w 8 8=iand .u32 (ishr .u32 w 8) 255∧Q3q w 16 8=iand .u32 (ishr .u32 w 16) 255∧Q3q w 24 8=iand .u32 (ishr .u32 w 24) 255:=
 ⟨by kernel_rfl,by kernel_rfl,by kernel_rfl,by kernel_rfl⟩
theorem setj(w v:Int):Q8y w 0 8 v=putW w v 0∧Q8y w 8 8 v=putW w v 8∧Q8y w 16 8 v=putW w v 16∧Q8y w 24 8 v=putW w v 24:=
 ⟨by kernel_rfl,by kernel_rfl,by kernel_rfl,by kernel_rfl⟩
theorem sh_same{a:Int}(ha:U a):IntKind.wrap .i64 (IntKind.wrap .i64 (Int.tmod a 4)*8)=8*(a%4)∧IntKind.wrap .u32 (8*Int.tmod a 4)=8*(a%4):=by
 obtain⟨a0,a1⟩:=ha
 rw[Int.tmod_eq_emod_of_nonneg a0]
 exact⟨by rw[IntKind.wrap_i64,IntKind.wrap_i64];omega,by rw[IntKind.wrap_u32];omega⟩
section
variable {P:Nat} {m:List Int} (h:Q12 P m)
include h
theorem Qnt{a:Int}(ha:U a){size:Int}(hs:size=1∨size=4):Q5g m a size=Q1e m a size:=by
 have e:=Z0d h ha hs
 obtain⟨s1,s2⟩:=sh_same ha
 have f:Q3q (m.getD (Int.toNat (IntKind.wrap .u32 (Int.tdiv a 4))) 0) (8*(a%4)) 8=iand .u32 (ishr .u32 (m.getD (Int.toNat (IntKind.wrap .u32 (Int.tdiv a 4))) 0) (8*(a%4))) 255:=by
   obtain⟨f0,f1,f2,f3⟩:=fldj (m.getD (Int.toNat (IntKind.wrap .u32 (Int.tdiv a 4))) 0)
   have:a%4=0∨a%4=1∨a%4=2∨a%4=3:=by omega
   rcases this with h|h|h|h<;>rw[h]
   · exact f0
   · exact f1
   · exact f2
   · exact f3
 simp only[Q5g,Q62,Q1e,Q4o,Tree.m,letv,e,s1,s2,f]
omit h in
theorem Z7t(a:Int)(size:Int):(Q1e m a size).2=Q27 m a size:=by
 simp only[Q1e,Q4o,Tree.m,letv]
 cases Q27 m a size
 · rfl
 · cases size==1<;>rfl
theorem Z5b{a:Int}(ha:U a){size:Int}(hs:size=1∨size=4)(v:Int):Qap m a size v=bif Q27 m a size then(Qbl m a size v,true) else(m,false):=by
 have hcl:Q03 m=m:=rfl
 have e:=Z0d h ha hs
 obtain⟨s1,s2⟩:=sh_same ha
 have f: ∀w,Q8y w (8*(a%4)) 8 v=ior .u32 (Qhf .u32 w (ishl .u32 255 (8*(a%4)))) (ishl .u32 (iand .u32 v 255) (8*(a%4))):=λw=>by
   obtain⟨f0,f1,f2,f3⟩:=setj w v
   have:a%4=0∨a%4=1∨a%4=2∨a%4=3:=by omega
   rcases this with h|h|h|h<;>rw[h]
   · exact f0
   · exact f1
   · exact f2
   · exact f3
 simp only[Qap,Q4t,Qbl,Qf8,Tree.m,letv,hcl,e,s1,s2,f]
 rcases hs with rfl|rfl<;>cases Q27 m a _<;>rfl
end
section
variable {P:Nat} {m:List Int} (h:Q12 P m)
include h
theorem walk_same{root va:Int}(hr:U root)(hv:U va){access:Int}(ha:access=1∨access=2∨access=3):Qis m root va access=Q7x m root va access:=by
 have hp:=Qff h
 have h2:=h.p2
 have hlen:=h.len
 obtain⟨r1,r2⟩:=hr
 obtain⟨v1,v2⟩:=hv
 have hpg: ∀{f:Int},U f→Qbc m f=decide (f<P):=λhf=>pageP_eq h hf
 have eP:IntKind.wrap .u32 (P:Int)=P:=by rw[IntKind.wrap_u32];omega
 have kn:Qf3 access=true:=by rcases ha with rfl|rfl|rfl<;>rfl
 have ca:Qki access=(Q25 access,true):=by rcases ha with rfl|rfl|rfl<;>rfl
 simp only[Qis,Q61,Q7x,Qat,Tree.m,letv,hp,eP,kn,ca,hpg ⟨r1,r2⟩]
 by_cases c1:va≥4096
 · rw[decide_eq_true c1];rfl
 by_cases c2:root<P
 · have eE:IntKind.wrap IntKind.u32 (IntKind.wrap IntKind.u32 (root*128)+IntKind.wrap IntKind.u32 (4*IntKind.wrap IntKind.u32 (Int.tdiv va 128)))=root*128+4*(va/128):=by
     rw[Int.tdiv_eq_ediv_of_nonneg v1,IntKind.wrap_u32,IntKind.wrap_u32,IntKind.wrap_u32,IntKind.wrap_u32];omega
   have hE:U (root*128+4*(va/128)):=⟨by omega,by omega⟩
   have wi:Q27 m (root*128+4*(va/128)) 4=true:=by
     rw[Qhp h hE (.inr rfl)];exact decide_eq_true ⟨by omega,by omega⟩
   rw[decide_eq_false c1,decide_eq_true c2,decide_eq_false (show¬root≥P by omega),eE,Qnt h hE (.inr rfl),Z7t,wi]
   have ld:(Q1e m (root*128+4*(va/128)) 4).1=m.getD (Int.toNat (IntKind.wrap .u32 (Int.tdiv (root*128+4*(va/128)) 4))) 0:=by
     simp only[Q1e,Q4o,Tree.m,letv,wi];rfl
   rw[ld]
   generalize m.getD (Int.toNat (IntKind.wrap .u32 (Int.tdiv (root*128+4*(va/128)) 4))) 0=w
   have fo:Qfi w=iand .u32 (ishr .u32 w 8) 255:=(fld w).2.2.2.2
   rw[fo,hpg (Qjr _ _)]
   have hge:decide (iand .u32 (ishr .u32 w 8) 255≥(P:Int))=!decide (iand .u32 (ishr .u32 w 8) 255<(P:Int)):=by
     by_cases hq:iand .u32 (ishr .u32 w 8) 255<(P:Int)
     · rw[decide_eq_true hq,decide_eq_false (by omega)];rfl
     · rw[decide_eq_false hq,decide_eq_true (by omega)];rfl
   rw[hge]
   generalize decide (iand .u32 (ishr .u32 w 8) 255<(P:Int))=d
   rcases ha with rfl|rfl|rfl
   · show _=(bif iand .u32 w 1==0 then _ else bif iand .u32 w 4==0 then _ else bif !d then _ else _)
     have:Qce w 1=(bif iand .u32 w 1==0 then false else !(iand .u32 w 4==0)):=rfl
     rw[this]
     cases iand .u32 w 1==0<;>cases iand .u32 w 4==0<;>cases d<;>rfl
   · show _=(bif iand .u32 w 1==0 then _ else bif !d then _ else _)
     have:Qce w 2=(bif iand .u32 w 1==0 then false else true):=rfl
     rw[this]
     cases iand .u32 w 1==0<;>cases d<;>rfl
   · show _=(bif iand .u32 w 1==0 then _ else bif iand .u32 w 2==0 then _ else bif !d then _ else _)
     have:Qce w 3=(bif iand .u32 w 1==0 then false else !(iand .u32 w 2==0)):=rfl
     rw[this]
     cases iand .u32 w 1==0<;>cases iand .u32 w 2==0<;>cases d<;>rfl
 · rw[decide_eq_false c1,decide_eq_false c2,decide_eq_true (show root≥P by omega)];rfl
theorem Zmd{a:Int}(ha:U a)(access:Int):Qd2 m a access=Qnh m a access:=by
 have hcl:Q03 m=m:=rfl
 have hl:=h.len
 have a0:=ha.1
 simp only[Qd2,Q4u,Qnh,Qf9,Tree.m,letv,Qnt h ha (.inr rfl),Z7t,Z5b h ha (.inr rfl),hcl]
 cases hw:Q27 m a 4
 · rfl
 · rw[Qhp h ha (.inr rfl)]at hw
   have hw:=of_decide_eq_true hw
   have wi:Q27 m a 4=true:=by rw[Qhp h ha (.inr rfl)];exact decide_eq_true hw
   have ld:(Q1e m a 4).1=m.getD (Int.toNat (IntKind.wrap .u32 (Int.tdiv a 4))) 0:=by
     simp only[Q1e,Q4o,Tree.m,letv,wi];rfl
   have pu: ∀v,Qbl m a 4 v=m.set (Int.toNat (IntKind.wrap .u32 (Int.tdiv a 4))) v:=λv=>rfl
   rw[ld,pu,pu]
   have hi:Int.toNat (IntKind.wrap .u32 (Int.tdiv a 4))<m.length:=by
     rw[Int.tdiv_eq_ediv_of_nonneg a0,IntKind.wrap_u32];omega
   generalize Int.toNat (IntKind.wrap .u32 (Int.tdiv a 4))=i at*
   rw[Qsq hi,List.set_set]
   rfl
end
theorem Qoa{c:Q02}(h0:0≤c.B5.a0)(h:c.B5.a0≤31)(k b:Int):Q59 c k b=Q38 c k b:=by
 have e:=eq_of_beq (Qt0 (λs=>Qhf .u32 (ior .u32 (Q9z (Q9z s 1 8) 2 16) 1) 2==ior .u32 (Qhf .u32 (ior .u32 (ior .u32 (Qhf .u32 s 24) (IntKind.wrap .u32 (8*Qci (iand .u32 s 1 !=0)))) (IntKind.wrap .u32 (16*Qci (iand .u32 s 2 !=0)))) 2) 1) 32 (by kernel_rfl) h0 (by omega))
 simp only[Q59,Qkw,Q38,Qid,Tree.m,letv,e]
theorem Zfh{c:Q02}(h0:0≤c.B5.a0)(h:c.B5.a0≤31):Qek c=Qif c:=by
 have e:=eq_of_beq (Qt0 (λs=>Q9z (Q9z s 8 1) 16 2==ior .u32 (ior .u32 (Qhf .u32 s 3) (IntKind.wrap .u32 (1*Qci (iand .u32 s 8 !=0)))) (IntKind.wrap .u32 (2*Qci (iand .u32 s 16 !=0)))) 32 (by kernel_rfl) h0 (by omega))
 simp only[Qek,Qgg,Qif,Qdx,Tree.m,letv,e]
theorem Z5l{c:Q02}(h0:0≤c.B5.a0)(h:c.B5.a0≤31):Qlr c=(!Qb8 c&&(iand .u32 c.B5.a0 4 !=0)):=
 eq_of_beq (Qt0 (λs=>(iand .u32 s 5==4)==(!(iand .u32 s 1 !=0)&&(iand .u32 s 4 !=0))) 32 (by kernel_rfl) h0 (by omega))
theorem Qz5(c:Q02){r:Int}(hr:0≤r∧r<16)(v:Int):Qbs c r v=Q1w c r v:=by
 simp only[Qbs,Q9h,Q1w,Qfb,Tree.m]
 by_cases h:r=0
 · subst h;rfl
 · rw[decide_eq_true (show r>0 by omega),decide_eq_true hr.2,show(r !=0)=true by simpa using h];rfl
theorem div_same{a b:Int}(ha:U a)(hb:U b):Qco a b=Qcm a b:=by
  obtain⟨a0,a1⟩:=ha
  obtain⟨b0,b1⟩:=hb
  have i: ∀x,IntKind.wrap .i64 (IntKind.wrap .i32 x)=IntKind.wrap .i32 x:=λx=>by rw[IntKind.wrap_i64,IntKind.wrap_i32];omega
  have r32: ∀x,-2147483648≤IntKind.wrap .i32 x∧IntKind.wrap .i32 x<2147483648:=λx=>by rw[IntKind.wrap_i32];omega
  have q32: ∀x y:Int,-2147483648≤x∧x<2147483648→ -2147483648≤Int.tdiv x y∧Int.tdiv x y≤2147483648:=λx y hx=>by
    have h1:(Int.tdiv x y).natAbs≤x.natAbs:=by rw[Int.natAbs_tdiv];exact Nat.div_le_self _ _
    omega
  simp only[Qco,Q5w,Qcm,Qb2,Tree.m,i]
  cases hb:b==0
  · have w: ∀z,IntKind.wrap .u32 (IntKind.wrap .i32 z)=IntKind.wrap .u32 z:=λz=>by rw[IntKind.wrap_i32,IntKind.wrap_u32,IntKind.wrap_u32];omega
    have w2:IntKind.wrap .i64 (Int.tdiv (IntKind.wrap .i32 a) (IntKind.wrap .i32 b))=Int.tdiv (IntKind.wrap .i32 a) (IntKind.wrap .i32 b):=by
      have:=q32 _ (IntKind.wrap .i32 b) (r32 a)
      rw[IntKind.wrap_i64];omega
    rw[w,w2]
    cases h1:a==2147483648
    · rfl
    · cases h2:b==4294967295
      · rfl
      · have h1:=eq_of_beq h1
        have h2:=eq_of_beq h2
        subst h1;subst h2
        rfl
  · rfl
theorem alu_same{op a b:Int}(h0:1≤op)(h1:op≤23)(ha:U a)(hb:U b):Q4w op a b=Qe5 op a b:=by
 have sub:IntKind.wrap .u32 (a+IntKind.wrap .u32 (0-b))=IntKind.wrap .u32 (a-b):=by
   rw[IntKind.wrap_u32,IntKind.wrap_u32,IntKind.wrap_u32];omega
 have hop:op=1∨op=2∨op=3∨op=4∨op=5∨op=6∨op=7∨op=8∨op=9∨op=10∨op=11∨op=12∨op=13∨op=14∨op=15∨op=16∨op=17∨op=18∨op=19∨op=20∨op=21∨op=22∨op=23:=by omega
 have d:=div_same ha hb
 rcases hop with rfl|rfl|rfl|rfl|rfl|rfl|rfl|rfl|rfl|rfl|rfl|rfl|rfl|rfl|rfl|rfl|rfl|rfl|rfl|rfl|rfl|rfl|rfl
 · rfl
 · show(IntKind.wrap .u32 (a+IntKind.wrap .u32 (0-b)),true)=(IntKind.wrap .u32 (a-b),true)
   rw[sub]
 · rfl
 · rfl
 · rfl
 · rfl
 · rfl
 · rfl
 · rfl
 · show((Qco a b).1,true)=((Qcm a b).1,true)
   rw[d]
 · show((Qco a b).2,true)=((Qcm a b).2,true)
   rw[d]
 all_goals rfl
theorem Qon{P:Nat}{m:List Int}(h:Q12 P m){c:Q02}(hc:Q2q c)(hst:c.B5.a0≤31){va:Int}(hv:U va){size:Int}(hs:size=1∨size=4){access:Int}(ha:access=1∨access=2∨access=3):Q29 c m va size access=((Q15 c m va size access).1,(Q15 c m va size access).2.2,(Q15 c m va size access).2.1):=by
 have hcl:Q03 m=m:=rfl
 have kn:Qf3 access=true:=by rcases ha with rfl|rfl|rfl<;>rfl
 have ca:Qrj access=(Q25 access,true):=by rcases ha with rfl|rfl|rfl<;>rfl
 have pg:=Z5l hc.a0.1 hst
 have wk:=walk_same h hc.a6 hv ha
 have tc:Qd2 m (Q7x m c.B5.a6 va access).F2 access=Qnh m (Q7x m c.B5.a6 va access).F2 access:=Zmd h (Tree.pp (walk_w h hc.a6 hv access)).2.2.1 access
 have sz:(bif size !=1 then bif size !=4 then false else true else true)=true:=by rcases hs with rfl|rfl<;>rfl
 simp only[Q29,Q5v,Q15,Q8t,Tree.m,letv,hcl,kn,ca,pg,wk,tc,Qnt h hv hs,Z7t]
 rcases hs with rfl|rfl<;>
 · show(bif _ then _ else _)=_
   cases Int.tmod va _ !=0<;>cases Qb8 c<;>cases iand .u32 c.B5.a0 4 !=0<;>cases(Q7x m c.B5.a6 va access).F0 !=0<;>cases Q27 m va _<;>rfl
theorem Z0r{α:Type}{Q:α→Prop}{c:Bool}{x y:α}(hx:Q x)(hy:Q y):Q (cond c x y):=by cases c<;>assumption
theorem walk_al(m:List Int)(root:Int){va:Int}(hv:U va)(access:Int):(Q7x m root va access).F0=0→(Q7x m root va access).Addr%4=va%4:=by
 have hc:Q25 access≠0:=by
   simp only[Q25,Q9r,Tree.m]
   cases access==1<;>cases access==3<;>simp
 have q :(λt:Q18=>t.F0=0→t.Addr%4=va%4) (Q7x m root va access):=by
   simp only[Q7x,Qat,Tree.m,letv]
   repeat'(first
     |exact λe=>absurd e hc
     | (intro _
        show IntKind.wrap .u32 (IntKind.wrap .u32 (_*128)+Int.tmod va 128)%4=va%4
        rw[Int.tmod_eq_emod_of_nonneg hv.1,IntKind.wrap_u32,IntKind.wrap_u32];omega)
     |refine Z0r (Q:=λt:Q18=>t.F0=0→t.Addr%4=va%4) ?_ ?_)
 exact q
theorem reach_al{c:Q02}{m:List Int}{va:Int}(hv:U va){size:Int}(hs:size=1∨size=4){access:Int}(ha:access=1∨access=2∨access=3):(Q15 c m va size access).2.1=0→(Q15 c m va size access).1%size=0:=by
  have kn:Qf3 access=true:=by rcases ha with rfl|rfl|rfl<;>rfl
  have hc:Q25 access≠0:=by
    simp only[Q25,Q9r,Tree.m]
    cases access==1<;>cases access==3<;>simp
  rcases hs with rfl|rfl
  · intro _;omega
  simp only[Q15,Q8t,Tree.m,letv,kn]
  show(bif Int.tmod va 4 !=0 then((0:Int),(3:Int),m) else _).2.1=0→(bif Int.tmod va 4 !=0 then((0:Int),(3:Int),m) else _).1%4=0
  rw[Int.tmod_eq_emod_of_nonneg hv.1]
  cases hz:va%4 !=0
  · have hz:va%4=0:=by simpa using hz
    have w:=walk_al m c.B5.a6 hv access
    cases hp:Qlr c
    · cases hw:Q27 m va 4
      · exact λe=>absurd e hc
      · exact λ_=>hz
    · cases hq:(Q7x m c.B5.a6 va access).F0 !=0
      · have hq:(Q7x m c.B5.a6 va access).F0=0:=by simpa using hq
        exact λ_=>(w hq).trans hz
      · have hq: ¬(Q7x m c.B5.a6 va access).F0=0:=by simpa using hq
        exact λe=>absurd e hq
  · intro e;cases e
def eff0:Q14:={B8:=0,D0:=0,D9:=0,Value:=0}
def Q6j(c:Q02)(m:List Int)(i:Q0h):Q02×List Int×Q14:=
 bif i.Op==32 then((Q7f c m i).1,(Q7f c m i).2,eff0) else bif i.Op==33 then((Q7f c m i).1,(Q7f c m i).2,eff0) else bif i.Op==34 then((Q7f c m i).1,(Q7f c m i).2,eff0)
 else bif i.Op==35 then((Q9k c m i).1,(Q9k c m i).2,eff0) else bif i.Op==36 then((Q9k c m i).1,(Q9k c m i).2,eff0) else((Qm c i).1,m,(Qm c i).2)
def regX(c:Q02)(r:Int):Int:=List.getD (A16.l c.X) r.toNat 0
def Qjs(c:Q02)(m:List Int)(i:Q0h):Q02×Q14×List Int:=
 bif decide (i.Op≥56) then((Qi7 c i).1,(Qi7 c i).2,m) else bif decide (i.Op≥40) then(Z1f c i,eff0,m) else bif decide (i.Op≥32) then((Q6 c m i).1,eff0,(Q6 c m i).2)
 else bif i.Op==24 then({X:=(Q1w c i.A (ishl .u32 (IntKind.wrap .u32 i.Imm) 16)).X,Pc:=IntKind.wrap .u32 ((Q1w c i.A (ishl .u32 (IntKind.wrap .u32 i.Imm) 16)).Pc+4),B5:=(Q1w c i.A (ishl .u32 (IntKind.wrap .u32 i.Imm) 16)).B5},eff0,m)
 else bif decide (i.Op≤13) then
   ({X:=(Q1w c i.A (Qe5 i.Op (regX c i.B) (regX c i.C)).1).X,Pc:=IntKind.wrap .u32 ((Q1w c i.A (Qe5 i.Op (regX c i.B) (regX c i.C)).1).Pc+4),B5:=(Q1w c i.A (Qe5 i.Op (regX c i.B) (regX c i.C)).1).B5},eff0,m)
 else({X:=(Q1w c i.A (Qe5 i.Op (regX c i.B) (IntKind.wrap .u32 i.Imm)).1).X,Pc:=IntKind.wrap .u32 ((Q1w c i.A (Qe5 i.Op (regX c i.B) (IntKind.wrap .u32 i.Imm)).1).Pc+4),B5:=(Q1w c i.A (Qe5 i.Op (regX c i.B) (IntKind.wrap .u32 i.Imm)).1).B5},eff0,m)
def isOp(op:Int):Prop:=op=1∨op=2∨op=3∨op=4∨op=5∨op=6∨op=7∨op=8∨op=9∨op=10∨op=11∨op=12∨op=13∨op=16∨op=17∨op=18∨op=19∨op=20∨op=21∨op=22∨op=23∨op=24∨op=32∨op=33∨op=34∨op=35∨op=36∨op=40∨op=41∨op=42∨op=43∨op=44∨op=45∨op=48∨op=49∨op=56∨op=57∨op=58∨op=59∨op=60∨op=61∨op=62∨op=63∨op=64
theorem set_pc(c:Q02)(r v:Int):(Q1w c r v).Pc=c.Pc∧(Q1w c r v).B5=c.B5:=by
 simp only[Q1w,Qfb,Tree.m]
 cases decide (r>0)
 · exact⟨rfl,rfl⟩
 · cases decide (r<16)<;>exact⟨rfl,rfl⟩
def adv(c:Q02):Q02:={X:=c.X,Pc:=IntKind.wrap .u32 (c.Pc+4),B5:=c.B5}
def va(c:Q02)(B Imm:Int):Int:=IntKind.wrap .u32 (List.getD (A16.l c.X) B.toNat 0+IntKind.wrap .u32 Imm)
def ldP(c:Q02)(A v size:Int)(f:Int→Int)(y:Int×List Int×Int):Q02×List Int:=bif y.2.2 !=0 then(Q59 c y.2.2 v,y.2.1) else(adv (Qbs c A (f (Q5g y.2.1 y.1 size).1)),y.2.1)
def ldR(c:Q02)(A v size:Int)(f:Int→Int)(x:Int×Int×List Int):Q02×List Int:=bif x.2.1 !=0 then(Q38 c x.2.1 v,x.2.2) else(adv (Q1w c A (f (Q1e x.2.2 x.1 size).1)),x.2.2)
def stP(c:Q02)(A v size:Int)(y:Int×List Int×Int):Q02×List Int:=bif y.2.2 !=0 then(Q59 c y.2.2 v,y.2.1) else(adv c,(Qap y.2.1 y.1 size (List.getD (A16.l c.X) A.toNat 0)).1)
def stR(c:Q02)(A v size:Int)(x:Int×Int×List Int):Q02×List Int:=bif x.2.1 !=0 then(Q38 c x.2.1 v,x.2.2) else(adv c,Qbl x.2.2 x.1 size (List.getD (A16.l c.X) A.toNat 0))
theorem ld_eq(c:Q02)(m:List Int)(A B C Imm:Int):
   (Q7f c m ⟨32,A,B,C,Imm⟩=ldP c A (va c B Imm) 4 (λv=>v) (Q29 c m (va c B Imm) 4 2)∧Q6 c m ⟨32,A,B,C,Imm⟩=ldR c A (va c B Imm) 4 (λv=>v) (Q15 c m (va c B Imm) 4 2))∧
   (Q7f c m ⟨33,A,B,C,Imm⟩=ldP c A (va c B Imm) 1 (λv=>Q2r v 8) (Q29 c m (va c B Imm) 1 2)∧Q6 c m ⟨33,A,B,C,Imm⟩=ldR c A (va c B Imm) 1 (λv=>Q43 v 8) (Q15 c m (va c B Imm) 1 2))∧
   (Q7f c m ⟨34,A,B,C,Imm⟩=ldP c A (va c B Imm) 1 (λv=>v) (Q29 c m (va c B Imm) 1 2)∧Q6 c m ⟨34,A,B,C,Imm⟩=ldR c A (va c B Imm) 1 (λv=>v) (Q15 c m (va c B Imm) 1 2))∧
   (Q9k c m ⟨35,A,B,C,Imm⟩=stP c A (va c B Imm) 4 (Q29 c m (va c B Imm) 4 3)∧Q6 c m ⟨35,A,B,C,Imm⟩=stR c A (va c B Imm) 4 (Q15 c m (va c B Imm) 4 3))∧
   (Q9k c m ⟨36,A,B,C,Imm⟩=stP c A (va c B Imm) 1 (Q29 c m (va c B Imm) 1 3)∧Q6 c m ⟨36,A,B,C,Imm⟩=stR c A (va c B Imm) 1 (Q15 c m (va c B Imm) 1 3)):=
 ⟨⟨by kernel_rfl,by kernel_rfl⟩,⟨by kernel_rfl,by kernel_rfl⟩,⟨by kernel_rfl,by kernel_rfl⟩,⟨by kernel_rfl,by kernel_rfl⟩,⟨by kernel_rfl,by kernel_rfl⟩⟩
theorem sx_load{P:Nat}{m:List Int}(h:Q12 P m)(a:Int):Q2r (Q1e m a 1).1 8=Q43 (Q1e m a 1).1 8:=by
 have: ∀x:Int×Bool,(∃w,U w∧x=(iand .u32 w 255,true))∨x=(0,false)→Q2r x.1 8=Q43 x.1 8:=λx hx=>by
   rcases hx with⟨w,hw,rfl⟩|rfl
   · have e:=m255 hw
     exact sx8 (by show 0≤iand .u32 w 255;omega) (by show iand .u32 w 255<256;omega)
   · rfl
 refine this _ ?_
 simp only[Q1e,Q4o,Tree.m,letv]
 cases Q27 m a 1
 · exact .inr rfl
 · exact .inl ⟨_,Qso (Qky h.u _) _,rfl⟩
section
variable {P:Nat} {m:List Int} (h:Q12 P m) {c:Q02} (hc:Q2q c) (hst:c.B5.a0≤31)
include h hc hst
omit hst in
theorem Zg7{v:Int}(hv:U v){size:Int}(hs:size=1∨size=4)(access:Int):Q12 P (Q15 c m v size access).2.2∧U (Q15 c m v size access).1∧((Q15 c m v size access).2.1=0→(Q15 c m v size access).1<128*P):=(Tree.pp (Z9j h hc hv hs access)).2
theorem Zg5{A v:Int}(hA:0≤A∧A<16)(hv:U v){size:Int}(hs:size=1∨size=4){f g:Int→Int}(hf: ∀{m':List Int},Q12 P m'→ ∀a,f (Q1e m' a size).1=g (Q1e m' a size).1):ldP c A v size f (Q29 c m v size 2)=ldR c A v size g (Q15 c m v size 2):=by
 rw[Qon h hc hst hv hs (.inr (.inl rfl))]
 obtain⟨k,u,_⟩:=Zg7 h hc hv hs 2
 generalize Q15 c m v size 2=x at*
 simp only[ldP,ldR,Qnt k u hs,Qoa hc.a0.1 hst,Qz5 c hA,hf k]
theorem st_same{A v:Int}(hv:U v){size:Int}(hs:size=1∨size=4):stP c A v size (Q29 c m v size 3)=stR c A v size (Q15 c m v size 3):=by
 rw[Qon h hc hst hv hs (.inr (.inr rfl))]
 obtain⟨k,u,b⟩:=Zg7 h hc hv hs 3
 have al:=reach_al (c:=c) (m:=m) hv hs (access:=3) (.inr (.inr rfl))
 generalize Q15 c m v size 3=x at*
 simp only[stP,stR,Z5b k u hs,Qoa hc.a0.1 hst,Qhp k u hs]
 cases hq:x.2.1 !=0
 · have hq:x.2.1=0:=by simpa using hq
   rw[decide_eq_true ⟨al hq,b hq⟩];rfl
 · rfl
end
theorem write_pc(c:Q02)(k v:Int):(Qho c k v).Pc=c.Pc:=by
 simp only[Qho,Qd3,Tree.m]
 repeat'(first|rfl|refine Z0r (Q:=λx:Q02=>x.Pc=c.Pc) ?_ ?_)
def setP(c:Q02)(A v p:Int):Q02:={X:=(Qbs c A v).X,Pc:=p,B5:=(Qbs c A v).B5}
def setR(c:Q02)(A v p:Int):Q02:={X:=(Q1w c A v).X,Pc:=p,B5:=(Q1w c A v).B5}
def nxt(c:Q02):Int:=IntKind.wrap .u32 (c.Pc+4)
theorem Zea(c:Q02){A:Int}(hA:0≤A∧A<16)(v p:Int):setP c A v p=setR c A v p:=by
 unfold setP setR;rw[Qz5 c hA]
theorem Zg8(c:Q02)(A v:Int):adv (Q1w c A v)=setR c A v (nxt c):=by
 unfold adv setR nxt;rw[(set_pc c A v).1]
theorem brc(t:Bool)(x y:Q02)(m:List Int):((bif t then(x,eff0) else(y,eff0)).1,m,(bif t then(x,eff0) else(y,eff0)).2)=((bif t then x else y),m,eff0):=by cases t<;>rfl
def isOpB(op:Int):Bool:=decide (op=1)||decide (op=2)||decide (op=3)||decide (op=4)||decide (op=5)||decide (op=6)||decide (op=7)||decide (op=8)||decide (op=9)||decide (op=10)||decide (op=11)||decide (op=12)||decide (op=13)||decide (op=16)||decide (op=17)||decide (op=18)||decide (op=19)||decide (op=20)||decide (op=21)||decide (op=22)||decide (op=23)||decide (op=24)||decide (op=32)||decide (op=33)||decide (op=34)||decide (op=35)||decide (op=36)||decide (op=40)||decide (op=41)||decide (op=42)||decide (op=43)||decide (op=44)||decide (op=45)||decide (op=48)||decide (op=49)||decide (op=56)||decide (op=57)||decide (op=58)||decide (op=59)||decide (op=60)||decide (op=61)||decide (op=62)||decide (op=63)||decide (op=64)
section
variable {P:Nat} {m:List Int} (h:Q12 P m) {c:Q02} (hc:Q2q c) (hst:c.B5.a0≤31) {A B C Imm:Int} (hA:0≤A∧A<16)
include h hc hst hA
theorem post_same{op:Int}(hop:isOp op):Q6j c m ⟨op,A,B,C,Imm⟩=((Qjs c m ⟨op,A,B,C,Imm⟩).1,(Qjs c m ⟨op,A,B,C,Imm⟩).2.2,(Qjs c m ⟨op,A,B,C,Imm⟩).2.1):=by
 have alu: ∀{k y:Int},1≤k→k≤23→U y→((setP c A (Q4w k (regX c B) y).1 (nxt c),m,eff0):Q02×List Int×Q14)=(adv (Q1w c A (Qe5 k (regX c B) y).1),m,eff0):=λh1 h2 hy=>by
   rw[alu_same h1 h2 (show U (regX c B) from hc.r _) hy,Zg8,Zea c hA]
 have uC:U (regX c C):=hc.r _
 have uI:U (IntKind.wrap .u32 Imm):=Q0s _
 obtain⟨⟨l1,l2⟩,⟨l3,l4⟩,⟨l5,l6⟩,⟨l7,l8⟩,⟨l9,l10⟩⟩:=ld_eq c m A B C Imm
 have hva:U (va c B Imm):=Q0s _
 rcases hop with rfl|rfl|rfl|rfl|rfl|rfl|rfl|rfl|rfl|rfl|rfl|rfl|rfl|rfl|rfl|rfl|rfl|rfl|rfl|rfl|rfl|rfl|rfl|rfl|rfl|rfl|rfl|rfl|rfl|rfl|rfl|rfl|rfl|rfl|rfl|rfl|rfl|rfl|rfl|rfl|rfl|rfl|rfl|rfl
 · exact(show Q6j c m ⟨1,A,B,C,Imm⟩=(setP c A (Q4w 1 (regX c B) (regX c C)).1 (nxt c),m,eff0) by kernel_rfl).trans ((alu (by decide) (by decide) uC).trans (by kernel_rfl))
 · exact(show Q6j c m ⟨2,A,B,C,Imm⟩=(setP c A (Q4w 2 (regX c B) (regX c C)).1 (nxt c),m,eff0) by kernel_rfl).trans ((alu (by decide) (by decide) uC).trans (by kernel_rfl))
 · exact(show Q6j c m ⟨3,A,B,C,Imm⟩=(setP c A (Q4w 3 (regX c B) (regX c C)).1 (nxt c),m,eff0) by kernel_rfl).trans ((alu (by decide) (by decide) uC).trans (by kernel_rfl))
 · exact(show Q6j c m ⟨4,A,B,C,Imm⟩=(setP c A (Q4w 4 (regX c B) (regX c C)).1 (nxt c),m,eff0) by kernel_rfl).trans ((alu (by decide) (by decide) uC).trans (by kernel_rfl))
 · exact(show Q6j c m ⟨5,A,B,C,Imm⟩=(setP c A (Q4w 5 (regX c B) (regX c C)).1 (nxt c),m,eff0) by kernel_rfl).trans ((alu (by decide) (by decide) uC).trans (by kernel_rfl))
 · exact(show Q6j c m ⟨6,A,B,C,Imm⟩=(setP c A (Q4w 6 (regX c B) (regX c C)).1 (nxt c),m,eff0) by kernel_rfl).trans ((alu (by decide) (by decide) uC).trans (by kernel_rfl))
 · exact(show Q6j c m ⟨7,A,B,C,Imm⟩=(setP c A (Q4w 7 (regX c B) (regX c C)).1 (nxt c),m,eff0) by kernel_rfl).trans ((alu (by decide) (by decide) uC).trans (by kernel_rfl))
 · exact(show Q6j c m ⟨8,A,B,C,Imm⟩=(setP c A (Q4w 8 (regX c B) (regX c C)).1 (nxt c),m,eff0) by kernel_rfl).trans ((alu (by decide) (by decide) uC).trans (by kernel_rfl))
 · exact(show Q6j c m ⟨9,A,B,C,Imm⟩=(setP c A (Q4w 9 (regX c B) (regX c C)).1 (nxt c),m,eff0) by kernel_rfl).trans ((alu (by decide) (by decide) uC).trans (by kernel_rfl))
 · exact(show Q6j c m ⟨10,A,B,C,Imm⟩=(setP c A (Q4w 10 (regX c B) (regX c C)).1 (nxt c),m,eff0) by kernel_rfl).trans ((alu (by decide) (by decide) uC).trans (by kernel_rfl))
 · exact(show Q6j c m ⟨11,A,B,C,Imm⟩=(setP c A (Q4w 11 (regX c B) (regX c C)).1 (nxt c),m,eff0) by kernel_rfl).trans ((alu (by decide) (by decide) uC).trans (by kernel_rfl))
 · exact(show Q6j c m ⟨12,A,B,C,Imm⟩=(setP c A (Q4w 12 (regX c B) (regX c C)).1 (nxt c),m,eff0) by kernel_rfl).trans ((alu (by decide) (by decide) uC).trans (by kernel_rfl))
 · exact(show Q6j c m ⟨13,A,B,C,Imm⟩=(setP c A (Q4w 13 (regX c B) (regX c C)).1 (nxt c),m,eff0) by kernel_rfl).trans ((alu (by decide) (by decide) uC).trans (by kernel_rfl))
 · exact(show Q6j c m ⟨16,A,B,C,Imm⟩=(setP c A (Q4w 16 (regX c B) (IntKind.wrap .u32 Imm)).1 (nxt c),m,eff0) by kernel_rfl).trans ((alu (by decide) (by decide) uI).trans (by kernel_rfl))
 · exact(show Q6j c m ⟨17,A,B,C,Imm⟩=(setP c A (Q4w 17 (regX c B) (IntKind.wrap .u32 Imm)).1 (nxt c),m,eff0) by kernel_rfl).trans ((alu (by decide) (by decide) uI).trans (by kernel_rfl))
 · exact(show Q6j c m ⟨18,A,B,C,Imm⟩=(setP c A (Q4w 18 (regX c B) (IntKind.wrap .u32 Imm)).1 (nxt c),m,eff0) by kernel_rfl).trans ((alu (by decide) (by decide) uI).trans (by kernel_rfl))
 · exact(show Q6j c m ⟨19,A,B,C,Imm⟩=(setP c A (Q4w 19 (regX c B) (IntKind.wrap .u32 Imm)).1 (nxt c),m,eff0) by kernel_rfl).trans ((alu (by decide) (by decide) uI).trans (by kernel_rfl))
 · exact(show Q6j c m ⟨20,A,B,C,Imm⟩=(setP c A (Q4w 20 (regX c B) (IntKind.wrap .u32 Imm)).1 (nxt c),m,eff0) by kernel_rfl).trans ((alu (by decide) (by decide) uI).trans (by kernel_rfl))
 · exact(show Q6j c m ⟨21,A,B,C,Imm⟩=(setP c A (Q4w 21 (regX c B) (IntKind.wrap .u32 Imm)).1 (nxt c),m,eff0) by kernel_rfl).trans ((alu (by decide) (by decide) uI).trans (by kernel_rfl))
 · exact(show Q6j c m ⟨22,A,B,C,Imm⟩=(setP c A (Q4w 22 (regX c B) (IntKind.wrap .u32 Imm)).1 (nxt c),m,eff0) by kernel_rfl).trans ((alu (by decide) (by decide) uI).trans (by kernel_rfl))
 · exact(show Q6j c m ⟨23,A,B,C,Imm⟩=(setP c A (Q4w 23 (regX c B) (IntKind.wrap .u32 Imm)).1 (nxt c),m,eff0) by kernel_rfl).trans ((alu (by decide) (by decide) uI).trans (by kernel_rfl))
 · refine(show Q6j c m ⟨24,A,B,C,Imm⟩=(setP c A (ishl .u32 (IntKind.wrap .u32 Imm) 16) (nxt c),m,eff0) by kernel_rfl).trans ?_
   rw[Zea c hA,←Zg8];kernel_rfl
 · have e:=Zg5 h hc hst hA hva (.inr rfl) (f:=λv=>v) (g:=λv=>v) (λ_ _=>rfl)
   rw[←l1,←l2]at e
   refine(show Q6j c m ⟨32,A,B,C,Imm⟩=((Q7f c m ⟨32,A,B,C,Imm⟩).1,(Q7f c m ⟨32,A,B,C,Imm⟩).2,eff0) by kernel_rfl).trans ?_
   rw[e];kernel_rfl
 · have e:=Zg5 h hc hst hA hva (.inl rfl) (f:=λv=>Q2r v 8) (g:=λv=>Q43 v 8) (λhm a=>sx_load hm a)
   rw[←l3,←l4]at e
   refine(show Q6j c m ⟨33,A,B,C,Imm⟩=((Q7f c m ⟨33,A,B,C,Imm⟩).1,(Q7f c m ⟨33,A,B,C,Imm⟩).2,eff0) by kernel_rfl).trans ?_
   rw[e];kernel_rfl
 · have e:=Zg5 h hc hst hA hva (.inl rfl) (f:=λv=>v) (g:=λv=>v) (λ_ _=>rfl)
   rw[←l5,←l6]at e
   refine(show Q6j c m ⟨34,A,B,C,Imm⟩=((Q7f c m ⟨34,A,B,C,Imm⟩).1,(Q7f c m ⟨34,A,B,C,Imm⟩).2,eff0) by kernel_rfl).trans ?_
   rw[e];kernel_rfl
 · have e:=st_same h hc hst (A:=A) hva (.inr rfl)
   rw[←l7,←l8]at e
   refine(show Q6j c m ⟨35,A,B,C,Imm⟩=((Q9k c m ⟨35,A,B,C,Imm⟩).1,(Q9k c m ⟨35,A,B,C,Imm⟩).2,eff0) by kernel_rfl).trans ?_
   rw[e];kernel_rfl
 · have e:=st_same h hc hst (A:=A) hva (.inl rfl)
   rw[←l9,←l10]at e
   refine(show Q6j c m ⟨36,A,B,C,Imm⟩=((Q9k c m ⟨36,A,B,C,Imm⟩).1,(Q9k c m ⟨36,A,B,C,Imm⟩).2,eff0) by kernel_rfl).trans ?_
   rw[e];kernel_rfl
 · exact(show Q6j c m ⟨40,A,B,C,Imm⟩=((bif(Q2m 40 (regX c A) (regX c B)) then((⟨c.X,IntKind.wrap .u32 (c.Pc+IntKind.wrap .u32 (4*IntKind.wrap .u32 Imm)),c.B5⟩:Q02),eff0) else(⟨c.X,nxt c,c.B5⟩,eff0)).1,m,(bif(Q2m 40 (regX c A) (regX c B)) then((⟨c.X,IntKind.wrap .u32 (c.Pc+IntKind.wrap .u32 (4*IntKind.wrap .u32 Imm)),c.B5⟩:Q02),eff0) else(⟨c.X,nxt c,c.B5⟩,eff0)).2) by kernel_rfl).trans ((brc (Q2m 40 (regX c A) (regX c B)) ⟨c.X,IntKind.wrap .u32 (c.Pc+IntKind.wrap .u32 (4*IntKind.wrap .u32 Imm)),c.B5⟩ ⟨c.X,nxt c,c.B5⟩ m).trans (by kernel_rfl))
 · exact(show Q6j c m ⟨41,A,B,C,Imm⟩=((bif(Q2m 41 (regX c A) (regX c B)) then((⟨c.X,IntKind.wrap .u32 (c.Pc+IntKind.wrap .u32 (4*IntKind.wrap .u32 Imm)),c.B5⟩:Q02),eff0) else(⟨c.X,nxt c,c.B5⟩,eff0)).1,m,(bif(Q2m 41 (regX c A) (regX c B)) then((⟨c.X,IntKind.wrap .u32 (c.Pc+IntKind.wrap .u32 (4*IntKind.wrap .u32 Imm)),c.B5⟩:Q02),eff0) else(⟨c.X,nxt c,c.B5⟩,eff0)).2) by kernel_rfl).trans ((brc (Q2m 41 (regX c A) (regX c B)) ⟨c.X,IntKind.wrap .u32 (c.Pc+IntKind.wrap .u32 (4*IntKind.wrap .u32 Imm)),c.B5⟩ ⟨c.X,nxt c,c.B5⟩ m).trans (by kernel_rfl))
 · exact(show Q6j c m ⟨42,A,B,C,Imm⟩=((bif(Q2m 42 (regX c A) (regX c B)) then((⟨c.X,IntKind.wrap .u32 (c.Pc+IntKind.wrap .u32 (4*IntKind.wrap .u32 Imm)),c.B5⟩:Q02),eff0) else(⟨c.X,nxt c,c.B5⟩,eff0)).1,m,(bif(Q2m 42 (regX c A) (regX c B)) then((⟨c.X,IntKind.wrap .u32 (c.Pc+IntKind.wrap .u32 (4*IntKind.wrap .u32 Imm)),c.B5⟩:Q02),eff0) else(⟨c.X,nxt c,c.B5⟩,eff0)).2) by kernel_rfl).trans ((brc (Q2m 42 (regX c A) (regX c B)) ⟨c.X,IntKind.wrap .u32 (c.Pc+IntKind.wrap .u32 (4*IntKind.wrap .u32 Imm)),c.B5⟩ ⟨c.X,nxt c,c.B5⟩ m).trans (by kernel_rfl))
 · exact(show Q6j c m ⟨43,A,B,C,Imm⟩=((bif(Q2m 43 (regX c A) (regX c B)) then((⟨c.X,IntKind.wrap .u32 (c.Pc+IntKind.wrap .u32 (4*IntKind.wrap .u32 Imm)),c.B5⟩:Q02),eff0) else(⟨c.X,nxt c,c.B5⟩,eff0)).1,m,(bif(Q2m 43 (regX c A) (regX c B)) then((⟨c.X,IntKind.wrap .u32 (c.Pc+IntKind.wrap .u32 (4*IntKind.wrap .u32 Imm)),c.B5⟩:Q02),eff0) else(⟨c.X,nxt c,c.B5⟩,eff0)).2) by kernel_rfl).trans ((brc (Q2m 43 (regX c A) (regX c B)) ⟨c.X,IntKind.wrap .u32 (c.Pc+IntKind.wrap .u32 (4*IntKind.wrap .u32 Imm)),c.B5⟩ ⟨c.X,nxt c,c.B5⟩ m).trans (by kernel_rfl))
 · exact(show Q6j c m ⟨44,A,B,C,Imm⟩=((bif(Q2m 44 (regX c A) (regX c B)) then((⟨c.X,IntKind.wrap .u32 (c.Pc+IntKind.wrap .u32 (4*IntKind.wrap .u32 Imm)),c.B5⟩:Q02),eff0) else(⟨c.X,nxt c,c.B5⟩,eff0)).1,m,(bif(Q2m 44 (regX c A) (regX c B)) then((⟨c.X,IntKind.wrap .u32 (c.Pc+IntKind.wrap .u32 (4*IntKind.wrap .u32 Imm)),c.B5⟩:Q02),eff0) else(⟨c.X,nxt c,c.B5⟩,eff0)).2) by kernel_rfl).trans ((brc (Q2m 44 (regX c A) (regX c B)) ⟨c.X,IntKind.wrap .u32 (c.Pc+IntKind.wrap .u32 (4*IntKind.wrap .u32 Imm)),c.B5⟩ ⟨c.X,nxt c,c.B5⟩ m).trans (by kernel_rfl))
 · exact(show Q6j c m ⟨45,A,B,C,Imm⟩=((bif(Q2m 45 (regX c A) (regX c B)) then((⟨c.X,IntKind.wrap .u32 (c.Pc+IntKind.wrap .u32 (4*IntKind.wrap .u32 Imm)),c.B5⟩:Q02),eff0) else(⟨c.X,nxt c,c.B5⟩,eff0)).1,m,(bif(Q2m 45 (regX c A) (regX c B)) then((⟨c.X,IntKind.wrap .u32 (c.Pc+IntKind.wrap .u32 (4*IntKind.wrap .u32 Imm)),c.B5⟩:Q02),eff0) else(⟨c.X,nxt c,c.B5⟩,eff0)).2) by kernel_rfl).trans ((brc (Q2m 45 (regX c A) (regX c B)) ⟨c.X,IntKind.wrap .u32 (c.Pc+IntKind.wrap .u32 (4*IntKind.wrap .u32 Imm)),c.B5⟩ ⟨c.X,nxt c,c.B5⟩ m).trans (by kernel_rfl))
 · refine(show Q6j c m ⟨48,A,B,C,Imm⟩=(setP c A (nxt c) (IntKind.wrap .u32 ((Qbs c A (nxt c)).Pc+IntKind.wrap .u32 (4*IntKind.wrap .u32 Imm))),m,eff0) by kernel_rfl).trans ?_
   rw[Zea c hA,Qz5 c hA,(set_pc c A (nxt c)).1];kernel_rfl
 · refine(show Q6j c m ⟨49,A,B,C,Imm⟩=(setP c A (nxt c) (va c B Imm),m,eff0) by kernel_rfl).trans ?_
   rw[Zea c hA];kernel_rfl
 · refine(show Q6j c m ⟨56,A,B,C,Imm⟩=(Q59 c 7 0,m,eff0) by kernel_rfl).trans ?_
   rw[Qoa hc.a0.1 hst];kernel_rfl
 · refine(show Q6j c m ⟨57,A,B,C,Imm⟩=(Qek c,m,eff0) by kernel_rfl).trans ?_
   rw[Zfh hc.a0.1 hst];kernel_rfl
 · refine(show Q6j c m ⟨58,A,B,C,Imm⟩=(setP c A (List.getD (A8.l c.B5) Imm.toNat 0) (nxt c),m,eff0) by kernel_rfl).trans ?_
   rw[Zea c hA,←Zg8];kernel_rfl
 · have e:=write_pc c (IntKind.wrap .i64 Imm) (regX c A)
   refine(show Q6j c m ⟨59,A,B,C,Imm⟩=((⟨(Qho c (IntKind.wrap .i64 Imm) (regX c A)).X,IntKind.wrap .u32 (c.Pc+4),(Qho c (IntKind.wrap .i64 Imm) (regX c A)).B5⟩:Q02),m,eff0) by kernel_rfl).trans ?_
   rw[←e];kernel_rfl
 · exact(show Q6j c m ⟨60,A,B,C,Imm⟩=((Qjs c m ⟨60,A,B,C,Imm⟩).1,(Qjs c m ⟨60,A,B,C,Imm⟩).2.2,(Qjs c m ⟨60,A,B,C,Imm⟩).2.1) by kernel_rfl)
 · exact(show Q6j c m ⟨61,A,B,C,Imm⟩=((Qjs c m ⟨61,A,B,C,Imm⟩).1,(Qjs c m ⟨61,A,B,C,Imm⟩).2.2,(Qjs c m ⟨61,A,B,C,Imm⟩).2.1) by kernel_rfl)
 · exact(show Q6j c m ⟨62,A,B,C,Imm⟩=((Qjs c m ⟨62,A,B,C,Imm⟩).1,(Qjs c m ⟨62,A,B,C,Imm⟩).2.2,(Qjs c m ⟨62,A,B,C,Imm⟩).2.1) by kernel_rfl)
 · exact(show Q6j c m ⟨63,A,B,C,Imm⟩=((Qjs c m ⟨63,A,B,C,Imm⟩).1,(Qjs c m ⟨63,A,B,C,Imm⟩).2.2,(Qjs c m ⟨63,A,B,C,Imm⟩).2.1) by kernel_rfl)
 · exact(show Q6j c m ⟨64,A,B,C,Imm⟩=((Qjs c m ⟨64,A,B,C,Imm⟩).1,(Qjs c m ⟨64,A,B,C,Imm⟩).2.2,(Qjs c m ⟨64,A,B,C,Imm⟩).2.1) by kernel_rfl)
end
theorem form_op{op:Int}(h0:0≤op)(h1:op<256)(h:Q2u op≠0):isOp op:=by
 have e:=of_decide_eq_true (Qt0 (λop=>decide (Q2u op=0∨isOpB op=true)) 256 (by kernel_rfl) h0 h1)
 rcases e with e|e
 · exact absurd e h
 · simpa only[isOpB,isOp,Bool.or_eq_true,decide_eq_true_eq,or_assoc] using e
theorem isOp_le{op:Int}(o:isOp op):1≤op∧op≤64:=by
 unfold isOp at o
 rcases o with h|h|h|h|h|h|h|h|h|h|h|h|h|h|h|h|h|h|h|h|h|h|h|h|h|h|h|h|h|h|h|h|h|h|h|h|h|h|h|h|h|h|h|h<;>(rw[h];decide)
theorem decode_op{w:Int}(hw:U w):(Q2 w).2=true→isOp (Q2 w).1.Op:=by
  have s24:ishr .u32 w 24=w/16777216:=by have:=Qq5 (a:=w) 24 (by decide);simpa using this
  obtain⟨w0,w1⟩:=hw
  have eo:IntKind.wrap .i64 (w/16777216)=w/16777216:=w64 (by omega) (by omega)
  have q:(λr:Q0h×Bool=>r.2=true→isOp r.1.Op) (Q2 w):=by
    simp only[Q2,Q7k,Tree.m,letv,s24,eo]
    cases hf:Q2u (w/16777216)==0
    · have g:isOp (w/16777216):=form_op (by omega) (by omega) (by simpa using hf)
      repeat'(first
        |exact λ_=>g
        |exact λe=>Bool.noConfusion (show false=true from e)
        |refine Z0r (Q:=λr:Q0h×Bool=>r.2=true→isOp r.1.Op) ?_ ?_)
    · exact λe=>Bool.noConfusion (show false=true from e)
  exact q
section
variable (c:Q02) (m:List Int)
def doR(x:Int×Int×List Int)(w:Int)(d:Q0h×Bool):Q02×Q14×List Int:=
 bif x.2.1 !=0 then(Q38 c x.2.1 c.Pc,eff0,x.2.2) else bif !d.2 then(Q38 c 1 w,eff0,x.2.2) else bif Q46 d.1.Op then(bif iand .u32 c.B5.a0 1==0 then(Q38 c 2 w,eff0,x.2.2) else Qjs c x.2.2 d.1) else Qjs c x.2.2 d.1
def doP(y:Int×List Int×Int)(d:Q0h×Bool):Q02×List Int×Q14:=
 bif y.2.2 !=0 then(Q59 c y.2.2 c.Pc,y.2.1,eff0) else bif !d.2 then(Q59 c 1 y.1,y.2.1,eff0) else bif Q9v d.1.Op then(bif !Qb8 c then(Q59 c 2 y.1,y.2.1,eff0) else Q6j c y.2.1 d.1) else Q6j c y.2.1 d.1
theorem do_eq:Q9b c m=doR c (Q15 c m c.Pc 4 1) (Q1e (Q15 c m c.Pc 4 1).2.2 (Q15 c m c.Pc 4 1).1 4).1 (Q2 (Q1e (Q15 c m c.Pc 4 1).2.2 (Q15 c m c.Pc 4 1).1 4).1):=by kernel_rfl
theorem exec_eq:Q9a c m=doP c (Qo6 c m) (Qhu (Qo6 c m).1):=by kernel_rfl
theorem fetch_eq:Qo6 c m=bif(Q29 c m c.Pc 4 1).2.2 !=0 then(0,(Q29 c m c.Pc 4 1).2.1,(Q29 c m c.Pc 4 1).2.2) else((Q5g (Q29 c m c.Pc 4 1).2.1 (Q29 c m c.Pc 4 1).1 4).1,(Q29 c m c.Pc 4 1).2.1,0):=by kernel_rfl
end
theorem Zcr{P:Nat}{m:List Int}(h:Q12 P m){c:Q02}(hc:Q2q c)(hst:c.B5.a0≤31):Q9a c m=((Q9b c m).1,(Q9b c m).2.2,(Q9b c m).2.1):=by
  obtain⟨k,u,b⟩:=Zg7 h hc hc.pc (.inr rfl) 1
  have tr: ∀k b,Q59 c k b=Q38 c k b:=Qoa hc.a0.1 hst
  rw[exec_eq,do_eq,fetch_eq,Qon h hc hst hc.pc (.inr rfl) (.inl rfl)]
  generalize Q15 c m c.Pc 4 1=x at*
  cases hx:x.2.1 !=0
  · rw [Qnt k u (.inr rfl)]
    have hw:U (Q1e x.2.2 x.1 4).1:=(Tree.pp (Zdj k u (.inr rfl))).2
    generalize(Q1e x.2.2 x.1 4).1=w at*
    show doP c (w,x.2.2,0) (Qhu w)=_
    rw[decode_eq hw]
    have o:=decode_op hw
    have i:=Tree.post _ (Zia w)
    change(Q2 w).2=true→Qfx (Q2 w).1 at i
    generalize Q2 w=d at*
    obtain⟨⟨op,A,B,C,Imm⟩,ok⟩:=d
    cases ok
    · simp only[doP,doR,hx,tr];rfl
    · have o:isOp op:=o rfl
      have i:=i rfl
      have p:=post_same (C:=C) (B:=B) (Imm:=Imm) k hc hst i.a o
      have pv:Q9v op=Q46 op:=priv_eq (by have:=isOp_le o;omega) (by have:=isOp_le o;omega)
      have kn:(!Qb8 c)=(iand .u32 c.B5.a0 1==0):=by
        show(!(!(iand .u32 c.B5.a0 1==0)))=_
        exact Bool.not_not _
      simp only[doP,doR,hx,tr,pv,kn,p]
      cases Q46 op
      · rfl
      · cases iand .u32 c.B5.a0 1==0<;>rfl
  · simp only[doP,doR,hx,cond_true,tr]
theorem ge_not{a b:Int}:decide (a≥b)=!decide (a<b):=by
 by_cases h:a<b
 · rw[decide_eq_true h,decide_eq_false (by omega)];rfl
 · rw[decide_eq_false h,decide_eq_true (by omega)];rfl
def bits(g:Int)(l:List Nat)(s:Int):Int:=l.foldl (λ(a:Int) (i:Nat)=>IntKind.wrap .i64 (a+IntKind.wrap .i64 (iand .u32 (ishr .u32 g (i:Int)) 1))) s
theorem given_eq(b:Q07):Qex b=bits b.C5 [0,1,2,3,4,5,6,7,8,9,10,11,12,13,14,15,16,17,18,19,20,21,22,23,24,25,26,27,28,29,30,31] 0:=by kernel_rfl
theorem bit_eq{g:Int}(hg:U g){i:Nat}(hi:i≤32):IntKind.wrap .i64 (iand .u32 (ishr .u32 g (i:Int)) 1)=g/2^i%2:=by
 rw[and1 (Qso hg _),Qq5 i hi]
 have:0≤g/2^i%2∧g/2^i%2<2:=by omega
 exact w64 (by omega) (by omega)
theorem bits_sum{g:Int}(hg:U g)(l:List Nat): ∀s:Int,(∀i∈l,i≤32)→0≤s→s+l.length≤1000→bits g l s=s+(l.map λi=>g/2^i%2).sum:=by
 induction l with
 |nil=>intro s _ _ _;simp [bits]
 | cons i l ih=>
   intro s hl h0 h1
   have h1:s+(l.length+1)≤1000:=by simpa using h1
   have hb:0≤g/2^i%2∧g/2^i%2<2:=by omega
   have e:bits g (i::l) s=bits g l (s+g/2^i%2):=by
     show bits g l (IntKind.wrap .i64 (s+IntKind.wrap .i64 (iand .u32 (ishr .u32 g (i:Int)) 1)))=_
     rw[bit_eq hg (hl i (by simp)),w64 (by omega) (by omega)]
   rw[e,ih _ (λj hj=>hl j (by simp [hj])) (by omega) (by omega)]
   simp;omega
theorem Zl7(n:Q0n)(port:Int):Z2c n port=Qhq n port:=by
 simp only[Z2c,Qsg,Qhq,Qgd,Tree.m]
 cases n.C7<;>cases n.B7<;>rfl
theorem Z3c(t:Q0f):Q55 t=Qds t:=by
 simp only[Q55,Qma,Qds,Qi2,Tree.m]
 cases t.D4<;>cases t.D3<;>rfl
theorem Zeh(n:Q0n)(p:Int):Q70 n p=Qi0 n p:=by
 simp only[Q70,Qlb,Qi0,Qm9,Tree.m]
 cases n.C7<;>cases n.B7<;>rfl
theorem Z8s(d:Q0e)(p:Int):Q1n d p=Qge d p:=by
  simp only[Q1n,Q72,Qas,Q8l,Qge,Qkf,Tree.m,letv,ge_not]
  cases decide (d.Blocks>64)
  · by_cases s:d.C0=0∨d.C0=1∨d.C0=2∨d.C0=3
    · rcases s with s|s|s|s<;>rw[s]
      · rfl
      · by_cases c1:d.D7=1
        · rw[c1];cases decide (d.B6<d.Blocks)<;>cases decide (IntKind.wrap .i64 d.B3<p)<;>cases decide (d.C4=[])<;>rfl
        · by_cases c2:d.D7=2
          · rw[c2];cases decide (d.B6<d.Blocks)<;>cases decide (IntKind.wrap .i64 d.B3<p)<;>cases(d.C4.length:Int)==128<;>rfl
          · rw[show(d.D7==1)=false by simpa using c1,show(d.D7==2)=false by simpa using c2]
            cases decide (d.B6<d.Blocks)<;>cases decide (IntKind.wrap .i64 d.B3<p)<;>rfl
      · rfl
      · rfl
    · rw[show(d.C0==0)=false by simp;omega,show(d.C0==1)=false by simp;omega,show(d.C0==2)=false by simp;omega,show(d.C0==3)=false by simp;omega]
      by_cases n:d.C0<0
      · rw[decide_eq_true n];rfl
      · rw[decide_eq_false n,decide_eq_true (show d.C0>3 by omega)];rfl
  · rfl
theorem con_same(c:Q0c):Qaf c=Q6p c:=by
 show(!decide (c.D1=[]))=decide ((c.D1.length:Int)>0)
 cases c.D1 with
 |nil=>rfl
 |cons a l=>rw[decide_eq_false (by simp),decide_eq_true (by simp)];rfl
theorem len_nil(k:List UInt8):decide (k=[])=((k.length:Int)==0):=by
 cases k with
 |nil=>rfl
 | cons a l=>
   rw[decide_eq_false (by simp)]
   exact(beq_eq_false_iff_ne.2 (by simp;omega)).symm
theorem Zkg(c:Q0c)(port:Int):Qp1 c port=Q6a c port:=by
 simp only[Qp1,Qaj,Q6a,Q49,Tree.m,len_nil]
 cases port==0
 · rfl
 · cases(c.D1.length:Int)==0<;>rfl
theorem arm_same(t:Q0f)(v:Int):Ql6 t v=Qt1 v:=by
 simp only[Ql6,Qm3,Qt1,Qw,Tree.m]
 cases h:v==0
 · rw[show(v !=0)=true by simp only[bne,h];rfl];rfl
 · rw[show(v !=0)=false by simp only[bne,h];rfl,eq_of_beq h];rfl
section
variable {P:Nat} {m:List Int} (h:Q12 P m)
include h
theorem Z6y(f:Int):Qag m f=Q2b m f:=by
 have a:=Q4f h
 have b:=Qff h
 simp only[Qag,Qe9,Q2b,Qi9,Tree.m,letv,a,b]
theorem Z6u(f:Int):Qbg m f=Q2b m f:=by
 have a:=Q4f h
 have b:=Qff h
 simp only[Qbg,Qg5,Q2b,Qi9,Tree.m,letv,a,b]
theorem Zdg(d:Q0e)(port:Int)(v:Int)(at0:Int):Qzc d m port v at0=Qfz d m port v at0:=by
  have pg:=Z6y h
  have pa:=Zc8 h
  have rq: ∀d a,Qjw d a=Qk d a:=λ_ _=>rfl
  simp only[Qzc,Qb3,Qur,Q7j,Qfz,Q9x,Tree.m,letv,pg,pa,rq]
  cases port==4
  · cases port==5
    · cases h6:port==6
      · rw[show(port !=6)=true by simp only[bne,h6];rfl];rfl
      · rw [show(port !=6)=false by simp only[bne,h6];rfl]
        by_cases v1:v=1
        · subst v1
          cases hs:d.C0==0
          · rw[show(d.C0 !=0)=true by simp only[bne,hs];rfl];rfl
          · rw[show(d.C0 !=0)=false by simp only[bne,hs];rfl];rfl
        · by_cases v2:v=2
          · subst v2
            cases hs:d.C0==0
            · rw[show(d.C0 !=0)=true by simp only[bne,hs];rfl];rfl
            · rw[show(d.C0 !=0)=false by simp only[bne,hs];rfl];rfl
          · rw[show(v==1)=false by simpa using v1,show(v==2)=false by simpa using v2]
            cases v==0
            · rfl
            · have:Qaa d=(bif d.C0==2 then true else d.C0==3):=rfl
              rw[this]
              cases d.C0==2<;>cases d.C0==3<;>rfl
    · rfl
  · rfl
theorem Zhi(n:Q0n)(port:Int)(v:Int)(at0:Int):Z8r n m port v at0=Qj4 n m port v at0:=by
  have pg:=Z6u h
  have pa:=Zc8 h
  simp only[Z8r,Qdk,Z8m,Qbe,Qj4,Qb7,Tree.m,letv,pg,pa]
  have g1:decide (n.E0≥1)=!decide (n.E0<1):=ge_not
  have g2:decide (n.E0≤128)=!decide (n.E0>128):=by
    by_cases h:n.E0>128
    · rw[decide_eq_true h,decide_eq_false (by omega)];rfl
    · rw[decide_eq_false h,decide_eq_true (by omega)];rfl
  rw[g1,g2]
  cases port==7
  · cases port==8
    · cases h9:port==9
      · rw[show(port !=9)=true by simp only[bne,h9];rfl];rfl
      · rw [show(port !=9)=false by simp only[bne,h9];rfl]
        by_cases v1:v=1
        · subst v1
          cases decide (n.E0<1)<;>cases decide (n.E0>128)<;>cases Q2b m n.B4<;>rfl
        · by_cases v2:v=2
          · subst v2;rfl
          · rw[show(v==1)=false by simpa using v1,show(v==2)=false by simpa using v2]
            cases v==0<;>rfl
    · rfl
  · rfl
theorem Z75{d:Q0e}(hd:Q9j d)(e:Q06):Qhc d m e=((Q98 d m e).1,(Q98 d m e).2.2,(Q98 d m e).2.1):=by
  have hcl:Q03 m=m:=rfl
  have pg:=Z6y h d.B3
  have lp:decide ((e.C6.length:Int)>0)=!decide (e.C6=[]):=by
    cases e.C6 with
    |nil=>rfl
    |cons a l=>rw[decide_eq_true (by simp),decide_eq_false (by simp)];rfl
  have bad:(e.C6.length:Int)≠128→Q2b m d.B3=true→Q3d m (IntKind.wrap .i64 d.B3) e.C6=(m,false):=λhl hp=>by
    rw[Qm0 h hd.opFrame]at hp
    have hp:=of_decide_eq_true hp
    have h1:=hd.opFrame.1
    have h3:=h.p2
    have ew:IntKind.i64.wrap d.B3=d.B3:=w64 (by omega) (by omega)
    simp only[Q3d,Q2d,Tree.m,letv,hcl,ew,Z7x h,decide_eq_true (⟨h1,hp⟩:0≤d.B3∧d.B3<P),show((e.C6.length:Int) !=128)=true by simpa using hl]
    rfl
  have good:(e.C6.length:Int)=128→Q2b m d.B3=true→Q3d m (IntKind.wrap .i64 d.B3) e.C6=(Qko m (IntKind.wrap .i64 d.B3) e.C6,true):=λhl hp=>by
    rw[Qm0 h hd.opFrame]at hp
    have hp:=of_decide_eq_true hp
    have h1:=hd.opFrame.1
    have h3:=h.p2
    have ew:IntKind.i64.wrap d.B3=d.B3:=w64 (by omega) (by omega)
    rw[ew];exact Zaz h h1 hp (by omega)
  simp only[Qhc,Q52,Q98,Q7u,Tree.m,letv,hcl,pg,lp]
  cases d.C0 !=1
  · cases e.B8 !=4
    · cases decide (e.N>1)
      · cases e.N==1
        · cases decide (e.C6=[])<;>rfl
        · cases hc:d.D7==1
          · cases decide (e.C6=[])<;>rfl
          · by_cases hl:(e.C6.length:Int)=128
            · rw[show((e.C6.length:Int) !=128)=false by simpa using hl]
              cases hp:Q2b m d.B3
              · rfl
              · rw[good hl hp];rfl
            · rw[show((e.C6.length:Int) !=128)=true by simpa using hl]
              cases hp:Q2b m d.B3
              · rfl
              · rw[bad hl hp];rfl
      · rfl
    · rfl
  · rfl
theorem Zar{n:Q0n}(hn:Qj n)(frame:List UInt8):Qlt n m frame=((Q92 n m frame).1,(Q92 n m frame).2.2,(Q92 n m frame).2.1):=by
  have hcl:Q03 m=m:=rfl
  have pg:=Z6u h n.C3
  simp only[Qlt,Q7l,Q92,Q7z,Tree.m,letv,hcl,pg]
  cases !n.C7
  · cases decide ((frame.length:Int)<1)
    · cases hf:decide ((frame.length:Int)>128)
      · cases hp:Q2b m n.C3
        · rfl
        · rw[Qm0 h hn.buffer]at hp
          have hp:=of_decide_eq_true hp
          have h1:=hn.buffer.1
          have h3:=h.p2
          have ew:IntKind.i64.wrap n.C3=n.C3:=w64 (by omega) (by omega)
          have hf:=of_decide_eq_false hf
          obtain⟨b1,b2⟩:=(Tree.pp (mpage_b h h1 hp)).2
          change isPg m n.C3 (Q6w m n.C3).1 at b1
          have tk:List.take (Int.toNat ((Q6w m n.C3).1.length:Int)-Int.toNat (frame.length:Int)) (List.drop (Int.toNat (frame.length:Int)) (Q6w m n.C3).1)=(Q6w m n.C3).1.drop frame.length:=by
            rw[Int.toNat_natCast,Int.toNat_natCast]
            exact List.take_of_length_le (by simp)
          rw[ew,tk,Zet h h1 hp (by omega) b1]
          rfl
      · rfl
    · rfl
  · rfl
end
def ptab:List UInt8:=(List.range 256).map λn=>UInt8.ofNat (n%2+n/2%2+n/4%2+n/8%2+n/16%2+n/32%2+n/64%2+n/128%2)
def pt(n:Int):Int:=((UInt8.toNat (ptab.getD n.toNat 0):Nat):Int)
theorem pop_form(x:Int):Q7b x=IntKind.wrap .i64 (IntKind.wrap .u8 (IntKind.wrap .u8 (IntKind.wrap .u8 (pt (ishr .u32 x 24)+pt (iand .u32 (ishr .u32 x 16) 255))+pt (iand .u32 (ishr .u32 x 8) 255))+pt (iand .u32 x 255))):=by kernel_rfl
theorem pt8{a:Int}(h0:0≤a)(h1:a<256):pt a=a%2+a/2%2+a/4%2+a/8%2+a/16%2+a/32%2+a/64%2+a/128%2:=
 eq_of_beq (Qt0 (λa=>pt a==a%2+a/2%2+a/4%2+a/8%2+a/16%2+a/32%2+a/64%2+a/128%2) 256 (by kernel_rfl) h0 h1)
theorem given_sum{g:Int}(hg:U g):bits g [0,1,2,3,4,5,6,7,8,9,10,11,12,13,14,15,16,17,18,19,20,21,22,23,24,25,26,27,28,29,30,31] 0=pt (g%256)+pt (g/256%256)+pt (g/65536%256)+pt (g/16777216):=by
 rw[bits_sum hg _ 0 (by decide) (by decide) (by decide),pt8 (by omega) (by omega),pt8 (by omega) (by omega),pt8 (by omega) (by omega),pt8 (by have:=hg.1;omega) (by have:=hg.2;omega)]
 obtain⟨g0,g1⟩:=hg
 simp only[List.map_cons,List.map_nil,List.sum_cons,List.sum_nil]
 have e: ∀i j:Nat,∀k:Int,i<8→k=2^j→g/2^(i+j)%2=(g/k%256)/2^i%2:=λi j k hi hk=>by
   subst hk
   rw[Nat.add_comm,Int.pow_add,←Int.ediv_ediv_of_nonneg (Int.le_of_lt (Int.pow_pos (by decide)))]
   generalize g/2^j=x
   have:i=0∨i=1∨i=2∨i=3∨i=4∨i=5∨i=6∨i=7:=by omega
   rcases this with rfl|rfl|rfl|rfl|rfl|rfl|rfl|rfl<;>simp<;>omega
 have e0: ∀i:Nat,i<8→g/2^i%2=(g%256)/2^i%2:=λi hi=>by have:=e i 0 1 hi rfl;simpa using this
 have e24:g/16777216%256=g/16777216:=by omega
 rw[e0 0 (by decide),e0 1 (by decide),e0 2 (by decide),e0 3 (by decide),e0 4 (by decide),e0 5 (by decide),e0 6 (by decide),e0 7 (by decide)]
 rw[e 0 8 256 (by decide) (by decide),e 1 8 256 (by decide) (by decide),e 2 8 256 (by decide) (by decide),e 3 8 256 (by decide) (by decide),e 4 8 256 (by decide) (by decide),e 5 8 256 (by decide) (by decide),e 6 8 256 (by decide) (by decide),e 7 8 256 (by decide) (by decide)]
 rw[e 0 16 65536 (by decide) (by decide),e 1 16 65536 (by decide) (by decide),e 2 16 65536 (by decide) (by decide),e 3 16 65536 (by decide) (by decide),e 4 16 65536 (by decide) (by decide),e 5 16 65536 (by decide) (by decide),e 6 16 65536 (by decide) (by decide),e 7 16 65536 (by decide) (by decide)]
 rw[e 0 24 16777216 (by decide) (by decide),e 1 24 16777216 (by decide) (by decide),e 2 24 16777216 (by decide) (by decide),e 3 24 16777216 (by decide) (by decide),e 4 24 16777216 (by decide) (by decide),e 5 24 16777216 (by decide) (by decide),e 6 24 16777216 (by decide) (by decide),e 7 24 16777216 (by decide) (by decide),e24]
 generalize g%256=a
 generalize g/256%256=b
 generalize g/65536%256=c
 generalize g/16777216=d
 simp only[show(2:Int)^0=1 from rfl,show(2:Int)^1=2 from rfl,show(2:Int)^2=4 from rfl,show(2:Int)^3=8 from rfl,show(2:Int)^4=16 from rfl,show(2:Int)^5=32 from rfl,show(2:Int)^6=64 from rfl,show(2:Int)^7=128 from rfl,Int.ediv_one]
 omega
theorem pt_le{a:Int}(h0:0≤a)(h1:a<256):0≤pt a∧pt a≤8:=by rw[pt8 h0 h1];omega
theorem Z61{b:Q07}(hg:U b.C5):Qe3 b=Qex b∧0≤Qex b∧Qex b≤32:=by
 obtain⟨s8,s16,s24⟩:=shr_c b.C5
 have u8:U (ishr .u32 b.C5 8):=Qso hg _
 have u16:U (ishr .u32 b.C5 16):=Qso hg _
 have e:Qe3 b=Q7b b.C5:=rfl
 rw[e,pop_form,given_eq,given_sum hg,m255 u8,m255 u16,m255 hg,s8,s16,s24]
 obtain⟨g0,g1⟩:=hg
 have p0:=pt_le (a:=b.C5%256) (by omega) (by omega)
 have p1:=pt_le (a:=b.C5/256%256) (by omega) (by omega)
 have p2:=pt_le (a:=b.C5/65536%256) (by omega) (by omega)
 have p3:=pt_le (a:=b.C5/16777216) (by omega) (by omega)
 have w8: ∀x,IntKind.wrap .u8 x=x%256:=λx=>IntKind.wrap_u8 x
 rw[w8,w8,w8,IntKind.wrap_i64]
 omega
theorem Zc3{b:Q07}(h:okB b):Q8k b=Q4j b:=by
 obtain⟨e,l0,l1⟩:=Z61 h.2
 obtain⟨t0,t1⟩:=h.1
 simp only[Q8k,Q3,Q4j,Qax,Tree.m,letv,e]
 rw[IntKind.wrap_u32,IntKind.wrap_u64,IntKind.wrap_u64,Int.emod_eq_of_lt l0 (by omega),Int.emod_eq_of_lt l0 (by omega),Int.emod_eq_of_lt t0 (by omega)]
theorem Zky{b:Q07}(h:okB b)(port:Int):Qp b port=Q64 b port:=by
 simp only[Qp,Q7m,Q64,Q76,Tree.m,letv,(Z61 h.2).1]
theorem bit_pow(g:Int)(z:Nat):g%2^(z+1)=g%2^z+2^z*(g/2^z%2):=by
 have hp:(0:Int)<2^z:=Int.pow_pos (by decide)
 have h1:=Int.mul_ediv_add_emod g (2^z)
 have h2:=Int.mul_ediv_add_emod (g/2^z) 2
 have h3:(g/2^z)/2=g/2^(z+1):=by rw[Int.pow_succ,Int.ediv_ediv_of_nonneg (Int.le_of_lt hp)]
 have h4:=Int.mul_ediv_add_emod g (2^(z+1))
 rw[h3]at h2
 have h5:(2:Int)^(z+1)*(g/2^(z+1))=2^z*(2*(g/2^(z+1))):=by rw[Int.pow_succ,Int.mul_assoc]
 have h6:(2:Int)^z*(g/2^z)=2^z*(2*(g/2^(z+1)))+2^z*(g/2^z%2):=by rw[←Int.mul_add,h2]
 omega
theorem rbal_w{b:Q07}(hg:U b.C5){P:Nat}(hP:P≤32):(Q6g b P).w (λr=>r=decide (b.C5<2^P)):=by
 unfold Q6g
 have fin: ∀v:Int,0≤v→v≤32→IntKind.wrap .u64 v=(v.toNat:Int):=λv h0 h1=>by rw[IntKind.wrap_u64];omega
 refine w_lp (inv:=λz:Int=>0≤z∧z≤32∧b.C5%2^z.toNat<2^P) (μ:=Q7w b P) ⟨by decide,by decide,by have:(0:Int)<2^P:=Int.pow_pos (by decide);simpa using this⟩ (Nat.lt_succ_self _) λz ⟨z0,z1,z2⟩=> ?_
 refine w_br (λhb=> ?_) (λhb=> ?_)
 · have hb:=of_decide_eq_true hb
   have ew:IntKind.i64.wrap (z+1)=z+1:=w64 (by omega) (by omega)
   have bt:iand .u32 (ishr .u32 b.C5 (IntKind.wrap .u64 z)) 1=b.C5/2^z.toNat%2:=by
     rw[fin z z0 z1,and1 (Qso hg _),Qq5 _ (by omega)]
   have bp:=bit_pow b.C5 z.toNat
   have zt:(z+1).toNat=z.toNat+1:=by omega
   refine w_cn (decide_eq_true (by rw[IntKind.wrap_u64];omega)) ?_
   rw[bt]
   refine w_br (λe=>w_br (λhp=> ?_) (λhp=>w_nx ?_)) (λe=>w_nx ?_)
   · have e:=eq_of_beq e
     have hp:=of_decide_eq_true hp
     show false=_
     refine(decide_eq_false λhlt=> ?_).symm
     have hle:(2:Int)^P≤2^z.toNat:=by exact_mod_cast Nat.pow_le_pow_right (show 0<2 by decide) (show P≤z.toNat by omega)
     have:b.C5/2^z.toNat=0:=Int.ediv_eq_zero_of_lt hg.1 (by omega)
     rw[this]at e;cases e
   · have e:=eq_of_beq e
     have hp:=of_decide_eq_false hp
     show(0≤IntKind.i64.wrap (z+1)∧IntKind.i64.wrap (z+1)≤32∧b.C5%2^(IntKind.i64.wrap (z+1)).toNat<2^P)∧(32-IntKind.i64.wrap (z+1)).toNat<(32-z).toNat
     rw[ew,zt]
     have hle:(2:Int)^(z.toNat+1)≤2^P:=by exact_mod_cast Nat.pow_le_pow_right (show 0<2 by decide) (show z.toNat+1≤P by omega)
     have:=Int.emod_lt_of_pos b.C5 (show(0:Int)<2^(z.toNat+1) from Int.pow_pos (by decide))
     exact⟨⟨by omega,by omega,by omega⟩,by omega⟩
   · have e: ¬b.C5/2^z.toNat%2=1:=by simpa using e
     have e:b.C5/2^z.toNat%2=0:=by omega
     rw[e]at bp
     show(0≤IntKind.i64.wrap (z+1)∧IntKind.i64.wrap (z+1)≤32∧b.C5%2^(IntKind.i64.wrap (z+1)).toNat<2^P)∧(32-IntKind.i64.wrap (z+1)).toNat<(32-z).toNat
     rw[ew,zt,bp]
     exact⟨⟨by omega,by omega,by omega⟩,by omega⟩
 · have hb:=of_decide_eq_false hb
   have:z=32:=by omega
   subst this
   show true=_
   refine(decide_eq_true ?_).symm
   have h2:b.C5%2^(32:Int).toNat=b.C5:=Int.emod_eq_of_lt hg.1 hg.2
   rwa [h2]at z2
theorem Zfl{b:Q07}(hg:U b.C5){P:Nat}(hP:P≤32):Q33 b P=Qa5 b P:=by
 have r:=(Tree.pp (rbal_w hg hP)).2
 change Qa5 b P=_ at r
 rw[r,Bool.eq_iff_iff,Z2b hg,decide_eq_true_eq]
theorem zeros:strings_Repeat [(0:UInt8)] 128=List.replicate 128 0:=by kernel_rfl
theorem give_b{P:Nat}{m:List Int}(hm:Q12 P m){b:Q07}{port:Int}{v:Int}(hv:U v)(hp:v<P)(h10:port=10)(hb:(iand .u32 (ishr .u32 b.C5 v) 1==0)=true):(Q5m b m port v).w (λr=>r.1={C9:=b.C9,C5:=ior .u32 b.C5 (ishl .u32 1 v)}∧Q12 P r.2∧ ∀k:Nat,byt r.2 k=if v*128≤k∧(k:Int)<v*128+128 then 0 else byt m k):=by
 have hv0:decide (0≤v)=true:=decide_eq_true hv.1
 have h2:=hm.p2
 have pg:Q2b m v=true:=by rw[Qm0 hm hv];exact decide_eq_true hp
 obtain⟨v1,v2⟩:=hv
 subst h10
 unfold Q5m
 refine w_br (λ_=>w_lv λx0 hx=>w_br (λ_=>w_cn hv0 (w_br (λ_=>w_cn hv0 ?_) (λh=>by rw[hb]at h;cases h))) (λh=>by rw[hx,pg]at h;cases h)) (λh=>by cases h)
 refine w_lp (inv:=λz=>0≤z.1∧z.1≤32∧Q12 P z.2∧ ∀k:Nat,byt z.2 k=if v*128≤k∧(k:Int)<v*128+4*z.1 then 0 else byt m k) (μ:=Qir b m 10 v) ⟨show(0:Int)≤0 by decide,show(0:Int)≤32 by decide,hm,λk=>by rw[if_neg];show¬(_∧_<_+4*(0:Int));omega⟩ (Nat.lt_succ_self _) (λz hz=> ?_)
 obtain⟨z1,z2,z3,z4⟩:=hz
 have hl:=z3.len
 refine w_br (λh=> ?_) (λh=>⟨rfl,z3,λk=> ?_⟩)
 · have h:=of_decide_eq_true h
   have e:IntKind.wrap IntKind.i64 (IntKind.wrap IntKind.i64 (IntKind.wrap IntKind.i64 v*32)+z.1)=v*32+z.1:=by rw[IntKind.wrap_i64,IntKind.wrap_i64,IntKind.wrap_i64];omega
   refine w_cn (by rw[e];simp [Nat.blt];omega) (w_nx ?_)
   have ew:IntKind.i64.wrap (z.1+1)=z.1+1:=by rw[IntKind.wrap_i64];omega
   show(0≤IntKind.i64.wrap (z.1+1)∧IntKind.i64.wrap (z.1+1)≤32∧Q12 P (List.set _ _ _)∧ ∀k:Nat,byt (List.set z.2 (Int.toNat (IntKind.wrap IntKind.i64 (IntKind.wrap IntKind.i64 (IntKind.wrap IntKind.i64 v*32)+z.1))) 0) k=if v*128≤(k:Int)∧(k:Int)<v*128+4*IntKind.i64.wrap (z.1+1) then 0 else _)∧(32-IntKind.i64.wrap (z.1+1)).toNat<(32-z.1).toNat
   rw[ew,e]
   refine⟨⟨by omega,by omega,⟨by simp [hl],z3.p1,z3.p2,Qye z3.u U_0 _⟩,λk=> ?_⟩,by omega⟩
   rw[Zgq (by omega)]
   by_cases hc:k/4=(v*32+z.1).toNat
   · rw[if_pos hc,if_pos (by omega)]
     have:k%4=0∨k%4=1∨k%4=2∨k%4=3:=by omega
     rcases this with h|h|h|h<;>rw[h]<;>rfl
   · rw[if_neg hc,z4 k]
     by_cases hd:v*128≤(k:Int)∧(k:Int)<v*128+4*z.1
     · rw[if_pos hd,if_pos (by omega)]
     · rw[if_neg hd,if_neg (by omega)]
 · have h:=of_decide_eq_false h
   show byt z.2 k=_
   rw[z4 k,show z.1=32 by omega];rfl
theorem bitv{g v:Int}(hg:U g)(v0:0≤v)(v1:v<32):(iand .u32 g (ishl .u32 1 v)==0)=(iand .u32 (ishr .u32 g v) 1==0):=by
 obtain⟨z,rfl⟩: ∃z:Nat,v=z:=⟨v.toNat,by omega⟩
 obtain⟨n,rfl⟩: ∃n:Nat,g=n:=⟨g.toNat,by have:=hg.1;omega⟩
 have hz:z<32:=by omega
 have hlt:(2:Nat)^z<4294967296:=by have:=Nat.pow_lt_pow_right (show 1<2 by omega) hz;simpa using this
 rw[and1 (Qso hg _),Qq5 z (by omega),shl_one v0 v1,Int.toNat_natCast]
 have hc:((2:Int)^z)=((2^z:Nat):Int):=by simp
 generalize hq:2^z=q at*
 rw[hc,Zgh hg ⟨by omega,by omega⟩,Int.toNat_natCast,Int.toNat_natCast,←hq]
 have e1:(n&&&2^z)=0↔n/2^z%2=0:=by
   have t:n.testBit z=decide (n/2^z%2=1):=Nat.testBit_eq_decide_div_mod_eq
   constructor
   · intro h
     have h2:(n&&&2^z).testBit z=false:=by rw[h];exact Nat.zero_testBit z
     rw[Nat.testBit_and,Nat.testBit_two_pow_self,Bool.and_true,t]at h2
     have:=of_decide_eq_false h2
     omega
   · intro h
     have t0:n.testBit z=false:=by rw[t];exact decide_eq_false (by omega)
     apply Nat.eq_of_testBit_eq
     intro i
     rw[Nat.testBit_and,Nat.testBit_two_pow,Nat.zero_testBit]
     by_cases hi:z=i
     · subst hi;rw[t0];rfl
     · rw[decide_eq_false hi,Bool.and_false]
 rw[Bool.eq_iff_iff,beq_iff_eq,beq_iff_eq]
 constructor
 · intro h;have:=e1.1 (by omega);omega
 · intro h;have:=e1.2 (by omega);omega
theorem Zfz{P:Nat}{m:List Int}(h:Q12 P m){b:Q07}(hb:okB b)(port:Int){v:Int}(hv:U v):Q8w b m port v=Q7a b m port v:=by
  have hcl:Q03 m=m:=rfl
  have hp:=Q4f h
  have h2:=h.p2
  have ew:IntKind.i64.wrap v=v:=w64 (by have:=hv.1;omega) (by have:=hv.2;omega)
  have pe:=Qm0 h hv
  by_cases h32:v<32
  · have bv :=bitv hb.2 hv.1 h32
    by_cases h10:port=10
    · by_cases hP:v<P
      · cases hz:iand .u32 (ishr .u32 b.C5 v) 1==0
        · simp only[Q8w,Q2z,Q7a,Q5m,Tree.m,letv,hcl,hp,ew,pe,bv,hz,h10,decide_eq_true hP,decide_eq_false (show¬v≥32 by omega)]
          rfl
        · obtain⟨g1,g2,g3⟩:=(Tree.pp (give_b h hv hP h10 hz)).2
          change(Q7a b m port v).1=_ at g1
          change Q12 P (Q7a b m port v).2 at g2
          change∀k:Nat,byt (Q7a b m port v).2 k=_ at g3
          obtain⟨s1,s2,s3⟩:=(Tree.pp (Z2o h hv.1 hP (s:=List.replicate 128 0) (by simp))).2
          have em:(Q3d m v (List.replicate 128 0)).1=(Q7a b m port v).2:=by
            refine Zgl (s2.len.trans g2.len.symm) s2.u g2.u λk=> ?_
            rw[g3 k]
            refine(s3 k).trans ?_
            by_cases hk:v*128≤(k:Int)∧(k:Int)<v*128+128
            · rw[if_pos hk,if_pos hk]
              have:(List.replicate 128 (0:UInt8)).getD ((k:Int)-v*128).toNat 0=0:=by
                rw[List.getD_eq_getElem?_getD,List.getElem?_replicate]
                split<;>rfl
              rw[this];rfl
            · rw[if_neg hk,if_neg hk]
          have el:Q8w b m port v=({C9:=b.C9,C5:=ior .u32 b.C5 (ishl .u32 1 v)},(Q3d m v (List.replicate 128 0)).1):=by
            simp only[Q8w,Q2z,Tree.m,letv,hcl,hp,ew,bv,hz,h10,decide_eq_true hP,decide_eq_false (show¬v≥32 by omega),zeros]
            rfl
          rw[el,em,←g1]
      · simp only[Q8w,Q2z,Q7a,Q5m,Tree.m,letv,hcl,hp,ew,pe,h10,decide_eq_false hP,decide_eq_false (show¬v≥32 by omega)]
        rfl
    · simp only[Q8w,Q2z,Q7a,Q5m,Tree.m,letv,hcl,decide_eq_true h32,decide_eq_false (show¬v≥32 by omega),show(port==10)=false by simpa using h10]
      cases port==11<;>rfl
  · simp only[Q8w,Q2z,Q7a,Q5m,Tree.m,letv,hcl,pe,decide_eq_false h32,decide_eq_true (show v≥32 by omega),decide_eq_false (show¬v<P by omega)]
    cases port==10<;>cases port==11<;>rfl
structure okV(m:Q01):Prop where
 cpu:Q2q m.B2
 mem: ∀w∈m.Mem,U w
 disk:Q9j m.B1
 nic:Qj m.C2
 bal:okB m.A1
 cnt:0≤m.A6
theorem Qnb(m:List Int)(hm: ∀w∈m,U w):Q0v m=Q4m m∧(Q0v m=0∨ ∃P:Nat,1≤P∧Q12 P m):=by
 refine⟨rfl,?_⟩
 simp only[Q0v,Q9m,Tree.m]
 cases h1:Int.tmod (m.length:Int) 32 !=0
 · cases h2:decide ((m.length:Int)>1024)
   · have h1:Int.tmod (m.length:Int) 32=0:=by simpa using h1
     have h2:=of_decide_eq_false h2
     rw[Int.tmod_eq_emod_of_nonneg (by omega)]at h1
     by_cases h0:m.length=0
     · left;rw[h0];rfl
     · right;exact⟨m.length/32,by omega,⟨by omega,by omega,by omega,hm⟩⟩
   · left;rfl
 · left;rfl
theorem rcnd{a x:Bool}:(bif !a then false else x)=true↔a=true∧x=true:=by cases a<;>simp
theorem rmay_iff(m:Q01):Q5x m=true↔ ¬(Q4m m.Mem<1)∧Q86 m.B2∧Qjn m.A3=true∧Qds m.A9=true∧Qge m.B1 (Q4m m.Mem)=true∧Qi0 m.C2 (Q4m m.Mem)=true∧Qa5 m.A1 (Q4m m.Mem)=true∧m.A6≤1152921504606846976∧ ¬(m.A4=true∧m.A7=true):=by
 simp only[Q5x,Qum,Tree.m,letv]
 rw[cnd2,cnd2,cnd2,cnd2,cnd2,cnd2,rcnd,rcnd,rcnd,rcnd,rcnd]
 simp only[decide_eq_false_iff_not,Int.not_lt,bne_eq_false_iff_eq,gt_iff_lt]
 have l:((bif decide (m.A6≤1152921504606846976) then(bif m.A4 then !m.A7 else true) else false)=true)↔m.A6≤1152921504606846976∧ ¬(m.A4=true∧m.A7=true):=by
   by_cases hc:m.A6≤1152921504606846976
   · rw[decide_eq_true hc]
     cases m.A4<;>cases m.A7<;>simp [hc]
   · rw[decide_eq_false hc];simp [hc]
 rw[l]
 constructor
 · rintro⟨a1,a2,a3,a4,a5,a6,a7⟩
   exact⟨by omega,⟨a2,a3,a4,a5,a6⟩,a7⟩
 · rintro⟨a1,⟨a2,a3,a4,a5,a6⟩,a7⟩
   exact⟨by omega,a2,a3,a4,a5,a6,a7⟩
theorem Qp4{m:Q01}(h:okV m):Q13 m=Q5x m:=by
 rw[Bool.eq_iff_iff,Qos,rmay_iff,dev_eq]
 obtain⟨e,c⟩:=Qnb m.Mem h.mem
 simp only[Bool.and_eq_true,←e]
 rcases c with c|⟨P,hP,hm⟩
 · constructor
   · rintro⟨a,_⟩;exact absurd c a
   · rintro⟨a,_⟩;omega
 · rw[Q4f hm,Z3c,Z8s,Zeh,Zfl h.bal.2 hm.p2]
   constructor
   · rintro⟨a1,a2,a3,a4,a5,a6,a7,a8,a9⟩;exact⟨by omega,a2,a5,a6,a7,a8,a9,a3,a4⟩
   · rintro⟨a1,a2,a5,a6,a7,a8,a9,a3,a4⟩;exact⟨by omega,a2,a3,a4,a5,a6,a7,a8,a9⟩
def Z84(a b c d e:Bool):Int:=ior .u32 (ior .u32 (ior .u32 (ior .u32 (Qaw a 0) (Qaw b 1)) (Qaw c 2)) (Qaw d 3)) (Qaw e 4)
theorem mlines(m:Q01):Qdq m=Z84 (Qh7 m.A9) (Qaf m.A3) (Qaa m.B1) (Qm6 m.C2) (Q8k m.A1):=by
 unfold Qdq Q42
 simp only[Tree.m,letv]
 generalize Qh7 m.A9=a
 generalize Qaf m.A3=b
 generalize Qaa m.B1=c
 generalize Qm6 m.C2=d
 generalize Q8k m.A1=e
 cases a<;>cases b<;>cases c<;>cases d<;>cases e<;>kernel_rfl
theorem Zkq(a b c d e:Bool):0≤Z84 a b c d e∧Z84 a b c d e<32:=by
 cases a<;>cases b<;>cases c<;>cases d<;>cases e<;>decide
theorem rlines(m:Q01):Qhs m=Z84 (Qb9 m.A9) (Q6p m.A3) (Qcj m.B1) (Qdu m.C2) (Q4j m.A1):=rfl
section
variable {m:Q01} (h:okV m)
include h
theorem Zlr:Qdq m=Qhs m:=by
 rw[mlines,rlines,con_same,Zc3 h.bal];rfl
theorem Qxf:Q6n m=Q3n m:=by
 have e:=Zlr h
 simp only[Q6n,Q22,Q3n,Q9o,Tree.m,letv,e]
theorem Zeg:Q7y m=Qdv m:=by
 have e:=Qxf h
 simp only[Q7y,Q3a,Qdv,Qeq,Tree.m,letv,e]
theorem Qrs:Q36 m=!Q1c m:=by
 have e1:=Qp4 h
 have e2:=Zeg h
 have e3:decide (m.A6≥1152921504606846976)=!decide (m.A6<1152921504606846976):=ge_not
 simp only[Q36,Q3u,Q1c,Q8u,Tree.m,letv,e1,e2,e3]
 cases Q5x m<;>cases m.A7<;>cases Qdv m<;>cases decide (m.A6<1152921504606846976)<;>rfl
theorem Z57:0≤Q3n m∧Q3n m<32:=by
 have e:Q3n m=iand .u32 (Qhs m) m.B2.B5.a7:=rfl
 have l:=Zkq (Qb9 m.A9) (Q6p m.A3) (Qcj m.B1) (Qdu m.C2) (Q4j m.A1)
 rw[←rlines]at l
 rw[e,Zgh ⟨l.1,by omega⟩ h.cpu.a7]
 have:=Nat.and_le_left (n:=(Qhs m).toNat) (m:=m.B2.B5.a7.toNat)
 omega
def low(l:Int):Int:=if l%2=1 then 0 else if l/2%2=1 then 1 else if l/4%2=1 then 2 else if l/8%2=1 then 3 else 4
end
theorem cases32{l:Int}(h0:0≤l)(h1:l<32):l=0∨l=1∨l=2∨l=3∨l=4∨l=5∨l=6∨l=7∨l=8∨l=9∨l=10∨l=11∨l=12∨l=13∨l=14∨l=15∨l=16∨l=17∨l=18∨l=19∨l=20∨l=21∨l=22∨l=23∨l=24∨l=25∨l=26∨l=27∨l=28∨l=29∨l=30∨l=31:=by omega
def intr(m:Q01)(l:Int):Q02:=bif iand .u32 m.B2.B5.a0 2==0 then m.B2 else bif l==0 then m.B2 else Q38 m.B2 (IntKind.wrap .i64 (16+low l)) 0
theorem rintr{m:Q01}(h:okV m):Q0l m=intr m (Q3n m):=by
 obtain⟨l0,l1⟩:=Z57 h
 unfold Q0l Q58
 simp only[Tree.m,letv]
 revert l0 l1
 generalize Q3n m=l
 intro l0 l1
 unfold intr
 cases iand .u32 m.B2.B5.a0 2==0
 · rcases cases32 l0 l1 with rfl|rfl|rfl|rfl|rfl|rfl|rfl|rfl|rfl|rfl|rfl|rfl|rfl|rfl|rfl|rfl|rfl|rfl|rfl|rfl|rfl|rfl|rfl|rfl|rfl|rfl|rfl|rfl|rfl|rfl|rfl|rfl<;>kernel_rfl
 · rfl
def beg(m:Q01)(c:Q02):Q01:={B2:=c,Mem:=m.Mem,A3:=m.A3,A9:=m.A9,B1:=m.B1,C2:=m.C2,A1:=m.A1,A6:=m.A6,A4:=false,A7:=m.A7}
theorem Z58{m:Q01}(h:okV m)(hst:m.B2.B5.a0≤31):Q0y m=beg m (Q0l m):=by
 obtain⟨l0,l1⟩:=Z57 h
 have tr: ∀k b,Q59 m.B2 k b=Q38 m.B2 k b:=Qoa h.cpu.a0.1 hst
 have e:Q6n (beg m m.B2)=Q3n m:=Qxf (m:=beg m m.B2) ⟨h.cpu,h.mem,h.disk,h.nic,h.bal,h.cnt⟩
 rw[rintr h]
 unfold Q0y Q2o
 simp only[Tree.m,letv]
 rw[show Q6n {B2:=m.B2,Mem:=m.Mem,A3:=m.A3,A9:=m.A9,B1:=m.B1,C2:=m.C2,A1:=m.A1,A6:=m.A6,A4:=false,A7:=m.A7}=Q3n m from e]
 revert l0 l1
 generalize Q3n m=l
 intro l0 l1
 unfold intr
 simp only[←tr]
 cases iand .u32 m.B2.B5.a0 2==0
 · rcases cases32 l0 l1 with rfl|rfl|rfl|rfl|rfl|rfl|rfl|rfl|rfl|rfl|rfl|rfl|rfl|rfl|rfl|rfl|rfl|rfl|rfl|rfl|rfl|rfl|rfl|rfl|rfl|rfl|rfl|rfl|rfl|rfl|rfl|rfl<;>(show _=_;kernel_rfl)
 · rfl
theorem ports{p:Int}:p=0∨p=1∨p=2∨p=3∨p=4∨p=5∨p=6∨p=7∨p=8∨p=9∨p=10∨p=11∨p<0∨12≤p:=by omega
theorem in_same{m:Q01}(hb:okB m.A1)(port clock:Int):Q1k m port clock=((Qdp m port clock).2,(Qdp m port clock).1):=by
 have e1:=Zkg m.A3
 have e2: ∀p,Qvj m.B1 p=Qj5 m.B1 p:=λ_=>rfl
 have e3:=Zl7 m.C2
 have e4:=Zky hb
 have e5:Qz1 m.A9=Qg6 m.A9:=rfl
 simp only[Q1k,Q2l,Qdp,Qlo,Tree.m,letv,e1,e2,e3,e4,e5]
 rcases ports (p:=port) with rfl|rfl|rfl|rfl|rfl|rfl|rfl|rfl|rfl|rfl|rfl|rfl|h|h
 all_goals first|rfl|skip
 · have n: ∀k:Int,0≤k→(port==k)=false:=λk hk=>beq_eq_false_iff_ne.2 (by omega)
   have c:Q6a m.A3 port=(m.A3,0):=by
     simp only[Q6a,Q49,Tree.m,n 0 (by decide),n 1 (by decide),cond_false]
   simp only[n 0 (by decide),n 1 (by decide),n 2 (by decide),n 3 (by decide),n 4 (by decide),n 5 (by decide),n 6 (by decide),n 7 (by decide),n 8 (by decide),n 9 (by decide),n 10 (by decide),n 11 (by decide),cond_false,decide_eq_true (show port≤1 by omega),cond_true,c]
 · have n: ∀k:Int,k<12→(port==k)=false:=λk hk=>beq_eq_false_iff_ne.2 (by omega)
   have c:Q64 m.A1 port=0:=by
     simp only[Q64,Q76,Tree.m,n 10 (by decide),n 11 (by decide),cond_false]
   simp only[n 0 (by decide),n 1 (by decide),n 2 (by decide),n 3 (by decide),n 4 (by decide),n 5 (by decide),n 6 (by decide),n 7 (by decide),n 8 (by decide),n 9 (by decide),n 10 (by decide),n 11 (by decide),cond_false,decide_eq_false (show¬port≤1 by omega),decide_eq_false (show¬port≤6 by omega),decide_eq_false (show¬port≤9 by omega),c]
theorem out_same{P:Nat}{m:Q01}(hm:Q12 P m.Mem)(hb:okB m.A1)(port:Int){v:Int}(hv:U v):Q2w m port v m.A6=((Qb5 m port v).2,(Qb5 m port v).1):=by
 have e1:=Zdg hm m.B1
 have e2:=Zhi hm m.C2
 have e3:=Zfz hm hb port hv
 have e4:=arm_same m.A9 v
 simp only[Q2w,Q2a,Qb5,Qen,Tree.m,letv,e1,e2,e3,e4]
 rcases ports (p:=port) with rfl|rfl|rfl|rfl|rfl|rfl|rfl|rfl|rfl|rfl|rfl|rfl|h|h
 all_goals first|rfl|skip
 · have n: ∀k:Int,0≤k→(port==k)=false:=λk hk=>beq_eq_false_iff_ne.2 (by omega)
   simp only[n 0 (by decide),n 1 (by decide),n 2 (by decide),n 3 (by decide),n 4 (by decide),n 5 (by decide),n 6 (by decide),n 7 (by decide),n 8 (by decide),n 9 (by decide),n 10 (by decide),n 11 (by decide),cond_false,decide_eq_true (show port≤2 by omega),cond_true]
 · have n: ∀k:Int,k<12→(port==k)=false:=λk hk=>beq_eq_false_iff_ne.2 (by omega)
   have c:Q7a m.A1 m.Mem port v=(m.A1,m.Mem):=by
     simp only[Q7a,Q5m,Tree.m,n 10 (by decide),n 11 (by decide),cond_false]
   simp only[n 0 (by decide),n 1 (by decide),n 2 (by decide),n 3 (by decide),n 4 (by decide),n 5 (by decide),n 6 (by decide),n 7 (by decide),n 8 (by decide),n 9 (by decide),n 10 (by decide),n 11 (by decide),cond_false,decide_eq_false (show¬port≤2 by omega),decide_eq_false (show¬port≤6 by omega),decide_eq_false (show¬port≤9 by omega),c]
def tick(n:Q01)(c:Q02)(w h:Bool):Q01:={B2:=c,Mem:=n.Mem,A3:=n.A3,A9:=n.A9,B1:=n.B1,C2:=n.C2,A1:=n.A1,A6:=IntKind.wrap .u64 (n.A6+1),A4:=w,A7:=h}
def withX(m:Q01)(c:Q02)(mem:List Int):Q01:={B2:=c,Mem:=mem,A3:=m.A3,A9:=m.A9,B1:=m.B1,C2:=m.C2,A1:=m.A1,A6:=m.A6,A4:=false,A7:=m.A7}
def finP(n:Q01)(e:Q14)(clock at0:Int):Q01×List Q04:=
 bif e.B8==1 then
   (bif e.D9 !=0 then(tick (Q1k n e.D0 clock).1 {X:=A16.of 0 (List.set (A16.l (Q1k n e.D0 clock).1.B2.X) e.D9.toNat (Q1k n e.D0 clock).2),Pc:=(Q1k n e.D0 clock).1.B2.Pc,B5:=(Q1k n e.D0 clock).1.B2.B5} (Q1k n e.D0 clock).1.A4 (Q1k n e.D0 clock).1.A7,[])
   else(tick (Q1k n e.D0 clock).1 (Q1k n e.D0 clock).1.B2 (Q1k n e.D0 clock).1.A4 (Q1k n e.D0 clock).1.A7,[]))
 else bif e.B8==2 then(tick (Q2w n e.D0 e.Value at0).1 (Q2w n e.D0 e.Value at0).1.B2 (Q2w n e.D0 e.Value at0).1.A4 (Q2w n e.D0 e.Value at0).1.A7,(Q2w n e.D0 e.Value at0).2)
 else bif e.B8==3 then(tick n n.B2 true n.A7,[]) else bif e.B8==4 then(tick n n.B2 n.A4 true,[]) else(tick n n.B2 n.A4 n.A7,[])
def finR(n:Q01)(e:Q14)(clock:Int):List Q04×Q01:=
 bif e.B8==1 then([],tick (Qdp n e.D0 clock).2 (Q1w (Qdp n e.D0 clock).2.B2 e.D9 (Qdp n e.D0 clock).1) (Qdp n e.D0 clock).2.A4 (Qdp n e.D0 clock).2.A7)
 else bif e.B8==2 then((Qb5 n e.D0 e.Value).1,tick (Qb5 n e.D0 e.Value).2 (Qb5 n e.D0 e.Value).2.B2 (Qb5 n e.D0 e.Value).2.A4 (Qb5 n e.D0 e.Value).2.A7)
 else bif e.B8==3 then([],tick n n.B2 true n.A7) else bif e.B8==4 then([],tick n n.B2 n.A4 true) else([],tick n n.B2 n.A4 n.A7)
theorem adv_eq(m:Q01)(clock:Int):Q0u m clock=finR (withX m (Q9b (Q0l m) m.Mem).1 (Q9b (Q0l m) m.Mem).2.2) (Q9b (Q0l m) m.Mem).2.1 clock:=by kernel_rfl
theorem Zi6(m:Q01)(clock:Int):Q3m m clock=bif !Q36 m then(m,[]) else finP {B2:=(Q9a (Q0y m).B2 (Q0y m).Mem).1,Mem:=(Q9a (Q0y m).B2 (Q0y m).Mem).2.1,A3:=(Q0y m).A3,A9:=(Q0y m).A9,B1:=(Q0y m).B1,C2:=(Q0y m).C2,A1:=(Q0y m).A1,A6:=(Q0y m).A6,A4:=(Q0y m).A4,A7:=(Q0y m).A7} (Q9a (Q0y m).B2 (Q0y m).Mem).2.2 clock m.A6:=by kernel_rfl
theorem copy_eq(m:List Int):Qop m=m:=by
 simp [Qop,Qa8,Tree.m]
theorem Z6z(m:Q01):Qjz m=m:=by
 simp only[Qjz,Q9w,Tree.m,letv,copy_eq]
def Zbs(m:Q01)(clock:Int):Q01×List Q04:=bif Q1c m then(m,[]) else((Q0u m clock).2,(Q0u m clock).1)
theorem Za5(m:Q01)(clock:Int):Zbs m clock=bif Q1c m then(m,[]) else((Q0u m clock).2,(Q0u m clock).1):=rfl
theorem fin_same{P:Nat}{n:Q01}(hm:Q12 P n.Mem)(hb:okB n.A1){e:Q14}(hr:0≤e.D9∧e.D9<16)(hv:U e.Value)(clock:Int):finP n e clock n.A6=((finR n e clock).2,(finR n e clock).1):=by
 unfold finP finR
 rw[in_same hb e.D0 clock,out_same hm hb e.D0 hv]
 cases e.B8==1
 · cases e.B8==2
   · cases e.B8==3
     · cases e.B8==4<;>rfl
     · rfl
   · rfl
 · generalize Qdp n e.D0 clock=r
   have s:=Qz5 r.2.B2 hr r.1
   show(bif e.D9 !=0 then _ else _)=(tick r.2 (Q1w r.2.B2 e.D9 r.1) r.2.A4 r.2.A7,[])
   rw[←s]
   simp only[Qbs,Q9h,Tree.m]
   cases e.D9 !=0<;>rfl
theorem Zbl{m:Q01}(h:okV m)(clock:Int):Q3m m clock=Zbs m clock:=by
 rw[Zi6,Za5,Qrs h]
 cases hs:Q1c m
 · have hr:Q36 m=true:=by rw[Qrs h,hs];rfl
   obtain⟨hm,hh,hct⟩:=Qz6 hr
   obtain⟨g1,g2,g3,g4,g5⟩:=(Qos m).1 hm
   rcases(Qnb m.Mem h.mem).2 with c|⟨P,hP,hmem⟩
   · exact absurd c g1
   have okm:okS P m:=⟨h.cpu,hmem,h.disk,h.nic,h.bal.1,h.bal.2⟩
   obtain⟨b1,b2,b3,_⟩:=(Tree.pp (Z27 okm g2)).2
   change Q86 (Q0y m).B2 at b1
   change okS P (Q0y m) at b2
   change(Q0y m).Mem=m.Mem at b3
   have be:=Z58 h g2.st
   have b1':Q86 (Q0l m):=by have:=b1;rw[be]at this;exact this
   have b2':Q2q (Q0l m):=by have:=b2.cpu;rw[be]at this;exact this
   have ex:=Zcr hmem b2' b1'.st
   have er:=(Tree.pp (Zjh b2' hmem)).2
   change 0≤(Q9a (Q0l m) m.Mem).2.2.D9∧(Q9a (Q0l m) m.Mem).2.2.D9<16 at er
   obtain⟨d1,d2,d3⟩:=(Tree.pp (do_w b2' hmem)).2
   change U (Q9b (Q0l m) m.Mem).2.1.Value at d2
   change Q12 P (Q9b (Q0l m) m.Mem).2.2 at d3
   rw[ex]at er
   rw[adv_eq,be]
   show finP {B2:=(Q9a (Q0l m) m.Mem).1,Mem:=(Q9a (Q0l m) m.Mem).2.1,A3:=m.A3,A9:=m.A9,B1:=m.B1,C2:=m.C2,A1:=m.A1,A6:=m.A6,A4:=false,A7:=m.A7} (Q9a (Q0l m) m.Mem).2.2 clock m.A6=_
   rw[ex]
   exact fin_same (n:=withX m (Q9b (Q0l m) m.Mem).1 (Q9b (Q0l m) m.Mem).2.2) d3 h.bal er d2 clock
 · rfl
theorem Z6x{m:Q01}(h:okV m)(e:Q06):Q93 m e=Ql7 m e:=by
 have hcl:Q03 m.Mem=m.Mem:=rfl
 have mm:=Qp4 h
 have t1:Qli m.A9=Ql1 m.A9:=rfl
 have t2: ∀b,Qni m.A3 b=Qln m.A3 b:=λ_=>rfl
 simp only[Q93,Q39,Ql7,Qk9,Q1i,Q7v,Tree.m,letv,Z6z,hcl,t1,t2]
 rw[show Q13 {B2:=m.B2,Mem:=m.Mem,A3:=m.A3,A9:=m.A9,B1:=m.B1,C2:=m.C2,A1:=m.A1,A6:=m.A6,A4:=m.A4,A7:=m.A7}=Q5x m from mm]
 cases hM:Q5x m
 · rfl
 have hM':Q13 m=true:=mm.trans hM
 rcases(Qnb m.Mem h.mem).2 with c|⟨P,hP,hmem⟩
 · exact absurd c ((Qos m).1 hM').1
 have cs:=Z75 hmem h.disk e
 have rs:=Zar hmem h.nic e.C6
 clear mm hM hM' hcl h
 obtain⟨c,mem,con,ti,d,n,b,ct,w,hl⟩:=m
 cases hl
 · by_cases k2:e.B8=2
   · rw[k2];cases e.N==0<;>cases decide (e.C6=[])<;>rfl
   by_cases k3:e.B8=3
   · rw[k3];cases decide (e.N≤255)<;>cases decide (e.C6=[])<;>rfl
   by_cases k4:e.B8=4
   · rw[k4,cs];rfl
   by_cases k5:e.B8=5
   · rw[k5,rs];cases e.N==0<;>rfl
   by_cases k6:e.B8=6
   · rw[k6];cases decide (e.C6=[])<;>rfl
   · rw[show(e.B8==2)=false by simpa using k2,show(e.B8==3)=false by simpa using k3,show(e.B8==4)=false by simpa using k4,show(e.B8==5)=false by simpa using k5,show(e.B8==6)=false by simpa using k6]
     rfl
 · rfl
theorem few_two{l acts:List Int}{x0:Bool}(hx0:x0=Qu1 l acts)(hb:(!x0)=false):l.length≤40∧acts.length≤30:=by
 have hb:x0=true:=by simpa using hb
 rw[hb]at hx0
 simp only[Qu1,Quf,Tree.m]at hx0
 cases h1:decide ((l.length:Int)≤40)<;>rw[h1]at hx0
 · cases hx0
 · have:=of_decide_eq_true hx0.symm
   have:=of_decide_eq_true h1
   omega
section
variable {m:Q01} (h:okV m) (hl:m.Mem.length≤1024)
include h
theorem may_P(hm:Q13 m=true): ∃P,okS P m∧okM P m:=by
 rcases(Qnb m.Mem h.mem).2 with c|⟨P,hP,hmem⟩
 · exact absurd c ((Qos m).1 hm).1
 · exact⟨P,⟨h.cpu,hmem,h.disk,h.nic,h.bal.1,h.bal.2⟩,⟨h.cpu,hmem,h.disk,h.nic,h.bal,h.cnt⟩⟩
include hl
theorem stepV_pre{clock:Int}(hk:U clock):Q3j m clock∧(Q3m m clock).2.length≤1∧(Q3m m clock).1.Mem.length≤1024:=by
 cases hr:Q36 m
 · have e:Q3m m clock=(m,[]):=by rw[Zi6,hr];rfl
   rw[e]
   refine⟨?_,Nat.zero_le _,hl⟩
   have hcl:Q03 m.Mem=m.Mem:=rfl
   show(Q3b m clock).p
   unfold Tree.p Q3b
   refine w_an (by show m.Mem.length≤35184372088832;omega) (w_lv λl hl=> ?_)
   rw[hcl]at hl;subst hl
   refine w_an (Tree.pp (Zhl (m:=⟨_,_,_,_,_,_,m.A1,_,_,_⟩) h.bal.2)).1 (w_lv λx1 hx1=>w_br (λ_=>trivial) (λhb=> ?_))
   have:x1=false:=hx1.trans hr
   rw[this]at hb;cases hb
 · obtain⟨P,s,_⟩:=may_P h (Qz6 hr).1
   have g:=Tree.pp (step_w0 s h.cnt hk)
   have ml:=g.2.2.ok.mem.len
   have mp:=g.2.2.ok.mem.p2
   exact⟨g.1,g.2.1,by show(Q3b m clock).m.1.Mem.length≤1024;omega⟩
omit h in
theorem ownV:(Q9w m).w (λx=>x=m):=by
 unfold Q9w Qop
 have c:(Qa8 m.Mem).w (λr=>r=m.Mem):=by
   unfold Qa8
   refine w_cn ?_ ?_
   · simp [Nat.blt,D.plain];omega
   · show _=_;simp
 exact Q0b c λx hx=>by rw[hx];rfl
omit h hl in
theorem mapply_w{P:Nat}(h:okM P m){e:Q06}(he:U e.N):(Q7v m e).w (λx=>okM P x.2):=by
 have k:=h
 obtain⟨h1,h2,h3,h4,h5,h7⟩:=h
 unfold Q7v
 repeat'(first
   |exact k
   |exact⟨h1,h2,h3,h4,⟨he,h5.2⟩,h7⟩
   |exact w_lv λ_ _=>⟨h1,h2,h3,h4,h5,h7⟩
   |exact Q0b (type_w _ _) λ_ _=>⟨h1,h2,h3,h4,h5,h7⟩
   |exact Q0b (Zj8 h2 h3 _) λx hx=>⟨h1,hx.2,hx.1,h4,h5,h7⟩
   |exact Q0b (Zis h2 h4 _) λx hx=>⟨h1,hx.2,h3,hx.1,h5,h7⟩
   |refine w_br (λ_=> ?_) (λ_=> ?_))
theorem Zll{e:Q06}(he:U e.N):Qbd m e:=by
 cases hm:Q13 m
 · have hcl:Q03 m.Mem=m.Mem:=rfl
   show(Q39 m e).p
   unfold Tree.p Q39
   refine w_an (by show m.Mem.length≤35184372088832;omega) (w_lv λl hl=> ?_)
   rw[hcl]at hl;subst hl
   refine w_an (Tree.pp (Zbv (m:=⟨_,_,_,_,_,_,m.A1,_,_,_⟩) h.bal.2)).1 (w_lv λx1 hx1=>w_br (λ_=>trivial) (λhb=> ?_))
   have:x1=false:=hx1.trans hm
   rw[this]at hb;cases hb
 · obtain⟨P,s,o⟩:=may_P h hm
   exact(Tree.pp (Zjg o he)).1
end
theorem rsame_w(a:Q01)(ha:a.Mem.length≤1000000000000):(Qar a a).w (λb=>b=true):=by
 unfold Qar
 repeat'(first
   |refine w_br (λ_=> ?_) (λh=>absurd h (by simp [eqs,eq1];done))
   |exact w_an ha (w_lv λx hx=>by rw[hx];exact Z68 _ ha)
   |refine w_an ha (w_lv λx hx=>w_br (λ_=> ?_) (λh=>by rw[hx,Z68 _ ha]at h;cases h))
   |exact rfl)
 all_goals(show(_==_)=true;simp)
theorem same_outs(a:List Q04)(ha:a.length≤1000000000000):(Q57 a a).w (λb=>b=true):=by
 unfold Q57
 refine w_br (λh=>by simp at h) (λ_=> ?_)
 refine w_lp (inv:=λv:Int=>0≤v∧v≤a.length) (μ:=Q6y a a) ⟨by omega,by omega⟩ (Nat.lt_succ_self _) λv ⟨h1,h2⟩=> ?_
 refine w_br (λhb=> ?_) (λ_=>rfl)
 have hb:=of_decide_eq_true hb
 have e:IntKind.i64.wrap (v+1)=v+1:=by rw[IntKind.wrap_i64];omega
 refine w_cn (by simp [Nat.blt];omega) (w_cn (by simp [Nat.blt];omega) (w_br (λh=>by simp [eqs,eq1]at h) (λ_=>w_nx ?_)))
 show(_∧_)∧(_:Nat)<_
 exact⟨⟨by rw[e];omega,by rw[e];omega⟩,by show(a.length-IntKind.i64.wrap (v+1)).toNat<(a.length-v).toNat;rw[e];omega⟩
def Tree.V{β:Type}(t:Tree β)(W:β→Prop):Prop:=W t.m
section
variable {α β:Type} {W:β→Prop} {c:Bool} {t e:Tree β}
theorem v_lf{x:β}(h:W x):Tree.V (.lf x) W:=h
theorem v_nx{f:Prop}{x:β}{hf:f}(h:W x):Tree.V (.nx f x hf) W:=h
theorem v_br(h:c=true→Tree.V t W)(g:c=false→Tree.V e W):Tree.V (.br c t e) W:=by
 cases c
 · exact g rfl
 · exact h rfl
theorem v_cn(g:Tree.V t W):Tree.V (.cn c t) W:=g
theorem v_an{p:Prop}(g:Tree.V t W):Tree.V (.an p t) W:=g
theorem v_lv{x:α}{k:α→Tree β}(h: ∀y,y=x→Tree.V (k y) W):Tree.V (.lv x k) W:=h x rfl
theorem v_lp{d:Inhabited β}{n:Nat}{f:Prop}{x:α}{k:α→Tree (α⊕β)}{hf:f}{inv:α→Prop}{μ:α→Nat}(h:inv x)(hn:μ x<n)(g: ∀y,inv y→Tree.V (k y) (Sum.elim (λz=>inv z∧μ z<μ y) W)):Tree.V (.lp d n f x k hf) W:=by
 refine run_ind (P:=inv) (R:=W) (μ:=μ) (λa ha=> ?_) n x h hn
 have:=g a ha
 unfold Tree.V at this
 revert this
 cases(k a).m with
 |inl z=>exact λh=>h
 |inr b=>exact λh=>h
end
def Z3(r:Q00)(m:Q01):Q00:={A0:=m,B0:=r.B0,B9:=r.B9,A2:=r.A2}
theorem inR_eq(r:Q00)(port clock:Int):Qt4 r port clock=((Qdp r.A0 port clock).1,Z3 r (Qdp r.A0 port clock).2):=by
 simp only[Qt4,Qjp,Qdp,Qlo,Tree.m,letv]
 cases decide (port≤1)<;>cases port==2<;>cases port==3<;>cases decide (port≤6)<;>cases decide (port≤9)<;>rfl
theorem outR_eq(r:Q00)(port v:Int):Qpf r port v=((Qb5 r.A0 port v).1,Z3 r (Qb5 r.A0 port v).2):=by
 simp only[Qpf,Qd4,Qb5,Qen,Tree.m,letv]
 cases port==0<;>cases decide (port≤2)<;>cases port==3<;>cases decide (port≤6)<;>cases decide (port≤9)<;>rfl
theorem cond_R{r:Q00}{c:Bool}{x y:Bool×Q00}{x' y':Bool×Q01}(hx:x=(x'.1,Z3 r x'.2))(hy:y=(y'.1,Z3 r y'.2)):cond c x y=((cond c x' y').1,Z3 r (cond c x' y').2):=by cases c<;>assumption
theorem applyR_eq(r:Q00)(e:Q06):Qk4 r e=((Q1i r.A0 e).1,Z3 r (Q1i r.A0 e).2):=by
 simp only[Qk4,Q9u,Q1i,Q7v,Tree.m,letv]
 repeat'(first|rfl|refine cond_R ?_ ?_)
theorem Z9n(r:Q00)(clock:Int):Q82 r clock=((Q0u r.A0 clock).1,Z3 r (Q0u r.A0 clock).2):=by
 simp only[Q82,Q75,Q0u,Q9t,Tree.m,letv,inR_eq,outR_eq,Z3]
 cases(Q9b (Q0l r.A0) r.A0.Mem).2.1.B8==1<;>cases(Q9b (Q0l r.A0) r.A0.Mem).2.1.B8==2<;>cases(Q9b (Q0l r.A0) r.A0.Mem).2.1.B8==3<;>cases(Q9b (Q0l r.A0) r.A0.Mem).2.1.B8==4<;>rfl
def Q5b(r:Q00)(e:Q06):Q00:=
 bif(Q1i r.A0 e).1 then{A0:=(Q1i r.A0 e).2,B0:=r.B0,B9:=r.B9++[{At:=(Q1i r.A0 e).2.A6,D8:=e}],A2:=r.A2} else Z3 r (Q1i r.A0 e).2
theorem Zir(r:Q00)(e:Q06):Qiv r e=Q5b r e:=by
 have a:Qhk r e=((Q1i r.A0 e).1,Z3 r (Q1i r.A0 e).2):=by
   simp only[Qhk,Q8n,Tree.m,letv,applyR_eq]
 simp only[Qiv,Qb1,Tree.m,letv,a,Q5b]
 cases(Q1i r.A0 e).1<;>rfl
def Q3i(r:Q00):Q00:=bif Qhb r.A0.A9 r.B0 then Q5b r {B8:=2,N:=0,C6:=[]} else r
def Z92(r:Q00):Q00:=bif Q4 r.A0 then{A0:=r.A0,B0:=r.B0,B9:=r.B9++[{At:=r.A0.A6,D8:={B8:=1,N:=r.B0,C6:=[]}}],A2:=r.A2} else r
def Qre(r:Q00):Q00:={A0:=(Q0u r.A0 r.B0).2,B0:=IntKind.wrap .u32 (r.B0+1),B9:=(Z92 r).B9,A2:=r.A2}
def recF:Nat→Q00→List Q04→Q00×List Q04
 |0,r,o=>(r,o)
 |n+1,r,o=>bif Q1c (Q3i r).A0 then(Q3i r,o) else recF n (Qre (Q3i r)) (o++(Q0u (Q3i r).A0 (Q3i r).B0).1)
def noQ(r:Q00):Q00:={A0:=r.A0,B0:=r.B0,B9:=r.B9,A2:=[]}
def advF(r:Q00)(steps clock:Int):Q00×List Q04:=
 bif !Q5x r.A0 then(r,[]) else recF (Q0m steps).toNat (noQ (r.A2.foldl Q5b {A0:=r.A0,B0:=if clock>r.B0 then clock else r.B0,B9:=r.B9,A2:=r.A2})) []
theorem Qjt(r:Q00)(e:Q06):(Q5b r e).A2=r.A2:=by
 unfold Q5b;cases(Q1i r.A0 e).1<;>rfl
theorem Zil(r:Q00):Qld r=r:=by
 simp only[Qld,Qao,Tree.m,letv,Z6z]
theorem Zjq(r:Q00)(steps clock:Int)(hq:r.A2.length≤1000000):Q4s r steps clock=advF r steps clock:=by
  show Tree.V (Q3z r steps clock) (λx=>x=advF r steps clock)
  obtain⟨lim0,lim⟩:=Qkq steps
  unfold Q3z
  refine v_an (v_lv λx0 e0=>v_lv λx1 e1=> ?_)
  rw[Zil]at e0
  subst e0
  refine v_br (λhb=>v_lf ?_) λhb=> ?_
  · unfold advF;rw[←e1,hb];rfl
  generalize hr0:({A0:=x0.A0,B0:=if clock>x0.B0 then clock else x0.B0,B9:=x0.B9,A2:=x0.A2}:Q00)=r0
  have hA:advF x0 steps clock=recF (Q0m steps).toNat (noQ (x0.A2.foldl Q5b r0)) []:=by
    unfold advF;rw[←e1,hb,hr0];rfl
  have hQ:r0.A2=x0.A2:=by rw[←hr0]
  refine v_lp (inv:=λz:Int×Q00=>0≤z.1∧z.1≤x0.A2.length∧z.2.A2=x0.A2∧(x0.A2.drop z.1.toNat).foldl Q5b z.2=x0.A2.foldl Q5b r0) (μ:=Qcq x0 steps clock) ⟨Int.le_refl 0,by show(0:Int)≤_;omega,hQ,rfl⟩ (Nat.lt_succ_self _) λz ⟨z0,z1,z2,z3⟩=> ?_
  refine v_br (λhb=> ?_) (λhb=> ?_)
  · have hb:=of_decide_eq_true hb
    rw[z2]at hb
    refine v_cn (v_an (v_lv λx2 e2=>v_nx ?_))
    have ew:IntKind.i64.wrap (z.1+1)=z.1+1:=by rw[IntKind.wrap_i64];omega
    rw[Zir]at e2
    have q2:x2.A2=x0.A2:=by rw[e2,Qjt,z2]
    have hlt:z.1.toNat<x0.A2.length:=by omega
    have ed:z.2.A2.getD z.1.toNat (RK.dflt RK.apiEvent)=x0.A2[z.1.toNat]:=by rw[z2,List.getD_eq_getElem?_getD,List.getElem?_eq_getElem hlt];rfl
    show(0≤IntKind.i64.wrap (z.1+1)∧IntKind.i64.wrap (z.1+1)≤x0.A2.length∧x2.A2=x0.A2∧(x0.A2.drop (IntKind.i64.wrap (z.1+1)).toNat).foldl Q5b x2=_)∧(x2.A2.length-IntKind.i64.wrap (z.1+1)).toNat<(z.2.A2.length-z.1).toNat
    rw[ew,q2,z2]
    refine⟨⟨by omega,by omega,rfl,?_⟩,by omega⟩
    rw[←z3,List.drop_eq_getElem_cons hlt,List.foldl_cons,show(z.1+1).toNat=z.1.toNat+1 by omega,e2,ed]
  · have hb:=of_decide_eq_false hb
    rw[z2]at hb
    obtain⟨zi,zr⟩:=z
    have hb: ¬zi<x0.A2.length:=hb
    have ze:zr=x0.A2.foldl Q5b r0:=by
      rw[←z3,List.drop_eq_nil_of_le (by show x0.A2.length≤zi.toNat;omega)];rfl
    rw[←ze]at hA
    refine v_lp (inv:=λy:Int×Q00×List Q04=>0≤y.1∧y.1≤Q0m steps∧recF (Q0m steps-y.1).toNat y.2.1 y.2.2=advF x0 steps clock) (μ:=Q6k x0 steps clock (zi,zr)) ⟨Int.le_refl 0,by show(0:Int)≤_;omega,by rw[hA];show recF (Q0m steps-0).toNat _ _=_;rw[Int.sub_zero];rfl⟩ (Nat.lt_succ_self _) λy ⟨y0,y1,y2⟩=> ?_
    obtain⟨yi,yr,yo⟩:=y
    have mu: ∀q,yi<4000→Q6k x0 steps clock (zi,zr) (IntKind.wrap .i64 (yi+1),q)<Q6k x0 steps clock (zi,zr) (yi,yr,yo):=λq h=>by
      show(4000-IntKind.wrap .i64 (yi+1)).toNat<(4000-yi).toNat
      have y0:0≤yi:=y0
      rw[IntKind.wrap_i64];omega
    have y0:0≤yi:=y0
    refine v_lv λx3 e3=>v_br (λhb=> ?_) (λhb=> ?_)
    · have hb:yi<x3:=of_decide_eq_true hb
      rw[e3]at hb
      have mu:=λq=>mu q (by omega)
      have ew:IntKind.i64.wrap (yi+1)=yi+1:=by rw[IntKind.wrap_i64];omega
      have en:(Q0m steps-yi).toNat=(Q0m steps-(yi+1)).toNat+1:=by omega
      change recF (Q0m steps-yi).toNat yr yo=_ at y2
      rw[en]at y2
      refine v_lv λx4 e4=>v_br (λhd=>v_an (v_lv λx5 e5=> ?_)) (λhd=> ?_)
      · have e5:x5=Q3i yr:=by rw[e5,Zir];unfold Q3i;rw[←e4,hd];rfl
        refine v_an (v_lv λx6 e6=>v_br (λhs=>v_lf ?_) λhs=>v_an (v_lv λx7 e7=>v_br (λhr=>v_cn (v_an (v_lv λx8 e8=>v_cn (v_nx ?_)))) λhr=>v_an (v_lv λx9 e9=>v_cn (v_nx ?_))))
        · show(_,yo)=_
          rw[←y2];unfold recF
          rw[←e5,←e6,hs];rfl
        · rw[Z9n]at e8
          refine⟨⟨by show 0≤IntKind.wrap .i64 (yi+1);rw[ew];omega,by show IntKind.wrap .i64 (yi+1)≤_;rw[ew];omega,?_⟩,mu _⟩
          show recF (Q0m steps-IntKind.wrap .i64 (yi+1)).toNat _ _=_
          rw[ew,←y2,e8]
          conv=>rhs;unfold recF
          rw[←e5,←e6,hs]
          unfold Qre Z92
          rw[←e7,hr];rfl
        · rw[Z9n]at e9
          refine⟨⟨by show 0≤IntKind.wrap .i64 (yi+1);rw[ew];omega,by show IntKind.wrap .i64 (yi+1)≤_;rw[ew];omega,?_⟩,mu _⟩
          show recF (Q0m steps-IntKind.wrap .i64 (yi+1)).toNat _ _=_
          rw[ew,←y2,e9]
          conv=>rhs;unfold recF
          rw[←e5,←e6,hs]
          unfold Qre Z92
          rw[←e7,hr];rfl
      · have e5:yr=Q3i yr:=by
          have e4:x4=Qhb yr.A0.A9 yr.B0:=e4
          unfold Q3i;rw[←e4,hd];rfl
        refine v_an (v_lv λx6 e6=>v_br (λhs=>v_lf ?_) λhs=>v_an (v_lv λx7 e7=>v_br (λhr=>v_cn (v_an (v_lv λx8 e8=>v_cn (v_nx ?_)))) λhr=>v_an (v_lv λx9 e9=>v_cn (v_nx ?_))))
        · show(_,yo)=_
          rw[←y2];unfold recF
          rw[←e5,←e6,hs];rfl
        · rw[Z9n]at e8
          refine⟨⟨by show 0≤IntKind.wrap .i64 (yi+1);rw[ew];omega,by show IntKind.wrap .i64 (yi+1)≤_;rw[ew];omega,?_⟩,mu _⟩
          show recF (Q0m steps-IntKind.wrap .i64 (yi+1)).toNat _ _=_
          rw[ew,←y2,e8]
          conv=>rhs;unfold recF
          rw[←e5,←e6,hs]
          unfold Qre Z92
          rw[←e7,hr];rfl
        · rw[Z9n]at e9
          refine⟨⟨by show 0≤IntKind.wrap .i64 (yi+1);rw[ew];omega,by show IntKind.wrap .i64 (yi+1)≤_;rw[ew];omega,?_⟩,mu _⟩
          show recF (Q0m steps-IntKind.wrap .i64 (yi+1)).toNat _ _=_
          rw[ew,←y2,e9]
          conv=>rhs;unfold recF
          rw[←e5,←e6,hs]
          unfold Qre Z92
          rw[←e7,hr];rfl
    · have hb: ¬yi<x3:=of_decide_eq_false hb
      rw[e3]at hb
      refine v_lf ?_
      show(yr,yo)=_
      change recF (Q0m steps-yi).toNat yr yo=_ at y2
      rw[←y2,show(Q0m steps-yi).toNat=0 by omega];rfl
structure good(P:Nat)(m:Q01):Prop where
 ok:okM P m
 may:Q13 m=true
section
variable {P:Nat} {m:Q01} (h:good P m)
include h
theorem good.v:okV m:=⟨h.ok.cpu,h.ok.mem.u,h.ok.disk,h.ok.nic,h.ok.target,h.ok.cnt⟩
theorem good.s:okS P m:=⟨h.ok.cpu,h.ok.mem,h.ok.disk,h.ok.nic,h.ok.target.1,h.ok.target.2⟩
theorem good.rmay:Q5x m=true:=(Qp4 h.v).symm.trans h.may
theorem app_keep{e:Q06}(he:U e.N):good P (Q1i m e).2∧(Q1i m e).2.A6=m.A6:=by
 have o:okM P (Q1i m e).2:=Tree.post _ (mapply_w h.ok he)
 have a:=(Tree.pp (Zjg h.ok he)).2
 change(Q13 m=true→Q13 (Q93 m e).1=true)∧(Q93 m e).1.A6=m.A6∧_ at a
 have e1:Ql7 m e=((Q1i m e).2,(Q1i m e).1):=by
   simp only[Ql7,Qk9,Tree.m,letv,Z6z,h.rmay];rfl
 rw[Z6x h.v e,e1]at a
 exact⟨⟨o,a.1 h.may⟩,a.2.1⟩
theorem Zce:Q1c m=false↔m.A7=false∧Qdv m=false∧m.A6<1152921504606846976:=by
 simp only[Q1c,Q8u,Tree.m,letv,h.rmay]
 cases m.A7<;>cases Qdv m<;>simp
theorem Qsz(hs:Q1c m=false){clock:Int}(hc:U clock):good P (Q0u m clock).2∧(Q0u m clock).2.A6=m.A6+1∧(Q0u m clock).1.length≤1:=by
 have o:=Tree.post _ (Z4z h.ok hc)
 change(Q0u m clock).1.length≤1∧okM P (Q0u m clock).2∧(Q0u m clock).2.A6=IntKind.wrap .u64 (m.A6+1) at o
 have s:=(Tree.pp (step_w0 h.s h.ok.cnt hc)).2
 change _∧Good P m (Q3m m clock).1 at s
 have e:Q3m m clock=((Q0u m clock).2,(Q0u m clock).1):=by rw[Zbl h.v,Za5,hs];rfl
 rw[e]at s
 have hct:=((Zce h).1 hs).2.2
 have h0:=h.ok.cnt
 refine⟨⟨o.2.1,s.2.may h.may⟩,?_,o.1⟩
 rw[o.2.2,IntKind.wrap_u64];omega
end
structure Qed(P:Nat)(k:Int)(r:Q00):Prop where
 m:good P r.A0
 clock:U r.B0
 cnt:r.A0.A6≤k
theorem Qqs{P:Nat}{k:Int}{r:Q00}(h:Qed P k r){e:Q06}(he:U e.N):Qed P k (Q5b r e)∧(Q5b r e).A0.A6=r.A0.A6:=by
 obtain⟨a,b⟩:=app_keep h.m he
 have hc:=h.cnt
 unfold Q5b
 cases(Q1i r.A0 e).1
 · exact⟨⟨a,h.clock,by show(Q1i r.A0 e).2.A6≤k;omega⟩,b⟩
 · exact⟨⟨a,h.clock,by show(Q1i r.A0 e).2.A6≤k;omega⟩,b⟩
theorem Qwc{P:Nat}{k:Int}{r:Q00}(h:Qed P k r):Qed P k (Q3i r)∧(Q3i r).A0.A6=r.A0.A6:=by
 unfold Q3i
 cases Qhb r.A0.A9 r.B0
 · exact⟨h,rfl⟩
 · exact Qqs h U_0
theorem Qw1{P:Nat}{k:Int}{r:Q00}(h:Qed P k r)(hs:Q1c r.A0=false):Qed P (k+1) (Qre r):=by
 obtain⟨a,b,_⟩:=Qsz h.m hs h.clock
 have hc:=h.cnt
 exact⟨a,Q0s _,by show(Q0u r.A0 r.B0).2.A6≤k+1;omega⟩
theorem Zcg{P:Nat}(n:Nat): ∀{k:Int} {r:Q00} {o:List Q04},Qed P k r→Qed P (k+n) (recF n r o).1:=by
 induction n with
 |zero=>intro k r o h;exact⟨h.m,h.clock,by have:=h.cnt;show r.A0.A6≤k+(0:Nat);omega⟩
 | succ n ih=>
   intro k r o h
   obtain⟨f,fc⟩:=Qwc h
   unfold recF
   cases hs:Q1c (Q3i r).A0
   · have t:=ih (o:=o++(Q0u (Q3i r).A0 (Q3i r).B0).1) (Qw1 f hs)
     exact⟨t.m,t.clock,by have:=t.cnt;show(recF n _ _).1.A0.A6≤_;omega⟩
   · exact⟨f.m,f.clock,by have:=f.cnt;show(Q3i r).A0.A6≤_;omega⟩
theorem Z70{P:Nat}{k:Int}(l:List Q06): ∀{r:Q00},Qed P k r→(∀q∈l,U q.N)→Qed P k (l.foldl Q5b r)∧(l.foldl Q5b r).A2=r.A2:=by
 induction l with
 |nil=>intro r h _;exact⟨h,rfl⟩
 | cons e l ih=>
   intro r h hu
   obtain⟨a,b⟩:=ih (Qqs h (hu e (by simp))).1 (λq hq=>hu q (by simp [hq]))
   exact⟨a,b.trans (Qjt r e)⟩
theorem Z5t(n:Nat): ∀(r:Q00) (o:List Q04),(recF n r o).1.A2=r.A2:=by
 induction n with
 |zero=>intro r o;rfl
 | succ n ih=>
   intro r o
   have f:(Q3i r).A2=r.A2:=by
     unfold Q3i;cases Qhb r.A0.A9 r.B0
     · rfl
     · exact Qjt _ _
   unfold recF
   cases Q1c (Q3i r).A0
   · exact(ih _ _).trans f
   · exact f
def okQ(l:List Q06):Prop:=l.length≤16∧ ∀q∈l,U q.N
theorem advF_keep{P:Nat}{k:Int}{r:Q00}(h:Qed P k r)(hq:okQ r.A2)(steps:Int){clock:Int}(hc:U clock):Qed P (k+4000) (advF r steps clock).1∧okQ (advF r steps clock).1.A2:=by
 obtain⟨l0,l1⟩:=Qkq steps
 unfold advF
 rw[h.m.rmay]
 have hcl:U (if clock>r.B0 then clock else r.B0):=by split<;>first|exact hc|exact h.clock
 obtain⟨a,b⟩:=Z70 r.A2 (r:={A0:=r.A0,B0:=if clock>r.B0 then clock else r.B0,B9:=r.B9,A2:=r.A2}) ⟨h.m,hcl,h.cnt⟩ hq.2
 have c:=Zcg (Q0m steps).toNat (o:=[]) (r:=noQ (r.A2.foldl Q5b {A0:=r.A0,B0:=if clock>r.B0 then clock else r.B0,B9:=r.B9,A2:=r.A2})) ⟨a.m,a.clock,a.cnt⟩
 refine⟨⟨c.m,c.clock,?_⟩,?_⟩
 · have:=c.cnt
   show(recF _ _ _).1.A0.A6≤_
   omega
 · show okQ (recF _ _ _).1.A2
   rw[Z5t];exact⟨Nat.zero_le _,λq hq=>by cases hq⟩
theorem Zfm(n:Int):U (Qf7 n).N:=Tree.post _ (Z9t n)
theorem Qav(r:Q00)(e:Q06):Q24 r e=bif !Qau e then(r,false) else bif e.B8==1 then(r,false) else bif decide ((r.A2.length:Int)≥16) then(r,false) else({A0:=r.A0,B0:=r.B0,B9:=r.B9,A2:=r.A2++[e]},true):=by
 simp only[Q24,Q65,Tree.m,letv,Zil]
theorem Zfr{P:Nat}{k:Int}{r:Q00}(h:Qed P k r)(hq:okQ r.A2){e:Q06}(he:U e.N):Qed P k (Q24 r e).1∧okQ (Q24 r e).1.A2:=by
  rw[Qav]
  cases Qau e
  · exact⟨h,hq⟩
  · cases e.B8==1
    · cases hl:decide ((r.A2.length:Int)≥16)
      · have hl:=of_decide_eq_false hl
        refine⟨⟨h.m,h.clock,h.cnt⟩,?_,λq hm=> ?_⟩
        · show(r.A2++[e]).length≤16
          rw[List.length_append,List.length_singleton];omega
        · have hm:q∈r.A2++[e]:=hm
          rcases List.mem_append.1 hm with hm|hm
          · exact hq.2 q hm
          · rw[List.mem_singleton.1 hm];exact he
      · exact⟨h,hq⟩
    · exact⟨h,hq⟩
theorem mstep_ev{r:Q00}{n:Int}(h:(Int.tmod (Qch n 3) 3==0)=true):Q9i r n=((Q24 r (Qf7 n)).1,[]):=by
 show Tree.V (Q9c r n) (λx=>x=((Q24 r (Qf7 n)).1,[]))
 unfold Q9c
 refine v_lv λx0 e0=>v_br (λ_=>v_an (v_lv λx1 e1=>v_an (v_lv λx2 e2=>v_lf ?_))) (λhb=> ?_)
 · rw[e2,e1]
 · rw[e0,h]at hb;cases hb
theorem mstep_ad{r:Q00}{n:Int}(h:(Int.tmod (Qch n 3) 3==0)=false):Q9i r n=Q4s r (Q26 (ishr .i64 (Qch n 3) 4) 12) (IntKind.wrap .u32 (iand .i64 (ishr .i64 (Qch n 3) 12) 255)):=by
 show Tree.V (Q9c r n) (λx=>x=Q4s r (Q26 (ishr .i64 (Qch n 3) 4) 12) (IntKind.wrap .u32 (iand .i64 (ishr .i64 (Qch n 3) 12) 255)))
 unfold Q9c
 refine v_lv λx0 e0=>v_br (λhb=> ?_) (λ_=>v_an (v_lv λx1 e1=>v_an (v_lv λx2 e2=>v_lf ?_)))
 · rw[e0,h]at hb;cases hb
 · rw[e2,e1,e0]
def Qtm(s:Q00×List Q04)(n:Int):Q00×List Q04:=((Q9i s.1 n).1,s.2++(Q9i s.1 n).2)
theorem play_eq(m:Q01)(l:List Int)(hl:l.length≤1000000):Z1u m l=l.foldl Qtm (Q2f m,[]):=by
 show Tree.V (Qd0 m l) (λx=>x=l.foldl Qtm (Q2f m,[]))
 unfold Qd0
 refine v_an (v_lv λx0 e0=> ?_)
 subst e0
 refine v_lp (inv:=λz:Int×Q00×List Q04=>0≤z.1∧z.1≤l.length∧(l.drop z.1.toNat).foldl Qtm z.2=l.foldl Qtm (Q2f m,[])) (μ:=Qj0 m l) ⟨Int.le_refl 0,by show(0:Int)≤_;omega,rfl⟩ (Nat.lt_succ_self _) λz ⟨z0,z1,z2⟩=> ?_
 obtain⟨i,r,o⟩:=z
 have z0:0≤i:=z0
 have z1:i≤l.length:=z1
 refine v_br (λhb=>v_cn (v_an (v_lv λx1 e1=>v_cn (v_nx ?_)))) (λhb=>v_lf ?_)
 · have hb:i<l.length:=of_decide_eq_true hb
   have ew:IntKind.i64.wrap (i+1)=i+1:=by rw[IntKind.wrap_i64];omega
   have hlt:i.toNat<l.length:=by omega
   show(0≤IntKind.i64.wrap (i+1)∧IntKind.i64.wrap (i+1)≤l.length∧(l.drop (IntKind.i64.wrap (i+1)).toNat).foldl Qtm (x1.1,o++x1.2)=_)∧(l.length-IntKind.i64.wrap (i+1)).toNat<(l.length-i).toNat
   rw[ew]
   refine⟨⟨by omega,by omega,?_⟩,by omega⟩
   rw[←z2]
   show _=(l.drop i.toNat).foldl Qtm (r,o)
   rw[List.drop_eq_getElem_cons hlt,List.foldl_cons,show(i+1).toNat=i.toNat+1 by omega,e1]
   have ed:l.getD i.toNat 0=l[i.toNat]:=by rw[List.getD_eq_getElem?_getD,List.getElem?_eq_getElem hlt];rfl
   rw[show Qtm (r,o) l[i.toNat]=((Q9i r l[i.toNat]).1,o++(Q9i r l[i.toNat]).2) from by unfold Qtm;rfl,←ed]
 · have hb: ¬i<l.length:=of_decide_eq_false hb
   show(r,o)=_
   rw[←z2]
   show _=(l.drop i.toNat).foldl Qtm (r,o)
   rw[List.drop_eq_nil_of_le (by omega)];rfl
theorem playF_def(s:Q00×List Q04)(n:Int):Qtm s n=((Q9i s.1 n).1,s.2++(Q9i s.1 n).2):=by unfold Qtm;rfl
theorem fold_keep{σ:Type}{f:σ→Int→σ}{I:Int→σ→Prop}(hf: ∀k s n,I k s→I (k+4000) (f s n))(l:List Int): ∀k s,I k s→I (k+4000*l.length) (l.foldl f s):=by
 induction l with
 |nil=>intro k s h;simpa using h
 | cons n l ih=>
   intro k s h
   have:=ih _ _ (hf k s n h)
   rw[List.foldl_cons,List.length_cons]
   rwa [show k+4000*((l.length+1:Nat):Int)=k+4000+4000*l.length by omega]
theorem newRec_eq(m:Q01):Q2f m={A0:=m,B0:=0,B9:=[],A2:=[]}:=by
 simp only[Q2f,Q2p,Tree.m,letv,Z6z]
theorem Zi7{i:List Int}(hu: ∀w∈i,U w)(hl:i.length≤256):good 8 (Q1v 8 4 i).1∧(Q1v 8 4 i).1.A6=0:=by
 obtain⟨a,b⟩:=(Tree.pp (new_w i hu hl)).2
 change okM 8 (Q1v 8 4 i).1 at a
 refine⟨⟨a,?_⟩,b⟩
 have e:(Q1v 8 4 i).2=true:=by
   have w:IntKind.i64.wrap (8*32)=256:=by decide
   simp only[Q1v,Q8d,Tree.m,w,letv,decide_eq_false (show¬((i.length:Int)>256) by omega)]
   rfl
 obtain⟨a1,a2,a3,a4,a5,a6⟩:=new_ok 8 4 i e
 exact(may_of _ 8 4 a1 a2 a3 a4 a5 _ a6).1
theorem runN_good{m:Q01}(h:good 8 m)(hc:m.A6≤87):Tree.V (Qa3 m [] 87) (λx=>x.2.2.2=0→good 8 x.1∧x.1.A6≤87):=by
 have z: ∀{k:Int} {p:Prop},k≠0→k=0→p:=λa b=>absurd b a
 unfold Qa3
 refine v_lv λx0 _=>v_br (λ_=>v_lf (z (by decide))) λ_=>v_br (λ_=>v_lf (z (by decide))) λ_=>v_br (λ_=>v_lf (z (by decide))) λ_=>v_an (v_lv λx1 _=>v_br (λ_=>v_lf (z (by decide))) λ_=>v_an (v_lv λx2 hx=> ?_))
 rw[Z6z]at hx
 refine v_lp (inv:=λv:Q01×List Q04=>good 8 v.1∧v.1.A6≤87) (μ:=Qgx m [] 87) ⟨by rw[hx];exact h,by rw[hx];exact hc⟩ (Nat.lt_succ_self _) λv0 ⟨a1,a3⟩=> ?_
 have a2:=a1.ok.cnt
 refine v_br (λhb=>v_br (λhm=> ?_) (λ_=>v_lf λ_=>⟨a1,a3⟩)) (λ_=>v_lf λ_=>⟨a1,a3⟩)
 have hb:=of_decide_eq_true hb
 have hm:=of_decide_eq_true hm
 refine v_lp (inv:=λ_=>True) (μ:=Qgw m [] 87 v0) trivial (Nat.lt_succ_self _) λv1 _=> ?_
 refine v_br (λ_=>v_lf λ_=>⟨a1,a3⟩) λhh=>v_an (v_lv λx3 h3=>v_br (λ_=>v_lf λ_=>⟨a1,a3⟩) λhi=>v_an (v_lv λx4 _=>v_br (λ_=>v_lf (z (by decide))) λ_=>v_an (v_lv λx5 h5=>v_cn (v_nx ?_))))
 obtain⟨b1,b2,_⟩:=Qsz a1 ((Zce a1).2 ⟨hh,h3.symm.trans hi,hm⟩) (clock:=0) U_0
 rw[←h5]at b1 b2
 show(good 8 x5.2∧x5.2.A6≤87)∧(87-x5.2.A6).toNat<(87-v0.1.A6).toNat
 exact⟨⟨b1,by omega⟩,by omega⟩
theorem Zem(kind:Int)(l:List Int)(hl:l.length*8≤reachBytes)(h40:l.length≤40):good 8 (Qk7 kind l)∧(Qk7 kind l).A6≤87:=by
  show Tree.V (Q85 kind l) (λm=>good 8 m∧m.A6≤87)
  have code:=(Tree.pp (code_w l hl)).2
  change((Qnn l).length:Int)=l.length∧ ∀w∈Qnn l,U w at code
  obtain⟨b1,b2⟩:=code
  unfold Q85
  refine v_an (v_lv λx0 hx0=>v_br (λ_=>v_an (v_lv λx1 e1=> ?_)) (λhk=> ?_))
  · have eb:x1.1=boot:=by rw[e1];rfl
    obtain⟨q1,q2⟩:boot.length≤160∧ ∀w∈boot,U w:=asm_ok
    refine v_lp (inv:=λv:List Int=>v.length≤160∧v=boot++List.replicate (v.length-boot.length) 0) (μ:=Qeb kind l) ⟨by rw[eb];exact q1,by rw[eb];simp⟩ (Nat.lt_succ_self _) λv0 ⟨a1,a2⟩=> ?_
    have a3:boot.length≤v0.length:=by rw[a2,List.length_append];omega
    refine v_br (λhb=> ?_) (λhb=> ?_)
    · have hb:=of_decide_eq_true hb
      refine v_cn (v_nx ?_)
      show(_∧_)∧(_:Nat)<_
      refine⟨⟨by rw[List.length_append,List.length_singleton];omega,?_⟩,by show 160-(v0++[0]).length<160-v0.length;rw[List.length_append,List.length_singleton];omega⟩
      show v0++[0]=boot++List.replicate ((v0++[0]).length-boot.length) 0
      rw[List.length_append,List.length_singleton,show v0.length+1-boot.length=(v0.length-boot.length)+1 by omega,List.replicate_succ',←List.append_assoc,←a2]
    · have hb:=of_decide_eq_false hb
      have hv:v0=Qke:=by
        unfold Qke
        rw[show(160:Nat)=v0.length by omega]
        exact a2
      subst hv
      have hp:=pad_len
      have hu0: ∀w∈Qke,U w:=λw hw=>(List.mem_append.1 hw).elim (q2 w) (U_all _ w)
      refine v_an (v_lv λx2 e2=>v_cn ?_)
      rw[←e2]at b1 b2
      have hu: ∀w∈Qke++x2,U w:=λw hw=>(List.mem_append.1 hw).elim (hu0 w) (b2 w)
      have hlen:(Qke++x2).length≤256:=by rw[List.length_append];omega
      refine v_br (λhb=> ?_) (λhb=> ?_)
      · have hb:=of_decide_eq_true hb;omega
      · obtain⟨c1,c2⟩:=Zi7 hu hlen
        refine v_an (v_lv λx3 h3=> ?_)
        rw[←h3]at c1 c2
        have rn:=runN_good c1 (by omega)
        refine v_br (λ_=>v_an (v_lv λx4 hx=>v_lf ?_)) (λ_=>v_lf ⟨c1,by omega⟩)
        have e:x3=Q1v 8 4 (Qke++(x2++List.replicate (96-x2.length) 0)):=by
          rw[h3]
          have hl2:(x2++List.replicate (96-x2.length) (0:Int)).length=96:=by rw[List.length_append,List.length_replicate];omega
          refine new_mem _ _ hlen (by rw[List.length_append,hl2];omega) ?_
          rw[List.length_append,List.length_append,hl2,hp,List.append_assoc,List.append_assoc,List.append_assoc,show 256-(160+96)=0 by omega,show 256-(160+x2.length)=96-x2.length by omega]
          simp
        have h0:x4.2.2.2=0:=by
          rw[hx,e]
          exact run_ok _ (by rw[List.length_append,List.length_replicate];omega)
        exact(by rw[hx];exact rn:x4.2.2.2=0→good 8 x4.1∧x4.1.A6≤87) h0
  · have hk:=of_decide_eq_false hk
    refine v_an (v_lv λx2 e2=>v_cn ?_)
    rw[←e2]at b1 b2
    refine v_br (λhb=> ?_) (λhb=> ?_)
    · have hb:=of_decide_eq_true hb;omega
    · obtain⟨c1,c2⟩:=Zi7 b2 (by omega)
      refine v_an (v_lv λx3 h3=> ?_)
      rw[←h3]at c1 c2
      exact v_br (λh=>absurd (eq_of_beq h) (by omega)) (λ_=>v_lf ⟨c1,by omega⟩)
set_option synthInstance.maxHeartbeats 2000000
set_option synthInstance.maxSize 100000
noncomputable section
instance Qys (s:(List Int)):Ck (Q08 s):=let d:Decidable (Q08 s):=(by delta Q08;infer_instance);⟨@decide _ d,@of_decide_eq_true _ d⟩
instance Zn (m:(List Int)) (addr:Int) (size:Int):Ck (Q6c m addr size):=ckT (t:=Q3c m addr size) (by delta Q3c;infer_instance)
instance bits_mask_ck (n:Int):Ck (Qbo n):=ckT (t:=Qa6 n) (by delta Qa6;infer_instance)
instance bits_Field_ck (w:Int) (low:Int) (n:Int):Ck (Q3v w low n):=ckT (t:=Q8s w low n) (by delta Q8s;infer_instance)
instance Zn2 (w:Int) (low:Int) (n:Int) (v:Int):Ck (Q8e w low n v):=ckT (t:=Q4y w low n v) (by delta Q4y;infer_instance)
instance memory_Store_ck (m:(List Int)) (addr:Int) (size:Int) (v:Int):Ck (Q5j m addr size v):=ckT (t:=Q4t m addr size v) (by delta Q4t;infer_instance)
instance Zk1 (x:Int) (n:Int):Ck (Q4i x n):=ckT (t:=Q3r x n) (by delta Q3r;infer_instance)
instance isa_Decode_ck (w:Int):Ck (Qc6 w):=ckT (t:=Q7p w) (by delta Q7p;infer_instance)
instance bits_Divide_ck (a:Int) (b:Int):Ck (Q8g a b):=ckT (t:=Q5w a b) (by delta Q5w;infer_instance)
instance cpu_Alu_ck (op:Int) (a:Int) (b:Int):Ck (Qf0 op a b):=ckT (t:=Qgc op a b) (by delta Qgc;infer_instance)
instance memory_Load_ck (m:(List Int)) (addr:Int) (size:Int):Ck (Q2n m addr size):=ckT (t:=Q62 m addr size) (by delta Q62;infer_instance)
instance Zmf (pte:Int):Ck (Q5a pte):=ckT (t:=Q4a pte) (by delta Q4a;infer_instance)
instance paging_Walk_ck (m:(List Int)) (root:Int) (va:Int) (access:Int):Ck (Q8q m root va access):=ckT (t:=Q61 m root va access) (by delta Q61;infer_instance)
instance paging_Touch_ck (m:(List Int)) (entry:Int) (access:Int):Ck (Q77 m entry access):=ckT (t:=Q4u m entry access) (by delta Q4u;infer_instance)
instance cpu_Resolve_ck (c:Q02) (m:(List Int)) (va:Int) (size:Int) (access:Int):Ck (Q6i c m va size access):=ckT (t:=Q5v c m va size access) (by delta Q5v;infer_instance)
instance cpu_Fetch_ck (c:Q02) (m:(List Int)):Ck (Qe8 c m):=ckT (t:=Qah c m) (by delta Qah;infer_instance)
instance cpu_set_ck (c:Q02) (register:Int) (v:Int):Ck (Q5k c register v):=ckT (t:=Q9h c register v) (by delta Q9h;infer_instance)
instance cpu_load_ck (c:Q02) (m:(List Int)) (i:Q0h):Ck (Qg2 c m i):=ckT (t:=Q9n c m i) (by delta Q9n;infer_instance)
instance cpu_store_ck (c:Q02) (m:(List Int)) (i:Q0h):Ck (Qe2 c m i):=ckT (t:=Q80 c m i) (by delta Q80;infer_instance)
instance cpu_Write_ck (c:Q02) (csr:Int) (v:Int):Ck (Qdg c csr v):=ckT (t:=Q83 c csr v) (by delta Q83;infer_instance)
instance cpu_execute_ck (c:Q02) (i:Q0h):Ck (Qaz c i):=ckT (t:=Q3g c i) (by delta Q3g;infer_instance)
instance cpu_Exec_ck (c:Q02) (m:(List Int)):Ck (Qdb c m):=ckT (t:=Q78 c m) (by delta Q78;infer_instance)
instance Zj1 (x:Int):Ck (Q6l x):=ckT (t:=Q20 x) (by delta Q20;infer_instance)
instance balloon_May_ck (b:Q07) (pages:Int):Ck (Q8h b pages):=ckT (t:=Q40 b pages) (by delta Q40;infer_instance)
instance Zes (m:Q01):Ck (Q1x m):=ckT (t:=Q1l m) (by delta Q1l;infer_instance)
instance machine_May_ck (m:Q01):Ck (Q48 m):=ckT (t:=Q4r m) (by delta Q4r;infer_instance)
instance Z6i (x:Int):Ck (Q3e x):=ckT (t:=Q1t x) (by delta Q1t;infer_instance)
instance Zmw (b:Q07):Ck (Q6f b):=ckT (t:=Q51 b) (by delta Q51;infer_instance)
instance Zj (b:Q07):Ck (Q6u b):=ckT (t:=Q3 b) (by delta Q3;infer_instance)
instance Zmt (m:Q01):Ck (Q8p m):=ckT (t:=Q42 m) (by delta Q42;infer_instance)
instance Zk3 (m:Q01):Ck (Q4n m):=ckT (t:=Q22 m) (by delta Q22;infer_instance)
instance machine_Idle_ck (m:Q01):Ck (Q3f m):=ckT (t:=Q3a m) (by delta Q3a;infer_instance)
instance machine_runs_ck (m:Q01):Ck (Q79 m):=ckT (t:=Q3u m) (by delta Q3u;infer_instance)
instance Zmy (m:Q01):Ck (Q6d m):=ckT (t:=Q2o m) (by delta Q2o;infer_instance)
instance balloon_In_ck (b:Q07) (port:Int):Ck (Qc9 b port):=ckT (t:=Q7m b port) (by delta Q7m;infer_instance)
instance Zhj (m:Q01) (port:Int) (clock:Int):Ck (Q5n m port clock):=ckT (t:=Q2l m port clock) (by delta Q2l;infer_instance)
instance memory_text_ck (words:(List Int)):Ck (Q45 words):=let d:Decidable (Q45 words):=(by delta Q45;infer_instance);⟨@decide _ d,@of_decide_eq_true _ d⟩
instance memory_Page_ck (m:(List Int)) (frame:Int):Ck (Q6v m frame):=ckT (t:=Q3y m frame) (by delta Q3y;infer_instance)
instance disk_issue_ck (d0:Q0e) (m:(List Int)) (cmd:Int) (at0:Int):Ck (Qc1 d0 m cmd at0):=ckT (t:=Q7j d0 m cmd at0) (by delta Q7j;infer_instance)
instance disk_Out_ck (d0:Q0e) (m:(List Int)) (port:Int) (v:Int) (at0:Int):Ck (Qfr d0 m port v at0):=ckT (t:=Qb3 d0 m port v at0) (by delta Qb3;infer_instance)
instance nic_send_ck (n:Q0n) (m:(List Int)) (at0:Int):Ck (Qg n m at0):=ckT (t:=Qbe n m at0) (by delta Qbe;infer_instance)
instance nic_Out_ck (n:Q0n) (m:(List Int)) (port:Int) (v:Int) (at0:Int):Ck (Qje n m port v at0):=ckT (t:=Qdk n m port v at0) (by delta Qdk;infer_instance)
instance Zkn (m:(List Int)) (frame:Int) (s:(List UInt8)):Ck (Q3w m frame s):=ckT (t:=Q2d m frame s) (by delta Q2d;infer_instance)
instance Zmi (s:(List UInt8)) (count:Int):Ck (Q37 s count):=let d:Decidable (Q37 s count):=(by delta Q37;infer_instance);⟨@decide _ d,@of_decide_eq_true _ d⟩
instance balloon_Out_ck (b:Q07) (m:(List Int)) (port:Int) (v:Int):Ck (Qay b m port v):=ckT (t:=Q2z b m port v) (by delta Q2z;infer_instance)
instance Zey (m:Q01) (port:Int) (v:Int) (at0:Int):Ck (Q4z m port v at0):=ckT (t:=Q2a m port v at0) (by delta Q2a;infer_instance)
instance machine_Step_ck (m:Q01) (clock:Int):Ck (Q3j m clock):=ckT (t:=Q3b m clock) (by delta Q3b;infer_instance)
instance make_Round_ck (n:Int) (k:Int):Ck (Q1h n k):=ckT (t:=Qd5 n k) (by delta Qd5;infer_instance)
instance make_Inst_ck (n:Int):Ck (Q7q n):=ckT (t:=Qct n) (by delta Qct;infer_instance)
instance make_Code_ck (l:(List Int)):Ck (Qbi l):=ckT (t:=Qad l) (by delta Qad;infer_instance)
instance ref1_New_ck (pages:Int):Ck (Qa9 pages):=ckT (t:=Qd9 pages) (by delta Qd9;infer_instance)
instance ref7_New_ck (pages:Int) (blocks:Int) (image:(List Int)):Ck (Q7i pages blocks image):=ckT (t:=Q8d pages blocks image) (by delta Q8d;infer_instance)
instance Zl0 (a:(List Int)) (b:(List Int)):Ck (Q2k a b):=let d:Decidable (Q2k a b):=(by delta Q2k;infer_instance);⟨@decide _ d,@of_decide_eq_true _ d⟩
instance ref7_Same_ck (a:Q01) (b:Q01):Ck (Qdt a b):=ckT (t:=Qar a b) (by delta Qar;infer_instance)
instance Zdu (m:Q01):Ck (Q2j m):=ckT (t:=Q2g m) (by delta Q2g;infer_instance)
instance console_Type_ck (c:Q0c) (b:Int):Ck (Qgy c b):=ckT (t:=Q81 c b) (by delta Q81;infer_instance)
instance Zmu (d0:Q0e) (m:(List Int)) (e:Q06):Ck (Qev d0 m e):=ckT (t:=Q52 d0 m e) (by delta Q52;infer_instance)
instance nic_Receive_ck (n:Q0n) (m:(List Int)) (frame:(List UInt8)):Ck (Qin n m frame):=ckT (t:=Q7l n m frame) (by delta Q7l;infer_instance)
instance Zn0 (m:Q01) (e:Q06):Ck (Qbd m e):=ckT (t:=Q39 m e) (by delta Q39;infer_instance)
instance Qr9 (s:(List Q0q)):Ck (Q10 s):=let d:Decidable (Q10 s):=(by delta Q10;infer_instance);⟨@decide _ d,@of_decide_eq_true _ d⟩
instance Qrl (s:(List Q06)):Ck (Q1 s):=let d:Decidable (Q1 s):=(by delta Q1;infer_instance);⟨@decide _ d,@of_decide_eq_true _ d⟩
instance Zmz (r:Q00):Ck (Q4l r):=ckT (t:=Q6m r) (by delta Q6m;infer_instance)
instance record_New_ck (m:Q01):Ck (Q9q m):=ckT (t:=Qa4 m) (by delta Qa4;infer_instance)
instance Zn6 (r:Q00) (e:Q06):Ck (Q2y r e):=ckT (t:=Q6s r e) (by delta Q6s;infer_instance)
instance record_Cut_ck (r:Q00):Ck (Q6b r):=ckT (t:=Qae r) (by delta Qae;infer_instance)
instance Zho (e:Q06) (fr0:Q00):Ck (Q89 e fr0):=ckT (t:=Q3x e fr0) (by delta Q3x;infer_instance)
instance Zex (e:Q06) (fr0:Q00):Ck (Qaq e fr0):=ckT (t:=Q3k e fr0) (by delta Q3k;infer_instance)
instance Zhx (e:Q06) (fr0:Q00):Ck (Q8c e fr0):=ckT (t:=Q44 e fr0) (by delta Q44;infer_instance)
instance Zlx (r:Q00) (steps:Int) (clock:Int):Ck (Q35 r steps clock):=ckT (t:=Q3h r steps clock) (by delta Q3h;infer_instance)
theorem awake_pre:Q2c:=ck (ckT (t:=Qdi) (by delta Qdi;infer_instance)) (by kernel_rfl)
theorem Zmo:Q5h=true:=by kernel_rfl
end
theorem Zl2(w:Int):IntKind.wrap .i64 (Q2 w).1.Imm=(Q2 w).1.Imm:=by
 show Tree.V (Q7k w) (λr=>IntKind.wrap .i64 r.1.Imm=r.1.Imm)
 have e: ∀x,IntKind.wrap .i64 (IntKind.wrap .i32 x)=IntKind.wrap .i32 x:=λx=>by rw[IntKind.wrap_i64,IntKind.wrap_i32];omega
 unfold Q7k
 refine v_lv λx0 _=> ?_
 have l: ∀i:Q0h,IntKind.wrap .i64 i.Imm=i.Imm→Tree.V (Tree.lv (Q8j i) λx=> .br (!x) (.lf ((⟨0,0,0,0,0⟩:Q0h),false)) (.lf (i,true))) (λr=>IntKind.wrap .i64 r.1.Imm=r.1.Imm):=λi hi=>v_lv λx hx=>v_br (λ_=>v_lf rfl) (λhb=>v_lf hi)
 exact v_br (λ_=>v_lf rfl) (λ_=>v_br (λ_=>l _ rfl) (λ_=>v_br (λ_=>l _ (e _)) (λ_=>v_br (λ_=>l _ (e _)) (λ_=>l _ (e _)))))
def ioP(e:Q14):Bool:=bif e.B8==1 then e.D0==2 else false
def readsC(c:Q02)(m:List Int):Bool:=
 bif iand .u32 c.B5.a0 1==0 then false else bif(Q1e m c.Pc 4).2 then bif(Q2 (Q1e m c.Pc 4).1).2 then bif(Q2 (Q1e m c.Pc 4).1).1.Op==60 then(Q2 (Q1e m c.Pc 4).1).1.Imm==2 else false else false else false
theorem reads_def(m:Q01):Qkt m=readsC (Q0l m) m.Mem:=rfl
theorem sys_io(c:Q02)(i:Q0h):ioP (Qi7 c i).2=(bif i.Op==60 then IntKind.wrap .i64 i.Imm==2 else false):=by
 show Tree.V (Q91 c i) (λr=>ioP r.2=_)
 have no: ∀{k:Int},i.Op=k→k≠60→ ∀e:Q14,e.B8≠1→ioP e=(bif i.Op==60 then IntKind.wrap .i64 i.Imm==2 else false):=λh g e he=>by
   unfold ioP
   rw[h,show(_==(60:Int))=false from beq_false_of_ne g,show(e.B8==1)=false from beq_false_of_ne he];rfl
 have eq: ∀{k:Int},(i.Op==k)=true→i.Op=k:=λh=>eq_of_beq h
 unfold Q91
 refine v_br (λh=>v_lv λ_ _=>v_lf (no (eq h) (by decide) _ (show(0:Int)≠1 by decide))) λ_=>v_br (λh=>v_lv λ_ _=>v_lf (no (eq h) (by decide) _ (show(0:Int)≠1 by decide))) λ_=>v_br (λh=>v_cn (v_an (v_lv λ_ _=>v_lf (no (eq h) (by decide) _ (show(0:Int)≠1 by decide))))) λ_=>v_br (λh=>v_cn (v_an (v_lv λ_ _=>v_lf (no (eq h) (by decide) _ (show(0:Int)≠1 by decide))))) λ_=>v_br (λh=>v_lf ?_) λh60=> ?_
 · show(bif(1:Int)==1 then IntKind.wrap .i64 i.Imm==2 else false)=_
   rw[h];rfl
 · have n60:i.Op≠60:=λe=>by rw[e]at h60;cases h60
   refine v_br (λh=>v_cn (v_lf (no (eq h) (by decide) _ (by show(2:Int)≠1;decide)))) λ_=>v_br (λh=>v_lf (no (eq h) (by decide) _ (show(3:Int)≠1 by decide))) λ_=>v_br (λh=>v_lf (no (eq h) (by decide) _ (show(5:Int)≠1 by decide))) λ_=>v_br (λh=>v_lf (no (eq h) (by decide) _ (show(4:Int)≠1 by decide))) λ_=>v_lf (no rfl n60 _ (show(0:Int)≠1 by decide))
theorem post_io(c:Q02)(m:List Int)(i:Q0h):ioP (Qjs c m i).2.1=(bif i.Op==60 then IntKind.wrap .i64 i.Imm==2 else false):=by
 unfold Qjs
 cases h:decide (i.Op≥56)
 · have h:=of_decide_eq_false h
   rw[show(i.Op==60)=false from beq_false_of_ne (by omega)]
   cases decide (i.Op≥40)<;>cases decide (i.Op≥32)<;>cases i.Op==24<;>cases decide (i.Op≤13)<;>rfl
 · exact sys_io c i
theorem do_reads{P:Nat}{m:List Int}(h:Q12 P m){c:Q02}(hc:Q2q c)(hst:c.B5.a0≤31):ioP (Q9b c m).2.1=readsC c m:=by
  rw[do_eq]
  unfold readsC
  cases hk:iand .u32 c.B5.a0 1==0
  · have hp:Qlr c=false:=by
      rw[Z5l hc.a0.1 hst,show Qb8 c=true from by show(iand .u32 c.B5.a0 1 !=0)=true;rw[bne,hk];rfl]
      rfl
    have wi:=Qhp h hc.pc (size:=4) (.inr rfl)
    have kn:Qf3 1=true:=rfl
    have p0:=hc.pc.1
    have tm:Int.tmod c.Pc (IntKind.wrap .u32 4)=c.Pc%4:=by
      rw[show IntKind.wrap .u32 4=4 from rfl,Int.tmod_eq_emod_of_nonneg p0]
    have rc:Q15 c m c.Pc 4 1=bif c.Pc%4 !=0 then(0,3,m) else bif !Q27 m c.Pc 4 then(0,Q25 1,m) else(c.Pc,0,m):=by
      simp only[Q15,Q8t,Tree.m,letv,kn,hp,tm]
      rfl
    rw[rc]
    cases h4:(c.Pc%4 !=0)
    · cases hw:Q27 m c.Pc 4
      · have l2:(Q1e m c.Pc 4).2=false:=by
          simp only[Q1e,Q4o,Tree.m,letv,hw];rfl
        rw[l2]
        show ioP (doR c (0,Q25 1,m) _ _).2.1=false
        unfold doR
        rw[show((0,Q25 1,m):Int×Int×List Int).2.1=Q25 1 from rfl,show(Q25 1 !=0)=true by decide]
        rfl
      · have l2:(Q1e m c.Pc 4).2=true:=by
          simp only[Q1e,Q4o,Tree.m,letv,hw];rfl
        rw[l2]
        show ioP (doR c (c.Pc,0,m) (Q1e m c.Pc 4).1 (Q2 (Q1e m c.Pc 4).1)).2.1=_
        have im:=Zl2 (Q1e m c.Pc 4).1
        generalize Q1e m c.Pc 4=x at*
        generalize Q2 x.1=d at*
        unfold doR
        cases d.2
        · rfl
        · rw[hk]
          have:=post_io c m d.1
          rw[im]at this
          cases Q46 d.1.Op<;>exact this
    · have hw:Q27 m c.Pc 4=false:=by
        rw[wi]
        refine decide_eq_false λe=> ?_
        rw[e.1]at h4;cases h4
      have l2:(Q1e m c.Pc 4).2=false:=by
        simp only[Q1e,Q4o,Tree.m,letv,hw];rfl
      rw[l2];rfl
  · have us : ∀x w d,ioP (doR c x w d).2.1=false:=λx w d=>by
      unfold doR
      cases x.2.1 !=0
      · cases d.2
        · rfl
        · cases hp:Q46 d.1.Op
          · have:=post_io c x.2.2 d.1
            rw[show(d.1.Op==60)=false from beq_false_of_ne λe=>by rw[e]at hp;cases hp]at this
            exact this
          · rw[hk];rfl
      · rfl
    exact us _ _ _
theorem Zlu{m:Q01}(h:okV m):Q7h m=Q4 m:=by
 have rd:Q4 m=bif Q1c m then false else Qkt m:=rfl
 have pd:Q7h m=bif !Q36 m then false else ioP (Q9a (Q0y m).B2 (Q0y m).Mem).2.2:=rfl
 rw[rd,pd,Qrs h]
 cases hs:Q1c m
 · have hr:Q36 m=true:=by rw[Qrs h,hs];rfl
   obtain⟨hm,hh,hct⟩:=Qz6 hr
   obtain⟨g1,g2,g3,g4,g5⟩:=(Qos m).1 hm
   rcases(Qnb m.Mem h.mem).2 with c|⟨P,hP,hmem⟩
   · exact absurd c g1
   have okm:okS P m:=⟨h.cpu,hmem,h.disk,h.nic,h.bal.1,h.bal.2⟩
   obtain⟨b1,b2,b3,_⟩:=(Tree.pp (Z27 okm g2)).2
   change Q86 (Q0y m).B2 at b1
   change okS P (Q0y m) at b2
   have be:=Z58 h g2.st
   have b1':Q86 (Q0l m):=by have:=b1;rw[be]at this;exact this
   have b2':Q2q (Q0l m):=by have:=b2.cpu;rw[be]at this;exact this
   have ex:=Zcr hmem b2' b1'.st
   rw[be,reads_def,←do_reads hmem b2' b1'.st]
   show ioP (Q9a (Q0l m) m.Mem).2.2=_
   rw[ex];rfl
 · rfl
theorem fin_no(d:Q0e)(m:List Int)(e:Q06):(Q98 d m e).2.1=false→Q98 d m e=(d,false,m):=by
 show Tree.V (Q7u d m e) (λr=>r.2.1=false→r=(d,false,m))
 have no: ∀{p:Prop},true=false→p:=λh=>by cases h
 unfold Q7u
 repeat'(first
   |exact v_lf λ_=>rfl
   |exact v_lf no
   |exact v_an (v_lv λ_ _=>v_lf no)
   |refine v_lv λ_ _=> ?_
   |refine v_an ?_
   |refine v_br (λ_=> ?_) (λ_=> ?_))
theorem acc_no(n:Q0n)(m:List Int)(s:List UInt8):(Q92 n m s).2.1=false→Q92 n m s=(n,false,m):=by
 show Tree.V (Q7z n m s) (λr=>r.2.1=false→r=(n,false,m))
 have no: ∀{p:Prop},true=false→p:=λh=>by cases h
 unfold Q7z
 repeat'(first
   |exact v_lf λ_=>rfl
   |exact v_an (v_lv λ_ _=>v_lf no)
   |refine v_lv λ_ _=> ?_
   |refine v_br (λ_=> ?_) (λ_=> ?_))
theorem fire_no(t:Q0f):(Ql1 t).2=false→(Ql1 t).1=t:=by
 show Tree.V (Qmi t) (λr=>r.2=false→r.1=t)
 have no: ∀{p:Prop},true=false→p:=λh=>by cases h
 unfold Qmi
 repeat'(first
   |exact v_lf λ_=>rfl
   |exact v_lf no
   |refine v_br (λ_=> ?_) (λ_=> ?_))
theorem type_no(c:Q0c)(b:Int):(Qln c b).2=false→(Qln c b).1=c:=by
 show Tree.V (Qcu c b) (λr=>r.2=false→r.1=c)
 have no: ∀{p:Prop},true=false→p:=λh=>by cases h
 unfold Qcu
 exact v_br (λ_=>v_lf λ_=>rfl) (λ_=>v_cn (v_lf no))
theorem app_no(m:Q01)(e:Q06):(Q1i m e).1=false→(Q1i m e).2=m:=by
 show Tree.V (Q7v m e) (λr=>r.1=false→r.2=m)
 have no: ∀{p:Prop},true=false→p:=λh=>by cases h
 unfold Q7v
 repeat'(first
   |exact v_lf λ_=>rfl
   |exact v_lf no
   |exact v_lv λx hx=>v_lf λh=>by rw[hx]at h⊢;rw[fire_no _ h]
   |exact v_an (v_lv λx hx=>v_lf λh=>by rw[hx]at h⊢;rw[fin_no _ _ _ h])
   |exact v_an (v_lv λx hx=>v_lf λh=>by rw[hx]at h⊢;rw[acc_no _ _ _ h])
   |exact v_an (v_lv λx hx=>v_lf λh=>by rw[hx]at h⊢;rw[type_no _ _ h])
   |refine v_br (λ_=> ?_) (λ_=> ?_))
theorem midle_w{m:Q01}(h:U m.A1.C5):Q3f m:=by
 show(Q3a m).p
 unfold Tree.p Q3a
 refine w_br (λ_=>w_an ?_ (w_lv λ_ _=>trivial)) (λ_=>trivial)
 show(Q22 m).p
 unfold Tree.p Q22
 exact Q0b (Zjm h) λ_ _=>trivial
theorem reads_w0{P:Nat}{m:Q01}(h:okS P m):(Q2g m).w (λ_=>True):=by
 unfold Q2g
 exact Q0b (Zhl h.given) λ_ _=>w_br (λ_=>trivial) (λ_=>Q0b (beginP_w h) λx1 h1=>Q0b (execP_w h1.cpu h1.mem) λx2 _=>w_br (λ_=>trivial) (λ_=>trivial))
theorem Zls{e:Q06}(h:U e.N):Qfd e=Qau e:=by
 obtain⟨h0,h1⟩:=h
 have d: ∀b:Bool,(bif e.N==1 then(bif decide (e.C6=[]) then true else b) else(bif e.N==0 then decide (e.C6=[]) else false))=(bif decide (e.N≤1) then(bif decide (e.C6=[]) then true else(bif e.N==1 then b else false)) else false):=λb=>by
   rcases(by omega:e.N=0∨e.N=1∨2≤e.N) with k|k|k
   · rw[k];cases decide (e.C6=[])<;>rfl
   · rw[k];cases decide (e.C6=[])<;>rfl
   · rw[show(e.N==1)=false from beq_false_of_ne (by omega),show(e.N==0)=false from beq_false_of_ne (by omega),decide_eq_false (show¬e.N≤1 by omega)];rfl
 simp only[Qfd,Qgl,Qau,Qlz,Tree.m,d]
theorem Qna(r:Q00):Qbh r=r:=rfl
theorem Qkr{r:Q00}(hm:r.A0.Mem.length≤1024)(hl:r.B9.length≤1000000)(hq:r.A2.length≤1000000):Q4l r:=by
 show(Q6m r).p
 unfold Tree.p Q6m
 exact w_an (by show r.A0.Mem.length≤35184372088832;omega) (w_lv λ_ _=>w_an (by show r.B9.length≤3518437208883;omega) (w_lv λ_ _=>w_an (by show r.A2.length≤3518437208883;omega) (w_lv λ_ _=>trivial)))
section
variable {P:Nat} {m:Q01} (h:good P m)
include h
theorem good.len:m.Mem.length≤1024:=by have:=h.ok.mem.len;have:=h.ok.mem.p2;omega
theorem good.app(e:Q06):Q93 m e=((Q1i m e).2,(Q1i m e).1):=by
 rw[Z6x h.v]
 simp only[Ql7,Qk9,Tree.m,letv,Z6z,h.rmay];rfl
theorem good.step(hs:Q1c m=false)(clock:Int):Q3m m clock=((Q0u m clock).2,(Q0u m clock).1):=by
 rw[Zbl h.v,Za5,hs];rfl
theorem good.idle:Q7y m=Qdv m:=Zeg h.v
end
theorem rlog_w(e:Q06){r:Q00}(hl:r.B9.length≤1000000):(Q3x e r).w (λx=>x={A0:=r.A0,B0:=r.B0,B9:=r.B9++[{At:=r.A0.A6,D8:=e}],A2:=r.A2}):=by
 unfold Q3x
 exact w_cn (decide_eq_true (by omega)) rfl
theorem rlogR_w(e:Q06){r:Q00}(hl:r.B9.length≤1000000):(Q3k e r).w (λx=>x={A0:=r.A0,B0:=r.B0,B9:=r.B9++[{At:=r.A0.A6,D8:=e}],A2:=r.A2}):=by
 unfold Q3k
 exact w_cn (decide_eq_true (by omega)) rfl
theorem Zi5{P:Nat}{r:Q00}(h:good P r.A0){e:Q06}(he:U e.N)(hl:r.B9.length≤1000000):(Q44 e r).w (λx=>x=Q5b r e):=by
 unfold Q44
 refine w_an (Zll h.v h.len he) (w_lv λx0 e0=> ?_)
 rw[h.app]at e0
 refine w_br (λhb=>Q0b (rlogR_w e (r:=⟨x0.1,r.B0,r.B9,r.A2⟩) hl) λx1 e1=> ?_) (λhb=> ?_)
 · have hb:(Q1i r.A0 e).1=true:=by rw[e0]at hb;exact hb
   show x1=_
   unfold Q5b
   rw[e1,hb,e0];rfl
 · have hb:(Q1i r.A0 e).1=false:=by rw[e0]at hb;exact hb
   show r=_
   unfold Q5b
   rw[hb,app_no _ _ hb];rfl
theorem Quk(r:Q00)(e:Q06):(Q5b r e).B9.length≤r.B9.length+1:=by
 unfold Q5b
 cases(Q1i r.A0 e).1
 · exact Nat.le_succ _
 · show(r.B9++[_]).length≤_
   rw[List.length_append,List.length_singleton];omega
theorem Zbj(r:Q00):(Q3i r).B9.length≤r.B9.length+1:=by
 unfold Q3i
 cases Qhb r.A0.A9 r.B0
 · exact Nat.le_succ _
 · exact Quk _ _
theorem readF_log(r:Q00):(Z92 r).B9.length≤r.B9.length+1:=by
 unfold Z92
 cases Q4 r.A0
 · exact Nat.le_succ _
 · show(r.B9++[_]).length≤_
   rw[List.length_append,List.length_singleton];omega
theorem Zk6{P:Nat}{m:Q01}(h:good P m):Q1c m=bif m.A7 then true else bif Q7y m then true else m.A6==1152921504606846976:=by
 have hc:=((Qos m).1 h.may).2.2.1
 have e:decide (m.A6≥1152921504606846976)=(m.A6==1152921504606846976):=by
   by_cases g:m.A6=1152921504606846976
   · rw[g];rfl
   · rw[show(m.A6==1152921504606846976)=false from beq_false_of_ne g,decide_eq_false (by omega)]
 rw[h.idle,←e]
 simp only[Q1c,Q8u,Tree.m,letv,h.rmay];rfl
theorem tick_read{r:Q00}(hr:Q4 r.A0=true):Qre r={A0:=(Q0u r.A0 r.B0).2,B0:=IntKind.wrap .u32 (r.B0+1),B9:=r.B9++[{At:=r.A0.A6,D8:={B8:=1,N:=r.B0,C6:=[]}}],A2:=r.A2}:=by
 unfold Qre Z92;rw[hr];rfl
theorem tick_no{r:Q00}(hr:Q4 r.A0=false):Qre r={A0:=(Q0u r.A0 r.B0).2,B0:=IntKind.wrap .u32 (r.B0+1),B9:=r.B9,A2:=r.A2}:=by
 unfold Qre Z92;rw[hr];rfl
theorem Zee(r:Q00):(Qre r).B9.length≤r.B9.length+1:=readF_log r
theorem Zm6{n:Nat}{r:Q00}{o:List Q04}(hs:Q1c (Q3i r).A0=true):recF (n+1) r o=(Q3i r,o):=by
 conv=>lhs;unfold recF
 rw[hs];rfl
theorem recF_go{n:Nat}{r:Q00}{o:List Q04}(hs:Q1c (Q3i r).A0=false):recF (n+1) r o=recF n (Qre (Q3i r)) (o++(Q0u (Q3i r).A0 (Q3i r).B0).1):=by
 conv=>lhs;unfold recF
 rw[hs];rfl
theorem advF_may{r:Q00}(h:Q5x r.A0=true)(steps clock:Int):advF r steps clock=recF (Q0m steps).toNat (noQ (r.A2.foldl Q5b {A0:=r.A0,B0:=if clock>r.B0 then clock else r.B0,B9:=r.B9,A2:=r.A2})) []:=by
 unfold advF;rw[h];rfl
theorem radv_w{P:Nat}{k:Int}{r:Q00}(h:Qed P k r)(steps:Int){clock:Int}(hc:U clock)(hl:r.B9.length≤900000)(hq:r.A2.length≤1000)(hu: ∀q∈r.A2,U q.N):
    (Q3h r steps clock).w (λx=>x=advF r steps clock):=by
  obtain⟨lim0,lim1⟩:=Qkq steps
  have lim:(if 4000<(if 0>steps then 0 else steps) then 4000 else(if 0>steps then 0 else steps))=Q0m steps:=rfl
  have hA:=advF_may h.m.rmay steps clock
  unfold Q3h
  refine w_an (Qkr h.m.len (by omega) (by omega)) (w_lv λx0 e0=> ?_)
  rw[Qna]at e0
  subst e0
  refine w_an (Tree.pp (Zbv h.m.ok.target.2)).1 (w_lv λx1 e1=>w_br (λhb=>by rw[e1,h.m.may]at hb;cases hb) λhb=> ?_)
  have hcl:U (if clock>x0.B0 then clock else x0.B0):=by split<;>first|exact hc|exact h.clock
  generalize hr0:({A0:=x0.A0,B0:=if clock>x0.B0 then clock else x0.B0,B9:=x0.B9,A2:=x0.A2}:Q00)=r0 at*
  have hQ:r0.A2=x0.A2:=by rw[←hr0]
  have hL:r0.B9=x0.B9:=by rw[←hr0]
  have g0:Qed P k r0:=by rw[←hr0];exact⟨h.m,hcl,h.cnt⟩
  refine w_lp (inv:=λz:Int×Q00=>0≤z.1∧z.1≤x0.A2.length∧z.2.A2=x0.A2∧Qed P k z.2∧(z.2.B9.length:Int)≤x0.B9.length+z.1∧(x0.A2.drop z.1.toNat).foldl Q5b z.2=x0.A2.foldl Q5b r0) (μ:=Qh0 x0 steps clock) ⟨Int.le_refl 0,by show(0:Int)≤_;omega,hQ,g0,by rw[hL];omega,rfl⟩ (Nat.lt_succ_self _) λz ⟨z0,z1,z2,z3,z4,z5⟩=> ?_
  refine w_br (λhb=> ?_) (λhb=> ?_)
  · have hb:=of_decide_eq_true hb
    have hlt:z.1.toNat<x0.A2.length:=by omega
    have ed:x0.A2.getD z.1.toNat (RK.dflt RK.apiEvent)=x0.A2[z.1.toNat]:=by rw[List.getD_eq_getElem?_getD,List.getElem?_eq_getElem hlt];rfl
    have hm:x0.A2.getD z.1.toNat (RK.dflt RK.apiEvent)∈x0.A2:=by rw[ed];exact List.getElem_mem hlt
    refine w_cn (by simp [Nat.blt];omega) (Q0b (Zi5 z3.m (hu _ hm) (by omega)) λx2 e2=>w_nx ?_)
    have ew:IntKind.i64.wrap (z.1+1)=z.1+1:=by rw[IntKind.wrap_i64];omega
    have q2:x2.A2=x0.A2:=by rw[e2,Qjt,z2]
    have l2:=Quk z.2 (x0.A2.getD z.1.toNat (RK.dflt RK.apiEvent))
    rw[←e2]at l2
    have g2:=(Qqs z3 (hu _ hm)).1
    rw[←e2]at g2
    show(0≤IntKind.i64.wrap (z.1+1)∧IntKind.i64.wrap (z.1+1)≤x0.A2.length∧x2.A2=x0.A2∧Qed P k x2∧(x2.B9.length:Int)≤x0.B9.length+IntKind.i64.wrap (z.1+1)∧(x0.A2.drop (IntKind.i64.wrap (z.1+1)).toNat).foldl Q5b x2=_)∧(x2.A2.length-IntKind.i64.wrap (z.1+1)).toNat<(z.2.A2.length-z.1).toNat
    rw[ew,q2,z2]
    refine⟨⟨by omega,by omega,rfl,g2,by omega,?_⟩,by omega⟩
    rw[←z5,List.drop_eq_getElem_cons hlt,List.foldl_cons,show(z.1+1).toNat=z.1.toNat+1 by omega,e2,ed]
  · have hb:=of_decide_eq_false hb
    obtain⟨zi,zr⟩:=z
    have hb: ¬zi<x0.A2.length:=hb
    have ze:zr=x0.A2.foldl Q5b r0:=by
      rw[←z5,List.drop_eq_nil_of_le (by show x0.A2.length≤zi.toNat;omega)];rfl
    rw[←ze]at hA
    have z3:Qed P k zr:=z3
    have z4:(zr.B9.length:Int)≤x0.B9.length+zi:=z4
    have z1:zi≤x0.A2.length:=z1
    refine w_lp (inv:=λy:Int×Q00×List Q04=>0≤y.1∧y.1≤Q0m steps∧Qed P (k+y.1) y.2.1∧(y.2.1.B9.length:Int)≤zr.B9.length+2*y.1∧(y.2.2.length:Int)≤y.1∧recF (Q0m steps-y.1).toNat y.2.1 y.2.2=advF x0 steps clock) (μ:=Q8a x0 steps clock (zi,zr)) ⟨Int.le_refl 0,by show(0:Int)≤_;omega,⟨z3.m,z3.clock,by have:=z3.cnt;show zr.A0.A6≤k+0;omega⟩,by show(zr.B9.length:Int)≤_+2*0;omega,Int.le_refl 0,by rw[hA];show recF (Q0m steps-0).toNat _ _=_;rw[Int.sub_zero];rfl⟩ (Nat.lt_succ_self _) λy ⟨y0,y1,y2,y3,y4,y5⟩=> ?_
    obtain⟨yi,yr,yo⟩:=y
    have y0:0≤yi:=y0
    have y1:yi≤Q0m steps:=y1
    have y2:Qed P (k+yi) yr:=y2
    have y3:(yr.B9.length:Int)≤zr.B9.length+2*yi:=y3
    have y4:(yo.length:Int)≤yi:=y4
    change recF (Q0m steps-yi).toNat yr yo=_ at y5
    refine w_br (λhb=> ?_) (λhb=> ?_)
    · have hb:yi<Q0m steps:=of_decide_eq_true hb
      have ew:IntKind.i64.wrap (yi+1)=yi+1:=by rw[IntKind.wrap_i64];omega
      have en:(Q0m steps-yi).toNat=(Q0m steps-(yi+1)).toNat+1:=by omega
      rw[en]at y5
      obtain⟨gf,gc⟩:=Qwc y2
      have lf:=Zbj yr
      have mu: ∀q,Q8a x0 steps clock (zi,zr) (IntKind.wrap .i64 (yi+1),q)<Q8a x0 steps clock (zi,zr) (yi,yr,yo):=λq=>by
        show(4000-IntKind.wrap .i64 (yi+1)).toNat<(4000-yi).toNat
        rw[ew];omega
      have nxt: ∀(x:Q00) (o:List Q04),Q1c (Q3i yr).A0=false→x=Qre (Q3i yr)→o=yo++(Q0u (Q3i yr).A0 (Q3i yr).B0).1→(0≤IntKind.wrap .i64 (yi+1)∧IntKind.wrap .i64 (yi+1)≤Q0m steps∧Qed P (k+IntKind.wrap .i64 (yi+1)) x∧(x.B9.length:Int)≤zr.B9.length+2*IntKind.wrap .i64 (yi+1)∧(o.length:Int)≤IntKind.wrap .i64 (yi+1)∧recF (Q0m steps-IntKind.wrap .i64 (yi+1)).toNat x o=advF x0 steps clock):=λx o hs hx ho=>by
        have t:=Qw1 gf hs
        have lt:=Zee (Q3i yr)
        obtain⟨_,_,a3⟩:=Qsz gf.m hs gf.clock
        rw[ew,hx,ho]
        refine⟨by omega,by omega,⟨t.m,t.clock,by have:=t.cnt;omega⟩,by omega,by rw[List.length_append];omega,?_⟩
        rw[←y5,recF_go hs]
      have stk: ∀(x:Q00),Q1c (Q3i yr).A0=true→x=Q3i yr→(x,yo)=advF x0 steps clock:=λx hs hx=>by
        rw[←y5,Zm6 hs,hx]
      have sg:=Zk6 gf.m
      have cn: ∀(o:List Q04),Q1c (Q3i yr).A0=false→o=(Q0u (Q3i yr).A0 (Q3i yr).B0).1→decide (40*(yo.length+o.length)≤140737488355328)=true:=λo hs ho=>decide_eq_true (by
        obtain⟨_,_,a3⟩:=Qsz gf.m hs gf.clock
        rw[ho];omega)
      have sp:=(stepV_pre gf.m.v gf.m.len (clock:=(Q3i yr).B0) gf.clock).1
      have ms:=λhs=>gf.m.step hs (Q3i yr).B0
      have rs:=Zlu gf.m.v
      have rp:Q2j (Q3i yr).A0:=(Tree.pp (reads_w0 gf.m.s)).1
      have ip:Q3f (Q3i yr).A0:=midle_w gf.m.ok.target.2
      have lw:=λe=>rlog_w e (r:=Q3i yr) (by omega)
      have tr:=tick_read (r:=Q3i yr)
      have tn:=tick_no (r:=Q3i yr)
      have fin: ∀f:Q00,f=Q3i yr→Qed P (k+yi) yr→f=f:=λ_ _ _=>rfl
      refine w_lv λx3 e3=>w_br (λhd=>Q0b (Zi5 y2.m U_0 (by omega)) λx4 e4=> ?_) (λhd=> ?_)
      · have e5:x4=Q3i yr:=by
          have e3:x3=Qhb yr.A0.A9 yr.B0:=e3
          rw[e4];unfold Q3i;rw[←e3,hd];rfl
        rw[←e5]at nxt stk sg cn sp ms rs rp ip lw tr tn
        refine w_br (λhh=>stk _ (by rw[sg,hh];rfl) rfl) λhh=>w_an ip (w_lv λx5 i5=>w_br (λhi=>stk _ (by rw[sg,hh,←i5,hi];rfl) rfl) λhi=>w_br (λhct=>stk _ (by rw[sg,hh,←i5,hi,hct];rfl) rfl) λhct=> ?_)
        have hs:Q1c x4.A0=false:=by rw[sg,hh,←i5,hi,hct];rfl
        refine w_an rp (w_lv λx6 e6=>w_br (λhr=>Q0b (lw _) λx7 e7=> ?_) (λhr=>w_an sp (w_lv λx9 e9=>w_cn (cn _ hs (by rw[e9,ms hs])) (w_nx ⟨nxt _ _ hs (by rw[e9,ms hs,tn (by rw[←rs,←e6,hr])]) (by rw[e9,ms hs]),mu _⟩))))
        subst e7
        refine w_an sp (w_lv λx8 e8=>w_cn (cn _ hs (by rw[e8];exact congrArg Prod.snd (ms hs))) (w_nx ⟨nxt _ _ hs ?_ ?_,mu _⟩))
        · rw[tr (by rw[←rs,←e6,hr]),e8]
          exact congrArg (λq:Q01×List Q04=>({A0:=q.1,B0:=IntKind.wrap .u32 (x4.B0+1),B9:=x4.B9++[{At:=x4.A0.A6,D8:={B8:=1,N:=x4.B0,C6:=[]}}],A2:=x4.A2}:Q00)) (ms hs)
        · rw[e8];exact congrArg (λq:Q01×List Q04=>yo++q.2) (ms hs)
      · have e5:yr=Q3i yr:=by
          have e3:x3=Qhb yr.A0.A9 yr.B0:=e3
          unfold Q3i;rw[←e3,hd];rfl
        rw[←e5]at nxt stk sg cn sp ms rs rp ip lw tr tn
        refine w_br (λhh=>stk _ (by rw[sg,hh];rfl) rfl) λhh=>w_an ip (w_lv λx5 i5=>w_br (λhi=>stk _ (by rw[sg,hh,←i5,hi];rfl) rfl) λhi=>w_br (λhct=>stk _ (by rw[sg,hh,←i5,hi,hct];rfl) rfl) λhct=> ?_)
        have hs:Q1c yr.A0=false:=by rw[sg,hh,←i5,hi,hct];rfl
        refine w_an rp (w_lv λx6 e6=>w_br (λhr=>Q0b (lw _) λx7 e7=> ?_) (λhr=>w_an sp (w_lv λx9 e9=>w_cn (cn _ hs (by rw[e9,ms hs])) (w_nx ⟨nxt _ _ hs (by rw[e9,ms hs,tn (by rw[←rs,←e6,hr])]) (by rw[e9,ms hs]),mu _⟩))))
        subst e7
        refine w_an sp (w_lv λx8 e8=>w_cn (cn _ hs (by rw[e8];exact congrArg Prod.snd (ms hs))) (w_nx ⟨nxt _ _ hs ?_ ?_,mu _⟩))
        · rw[tr (by rw[←rs,←e6,hr]),e8]
          exact congrArg (λq:Q01×List Q04=>({A0:=q.1,B0:=IntKind.wrap .u32 (yr.B0+1),B9:=yr.B9++[{At:=yr.A0.A6,D8:={B8:=1,N:=yr.B0,C6:=[]}}],A2:=yr.A2}:Q00)) (ms hs)
        · rw[e8];exact congrArg (λq:Q01×List Q04=>yo++q.2) (ms hs)
    · have hb: ¬yi<Q0m steps:=of_decide_eq_false hb
      show(yr,yo)=_
      rw[←y5,show(Q0m steps-yi).toNat=0 by omega];rfl
theorem recF_st{n:Nat}{r:Q00}{o:List Q04}(hs:Q1c (Q3i r).A0=true):recF (n+1) r o=(Q3i r,o):=by
 conv=>lhs;unfold recF
 rw[hs];rfl
theorem recF_nx{n:Nat}{r:Q00}{o:List Q04}(hs:Q1c (Q3i r).A0=false):recF (n+1) r o=recF n (Qre (Q3i r)) (o++(Q0u (Q3i r).A0 (Q3i r).B0).1):=by
 conv=>lhs;unfold recF
 rw[hs];rfl
theorem advF_on{r:Q00}(h:Q5x r.A0=true)(steps clock:Int):advF r steps clock=recF (Q0m steps).toNat (noQ (r.A2.foldl Q5b {A0:=r.A0,B0:=if clock>r.B0 then clock else r.B0,B9:=r.B9,A2:=r.A2})) []:=by
 unfold advF;rw[h];rfl
theorem Qxm(a:List Q0q)(ha:a.length≤1000000000000):(Q7t a a).w (λb=>b=true):=by
 unfold Q7t
 refine w_br (λh=>by simp at h) (λ_=> ?_)
 refine w_lp (inv:=λv:Int=>0≤v∧v≤a.length) (μ:=Qej a a) ⟨by omega,by omega⟩ (Nat.lt_succ_self _) λv ⟨h1,h2⟩=> ?_
 refine w_br (λhb=> ?_) (λ_=>rfl)
 have hb:=of_decide_eq_true hb
 have e:IntKind.i64.wrap (v+1)=v+1:=by rw[IntKind.wrap_i64];omega
 refine w_cn (by simp [Nat.blt];omega) (w_cn (by simp [Nat.blt];omega) (w_br (λh=>by simp [eqs,eq1]at h) (λ_=>w_nx ?_)))
 show(_∧_)∧(_:Nat)<_
 exact⟨⟨by rw[e];omega,by rw[e];omega⟩,by show(a.length-IntKind.i64.wrap (v+1)).toNat<(a.length-v).toNat;rw[e];omega⟩
theorem Qza(a:Q00)(hm:a.A0.Mem.length≤1000000000000)(hl:a.B9.length≤1000000000000)(hq:a.A2.length≤1000000000000):(Q5s a a).w (λb=>b=true):=by
 unfold Q5s
 refine Q0b (rsame_w _ hm) λx0 h0=>w_br (λh=>by rw[h0]at h;cases h) λ_=>w_br (λh=>by simp at h) λ_=>Q0b (Qxm _ hl) λx1 h1=>w_br (λh=>by rw[h1]at h;cases h) λ_=>w_br (λh=>by simp at h) λ_=> ?_
 refine w_lp (inv:=λv:Int=>0≤v∧v≤a.A2.length) (μ:=Qda a a) ⟨by omega,by omega⟩ (Nat.lt_succ_self _) λv ⟨h1,h2⟩=> ?_
 refine w_br (λhb=> ?_) (λ_=>rfl)
 have hb:=of_decide_eq_true hb
 have e:IntKind.i64.wrap (v+1)=v+1:=by rw[IntKind.wrap_i64];omega
 refine w_cn (by simp [Nat.blt];omega) (w_cn (by simp [Nat.blt];omega) (w_br (λh=>by simp [eqs,eq1]at h) (λ_=>w_nx ?_)))
 show(_∧_)∧(_:Nat)<_
 exact⟨⟨by rw[e];omega,by rw[e];omega⟩,by show(a.A2.length-IntKind.i64.wrap (v+1)).toNat<(a.A2.length-v).toNat;rw[e];omega⟩
structure Qpy(P:Nat)(k:Int)(r:Q00):Prop where
 g:Qed P k r
 q:okQ r.A2
 l:(r.B9.length:Int)≤3*k
theorem recF_log(n:Nat): ∀(r:Q00) (o:List Q04),(recF n r o).1.B9.length≤r.B9.length+2*n:=by
 induction n with
 |zero=>intro r o;exact Nat.le_refl _
 | succ n ih=>
   intro r o
   have f:=Zbj r
   cases hs:Q1c (Q3i r).A0
   · rw[recF_nx hs]
     have:=ih (Qre (Q3i r)) (o++(Q0u (Q3i r).A0 (Q3i r).B0).1)
     have:=Zee (Q3i r)
     omega
   · rw[recF_st hs]
     show(Q3i r).B9.length≤_
     omega
theorem foldl_log(l:List Q06): ∀r:Q00,(l.foldl Q5b r).B9.length≤r.B9.length+l.length:=by
 induction l with
 |nil=>intro r;exact Nat.le_refl _
 | cons e l ih=>
   intro r
   have:=ih (Q5b r e)
   have:=Quk r e
   rw[List.foldl_cons,List.length_cons];omega
theorem Zih(r:Q00)(steps clock:Int):(advF r steps clock).1.B9.length≤r.B9.length+r.A2.length+8000:=by
 obtain⟨l0,l1⟩:=Qkq steps
 cases hm:Q5x r.A0
 · unfold advF;rw[hm]
   show r.B9.length≤_
   omega
 · rw[advF_on hm]
   have a:=recF_log (Q0m steps).toNat (noQ (r.A2.foldl Q5b {A0:=r.A0,B0:=if clock>r.B0 then clock else r.B0,B9:=r.B9,A2:=r.A2})) []
   have b:=foldl_log r.A2 {A0:=r.A0,B0:=if clock>r.B0 then clock else r.B0,B9:=r.B9,A2:=r.A2}
   have b:(noQ (r.A2.foldl Q5b {A0:=r.A0,B0:=if clock>r.B0 then clock else r.B0,B9:=r.B9,A2:=r.A2})).B9.length≤r.B9.length+r.A2.length:=b
   omega
theorem recF_outs{P:Nat}(n:Nat): ∀{k:Int} {r:Q00} (o:List Q04),Qed P k r→(recF n r o).2.length≤o.length+n:=by
 induction n with
 |zero=>intro k r o _;exact Nat.le_refl _
 | succ n ih=>
   intro k r o h
   obtain⟨f,_⟩:=Qwc h
   cases hs:Q1c (Q3i r).A0
   · rw[recF_nx hs]
     have:=ih (o++(Q0u (Q3i r).A0 (Q3i r).B0).1) (Qw1 f hs)
     obtain⟨_,_,a3⟩:=Qsz f.m hs f.clock
     rw[List.length_append]at this
     omega
   · rw[recF_st hs]
     show o.length≤_
     omega
theorem Zgw{P:Nat}{k:Int}{r:Q00}(h:Qed P k r)(hu: ∀q∈r.A2,U q.N){clock:Int}(hc:U clock):Qed P k (noQ (r.A2.foldl Q5b {A0:=r.A0,B0:=if clock>r.B0 then clock else r.B0,B9:=r.B9,A2:=r.A2})):=by
 have hcl:U (if clock>r.B0 then clock else r.B0):=by split<;>first|exact hc|exact h.clock
 obtain⟨a,b⟩:=Z70 r.A2 (r:={A0:=r.A0,B0:=if clock>r.B0 then clock else r.B0,B9:=r.B9,A2:=r.A2}) ⟨h.m,hcl,h.cnt⟩ hu
 exact⟨a.m,a.clock,a.cnt⟩
theorem advP{P:Nat}{k:Int}{r:Q00}(h:Qpy P k r)(steps:Int){clock:Int}(hc:U clock):Qpy P (k+4000) (advF r steps clock).1:=by
 obtain⟨a,b⟩:=advF_keep h.g h.q steps hc
 have c:=Zih r steps clock
 have d:=h.q.1
 have e:=h.l
 exact⟨a,b,by omega⟩
theorem arriveP{P:Nat}{k:Int}{r:Q00}(h:Qpy P k r){e:Q06}(he:U e.N):Qpy P k (Q24 r e).1:=by
 obtain⟨a,b⟩:=Zfr h.g h.q he
 refine⟨a,b,?_⟩
 have:=h.l
 rw[Qav]
 cases Qau e<;>cases e.B8==1<;>cases decide ((r.A2.length:Int)≥16)<;>exact this
theorem Qpy.more{P:Nat}{k j:Int}{r:Q00}(h:Qpy P k r)(hj:k≤j):Qpy P j r:=
 ⟨⟨h.g.m,h.g.clock,by have:=h.g.cnt;omega⟩,h.q,by have:=h.l;omega⟩
theorem more_P{P:Nat}{k:Int}{A:Q00×Bool}(h:Qpy P k A.1):Qpy P (k+4000) (A.1,([]:List Q04)).1:=h.more (by omega)
theorem mstepP{P:Nat}{k:Int}{r:Q00}(h:Qpy P k r)(n:Int):Qpy P (k+4000) (Q9i r n).1:=by
 cases hm:Int.tmod (Qch n 3) 3==0
 · rw[mstep_ad hm,Zjq _ _ _ (by have:=h.q.1;omega)]
   exact advP h _ (Q0s _)
 · rw[mstep_ev hm]
   exact more_P (arriveP h (Zfm n))
theorem fst_mk{α β:Type}(a:α)(b:β):(a,b).1=a:=rfl
theorem playF_fst(s:Q00×List Q04)(n:Int):(Qtm s n).1=(Q9i s.1 n).1:=(congrArg Prod.fst (playF_def s n)).trans (fst_mk _ _)
theorem playP{P:Nat}(l:List Int){k:Int}{s:Q00×List Q04}(h:Qpy P k s.1):Qpy P (k+4000*l.length) (l.foldl Qtm s).1:=
 fold_keep (f:=Qtm) (I:=λk s=>Qpy P k s.1) (λk s n h=>by rw[playF_fst];exact mstepP h n) l k s h
theorem newP{P:Nat}{m:Q01}(h:good P m)(hc:m.A6≤87):Qpy P 87 {A0:=m,B0:=0,B9:=[],A2:=[]}:=
 ⟨⟨h,U_0,hc⟩,⟨Nat.zero_le _,λq hq=>by cases hq⟩,by show((0:Nat):Int)≤_;omega⟩
theorem few_lens{l acts:List Int}{x0:Bool}(hx0:x0=Qu1 l acts)(hb:(!x0)=false):l.length≤40∧acts.length≤30:=few_two hx0 hb
theorem rnew_w{m:Q01}(h:m.Mem.length≤1024):(Qa4 m).w (λx=>x={A0:=m,B0:=0,B9:=[],A2:=[]}):=by
 unfold Qa4
 refine w_an (Qkr (r:=⟨m,0,[],[]⟩) h (Nat.zero_le _) (Nat.zero_le _)) (w_lv λx hx=> ?_)
 show x=_
 rw[hx,Qna]
theorem rarrive_w{r:Q00}(hm:r.A0.Mem.length≤1024)(hl:r.B9.length≤1000000)(hq:r.A2.length≤1000000){e:Q06}(he:U e.N):(Q6s r e).w (λx=>x=Q24 r e):=by
 have hv:=Zls he
 unfold Q6s
 refine w_an (Qkr hm hl hq) (w_lv λx0 h0=>w_lv λx1 h1=> ?_)
 rw[Qna]at h0
 subst h0
 rw[h1,hv]
 refine w_br (λhb=> ?_) λhb=>w_br (λhk=> ?_) λhk=>w_br (λhl=> ?_) λhl=>w_cn (decide_eq_true (by omega)) ?_
 · show(x0,false)=_;rw[Qav,hb];rfl
 · show(x0,false)=_;rw[Qav,hb,hk];rfl
 · show(x0,false)=_;rw[Qav,hb,hk,hl];rfl
 · show(_,true)=_;rw[Qav,hb,hk,hl];rfl
theorem rcut_w{r:Q00}(hm:r.A0.Mem.length≤1024)(hl:r.B9.length≤1000000)(hq:r.A2.length≤1000000):(Qae r).w (λx=>x=({A0:=r.A0,B0:=r.B0,B9:=[],A2:=r.A2},r.B9,r.A0.A6)):=by
 unfold Qae
 refine w_an (Qkr hm hl hq) (w_lv λx0 h0=> ?_)
 rw[Qna]at h0
 subst h0
 rfl
theorem aw21{W:Bool→Prop}(h:W true):(Tree.an Q2c (.lv Q5h λx=> .lf x)).w W:=w_an awake_pre (w_lv λx e=>by show W x;rw[e,Zmo];exact h)
theorem Q0p{t:STy}{ts:List STy}{es:List D}(h:Fits (t::ts) es): ∃d ds,es=d::ds∧Fit t d∧Fits ts ds:=by
 cases es with
 |nil=>exact absurd h (by simp [Fits])
 |cons d ds=>unfold Fits at h;exact⟨d,ds,rfl,h.1,h.2⟩
theorem Z77{es:List D}(h:Fits [] es):es=[]:=by
 cases es with
 |nil=>rfl
 |cons d ds=>exact absurd h (by simp [Fits])
theorem u_of{x:Int}(h:IntKind.u32.min≤x∧x≤IntKind.u32.max):U x:=⟨h.1,by have:IntKind.u32.max=4294967295:=rfl;have:=h.2;omega⟩
theorem Zcm{es:List D}(h:Fits [.int .u32, .int .u32, .int .u32, .int .u32, .int .u32, .int .u32, .int .u32, .int .u32, .int .u32, .int .u32, .int .u32, .int .u32, .int .u32, .int .u32, .int .u32, .int .u32, .int .u32, .int .u32, .int .u32, .int .u32, .int .u32, .int .u32, .int .u32, .int .u32, .int .u32, .sl [.int .u32], .str, .bool, .int .u32, .bool, .int .u32, .int .u32, .int .u32, .int .i64, .int .i64, .int .u32, .int .u32, .str, .int .u32, .int .u32, .bool, .int .u32, .bool, .int .u32, .int .u32, .int .u32, .int .u64, .bool, .bool] es): ∃m:Q01,es=m.cells∧okV m∧m.Mem.length*4≤reachBytes:=by
 obtain⟨d0,e0,rfl,h0,H0⟩:=Q0p h
 obtain⟨x0,rfl,b0⟩:=Q1o h0
 obtain⟨d1,e1,rfl,h1,H1⟩:=Q0p H0
 obtain⟨x1,rfl,b1⟩:=Q1o h1
 obtain⟨d2,e2,rfl,h2,H2⟩:=Q0p H1
 obtain⟨x2,rfl,b2⟩:=Q1o h2
 obtain⟨d3,e3,rfl,h3,H3⟩:=Q0p H2
 obtain⟨x3,rfl,b3⟩:=Q1o h3
 obtain⟨d4,e4,rfl,h4,H4⟩:=Q0p H3
 obtain⟨x4,rfl,b4⟩:=Q1o h4
 obtain⟨d5,e5,rfl,h5,H5⟩:=Q0p H4
 obtain⟨x5,rfl,b5⟩:=Q1o h5
 obtain⟨d6,e6,rfl,h6,H6⟩:=Q0p H5
 obtain⟨x6,rfl,b6⟩:=Q1o h6
 obtain⟨d7,e7,rfl,h7,H7⟩:=Q0p H6
 obtain⟨x7,rfl,b7⟩:=Q1o h7
 obtain⟨d8,e8,rfl,h8,H8⟩:=Q0p H7
 obtain⟨x8,rfl,b8⟩:=Q1o h8
 obtain⟨d9,e9,rfl,h9,H9⟩:=Q0p H8
 obtain⟨x9,rfl,b9⟩:=Q1o h9
 obtain⟨d10,e10,rfl,h10,H10⟩:=Q0p H9
 obtain⟨x10,rfl,b10⟩:=Q1o h10
 obtain⟨d11,e11,rfl,h11,H11⟩:=Q0p H10
 obtain⟨x11,rfl,b11⟩:=Q1o h11
 obtain⟨d12,e12,rfl,h12,H12⟩:=Q0p H11
 obtain⟨x12,rfl,b12⟩:=Q1o h12
 obtain⟨d13,e13,rfl,h13,H13⟩:=Q0p H12
 obtain⟨x13,rfl,b13⟩:=Q1o h13
 obtain⟨d14,e14,rfl,h14,H14⟩:=Q0p H13
 obtain⟨x14,rfl,b14⟩:=Q1o h14
 obtain⟨d15,e15,rfl,h15,H15⟩:=Q0p H14
 obtain⟨x15,rfl,b15⟩:=Q1o h15
 obtain⟨d16,e16,rfl,h16,H16⟩:=Q0p H15
 obtain⟨x16,rfl,b16⟩:=Q1o h16
 obtain⟨d17,e17,rfl,h17,H17⟩:=Q0p H16
 obtain⟨x17,rfl,b17⟩:=Q1o h17
 obtain⟨d18,e18,rfl,h18,H18⟩:=Q0p H17
 obtain⟨x18,rfl,b18⟩:=Q1o h18
 obtain⟨d19,e19,rfl,h19,H19⟩:=Q0p H18
 obtain⟨x19,rfl,b19⟩:=Q1o h19
 obtain⟨d20,e20,rfl,h20,H20⟩:=Q0p H19
 obtain⟨x20,rfl,b20⟩:=Q1o h20
 obtain⟨d21,e21,rfl,h21,H21⟩:=Q0p H20
 obtain⟨x21,rfl,b21⟩:=Q1o h21
 obtain⟨d22,e22,rfl,h22,H22⟩:=Q0p H21
 obtain⟨x22,rfl,b22⟩:=Q1o h22
 obtain⟨d23,e23,rfl,h23,H23⟩:=Q0p H22
 obtain⟨x23,rfl,b23⟩:=Q1o h23
 obtain⟨d24,e24,rfl,h24,H24⟩:=Q0p H23
 obtain⟨x24,rfl,b24⟩:=Q1o h24
 obtain⟨d25,e25,rfl,h25,H25⟩:=Q0p H24
 obtain⟨x25,rfl,r25,b25⟩:=Z8u h25
 obtain⟨d26,e26,rfl,h26,H26⟩:=Q0p H25
 obtain⟨x26,rfl,b26⟩:=Zhs h26
 obtain⟨d27,e27,rfl,h27,H27⟩:=Q0p H26
 obtain⟨x27,rfl⟩:=Qk0 h27
 obtain⟨d28,e28,rfl,h28,H28⟩:=Q0p H27
 obtain⟨x28,rfl,b28⟩:=Q1o h28
 obtain⟨d29,e29,rfl,h29,H29⟩:=Q0p H28
 obtain⟨x29,rfl⟩:=Qk0 h29
 obtain⟨d30,e30,rfl,h30,H30⟩:=Q0p H29
 obtain⟨x30,rfl,b30⟩:=Q1o h30
 obtain⟨d31,e31,rfl,h31,H31⟩:=Q0p H30
 obtain⟨x31,rfl,b31⟩:=Q1o h31
 obtain⟨d32,e32,rfl,h32,H32⟩:=Q0p H31
 obtain⟨x32,rfl,b32⟩:=Q1o h32
 obtain⟨d33,e33,rfl,h33,H33⟩:=Q0p H32
 obtain⟨x33,rfl,b33⟩:=Q1o h33
 obtain⟨d34,e34,rfl,h34,H34⟩:=Q0p H33
 obtain⟨x34,rfl,b34⟩:=Q1o h34
 obtain⟨d35,e35,rfl,h35,H35⟩:=Q0p H34
 obtain⟨x35,rfl,b35⟩:=Q1o h35
 obtain⟨d36,e36,rfl,h36,H36⟩:=Q0p H35
 obtain⟨x36,rfl,b36⟩:=Q1o h36
 obtain⟨d37,e37,rfl,h37,H37⟩:=Q0p H36
 obtain⟨x37,rfl,b37⟩:=Zhs h37
 obtain⟨d38,e38,rfl,h38,H38⟩:=Q0p H37
 obtain⟨x38,rfl,b38⟩:=Q1o h38
 obtain⟨d39,e39,rfl,h39,H39⟩:=Q0p H38
 obtain⟨x39,rfl,b39⟩:=Q1o h39
 obtain⟨d40,e40,rfl,h40,H40⟩:=Q0p H39
 obtain⟨x40,rfl⟩:=Qk0 h40
 obtain⟨d41,e41,rfl,h41,H41⟩:=Q0p H40
 obtain⟨x41,rfl,b41⟩:=Q1o h41
 obtain⟨d42,e42,rfl,h42,H42⟩:=Q0p H41
 obtain⟨x42,rfl⟩:=Qk0 h42
 obtain⟨d43,e43,rfl,h43,H43⟩:=Q0p H42
 obtain⟨x43,rfl,b43⟩:=Q1o h43
 obtain⟨d44,e44,rfl,h44,H44⟩:=Q0p H43
 obtain⟨x44,rfl,b44⟩:=Q1o h44
 obtain⟨d45,e45,rfl,h45,H45⟩:=Q0p H44
 obtain⟨x45,rfl,b45⟩:=Q1o h45
 obtain⟨d46,e46,rfl,h46,H46⟩:=Q0p H45
 obtain⟨x46,rfl,b46⟩:=Q1o h46
 obtain⟨d47,e47,rfl,h47,H47⟩:=Q0p H46
 obtain⟨x47,rfl⟩:=Qk0 h47
 obtain⟨d48,e48,rfl,h48,H48⟩:=Q0p H47
 obtain⟨x48,rfl⟩:=Qk0 h48
 obtain rfl:=Z77 H48
 refine⟨⟨⟨⟨x0,x1,x2,x3,x4,x5,x6,x7,x8,x9,x10,x11,x12,x13,x14,x15⟩,x16,⟨x17,x18,x19,x20,x21,x22,x23,x24⟩⟩,x25,⟨x26⟩,⟨x27,x28,x29⟩,⟨x30,x31,x32,x33,x34,x35,x36,x37⟩,⟨x38,x39,x40,x41,x42,x43⟩,⟨x44,x45⟩,x46,x47,x48⟩,rfl,⟨⟨?_,u_of b16,?_⟩,λw hw=>u_of (b25 w hw),⟨u_of b31,u_of b32,u_of b35,u_of b36⟩,⟨u_of b38,u_of b39,u_of b41,u_of b43⟩,⟨u_of b44,u_of b45⟩,b46.1⟩,r25⟩
 · intro w hw
   have hw:w∈[x0,x1,x2,x3,x4,x5,x6,x7,x8,x9,x10,x11,x12,x13,x14,x15]:=hw
   simp only[List.mem_cons,List.not_mem_nil,or_false]at hw
   rcases hw with rfl|rfl|rfl|rfl|rfl|rfl|rfl|rfl|rfl|rfl|rfl|rfl|rfl|rfl|rfl|rfl
   · exact u_of b0
   · exact u_of b1
   · exact u_of b2
   · exact u_of b3
   · exact u_of b4
   · exact u_of b5
   · exact u_of b6
   · exact u_of b7
   · exact u_of b8
   · exact u_of b9
   · exact u_of b10
   · exact u_of b11
   · exact u_of b12
   · exact u_of b13
   · exact u_of b14
   · exact u_of b15
 · intro w hw
   have hw:w∈[x17,x18,x19,x20,x21,x22,x23,x24]:=hw
   simp only[List.mem_cons,List.not_mem_nil,or_false]at hw
   rcases hw with rfl|rfl|rfl|rfl|rfl|rfl|rfl|rfl
   · exact u_of b17
   · exact u_of b18
   · exact u_of b19
   · exact u_of b20
   · exact u_of b21
   · exact u_of b22
   · exact u_of b23
   · exact u_of b24
theorem Qv5{es:List D}(h:Fits [.int .i64, .int .u32, .str] es): ∃e:Q06,es=e.cells∧U e.N:=by
 obtain⟨d0,e0,rfl,h0,H0⟩:=Q0p h
 obtain⟨x0,rfl,b0⟩:=Q1o h0
 obtain⟨d1,e1,rfl,h1,H1⟩:=Q0p H0
 obtain⟨x1,rfl,b1⟩:=Q1o h1
 obtain⟨d2,e2,rfl,h2,H2⟩:=Q0p H1
 obtain⟨x2,rfl,b2⟩:=Zhs h2
 obtain rfl:=Z77 H2
 exact⟨⟨x0,x1,x2⟩,rfl,u_of b1⟩
theorem Zki{ts us:List STy}: ∀{es:List D},Fits (ts++us) es→ ∃a b,es=a++b∧Fits ts a∧Fits us b:=by
 induction ts with
 |nil=>intro es h;exact⟨[],es,rfl,by unfold Fits;trivial,h⟩
 | cons t ts ih=>
   intro es h
   obtain⟨d,ds,rfl,h1,h2⟩:=Q0p h
   obtain⟨a,b,rfl,h3,h4⟩:=ih h2
   exact⟨d::a,b,rfl,by unfold Fits;exact⟨h1,h3⟩,h4⟩
theorem Sub1.gens{k:RK}{es:List (List D)}{fr:Bool}{l:List (RK.T k)}(h:es=l.map (RK.cells k)):Sub1 (.sl k.size (.gen es) fr) (.sl k.size (.recs k l) false):=by
 intro c w v hv
 obtain⟨a,cap,hv,hc,hes⟩:=hv
 have he:(Els.gen es).l=(Els.recs k l).l:=by subst h;rfl
 rw[he]at hv hc hes
 refine⟨a,cap,hv,hc,?_⟩
 rcases hes with hes|⟨b,off,arr,ty,fz,ha,hI,hf,hh,hE⟩
 · exact .inl hes
 · exact .inr ⟨b,off,arr,ty,fz,ha,hI,(λe=>by cases e),hh,hE⟩
theorem SubL.rfl: ∀{l:List D},SubL l l
 |[]=>trivial
 |_::_=>⟨Sub1.rfl,SubL.rfl⟩
theorem SubL.append: ∀{a b a' b':List D},SubL a a'→SubL b b'→SubL (a++b) (a'++b')
 |[],_,[],_,_,h=>h
 |_::_,_,_::_,_,h,g=>⟨h.1,SubL.append h.2 g⟩
 |[],_,_::_,_,h,_=>h.elim
 |_::_,_,[],_,h,_=>h.elim
theorem Zg1{es:List (List D)}(h: ∀e∈es,Fits [.int .i64, .int .u32, .str] e): ∃l:List Q06,es=l.map Q06.cells∧ ∀e∈l,U e.N:=by
 induction es with
 |nil=>exact⟨[],rfl,λe he=>by cases he⟩
 | cons x es ih=>
   obtain⟨l,h1,h2⟩:=ih (λe he=>h e (by simp [he]))
   obtain⟨e,he,hu⟩:=Qv5 (h x (by simp))
   refine⟨e::l,by rw[h1,he];rfl,λq hq=> ?_⟩
   rcases List.mem_cons.1 hq with hq|hq
   · rw[hq];exact hu
   · exact h2 q hq
theorem Zay{es:List (List D)}(h: ∀e∈es,Fits [.int .u64, .int .i64, .int .u32, .str] e): ∃l:List Q0q,es=l.map Q0q.cells∧ ∀e∈l,U e.D8.N∧0≤e.At∧e.At≤18446744073709551615:=by
 induction es with
 |nil=>exact⟨[],rfl,λe he=>by cases he⟩
 | cons x es ih=>
   obtain⟨l,h1,h2⟩:=ih (λe he=>h e (by simp [he]))
   obtain⟨d0,e0,rfl,h0,H0⟩:=Q0p (h x (by simp))
   obtain⟨x0,rfl,b0⟩:=Q1o h0
   obtain⟨e,he,hu⟩:=Qv5 H0
   refine⟨⟨x0,e⟩::l,by rw[h1,he];rfl,λq hq=> ?_⟩
   rcases List.mem_cons.1 hq with hq|hq
   · rw[hq];exact⟨hu,b0.1,b0.2⟩
   · exact h2 q hq
theorem Z7p{es:List D}(h:Fits ([.int .u32, .int .u32, .int .u32, .int .u32, .int .u32, .int .u32, .int .u32, .int .u32, .int .u32, .int .u32, .int .u32, .int .u32, .int .u32, .int .u32, .int .u32, .int .u32, .int .u32, .int .u32, .int .u32, .int .u32, .int .u32, .int .u32, .int .u32, .int .u32, .int .u32, .sl [.int .u32], .str, .bool, .int .u32, .bool, .int .u32, .int .u32, .int .u32, .int .i64, .int .i64, .int .u32, .int .u32, .str, .int .u32, .int .u32, .bool, .int .u32, .bool, .int .u32, .int .u32, .int .u32, .int .u64, .bool, .bool]++[.int .u32, .sl [.int .u64, .int .i64, .int .u32, .str], .sl [.int .i64, .int .u32, .str]]) es): ∃r:Q00,SubL es r.cells∧okV r.A0∧U r.B0∧ ∀q∈r.A2,U q.N:=by
 obtain⟨a,b,rfl,h1,h2⟩:=Zki h
 obtain⟨m,rfl,hm,_⟩:=Zcm h1
 obtain⟨d0,e0,rfl,g0,H0⟩:=Q0p h2
 obtain⟨c,rfl,bc⟩:=Q1o g0
 obtain⟨d1,e1,rfl,g1,H1⟩:=Q0p H0
 unfold Fit at g1
 obtain⟨es1,rfl,_,g1⟩:=g1
 obtain⟨log,rfl,_⟩:=Zay g1
 obtain⟨d2,e2,rfl,g2,H2⟩:=Q0p H1
 unfold Fit at g2
 obtain⟨es2,rfl,_,g2⟩:=g2
 obtain⟨q,rfl,hq⟩:=Zg1 g2
 obtain rfl:=Z77 H2
 refine⟨⟨m,c,log,q⟩,?_,hm,u_of bc,hq⟩
 have e:(⟨m,c,log,q⟩:Q00).cells=m.cells++[.int .u32 c, .sl 4 (.recs .apiEntry log) false, .sl 3 (.recs .apiEvent q) false]:=by kernel_rfl
 rw[e]
 exact SubL.append SubL.rfl ⟨Sub1.rfl,Sub1.gens (k:= .apiEntry) _root_.rfl,Sub1.gens (k:= .apiEvent) _root_.rfl,trivial⟩
structure recV(r:Q00):Prop where
 v:okV r.A0
 mem:r.A0.Mem.length≤1024
 clock:U r.B0
 log:r.B9.length≤800000
 queue:r.A2.length≤100
 u: ∀q∈r.A2,U q.N
theorem Zff{r:Q00}(hm:r.A0.Mem.length≤1024)(hl:r.B9.length≤1000000)(hq:r.A2.length≤1000000):(Qao r).w (λx=>x=r):=by
 unfold Qao
 exact Q0b (ownV hm) λx hx=>w_cn (decide_eq_true (by simp;omega)) (w_cn (decide_eq_true (by simp;omega)) (by rw[hx];rfl))
theorem rarr19_w{r:Q00}(hm:r.A0.Mem.length≤1024)(hl:r.B9.length≤1000000)(hq:r.A2.length≤1000000)(e:Q06):(Q65 r e).w (λx=>x=Q24 r e):=by
 unfold Q65
 refine Q0b (Zff hm hl hq) λx0 h0=>w_lv λx1 h1=> ?_
 subst h0
 rw[h1]
 refine w_br (λhb=> ?_) λhb=>w_br (λhk=> ?_) λhk=>w_br (λhl=> ?_) λhl=>w_cn (decide_eq_true (by omega)) ?_
 · show(x0,false)=_;rw[Qav,hb];rfl
 · show(x0,false)=_;rw[Qav,hb,hk];rfl
 · show(x0,false)=_;rw[Qav,hb,hk,hl];rfl
 · show(_,true)=_;rw[Qav,hb,hk,hl];rfl
theorem cut19_w{r:Q00}(hm:r.A0.Mem.length≤1024)(hl:r.B9.length≤1000000)(hq:r.A2.length≤1000000):(Qhz r).w (λx=>x=({A0:=r.A0,B0:=r.B0,B9:=[],A2:=r.A2},r.B9,r.A0.A6)):=by
 unfold Qhz
 refine Q0b (Zff hm hl hq) λx hx=> ?_
 subst hx;rfl
theorem new19_w{m:Q01}(hm:m.Mem.length≤1024):(Q2p m).w (λx=>x={A0:=m,B0:=0,B9:=[],A2:=[]}):=by
 unfold Q2p
 exact Q0b (ownV hm) λx hx=>by rw[hx];rfl
theorem recV.arrive{r:Q00}(h:recV r)(hq:r.A2.length≤50){e:Q06}(he:U e.N):recV (Q24 r e).1:=by
  rw[Qav]
  cases Qau e
  · exact h
  · cases e.B8==1
    · cases decide ((r.A2.length:Int)≥16)
      · refine⟨h.v,h.mem,h.clock,h.log,?_,λq hm=> ?_⟩
        · show(r.A2++[e]).length≤100
          rw[List.length_append,List.length_singleton];omega
        · have hm:q∈r.A2++[e]:=hm
          rcases List.mem_append.1 hm with hm|hm
          · exact h.u q hm
          · rw[List.mem_singleton.1 hm];exact he
      · exact h
    · exact h
theorem recV.good{r:Q00}(h:recV r)(hm:Q13 r.A0=true): ∃P,Qed P r.A0.A6 r:=by
 obtain⟨P,_,o⟩:=may_P h.v hm
 exact⟨P,⟨o,hm⟩,h.clock,Int.le_refl _⟩
theorem radvV_w{r:Q00}(h:recV r)(steps:Int){clock:Int}(hc:U clock):(Q3h r steps clock).w (λx=>x=advF r steps clock):=by
 have hq:=h.queue
 have hl:=h.log
 cases hm:Q13 r.A0
 · have hr:Q5x r.A0=false:=(Qp4 h.v).symm.trans hm
   unfold Q3h
   refine w_an (Qkr h.mem (by omega) (by omega)) (w_lv λx0 e0=> ?_)
   rw[Qna]at e0
   subst e0
   refine w_an (Tree.pp (Zbv h.v.bal.2)).1 (w_lv λx1 e1=>w_br (λ_=> ?_) λhb=>by rw[e1,hm]at hb;cases hb)
   show(x0,[])=_
   unfold advF
   rw[hr];rfl
 · obtain⟨P,g⟩:=h.good hm
   exact radv_w g steps hc (by omega) (by omega) h.u
theorem Zlj{r:Q00}(h:recV r)(steps:Int){clock:Int}(hc:U clock):Q3l r steps clock:=by
 have hq:=h.queue
 have hl:=h.log
 cases hm:Q13 r.A0
 · have hr:Q5x r.A0=false:=(Qp4 h.v).symm.trans hm
   show(Q3z r steps clock).p
   unfold Tree.p Q3z
   refine Q0b (Zff h.mem (by omega) (by omega)) λx0 e0=> ?_
   subst e0
   exact w_lv λx1 e1=>w_br (λ_=>trivial) λhb=>by rw[e1,hr]at hb;cases hb
 · obtain⟨P,g⟩:=h.good hm
   exact(Tree.pp (Qwv ⟨g.m.ok,g.clock⟩ steps hc (by omega) (by omega) h.u)).1
theorem advV_keep{r:Q00}(h:recV r)(steps:Int){clock:Int}(hc:U clock):(advF r steps clock).1.A0.Mem.length≤1024∧(advF r steps clock).1.B9.length≤900000∧(advF r steps clock).1.A2.length≤100∧(advF r steps clock).2.length≤4000:=by
 have hq:=h.queue
 have hl:=h.log
 have lg:=Zih r steps clock
 cases hm:Q13 r.A0
 · have hr:Q5x r.A0=false:=(Qp4 h.v).symm.trans hm
   have e:advF r steps clock=(r,[]):=by unfold advF;rw[hr];rfl
   rw[e]
   exact⟨h.mem,by show r.B9.length≤_;omega,hq,Nat.zero_le _⟩
 · obtain⟨P,g⟩:=h.good hm
   have st:=Zgw g h.u hc
   obtain⟨l0,l1⟩:=Qkq steps
   have k:=Zcg (Q0m steps).toNat (o:=[]) st
   have o:=recF_outs (Q0m steps).toNat [] st
   have q:=Z5t (Q0m steps).toNat (noQ (r.A2.foldl Q5b {A0:=r.A0,B0:=if clock>r.B0 then clock else r.B0,B9:=r.B9,A2:=r.A2})) []
   rw[←advF_on g.m.rmay]at k o q
   refine⟨k.m.len,by omega,by rw[q];exact Nat.zero_le _,?_⟩
   have:([]:List Q04).length=0:=rfl
   omega
def tellsT(r:Q00)(e:Q06)(steps clock:Int):Tree Bool:=
 .an (Q2y r e) (.lv (Q7s r e) λ(x41:Q00×Bool)=> .an (Q5l r e) (.lv (Q24 r e) λ(x42:Q00×Bool)=> .an (Q0o x41.1 x42.1) (.lv (Q0t x41.1 x42.1) λ(x43:Bool)=> .br (!x43) (.lf false) (.br (!x41.2==x42.2) (.lf false) (.an (Q35 x42.1 steps clock) (.lv (Q8 x42.1 steps clock) λ(x44:Q00×List Q04)=> .an (Q3l x42.1 steps clock) (.lv (Q4s x42.1 steps clock) λ(x45:Q00×List Q04)=> .an (Q0o x44.1 x45.1) (.lv (Q0t x44.1 x45.1) λ(x46:Bool)=> .br (!x46) (.lf false) (.an (Q2h x44.2 x45.2) (.lv (Q5i x44.2 x45.2) λ(x47:Bool)=> .br (!x47) (.lf false) (.an (Q6b x45.1) (.lv (Qel x45.1) λ(x48:Q00×List Q0q×Int)=> .an (Qbf x45.1) (.lv (Qkp x45.1) λ(x49:Q00×List Q0q×Int)=> .an (Q0o x48.1 x49.1) (.lv (Q0t x48.1 x49.1) λ(x50:Bool)=> .br x50 (.an (Q34 x48.2.1 x49.2.1) (.lv (Q5f x48.2.1 x49.2.1) λ(x51:Bool)=> .br x51 (.br (x48.2.2==x49.2.2) (.an (Q9q r.A0) (.lv (Ql0 r.A0) λ(x52:Q00)=> .an (Q53 r.A0) (.lv (Q2f r.A0) λ(x53:Q00)=> .an (Q0o x52 x53) (.lv (Q0t x52 x53) λ(x54:Bool)=> .br x54 (.an Q2c (.lv Q5h λ(x55:Bool)=> .lf x55)) (.lf false))))) (.lf false)) (.lf false))) (.lf false)))))))))))))))
theorem Qz0{r:Q00}(h:recV r)(hq:r.A2.length≤50){e:Q06}(he:U e.N)(steps:Int){clock:Int}(hc:U clock):(tellsT r e steps clock).w (λb=>b=true):=by
 have hl:=h.log
 have aw:(Tree.an Q2c (.lv Q5h λx=> .lf x)).w (λr=>r=true):=aw21 rfl
 unfold tellsT
 refine Q0b (rarrive_w h.mem (by omega) (by omega) he) λx e1=>Q0b (rarr19_w h.mem (by omega) (by omega) e) λy e2=> ?_
 have hy:recV y.1:=by rw[e2];exact h.arrive hq he
 have xy:x=y:=e1.trans e2.symm
 rw[xy]
 have y1:=hy.log
 have y2:=hy.queue
 have y3:=hy.mem
 obtain⟨k1,k2,k3,k4⟩:=advV_keep hy steps hc
 refine Q0b (Qza y.1 (by omega) (by omega) (by omega)) λb1 h1=>w_br (λh=>by rw[h1]at h;cases h) λ_=>w_br (λh=>by cases hb:y.2<;>rw[hb]at h<;>cases h) λ_=>Q0b (radvV_w hy steps hc) λz e3=>w_an (Zlj hy steps hc) (w_lv λp e4=> ?_)
 rw[Zjq _ _ _ (by omega)]at e4
 have zp:z=p:=e3.trans e4.symm
 rw[zp]
 rw[←e4]at k1 k2 k3 k4
 have so:Q5i p.2 p.2=true:=Tree.post _ (same_outs p.2 (by omega))
 refine Q0b (Qza p.1 (by omega) (by omega) (by omega)) λb2 h2=>w_br (λh=>by rw[h2]at h;cases h) λ_=>w_an (show p.2.length≤1000000000000 by omega) (w_lv λb3 h3=>w_br (λh=>by rw[h3,so]at h;cases h) λ_=>Q0b (rcut_w k1 (by omega) (by omega)) λa e5=>Q0b (cut19_w k1 (by omega) (by omega)) λb e6=> ?_)
 have ab:a=b:=e5.trans e6.symm
 rw[ab]
 have b1:b.1.A0.Mem.length≤1024∧b.1.B9.length=0∧b.1.A2.length≤100∧b.2.1.length≤900000:=by rw[e6];exact⟨k1,rfl,k3,k2⟩
 obtain⟨c1,c2,c3,c4⟩:=b1
 refine Q0b (Qza b.1 (by omega) (by omega) (by omega)) λb4 h4=>w_br (λ_=>Q0b (Qxm b.2.1 (by omega)) λb5 h5=>w_br (λ_=>w_br (λ_=> ?_) λh=>by simp at h) λh=>by rw[h5]at h;cases h) λh=>by rw[h4]at h;cases h
 refine Q0b (rnew_w h.mem) λn1 e7=>Q0b (new19_w h.mem) λn2 e8=> ?_
 have nn:n1=n2:=e7.trans e8.symm
 rw[nn]
 exact Q0b (Qza n2 (by rw[e8];have:=h.mem;show r.A0.Mem.length≤_;omega) (by rw[e8];exact Nat.zero_le _) (by rw[e8];exact Nat.zero_le _)) λb6 h6=>w_br (λ_=>aw) λh=>by rw[h6]at h;cases h
theorem bounded_w(r:Q00):(Qam r).w (λb=>b=true→r.A0.Mem.length≤300∧r.B9.length≤60∧r.A2.length≤20):=by
 unfold Qam
 refine w_lp (inv:=λz:Int=>0≤z∧z≤30) (μ:=Qim r) ⟨Int.le_refl 0,by decide⟩ (Nat.lt_succ_self _) λi ⟨v1,v2⟩=> ?_
 refine w_br (λhb=>w_br (λh30=> ?_) (λ_=> ?_)) (λ_=> ?_)
 · have hb:=of_decide_eq_true hb
   have h30:=of_decide_eq_true h30
   have ew:IntKind.i64.wrap (i+1)=i+1:=by rw[IntKind.wrap_i64];omega
   refine w_cn (by simp [Nat.blt];omega) (w_br (λ_ h=>by cases h) λ_=>w_nx ?_)
   show(0≤IntKind.i64.wrap (i+1)∧IntKind.i64.wrap (i+1)≤30)∧(r.A2.length-IntKind.i64.wrap (i+1)).toNat<(r.A2.length-i).toNat
   rw[ew]
   exact⟨by omega,by omega⟩
 · refine w_br (λa=>w_br (λb=>w_br (λc=> ?_) (λ_ h=>by cases h)) (λ_ h=>by cases h)) (λ_ h=>by cases h)
   have a:=of_decide_eq_true a
   have b:=of_decide_eq_true b
   have c:=of_decide_eq_true c
   exact λ_=>⟨by omega,by omega,by omega⟩
 · refine w_br (λa=>w_br (λb=>w_br (λc=> ?_) (λ_ h=>by cases h)) (λ_ h=>by cases h)) (λ_ h=>by cases h)
   have a:=of_decide_eq_true a
   have b:=of_decide_eq_true b
   have c:=of_decide_eq_true c
   exact λ_=>⟨by omega,by omega,by omega⟩
theorem tells(kind:Int)(l acts:List Int)(where0 what:Int){r:Q00}(hv:okV r.A0)(hrc:U r.B0)(hru: ∀q∈r.A2,U q.N)(raw:Bool){e:Q06}(he:U e.N)(made:Bool)(steps:Int){clock:Int}(hc:U clock)(hl:l.length*8≤reachBytes):Qgj kind l acts where0 what r raw e made steps clock∧Qez kind l acts where0 what r raw e made steps clock=true:=by
 have aw:(Tree.an Q2c (.lv Q5h λx=> .lf x)).w (λr=>r=true):=aw21 rfl
 refine Tree.pp (W:=λr=>r=true) ?_
 unfold Q99
 refine w_lv λx0 h0=>w_br (λ_=>aw) λhb=>Q0b (bounded_w r) λx2 h2=>w_br (λ_=>aw) λhx2=>w_br (λ_=>aw) λ_=>w_br (λ_=>aw) λ_=>w_br (λ_=> ?_) (λ_=> ?_)
 · obtain⟨f1,f2⟩:=few_lens h0 hb
   refine w_an (Tree.pp (machine_w kind l hl)).1 (w_lv λm hm=> ?_)
   obtain⟨a,b⟩:=Zem kind l hl f1
   rw[←hm]at a b
   refine w_an (Tree.pp (play_w a.ok acts f2)).1 (w_lv λx hx=> ?_)
   rw[play_eq _ _ (by omega),newRec_eq]at hx
   have gx:Qpy 8 (87+4000*acts.length) x.1:=by
     have:=playP acts (s:=({A0:=m,B0:=0,B9:=[],A2:=[]},[])) (newP a b)
     rw[hx];exact this
   have gl:=gx.l
   have gq:=gx.q
   refine Q0b (bend_w gx.g.m.ok (by decide) gx.g.m.ok.cnt where0 what (λk a b=>by show k≤1000000000000;omega)) λx8 h8=> ?_
   have rv:recV {A0:=x8,B0:=x.1.B0,B9:=x.1.B9,A2:=x.1.A2}:=⟨⟨h8.cpu,h8.u,h8.disk,h8.nic,h8.bal,h8.cnt⟩,h8.len,gx.g.clock,by show x.1.B9.length≤_;omega,by have:=gq.1;show x.1.A2.length≤_;omega,gq.2⟩
   refine w_br (λ_=>w_an (Tree.pp (Z9t _)).1 (w_lv λx9 e9=> ?_)) (λ_=> ?_)
   · exact Qz0 rv (by have:=gq.1;show x.1.A2.length≤_;omega) (by rw[e9];exact Zfm _) steps hc
   · exact Qz0 rv (by have:=gq.1;show x.1.A2.length≤_;omega) he steps hc
 · have x2t:x2=true:=by simpa using hx2
   obtain⟨q1,q2,q3⟩:=h2 x2t
   have rv:recV r:=⟨hv,by omega,hrc,by omega,by omega,hru⟩
   refine w_br (λ_=>w_an (Tree.pp (Z9t _)).1 (w_lv λx9 e9=> ?_)) (λ_=> ?_)
   · exact Qz0 rv (by omega) (by rw[e9];exact Zfm _) steps hc
   · exact Qz0 rv (by omega) he steps hc
end Go.Proofs.YtpcbkbalabgnlaaGreat

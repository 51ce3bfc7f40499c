/-
  A part of the proof.
-/
import Derived.Test.YtmalmklaonainaaGreatPrecopyCopiesLaws2
import Derived.Test.YtmalmklaonainaaGreatPrecopyCopiesNewsB
import Derived.Test.YtmalmklaonainaaGreatPrecopyCopiesZg
import Derived.Test.YtmalmklaonainaaGreatPrecopyCopiesZt
import Derived.Test.YtmalmklaonainaaGreatPrecopyCopiesCk
set_option maxRecDepth 100000
set_option linter.unusedVariables false
set_option linter.unusedSimpArgs false
namespace Go.Proofs.YtmalmklaonainaaGreat
open Go Go.GD
theorem encode_U(i:Q0h):U (Q0x i).1:=by
 refine Tree.post (Qbz i) (W:=λr=>U r.1) ?_
 unfold Qbz
 exact w_lv λ_ _=>w_br (λ_=>U_0) (λ_=>U_or _ _)
theorem code_w(l:List Int)(hl:l.length*8≤reachBytes):(Qdd l).w (λr=>(r.length:Int)=l.length∧ ∀w∈r,U w):=by
 have hl':l.length*8≤140737488351232:=hl
 have app: ∀{r:List Int} {x:Int},(∀w∈r,U w)→U x→ ∀w∈r++[x],U w:=λhr hx w hw=>by
   rw[List.mem_append]at hw
   rcases hw with hw|hw
   · exact hr w hw
   · rw[List.mem_singleton.1 hw];exact hx
 unfold Qdd
 refine w_lp (inv:=λz=>Qlj l z∧ ∀w∈z.2,U w) (μ:=Q8 l) ⟨⟨by omega,by simp,by simp⟩,by simp⟩ (Nat.lt_succ_self _) (λv0 hv=> ?_)
 obtain⟨⟨h1,h2,h3⟩,h4⟩:=hv
 refine w_br (λh=> ?_) (λh=> ?_)
 · have h:=of_decide_eq_true h
   have next: ∀x:Int,U x→(Qlj l (IntKind.wrap IntKind.i64 (v0.1+1),v0.2++[x])∧ ∀w∈v0.2++[x],U w)∧Q8 l (IntKind.wrap IntKind.i64 (v0.1+1),v0.2++[x])<Q8 l v0:=λx hx=>by
     have hw:IntKind.i64.wrap (v0.1+1)=v0.1+1:=by rw[IntKind.wrap_i64];omega
     rw[hw]
     refine⟨⟨⟨?_,?_,?_⟩,app h4 hx⟩,?_⟩
     · show 0≤v0.1+1;omega
     · show v0.1+1≤l.length;omega
     · show((v0.2++[x]).length:Int)=v0.1+1;simp;omega
     · show(l.length-(v0.1+1)).toNat<(l.length-v0.1).toNat;omega
   have hb:(Nat.beq 1 1&&Nat.blt 0 1&&decide (0≤v0.1∧v0.1<(l.length:Int)))=true:=by simp [Nat.blt];omega
   have hc:decide (4*(v0.2.length+1)≤140737488355328)=true:=decide_eq_true (by omega)
   exact w_cn hb (w_br (λ_=>w_cn hb (w_cn hc (next _ (Q0n _)))) (λ_=>w_cn hb (w_an (inst_pre _) (w_lv λx0 _=>w_lv λx1 hx=>w_cn hc (next _ (by rw[hx];exact encode_U _))))))
 · have h:=of_decide_eq_false h
   exact⟨by show(v0.2.length:Int)=l.length;omega,h4⟩
section
variable {P:Nat} {m:Q00} (h:okM P m)
include h
theorem min_w(port:Int){clock:Int}(hc:U clock):(Qp7 m port clock).w (λx=>U x.1∧okM P x.2∧x.2.A4=m.A4):=by
 have k:=(⟨h,rfl⟩:okM P m∧m.A4=m.A4)
 obtain⟨h1,h2,h3,h4,h5,h7⟩:=h
 unfold Qp7
 exact w_br (λ_=>w_lv λx hx=>⟨hx▸Zau _ _,⟨⟨h1,h2,h3,h4,h5,h7⟩,rfl⟩⟩) (λ_=>w_br (λ_=>⟨hc,k⟩) (λ_=>w_br (λ_=>w_lv λx hx=>⟨hx▸timerIn_w _,k⟩) (λ_=>w_br (λ_=>w_lv λx hx=>⟨hx▸diskIn_w h3 _,k⟩) (λ_=>w_br (λ_=>w_lv λx hx=>⟨hx▸nicIn_w h4 _,k⟩) (λ_=>w_lv λx hx=>⟨hx▸Zbw h5.1 _,k⟩)))))
theorem mout_w(port:Int){v:Int}(hv:U v):(Qg3 m port v).w (λx=>x.1.length≤1∧okM P x.2∧x.2.A4=m.A4):=by
 have k:=(⟨h,rfl⟩:okM P m∧m.A4=m.A4)
 obtain⟨h1,h2,h3,h4,h5,h7⟩:=h
 unfold Qg3
 exact w_br (λ_=>⟨Nat.le_refl _,k⟩) (λ_=>w_br (λ_=>⟨Nat.zero_le _,k⟩) (λ_=>w_br (λ_=>w_lv λ_ _=>⟨Nat.zero_le _,⟨⟨h1,h2,h3,h4,h5,h7⟩,rfl⟩⟩) (λ_=>w_br (λ_=>Q0d (diskOut_w h2 h3 _ hv _) λx hx=>⟨hx.2,⟨⟨h1,h2,hx.1,h4,h5,h7⟩,rfl⟩⟩) (λ_=>w_br (λ_=>Q0d (nicOut_w h2 h4 _ hv _) λx hx=>⟨hx.2,⟨⟨h1,h2,h3,hx.1,h5,h7⟩,rfl⟩⟩) (λ_=>Q0d (give_w h2 h5 _ hv) λx hx=>⟨Nat.zero_le _,⟨⟨h1,hx.2,h3,h4,hx.1,h7⟩,rfl⟩⟩)))))
theorem Zeh{clock:Int}(hc:U clock):(Q6j m clock).w (λx=>x.1.length≤1∧okM P x.2∧x.2.A4=IntKind.wrap .u64 (m.A4+1)):=by
 obtain⟨h1,h2,h3,h4,h5,h7⟩:=h
 unfold Q6j
 refine Q0d (Qoi h1) λx0 c0=>Q0d (do_w c0 h2) λx1 hx=> ?_
 obtain⟨c1,v1,m1⟩:=hx
 refine w_br (λ_=>Zdw (min_w (m:=⟨_,_,_,_,_,_,_,_,_,_⟩) ⟨c1,m1,h3,h4,h5,h7⟩ _ hc) λx2 hx=> ?_) (λ_=>w_br (λ_=>Q0d (mout_w (m:=⟨_,_,_,_,_,_,_,_,_,_⟩) ⟨c1,m1,h3,h4,h5,h7⟩ _ v1) λx4 hx=> ?_) (λ_=> ?_))
 · obtain⟨u,⟨k1,k2,k3,k4,k5,k7⟩,k6⟩:=hx
   exact Q0d (Z3 k1 _ u) λx3 h3=>⟨Nat.zero_le _,⟨h3,k2,k3,k4,k5,w0 _⟩,congrArg (λn=>IntKind.wrap .u64 (n+1)) k6⟩
 · obtain⟨u,⟨k1,k2,k3,k4,k5,k7⟩,k6⟩:=hx
   exact⟨u,⟨k1,k2,k3,k4,k5,w0 _⟩,congrArg (λn=>IntKind.wrap .u64 (n+1)) k6⟩
 · repeat'(first
     |exact⟨Nat.zero_le _,⟨c1,m1,h3,h4,h5,w0 _⟩,rfl⟩
     |refine w_br (λ_=> ?_) (λ_=> ?_))
theorem own7_w:(Qg5 m).w (λx=>okM P x∧x.A4=m.A4):=by
 obtain⟨h1,h2,h3,h4,h5,h7⟩:=h
 unfold Qg5
 exact Q0d (copy_w h2) λx hx=>⟨⟨h1,by rw[hx];exact h2,h3,h4,h5,h7⟩,rfl⟩
end
theorem U_all(n:Nat): ∀w∈List.replicate n (0:Int),U w:=λw hw=>by rw[(List.mem_replicate.1 hw).2];exact U_0
set_option synthInstance.maxHeartbeats 2000000
set_option synthInstance.maxSize 100000
noncomputable section
instance ref1_lines_ck (src:(List UInt8)):Ck (Qf5 src):=ckT (t:=Qb2 src) (by delta Qb2;infer_instance)
instance ref1_tokens_ck (s:(List UInt8)):Ck (Qcl s):=ckT (t:=Q9 s) (by delta Q9;infer_instance)
instance ref1_digits_ck (n:Int):Ck (Q1x n):=let d:Decidable (Q1x n):=(by delta Q1x;infer_instance);⟨@decide _ d,@of_decide_eq_true _ d⟩
instance ref1_Decimal_ck (n:Int):Ck (Qbb n):=ckT (t:=Q3u n) (by delta Q3u;infer_instance)
instance ref1_reg_ck (r:Int):Ck (Qjx r):=ckT (t:=Q9k r) (by delta Q9k;infer_instance)
instance ref1_name_ck (s:(List UInt8)):Ck (Qc5 s):=ckT (t:=Qd s) (by delta Qd;infer_instance)
instance Zgd (op:Int):Ck (Q9u op):=ckT (t:=Q5e op) (by delta Q5e;infer_instance)
instance Zf (s:(List UInt8)):Ck (Q1u s):=ckT (t:=Q4v s) (by delta Q4v;infer_instance)
instance ref1_pattern_ck (what:(List UInt8)):Ck (Q3a what):=ckT (t:=Q6x what) (by delta Q6x;infer_instance)
instance ref1_number_ck (s:(List UInt8)):Ck (Qcg s):=ckT (t:=Q89 s) (by delta Q89;infer_instance)
instance ref1_matched_ck (l:(List Q0c)) (p:(List UInt8)):Ck (Q3c l p):=ckT (t:=Q72 l p) (by delta Q72;infer_instance)
instance ref1_parsed_ck (s:(List UInt8)):Ck (Qci s):=ckT (t:=Q93 s) (by delta Q93;infer_instance)
instance ref1_address_ck (l:(List Q1b)) (label:(List UInt8)):Ck (Q20 l label):=let d:Decidable (Q20 l label):=(by delta Q20;infer_instance);⟨@decide _ d,@of_decide_eq_true _ d⟩
instance ref1_read_ck (src:(List UInt8)):Ck (Qgw src):=ckT (t:=Qdx src) (by delta Qdx;infer_instance)
instance ref1_inst_ck (st:Q06) (v:Int):Ck (Q6 st v):=ckT (t:=Qdm st v) (by delta Qdm;infer_instance)
instance Zge (src:(List UInt8)):Ck (Q5w src):=ckT (t:=Q5a src) (by delta Q5a;infer_instance)
theorem asm_pre:Q5w ((108:UInt8)::(tblZe0++Z22++(Z1k++Z0q)++(Z1n++Z0w++(Z2k++Z0i))++(Z0x++Z1d++(Qqy++Qqj)++(Qpn++Qqf++(Qr2++Qrl))))):=ck inferInstance (by kernel_rfl)
def inU(x:Int):Bool:=decide (0≤x)&&decide (x<4294967296)
theorem asm_gen(l:List Int)(h:(Nat.ble l.length 160&&List.all l inU)=true):l.length≤160∧ ∀w∈l,U w:=by
 rw[Bool.and_eq_true]at h
 refine⟨Nat.le_of_ble_eq_true h.1,λw hw=> ?_⟩
 have:=List.all_eq_true.1 h.2 w hw
 simp only[inU,Bool.and_eq_true,decide_eq_true_eq]at this
 exact this
theorem asm_ok:(Q4j (List.append (List.append (List.append (List.append Z3x Z22) (List.append Z1k Z0q)) (List.append (List.append Z1n Z0w) (List.append Z2k Z0i))) (List.append (List.append (List.append Z0x Z1d) (List.append Qqy Qqj)) (List.append (List.append Qpn Qqf) (List.append Qr2 Qrl))))).1.length≤160∧ ∀w∈(Q4j (List.append (List.append (List.append (List.append Z3x Z22) (List.append Z1k Z0q)) (List.append (List.append Z1n Z0w) (List.append Z2k Z0i))) (List.append (List.append (List.append Z0x Z1d) (List.append Qqy Qqj)) (List.append (List.append Qpn Qqf) (List.append Qr2 Qrl))))).1,U w:=asm_gen _ (by kernel_rfl)
end
theorem new_w(i:List Int)(hu: ∀w∈i,U w)(hl:i.length≤256):(Qce 8 4 i).w (λx=>okM 8 x.1∧x.1.A4=0):=by
 unfold Qce
 refine w_br (λh=>absurd h (by decide)) λ_=>w_br (λh=>absurd h (by decide)) λ_=>w_br (λh=>absurd h (by decide)) λ_=>w_br (λh=>absurd h (by decide)) λ_=>w_br (λh=> ?_) λ_=>w_lv λx0 e0=>w_an (Z8c _) (w_lv λx1 e1=> ?_)
 · have h:=of_decide_eq_true h
   rw[show IntKind.i64.wrap (8*32)=256 by decide]at h
   omega
 have hx:x1=List.replicate 256 0:=by rw[e1];kernel_rfl
 have c0:Q1z x0:=by rw[e0];exact⟨by
   intro w hw
   simp only[Qkr,Qeu,Tree.m,A16.l,List.mem_cons,List.not_mem_nil,or_false,or_self]at hw
   rw[hw];exact U_0,U_0,by
   intro w hw
   simp only[Qkr,Qeu,Tree.m,A8.l,List.mem_cons,List.not_mem_nil,or_false,or_self]at hw
   rcases hw with rfl|rfl
   · exact⟨by omega,by omega⟩
   · exact U_0⟩
 have hz: ∀w∈x1,U w:=by rw[hx];exact U_all 256
 have hn:x1.length=256:=by rw[hx,List.length_replicate]
 refine⟨⟨c0,⟨?_,by omega,by omega,λw hw=> ?_⟩,⟨U_0,U_0,U_0,U_0⟩,⟨U_0,U_0,U_0,U_0⟩,⟨U_0,U_0⟩,Int.le_refl _⟩,rfl⟩
 · simp only[List.length_append,List.length_take,List.length_drop,hn];omega
 · rcases List.mem_append.1 hw with h1|h1
   · exact hu w (List.mem_of_mem_take h1)
   · exact hz w (List.mem_of_mem_drop h1)
noncomputable section
def boot:List Int:=(Q4j (List.append (List.append (List.append (List.append Z3x Z22) (List.append Z1k Z0q)) (List.append (List.append Z1n Z0w) (List.append Z2k Z0i))) (List.append (List.append (List.append Z0x Z1d) (List.append Qqy Qqj)) (List.append (List.append Qpn Qqf) (List.append Qr2 Qrl))))).1
def Qf:List Int:=boot++List.replicate (160-boot.length) 0
theorem run87(t0 t1 t2 t3 t4 t5 t6 t7 t8 t9 t10 t11 t12 t13 t14 t15 t16 t17 t18 t19 t20 t21 t22 t23 t24 t25 t26 t27 t28 t29 t30 t31 t32 t33 t34 t35 t36 t37 t38 t39 t40 t41 t42 t43 t44 t45 t46 t47 t48 t49 t50 t51 t52 t53 t54 t55 t56 t57 t58 t59 t60 t61 t62 t63 t64 t65 t66 t67 t68 t69 t70 t71 t72 t73 t74 t75 t76 t77 t78 t79 t80 t81 t82 t83 t84 t85 t86 t87 t88 t89 t90 t91 t92 t93 t94 t95:Int):(Q9h (Q81 8 4 (Qf++[t0,t1,t2,t3,t4,t5,t6,t7,t8,t9,t10,t11,t12,t13,t14,t15,t16,t17,t18,t19,t20,t21,t22,t23,t24,t25,t26,t27,t28,t29,t30,t31,t32,t33,t34,t35,t36,t37,t38,t39,t40,t41,t42,t43,t44,t45,t46,t47,t48,t49,t50,t51,t52,t53,t54,t55,t56,t57,t58,t59,t60,t61,t62,t63,t64,t65,t66,t67,t68,t69,t70,t71,t72,t73,t74,t75,t76,t77,t78,t79,t80,t81,t82,t83,t84,t85,t86,t87,t88,t89,t90,t91,t92,t93,t94,t95])).1 [] 87).2.2.2=0:=by kernel_rfl
end
attribute [local irreducible] Q4j
theorem new_mem(i j:List Int)(hi:i.length≤256)(hj:j.length≤256)(e:i++List.replicate (256-i.length) 0=j++List.replicate (256-j.length) 0):Q81 8 4 i=Q81 8 4 j:=by
 have w:IntKind.i64.wrap (8*32)=256:=by decide
 have m:Qun 8=List.replicate 256 0:=by kernel_rfl
 have d: ∀k:List Int,k.length≤256→decide ((k.length:Int)>256)=false:=λk h=>decide_eq_false (by omega)
 have mem: ∀k:List Int,k.length≤256→List.take (min k.length (List.replicate 256 (0:Int)).length) k++List.drop (min k.length (List.replicate 256 (0:Int)).length) (List.replicate 256 0)=k++List.replicate (256-k.length) 0:=λk h=>by
   rw[List.length_replicate,Nat.min_eq_left h,List.take_length,List.drop_replicate]
 have r:Qun 8=List.replicate 256 0:=by kernel_rfl
 simp only[Q81,Qce,Tree.m,w,letv,r,d i hi,d j hj]
 simp only[mem i hi,mem j hj,e]
theorem list96(t:List Int)(ht:t.length=96):t=[t.getD 0 0,t.getD 1 0,t.getD 2 0,t.getD 3 0,t.getD 4 0,t.getD 5 0,t.getD 6 0,t.getD 7 0,t.getD 8 0,t.getD 9 0,t.getD 10 0,t.getD 11 0,t.getD 12 0,t.getD 13 0,t.getD 14 0,t.getD 15 0,t.getD 16 0,t.getD 17 0,t.getD 18 0,t.getD 19 0,t.getD 20 0,t.getD 21 0,t.getD 22 0,t.getD 23 0,t.getD 24 0,t.getD 25 0,t.getD 26 0,t.getD 27 0,t.getD 28 0,t.getD 29 0,t.getD 30 0,t.getD 31 0,t.getD 32 0,t.getD 33 0,t.getD 34 0,t.getD 35 0,t.getD 36 0,t.getD 37 0,t.getD 38 0,t.getD 39 0,t.getD 40 0,t.getD 41 0,t.getD 42 0,t.getD 43 0,t.getD 44 0,t.getD 45 0,t.getD 46 0,t.getD 47 0,t.getD 48 0,t.getD 49 0,t.getD 50 0,t.getD 51 0,t.getD 52 0,t.getD 53 0,t.getD 54 0,t.getD 55 0,t.getD 56 0,t.getD 57 0,t.getD 58 0,t.getD 59 0,t.getD 60 0,t.getD 61 0,t.getD 62 0,t.getD 63 0,t.getD 64 0,t.getD 65 0,t.getD 66 0,t.getD 67 0,t.getD 68 0,t.getD 69 0,t.getD 70 0,t.getD 71 0,t.getD 72 0,t.getD 73 0,t.getD 74 0,t.getD 75 0,t.getD 76 0,t.getD 77 0,t.getD 78 0,t.getD 79 0,t.getD 80 0,t.getD 81 0,t.getD 82 0,t.getD 83 0,t.getD 84 0,t.getD 85 0,t.getD 86 0,t.getD 87 0,t.getD 88 0,t.getD 89 0,t.getD 90 0,t.getD 91 0,t.getD 92 0,t.getD 93 0,t.getD 94 0,t.getD 95 0]:=by
 apply List.ext_getElem
 · rw[ht];rfl
 · intro i h1 h2
   have e: ∀j (hj:j<96),[t.getD 0 0,t.getD 1 0,t.getD 2 0,t.getD 3 0,t.getD 4 0,t.getD 5 0,t.getD 6 0,t.getD 7 0,t.getD 8 0,t.getD 9 0,t.getD 10 0,t.getD 11 0,t.getD 12 0,t.getD 13 0,t.getD 14 0,t.getD 15 0,t.getD 16 0,t.getD 17 0,t.getD 18 0,t.getD 19 0,t.getD 20 0,t.getD 21 0,t.getD 22 0,t.getD 23 0,t.getD 24 0,t.getD 25 0,t.getD 26 0,t.getD 27 0,t.getD 28 0,t.getD 29 0,t.getD 30 0,t.getD 31 0,t.getD 32 0,t.getD 33 0,t.getD 34 0,t.getD 35 0,t.getD 36 0,t.getD 37 0,t.getD 38 0,t.getD 39 0,t.getD 40 0,t.getD 41 0,t.getD 42 0,t.getD 43 0,t.getD 44 0,t.getD 45 0,t.getD 46 0,t.getD 47 0,t.getD 48 0,t.getD 49 0,t.getD 50 0,t.getD 51 0,t.getD 52 0,t.getD 53 0,t.getD 54 0,t.getD 55 0,t.getD 56 0,t.getD 57 0,t.getD 58 0,t.getD 59 0,t.getD 60 0,t.getD 61 0,t.getD 62 0,t.getD 63 0,t.getD 64 0,t.getD 65 0,t.getD 66 0,t.getD 67 0,t.getD 68 0,t.getD 69 0,t.getD 70 0,t.getD 71 0,t.getD 72 0,t.getD 73 0,t.getD 74 0,t.getD 75 0,t.getD 76 0,t.getD 77 0,t.getD 78 0,t.getD 79 0,t.getD 80 0,t.getD 81 0,t.getD 82 0,t.getD 83 0,t.getD 84 0,t.getD 85 0,t.getD 86 0,t.getD 87 0,t.getD 88 0,t.getD 89 0,t.getD 90 0,t.getD 91 0,t.getD 92 0,t.getD 93 0,t.getD 94 0,t.getD 95 0][j]'hj=t.getD j 0:=by
     intro j hj
     have:[t.getD 0 0,t.getD 1 0,t.getD 2 0,t.getD 3 0,t.getD 4 0,t.getD 5 0,t.getD 6 0,t.getD 7 0,t.getD 8 0,t.getD 9 0,t.getD 10 0,t.getD 11 0,t.getD 12 0,t.getD 13 0,t.getD 14 0,t.getD 15 0,t.getD 16 0,t.getD 17 0,t.getD 18 0,t.getD 19 0,t.getD 20 0,t.getD 21 0,t.getD 22 0,t.getD 23 0,t.getD 24 0,t.getD 25 0,t.getD 26 0,t.getD 27 0,t.getD 28 0,t.getD 29 0,t.getD 30 0,t.getD 31 0,t.getD 32 0,t.getD 33 0,t.getD 34 0,t.getD 35 0,t.getD 36 0,t.getD 37 0,t.getD 38 0,t.getD 39 0,t.getD 40 0,t.getD 41 0,t.getD 42 0,t.getD 43 0,t.getD 44 0,t.getD 45 0,t.getD 46 0,t.getD 47 0,t.getD 48 0,t.getD 49 0,t.getD 50 0,t.getD 51 0,t.getD 52 0,t.getD 53 0,t.getD 54 0,t.getD 55 0,t.getD 56 0,t.getD 57 0,t.getD 58 0,t.getD 59 0,t.getD 60 0,t.getD 61 0,t.getD 62 0,t.getD 63 0,t.getD 64 0,t.getD 65 0,t.getD 66 0,t.getD 67 0,t.getD 68 0,t.getD 69 0,t.getD 70 0,t.getD 71 0,t.getD 72 0,t.getD 73 0,t.getD 74 0,t.getD 75 0,t.getD 76 0,t.getD 77 0,t.getD 78 0,t.getD 79 0,t.getD 80 0,t.getD 81 0,t.getD 82 0,t.getD 83 0,t.getD 84 0,t.getD 85 0,t.getD 86 0,t.getD 87 0,t.getD 88 0,t.getD 89 0,t.getD 90 0,t.getD 91 0,t.getD 92 0,t.getD 93 0,t.getD 94 0,t.getD 95 0]=(List.range 96).map (λk=>t.getD k 0):=rfl
     simp only[this,List.getElem_map,List.getElem_range]
   rw[e i (by omega),List.getD_eq_getElem?_getD,List.getElem?_eq_getElem h1]
   rfl
theorem run_ok(t:List Int)(ht:t.length=96):(Q9h (Q81 8 4 (Qf++t)).1 [] 87).2.2.2=0:=by
 rw[list96 t ht]
 exact run87 _ _ _ _ _ _ _ _ _ _ _ _ _ _ _ _ _ _ _ _ _ _ _ _ _ _ _ _ _ _ _ _ _ _ _ _ _ _ _ _ _ _ _ _ _ _ _ _ _ _ _ _ _ _ _ _ _ _ _ _ _ _ _ _ _ _ _ _ _ _ _ _ _ _ _ _ _ _ _ _ _ _ _ _ _ _ _ _ _ _ _ _ _ _ _ _
theorem pad_len:Qf.length=160:=by
 have h:boot.length≤160:=asm_ok.1
 unfold Qf
 rw[List.length_append,List.length_replicate];omega
theorem runN8_w{P:Nat}{m:Q00}(h:okM P m):(Qac m [] 87).w (λx=>x.2.2.2=0→okM P x.1):=by
 have z: ∀{k:Int} {p:Prop},k≠0→k=0→p:=λa b=>absurd b a
 unfold Qac
 refine w_lv λx0 _=>w_br (λ_=>z (by decide)) λ_=>w_br (λ_=>z (by decide)) λ_=>w_br (λ_=>z (by decide)) λ_=>w_an (show Q4u [] by show([]:List Q1g).length≤1000000000000;decide) (w_lv λx1 _=>w_br (λ_=>z (by decide)) λ_=>Q0d (own7_w h) λx2 hx=> ?_)
 have hc:=h.cnt
 refine w_lp (inv:=λv:Q00×List Q0e=>okM P v.1∧v.2.length+(87-v.1.A4).toNat≤87) (μ:=Qhh m [] 87) ⟨hx.1,by rw[hx.2];show 0+_≤87;omega⟩ (Nat.lt_succ_self _) λv0 ⟨a1,a3⟩=> ?_
 have a2:=a1.cnt
 refine w_br (λhb=>w_br (λ_=> ?_) (λ_=>λ_=>a1)) (λ_=>λ_=>a1)
 have hb:=of_decide_eq_true hb
 refine w_lp (inv:=λ_=>True) (μ:=Qhs m [] 87 v0) trivial (Nat.lt_succ_self _) λv1 _=> ?_
 refine w_br (λ_=>λ_=>a1) λ_=>Q0d (idle_w _) λx3 _=>w_br (λ_=>λ_=>a1) λ_=>Q0d (reads_w a1.cpu a1.mem) λx4 _=>w_br (λ_=>z (by decide)) λ_=>Q0d (Zeh a1 U_0) λx5 h5=> ?_
 obtain⟨b1,b2,b3⟩:=h5
 refine w_cn (decide_eq_true (by omega)) (w_nx ?_)
 have e:x5.2.A4=v0.1.A4+1:=by rw[b3,IntKind.wrap_u64];omega
 show(_∧_)∧(_:Nat)<_
 refine⟨⟨b2,by show(v0.2++x5.1).length+(87-x5.2.A4).toNat≤87;rw[List.length_append];omega⟩,by show(87-x5.2.A4).toNat<(87-v0.1.A4).toNat;omega⟩
theorem Za8(kind:Int)(l:List Int)(hl:l.length*8≤reachBytes)(h40:l.length≤60):(Q6v kind l).w (okM 8):=by
  unfold Q6v
  refine w_an (Qdn (by decide)) (w_lv λx0 hx0=>w_br (λ_=>w_an asm_pre (w_lv λx1 e1=> ?_)) (λhk=> ?_))
  · have eb:x1.1=boot:=by rw[e1];rfl
    obtain⟨q1,q2⟩:boot.length≤160∧ ∀w∈boot,U w:=asm_ok
    refine w_lp (inv:=λv:List Int=>v.length≤160∧v=boot++List.replicate (v.length-boot.length) 0) (μ:=Qe8 kind l) ⟨by rw[eb];exact q1,by rw[eb];simp⟩ (Nat.lt_succ_self _) λv0 ⟨a1,a2⟩=> ?_
    have a3:boot.length≤v0.length:=by rw[a2,List.length_append];omega
    refine w_br (λhb=> ?_) (λhb=> ?_)
    · have hb:=of_decide_eq_true hb
      refine w_cn (decide_eq_true (by omega)) (w_nx ?_)
      show(_∧_)∧(_:Nat)<_
      refine⟨⟨by rw[List.length_append,List.length_singleton];omega,?_⟩,by show 160-(v0++[0]).length<160-v0.length;rw[List.length_append,List.length_singleton];omega⟩
      show v0++[0]=boot++List.replicate ((v0++[0]).length-boot.length) 0
      rw[List.length_append,List.length_singleton,show v0.length+1-boot.length=(v0.length-boot.length)+1 by omega,List.replicate_succ',←List.append_assoc,←a2]
    · have hb:=of_decide_eq_false hb
      have hv:v0=Qf:=by
        unfold Qf
        rw[show(160:Nat)=v0.length by omega]
        exact a2
      subst hv
      have hp:=pad_len
      have hu0: ∀w∈Qf,U w:=λw hw=>(List.mem_append.1 hw).elim (q2 w) (U_all _ w)
      refine Q0d (code_w l hl) λx2 ⟨b1,b2⟩=>w_cn (decide_eq_true (by omega)) ?_
      have hu: ∀w∈Qf++x2,U w:=λw hw=>(List.mem_append.1 hw).elim (hu0 w) (b2 w)
      have hlen:(Qf++x2).length≤256:=by rw[List.length_append];omega
      refine w_br (λhb=> ?_) (λhb=> ?_)
      · have hb:=of_decide_eq_true hb;omega
      · have nw:=Tree.pp (new_w _ hu hlen)
        refine w_an nw.1 (w_lv λx3 h3=> ?_)
        have c1:okM 8 x3.1:=by rw[h3];exact nw.2.1
        have rn:=Tree.pp (runN8_w c1)
        refine w_br (λ_=>w_an rn.1 (w_lv λx4 hx=> ?_)) (λ_=>c1)
        have e:x3=Q81 8 4 (Qf++(x2++List.replicate (96-x2.length) 0)):=by
          rw[h3]
          have hl2:(x2++List.replicate (96-x2.length) (0:Int)).length=96:=by rw[List.length_append,List.length_replicate];omega
          refine new_mem _ _ hlen (by rw[List.length_append,hl2];omega) ?_
          rw[List.length_append,List.length_append,hl2,hp,List.append_assoc,List.append_assoc,List.append_assoc,show 256-(160+96)=0 by omega,show 256-(160+x2.length)=96-x2.length by omega]
          simp
        have h0:x4.2.2.2=0:=by
          rw[hx,e]
          exact run_ok _ (by rw[List.length_append,List.length_replicate];omega)
        exact(by rw[hx];exact rn.2:x4.2.2.2=0→okM 8 x4.1) h0
  · have hk:=of_decide_eq_false hk
    refine Q0d (code_w l hl) λx2 ⟨b1,b2⟩=>w_cn (decide_eq_true (by omega)) ?_
    refine w_br (λhb=> ?_) (λhb=> ?_)
    · have hb:=of_decide_eq_true hb;omega
    · have nw:=Tree.pp (new_w _ b2 (by omega))
      refine w_an nw.1 (w_lv λx3 h3=> ?_)
      have c1:okM 8 x3.1:=by rw[h3];exact nw.2.1
      exact w_br (λh=>absurd (eq_of_beq h) (by omega)) (λ_=>c1)
def out(f:Int)(m m':List Int):Prop:= ∀j:Nat,¬(f*32≤j∧(j:Int)<f*32+32)→m'.getD j 0=m.getD j 0
theorem Z3m(f:Int)(m:List Int):out f m m:=λ_ _=>rfl
theorem getDset(l:List Int)(i j:Nat)(v:Int)(h:i≠j):(l.set i v).getD j 0=l.getD j 0:=by
 simp only[List.getD_eq_getElem?_getD,List.getElem?_set_ne h]
theorem Q6r{P:Nat}{m:List Int}(h:Q12 P m):Q0f m=P:=by
 obtain⟨h1,h2,h3,_⟩:=h
 simp only[Q0f,Q3v,Tree.m]
 have e:(m.length:Int)=32*P:=by omega
 rw[e]
 have e1:(Int.tmod (32*(P:Int)) 32 !=0)=false:=by simp [Int.mul_tmod_right]
 have e2:decide ((32*(P:Int))>1024)=false:=decide_eq_false (by omega)
 rw[e1,e2]
 simp only[cond_false]
 rw[Int.mul_tdiv_cancel_left _ (by decide),IntKind.wrap_i64];omega
theorem has_eq{P:Nat}{m:List Int}(h:Q12 P m)(f:Int):Q1r m f=true→0≤f∧f<P:=by
 have hp:=Q6r h
 simp only[Q1r,Q3g,Tree.m,letv,hp]
 cases h1:decide (f≥0)
 · intro h;cases h
 · intro h;exact⟨of_decide_eq_true h1,of_decide_eq_true h⟩
theorem setPage_w{P:Nat}{m:List Int}(h:Q12 P m)(f:Int)(s:List UInt8):(Q2n m f s).w (λr=>Q12 P r.1∧out f m r.1∧(r.2=false→r.1=m)):=by
 have hcl:Q05 m=m:=rfl
 have h2:=h.p2
 unfold Q2n
 refine w_an (Qk4 h) (w_lv λx0 hx0=>w_lv λx1 hx1=> ?_)
 rw[hcl]at hx0;subst hx0
 refine w_br (λ_=>⟨h,Z3m _ _,λ_=>rfl⟩) λhb=>w_br (λ_=>⟨h,Z3m _ _,λ_=>rfl⟩) λhs=> ?_
 have hb:x1=true:=by simpa using hb
 obtain⟨f0,f1⟩:=has_eq h f (hx1.symm.trans hb)
 have hs:(s.length:Int)=128:=by simpa using hs
 refine w_lp (inv:=λz:Int×List Int=>0≤z.1∧z.1≤32∧Q12 P z.2∧out f x0 z.2) (μ:=Q6g x0 f s) ⟨show(0:Int)≤0 by decide,show(0:Int)≤32 by decide,h,Z3m _ _⟩ (Nat.lt_succ_self _) λz ⟨z1,z2,z3,z4⟩=> ?_
 refine w_br (λhb=> ?_) (λ_=>⟨z3,z4,λh=>by cases h⟩)
 have hb:=of_decide_eq_true hb
 have e1:IntKind.i64.wrap (4*z.1)=4*z.1:=by rw[IntKind.wrap_i64];omega
 have e2:IntKind.i64.wrap (IntKind.i64.wrap (4*z.1)+4)=4*z.1+4:=by rw[IntKind.wrap_i64,IntKind.wrap_i64];omega
 have e3:IntKind.i64.wrap (IntKind.i64.wrap (f*32)+z.1)=f*32+z.1:=by rw[IntKind.wrap_i64,IntKind.wrap_i64];omega
 have hl:=z3.len
 have hlen:(List.take (Int.toNat (IntKind.i64.wrap (IntKind.i64.wrap (4*z.1)+4))-Int.toNat (IntKind.i64.wrap (4*z.1))) (List.drop (Int.toNat (IntKind.i64.wrap (4*z.1))) s)).length=4:=by
   rw[e2,e1,List.length_take,List.length_drop];omega
 refine w_cn (decide_eq_true (by rw[e2,e1];omega)) ?_
 refine w_cn (decide_eq_true (by rw[hlen];decide)) (w_cn (decide_eq_true (by rw[hlen];decide)) (w_cn (decide_eq_true (by rw[hlen];decide)) (w_cn (decide_eq_true (by rw[hlen];decide)) (w_cn (by rw[e3];simp [Nat.blt];omega) (w_nx ?_)))))
 show(_∧_∧Q12 P (List.set _ _ _)∧out f x0 (List.set _ _ _))∧(_:Nat)<_
 have ew:IntKind.i64.wrap (z.1+1)=z.1+1:=by rw[IntKind.wrap_i64];omega
 rw[e3]
 refine⟨⟨by rw[ew];omega,by rw[ew];omega,⟨by rw[List.length_set];exact hl,z3.p1,z3.p2,Z7e z3.u (U_or _ _) _⟩,λj hj=> ?_⟩,by show(32-IntKind.i64.wrap (z.1+1)).toNat<(32-z.1).toNat;rw[ew];omega⟩
 rw[getDset _ _ _ _ (by omega)]
 exact z4 j hj
theorem text_w(w:List Int)(h:w.length≤32):(Q2t w).w (λr=>r.length=4*w.length):=by
 have e0:IntKind.i64.wrap (4*(w.length:Int))=4*w.length:=by rw[IntKind.wrap_i64];omega
 unfold Q2t
 refine w_cn (by rw[e0];simp [Nat.blt,D.plain];omega) ?_
 refine w_lp (inv:=λz:Int×List Int=>0≤z.1∧z.1≤w.length∧(z.2.length:Int)=4*z.1) (μ:=Q4f w) ⟨by decide,by show(0:Int)≤w.length;omega,rfl⟩ (Nat.lt_succ_self _) λz ⟨z1,z2,z3⟩=> ?_
 refine w_br (λhb=> ?_) (λhb=> ?_)
 · have hb:=of_decide_eq_true hb
   have ew:IntKind.i64.wrap (z.1+1)=z.1+1:=by rw[IntKind.wrap_i64];omega
   refine w_cn (by simp [Nat.blt];omega) (w_cn (decide_eq_true (by omega)) (w_nx ?_))
   show(_∧_∧_)∧(_:Nat)<_
   refine⟨⟨by rw[ew];omega,by rw[ew];omega,by rw[ew,List.length_append];simp only[List.length_cons,List.length_nil];omega⟩,by show(w.length-IntKind.i64.wrap (z.1+1)).toNat<(w.length-z.1).toNat;rw[ew];omega⟩
 · have hb:=of_decide_eq_false hb
   show(bytesOf z.2).length=_
   rw[Qh6];omega
theorem mpage_w{P:Nat}{m:List Int}(h:Q12 P m)(f:Int):(Q2r m f).w (λr=>0≤f→f<P→r.1.length=128):=by
 have hl:=h.len
 have h2:=h.p2
 unfold Q2r
 refine w_lv λx0 hx0=>w_br (λhb=>λf0 f1=> ?_) (λhb=> ?_)
 · have hp:=Q6r h
   have hb:x0=false:=by simpa using hb
   rw[hb]at hx0
   simp only[Q1r,Q3g,Tree.m,letv,hp]at hx0
   rw[decide_eq_true f0]at hx0
   exact absurd f1 (of_decide_eq_false hx0.symm)
 · have hb:x0=true:=by simpa using hb
   obtain⟨f0,f1⟩:=has_eq h f (hx0.symm.trans hb)
   have e1:IntKind.i64.wrap (f*32)=f*32:=by rw[IntKind.wrap_i64];omega
   have e2:IntKind.i64.wrap (IntKind.i64.wrap (f*32)+32)=f*32+32:=by rw[IntKind.wrap_i64,IntKind.wrap_i64];omega
   have hlen:(List.take (Int.toNat (IntKind.i64.wrap (IntKind.i64.wrap (f*32)+32))-Int.toNat (IntKind.i64.wrap (f*32))) (List.drop (Int.toNat (IntKind.i64.wrap (f*32))) m)).length=32:=by
     rw[e2,e1,List.length_take,List.length_drop];omega
   refine w_cn (by rw[e2,e1];simp [Nat.blt];omega) ?_
   refine w_an (by show List.length _≤1000000000000;rw[hlen];decide) (w_lv λx1 h1=> ?_)
   have h1:x1.length=4*(List.take (Int.toNat (IntKind.i64.wrap (IntKind.i64.wrap (f*32)+32))-Int.toNat (IntKind.i64.wrap (f*32))) (List.drop (Int.toNat (IntKind.i64.wrap (f*32))) m)).length:=by rw[h1];exact(Tree.pp (text_w _ (Nat.le_of_eq hlen))).2
   intro _ _
   show x1.length=128
   rw[h1,hlen]
theorem u64_lt{f:Int}(hf:U f){P:Nat}(hP:P≤32)(h:decide (IntKind.u64.wrap f<IntKind.u64.wrap (P:Int))=true):0≤f∧f<P:=by
 have h:=of_decide_eq_true h
 obtain⟨h1,h2⟩:=hf
 rw[IntKind.wrap_u64,IntKind.wrap_u64,Int.emod_eq_of_lt h1 (by omega),Int.emod_eq_of_lt (by omega) (by omega)]at h
 exact⟨h1,h⟩
theorem dev_eq(m:Q00):Q0r m=(Q35 m.A1&&(Q8i m.A9&&(Q3k m.B0 (Q0f m.Mem)&&(Qd9 m.C2 (Q0f m.Mem)&&Q3r m.A0 (Q0f m.Mem))))):=by
 simp only[Q0r,Q1y,Tree.m,letv]
 cases Q35 m.A1<;>cases Q8i m.A9<;>cases Q3k m.B0 (Q0f m.Mem)<;>cases Qd9 m.C2 (Q0f m.Mem)<;>rfl
def chain(b1 b2 b3 b4 b5 b6 b7 w h dev:Bool):Bool:=bif b1 then false else bif b2 then false else bif b3 then false else bif b4 then false else bif b5 then false else bif b6 then false else bif b7 then false else bif w then(bif h then false else dev) else dev
def mayC(p:Int)(c:Q02)(ct:Int)(w h dev:Bool):Bool:=chain (p==0) (c.X.a0 !=0) (decide (c.B5.a0>31)) (decide (c.B5.a7>31)) (decide (c.B5.a6>255)) (Int.tmod c.B5.a1 4 !=0) (decide (ct>1152921504606846976)) w h dev
theorem may_eq(m:Q00):Q5t m=mayC (Q0f m.Mem) m.B1 m.A4 m.A2 m.A6 (Q0r m):=rfl
section
variable {P:Nat} {m:List Int} (h:Q12 P m)
include h
theorem dpage{f:Int}(hf:U f){b:Bool}(hx:b=Qh5 m f)(hb:b=true):0≤f∧f<P:=by
 have hp:=Q6r h
 rw[hb]at hx
 simp only[Qh5,Qgl,Tree.m,letv,hp]at hx
 exact u64_lt hf h.p2 hx.symm
theorem npage{f:Int}(hf:U f){b:Bool}(hx:b=Qfx m f)(hb:b=true):0≤f∧f<P:=by
 have hp:=Q6r h
 rw[hb]at hx
 simp only[Qfx,Qjv,Tree.m,letv,hp]at hx
 exact u64_lt hf h.p2 hx.symm
def keepD(P:Nat)(d d':Q0b):Prop:=Qi2 d'∧(Q3k d P=true→Q3k d' P=true)
theorem issue_w{d:Q0b}(hd:Qi2 d){cmd:Int}(hc:cmd=1∨cmd=2)(at0:Int):(Qam d m cmd at0).w (λr=>keepD P d r.1∧r.2.length≤1):=by
 have h2:=h.p2
 have st3:(d.C0 !=0)=false→keepD P d {Blocks:=d.Blocks,B6:=d.B6,Frame:=d.Frame,C0:=3,D7:=d.D7,B3:=d.B3,B4:=d.B4,B7:=d.B7}:=λhs=>by
   have hs:d.C0=0:=by simpa using hs
   refine⟨⟨hd.block,hd.frame,hd.opBlock,hd.opFrame⟩,λhm=> ?_⟩
   simp only[Q3k,Q7u,Tree.m,hs]at hm⊢
   exact hm
 have blk:Q3k d P=true→decide (d.Blocks>64)=false:=λhm=>by
   cases hb:decide (d.Blocks>64)
   · rfl
   · have:Q3k d P=false:=by simp only[Q3k,Q7u,Tree.m];rw[hb];rfl
     rw[this]at hm;cases hm
 unfold Qam
 refine w_br (λ_=>⟨⟨hd,λh=>h⟩,Nat.zero_le _⟩) λhs=>w_br (λ_=>⟨st3 hs,Nat.zero_le _⟩) λhb=>w_lv λx0 hx=>w_br (λ_=>⟨st3 hs,Nat.zero_le _⟩) λhp=> ?_
 have hb:=of_decide_eq_false hb
 obtain⟨f0,f1⟩:=dpage h hd.frame hx (by simpa using hp)
 have ef:IntKind.i64.wrap d.Frame=d.Frame:=by rw[IntKind.wrap_i64];omega
 have e1:decide (d.B6<d.Blocks)=true:=decide_eq_true (by omega)
 have e2:decide (IntKind.i64.wrap d.Frame<(P:Int))=true:=by rw[ef];exact decide_eq_true f1
 refine w_br (λhcm=>Q0d (mpage_w h _) λx1 h1=> ?_) (λhcm=> ?_)
 · rw[ef]at h1
   have h1:=h1 f0 f1
   have hcm:=eq_of_beq hcm
   subst hcm
   refine w_lv λx2 _=>⟨⟨⟨hd.block,hd.frame,hd.block,hd.frame⟩,λhm=> ?_⟩,Nat.le_refl _⟩
   simp only[Q3k,Q7u,Q8y,Q5y,Tree.m,letv,blk hm,e1,e2,h1]
   rfl
 · have hc:cmd=1:=by
     rcases hc with h|h
     · exact h
     · rw[h]at hcm;exact absurd hcm (by decide)
   subst hc
   refine w_lv λx2 _=>⟨⟨⟨hd.block,hd.frame,hd.block,hd.frame⟩,λhm=> ?_⟩,Nat.le_refl _⟩
   simp only[Q3k,Q7u,Q8y,Q5y,Tree.m,letv,blk hm,e1,e2]
   rfl
theorem diskP_w{d:Q0b}(hd:Qi2 d)(port:Int){v:Int}(hv:U v)(at0:Int):(Qfj d m port v at0).w (λr=>keepD P d r.1∧r.2.length≤1):=by
 have keep:keepD P d d:=⟨hd,λh=>h⟩
 have e1: ∀{k:Int},(v==k)=true→IntKind.i64.wrap v=k:=λhk=>by
   have:=eq_of_beq hk
   obtain⟨a,b⟩:=hv
   rw[IntKind.wrap_i64];omega
 unfold Qfj
 refine w_br (λ_=>⟨⟨⟨hv,hd.frame,hd.opBlock,hd.opFrame⟩,λh=>h⟩,Nat.zero_le _⟩) λ_=>w_br (λ_=>⟨⟨⟨hd.block,hv,hd.opBlock,hd.opFrame⟩,λh=>h⟩,Nat.zero_le _⟩) λ_=>w_br (λ_=>w_br (λhk=>Q0d (issue_w h hd (.inl (e1 hk)) _) λx hx=>hx) λ_=>w_br (λhk=>Q0d (issue_w h hd (.inr (e1 hk)) _) λx hx=>hx) λ_=>w_br (λ_=>w_lv λx hx=>w_br (λhb=> ?_) (λ_=>⟨keep,Nat.zero_le _⟩)) (λ_=>⟨keep,Nat.zero_le _⟩)) (λ_=>⟨keep,Nat.zero_le _⟩)
 refine⟨⟨⟨hd.block,hd.frame,hd.opBlock,hd.opFrame⟩,λhm=> ?_⟩,Nat.zero_le _⟩
 rw[hb]at hx
 simp only[Qep,Qf9,Tree.m]at hx
 cases h2:d.C0==2
 · rw[h2]at hx
   have h3:d.C0=3:=eq_of_beq hx.symm
   simp only[Q3k,Q7u,Tree.m,h3]at hm⊢
   exact hm
 · have h3:d.C0=2:=eq_of_beq h2
   simp only[Q3k,Q7u,Tree.m,h3]at hm⊢
   exact hm
def keepN(P:Nat)(n n':Q0m):Prop:=Qp1 n'∧(Qd9 n P=true→Qd9 n' P=true)
theorem send_w{n:Q0m}(hn:Qp1 n)(at0:Int):(Qft n m at0).w (λr=>r.length≤1):=by
 have h2:=h.p2
 unfold Qft
 refine w_br (λ_=>Nat.zero_le _) λl1=>w_br (λ_=>Nat.zero_le _) λl2=>w_lv λx0 hx=>w_br (λ_=>Nat.zero_le _) λhp=>Q0d (mpage_w h _) λx1 h1=> ?_
 have l1:=of_decide_eq_false l1
 have l2:=of_decide_eq_false l2
 obtain⟨f0,f1⟩:=npage h hn.frame hx (by simpa using hp)
 have ef:IntKind.i64.wrap n.Frame=n.Frame:=by rw[IntKind.wrap_i64];omega
 rw[ef]at h1
 have h1:=h1 f0 f1
 exact w_cn (decide_eq_true (by omega)) (Nat.le_refl _)
theorem nicP_w{n:Q0m}(hn:Qp1 n)(port:Int){v:Int}(hv:U v)(at0:Int):(Qjz n m port v at0).w (λr=>keepN P n r.1∧r.2.length≤1):=by
 have h2:=h.p2
 have keep:keepN P n n:=⟨hn,λh=>h⟩
 unfold Qjz
 refine w_br (λ_=>⟨⟨⟨hv,hn.len,hn.buffer,hn.got⟩,λh=>h⟩,Nat.zero_le _⟩) λ_=>w_br (λ_=>⟨⟨⟨hn.frame,hv,hn.buffer,hn.got⟩,λh=>h⟩,Nat.zero_le _⟩) λ_=>w_br (λ_=>w_br (λ_=>Q0d (send_w h hn _) λx hx=>⟨keep,hx⟩) λ_=>w_br (λ_=>w_lv λx hx=>w_br (λhb=>w_br (λnp=>w_br (λnr=> ?_) (λ_=>⟨keep,Nat.zero_le _⟩)) (λ_=>⟨keep,Nat.zero_le _⟩)) (λ_=>⟨keep,Nat.zero_le _⟩)) λ_=>w_br (λ_=> ?_) (λ_=>⟨keep,Nat.zero_le _⟩)) (λ_=>⟨keep,Nat.zero_le _⟩)
 · obtain⟨f0,f1⟩:=npage h hn.frame hx hb
   have np:n.B8=false:=by simpa using np
   have nr:n.B2=false:=by simpa using nr
   have e2:decide (IntKind.i64.wrap n.Frame≥(P:Int))=false:=decide_eq_false (by rw[IntKind.wrap_i64];omega)
   refine⟨⟨⟨hn.frame,hn.len,hn.frame,hn.got⟩,λhm=> ?_⟩,Nat.zero_le _⟩
   simp only[Qd9,Qo4,Tree.m,np,nr,e2]at hm⊢
   cases hb:(n.B9 !=0)
   · rw[hb]at hm;exact hm
   · rw[hb]at hm;cases hm
 · refine⟨⟨⟨hn.frame,hn.len,hn.buffer,U_0⟩,λhm=> ?_⟩,Nat.zero_le _⟩
   simp only[Qd9,Qo4,Tree.m]at hm⊢
   revert hm
   cases n.B8<;>cases n.B2<;>cases decide (IntKind.i64.wrap n.B9≥(P:Int))<;>cases(n.B9 !=0)<;>simp
end
theorem arm_may(t:Q0k)(v:Int):Q8i (Qpd t v)=true:=by
 simp only[Qpd,Qmg,Q8i,Qmo,Tree.m]
 cases h:(v !=0)
 · have:v=0:=by simpa using h
   subst this;rfl
 · rfl
theorem Zdb{a:Int}(k:Nat)(hk:k≤32):ishr .u32 a k=a/2^k:=by
 unfold ishr
 have e:min (k:Int).toNat IntKind.u32.bits=k:=by show min (k:Int).toNat 32=k;omega
 have hp:(0:Int)<2^k:=Int.pow_pos (by decide)
 rw[e,Int.fdiv_eq_ediv_of_nonneg _ (Int.le_of_lt hp)]
def Zfu(x:Int)(n:Nat):Prop:=x<2^n∧(n=0∨(2:Int)^(n-1)≤x)
theorem Z4h{x q:Int}{n k:Nat}(hq:q=x/2^k)(h0:0<q)(h:Zfu q n):Zfu x (n+k):=by
 have hp:(0:Int)<2^k:=Int.pow_pos (by decide)
 obtain⟨h1,h2⟩:=h
 have hn:n≠0:=λe=>by subst e;simp at h1;omega
 refine⟨?_, .inr ?_⟩
 · rw[Int.pow_add]
   have:x<(x/2^k+1)*2^k:=Int.lt_ediv_add_one_mul_self x hp
   have h3:(x/2^k+1)*2^k≤2^n*2^k:=Int.mul_le_mul_of_nonneg_right (by omega) (Int.le_of_lt hp)
   omega
 · have h2:=h2.resolve_left hn
   have e:n+k-1=(n-1)+k:=by omega
   rw[e,Int.pow_add]
   have h3:(2:Int)^(n-1)*2^k≤q*2^k:=Int.mul_le_mul_of_nonneg_right h2 (Int.le_of_lt hp)
   have h4:q*2^k≤x:=by rw[hq];exact Int.ediv_mul_le x (Int.ne_of_gt hp)
   omega
theorem isLen_le{x:Int}{n p:Nat}(h:Zfu x n)(hx:x<2^p):n≤p:=by
  obtain⟨h1,h2⟩:=h
  rcases h2 with h2|h2
  · omega
  · rcases Nat.lt_or_ge p n with hlt|hge
    · have:(2:Int)^p≤2^(n-1):=by
        have:=Nat.pow_le_pow_right (show 0<2 by omega) (show p≤n-1 by omega)
        exact_mod_cast this
      omega
    · exact hge
theorem Zao{x:Int}{n p:Nat}(h:Zfu x n)(hn:n≤p):x<2^p:=by
 have:(2:Int)^n≤2^p:=by
   have:=Nat.pow_le_pow_right (show 0<2 by omega) hn
   exact_mod_cast this
 exact Int.lt_of_lt_of_le h.1 this
def lenChk(i:Nat):Bool:=match(Q11 (i:Int)) with
 | .ofNat n=>decide ((i:Int)<2^n)&&(Nat.beq n 0||decide ((2:Int)^(n-1)≤i))&&decide (n≤8)
 |_=>false
theorem Qob{q:Int}(h0:0≤q)(h1:q<256): ∃n:Nat,Q11 q=n∧Zfu q n∧n≤8:=by
 have all:List.all (List.range 256) lenChk=true:=by kernel_rfl
 have:=List.all_eq_true.1 all q.toNat (List.mem_range.2 (by omega))
 have hq:((q.toNat:Nat):Int)=q:=by omega
 unfold lenChk at this
 rw[hq]at this
 split at this
 · rename_i n hn
   simp only[Bool.and_eq_true,Bool.or_eq_true,decide_eq_true_eq]at this
   refine⟨n,hn,⟨this.1.1,?_⟩,this.2⟩
   rcases this.1.2 with h|h
   · exact .inl (Nat.eq_of_beq_eq_true h)
   · exact .inr h
 · cases this
theorem len_24{x:Int}(h:U x)(hx:16777216≤x):Q11 x=24+Q11 (x/16777216):=by
 obtain⟨h0,h1⟩:=h
 have s16:ishr .u32 x 16=x/65536:=Zdb 16 (by omega)
 have s24:ishr .u32 (x/65536) 8=x/16777216:=by rw[show((8:Int))=((8:Nat):Int) from rfl,Zdb 8 (by omega)];omega
 have d1:decide (x≥65536)=true:=decide_eq_true (by omega)
 have d2:decide (x/65536≥256)=true:=decide_eq_true (by omega)
 have d3:decide (x/16777216≥65536)=false:=decide_eq_false (by omega)
 have d4:decide (x/16777216≥256)=false:=decide_eq_false (by omega)
 have u:IntKind.u8.wrap (x/16777216)=x/16777216:=by rw[IntKind.wrap_u8];omega
 simp only[Q11,Q1p,Tree.m,s16,s24,d1,d2,d3,d4,u,cond_true,cond_false]
 generalize(List.getD _ (Int.toNat (x/16777216)) (0:UInt8))=b
 have hb:=UInt8.toNat_lt b
 rw[IntKind.wrap_i64,IntKind.wrap_i64,IntKind.wrap_i64,IntKind.wrap_i64]
 omega
theorem len_16{x:Int}(h0:65536≤x)(h1:x<16777216):Q11 x=16+Q11 (x/65536):=by
 have s16:ishr .u32 x 16=x/65536:=Zdb 16 (by omega)
 have d1:decide (x≥65536)=true:=decide_eq_true (by omega)
 have d2:decide (x/65536≥256)=false:=decide_eq_false (by omega)
 have d3:decide (x/65536≥65536)=false:=decide_eq_false (by omega)
 have u:IntKind.u8.wrap (x/65536)=x/65536:=by rw[IntKind.wrap_u8];omega
 simp only[Q11,Q1p,Tree.m,s16,d1,d2,d3,u,cond_true,cond_false]
 generalize(List.getD _ (Int.toNat (x/65536)) (0:UInt8))=b
 have hb:=UInt8.toNat_lt b
 rw[IntKind.wrap_i64,IntKind.wrap_i64,IntKind.wrap_i64]
 omega
theorem len_8{x:Int}(h0:256≤x)(h1:x<65536):Q11 x=8+Q11 (x/256):=by
 have s8:ishr .u32 x 8=x/256:=Zdb 8 (by omega)
 have d1:decide (x≥65536)=false:=decide_eq_false (by omega)
 have d2:decide (x≥256)=true:=decide_eq_true (by omega)
 have d3:decide (x/256≥65536)=false:=decide_eq_false (by omega)
 have d4:decide (x/256≥256)=false:=decide_eq_false (by omega)
 have u:IntKind.u8.wrap (x/256)=x/256:=by rw[IntKind.wrap_u8];omega
 simp only[Q11,Q1p,Tree.m,s8,d1,d2,d3,d4,u,cond_true,cond_false]
 generalize(List.getD _ (Int.toNat (x/256)) (0:UInt8))=b
 have hb:=UInt8.toNat_lt b
 rw[IntKind.wrap_i64,IntKind.wrap_i64,IntKind.wrap_i64,IntKind.wrap_i64]
 omega
theorem Zf9{x:Int}(h:U x): ∃n:Nat,Q11 x=n∧Zfu x n:=by
  obtain⟨h0,h1⟩:=h
  rcases Int.lt_or_le x 256 with a|a
  · obtain⟨n,e,l,_⟩:=Qob h0 a
    exact⟨n,e,l⟩
  · rcases Int.lt_or_le x 65536 with b|b
    · obtain⟨n,e,l,_⟩:=Qob (q:=x/256) (by omega) (by omega)
      exact⟨n+8,by rw[len_8 a b,e];omega,Z4h (k:=8) rfl (by omega) l⟩
    · rcases Int.lt_or_le x 16777216 with c|c
      · obtain⟨n,e,l,_⟩:=Qob (q:=x/65536) (by omega) (by omega)
        exact⟨n+16,by rw[len_16 b c,e];omega,Z4h (k:=16) rfl (by omega) l⟩
      · obtain⟨n,e,l,_⟩:=Qob (q:=x/16777216) (by omega) (by omega)
        exact⟨n+24,by rw[len_24 ⟨h0,h1⟩ c,e];omega,Z4h (k:=24) rfl (by omega) l⟩
theorem Z4x{b:Q07}(h:U b.C5){P:Nat}:Q3r b P=true↔b.C5<2^P:=by
 obtain⟨n,e,l⟩:=Zf9 h
 have hp:(if(0:Int)>(P:Int) then(0:Int) else P)=P:=by rw[if_neg (by omega)]
 simp only[Q3r,Q69,Tree.m,letv,e,hp,decide_eq_true_eq]
 constructor
 · intro h;exact Zao l (by omega)
 · intro h;have:=isLen_le l h;omega
theorem Z3d{a:Int}(h:U a){P:Nat}(h1:a<2^P):(BitVec.ofInt 32 a).toNat<2^P:=by
 obtain⟨a0,a1⟩:=h
 rw[BitVec.toNat_ofInt,Int.emod_eq_of_lt a0 (by omega)]
 have:((2^P:Nat):Int)=(2:Int)^P:=by exact_mod_cast rfl
 omega
theorem or_lt{a b:Int}(ha:U a)(hb:U b){P:Nat}(hP:P≤32)(h1:a<2^P)(h2:b<2^P):ior .u32 a b<2^P:=by
 have e:(BitVec.ofInt 32 a|||BitVec.ofInt 32 b).toNat<2^P:=by
   rw[BitVec.toNat_or]
   exact Nat.or_lt_two_pow (Z3d ha h1) (Z3d hb h2)
 have hc:((2^P:Nat):Int)=(2:Int)^P:=by exact_mod_cast rfl
 have l:=(BitVec.ofInt 32 a|||BitVec.ofInt 32 b).isLt
 show IntKind.wrap .u32 ((BitVec.ofInt 32 a|||BitVec.ofInt 32 b).toNat:Int)<2^P
 rw[IntKind.wrap_u32]
 omega
theorem andn_lt{a b:Int}(ha:U a){P:Nat}(h1:a<2^P):Ql9 .u32 a b<2^P:=by
 have e:(BitVec.ofInt 32 a&&&~~~BitVec.ofInt 32 b).toNat<2^P:=by
   rw[BitVec.toNat_and]
   exact Nat.lt_of_le_of_lt Nat.and_le_left (Z3d ha h1)
 have hc:((2^P:Nat):Int)=(2:Int)^P:=by exact_mod_cast rfl
 have l:=(BitVec.ofInt 32 a&&&~~~BitVec.ofInt 32 b).isLt
 show IntKind.wrap .u32 ((BitVec.ofInt 32 a&&&~~~BitVec.ofInt 32 b).toNat:Int)<2^P
 rw[IntKind.wrap_u32]
 omega
theorem shl_one{v:Int}(h0:0≤v)(h1:v<32):ishl .u32 1 v=2^v.toNat:=by
 have e:min v.toNat IntKind.u32.bits=v.toNat:=by show min v.toNat 32=v.toNat;omega
 obtain⟨n,rfl⟩: ∃n:Nat,v=n:=⟨v.toNat,by omega⟩
 have hn:n<32:=by omega
 have hlt:(2:Nat)^n<4294967296:=by
   have:=Nat.pow_lt_pow_right (show 1<2 by omega) hn
   simpa using this
 have hc:((2^n:Nat):Int)=(2:Int)^n:=by exact_mod_cast rfl
 unfold ishl
 rw[e,IntKind.wrap_u32,Int.one_mul,Int.toNat_natCast,←hc]
 clear hc e
 generalize(2:Nat)^n=z at*
 omega
def keepB(P:Nat)(b b':Q07):Prop:=okB b'∧(Q3r b P=true→Q3r b' P=true)
theorem Zes{P:Nat}{m:List Int}(h:Q12 P m){b:Q07}(hb:okB b)(port:Int){v:Int}(hv:U v):(Q8n b m port v).w (λr=>keepB P b r.1∧Q12 P r.2):=by
 have hcl:Q05 m=m:=rfl
 have h2:=h.p2
 have hp:=Q6r h
 have keep:(Tree.an (Q08 m) (.lv (Q05 m) λx=> .lf (b,x))).w (λr=>keepB P b r.1∧Q12 P r.2):=w_an (Qk4 h) (w_lv λx hx=>by rw[hcl]at hx;subst hx;exact⟨⟨hb,λh=>h⟩,h⟩)
 unfold Q8n
 refine w_br (λ_=>keep) λhlt=>w_cn (decide_eq_true hv.1) (w_br (λ_=>w_lv λx1 hx=>w_br (λhpg=>w_br (λ_=>w_an ⟨by decide,by decide,by decide⟩ (w_lv λx2 _=>Q0d (setPage_w h _ _) λx3 ⟨h3,_⟩=> ?_)) (λ_=>keep)) (λ_=>keep)) (λ_=>w_br (λ_=>w_an (Qk4 h) (w_lv λx hx=> ?_)) (λ_=>keep)))
 · have hlt:=of_decide_eq_false hlt
   have hpg:=of_decide_eq_true hpg
   rw[hx,hp]at hpg
   obtain⟨v0,v1⟩:=hv
   have ev:IntKind.i64.wrap v=v:=by rw[IntKind.wrap_i64];omega
   rw[ev]at hpg
   refine⟨⟨⟨hb.1,Q0n _⟩,λhm=> ?_⟩,h3⟩
   rw[Z4x hb.2]at hm
   rw[Z4x (Q0n _)]
   have hs:ishl .u32 1 v<2^P:=by
     rw[shl_one v0 (by omega)]
     have:=Nat.pow_lt_pow_right (show 1<2 by omega) (show v.toNat<P by omega)
     exact_mod_cast this
   exact or_lt hb.2 (Q0n _) h2 hm hs
 · rw[hcl]at hx;subst hx
   refine⟨⟨⟨hb.1,Q0n _⟩,λhm=> ?_⟩,h⟩
   rw[Z4x hb.2]at hm
   rw[Z4x (Q0n _)]
   exact andn_lt hb.2 hm
structure kept(P:Nat)(m n:Q00):Prop where
 ok:okS P n
 dev:Q0r m=true→Q0r n=true
 cpu:n.B1=m.B1
 cnt:n.A4=m.A4
 wait:n.A2=m.A2
 halt:n.A6=m.A6
theorem Z6x{P:Nat}{m:Q00}(h:okS P m):kept P m m:=⟨h,λh=>h,rfl,rfl,rfl,rfl⟩
theorem Qk9{P:Nat}{m n:Q00}(hm:Q12 P m.Mem)(hn:Q12 P n.Mem)(hc:Q35 m.A1=true→Q35 n.A1=true)(ht:Q8i m.A9=true→Q8i n.A9=true)
   (hd:Q3k m.B0 P=true→Q3k n.B0 P=true) (hk:Qd9 m.C2 P=true→Qd9 n.C2 P=true) (hb:Q3r m.A0 P=true→Q3r n.A0 P=true) (h:Q0r m=true):Q0r n=true:=by
 rw[dev_eq]at h⊢
 rw[Q6r hm]at h
 rw[Q6r hn]
 simp only[Bool.and_eq_true]at h⊢
 exact⟨hc h.1,ht h.2.1,hd h.2.2.1,hk h.2.2.2.1,hb h.2.2.2.2⟩
theorem Zbu{P:Nat}{m:Q00}(h:okS P m)(port:Int){v:Int}(hv:U v)(at0:Int):(Q30 m port v at0).w (λr=>kept P m r.1∧r.2.length≤1):=by
 have k:=Z6x h
 obtain⟨h1,h2,h3,h4,h5,h6⟩:=h
 have id: ∀{p:Prop},p→p:=λh=>h
 have D: ∀(x:Q0b×List Q0e),(keepD P m.B0 x.1∧x.2.length≤1)→kept P m {B1:=m.B1,Mem:=m.Mem,A1:=m.A1,A9:=m.A9,B0:=x.1,C2:=m.C2,A0:=m.A0,A4:=m.A4,A2:=m.A2,A6:=m.A6}∧x.2.length≤1:=λx hx=>
   ⟨⟨⟨h1,h2,hx.1.1,h4,h5,h6⟩,Qk9 h2 h2 id id hx.1.2 id id,rfl,rfl,rfl,rfl⟩,hx.2⟩
 have N: ∀(x:Q0m×List Q0e),(keepN P m.C2 x.1∧x.2.length≤1)→kept P m {B1:=m.B1,Mem:=m.Mem,A1:=m.A1,A9:=m.A9,B0:=m.B0,C2:=x.1,A0:=m.A0,A4:=m.A4,A2:=m.A2,A6:=m.A6}∧x.2.length≤1:=λx hx=>
   ⟨⟨⟨h1,h2,h3,hx.1.1,h5,h6⟩,Qk9 h2 h2 id id id hx.1.2 id,rfl,rfl,rfl,rfl⟩,hx.2⟩
 have B: ∀(x:Q07×List Int),(keepB P m.A0 x.1∧Q12 P x.2)→kept P m {B1:=m.B1,Mem:=x.2,A1:=m.A1,A9:=m.A9,B0:=m.B0,C2:=m.C2,A0:=x.1,A4:=m.A4,A2:=m.A2,A6:=m.A6}∧([]:List Q0e).length≤1:=λx hx=>
   ⟨⟨⟨h1,hx.2,h3,h4,hx.1.1.1,hx.1.1.2⟩,Qk9 h2 hx.2 id id id id hx.1.2,rfl,rfl,rfl,rfl⟩,Nat.zero_le _⟩
 unfold Q30
 repeat'(first
   |exact⟨k,Nat.le_refl _⟩
   |exact⟨k,Nat.zero_le _⟩
   |exact w_lv λx hx=>⟨⟨⟨h1,h2,h3,h4,h5,h6⟩,Qk9 h2 h2 id (λ_=>by rw[hx];exact arm_may _ _) id id id,rfl,rfl,rfl,rfl⟩,Nat.zero_le _⟩
   |exact Q0d (diskP_w h2 h3 _ hv _) λx hx=>D x hx
   |exact Q0d (nicP_w h2 h4 _ hv _) λx hx=>N x hx
   |exact Q0d (Zes h2 ⟨h5,h6⟩ _ hv) λx hx=>B x hx
   |refine w_br (λ_=> ?_) (λ_=> ?_))
theorem Z0s(c:Q0a)(port:Int):(Q7t c port).w (λr=>U r.2∧(Q35 c=true→Q35 r.1=true)):=by
 have u1:U 4294967295:=⟨by omega,by omega⟩
 unfold Q7t
 refine w_br (λ_=>w_br (λ_=>⟨u1,λh=>h⟩) (λhb=>w_cn ?_ (w_cn ?_ ⟨Q0n _,λhm=> ?_⟩))) (λ_=>w_br (λ_=>⟨Q0n _,λh=>h⟩) (λ_=>⟨U_0,λh=>h⟩))
 · have hb:=of_decide_eq_false hb
   have:0<c.D0.length:=List.length_pos_iff.2 hb
   simp [Nat.blt];omega
 · have hb:=of_decide_eq_false hb
   have:0<c.D0.length:=List.length_pos_iff.2 hb
   exact decide_eq_true (by omega)
 · have hm:decide ((c.D0.length:Int)≤16)=true:=hm
   have hm:=of_decide_eq_true hm
   show decide (((List.take _ (List.drop _ c.D0)).length:Int)≤16)=true
   refine decide_eq_true ?_
   rw[List.length_take,List.length_drop];omega
theorem Zfz{P:Nat}{m:Q00}(h:okS P m)(port:Int){clock:Int}(hc:U clock):(Q3m m port clock).w (λr=>kept P m r.1∧U r.2):=by
 have k:=Z6x h
 obtain⟨h1,h2,h3,h4,h5,h6⟩:=h
 have id: ∀{p:Prop},p→p:=λh=>h
 have ti: ∀t,U (Z47 t):=λt=>by
   refine Tree.post (Qki t) (W:=U) ?_
   unfold Qki
   exact w_br (λ_=>⟨by omega,by omega⟩) (λ_=>U_0)
 have di: ∀p,U (Qwv m.B0 p):=λp=>by
   refine Tree.post (Qor m.B0 p) (W:=U) ?_
   unfold Qor
   exact w_br (λ_=>h3.block) (λ_=>w_br (λ_=>h3.frame) (λ_=>w_br (λ_=>Q0n _) (λ_=>U_0)))
 have ni: ∀p,U (Z8v m.C2 p):=λp=>by
   refine Tree.post (Qub m.C2 p) (W:=U) ?_
   unfold Qub
   exact w_br (λ_=>h4.frame) (λ_=>w_br (λ_=>h4.got) (λ_=>w_br (λ_=>w_br (λ_=>w_br (λ_=>Q0n _) (λ_=>Q0n _)) (λ_=>w_br (λ_=>Q0n _) (λ_=>U_0))) (λ_=>U_0)))
 have bi: ∀p,(Qaz m.A0 p).w U:=λp=>by
   unfold Qaz
   exact w_br (λ_=>h5) (λ_=>w_br (λ_=>Q0d (Ze4 h6) λ_ _=>Q0n _) (λ_=>U_0))
 have C: ∀(x:Q0a×Int),(U x.2∧(Q35 m.A1=true→Q35 x.1=true))→kept P m {B1:=m.B1,Mem:=m.Mem,A1:=x.1,A9:=m.A9,B0:=m.B0,C2:=m.C2,A0:=m.A0,A4:=m.A4,A2:=m.A2,A6:=m.A6}∧U x.2:=λx hx=>
   ⟨⟨⟨h1,h2,h3,h4,h5,h6⟩,Qk9 h2 h2 hx.2 id id id id,rfl,rfl,rfl,rfl⟩,hx.1⟩
 unfold Q3m
 repeat'(first
   |exact⟨k,hc⟩
   |exact⟨k,U_0⟩
   |exact Q0d (Z0s _ _) λx hx=>C x hx
   |exact Zdw (Z0s _ _) λx hx=>C x hx
   |exact w_lv λx hx=>⟨k,by rw[hx];exact ti _⟩
   |exact w_lv λx hx=>⟨k,by rw[hx];exact di _⟩
   |exact w_lv λx hx=>⟨k,by rw[hx];exact ni _⟩
   |exact Q0d (bi _) λx hx=>⟨k,hx⟩
   |refine w_br (λ_=> ?_) (λ_=> ?_))
structure Q55(c:Q02):Prop where
 x0:c.X.a0=0
 st:c.B5.a0≤31
 en:c.B5.a7≤31
 rt:c.B5.a6≤255
 ve:Int.tmod c.B5.a1 4=0
theorem Q55.pc{c:Q02}(h:Q55 c)(p:Int):Q55 {X:=c.X,Pc:=p,B5:=c.B5}:=⟨h.x0,h.st,h.en,h.rt,h.ve⟩
theorem and31(a:Int):iand .u32 a 31≤31:=by
 have e:(BitVec.ofInt 32 a&&&BitVec.ofInt 32 31).toNat≤31:=by
   rw[BitVec.toNat_and]
   exact Nat.le_trans Nat.and_le_right (by decide)
 show IntKind.wrap .u32 ((BitVec.ofInt 32 a&&&BitVec.ofInt 32 31).toNat:Int)≤31
 rw[IntKind.wrap_u32];omega
theorem and255'(a:Int):iand .u32 a 255≤255:=by have:=and255 a;omega
theorem andn3(a:Int):Int.tmod (Ql9 .u32 a 3) 4=0:=by
 have e:(BitVec.ofInt 32 a&&&~~~BitVec.ofInt 32 3).toNat%4=0:=by
   rw[BitVec.toNat_and,show(~~~BitVec.ofInt 32 3).toNat=4294967292 by decide]
   have:=Nat.and_mod_two_pow (a:=(BitVec.ofInt 32 a).toNat) (b:=4294967292) (n:=2)
   simpa using this
 have l:=(BitVec.ofInt 32 a&&&~~~BitVec.ofInt 32 3).isLt
 show Int.tmod (IntKind.wrap .u32 ((BitVec.ofInt 32 a&&&~~~BitVec.ofInt 32 3).toNat:Int)) 4=0
 rw[IntKind.wrap_u32,Int.tmod_eq_emod_of_nonneg (by omega)]
 omega
theorem fin32{f:Int→Int}(h:(List.range 32).all (λn=>decide (f n≤31))=true){s:Int}(h0:0≤s)(h1:s≤31):f s≤31:=by
 have:=List.all_eq_true.1 h s.toNat (List.mem_range.2 (by omega))
 have e:((s.toNat:Nat):Int)=s:=by omega
 rw[e]at this
 exact of_decide_eq_true this
theorem Qgy{c:Q02}(h:Q1z c)(m:Q55 c)(k b:Int):Q55 (Qa2 c k b):=
 ⟨m.x0,fin32 (f:=λs=>Ql9 .u32 (ior .u32 (Qa3 (Qa3 s 1 8) 2 16) 1) 2) (by kernel_rfl) h.a0.1 m.st,m.en,m.rt,m.ve⟩
theorem Zet{c:Q02}(h:Q1z c)(m:Q55 c):Q55 (Qk8 c):=
 ⟨m.x0,fin32 (f:=λs=>Qa3 (Qa3 s 8 1) 16 2) (by kernel_rfl) h.a0.1 m.st,m.en,m.rt,m.ve⟩
theorem Qq7{c:Q02}(m:Q55 c){r:Int}(hr:0≤r∧r<16)(v:Int):(Qd6 c r v).w Q55:=by
 unfold Qd6
 refine w_br (λhn=>w_cn (rc hr) ?_) (λ_=>m)
 have hn:r≠0:=by simpa using hn
 obtain⟨n,e⟩: ∃n:Nat,r.toNat=n+1:=⟨r.toNat-1,by omega⟩
 refine⟨?_,m.st,m.en,m.rt,m.ve⟩
 show(A16.of 0 (List.set (A16.l c.X) r.toNat v)).a0=0
 rw[e]
 exact m.x0
theorem write_may{c:Q02}(m:Q55 c)(k v:Int):(Q7c c k v).w Q55:=by
 unfold Q7c
 refine w_br (λhk=>w_cn (by rw[eq_of_beq hk];decide) ?_) λ_=>w_br (λhk=>w_cn (by rw[eq_of_beq hk];decide) ?_) λ_=>w_br (λhk=>w_cn (by rw[eq_of_beq hk];decide) ?_) λ_=>w_br (λhk=>w_cn (by rw[eq_of_beq hk];decide) ?_) λ_=>w_br (λhk=>w_cn (by rw[eq_of_beq hk];decide) ?_) λ_=>w_br (λhk=>w_cn (by rw[eq_of_beq hk];decide) ?_) λ_=>w_br (λhk=>w_cn (by rw[eq_of_beq hk];decide) ?_) λ_=>w_br (λhk=>w_cn (by rw[eq_of_beq hk];decide) ?_) (λ_=>m)
 all_goals(have hk:=eq_of_beq hk;subst hk)
 · exact⟨m.x0,and31 _,m.en,m.rt,m.ve⟩
 · exact⟨m.x0,m.st,and31 _,m.rt,m.ve⟩
 · exact⟨m.x0,m.st,m.en,and255' _,m.ve⟩
 · exact⟨m.x0,m.st,m.en,m.rt,andn3 _⟩
 · exact⟨m.x0,m.st,m.en,m.rt,m.ve⟩
 · exact⟨m.x0,m.st,m.en,m.rt,m.ve⟩
 · exact⟨m.x0,m.st,m.en,m.rt,m.ve⟩
 · exact⟨m.x0,m.st,m.en,m.rt,m.ve⟩
section
variable {c:Q02} (h:Q1z c) (m:Q55 c) {i:Q0h} (hi:Qbt i)
include h m hi
theorem Zac:(Q2s c i).w (λr=>Q55 r.1):=by
 unfold Q2s
 refine w_cn (rc hi.a) (w_cn (rc hi.b) ?_)
 repeat'(first
   |refine w_br (λ_=> ?_) (λ_=> ?_)
   |exact Q0d (Qq7 m hi.a _) λx hx=>hx.pc _
   |exact w_lv λx _=>w_br (λ_=>m.pc _) (λ_=>m.pc _)
   |exact w_lv λx hx=>by rw[hx];exact Qgy h m _ _
   |exact w_lv λx hx=>by rw[hx];exact Zet h m
   |exact w_cn (by have:=hi.csr (by simp_all);simp [Nat.blt];omega) (Q0d (Qq7 m hi.a _) λx hx=>hx.pc _)
   |exact Q0d (write_may m _ _) λx hx=>hx.pc _
   |refine w_cn (rc hi.c) ?_
   |exact Q0d (Z0m _ (h.r _) (Q0n _)) λy hy=>Q0d (Qq7 m hi.a _) λx hx=>hx.pc _
   |exact Q0d (Z0m _ (h.r _) (h.r _)) λy hy=>Q0d (Qq7 m hi.a _) λx hx=>hx.pc _
   |refine w_lf ?_)
 all_goals exact m.pc _
theorem load_may{P:Nat}{mem:List Int}(hm:Q12 P mem):(Q9l c mem i).w (λr=>Q55 r.1):=by
 have w:=Z59 i.Op
 unfold Q9l
 refine w_cn (rc hi.b) (w_lv λx0 h0=> ?_)
 rw[←h0]at w
 refine Q0d (Qfl hm (Q0n _) w 2) λx1 h1=>w_br (λ_=>w_lv λy hy=>by rw[hy];exact Qgy h m _ _) (λ_=>w_lv λx3 h3=> ?_)
 rw[h0,←h3]at w
 exact Q0d (Qmj h1.2 h1.1 w) λx4 h4=>w_br (λ_=>Q0d (Qrg h4.1 8) λy hy=>Q0d (Qq7 m hi.a _) λx hx=>hx.pc _) (λ_=>Q0d (Qq7 m hi.a _) λx hx=>hx.pc _)
theorem store_may{P:Nat}{mem:List Int}(hm:Q12 P mem):(Q7g c mem i).w (λr=>Q55 r.1):=by
 have w:=Z59 i.Op
 unfold Q7g
 refine w_cn (rc hi.b) (w_lv λx0 h0=> ?_)
 rw[←h0]at w
 refine Q0d (Qfl hm (Q0n _) w 3) λx1 h1=>w_br (λ_=>w_lv λy hy=>by rw[hy];exact Qgy h m _ _) (λ_=>w_lv λx3 h3=>w_cn (rc hi.a) ?_)
 rw[h0,←h3]at w
 exact Q0d (Quj h1.2 h1.1 w (h.r _)) λx hx=>m.pc _
end
theorem exec_may{c:Q02}(h:Q1z c)(m:Q55 c){P:Nat}{mem:List Int}(hm:Q12 P mem):(Q65 c mem).w (λr=>Q55 r.1):=by
 unfold Q65
 refine Q0d (Z3a hm h) λx0 h0=>w_br (λ_=>w_lv λy hy=>by rw[hy];exact Qgy h m _ _) (λ_=>Q0d (Qy _) λx2 h2=>w_br (λ_=>w_lv λy hy=>by rw[hy];exact Qgy h m _ _) (λhb=> ?_))
 have hi:=h2 (by simpa using hb)
 refine w_lv λx4 _=> ?_
 repeat'(first
   |refine w_br (λ_=> ?_) (λ_=> ?_)
   |exact Q0d (load_may h m hi h0.2) λx hx=>hx
   |exact Q0d (store_may h m hi h0.2) λx hx=>hx
   |exact Q0d (Zac h m hi) λx hx=>hx
   |exact w_lv λy hy=>by rw[hy];exact Qgy h m _ _
   |refine w_lv λ_ _=> ?_)
theorem Zae{c:Q02}(h:Q1z c){i:Q0h}(hi:Qbt i):(Q2s c i).w (λr=>0≤r.2.D8∧r.2.D8<16):=by
 have z:(0:Int)≤0∧(0:Int)<16:=⟨by decide,by decide⟩
 unfold Q2s
 refine w_cn (rc hi.a) (w_cn (rc hi.b) ?_)
 repeat'(first
   |refine w_br (λ_=> ?_) (λ_=> ?_)
   |exact Q0d (Qla h hi.a (Q0n _)) λx hx=>z
   |exact w_lv λx _=>w_br (λ_=>z) (λ_=>z)
   |exact w_lv λx hx=>z
   |exact w_cn (by have:=hi.csr (by simp_all);simp [Nat.blt];omega) (Q0d (Qla h hi.a (h.a _)) λx hx=>z)
   |exact Q0d (Zdy h _ (h.r _)) λx hx=>z
   |refine w_cn (rc hi.c) ?_
   |exact Q0d (Z0m _ (h.r _) (Q0n _)) λy hy=>Q0d (Qla h hi.a hy) λx hx=>z
   |exact Q0d (Z0m _ (h.r _) (h.r _)) λy hy=>Q0d (Qla h hi.a hy) λx hx=>z
   |refine w_lf ?_)
 all_goals first|exact z|exact hi.a
theorem exec_reg{c:Q02}(h:Q1z c){P:Nat}{mem:List Int}(hm:Q12 P mem):(Q65 c mem).w (λr=>0≤r.2.2.D8∧r.2.2.D8<16):=by
 have z:(0:Int)≤0∧(0:Int)<16:=⟨by decide,by decide⟩
 unfold Q65
 refine Q0d (Z3a hm h) λx0 h0=>w_br (λ_=>w_lv λy hy=>z) (λ_=>Q0d (Qy _) λx2 h2=>w_br (λ_=>w_lv λy hy=>z) (λhb=> ?_))
 have hi:=h2 (by simpa using hb)
 refine w_lv λx4 _=> ?_
 repeat'(first
   |refine w_br (λ_=> ?_) (λ_=> ?_)
   |exact Q0d (Quq h hi h0.2) λx hx=>z
   |exact Q0d (Qsy h hi h0.2) λx hx=>z
   |exact Q0d (Zae h hi) λx hx=>hx
   |exact w_lv λy hy=>z
   |refine w_lv λ_ _=> ?_)
theorem cnd2{a x:Bool}:(bif a then false else x)=true↔a=false∧x=true:=by cases a<;>simp
theorem may_iff(m:Q00):Q5t m=true↔Q0f m.Mem≠0∧Q55 m.B1∧m.A4≤1152921504606846976∧ ¬(m.A2=true∧m.A6=true)∧Q0r m=true:=by
  rw[may_eq]
  unfold mayC chain
  rw[cnd2,cnd2,cnd2,cnd2,cnd2,cnd2,cnd2]
  simp only[decide_eq_false_iff_not,Int.not_lt,beq_eq_false_iff_ne,bne_eq_false_iff_eq,gt_iff_lt]
  constructor
  · rintro⟨a1,a2,a3,a4,a5,a6,a7,a8⟩
    refine⟨a1,⟨a2,a3,a4,a5,a6⟩,a7,?_,?_⟩
    · rintro⟨w,h⟩;rw[w,h]at a8;cases a8
    · revert a8;cases m.A2
      · exact λh=>h
      · cases m.A6
        · exact λh=>h
        · intro h;cases h
  · rintro⟨a1,⟨a2,a3,a4,a5,a6⟩,a7,a8,a9⟩
    refine⟨a1,a2,a3,a4,a5,a6,a7,?_⟩
    rw[a9]
    cases hw:m.A2
    · rfl
    · cases hh:m.A6
      · rfl
      · exact absurd ⟨hw,hh⟩ a8
theorem runs_may{m:Q00}(h:Q7w m=true):Q5t m=true∧m.A6=false∧m.A4<1152921504606846976:=by
  simp only[Q7w,Q4y,Tree.m,letv]at h
  cases h1:Q5t m
  · rw[h1]at h;cases h
  · cases h2:m.A6
    · rw[h1,h2]at h
      cases h3:Qjd m
      · rw[h3]at h
        have h:decide (m.A4<1152921504606846976)=true:=h
        exact⟨rfl,rfl,of_decide_eq_true h⟩
      · rw[h3]at h;cases h
    · rw[h1,h2]at h;cases h
theorem begin_may{P:Nat}{m:Q00}(h:okS P m)(g:Q55 m.B1):(Q58 m).w (λr=>Q55 r.B1∧okS P r∧r.Mem=m.Mem∧r.A2=false∧r.A6=m.A6∧r.A4=m.A4∧r.A1=m.A1∧r.A9=m.A9∧r.B0=m.B0∧r.C2=m.C2∧r.A0=m.A0):=by
 obtain⟨h1,h2,h3,h4,h5,h6⟩:=h
 unfold Q58
 refine w_br (λ_=>⟨g,⟨h1,h2,h3,h4,h5,h6⟩,rfl,rfl,rfl,rfl,rfl,rfl,rfl,rfl,rfl⟩) (λ_=>Q0d (Z28 (m:=⟨_,_,_,_,_,_,m.A0,_,_,_⟩) h6) λx0 _=>w_lp (inv:=λz=>0≤z∧z≤5) (μ:=Qdv m) ⟨by omega,by omega⟩ (Nat.lt_succ_self _) (λz hz=> ?_))
 obtain⟨z1,z2⟩:=hz
 refine w_br (λhb=>w_cn (decide_eq_true z1) (w_br (λ_=>w_lv λx1 hx=>⟨by rw[hx];exact Qgy h1 g _ _,⟨by rw[hx];exact Qm5 h1 _ U_0,h2,h3,h4,h5,h6⟩,rfl,rfl,rfl,rfl,rfl,rfl,rfl,rfl,rfl⟩) (λ_=>w_nx ?_))) (λ_=>⟨g,⟨h1,h2,h3,h4,h5,h6⟩,rfl,rfl,rfl,rfl,rfl,rfl,rfl,rfl,rfl⟩)
 have hb:=of_decide_eq_true hb
 show(0≤IntKind.i64.wrap (z+1)∧IntKind.i64.wrap (z+1)≤5)∧(5-IntKind.i64.wrap (z+1)).toNat<(5-z).toNat
 have ew:IntKind.i64.wrap (z+1)=z+1:=by rw[IntKind.wrap_i64];omega
 rw[ew];omega
structure Good(P:Nat)(m r:Q00):Prop where
 ok:okS P r
 cnt:0≤r.A4
 may:Q5t m=true→Q5t r=true
 or:r=m∨r.A4=m.A4+1
theorem step_w0{P:Nat}{m:Q00}(h:okS P m)(hc0:0≤m.A4){clock:Int}(hk:U clock):(Q6l m clock).w (λr=>r.2.length≤1∧Good P m r.1):=by
 have hcl:Q05 m.Mem=m.Mem:=rfl
 unfold Q6l
 refine w_an (Qk4 h.mem) (w_lv λl hl=> ?_)
 rw[hcl]at hl;subst hl
 refine w_an (Tree.pp (runsP_w (m:=⟨_,_,_,_,_,_,m.A0,_,_,_⟩) h.given)).1 (w_lv λx1 hx1=>w_br (λ_=>⟨Nat.zero_le _,h,hc0,λh=>h, .inl rfl⟩) (λhb=> ?_))
 have hr:Q7w m=true:=by rw[←show x1=Q7w m from hx1];simpa using hb
 obtain⟨hm,hh,hct⟩:=runs_may hr
 obtain⟨g1,g2,g3,g4,g5⟩:=(may_iff m).1 hm
 have hP:(P:Int)≠0:=by rw[←Q6r h.mem];exact g1
 have fin: ∀(n:Q00),okS P n→Q55 n.B1→Q0r n=true→n.A4=m.A4→ ¬(n.A2=true∧n.A6=true)→Good P m {B1:=n.B1,Mem:=n.Mem,A1:=n.A1,A9:=n.A9,B0:=n.B0,C2:=n.C2,A0:=n.A0,A4:=IntKind.wrap .u64 (n.A4+1),A2:=n.A2,A6:=n.A6}:=λn a b c d e=>by
   have ec:IntKind.wrap .u64 (n.A4+1)=m.A4+1:=by rw[d,IntKind.wrap_u64];omega
   refine⟨⟨a.cpu,a.mem,a.disk,a.nic,a.target,a.given⟩,?_,λ_=>(may_iff _).2 ⟨?_,b,?_,e,c⟩, .inr ec⟩
   · show 0≤IntKind.wrap .u64 (n.A4+1);omega
   · show Q0f n.Mem≠0;rw[Q6r a.mem];exact hP
   · show IntKind.wrap .u64 (n.A4+1)≤_;omega
 refine Q0d (begin_may (m:=⟨_,_,m.A1,m.A9,m.B0,m.C2,m.A0,m.A4,m.A2,m.A6⟩) ⟨h.cpu,h.mem,h.disk,h.nic,h.target,h.given⟩ g2) λx2 hx2=> ?_
 obtain⟨b1,b2,b3,b4,b5,b6,b7,b8,b9,b10,b11⟩:=hx2
 have ex:=Tree.pp (execP_w b2.cpu b2.mem)
 have em:=Tree.pp (exec_may b2.cpu b1 b2.mem)
 have er:=Tree.pp (exec_reg b2.cpu b2.mem)
 refine w_an ex.1 (w_lv λx3 h3=> ?_)
 obtain⟨e1,e2,e3⟩:Q1z x3.1∧Q12 P x3.2.1∧U x3.2.2.Value:=by rw[h3];exact ex.2
 have f1:Q55 x3.1:=by rw[h3];exact em.2
 have r1:0≤x3.2.2.D8∧x3.2.2.D8<16:=by rw[h3];exact er.2
 have ok3:okS P ⟨x3.1,x3.2.1,x2.A1,x2.A9,x2.B0,x2.C2,x2.A0,x2.A4,x2.A2,x2.A6⟩:=⟨e1,e2,b2.disk,b2.nic,b2.target,b2.given⟩
 have dev: ∀(w h:Bool),Q0r ⟨x3.1,x3.2.1,x2.A1,x2.A9,x2.B0,x2.C2,x2.A0,x2.A4,w,h⟩=true:=λw hh=>by
   have id: ∀{p:Prop},p→p:=λh=>h
   refine Qk9 (m:=m) (P:=P) h.mem e2 ?_ ?_ ?_ ?_ ?_ g5
   · show _→Q35 x2.A1=true;rw[b7];exact id
   · show _→Q8i x2.A9=true;rw[b8];exact id
   · show _→Q3k x2.B0 P=true;rw[b9];exact id
   · show _→Qd9 x2.C2 P=true;rw[b10];exact id
   · show _→Q3r x2.A0 P=true;rw[b11];exact id
 have hw:x2.A2=false:=b4
 have hh2:x2.A6=false:=b5.trans hh
 have hct2:x2.A4=m.A4:=b6
 refine w_br (λ_=> ?_) λ_=>w_br (λ_=> ?_) λ_=>w_br (λ_=> ?_) λ_=>w_br (λ_=> ?_) λ_=> ?_
 · refine Q0d (Zfz ok3 _ hk) λx4 h4=> ?_
   obtain⟨k,u⟩:=h4
   have kc:x4.1.B1=x3.1:=k.cpu
   have kt:x4.1.A4=m.A4:=k.cnt.trans hct2
   have kw: ¬(x4.1.A2=true∧x4.1.A6=true):=λe=>by have:x4.1.A2=x2.A2:=k.wait;rw[this,hw]at e;cases e.1
   have km:Q55 x4.1.B1:=by rw[kc];exact f1
   refine w_br (λhn=>w_cn (rc r1) ⟨Nat.zero_le _,?_⟩) (λ_=>⟨Nat.zero_le _,fin x4.1 k.ok km (k.dev (dev _ _)) kt kw⟩)
   have hn:x3.2.2.D8≠0:=by simpa using hn
   obtain⟨q,e⟩: ∃q:Nat,x3.2.2.D8.toNat=q+1:=⟨x3.2.2.D8.toNat-1,by omega⟩
   refine fin ⟨⟨A16.of 0 (List.set (A16.l x4.1.B1.X) x3.2.2.D8.toNat x4.2),x4.1.B1.Pc,x4.1.B1.B5⟩,x4.1.Mem,x4.1.A1,x4.1.A9,x4.1.B0,x4.1.C2,x4.1.A0,x4.1.A4,x4.1.A2,x4.1.A6⟩ ⟨⟨Zbb k.ok.cpu.x u _,k.ok.cpu.pc,k.ok.cpu.csr⟩,k.ok.mem,k.ok.disk,k.ok.nic,k.ok.target,k.ok.given⟩ ⟨?_,km.st,km.en,km.rt,km.ve⟩ (k.dev (dev _ _)) kt kw
   show(A16.of 0 (List.set (A16.l x4.1.B1.X) x3.2.2.D8.toNat x4.2)).a0=0
   rw[e]
   exact km.x0
 · refine Q0d (Zbu ok3 _ e3 _) λx5 h5=> ?_
   obtain⟨k,u⟩:=h5
   have kc:x5.1.B1=x3.1:=k.cpu
   exact⟨u,fin x5.1 k.ok (by rw[kc];exact f1) (k.dev (dev _ _)) (k.cnt.trans hct2) (λe=>by have:x5.1.A2=x2.A2:=k.wait;rw[this,hw]at e;cases e.1)⟩
 · exact⟨Nat.zero_le _,fin ⟨x3.1,x3.2.1,x2.A1,x2.A9,x2.B0,x2.C2,x2.A0,x2.A4,true,x2.A6⟩ ⟨e1,e2,b2.disk,b2.nic,b2.target,b2.given⟩ f1 (dev _ _) hct2 (λe=>by have e2:x2.A6=true:=e.2;rw[hh2]at e2;cases e2)⟩
 · exact⟨Nat.zero_le _,fin ⟨x3.1,x3.2.1,x2.A1,x2.A9,x2.B0,x2.C2,x2.A0,x2.A4,x2.A2,true⟩ ⟨e1,e2,b2.disk,b2.nic,b2.target,b2.given⟩ f1 (dev _ _) hct2 (λe=>by have e2:x2.A2=true:=e.1;rw[hw]at e2;cases e2)⟩
 · exact⟨Nat.zero_le _,fin ⟨x3.1,x3.2.1,x2.A1,x2.A9,x2.B0,x2.C2,x2.A0,x2.A4,x2.A2,x2.A6⟩ ok3 f1 (dev _ _) hct2 (λe=>by have e2:x2.A2=true:=e.1;rw[hw]at e2;cases e2)⟩
theorem toNat32{a:Int}(h:U a):(BitVec.ofInt 32 a).toNat=a.toNat:=by
 obtain⟨h1,h2⟩:=h
 rw[BitVec.toNat_ofInt];omega
theorem or_nat{a b:Int}(ha:U a)(hb:U b):ior .u32 a b=((a.toNat|||b.toNat:Nat):Int):=by
 have l:=(BitVec.ofInt 32 a|||BitVec.ofInt 32 b).isLt
 have e:(BitVec.ofInt 32 a|||BitVec.ofInt 32 b).toNat=a.toNat|||b.toNat:=by rw[BitVec.toNat_or,toNat32 ha,toNat32 hb]
 show IntKind.wrap .u32 ((BitVec.ofInt 32 a|||BitVec.ofInt 32 b).toNat:Int)=_
 rw[IntKind.wrap_u32,←e];omega
def dig(w:Int)(k:Nat):Int:=if k=0 then w%256 else if k=1 then w/256%256 else if k=2 then w/65536%256 else w/16777216%256
def byt(m:List Int)(a:Nat):Int:=dig (m.getD (a/4) 0) (a%4)
theorem dig_lt(w:Int)(k:Nat):0≤dig w k∧dig w k<256:=by
 unfold dig
 split
 · omega
 · split
   · omega
   · split<;>omega
theorem dig_ext{w v:Int}(hw:U w)(hv:U v)(h: ∀k,k<4→dig w k=dig v k):w=v:=by
 have h0:=h 0 (by omega)
 have h1:=h 1 (by omega)
 have h2:=h 2 (by omega)
 have h3:=h 3 (by omega)
 simp [dig]at h0 h1 h2 h3
 obtain⟨a,b⟩:=hw
 obtain⟨c,d⟩:=hv
 omega
theorem byt_ext{m n:List Int}(hl:m.length=n.length)(hm: ∀w∈m,U w)(hn: ∀w∈n,U w)(h: ∀a,byt m a=byt n a):m=n:=by
 refine List.ext_getElem hl λi h1 h2=> ?_
 have e1:m[i]=m.getD i 0:=by simp [List.getD,h1]
 have e2:n[i]=n.getD i 0:=by simp [List.getD,h2]
 rw[e1,e2]
 refine dig_ext (Qj4 hm i) (Qj4 hn i) λk hk=> ?_
 have:=h (4*i+k)
 simp only[byt]at this
 rwa [show(4*i+k)/4=i by omega,show(4*i+k)%4=k by omega]at this
theorem Z55{l:List Int}{i:Nat}(h:i<l.length)(v:Int):(l.set i v).getD i 0=v:=by
 simp [List.getD,h]
theorem byt_set{m:List Int}{i:Nat}(hi:i<m.length)(v:Int)(a:Nat):byt (m.set i v) a=if a/4=i then dig v (a%4) else byt m a:=by
 unfold byt
 split
 · rename_i h;rw[h,Z55 hi]
 · rename_i h;rw[getDset _ _ _ _ (λe=>h e.symm)]
theorem or_add{x y:Int}(hx:U x)(hy:U y)(k:Nat)(hk:x<2^k)(h:x+y*2^k<4294967296):ior .u32 x (y*2^k)=x+y*2^k:=by
 obtain⟨n,rfl⟩: ∃n:Nat,x=n:=⟨x.toNat,by have:=hx.1;omega⟩
 obtain⟨z,rfl⟩: ∃n:Nat,y=n:=⟨y.toNat,by have:=hy.1;omega⟩
 have e:((z:Int)*2^k)=((z*2^k:Nat):Int):=by simp
 rw[e]at h⊢
 have hn:n<2^k:=by exact_mod_cast hk
 rw[or_nat hx ⟨by omega,by omega⟩,Int.toNat_natCast,Int.toNat_natCast,Nat.or_comm,Nat.mul_comm,←Nat.two_pow_add_eq_or_of_lt hn]
 omega
theorem four{a b c d:Int}(ha:0≤a∧a<256)(hb:0≤b∧b<256)(hc:0≤c∧c<256)(hd:0≤d∧d<256):ior .u32 (ior .u32 (ior .u32 (IntKind.wrap .u32 a) (ishl .u32 (IntKind.wrap .u32 b) 8)) (ishl .u32 (IntKind.wrap .u32 c) 16)) (ishl .u32 (IntKind.wrap .u32 d) 24)=a+b*2^8+c*2^16+d*2^24:=by
 have w: ∀{x:Int},0≤x∧x<256→IntKind.wrap .u32 x=x:=λhx=>by rw[IntKind.wrap_u32];omega
 have s8: ∀{x:Int},0≤x∧x<256→ishl .u32 x 8=x*2^8:=fun{x} hx=>by show IntKind.wrap .u32 (x*2^8)=_;rw[IntKind.wrap_u32];omega
 have s16: ∀{x:Int},0≤x∧x<256→ishl .u32 x 16=x*2^16:=fun{x} hx=>by show IntKind.wrap .u32 (x*2^16)=_;rw[IntKind.wrap_u32];omega
 have s24: ∀{x:Int},0≤x∧x<256→ishl .u32 x 24=x*2^24:=fun{x} hx=>by show IntKind.wrap .u32 (x*2^24)=_;rw[IntKind.wrap_u32];omega
 rw[w ha,w hb,w hc,w hd,s8 hb,s16 hc,s24 hd]
 rw[or_add ⟨by omega,by omega⟩ ⟨by omega,by omega⟩ 8 (by omega) (by omega),or_add ⟨by omega,by omega⟩ ⟨by omega,by omega⟩ 16 (by omega) (by omega),or_add ⟨by omega,by omega⟩ ⟨by omega,by omega⟩ 24 (by omega) (by omega)]
theorem four_dig{a b c d:Int}(ha:0≤a∧a<256)(hb:0≤b∧b<256)(hc:0≤c∧c<256)(hd:0≤d∧d<256)(k:Nat)(hk:k<4):dig (a+b*2^8+c*2^16+d*2^24) k=if k=0 then a else if k=1 then b else if k=2 then c else d:=by
 have hk:k=0∨k=1∨k=2∨k=3:=by omega
 rcases hk with rfl|rfl|rfl|rfl<;>simp [dig]<;>omega
theorem has_iff{P:Nat}{m:List Int}(h:Q12 P m)(f:Int):Q1r m f=decide (0≤f∧f<P):=by
 have hp:=Q6r h
 simp only[Q1r,Q3g,Tree.m,letv,hp]
 by_cases h1:0≤f
 · rw[decide_eq_true h1];simp [h1]
 · rw[decide_eq_false h1];simp [h1]
theorem getD_cut(s:List UInt8)(a b k:Nat)(h:k<b):(List.take b (List.drop a s)).getD k 0=s.getD (a+k) 0:=by
 simp [List.getD_eq_getElem?_getD,List.getElem?_take,h]
theorem u8I(x:UInt8):0≤(x.toNat:Int)∧(x.toNat:Int)<256:=by have:=x.toNat_lt;omega
theorem Qvw{P:Nat}{m:List Int}(h:Q12 P m){f:Int}(f0:0≤f)(f1:f<P){s:List UInt8}(hs:s.length=128):(Q2n m f s).w (λr=>r.2=true∧Q12 P r.1∧ ∀b:Nat,byt r.1 b=if f*128≤b∧(b:Int)<f*128+128 then((s.getD (b-f*128).toNat 0).toNat:Int) else byt m b):=by
  have hcl:Q05 m=m:=rfl
  have h2:=h.p2
  unfold Q2n
  refine w_an (Qk4 h) (w_lv λx0 hx0=>w_lv λx1 hx1=> ?_)
  rw[hcl]at hx0;subst hx0
  rw[has_iff h,decide_eq_true ⟨f0,f1⟩]at hx1
  subst hx1
  refine w_br (λhb=>by cases hb) λ_=>w_br (λhb=>by simp [hs]at hb) λ_=> ?_
  refine w_lp (inv:=λz:Int×List Int=>0≤z.1∧z.1≤32∧Q12 P z.2∧ ∀b:Nat,byt z.2 b=if f*128≤b∧(b:Int)<f*128+4*z.1 then((s.getD (b-f*128).toNat 0).toNat:Int) else byt x0 b) (μ:=Q6g x0 f s) ⟨show(0:Int)≤0 by decide,show(0:Int)≤32 by decide,h,λb=>by rw[if_neg];show¬(_∧_<_+4*(0:Int));omega⟩ (Nat.lt_succ_self _) λz ⟨z1,z2,z3,z4⟩=> ?_
  refine w_br (λhb=> ?_) (λhb=>⟨rfl,z3,λb=> ?_⟩)
  · have hb:=of_decide_eq_true hb
    have e1:IntKind.i64.wrap (4*z.1)=4*z.1:=by rw[IntKind.wrap_i64];omega
    have e2:IntKind.i64.wrap (IntKind.i64.wrap (4*z.1)+4)=4*z.1+4:=by rw[IntKind.wrap_i64,IntKind.wrap_i64];omega
    have e3:IntKind.i64.wrap (IntKind.i64.wrap (f*32)+z.1)=f*32+z.1:=by rw[IntKind.wrap_i64,IntKind.wrap_i64];omega
    have hl:=z3.len
    have cut:Int.toNat (IntKind.i64.wrap (IntKind.i64.wrap (4*z.1)+4))-Int.toNat (IntKind.i64.wrap (4*z.1))=4:=by rw[e2,e1];omega
    have hlen:(List.take (Int.toNat (IntKind.i64.wrap (IntKind.i64.wrap (4*z.1)+4))-Int.toNat (IntKind.i64.wrap (4*z.1))) (List.drop (Int.toNat (IntKind.i64.wrap (4*z.1))) s)).length=4:=by
      rw[cut,e1,List.length_take,List.length_drop];omega
    refine w_cn (decide_eq_true (by rw[e2,e1];omega)) ?_
    refine w_cn (decide_eq_true (by rw[hlen];decide)) (w_cn (decide_eq_true (by rw[hlen];decide)) (w_cn (decide_eq_true (by rw[hlen];decide)) (w_cn (decide_eq_true (by rw[hlen];decide)) (w_cn (by rw[e3];simp [Nat.blt];omega) (w_nx ?_)))))
    have ew:IntKind.i64.wrap (z.1+1)=z.1+1:=by rw[IntKind.wrap_i64];omega
    rw[cut]
    refine⟨⟨by show 0≤IntKind.i64.wrap (z.1+1);rw[ew];omega,by show IntKind.i64.wrap (z.1+1)≤32;rw[ew];omega,?_,?_⟩,by show(32-IntKind.i64.wrap (z.1+1)).toNat<(32-z.1).toNat;rw[ew];omega⟩
    · show Q12 P (List.set _ _ _)
      exact⟨by rw[List.length_set];exact hl,z3.p1,z3.p2,Z7e z3.u (U_or _ _) _⟩
    · intro b
      show byt (List.set z.2 (Int.toNat (IntKind.i64.wrap (IntKind.i64.wrap (f*32)+z.1))) _) b=if f*128≤(b:Int)∧(b:Int)<f*128+4*IntKind.i64.wrap (z.1+1) then _ else _
      rw[e3,ew,four (u8I _) (u8I _) (u8I _) (u8I _),byt_set (by omega)]
      have g: ∀k:Nat,k<4→(List.take 4 (List.drop (Int.toNat (IntKind.i64.wrap (4*z.1))) s)).getD k 0=s.getD ((4*z.1).toNat+k) 0:=λk hk=>by rw[e1];exact getD_cut _ _ _ _ hk
      by_cases hc:b/4=(f*32+z.1).toNat
      · have hin:f*128≤(b:Int)∧(b:Int)<f*128+4*(z.1+1):=by omega
        rw[if_pos hc,four_dig (u8I _) (u8I _) (u8I _) (u8I _) _ (by omega),if_pos hin]
        have hb4:b%4=0∨b%4=1∨b%4=2∨b%4=3:=by omega
        have gi:(b-f*128).toNat=(4*z.1).toNat+b%4:=by omega
        rw[gi]
        rcases hb4 with h4|h4|h4|h4<;>rw[h4]
        · rw[if_pos rfl,←g 0 (by omega)];rfl
        · rw[if_neg (by decide),if_pos rfl,←g 1 (by omega)];rfl
        · rw[if_neg (by decide),if_neg (by decide),if_pos rfl,←g 2 (by omega)];rfl
        · rw[if_neg (by decide),if_neg (by decide),if_neg (by decide),←g 3 (by omega)];rfl
      · rw[if_neg hc,z4 b]
        by_cases hd:f*128≤(b:Int)∧(b:Int)<f*128+4*z.1
        · rw[if_pos hd,if_pos (by omega)]
        · rw[if_neg hd,if_neg (by omega)]
  · have hb:=of_decide_eq_false hb
    show byt z.2 b=_
    rw[z4 b,show z.1=32 by omega]
    rfl
theorem getD_app{α:Type}(l l2:List α)(k:Nat)(z:α):(l++l2).getD k z=if k<l.length then l.getD k z else l2.getD (k-l.length) z:=by
 simp only[List.getD_eq_getElem?_getD,List.getElem?_append]
 split<;>rfl
theorem u8w{x:Int}:IntKind.wrap .u8 x=x%256:=IntKind.wrap_u8 x
theorem shr_c(W:Int):ishr .u32 W 8=W/256∧ishr .u32 W 16=W/65536∧ishr .u32 W 24=W/16777216:=by
 refine⟨?_,?_,?_⟩
 · show Int.fdiv W 256=_;rw[Int.fdiv_eq_ediv_of_nonneg _ (by decide)]
 · show Int.fdiv W 65536=_;rw[Int.fdiv_eq_ediv_of_nonneg _ (by decide)]
 · show Int.fdiv W 16777216=_;rw[Int.fdiv_eq_ediv_of_nonneg _ (by decide)]
theorem b4d(W:Int){k:Nat}(hk:k<4):[IntKind.wrap .u8 W,IntKind.wrap .u8 (ishr .u32 W 8),IntKind.wrap .u8 (ishr .u32 W 16),IntKind.wrap .u8 (ishr .u32 W 24)].getD k 0=dig W k:=by
 obtain⟨a,b,c⟩:=shr_c W
 have hk:k=0∨k=1∨k=2∨k=3:=by omega
 rcases hk with rfl|rfl|rfl|rfl<;>simp [dig,a,b,c,u8w]
theorem Z7q(l:List Int)(k:Nat)(h:0≤l.getD k 0∧l.getD k 0<256)(hk:k<l.length):(((bytesOf l).getD k 0).toNat:Int)=l.getD k 0:=by
 have e:(bytesOf l).getD k 0=UInt8.ofNat (l.getD k 0).toNat:=by
   simp [bytesOf,List.getD_eq_getElem?_getD,hk]
 rw[e,UInt8.toNat_ofNat']
 omega
theorem text_b(w:List Int)(h:w.length≤32):(Q2t w).w (λr=>r.length=4*w.length∧ ∀k:Nat,k<4*w.length→((r.getD k 0).toNat:Int)=dig (w.getD (k/4) 0) (k%4)):=by
 have e0:IntKind.i64.wrap (4*(w.length:Int))=4*w.length:=by rw[IntKind.wrap_i64];omega
 unfold Q2t
 refine w_cn (by rw[e0];simp [Nat.blt,D.plain];omega) ?_
 refine w_lp (inv:=λz:Int×List Int=>0≤z.1∧z.1≤w.length∧(z.2.length:Int)=4*z.1∧ ∀k:Nat,(k:Int)<4*z.1→z.2.getD k 0=dig (w.getD (k/4) 0) (k%4)) (μ:=Q4f w) ⟨by decide,by show(0:Int)≤w.length;omega,rfl,λk hk=>by have hk:(k:Int)<4*0:=hk;omega⟩ (Nat.lt_succ_self _) λz ⟨z1,z2,z3,z4⟩=> ?_
 refine w_br (λhb=> ?_) (λhb=> ?_)
 · have hb:=of_decide_eq_true hb
   have ew:IntKind.i64.wrap (z.1+1)=z.1+1:=by rw[IntKind.wrap_i64];omega
   refine w_cn (by simp [Nat.blt];omega) (w_cn (decide_eq_true (by omega)) (w_nx ?_))
   show(_∧_∧_∧ ∀k:Nat,(k:Int)<4*IntKind.i64.wrap (z.1+1)→(z.2++_).getD k 0=_)∧(_:Nat)<_
   refine⟨⟨by rw[ew];omega,by rw[ew];omega,by rw[ew,List.length_append];simp only[List.length_cons,List.length_nil];omega,λk hk=> ?_⟩,by show(w.length-IntKind.i64.wrap (z.1+1)).toNat<(w.length-z.1).toNat;rw[ew];omega⟩
   rw[ew]at hk
   rw[getD_app]
   split
   · exact z4 k (by omega)
   · rename_i hn
     rw[b4d _ (by omega),show z.1.toNat=k/4 by omega,show k-z.2.length=k%4 by omega]
 · have hb:=of_decide_eq_false hb
   show(bytesOf z.2).length=_∧ ∀k:Nat,_→(((bytesOf z.2).getD k 0).toNat:Int)=_
   refine⟨by rw[Qh6];omega,λk hk=> ?_⟩
   have e:=z4 k (by omega)
   have:=dig_lt (w.getD (k/4) 0) (k%4)
   rw[Z7q _ _ (by rw[e];exact this) (by omega),e]
def isPg(m:List Int)(f:Int)(r:List UInt8):Prop:=r.length=128∧ ∀k:Nat,k<128→((r.getD k 0).toNat:Int)=byt m ((f*128).toNat+k)
theorem mpage_b{P:Nat}{m:List Int}(h:Q12 P m){f:Int}(f0:0≤f)(f1:f<P):(Q2r m f).w (λr=>isPg m f r.1∧r.2=true):=by
 have hl:=h.len
 have h2:=h.p2
 unfold Q2r
 refine w_lv λx0 hx0=> ?_
 rw[has_iff h,decide_eq_true ⟨f0,f1⟩]at hx0
 subst hx0
 refine w_br (λhb=>by cases hb) (λhb=> ?_)
 have e1:IntKind.i64.wrap (f*32)=f*32:=by rw[IntKind.wrap_i64];omega
 have e2:IntKind.i64.wrap (IntKind.i64.wrap (f*32)+32)=f*32+32:=by rw[IntKind.wrap_i64,IntKind.wrap_i64];omega
 have cut:Int.toNat (IntKind.i64.wrap (IntKind.i64.wrap (f*32)+32))-Int.toNat (IntKind.i64.wrap (f*32))=32:=by rw[e2,e1];omega
 have hlen:(List.take 32 (List.drop (Int.toNat (IntKind.i64.wrap (f*32))) m)).length=32:=by
   rw[e1,List.length_take,List.length_drop];omega
 refine w_cn (by rw[e2,e1];simp [Nat.blt];omega) ?_
 rw[cut]
 refine w_an (by show List.length _≤1000000000000;rw[hlen];decide) (w_lv λx1 h1=> ?_)
 have t:=(Tree.pp (text_b _ (Nat.le_of_eq hlen))).2
 rw[hlen,show(Q2t (List.take 32 (List.drop (Int.toNat (IntKind.i64.wrap (f*32))) m))).m=x1 from h1.symm]at t
 refine⟨⟨t.1,λk hk=> ?_⟩,rfl⟩
 show((x1.getD k 0).toNat:Int)=_
 rw[t.2 k hk,byt,e1]
 have g:(List.take 32 (List.drop (Int.toNat (f*32)) m)).getD (k/4) 0=m.getD ((f*32).toNat+k/4) 0:=by
   simp [List.getD_eq_getElem?_getD,List.getElem?_take,show k/4<32 by omega]
 rw[g,show((f*128).toNat+k)/4=(f*32).toNat+k/4 by omega,show((f*128).toNat+k)%4=k%4 by omega]
section
variable {P:Nat} {m:List Int} (h:Q12 P m)
include h
end
section
variable {P:Nat} {m:List Int} (h:Q12 P m)
include h
end
def sel:List Bool→Int→List Int
 |[],_=>[]
 |b::l,k=>if b=true then k::sel l (k+1) else sel l (k+1)
theorem Qko: ∀(l:List Bool) (k:Int),(sel l k).length≤l.length
 |[],_=>Nat.le_refl _
 | b::l,k=>by
   have:=Qko l (k+1)
   simp only[sel];split<;>(try simp)<;>omega
theorem Zbq: ∀{l:List Bool} {k x:Int},x∈sel l k→k≤x∧x<k+l.length
 |[],_,_,h=>by simp [sel]at h
 | b ::l,k,x,h=>by
   simp only[sel]at h
   have go:x∈sel l (k+1)→k≤x∧x<k+(b::l).length:=λh=>by
     have:=Zbq h;simp;omega
   split at h
   · rcases List.mem_cons.1 h with e|e
     · subst e;simp;omega
     · exact go e
   · exact go h
theorem drop_at{l:List Bool}{i:Nat}(h:i<l.length):l.drop i=l.getD i false::l.drop (i+1):=by
 rw[List.drop_eq_getElem_cons h]
 show _=(l[i]?).getD false::_
 rw[List.getElem?_eq_getElem h];rfl
theorem Za7{l:List Bool}{i:Nat}(h:i<l.length)(hb:l.getD i false=true)(k:Int):sel (l.drop i) k=k::sel (l.drop (i+1)) (k+1):=by
 rw[drop_at h,sel,if_pos hb]
theorem sel_no{l:List Bool}{i:Nat}(h:i<l.length)(hb:l.getD i false=false)(k:Int):sel (l.drop i) k=sel (l.drop (i+1)) (k+1):=by
 rw[drop_at h,sel,if_neg (by rw[hb];simp)]
theorem wi{x:Int}(h0: -9223372036854775808≤x)(h1:x≤9223372036854775807):IntKind.wrap .i64 x=x:=by rw[IntKind.wrap_i64];omega
theorem pcnd{n:Nat}{i:Nat}(h:i<n):(Nat.beq 1 1&&Nat.blt 0 1&&decide (0≤(i:Int)∧(i:Int)<(n:Int)))=true:=by
 rw[decide_eq_true (by omega)];rfl
theorem app_w{s:List Int}{l:List Bool}(hb:s.length+l.length≤1000000000000):(Qga s l).w λr=>r=(s++sel l 0,l):=by
  unfold Qga
  refine w_lp (inv:=λz:Int×List Int=> ∃i:Nat,z.1=i∧i≤l.length∧z.2.length≤s.length+i∧z.2++sel (l.drop i) i=s++sel l 0) (μ:=Qa8 s l) ⟨0,rfl,Nat.zero_le _,by simp,by simp⟩ (Nat.lt_succ_self _) ?_
  rintro⟨_,x⟩ ⟨i,rfl,hi,hx,hs⟩
  simp only at hx hs
  refine w_br (λhlt=> ?_) (λhge=> ?_)
  · have hlt:i<l.length:=by simpa using hlt
    have ew:IntKind.wrap .i64 ((i:Int)+1)=((i+1:Nat):Int):=by rw[wi (by omega) (by omega)];omega
    refine w_cn (pcnd hlt) (w_br (λhb1=> ?_) (λhb1=> ?_))
    · rw [Int.toNat_natCast]at hb1
      refine w_an (?_:(Q1i i x).p) (w_lv λy hy=> ?_)
      · exact w_cn (decide_eq_true (by omega)) (w_lf trivial)
      · have hy:y=(true,x++[(i:Int)]):=hy
        subst hy
        refine w_br (λh=>by cases h) (λ_=>w_nx ?_)
        refine⟨⟨i+1,ew,hlt,by simp;omega,?_⟩,?_⟩
        · rw[Za7 hlt hb1]at hs
          simp only[List.append_assoc,List.singleton_append]
          rw[←hs];simp
        · simp only[Qa8,ew];omega
    · rw[Int.toNat_natCast]at hb1
      refine w_nx ⟨⟨i+1,ew,hlt,by show x.length≤_;omega,?_⟩,?_⟩
      · rw[sel_no hlt hb1]at hs;simpa using hs
      · simp only[Qa8,ew];omega
  · have hge:l.length≤i:=by simpa using hge
    rw[List.drop_eq_nil_of_le hge]at hs
    refine w_lf ?_
    show((x,l):List Int×List Bool)=_
    rw[←hs];simp [sel]
theorem count_w{n:Int}{l:List Bool}(h0:0≤n)(hb:n+l.length≤1000000000000):(Qaj n l).w λr=>r=(n+(sel l 0).length,l):=by
  unfold Qaj
  refine w_lp (inv:=λz:Int×Int=> ∃i:Nat,z.1=i∧i≤l.length∧0≤z.2∧z.2≤n+i∧z.2+(sel (l.drop i) i).length=n+(sel l 0).length) (μ:=Q77 n l) ⟨0,rfl,Nat.zero_le _,h0,by simp,by simp⟩ (Nat.lt_succ_self _) ?_
  rintro⟨_,x⟩ ⟨i,rfl,hi,hx0,hx,hs⟩
  simp only at hx0 hx hs
  refine w_br (λhlt=> ?_) (λhge=> ?_)
  · have hlt:i<l.length:=by simpa using hlt
    have ew:IntKind.wrap .i64 ((i:Int)+1)=((i+1:Nat):Int):=by rw[wi (by omega) (by omega)];omega
    refine w_cn (pcnd hlt) (w_br (λhb1=> ?_) (λhb1=> ?_))
    · rw[Int.toNat_natCast]at hb1
      refine w_lv λy hy=> ?_
      have hy:y=(true,IntKind.wrap .i64 (x+1)):=hy
      rw[wi (by omega) (by omega)]at hy
      subst hy
      refine w_br (λh=>by cases h) (λ_=>w_nx ?_)
      refine⟨⟨i+1,ew,hlt,by show 0≤x+1;omega,by show x+1≤_;omega,?_⟩,?_⟩
      · rw[Za7 hlt hb1]at hs
        simp only[List.length_cons]at hs
        show x+1+((sel (l.drop (i+1)) ((i+1:Nat):Int)).length:Int)=_
        have:((i+1:Nat):Int)=(i:Int)+1:=by omega
        rw[this];omega
      · simp only[Q77,ew];omega
    · rw[Int.toNat_natCast]at hb1
      refine w_nx ⟨⟨i+1,ew,hlt,hx0,by show x≤_;omega,?_⟩,?_⟩
      · rw[sel_no hlt hb1]at hs;simpa using hs
      · simp only[Q77,ew];omega
  · have hge:l.length≤i:=by simpa using hge
    rw[List.drop_eq_nil_of_le hge]at hs
    refine w_lf ?_
    show((x,l):Int×List Bool)=_
    rw[←hs];simp [sel]
theorem Z7t{c:Q03}(hb:c.A7.length≤1000000000000):Q4p c∧Q4c c=sel c.A7 0:=by
 have h1:=Tree.pp (app_w (s:=[]) (l:=c.A7) (by simpa using hb))
 have h2:(Q1l [] c.A7).w λr=>r=(sel c.A7 0,c.A7):=by
   unfold Q1l
   refine w_an h1.1 (w_lv λy hy=>w_lf ?_)
   have hy:y=Qud [] c.A7:=hy
   have e:Qud [] c.A7=(sel c.A7 0,c.A7):=h1.2
   rw[hy,e]
 have h2:=Tree.pp h2
 have h3:(Q2p c.A7).w λr=>r=(sel c.A7 0,c.A7):=by
   unfold Q2p
   refine w_an h2.1 (w_lv λy hy=>w_lf ?_)
   have hy:y=Q2m [] c.A7:=hy
   have e:Q2m [] c.A7=(sel c.A7 0,c.A7):=h2.2
   rw[hy,e]
 have h3:=Tree.pp h3
 have h4:(Q45 c).w λr=>r=sel c.A7 0:=by
   unfold Q45
   refine w_lv λ_ _=>w_an h3.1 (w_lv λy hy=>w_lf ?_)
   have hy:y=Q54 c.A7:=hy
   have e:Q54 c.A7=(sel c.A7 0,c.A7):=h3.2
   rw[hy,e]
 exact Tree.pp h4
theorem Zcl{c:Q03}(hb:c.A7.length≤1000000000000):Q60 c∧Q63 c=(sel c.A7 0).length:=by
 have h1:=Tree.pp (count_w (n:=0) (l:=c.A7) (Int.le_refl _) (by omega))
 have h4:(Q56 c).w λr=>r=(sel c.A7 0).length:=by
   unfold Q56
   refine w_lv λ_ _=>w_an h1.1 (w_lv λy hy=>w_lf ?_)
   have hy:y=Qkp 0 c.A7:=hy
   have e:Qkp 0 c.A7=(0+((sel c.A7 0).length:Int),c.A7):=h1.2
   rw[hy,e];simp
 exact Tree.pp h4
theorem Qas{m:List Int}{P:Nat}(hl:m.length=32*P)(hp:P≤32):Q0f m=P:=by
 simp only[Q0f,Q3v,Tree.m,hl]
 have e1:Int.tmod ((32*P:Nat):Int) 32=0:=by rw[Int.tmod_eq_emod_of_nonneg (by omega)];omega
 have e2:Int.tdiv ((32*P:Nat):Int) 32=P:=by rw[Int.tdiv_eq_ediv_of_nonneg (by omega)];omega
 rw[e1,e2,decide_eq_false (by omega),wi (by omega) (by omega)];rfl
theorem Z8i{m:List Int}{P:Nat}(h:Q0f m=P)(h1:1≤P):m.length=32*P∧P≤32:=by
 simp only[Q0f,Q3v,Tree.m]at h
 rw[Int.tmod_eq_emod_of_nonneg (by omega),Int.tdiv_eq_ediv_of_nonneg (by omega)]at h
 cases hb:(((m.length:Int)%32 !=0):Bool) with
 |true=>rw[hb]at h;simp only[cond_true]at h;omega
 | false=>
   rw[hb]at h
   simp only[cond_false]at h
   have hb:(m.length:Int)%32=0:=by simpa using hb
   cases hc:decide ((m.length:Int)>1024) with
   |true=>rw[hc]at h;simp only[cond_true]at h;omega
   | false=>
     rw[hc]at h
     simp only[cond_false]at h
     have hc:(m.length:Int)≤1024:=by simpa using hc
     rw[wi (by omega) (by omega)]at h
     omega
theorem page_pre{m:List Int}{P:Nat}(hl:m.length=32*P)(hp:P≤32){f:Int}(f0:0≤f)(f1:f<P):Q5k m f:=by
 show(Q2r m f).p
 have hh:Q1r m f=true:=by
   simp only[Q1r,Q3g,Tree.m,letv,Qas hl hp]
   rw[decide_eq_true (by omega:f≥0),decide_eq_true f1];rfl
 have e1:IntKind.wrap .i64 (f*32)=f*32:=wi (by omega) (by omega)
 have e2:IntKind.wrap .i64 (f*32+32)=f*32+32:=wi (by omega) (by omega)
 unfold Q2r
 refine w_lv λx hx=> ?_
 rw[hh]at hx;subst hx
 refine w_br (λh=>by cases h) (λ_=> ?_)
 rw[e1,e2]
 refine w_cn (by rw[decide_eq_true (by rw[hl];omega)];rfl) (w_an ?_ (w_lv λ_ _=>w_lf trivial))
 show List.length _≤1000000000000
 simp;omega
def Q4x(m:List Int)(l:List Int):List Q0i:=l.map λf=>⟨f,(Q34 m f).1⟩
theorem round_w{m:List Int}{P:Nat}(hl:m.length=32*P)(hp:P≤32){d:List Bool}(hd:d.length=P):(Qb0 m [] d).w λr=>r=(m,Q4x m (sel d 0),d):=by
  unfold Qb0
  refine w_lp (inv:=λz:Int×List Int×List Q0i=> ∃i:Nat,z.1=i∧i≤d.length∧z.2.1=m∧z.2.2.length≤i∧z.2.2++Q4x m (sel (d.drop i) i)=Q4x m (sel d 0)) (μ:=Q75 m [] d) ⟨0,rfl,Nat.zero_le _,rfl,by simp,by simp⟩ (Nat.lt_succ_self _) ?_
  rintro⟨_,_,x⟩ ⟨i,rfl,hi,hm,hx,hs⟩
  simp only at hm hx hs
  subst hm
  refine w_br (λhlt=> ?_) (λhge=> ?_)
  · have hlt:i<d.length:=by simpa using hlt
    have ew:IntKind.wrap .i64 ((i:Int)+1)=((i+1:Nat):Int):=by rw[wi (by omega) (by omega)];omega
    refine w_cn (pcnd hlt) (w_br (λhb1=> ?_) (λhb1=> ?_))
    · rw [Int.toNat_natCast]at hb1
      refine w_an (?_:(Q42 i _ x).p) (w_lv λy hy=> ?_)
      · exact w_an (page_pre hl hp (by omega) (by omega)) (w_lv λ_ _=>w_cn (decide_eq_true (by omega)) (w_lf trivial))
      · have hy:y=(true,_,x++[⟨(i:Int),(Q34 _ i).1⟩]):=hy
        subst hy
        refine w_br (λh=>by cases h) (λ_=>w_nx ?_)
        refine⟨⟨i+1,ew,hlt,rfl,by simp;omega,?_⟩,?_⟩
        · rw[Za7 hlt hb1]at hs
          simp only[List.append_assoc,List.singleton_append]
          rw[←hs];simp [Q4x]
        · simp only[Q75,ew];omega
    · rw[Int.toNat_natCast]at hb1
      refine w_nx ⟨⟨i+1,ew,hlt,rfl,by show x.length≤_;omega,?_⟩,?_⟩
      · rw[sel_no hlt hb1]at hs;simpa using hs
      · simp only[Q75,ew];omega
  · have hge:d.length≤i:=by simpa using hge
    rw[List.drop_eq_nil_of_le hge]at hs
    refine w_lf ?_
    show((_,x,d):List Int×List Q0i×List Bool)=_
    rw[←hs];simp [sel,Q4x]
def Qlz(c:Q03)(m:List Int):Q03×List Q0i:=
 if Q15 c=true∧c.C1≤10∧Q0f m=c.A7.length then
   ({A7:=List.replicate c.A7.length false,C1:=IntKind.wrap .i64 (c.C1+1),C8:=IntKind.wrap .i64 (c.C8+(sel c.A7 0).length)},Q4x m (sel c.A7 0))
 else(c,[])
theorem Z8y{c:Q03}(h:Q15 c=true):1≤c.A7.length∧c.A7.length≤32∧0≤c.C1∧c.C1≤11∧0≤c.C8∧c.C8≤352:=by
 simp only[Q15,Q8z,Tree.m,Bool.cond_false_right,Bool.and_eq_true,decide_eq_true_eq]at h
 omega
theorem Qny{c:Q03}:Q15 c=decide (1≤c.A7.length∧c.A7.length≤32∧0≤c.C1∧c.C1≤11∧0≤c.C8∧c.C8≤352):=by
 cases h:Q15 c with
 |true=>exact(decide_eq_true (Z8y h)).symm
 | false=>
   refine(decide_eq_false λhh=> ?_).symm
   have:Q15 c=true:=by
     simp only[Q15,Q8z,Tree.m,Bool.cond_false_right,Bool.and_eq_true,decide_eq_true_eq]
     omega
   rw[h]at this;cases this
theorem Quo{c:Q03}(hb:c.A7.length≤1000000000000):Q5z c∧Q66 c=c:=by
 refine⟨?_,rfl⟩
 show(Q8j c).p
 exact w_an (show c.A7.length≤140737488355328 by omega) (w_lv λ_ _=>w_lf trivial)
theorem Ze0{c:Q03}{m:List Int}(hb:c.A7.length≤1000000000000):Q64 c m∧Q5x c m=Qlz c m:=by
 have h:(Q5j c m).w λr=>r=Qlz c m:=by
   unfold Q5j
   refine w_an (Quo hb).1 (w_lv λx hx=> ?_)
   have hx:x=Q66 c:=hx
   rw[(Quo hb).2]at hx;subst hx
   refine w_lv λv hv=> ?_
   have hv:v=Q15 x:=hv
   refine w_br (λh1=>w_lf ?_) (λh1=> ?_)
   · have:Q15 x=false:=by rw[hv]at h1;simpa using h1
     simp [Qlz,this]
   have hV:Q15 x=true:=by rw[hv]at h1;simpa using h1
   obtain⟨v1,v2,v3,v4,v5,v6⟩:=Z8y hV
   refine w_br (λh2=>w_lf ?_) (λh2=> ?_)
   · have: ¬x.C1≤10:=by simpa using h2
     simp [Qlz,this]
   have h2:x.C1≤10:=by simpa using h2
   refine w_lv λp hp=> ?_
   have hp:p=Q0f m:=hp
   refine w_br (λh3=>w_lf ?_) (λh3=> ?_)
   · have: ¬Q0f m=x.A7.length:=by rw[hp]at h3;simpa using h3
     simp [Qlz,this]
   have h3:Q0f m=x.A7.length:=by rw[hp]at h3;simpa using h3
   obtain⟨l1,l2⟩:=Z8i h3 v1
   have hr:=Tree.pp (round_w l1 l2 rfl)
   refine w_lv λ_ _=>w_an hr.1 (w_lv λy hy=>w_cn ?_ (w_lf ?_))
   · rw[decide_eq_true (by omega)];rfl
   · have hy:y=Qks m [] x.A7:=hy
     have e:Qks m [] x.A7=(m,Q4x m (sel x.A7 0),x.A7):=hr.2
     rw[hy,e]
     simp [Qlz,hV,h2,h3,Q4x]
 exact Tree.pp h
theorem stop_w{c:Q03}{limit:Int}(hb:c.A7.length≤1000000000000):Q7b c limit∧Q7p c limit=(Q15 c&&(decide (((sel c.A7 0).length:Int)≤limit)||decide (c.C1≥10))):=by
 have h:(Q6k c limit).w λr=>r=(Q15 c&&(decide (((sel c.A7 0).length:Int)≤limit)||decide (c.C1≥10))):=by
   unfold Q6k
   refine w_lv λv hv=> ?_
   have hv:v=Q15 c:=hv
   subst hv
   refine w_br (λh1=> ?_) (λh1=>w_lf ?_)
   · obtain⟨g1,g2⟩:=Zcl hb
     refine w_an g1 (w_lv λx hx=> ?_)
     have hx:x=Q63 c:=hx
     rw[g2]at hx;subst hx
     rw[h1]
     refine w_br (λh2=>w_lf ?_) (λh2=>w_lf ?_)
     · rw[h2];rfl
     · rw[h2];simp
   · rw[h1];rfl
 exact Tree.pp h
theorem down_w{c:Q03}{rate:Int}(hb:c.A7.length≤1000000000000):Q6f c rate∧Q73 c rate=if rate<1 then 0 else if((sel c.A7 0).length:Int)%rate>0 then((sel c.A7 0).length:Int)/rate+1 else((sel c.A7 0).length:Int)/rate:=by
  have h:(Q3j c rate).w λr=>r=if rate<1 then 0 else if((sel c.A7 0).length:Int)%rate>0 then((sel c.A7 0).length:Int)/rate+1 else((sel c.A7 0).length:Int)/rate:=by
    unfold Q3j
    refine w_br (λh1=>w_lf ?_) (λh1=> ?_)
    · rw[if_pos (by simpa using h1)]
    have h1 : 1 ≤ rate := by have: ¬rate<1:=by simpa using h1
                             omega
    obtain⟨g1,g2⟩:=Zcl hb
    refine w_an g1 (w_lv λx hx=> ?_)
    have hx:x=Q63 c:=hx
    rw[g2]at hx;subst hx
    have hn:=Qko c.A7 0
    have e1:Int.tmod ((sel c.A7 0).length:Int) rate=((sel c.A7 0).length:Int)%rate:=Int.tmod_eq_emod_of_nonneg (by omega)
    have e2:Int.tdiv ((sel c.A7 0).length:Int) rate=((sel c.A7 0).length:Int)/rate:=Int.tdiv_eq_ediv_of_nonneg (by omega)
    have q0:0≤((sel c.A7 0).length:Int)/rate:=Int.ediv_nonneg (by omega) (by omega)
    have q1:((sel c.A7 0).length:Int)/rate≤(sel c.A7 0).length:=Int.ediv_le_self _ (by omega)
    rw[if_neg (by omega: ¬rate<1),e1,e2,wi (x:=((sel c.A7 0).length:Int)/rate) (by omega) (by omega),wi (by omega) (by omega)]
    refine w_cn (decide_eq_true (by omega)) (w_cn (decide_eq_true (by omega)) (w_br (λh2=>w_lf ?_) (λh2=>w_lf ?_)))
    · rw[if_pos (by simpa using h2)]
    · rw[if_neg (by simpa using h2)]
  exact Tree.pp h
theorem pnew_w{P:Nat}(h0:1≤P)(h1:P≤32):Qa1 P∧Qcd P=List.replicate (32*P) 0:=by
 have h:(Qab P).w λr=>r=List.replicate (32*P) 0:=by
   unfold Qab
   have e:IntKind.wrap .i64 ((P:Int)*32)=(P:Int)*32:=wi (by omega) (by omega)
   refine w_br (λh=>by simp at h;omega) (λ_=>w_br (λh=>by simp at h;omega) (λ_=> ?_))
   rw[e]
   refine w_cn (by rw[decide_eq_true (by omega)];rfl) (w_lf ?_)
   congr 1;omega
 exact Tree.pp h
theorem begin_w{P:Nat}(h0:1≤P)(h1:P≤32):Q6c P∧Q61 P=(⟨List.replicate P true,0,0⟩,true):=by
  have h:(Q57 P).w λr=>r=(⟨List.replicate P true,0,0⟩,true):=by
    unfold Q57
    refine w_br (λh=>by simp at h;omega) (λ_=>w_br (λh=>by simp at h;omega) (λ_=>w_cn (by rw[decide_eq_true (by omega)];rfl) ?_))
    refine w_lp (inv:=λz:Int×List Bool=> ∃i:Nat,z.1=i∧i≤P∧z.2=List.replicate i true++List.replicate (P-i) false) (μ:=Q7e P) ⟨0,rfl,Nat.zero_le _,by simp⟩ (Nat.lt_succ_self _) ?_
    rintro⟨_,x⟩ ⟨i,rfl,hi,hx⟩
    simp only at hx
    refine w_br (λhlt=> ?_) (λhge=> ?_)
    · have hlt:i<P:=by simpa using hlt
      have ew:IntKind.wrap .i64 ((i:Int)+1)=((i+1:Nat):Int):=by rw[wi (by omega) (by omega)];omega
      have hl:x.length=P:=by rw[hx];simp;omega
      refine w_cn (by rw[hl];exact pcnd hlt) (w_nx ⟨⟨i+1,ew,hlt,?_⟩,?_⟩)
      · show x.set (Int.toNat (i:Int)) true=_
        rw[hx,Int.toNat_natCast,List.set_append_right _ _ (by simp),show P-i=(P-(i+1))+1 by omega,List.replicate_succ,List.replicate_succ']
        simp
      · simp only[Q7e,ew];omega
    · have hge:P≤i:=by simpa using hge
      have:i=P:=by omega
      subst this
      refine w_lf ?_
      show(({A7:=x,C1:=(0:Int),C8:=(0:Int)}:Q03),true)=_
      rw[hx];simp
  exact Tree.pp h
def Ql5:List Bool→List Int→List Bool
 |d,[]=>d
 |d,f::l=>Ql5 (if 0≤f∧f<d.length then d.set f.toNat true else d) l
theorem Qru: ∀(l:List Int) (d:List Bool),(Ql5 d l).length=d.length
 |[],_=>rfl
 |f::l,d=>by simp only[Ql5];rw[Qru];split<;>simp
theorem note_w{c:Q03}{l:List Int}(hb:c.A7.length≤1000000000000)(hl:l.length≤1000000000000):Q7a c l∧Q7n c l={c with A7:=Ql5 c.A7 l}:=by
  have h:(Q6o c l).w λr=>r={c with A7:=Ql5 c.A7 l}:=by
    unfold Q6o
    refine w_an (Quo hb).1 (w_lv λx hx=> ?_)
    have hx:x=Q66 c:=hx
    rw[(Quo hb).2]at hx;subst hx
    refine w_lp (inv:=λz:Int×List Bool=> ∃i:Nat,z.1=i∧i≤l.length∧Ql5 z.2 (l.drop i)=Ql5 x.A7 l) (μ:=Q2k x l) ⟨0,rfl,Nat.zero_le _,by simp⟩ (Nat.lt_succ_self _) ?_
    rintro⟨_,d⟩ ⟨i,rfl,hi,hd⟩
    simp only at hd
    refine w_br (λhlt=> ?_) (λhge=> ?_)
    · have hlt:i<l.length:=by simpa using hlt
      have ew:IntKind.wrap .i64 ((i:Int)+1)=((i+1:Nat):Int):=by rw[wi (by omega) (by omega)];omega
      have hdr:l.drop i=l.getD i 0::l.drop (i+1):=by
        rw[List.drop_eq_getElem_cons hlt];congr 1;simp [List.getD,hlt]
      rw[hdr,Ql5]at hd
      have mx:Q2k x l (IntKind.wrap .i64 ((i:Int)+1),d)<Q2k x l ((i:Int),d):=by simp only[Q2k,ew];omega
      have skip: ¬(0≤l.getD i 0∧l.getD i 0<d.length)→(∃j:Nat,IntKind.wrap .i64 ((i:Int)+1)=j∧j≤l.length∧Ql5 d (l.drop j)=Ql5 x.A7 l):=λhn=>by
        rw[if_neg hn]at hd
        exact⟨i+1,ew,hlt,hd⟩
      refine w_cn (pcnd hlt) ?_
      refine w_br (λh1=> ?_) (λh1=>w_nx ⟨skip (λh=>of_decide_eq_false h1 h.1),mx⟩)
      have h1:0≤l.getD i 0:=of_decide_eq_true h1
      refine w_br (λh2=> ?_) (λh2=>w_nx ⟨skip (λh=>of_decide_eq_false h2 h.2),mx⟩)
      have h2:l.getD i 0<d.length:=of_decide_eq_true h2
      refine w_cn (Bool.and_eq_true_iff.2 ⟨rfl,decide_eq_true ⟨h1,h2⟩⟩) (w_nx ⟨⟨i+1,ew,hlt,?_⟩,?_⟩)
      · rw[if_pos ⟨h1,h2⟩]at hd;exact hd
      · simp only[Q2k,ew];omega
    · have hge:l.length≤i:=by simpa using hge
      rw[List.drop_eq_nil_of_le hge,Ql5]at hd
      refine w_lf ?_
      show({A7:=d,C1:=x.C1,C8:=x.C8}:Q03)=_
      rw[hd]
  exact Tree.pp h
theorem Qnj(m l:List Int):(Q4x m l).length=l.length:=by simp [Q4x]
theorem Z8w:Q4a∧Q7j=true:=by
 have h:Q8q.w λr=>r=true:=by
   unfold Q8q
   obtain⟨b1,b2⟩:=begin_w (P:=3) (by omega) (by omega)
   obtain⟨n1,n2⟩:=pnew_w (P:=3) (by omega) (by omega)
   refine w_an b1 (w_lv λx0 h0=>w_an n1 (w_lv λx1 h1=> ?_))
   have h0:x0=Q61 ((3:Nat):Int):=h0
   have h1:x1=Qcd ((3:Nat):Int):=h1
   rw[b2]at h0;rw[n2]at h1;subst h0;subst h1
   have hp:Q0f (List.replicate (32*3) (0:Int))=((3:Nat):Int):=Qas (by simp) (by omega)
   obtain⟨r1,r2⟩:=Ze0 (c:=⟨List.replicate 3 true,0,0⟩) (m:=List.replicate (32*3) (0:Int)) (by simp)
   have hR:Qlz ⟨List.replicate 3 true,0,0⟩ (List.replicate (32*3) (0:Int))=(⟨List.replicate 3 false,1,3⟩,Q4x (List.replicate (32*3) (0:Int)) [0,1,2]):=by
     unfold Qlz
     rw[if_pos ⟨by rw[Qny];rfl,by show(0:Int)≤10;omega,by rw[hp];rfl⟩]
     rfl
   refine w_an r1 (w_lv λx2 h2=> ?_)
   have h2:x2=Q5x _ _:=h2
   rw[r2,hR]at h2;subst h2
   obtain⟨o1,o2⟩:=note_w (c:=⟨List.replicate 3 false,1,3⟩) (l:=[1]) (by simp) (by simp)
   refine w_an o1 (w_lv λx3 h3=> ?_)
   have h3:x3=Q7n ⟨List.replicate 3 false,1,3⟩ [1]:=h3
   rw[o2]at h3
   have h3:x3=⟨[false,true,false],1,3⟩:=h3
   subst h3
   obtain⟨p1,p2⟩:=Z7t (c:=⟨[false,true,false],1,3⟩) (by simp)
   refine w_an p1 (w_lv λx4 h4=> ?_)
   have h4:x4=Q4c ⟨[false,true,false],1,3⟩:=h4
   rw[p2]at h4
   have h4:x4=[1]:=h4
   subst h4
   refine w_br (λ_=> ?_) (λh=>by cases h)
   refine w_br (λ_=> ?_) (λh=>by simp [Q4x]at h)
   refine w_br (λ_=> ?_) (λh=>by cases h)
   refine w_cn rfl ?_
   refine w_br (λ_=> ?_) (λh=>by cases h)
   refine w_br (λ_=> ?_) (λh=>by cases h)
   refine w_br (λ_=> ?_) (λh=>by cases h)
   obtain⟨s1,s2⟩:=stop_w (c:=⟨[false,true,false],1,3⟩) (limit:=1) (by simp)
   obtain⟨t1,t2⟩:=stop_w (c:=⟨[false,true,false],1,3⟩) (limit:=0) (by simp)
   obtain⟨d1,d2⟩:=down_w (c:=⟨[false,true,false],1,3⟩) (rate:=5) (by simp)
   refine w_an s1 (w_lv λx5 h5=> ?_)
   have h5:x5=Q7p ⟨[false,true,false],1,3⟩ 1:=h5
   rw[s2,Qny]at h5
   have h5:x5=true:=h5
   subst h5
   refine w_br (λ_=> ?_) (λh=>by cases h)
   refine w_an t1 (w_lv λx6 h6=> ?_)
   have h6:x6=Q7p ⟨[false,true,false],1,3⟩ 0:=h6
   rw[t2,Qny]at h6
   have h6:x6=false:=h6
   subst h6
   refine w_br (λ_=> ?_) (λh=>by cases h)
   refine w_an d1 (w_lv λx7 h7=>w_lf ?_)
   have h7:x7=Q73 ⟨[false,true,false],1,3⟩ 5:=h7
   rw[d2]at h7
   have h7:x7=1:=h7
   subst h7
   rfl
 exact Tree.pp (W:=λr=>r=true) h
theorem Ze2{W:Bool→Prop}(h:W true):(Tree.an Q4a (.lv Q7j λx=> .lf x)).w W:=by
 obtain⟨h1,h2⟩:=Z8w
 refine w_an h1 (w_lv λx hx=>w_lf ?_)
 have hx:x=Q7j:=hx
 rw[hx,h2];exact h
theorem pcnd2{n:Nat}{i:Nat}(h:i<n):(Nat.beq 2 2&&Nat.blt 0 2&&decide (0≤(i:Int)∧(i:Int)<(n:Int)))=true:=by
 rw[decide_eq_true (by omega)];rfl
theorem take_at{α:Type}{l:List α}{i:Nat}(h:i<l.length)(d:α):l.take (i+1)=l.take i++[l.getD i d]:=by
 rw[List.take_add_one];simp [List.getD,h]
theorem sameW_w{a:List Int}(hb:a.length≤1000000000000):Qfa a a=true:=by
 have h:(Q3e a a).w λr=>r=true:=by
   unfold Q3e
   refine w_br (λh=>by simp at h) (λ_=> ?_)
   refine w_lp (inv:=λz:Int=> ∃i:Nat,z=i∧i≤a.length) (μ:=Q2q a a) ⟨0,rfl,Nat.zero_le _⟩ (Nat.lt_succ_self _) ?_
   rintro _ ⟨i,rfl,hi⟩
   refine w_br (λhlt=> ?_) (λhge=>w_lf rfl)
   have hlt:i<a.length:=by simpa using hlt
   have ew:IntKind.wrap .i64 ((i:Int)+1)=((i+1:Nat):Int):=by rw[wi (by omega) (by omega)];omega
   refine w_cn (pcnd hlt) (w_cn (pcnd hlt) (w_br (λh=>by simp at h) (λ_=>w_nx ⟨⟨i+1,ew,hlt⟩,by simp only[Q2q,ew];omega⟩)))
 exact(Tree.pp (W:=λr=>r=true) h).2
def Zc6(P:Int)(c:Q0i):Prop:=0≤c.Frame∧c.Frame<P∧c.D5.length=128
instance (P:Int) (c:Q0i):Decidable (Zc6 P c):=by unfold Zc6;infer_instance
def Qi0(m:List Int)(l:List Q0i):List Int:=l.foldl (λm c=>(Q2v m c.Frame c.D5).1) m
theorem Zen(m:List Int)(l k:List Q0i):Qi0 m (l++k)=Qi0 (Qi0 m l) k:=List.foldl_append ..
theorem Z85{P:Nat}: ∀{l:List Q0i} {m:List Int},Q12 P m→(∀c∈l,Zc6 P c)→Q12 P (Qi0 m l)
 |[],_,h,_=>h
 | c::l,m,h,hg=>by
   obtain⟨g1,g2,g3⟩:=hg c (List.mem_cons_self ..)
   have:=(Tree.pp (Qvw h g1 g2 g3)).2
   exact Z85 (l:=l) (m:=(Q2v m c.Frame c.D5).1) this.2.1 λd hd=>hg d (List.mem_cons_of_mem _ hd)
def Qs5(m:List Int)(l:List Q0i):List Int×Bool:=
 if Q0f m=0 then(m,false) else if∀c∈l,Zc6 (Q0f m) c then(Qi0 m l,true) else(m,false)
theorem pages_nn{x:List Int}(hl:x.length≤2000):0≤Q0f x:=by
 simp only[Q0f,Q3v,Tree.m]
 cases(Int.tmod (x.length:Int) 32 !=0)
 · cases hd:decide ((x.length:Int)>1024)
   · have:=of_decide_eq_false hd
     simp only[cond_false]
     rw[Int.tdiv_eq_ediv_of_nonneg (by omega),wi (by omega) (by omega)];omega
   · exact Int.le_refl _
 · exact Int.le_refl _
theorem papply_w{m:List Int}{l:List Q0i}(hu: ∀w∈m,U w)(hl:m.length≤2000)(hc:l.length≤60):Q9m m l∧Qc7 m l=Qs5 m l:=by
  have h:(Q5i m l).w λr=>r=Qs5 m l:=by
    unfold Q5i
    refine w_lv λp hp=>w_an (show m.length≤35184372088832 by omega) (w_lv λx hx=> ?_)
    have hx:x=m:=hx
    subst hx
    have hp:p=Q0f x:=hp
    subst hp
    refine w_br (λh=>w_lf ?_) (λh0=> ?_)
    · show(x,false)=_
      have:Q0f x=0:=by simpa using h
      rw[Qs5,if_pos this]
    have h0: ¬Q0f x=0:=by simpa using h0
    refine w_lp (inv:=λz:Int=> ∃i:Nat,z=i∧i≤l.length∧(∀c∈l.take i,Zc6 (Q0f x) c)) (μ:=Q7l x l) ⟨0,rfl,Nat.zero_le _,by simp⟩ (Nat.lt_succ_self _) ?_
    rintro _ ⟨i,rfl,hi,hg⟩
    refine w_br (λhlt=> ?_) (λhge=> ?_)
    · have hlt:i<l.length:=by simpa using hlt
      have ew:IntKind.wrap .i64 ((i:Int)+1)=((i+1:Nat):Int):=by rw[wi (by omega) (by omega)];omega
      have hm:l.getD i (RK.dflt RK.apiPageCopy)∈l:=by
        have:l.getD i (RK.dflt RK.apiPageCopy)=l[i]:=by simp [List.getD,hlt]
        rw[this];exact List.getElem_mem hlt
      have bad: ¬Zc6 (Q0f x) (l.getD i (RK.dflt RK.apiPageCopy))→(x,false)=Qs5 x l:=λg=>by
        rw[Qs5,if_neg h0,if_neg (λh=>g (h _ hm))]
      refine w_cn (pcnd2 hlt) ?_
      refine w_br (λh=>w_lf (bad λg=> ?_)) (λh1=>w_br (λh=>w_lf (bad λg=> ?_)) (λh2=>w_br (λh=>w_lf (bad λg=> ?_)) (λh3=>w_nx ⟨⟨i+1,ew,hlt,?_⟩,by simp only[Q7l,ew];omega⟩)))
      · have h:=of_decide_eq_true h
        have:=g.1
        simp only[Int.toNat_natCast]at h;omega
      · have h:=of_decide_eq_true h
        have:=g.2.1
        simp only[Int.toNat_natCast]at h;omega
      · have:=g.2.2
        simp only[Int.toNat_natCast,this]at h;cases h
      · rw[take_at hlt (RK.dflt RK.apiPageCopy)]
        have h1:=of_decide_eq_false h1
        have h2:=of_decide_eq_false h2
        simp only[Int.toNat_natCast]at h1 h2 h3
        have h3:((l.getD i (RK.dflt RK.apiPageCopy)).D5.length:Int)=128:=by simpa using h3
        intro c hc
        rcases List.mem_append.1 hc with h|h
        · exact hg c h
        · rw[List.mem_singleton.1 h];exact⟨by omega,by omega,by omega⟩
    · have hge:l.length≤i:=by simpa using hge
      rw[List.take_of_length_le hge]at hg
      have hp0:=pages_nn hl
      obtain⟨P,hP⟩: ∃P:Nat,Q0f x=P:=⟨(Q0f x).toNat,by omega⟩
      obtain⟨l1,l2⟩:=Z8i hP (by omega)
      have ok:Q12 P x:=⟨l1,Nat.zero_le _,l2,hu⟩
      have hg0:=hg
      rw[hP]at hg
      refine w_lp (inv:=λz:Int×List Int=> ∃i:Nat,z.1=i∧i≤l.length∧z.2=Qi0 x (l.take i)) (μ:=Q7m x l) ⟨0,rfl,Nat.zero_le _,by simp [Qi0]⟩ (Nat.lt_succ_self _) ?_
      rintro⟨_,y⟩ ⟨i,rfl,hi,hy⟩
      simp only at hy
      refine w_br (λhlt=> ?_) (λhge=> ?_)
      · have hlt:i<l.length:=by simpa using hlt
        have ew:IntKind.wrap .i64 ((i:Int)+1)=((i+1:Nat):Int):=by rw[wi (by omega) (by omega)];omega
        have hm:l.getD i (RK.dflt RK.apiPageCopy)∈l:=by
          have:l.getD i (RK.dflt RK.apiPageCopy)=l[i]:=by simp [List.getD,hlt]
          rw[this];exact List.getElem_mem hlt
        have oky:Q12 P y:=by rw[hy];exact Z85 ok λc hc=>hg c (List.mem_of_mem_take hc)
        obtain⟨g1,g2,g3⟩:=hg _ hm
        refine w_cn (pcnd2 hlt) (w_an (Tree.pp (Qvw oky g1 g2 g3)).1 (w_lv λr hr=>w_nx ⟨⟨i+1,ew,hlt,?_⟩,by simp only[Q7m,ew];omega⟩))
        show r.1=_
        rw[take_at hlt (RK.dflt RK.apiPageCopy),Zen,←hy,hr];rfl
      · have hge:l.length≤i:=by simpa using hge
        rw[List.take_of_length_le hge]at hy
        refine w_lf ?_
        show(y,true)=_
        rw[Qs5,if_neg h0,if_pos hg0,hy]
  exact Tree.pp h
def Agree(a b:List Int)(d:List Bool):Prop:= ∀j:Nat,j<a.length→d.getD (j/32) false=false→a.getD j 0=b.getD j 0
theorem agree_w{a b:List Int}{c:Q03}{P:Nat}(hP:P≤32)(ha:a.length=32*P)(hb:b.length=32*P)(hd:c.A7.length=P)(h:Agree a b c.A7):Q96 a b c∧Qgi a b c=true:=by
 have h:(Q8u a b c).w λr=>r=true:=by
   unfold Q8u
   have e32:IntKind.wrap .i64 ((c.A7.length:Int)*32)=(c.A7.length:Int)*32:=wi (by omega) (by omega)
   refine w_br (λh=>by exfalso;rw[ha,hb]at h;simp at h) (λ_=>w_br (λh=>by exfalso;rw[e32,ha,hd]at h;simp at h;omega) (λ_=> ?_))
   refine w_lp (inv:=λz:Int=> ∃i:Nat,z=i∧i≤a.length) (μ:=Q47 a b c) ⟨0,rfl,Nat.zero_le _⟩ (Nat.lt_succ_self _) ?_
   rintro _ ⟨i,rfl,hi⟩
   refine w_br (λhlt=> ?_) (λ_=>w_lf rfl)
   have hlt:i<a.length:=by simpa using hlt
   have ew:IntKind.wrap .i64 ((i:Int)+1)=((i+1:Nat):Int):=by rw[wi (by omega) (by omega)];omega
   have ed:IntKind.wrap .i64 (Int.tdiv (i:Int) 32)=((i/32:Nat):Int):=by rw[Int.tdiv_eq_ediv_of_nonneg (by omega),wi (by omega) (by omega)];omega
   have nx:(∃j:Nat,IntKind.wrap .i64 ((i:Int)+1)=j∧j≤a.length)∧Q47 a b c (IntKind.wrap .i64 ((i:Int)+1))<Q47 a b c (i:Int):=⟨⟨i+1,ew,hlt⟩,by simp only[Q47,ew];omega⟩
   rw[ed]
   refine w_cn (pcnd (by omega)) (w_br (λhn=> ?_) (λ_=>w_nx nx))
   rw[Int.toNat_natCast]at hn
   refine w_cn (pcnd hlt) (w_cn (pcnd (by omega)) (w_br (λhne=> ?_) (λ_=>w_nx nx)))
   exfalso
   rw[Int.toNat_natCast,h i hlt (by simpa using hn)]at hne
   simp at hne
 exact Tree.pp (W:=λr=>r=true) h
theorem equal_w{s t:List Int}(hl:s.length≤1000000000000):Q22 s t=true→s=t:=by
 have h:(Q13 s t).w λr=>r=true→s=t:=by
   unfold Q13
   refine w_br (λ_=>w_lf λh=>by cases h) (λhe=> ?_)
   have he:s.length=t.length:=by
     have:(s.length:Int)=t.length:=by simpa using he
     omega
   refine w_lp (inv:=λz:Int=> ∃i:Nat,z=i∧i≤s.length∧ ∀j,j<i→s.getD j 0=t.getD j 0) (μ:=Q14 s t) ⟨0,rfl,Nat.zero_le _,λj h=>by omega⟩ (Nat.lt_succ_self _) ?_
   rintro _ ⟨i,rfl,hi,hj⟩
   refine w_br (λhlt=> ?_) (λhge=>w_lf λ_=> ?_)
   · have hlt:i<s.length:=by simpa using hlt
     have ew:IntKind.wrap .i64 ((i:Int)+1)=((i+1:Nat):Int):=by rw[wi (by omega) (by omega)];omega
     refine w_cn (pcnd hlt) (w_cn (pcnd (by omega)) (w_br (λ_=>w_lf λh=>by cases h) (λheq=>w_nx ⟨⟨i+1,ew,hlt,λj hj'=> ?_⟩,by simp only[Q14,ew];omega⟩)))
     rw[Int.toNat_natCast]at heq
     rcases Nat.lt_succ_iff_lt_or_eq.1 hj' with h|h
     · exact hj j h
     · subst h;simpa using heq
   · have hge:s.length≤i:=by simpa using hge
     refine List.ext_getElem he λj h1 h2=> ?_
     have:=hj j (by omega)
     simpa [List.getD,h1,h2] using this
 exact(Tree.pp h).2
theorem changed_w{a b:List Int}{P:Nat}(ha:Q12 P a)(hb:Q12 P b):Q8p a b∧(Q6n a b).length≤P∧ ∀k:Nat,k<P→(k:Int)∈Q6n a b∨(a.drop (k*32)).take 32=(b.drop (k*32)).take 32:=by
  have h:(Q4t a b).w λr=>r.length≤P∧ ∀k:Nat,k<P→(k:Int)∈r∨(a.drop (k*32)).take 32=(b.drop (k*32)).take 32:=by
    have la:=ha.len
    have lb:=hb.len
    have hp:=ha.p2
    unfold Q4t
    refine w_lv λx0 h0=>w_lv λx1 h1=> ?_
    have h0:x0=P:=h0.trans (Qas la hp)
    have h1:x1=P:=h1.trans (Qas lb hp)
    subst h0;subst h1
    refine w_br (λh=>by simp at h) (λ_=> ?_)
    refine w_lp (inv:=λz:Int×List Int=> ∃i:Nat,z.1=i∧i≤P∧z.2.length≤i∧ ∀k:Nat,k<i→(k:Int)∈z.2∨(a.drop (k*32)).take 32=(b.drop (k*32)).take 32) (μ:=λz=>(P-z.1).toNat) ⟨0,rfl,Nat.zero_le _,by simp,λk h=>by omega⟩ (by simp only[Qbr];omega) ?_
    rintro⟨_,x⟩ ⟨i,rfl,hi,hx,hk⟩
    simp only at hx hk
    refine w_br (λhlt=> ?_) (λhge=>w_lf ?_)
    · have hlt:i<P:=by simpa using hlt
      have ew:IntKind.wrap .i64 ((i:Int)+1)=((i+1:Nat):Int):=by rw[wi (by omega) (by omega)];omega
      have e1:IntKind.wrap .i64 ((i:Int)*32)=((i*32:Nat):Int):=by rw[wi (by omega) (by omega)];omega
      have e2:IntKind.wrap .i64 (((i+1:Nat):Int)*32)=((i*32+32:Nat):Int):=by rw[wi (by omega) (by omega)];omega
      simp only[ew,e1,e2,Int.toNat_natCast,show i*32+32-i*32=32 by omega]
      refine w_cn (by rw[decide_eq_true (by omega)];rfl) (w_cn (by rw[decide_eq_true (by omega)];rfl) (w_an (show _≤_ by simp;omega) (w_lv λx2 h2=> ?_)))
      have h2:x2=Q22 _ _:=h2
      refine w_br (λhn=>w_cn (decide_eq_true (by omega)) (w_nx ⟨⟨i+1,rfl,hlt,by simp;omega,λk hk'=> ?_⟩,by omega⟩)) (λhn=>w_nx ⟨⟨i+1,rfl,hlt,by show x.length≤_;omega,λk hk'=> ?_⟩,by omega⟩)
      · rcases Nat.lt_succ_iff_lt_or_eq.1 hk' with h|h
        · rcases hk k h with h|h
          · exact .inl (List.mem_append_left _ h)
          · exact .inr h
        · subst h;exact .inl (by simp)
      · rcases Nat.lt_succ_iff_lt_or_eq.1 hk' with h|h
        · exact hk k h
        · subst h
          have:x2=true:=by simpa using hn
          exact .inr (equal_w (by simp;omega) (h2.symm.trans this))
    · have hge:P≤i:=by simpa using hge
      exact⟨by show x.length≤P;omega,λk hk'=>hk k (by omega)⟩
  exact Tree.pp h
theorem Qxc: ∀{l:List Int} {d:List Bool} {k:Nat},k<d.length→(d.getD k false=true∨(k:Int)∈l)→(Ql5 d l).getD k false=true
  | [],d,k,_,h=>by
    rcases h with h|h
    · exact h
    · cases h
  | f :: l,d,k,hk,h=>by
    simp only[Ql5]
    by_cases hf:0≤f∧f<d.length
    · rw [if_pos hf]
      refine Qxc (by simpa using hk) ?_
      by_cases e:f.toNat=k
      · refine .inl ?_
        subst e
        simp [List.getD,hk]
      · rcases h with h|h
        · refine .inl ?_
          rw[List.getD_eq_getElem?_getD,List.getElem?_set_ne e,←List.getD_eq_getElem?_getD];exact h
        · rcases List.mem_cons.1 h with h|h
          · omega
          · exact .inr h
    · rw[if_neg hf]
      refine Qxc hk ?_
      rcases h with h|h
      · exact .inl h
      · rcases List.mem_cons.1 h with h|h
        · omega
        · exact .inr h
theorem Zdf: ∀{l:List Bool} {k:Int} {j:Nat},j<l.length→l.getD j false=true→k+(j:Int)∈sel l k
 |[],_,_,h,_=>by simp at h
 | b::l,k,0,_,h=>by
   have hb:b=true:=h
   subst hb
   simp [sel]
 | b::l,k,j+1,h,hb=>by
   have ih:=Zdf (l:=l) (k:=k+1) (j:=j) (by simpa using h) hb
   have e:k+((j+1:Nat):Int)=k+1+(j:Int):=by omega
   rw[e]
   simp only[sel];split
   · exact List.mem_cons_of_mem _ ih
   · exact ih
theorem Qno{P:Nat}{m:List Int}(hm:Q12 P m): ∀{l:List Int} {d:List Int},Q12 P d→(∀f∈l,0≤f∧f<P)→Q12 P (Qi0 d (Q4x m l))∧ ∀b:Nat,byt (Qi0 d (Q4x m l)) b=if((b/128:Nat):Int)∈l then byt m b else byt d b
  |[],d,hd,_=>⟨hd,λb=>by simp [Q4x,Qi0]⟩
  | f ::l,d,hd,hf=>by
    obtain⟨f0,f1⟩:=hf f (List.mem_cons_self ..)
    have pg:=(Tree.pp (mpage_b hm f0 f1)).2.1
    have pg:isPg m f (Q34 m f).1:=pg
    have st:=(Tree.pp (Qvw hd f0 f1 pg.1)).2
    obtain⟨s1,s2,s3⟩:=st
    obtain⟨r1,r2⟩:=Qno hm (l:=l) (d:=(Q2v d f (Q34 m f).1).1) s2 (λg hg=>hf g (List.mem_cons_of_mem _ hg))
    refine⟨r1,λb=> ?_⟩
    have r2:=r2 b
    show byt (Qi0 (Q2v d f (Q34 m f).1).1 (Q4x m l)) b=_
    rw[r2]
    by_cases h1:((b/128:Nat):Int)∈l
    · rw[if_pos h1,if_pos (List.mem_cons_of_mem _ h1)]
    · rw[if_neg h1]
      have s3:byt (Q2v d f (Q34 m f).1).1 b=_:=s3 b
      rw[s3]
      by_cases hb:f*128≤b∧(b:Int)<f*128+128
      · have e:((b/128:Nat):Int)=f:=by omega
        rw[if_pos hb,if_pos (by rw[e];exact List.mem_cons_self ..)]
        have:=pg.2 ((b:Int)-f*128).toNat (by omega)
        rw[this]
        congr 1;omega
      · rw[if_neg hb,if_neg]
        intro h
        rcases List.mem_cons.1 h with h|h
        · omega
        · exact h1 h
theorem byt_eq{m d:List Int}{b:Nat}(h:m.getD (b/4) 0=d.getD (b/4) 0):byt m b=byt d b:=by unfold byt;rw[h]
theorem copied{P:Nat}{m d:List Int}(hm:Q12 P m)(hd:Q12 P d){D:List Bool}(hD:D.length=P)(h:Agree m d D):Qi0 d (Q4x m (sel D 0))=m:=by
  obtain⟨r1,r2⟩:=Qno hm (l:=sel D 0) hd λf hf=>by have:=Zbq hf;omega
  refine byt_ext (r1.len.trans hm.len.symm) r1.u hm.u λb=> ?_
  rw[r2 b]
  by_cases hb:((b/128:Nat):Int)∈sel D 0
  · rw[if_pos hb]
  · rw [if_neg hb]
    have lm:=hm.len
    have ld:=hd.len
    by_cases hl:b/4<m.length
    · refine(byt_eq (h (b/4) hl ?_)).symm
      have hlt:b/4/32<D.length:=by omega
      cases hq:D.getD (b/4/32) false with
      |false=>rfl
      | true=>
        exfalso
        have:=Zdf (k:=0) hlt hq
        apply hb
        rw[show b/128=b/4/32 by omega]
        simpa using this
    · refine(byt_eq ?_).symm
      simp [List.getD,List.getElem?_eq_none (show m.length≤b/4 by omega),List.getElem?_eq_none (show d.length≤b/4 by omega)]
theorem same_page{a b:List Int}{j:Nat}(h:(a.drop (j/32*32)).take 32=(b.drop (j/32*32)).take 32):a.getD j 0=b.getD j 0:=by
 have e:=congrArg (λl=>l.getD (j%32) 0) h
 have hm:j%32<32:=Nat.mod_lt _ (by decide)
 simp only[List.getD_eq_getElem?_getD,List.getElem?_take,hm,if_true,List.getElem?_drop]at e
 rw[show j/32*32+j%32=j by omega]at e
 simpa only[List.getD_eq_getElem?_getD] using e
theorem roundF_pg{c:Q03}{m:List Int}{P:Nat}(hP:1≤P)(hm:Q12 P m)(hd:c.A7.length=P)(r0:0≤c.C1)(r1:c.C1≤10)(s0:0≤c.C8)(s1:c.C8≤352):Qlz c m=(⟨List.replicate P false,c.C1+1,c.C8+(sel c.A7 0).length⟩,Q4x m (sel c.A7 0)):=by
 have:=Qko c.A7 0
 have hP2:=hm.p2
 unfold Qlz
 rw[if_pos ⟨by rw[Qny];exact decide_eq_true (by omega),r1,by rw[Qas (P:=P) hm.len hP2,hd]⟩,wi (by omega) (by omega),wi (by omega) (by omega),hd]
def cInv(rounds:List Int)(z:List Int×Int×Int×Q00×Q03):Prop:=
 ∃i:Nat,z.2.2.1=i∧i≤rounds.length∧Q12 8 z.1∧(okS 8 z.2.2.2.1∧0≤z.2.2.2.1.A4)∧z.2.2.2.2.A7.length=8∧z.2.2.2.2.C1=i∧z.2.2.2.2.C8=z.2.1∧0≤z.2.1∧z.2.1≤8*i∧Agree z.2.2.2.1.Mem z.1 z.2.2.2.2.A7
theorem copies_w(kind:Int)(prog rounds:List Int)(hl:prog.length*8≤reachBytes):(Q2b kind prog rounds).w λr=>r=true:=by
 unfold Q2b
 refine w_br (λ_=>Ze2 rfl) (λh1=>w_br (λ_=>Ze2 rfl) (λh2=> ?_))
 have h1:=of_decide_eq_false h1
 have h2:=of_decide_eq_false h2
 refine Q0d (Za8 kind prog hl (by omega)) λx2 k2=> ?_
 have hm8:Q0f x2.Mem=((8:Nat):Int):=Qas k2.mem.len (by decide)
 refine w_lv λx3 e3=> ?_
 have e3:x3=((8:Nat):Int):=e3.trans hm8
 subst e3
 obtain⟨b1,b2⟩:=begin_w (P:=8) (by omega) (by omega)
 obtain⟨n1,n2⟩:=pnew_w (P:=8) (by omega) (by omega)
 refine w_an b1 (w_lv λx4 e4=>w_lv λx5 e5=> ?_)
 have e5:x5=((8:Nat):Int):=e5.trans hm8
 subst e5
 refine w_an n1 (w_lv λx6 e6=> ?_)
 have e4:x4=Q61 ((8:Nat):Int):=e4
 have e6:x6=Qcd ((8:Nat):Int):=e6
 rw[b2]at e4;rw[n2]at e6;subst e4;subst e6
 refine w_br (λh=>by cases h) (λ_=> ?_)
 have hn:Q12 8 (List.replicate (32*8) (0:Int)):=⟨by simp,by omega,by omega,λw hw=>by rw[List.eq_of_mem_replicate hw];exact U_0⟩
 refine w_lp (inv:=cInv rounds) (μ:=Q3x kind prog rounds)
   ⟨0,rfl,Nat.zero_le _,hn,⟨⟨k2.cpu,k2.mem,k2.disk,k2.nic,k2.target.1,k2.target.2⟩,k2.cnt⟩,by simp,rfl,rfl,Int.le_refl _,by simp,λj hj h=> ?_⟩ (Nat.lt_succ_self _) ?_
 · exfalso
   have:=k2.mem.len
   have hj:j<x2.Mem.length:=hj
   have h:(List.replicate 8 true).getD (j/32) false=false:=h
   have h8:j/32<8:=by omega
   have all8: ∀k,k<8→(List.replicate 8 true).getD k false=true:=by decide
   rw[all8 _ h8]at h;cases h
 rintro⟨dst,sent,_,m,c⟩ ⟨i,rfl,hi,okd,⟨okm,hct⟩,hd,hr,hs,s0,s1,ha⟩
 simp only at hi okd okm hct hd hr hs s0 s1 ha
 have ei:IntKind.wrap .i64 ((i:Int)+1)=((i+1:Nat):Int):=by rw[wi (by omega) (by omega)];omega
 refine w_br (λhlt=> ?_) (λhge=>absurd (of_decide_eq_false hge) (by show¬ ¬(i:Int)≤_;omega))
 obtain⟨p1,p2⟩:=Z7t (c:=c) (by omega)
 obtain⟨r1,r2⟩:=Ze0 (c:=c) (m:=m.Mem) (by omega)
 rw[roundF_pg (by omega) okm.mem hd (by omega) (by omega) (by omega) (by omega)]at r2
 have hn8:=Qko c.A7 0
 refine w_an p1 (w_lv λx7 e7=>w_an r1 (w_lv λx8 e8=> ?_))
 have e7:x7=Q4c c:=e7
 have e8:x8=Q5x c m.Mem:=e8
 rw[p2]at e7;rw[r2]at e8;subst e7;subst e8
 refine w_br (λh=>by simp [Q4x]at h) (λ_=>w_br (λh=> ?_) (λ_=>w_br (λh=> ?_) (λ_=> ?_)))
 · exfalso
   have h:((c.C1+1) !=IntKind.wrap .i64 ((i:Int)+1))=true:=h
   rw[ei,hr]at h;simp at h
 · exfalso
   have h:((c.C8+((sel c.A7 0).length:Int)) !=IntKind.wrap .i64 (sent+((Q4x m.Mem (sel c.A7 0)).length:Int)))=true:=h
   rw[Qnj,hs,wi (by omega) (by omega)]at h;simp at h
 have hcl:(Q4x m.Mem (sel c.A7 0)).length≤60:=by rw[Qnj];omega
 obtain⟨a1,a2⟩:=papply_w (m:=dst) (l:=Q4x m.Mem (sel c.A7 0)) okd.u (by have:=okd.len;omega) hcl
 have hgood: ∀q∈Q4x m.Mem (sel c.A7 0),Zc6 (Q0f dst) q:=by
   rw[Qas (P:=8) okd.len (by decide)]
   intro q hq
   obtain⟨f,hf,rfl⟩:=List.mem_map.1 hq
   have hf:=Zbq hf
   have f0:0≤f:=hf.1
   have f1:f<((8:Nat):Int):=by omega
   exact⟨f0,f1,((Tree.pp (mpage_b okm.mem f0 f1)).2.1:isPg m.Mem f (Q34 m.Mem f).1).1⟩
 have hap:Qs5 dst (Q4x m.Mem (sel c.A7 0))=(m.Mem,true):=by
   rw[Qs5,if_neg (by rw[Qas (P:=8) okd.len (by decide)];decide),if_pos hgood,copied okm.mem okd hd ha]
 rw[hap]at a2
 refine w_an a1 (w_lv λx9 e9=> ?_)
 have e9:x9=Qc7 dst (Q4x m.Mem (sel c.A7 0)):=e9
 rw[a2]at e9;subst e9
 refine w_br (λh=>by cases h) (λ_=> ?_)
 obtain⟨g1,g2⟩:=agree_w (a:=m.Mem) (b:=m.Mem) (c:=⟨List.replicate 8 false,c.C1+1,c.C8+((sel c.A7 0).length:Int)⟩) (P:=8) (by decide) okm.mem.len okm.mem.len (by simp) (λ_ _ _=>rfl)
 refine w_an g1 (w_lv λx10 e10=>w_br (λh=> ?_) (λ_=> ?_))
 · exfalso
   have:x10=true:=e10.trans g2
   rw[this]at h;cases h
 refine w_br (λ_=> ?_) (λhne=> ?_)
 · have hml:m.Mem.length≤1000000000000:=by have:=okm.mem.len;omega
   refine w_an hml (w_lv λx11 e11=>w_br (λ_=> ?_) (λh=> ?_))
   · obtain⟨g1,g2⟩:=Z8w
     exact w_an g1 (w_lv λx hx=>w_lf (show x=true from hx.trans g2))
   · exfalso
     have:x11=true:=e11.trans (sameW_w hml)
     rw[this]at h;cases h
 have hne:i<rounds.length:=by
   have: ¬(i:Int)=rounds.length:=by simpa using hne
   omega
 have hmr:=Qxv (n:=rounds.getD i 0) (k:=30) (by decide) (by decide)
 refine w_lp (inv:=λz:Int×Q00=> ∃k:Nat,z.1=k∧k≤30∧okS 8 z.2∧0≤z.2.A4) (μ:=Q3w kind prog rounds)
   ⟨0,rfl,by omega,okm,hct⟩ (Nat.lt_succ_self _) ?_
 rintro⟨_,n⟩ ⟨k,rfl,hk,okn,hcn⟩
 simp only at okn hcn
 refine w_cn (pcnd hne) (w_an (Qdn (by decide)) (w_lv λx13 e13=> ?_))
 have e13:x13=Q3d (rounds.getD i 0) 30:=e13
 refine w_br (λhlt2=> ?_) (λ_=> ?_)
 · have hlt2:(k:Int)<x13:=of_decide_eq_true hlt2
   have ek:IntKind.wrap .i64 ((k:Int)+1)=((k+1:Nat):Int):=by rw[wi (by omega) (by omega)];omega
   have st:=Tree.pp (step_w0 okn hcn (Q0n (k:Int)))
   refine w_an st.1 (w_lv λx14 e14=>w_nx ⟨⟨k+1,ek,by omega,?_,?_⟩,by simp only[Q3w,ek];omega⟩)
   · rw[e14];exact st.2.2.ok
   · rw[e14];exact st.2.2.cnt
 · obtain⟨c1,c2,c3⟩:=changed_w okm.mem okn.mem
   refine w_an c1 (w_lv λx15 e15=> ?_)
   have e15:x15=Q6n m.Mem n.Mem:=e15
   rw[←e15]at c2 c3
   obtain⟨o1,o2⟩:=note_w (c:=⟨List.replicate 8 false,c.C1+1,c.C8+((sel c.A7 0).length:Int)⟩) (l:=x15) (by simp) (by omega)
   refine w_an o1 (w_lv λx16 e16=> ?_)
   have e16:x16=Q7n _ x15:=e16
   rw[o2]at e16
   subst e16
   have hag:Agree n.Mem m.Mem (Ql5 (List.replicate 8 false) x15):=λj hj hf=>by
     have:=okn.mem.len
     have h8:j/32<8:=by omega
     rcases c3 (j/32) h8 with h|h
     · rw[Qxc (by simpa using h8) (.inr h)]at hf;cases hf
     · exact(same_page h).symm
   have hdl:(Ql5 (List.replicate 8 false) x15).length=8:=by rw[Qru];simp
   obtain⟨g1,g2⟩:=agree_w (a:=n.Mem) (b:=m.Mem) (c:=⟨Ql5 (List.replicate 8 false) x15,c.C1+1,c.C8+((sel c.A7 0).length:Int)⟩) (P:=8) (by decide) okn.mem.len okm.mem.len hdl hag
   refine w_an g1 (w_lv λx17 e17=>w_br (λh=> ?_) (λ_=>w_nx ⟨⟨i+1,ei,hne,okm.mem,⟨okn,hcn⟩,hdl,?_,rfl,?_,?_,hag⟩,?_⟩))
   · exfalso
     have:x17=true:=e17.trans g2
     rw[this]at h;cases h
   · show c.C1+1=_;omega
   · show 0≤c.C8+((sel c.A7 0).length:Int);omega
   · show c.C8+((sel c.A7 0).length:Int)≤_;omega
   · simp only[Q3x,ei];omega
end Go.Proofs.YtmalmklaonainaaGreat

/-
  A part of the proof.
-/
import Derived.Test.YtdkiadhigcfmkaaGreatMachineAppliesAwake
import Derived.SizedLaws
namespace Go.Proofs.YtdkiadhigcfmkaaGreat
open Go Go.GD
set_option linter.unusedVariables false
set_option maxRecDepth 100000
theorem Qw1{n k:Int}(hk:0<k)(hk2:k≤4611686018427387904):0≤Q1c n k∧Q1c n k<k:=by
 have h1:=Int.tmod_lt_of_pos n hk
 have h2:=Int.lt_tmod_of_pos n hk
 have he:Q1c n k=bif decide (Int.tmod n k<0) then IntKind.wrap .i64 (Int.tmod n k+k) else Int.tmod n k:=rfl
 rw[he]
 cases h:decide (Int.tmod n k<0)
 · have h:=of_decide_eq_false h
   simp only[cond_false];omega
 · have h:=of_decide_eq_true h
   simp only[cond_true]
   rw[IntKind.wrap_i64];omega
theorem Q2n{n k:Int}(hk:k≠0):Q0t n k:=by
 exact w_cn (decide_eq_true hk) (wB wL wL)
theorem ops_len:(Z2y.length:Int)=50:=by kernel_rfl
theorem Z3z(n:Int):Q4w n:=by
 unfold Q4w Tree.p Qdw
 refine w_lv fun x0 e0=>w_lv fun x1 e1=>w_an ?_ (w_lv fun x2 e2=>w_cn ?_ (w_an (Q2n (by decide)) (w_lv fun _ _=>w_an (Q2n (by decide)) (w_lv fun _ _=>w_an (Q2n (by decide)) (w_lv fun _ _=>w_an (Q2n (by decide)) (w_lv fun _ _=> ?_))))))
 · subst e0;rw[ops_len];exact Q2n (by decide)
 · subst e0;rw[ops_len]at e2⊢
   have h:=Qw1 (n:=x1) (k:=50) (by decide) (by decide)
   rw[←e2]at h
   simpa using h
 · repeat'(first|exact trivial|refine w_br (fun _=> ?_) (fun _=> ?_))
theorem code_pre(l:List Int)(hl:l.length*8≤reachBytes):Q3q l:=by
 have hl':l.length*8≤140737488351232:=hl
 unfold Q3q Tree.p Q7i
 refine w_lp (inv:=Q9q l) (μ:=Q3a l) ⟨by omega,by simp,by simp⟩ (Nat.lt_succ_self _) (fun v0 ⟨h1,h2,h3⟩=> ?_)
 have next:v0.1<l.length→ ∀x:Int,Q9q l (IntKind.wrap IntKind.i64 (v0.1+1),v0.2++[x])∧Q3a l (IntKind.wrap IntKind.i64 (v0.1+1),v0.2++[x])<Q3a l v0:=fun h x=>by
   have hw:IntKind.i64.wrap (v0.1+1)=v0.1+1:=by rw[IntKind.wrap_i64];omega
   rw[hw]
   refine⟨⟨?_,?_,?_⟩,?_⟩
   · show 0≤v0.1+1;omega
   · show v0.1+1≤l.length;omega
   · show((v0.2++[x]).length:Int)=v0.1+1;simp;omega
   · show(l.length-(v0.1+1)).toNat<(l.length-v0.1).toNat;omega
 refine w_br (fun h=> ?_) (fun _=>trivial)
 have h:=of_decide_eq_true h
 have hb:(Nat.beq 1 1&&Nat.blt 0 1&&decide (0≤v0.1∧v0.1<(l.length:Int)))=true:=by simp [Nat.blt];omega
 have hc:decide (4*(v0.2.length+1)≤140737488355328)=true:=decide_eq_true (by omega)
 refine w_cn hb (w_br (fun _=>w_cn hb (w_cn hc (next h _))) (fun _=>w_cn hb (w_an (Z3z _) (w_lv fun x0 _=>w_lv fun x1 _=>w_cn hc (next h _)))))
theorem Qf6(p:Int):Q59 p:=by
 unfold Q59 Tree.p Q7t
 refine w_br (fun _=>trivial) fun h1=>w_br (fun _=>trivial) fun h2=>w_cn ?_ trivial
 have h1:=of_decide_eq_false h1
 have h2:=of_decide_eq_false h2
 have hw:IntKind.i64.wrap (p*32)=p*32:=by rw[IntKind.wrap_i64];omega
 rw[hw]
 simp [Nat.blt,D.plain];omega
theorem Qis(p b:Int)(i:List Int):Q2d p b i:=by
 unfold Q2d Tree.p Q3r
 iterate 5 refine w_br (fun _=>trivial) fun _=> ?_
 exact w_lv fun _ _=>w_an (Qf6 p) (w_lv fun _ _=>trivial)
theorem Qrh(p b:Int)(i:List Int):Q2g p b i:=by
 unfold Q2g Tree.p Q61
 iterate 5 refine w_br (fun _=>trivial) fun _=> ?_
 exact w_lv fun _ _=>w_an (Qf6 p) (w_lv fun _ _=>trivial)
theorem new_eq(p b:Int)(i:List Int):(Q3c p b i).1=(Q0n p b i).1∧(Q3c p b i).2=((Q0n p b i).2==0)∧((Q0n p b i).2=0∨(Q0n p b i).2=1200):=by
  simp only[Q3c,Q61,Q0n,Q3r,Tree.m]
  cases decide (p<1)
  · cases decide (p>32)
    · cases decide (b<0)
      · cases decide (b>64)
        · cases decide ((i.length:Int)>IntKind.i64.wrap (p*32))
          · exact⟨rfl,rfl, .inl rfl⟩
          · exact⟨rfl,rfl, .inr rfl⟩
        · exact⟨rfl,rfl, .inr rfl⟩
      · exact⟨rfl,rfl, .inr rfl⟩
    · exact⟨rfl,rfl, .inr rfl⟩
  · exact⟨rfl,rfl, .inr rfl⟩
theorem Qpb(a:List Int)(ha:a.length≤1000000000000):Q9g a a=true:=by
 simp only[Q9g,Q51,Tree.m]
 have h0:((a.length:Int) !=(a.length:Int))=false:=by simp
 rw[h0,cond_false]
 refine run_ind (P:=fun v:Int=>0≤v∧v≤a.length) (R:=fun b=>b=true) (μ:=Q2o a a) (fun v ⟨h1,h2⟩=> ?_) _ _ ⟨by omega,by omega⟩ (Nat.lt_succ_self _)
 cases h:decide (v<(a.length:Int))
 · rfl
 · have h:=of_decide_eq_true h
   have h3:(List.getD a (Int.toNat v) (0:Int) !=List.getD a (Int.toNat v) (0:Int))=false:=by simp
   rw[h3]
   have hw:IntKind.i64.wrap (v+1)=v+1:=by rw[IntKind.wrap_i64];omega
   simp only[cond_true,cond_false,hw]
   refine⟨⟨by omega,by omega⟩,?_⟩
   show(_:Nat)<_
   unfold Q2o
   omega
theorem Z64(a:Q00)(ha:a.Mem.length≤1000000000000):Qa6 a a=true:=by
 unfold Qa6 Q5p
 simp [Tree.m,eqs,eq1,letv,Qpb a.Mem ha]
theorem Zc4(a:Q00)(ha:a.Mem.length≤1000000000000):Q27 a a:=by
 unfold Q27 Tree.p Q5p
 refine w_br (fun _=>w_an ha (w_lv fun _ _=> ?_)) (fun _=>trivial)
 repeat'(first|exact trivial|refine w_br (fun _=> ?_) (fun _=> ?_))
theorem new_ok(p b:Int)(i:List Int)(h:(Q0n p b i).2=0):
    1≤p∧p≤32∧0≤b∧b≤64∧(Q0n p b i).1.Mem.length=(p*32).toNat∧(Q0n p b i).1={(Q0n 1 0 []).1 with Mem:=(Q0n p b i).1.Mem,Disk:={(Q0n 1 0 []).1.Disk with Blocks:=IntKind.wrap IntKind.u32 b}}:=by
  simp only[Q0n,Q3r,Tree.m]at h⊢
  cases h1:decide (p<1)<;>rw[h1]at h
  · cases h2:decide (p>32)<;>rw[h2]at h
    · cases h3:decide (b<0)<;>rw[h3]at h
      · cases h4:decide (b>64)<;>rw[h4]at h
        · cases h5:decide ((i.length:Int)>IntKind.i64.wrap (p*32))<;>rw[h5]at h
          · have g1:=of_decide_eq_false h1
            have g2:=of_decide_eq_false h2
            have hw:IntKind.i64.wrap (p*32)=p*32:=by rw[IntKind.wrap_i64];omega
            refine⟨by omega,by omega,by have:=of_decide_eq_false h3;omega,by have:=of_decide_eq_false h4;omega,?_,rfl⟩
            have g5:=of_decide_eq_false h5
            rw[hw]at g5
            simp only[cond_false,letv]
            simp only[Qjs,Q7t,Tree.m]
            rw[h1,h2,hw]
            simp only[cond_false,List.length_append,List.length_take,List.length_drop,List.length_replicate]
            omega
          · simp at h
        · simp at h
      · simp at h
    · simp at h
  · simp at h
theorem pages_of(m:List Int)(p:Int)(h1:1≤p)(h2:p≤32)(h:m.length=(p*32).toNat):Q0s m=p:=by
 simp only[Q0s,Q6k,Tree.m]
 have e:(m.length:Int)=p*32:=by omega
 rw[e,Int.mul_tmod_left,Int.mul_tdiv_cancel p (by decide)]
 have h3:decide (p*32>1024)=false:=decide_eq_false (by omega)
 rw[h3]
 simp only[bne_self_eq_false,cond_false]
 rw[IntKind.wrap_i64];omega
theorem may_of(m:List Int)(p b:Int)(h1:1≤p)(h2:p≤32)(hb0:0≤b)(hb:b≤64)(h:m.length=(p*32).toNat)(M:Q00)(hM:M={(Q0n 1 0 []).1 with Mem:=m,Disk:={(Q0n 1 0 []).1.Disk with Blocks:=IntKind.wrap IntKind.u32 b}}):Q0y M=true∧Q1k M:=by
 have hp:=pages_of m p h1 h2 h
 have hmem:M.Mem=m:=by rw[hM]
 have hu:IntKind.u32.wrap b=b:=by rw[IntKind.wrap_u32];omega
 have h0:(p==0)=false:=by simp;omega
 have hdev:Q0v M=true:=by
   simp only[Q0v,Q1a,Tree.m]
   rw[hmem]
   simp only[letv,hp]
   subst hM
   have c1:Q44 {Keys:=[]}=true:=by kernel_rfl
   have c2:Q50 (Q0n 1 0 []).1.Timer=true:=by kernel_rfl
   have c3:Q1p {(Q0n 1 0 []).1.Disk with Blocks:=IntKind.wrap IntKind.u32 b} p=true:=by
     have:decide (IntKind.u32.wrap b>64)=false:=decide_eq_false (by omega)
     show(bif decide (IntKind.u32.wrap b>64) then false else _)=true
     rw[this]
     kernel_rfl
   have c4:Q7c (Q0n 1 0 []).1.Nic p=true:=by kernel_rfl
   have c5:Q32 (Q0n 1 0 []).1.Balloon p=true:=by
     simp only[Q32,Q2u,Tree.m]
     have:Q10 (Q0n 1 0 []).1.Balloon.Given=0:=by kernel_rfl
     simp only[letv,this]
     split<;>first|(exact decide_eq_true (by split<;>omega))|simp_all
   show(bif Q44 {Keys:=[]} then _ else _)=true
   rw[c1]
   show(bif Q50 (Q0n 1 0 []).1.Timer then _ else _)=true
   rw[c2]
   simp only[cond_true,c3]
   show(bif Q7c (Q0n 1 0 []).1.Nic p then _ else _)=true
   rw[c4]
   exact c5
 have hdp:Q1g M:=by
   unfold Q1g Tree.p Q1a
   have hb':M.Balloon=(Q0n 1 0 []).1.Balloon:=by rw[hM]
   have hbp: ∀x,Q5u M.Balloon x:=fun x=>by
     rw[hb']
     exact w_an (of_decide_eq_true (by kernel_rfl)) (w_lv fun _ _=>trivial)
   refine w_lv fun x0 _=>w_lv fun x1 _=>w_br (fun _=>w_lv fun x2 _=>w_br (fun _=>w_lv fun x3 _=>w_br (fun _=>w_lv fun x4 _=>w_br (fun _=>w_an (hbp _) (w_lv fun _ _=>trivial)) (fun _=>trivial)) (fun _=>trivial)) (fun _=>trivial)) (fun _=>trivial)
 constructor
 · simp only[Q0y,Q3w,Tree.m]
   rw[hmem]
   simp only[letv,hp,h0,cond_false,hdev]
   subst hM
   kernel_rfl
 · unfold Q1k Tree.p Q3w
   refine w_lv fun x0 _=> ?_
   iterate 7 refine w_br (fun _=>trivial) fun _=> ?_
   exact w_br (fun _=>w_br (fun _=>trivial) (fun _=>w_an hdp (w_lv fun _ _=>trivial))) (fun _=>w_an hdp (w_lv fun _ _=>trivial))
theorem new_bad(p b:Int)(i:List Int)(h:(Q0n p b i).2=1200):(Q0n p b i).1.Mem=[]:=by
  simp only[Q0n,Q3r,Tree.m]at h⊢
  cases h1:decide (p<1)<;>rw[h1]at h
  · cases h2:decide (p>32)<;>rw[h2]at h
    · cases h3:decide (b<0)<;>rw[h3]at h
      · cases h4:decide (b>64)<;>rw[h4]at h
        · cases h5:decide ((i.length:Int)>IntKind.i64.wrap (p*32))<;>rw[h5]at h
          · simp [letv]at h
          · rfl
        · rfl
      · rfl
    · rfl
  · rfl
theorem facts(p b:Int)(i:List Int):(Q0n p b i).1.Mem.length≤1000000000000∧
   ((Q0n p b i).2=0∧(Q3c p b i).2=true∧Q0y (Q0n p b i).1=true∧Q1k (Q0n p b i).1∧Q7r (Q0n p b i).1=false∧Q1z (Q0n p b i).1∨
    (Q0n p b i).2=1200∧(Q3c p b i).2=false):=by
 obtain⟨g1,g2,g3⟩:=new_eq p b i
 rcases g3 with g3|g3
 · obtain⟨a1,a2,a3,a4,a5,a6⟩:=new_ok p b i g3
   obtain⟨m1,m2⟩:=may_of _ p b a1 a2 a3 a4 a5 _ a6
   have hw:(Q0n p b i).1.Waiting=false:=by rw[a6];kernel_rfl
   refine⟨by omega, .inl ⟨g3,by rw[g2,g3];rfl,m1,m2,?_,?_⟩⟩
   · simp only[Q7r,Q56,Tree.m];rw[hw];rfl
   · unfold Q1z Tree.p Q56;rw[hw];trivial
 · refine⟨by rw[new_bad p b i g3];simp, .inr ⟨g3,by rw[g2,g3];rfl⟩⟩
theorem news(pages blocks:Int)(image l:List Int)(made:Bool)(hl:l.length*8≤reachBytes):Q5r pages blocks image l made∧Qq6 pages blocks image l made=true:=by
  have aw: ∀x,x=Q1s→x=true:=fun x e=>e.trans Qzm
  refine Tree.pp (W:=fun r=>r=true) ?_
  unfold Q4r
  refine w_br (fun _=>w_an (code_pre l hl) (w_lv fun x0 _=>w_an (Q2n (by decide)) (w_lv fun x1 _=>w_an (Q2n (by decide)) (w_lv fun x2 _=>w_br (fun _=>w_an Qd6 (w_lv aw)) (fun _=>w_an (Qis _ _ _) (w_lv fun x4 e4=>w_an (Qrh _ _ _) (w_lv fun x5 e5=> ?_))))))) (fun _=>w_br (fun _=>w_an Qd6 (w_lv aw)) (fun _=>w_an (Qis _ _ _) (w_lv fun x4 e4=>w_an (Qrh _ _ _) (w_lv fun x5 e5=> ?_))))
  all_goals(
    subst e4;subst e5
    first
      | obtain⟨hlen,hc⟩:=facts x1 x2 x0
        obtain⟨g1,_,_⟩:=new_eq x1 x2 x0
        have same:=Zc4 _ hlen
        have hs:=Z64 _ hlen
        rw[g1]
      | obtain⟨hlen,hc⟩:=facts pages blocks image
        obtain⟨g1,_,_⟩:=new_eq pages blocks image
        have same:=Zc4 _ hlen
        have hs:=Z64 _ hlen
        rw[g1]
    rcases hc with⟨c1,c2,c3,c4,c5,c6⟩|⟨c1,c2⟩
    · rw[c1,c2]
      refine w_br (fun h=>absurd h (by decide)) fun _=>w_br (fun h=>absurd h (by decide)) fun _=>w_an same (w_lv fun x ex=> ?_)
      rw[hs]at ex;subst ex
      refine w_br (fun h=>absurd h (by decide)) fun _=>w_br (fun h=>absurd h (by decide)) fun _=>w_an c4 (w_lv fun x ex=> ?_)
      rw[c3]at ex;subst ex
      refine w_br (fun _=>w_an c6 (w_lv fun x ex=> ?_)) (fun h=>by cases h)
      rw[c5]at ex;subst ex
      exact w_br (fun _=>w_an Qd6 (w_lv aw)) (fun h=>absurd h (by decide))
    · rw[c1,c2]
      refine w_br (fun h=>absurd h (by decide)) fun _=>w_br (fun _=>w_br (fun h=>absurd h (by decide)) fun _=>w_an same (w_lv fun x ex=> ?_)) (fun h=>absurd h (by decide))
      rw[hs]at ex;subst ex
      exact w_br (fun h=>absurd h (by decide)) fun _=>w_br (fun _=>w_an Qd6 (w_lv aw)) (fun h=>absurd h (by decide)))
end Go.Proofs.YtdkiadhigcfmkaaGreat

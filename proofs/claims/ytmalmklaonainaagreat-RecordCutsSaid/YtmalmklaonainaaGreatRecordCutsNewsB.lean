import Derived.Test.YtmalmklaonainaaGreatRecordCutsYe
import Derived.Test.YtmalmklaonainaaGreatRecordCutsCk
import Derived.SizedLaws
set_option maxRecDepth 100000
set_option linter.all false
namespace Go.Proofs.YtmalmklaonainaaGreat
open Go Go.GD
theorem Z0q{n k:Int}(hk:0<k)(hk2:k<=4611686018427387904):0<=Q48 n k/\Q48 n k<k:=by
 have h1:=Int.tmod_lt_of_pos n hk
 have h2:=Int.lt_tmod_of_pos n hk
 have he:Q48 n k=bif decide (Int.tmod n k<0) then IntKind.wrap .i64 (Int.tmod n k+k) else Int.tmod n k:=rfl
 rw[he]
 cases h:decide (Int.tmod n k<0)
 . have h:=of_decide_eq_false h
   simp only[cond_false];omega
 . have h:=of_decide_eq_true h
   simp only[cond_true]
   rw[IntKind.wrap_i64];omega
theorem Qhv{n k:Int}(hk:k≠0):Q2z n k:=by
 exact w_cn (decide_eq_true hk) (wB wL wL)
theorem vw:(Z6v.length:Int)=50:=by kernel_rfl
theorem xT(n:Int):Qcy n:=by
 unfold Qcy Tree.p Qdy
 refine w_lv λx0 e0=>w_lv λx1 e1=>w_an ?_ (w_lv λx2 e2=>w_cn ?_ (w_an (Qhv (by decide)) (w_lv λ_ _=>w_an (Qhv (by decide)) (w_lv λ_ _=>w_an (Qhv (by decide)) (w_lv λ_ _=>w_an (Qhv (by decide)) (w_lv λ_ _=> ?_))))))
 . subst e0;rw[vw];exact Qhv (by decide)
 . subst e0;rw[vw]at e2⊢
   have h:=Z0q (n:=x1) (k:=50) (by decide) (by decide)
   rw[<-e2]at h
   simpa using h
 . repeat'(first|exact trivial|refine w_br (λ_=> ?_) (λ_=> ?_))
theorem Zag(p:Int):Qfc p:=by
 unfold Qfc Tree.p Qdl
 first
 | (refine w_br (λ_=>trivial) λh1=>w_br (λ_=>trivial) λh2=>w_cn ?_ trivial
    have h1:=of_decide_eq_false h1
    have h2:=of_decide_eq_false h2
    have hw:IntKind.i64.wrap (p*32)=p*32:=by rw[IntKind.wrap_i64];omega
    rw[hw]
    simp [Nat.blt,D.plain];omega)
theorem xaL(p b:Int)(i:List Int)(h:(Q1r p b i).2=true):
    1<=p/\p<=32/\0<=b/\b<=64/\(Q1r p b i).1.Mem.length=(p*32).toNat/\(Q1r p b i).1={(Q1r 1 0 []).1 with Mem:=(Q1r p b i).1.Mem,B1:={(Q1r 1 0 []).1.B1 with Blocks:=IntKind.wrap IntKind.u32 b}}:=by
  simp only[Q1r,Q83,Tree.m]at h⊢
  cases h1:decide (p<1)<;>rw[h1]at h
  . cases h2:decide (p>32)<;>rw[h2]at h
    . cases h3:decide (b<0)<;>rw[h3]at h
      . cases h4:decide (b>64)<;>rw[h4]at h
        . cases h5:decide ((i.length:Int)>IntKind.i64.wrap (p*32))<;>rw[h5]at h
          . have g1:=of_decide_eq_false h1
            have g2:=of_decide_eq_false h2
            have hw:IntKind.i64.wrap (p*32)=p*32:=by rw[IntKind.wrap_i64];omega
            refine⟨by omega,by omega,by have:=of_decide_eq_false h3;omega,by have:=of_decide_eq_false h4;omega,?_,rfl⟩
            have g5:=of_decide_eq_false h5
            rw[hw]at g5
            simp only[cond_false,letv]
            simp only[Qr8,Qdl,Tree.m]
            rw[h1,h2,hw]
            simp only[cond_false,List.length_append,List.length_take,List.length_drop,List.length_replicate]
            omega
          . simp at h
        . simp at h
      . simp at h
    . simp at h
  . simp at h
theorem zT(m:List Int)(p:Int)(h1:1<=p)(h2:p<=32)(h:m.length=(p*32).toNat):Q0q m=p:=by
 simp only[Q0q,Q89,Tree.m]
 have e:(m.length:Int)=p*32:=by omega
 rw[e,Int.mul_tmod_left,Int.mul_tdiv_cancel p (by decide)]
 have h3:decide (p*32>1024)=false:=decide_eq_false (by omega)
 rw[h3]
 simp only[bne_self_eq_false,cond_false]
 rw[IntKind.wrap_i64];omega
theorem qaM(m:List Int)(p b:Int)(h1:1<=p)(h2:p<=32)(hb0:0<=b)(hb:b<=64)(h:m.length=(p*32).toNat)(M:Q01)(hM:M={(Q1r 1 0 []).1 with Mem:=m,B1:={(Q1r 1 0 []).1.B1 with Blocks:=IntKind.wrap IntKind.u32 b}}):Q1c M=true/\Q53 M:=by
 have hp:=zT m p h1 h2 h
 have hmem:M.Mem=m:=by rw[hM]
 have hu:IntKind.u32.wrap b=b:=by rw[IntKind.wrap_u32];omega
 have h0:(p==0)=false:=by simp;omega
 have hdev:Q0t M=true:=by
   simp only[Q0t,Q1m,Tree.m]
   rw[hmem]
   simp only[letv,hp]
   subst hM
   have c1:Q27 {D0:=[]}=true:=by kernel_rfl
   have c2:Q41 (Q1r 1 0 []).1.B0=true:=by kernel_rfl
   have c3:Q1d {(Q1r 1 0 []).1.B1 with Blocks:=IntKind.wrap IntKind.u32 b} p=true:=by
     have:decide (IntKind.u32.wrap b>64)=false:=decide_eq_false (by omega)
     show(bif decide (IntKind.u32.wrap b>64) then false else _)=true
     rw[this]
     kernel_rfl
   have c4:Q5p (Q1r 1 0 []).1.C4 p=true:=by kernel_rfl
   have c5:Q2d (Q1r 1 0 []).1.A1 p=true:=by
     simp only[Q2d,Q3s,Tree.m]
     have:Q1g (Q1r 1 0 []).1.A1.C2=0:=by kernel_rfl
     simp only[letv,this]
     split<;>first|(exact decide_eq_true (by split<;>omega))|simp_all
   show(bif Q27 {D0:=[]} then _ else _)=true
   rw[c1]
   show(bif Q41 (Q1r 1 0 []).1.B0 then _ else _)=true
   rw[c2]
   simp only[cond_true,c3]
   show(bif Q5p (Q1r 1 0 []).1.C4 p then _ else _)=true
   rw[c4]
   exact c5
 have hdp:Q2j M:=by
   unfold Q2j Tree.p Q1m
   have hb':M.A1=(Q1r 1 0 []).1.A1:=by rw[hM]
   have hbp: ∀x,Qd7 M.A1 x:=λx=>by
     rw[hb']
     exact w_an (ck (ckT (t:=Q1o _) (by delta Q1o;infer_instance)) (by kernel_rfl)) (w_lv λ_ _=>trivial)
   refine w_lv λx0 _=>w_lv λx1 _=>w_br (λ_=>w_lv λx2 _=>w_br (λ_=>w_lv λx3 _=>w_br (λ_=>w_lv λx4 _=>w_br (λ_=>w_an (hbp _) (w_lv λ_ _=>trivial)) (λ_=>trivial)) (λ_=>trivial)) (λ_=>trivial)) (λ_=>trivial)
 constructor
 . simp only[Q1c,Q4m,Tree.m]
   rw[hmem]
   simp only[letv,hp,h0,cond_false,hdev]
   subst hM
   kernel_rfl
 . unfold Q53 Tree.p Q4m
   refine w_lv λx0 _=> ?_
   iterate 7 refine w_br (λ_=>trivial) λ_=> ?_
   exact w_br (λ_=>w_br (λ_=>trivial) (λ_=>w_an hdp (w_lv λ_ _=>trivial))) (λ_=>w_an hdp (w_lv λ_ _=>trivial))
end Go.Proofs.YtmalmklaonainaaGreat

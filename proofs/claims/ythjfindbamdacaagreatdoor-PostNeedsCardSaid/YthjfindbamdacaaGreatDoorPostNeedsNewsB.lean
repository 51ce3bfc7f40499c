import Derived.Test.YthjfindbamdacaaGreatDoorPostNeedsYz
import Derived.Test.YthjfindbamdacaaGreatDoorPostNeedsCk
open Int renaming tmod->dA
set_option maxRecDepth 100000
set_option linter.all false
namespace Go.Proofs.YthjfindbamdacaaGreatDoor
open Go Go.GD
open Go.IntKind(wrap i64 u32 wrap_i64 wrap_u32)
theorem Qzm{n k:Int}(hk:0<k)(hk2:k<=4611686018427387904):0<=Q7i n k/\Q7i n k<k:=by
 have h1:=Int.tmod_lt_of_pos n hk
 have h2:=Int.lt_tmod_of_pos n hk
 have he:Q7i n k=bif decide (dA n k<0)then wrap .i64 (dA n k+k)else dA n k:=rfl
 rw[he]
 cases h:decide (dA n k<0)
 ·have h:=oN h
  simp only[cond_false];omega
 ·have h:=oY h
  simp only[cond_true]
  rw[wrap_i64];omega
theorem Qh9{n k:Int}(hk:k≠0):Q4d n k:=by
 exact w_cn (dY hk) (wB wL wL)
theorem qv:(Z90.length:Int)=50:=by kernel_rfl
theorem yM(n:Int):Qfq n:=by
 unfold Qfq Tree.p Qkl
 refine w_lv λx0 e0=>w_lv λx1 e1=>w_an ?_ (w_lv λx2 e2=>w_cn ?_ (w_an (Qh9 (by decide)) (w_lv λ_ _=>w_an (Qh9 (by decide)) (w_lv λ_ _=>w_an (Qh9 (by decide)) (w_lv λ_ _=>w_an (Qh9 (by decide)) (w_lv λ_ _=>?_))))))
 ·subst e0;rw[qv];exact Qh9 (by decide)
 ·subst e0;rw[qv]at e2⊢
  have h:=Qzm (n:=x1) (k:=50) (by decide) (by decide)
  rw[<-e2]at h
  simpa using h
 ·repeat'(first|exact trivial|refine w_br (λ_=>?_) (λ_=>?_))
theorem Zcb(p:Int):Qj0 p:=by
 unfold Qj0 Tree.p Qjq
 first
 | (refine w_br (λ_=>trivial) λh1=>w_br (λ_=>trivial) λh2=>w_cn ?_ trivial
    have h1:=oN h1
    have h2:=oN h2
    have hw:i64.wrap (p*32)=p*32:=by rw[wrap_i64];omega
    rw[hw]
    simp [Nat.blt,D.plain];omega)
theorem Z55(a:List Int)(ha:a.length<=1000000000000):Qdz a a=true:=by
 simp only[Qdz,Q84,Tree.m]
 have h0:((a.length:Int) !=(a.length:Int))=false:=by simp
 rw[h0,cond_false]
 refine yu (P:=λv:Int=>0<=v/\v<=a.length) (R:=λb=>b=true) (μ:=Q5 a a) (λv ⟨h1,h2⟩=>?_) _ _ ⟨by omega,by omega⟩ (Nat.lt_succ_self _)
 cases h:decide (v<(a.length:Int))
 ·rfl
 ·have h:=oY h
  have h3:(a.getD v.toNat (0:Int) !=a.getD v.toNat (0:Int))=false:=by simp
  rw[h3]
  have hw:i64.wrap (v+1)=v+1:=by rw[wrap_i64];omega
  simp only[cond_true,cond_false,hw]
  refine⟨⟨by omega,by omega⟩,?_⟩
  show(_:Nat)<_
  unfold Q5
  omega
theorem zax(p b:Int)(i:List Int)(h:(Q2 p b i).2=true):
    1<=p/\p<=32/\0<=b/\b<=64/\(Q2 p b i).1.Mem.length=(p*32).toNat/\(Q2 p b i).1={(Q2 1 0 []).1 with Mem:=(Q2 p b i).1.Mem,A7:={(Q2 1 0 []).1.A7 with Blocks:=wrap u32 b}}:=by
  simp only[Q2,Qbf,Tree.m]at h⊢
  cases h1:decide (p<1)<;>rw[h1]at h
  . cases h2:decide (p>32)<;>rw[h2]at h
    . cases h3:decide (b<0)<;>rw[h3]at h
      . cases h4:decide (b>64)<;>rw[h4]at h
        . cases h5:decide ((i.length:Int)>i64.wrap (p*32))<;>rw[h5]at h
          . have g1:=oN h1
            have g2:=oN h2
            have hw:i64.wrap (p*32)=p*32:=by rw[wrap_i64];omega
            refine⟨by omega,by omega,by have:=oN h3;omega,by have:=oN h4;omega,?_,rfl⟩
            have g5:=oN h5
            rw[hw]at g5
            simp only[cond_false,letv]
            simp only[Qrq,Qjq,Tree.m]
            rw[h1,h2,hw]
            simp only[cond_false,lA,List.length_take,List.length_drop,List.length_replicate]
            omega
          . simp at h
        . simp at h
      . simp at h
    . simp at h
  . simp at h
theorem vM(m:List Int)(p:Int)(h1:1<=p)(h2:p<=32)(h:m.length=(p*32).toNat):Q0u m=p:=by
 simp only[Q0u,Q8d,Tree.m]
 have e:(m.length:Int)=p*32:=by omega
 rw[e,Int.mul_tmod_left,Int.mul_tdiv_cancel p (by decide)]
 have h3:decide (p*32>1024)=false:=dN (by omega)
 rw[h3]
 simp only[bne_self_eq_false,cond_false]
 rw[wrap_i64];omega
theorem xax(m:List Int)(p b:Int)(h1:1<=p)(h2:p<=32)(hb0:0<=b)(hb:b<=64)(h:m.length=(p*32).toNat)(M:Q00)(hM:M={(Q2 1 0 []).1 with Mem:=m,A7:={(Q2 1 0 []).1.A7 with Blocks:=wrap u32 b}}):Q10 M=true/\Q4l M:=by
 have hp:=vM m p h1 h2 h
 have hmem:M.Mem=m:=by rw[hM]
 have hu:u32.wrap b=b:=by rw[wrap_u32];omega
 have h0:(p==0)=false:=by simp;omega
 have hdev:Q1 M=true:=by
  simp only[Q1,Q1z,Tree.m]
  rw[hmem]
  simp only[letv,hp]
  subst hM
  have c1:Q2m {C9:=[]}=true:=by kernel_rfl
  have c2:Q4j (Q2 1 0 []).1.A9=true:=by kernel_rfl
  have c3:Q1j {(Q2 1 0 []).1.A7 with Blocks:=wrap u32 b} p=true:=by
   have:decide (u32.wrap b>64)=false:=dN (by omega)
   show(bif decide (u32.wrap b>64)then false else _)=true
   rw[this]
   kernel_rfl
  have c4:Q5x (Q2 1 0 []).1.C1 p=true:=by kernel_rfl
  have c5:Q2x (Q2 1 0 []).1.A0 p=true:=by
   simp only[Q2x,Q6e,Tree.m]
   have:Q1m (Q2 1 0 []).1.A0.B9=0:=by kernel_rfl
   simp only[letv,this]
   split<;>first|(exact dY (by split<;>omega))|simp_all
  show(bif Q2m {C9:=[]}then _ else _)=true
  rw[c1]
  show(bif Q4j (Q2 1 0 []).1.A9 then _ else _)=true
  rw[c2]
  simp only[cond_true,c3]
  show(bif Q5x (Q2 1 0 []).1.C1 p then _ else _)=true
  rw[c4]
  exact c5
 have hdp:Q40 M:=by
  unfold Q40 Tree.p Q1z
  have hb':M.A0=(Q2 1 0 []).1.A0:=by rw[hM]
  have hbp:∀x,Qgb M.A0 x:=λx=>by
   rw[hb']
   exact w_an (ck (ckT (t:=Q2e _) (by delta Q2e;infer_instance)) (by kernel_rfl)) (w_lv λ_ _=>trivial)
  refine w_lv λx0 _=>w_lv λx1 _=>w_br (λ_=>w_lv λx2 _=>w_br (λ_=>w_lv λx3 _=>w_br (λ_=>w_lv λx4 _=>w_br (λ_=>w_an (hbp _) (w_lv λ_ _=>trivial)) (λ_=>trivial)) (λ_=>trivial)) (λ_=>trivial)) (λ_=>trivial)
 constructor
 ·simp only[Q10,Q6l,Tree.m]
  rw[hmem]
  simp only[letv,hp,h0,cond_false,hdev]
  subst hM
  kernel_rfl
 ·unfold Q4l Tree.p Q6l
  refine w_lv λx0 _=>?_
  iterate 7 refine w_br (λ_=>trivial) λ_=>?_
  exact w_br (λ_=>w_br (λ_=>trivial) (λ_=>w_an hdp (w_lv λ_ _=>trivial))) (λ_=>w_an hdp (w_lv λ_ _=>trivial))

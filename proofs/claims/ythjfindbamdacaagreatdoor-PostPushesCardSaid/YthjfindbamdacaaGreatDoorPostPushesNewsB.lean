import Derived.Test.YthjfindbamdacaaGreatDoorPostPushesYz
import Derived.Test.YthjfindbamdacaaGreatDoorPostPushesCk
open Int renaming tmod->dA
set_option maxRecDepth 100000
set_option linter.all false
namespace Go.Proofs.YthjfindbamdacaaGreatDoor
open Go Go.GD
open Go.IntKind(wrap i64 u32 wrap_i64 wrap_u32)
theorem Qxp{n k:Int}(hk:0<k)(hk2:k<=4611686018427387904):0<=Q38 n k/\Q38 n k<k:=by
 have h1:=Int.tmod_lt_of_pos n hk
 have h2:=Int.lt_tmod_of_pos n hk
 have he:Q38 n k=bif decide (dA n k<0)then wrap .i64 (dA n k+k)else dA n k:=rfl
 rw[he]
 cases h:decide (dA n k<0)
 ·have h:=oN h
  simp only[cond_false];omega
 ·have h:=oY h
  simp only[cond_true]
  rw[wrap_i64];omega
theorem Qbp{n k:Int}(hk:k≠0):Q2o n k:=by
 exact w_cn (dY hk) (wB wL wL)
theorem xu:(Z5u.length:Int)=50:=by kernel_rfl
theorem qM(n:Int):Qeu n:=by
 unfold Qeu Tree.p Qk2
 refine w_lv λx0 e0=>w_lv λx1 e1=>w_an ?_ (w_lv λx2 e2=>w_cn ?_ (w_an (Qbp (by decide)) (w_lv λ_ _=>w_an (Qbp (by decide)) (w_lv λ_ _=>w_an (Qbp (by decide)) (w_lv λ_ _=>w_an (Qbp (by decide)) (w_lv λ_ _=>?_))))))
 ·subst e0;rw[xu];exact Qbp (by decide)
 ·subst e0;rw[xu]at e2⊢
  have h:=Qxp (n:=x1) (k:=50) (by decide) (by decide)
  rw[<-e2]at h
  simpa using h
 ·repeat'(first|exact trivial|refine w_br (λ_=>?_) (λ_=>?_))
theorem Zav(p:Int):Qhg p:=by
 unfold Qhg Tree.p Qip
 first
 | (refine w_br (λ_=>trivial) λh1=>w_br (λ_=>trivial) λh2=>w_cn ?_ trivial
    have h1:=oN h1
    have h2:=oN h2
    have hw:i64.wrap (p*32)=p*32:=by rw[wrap_i64];omega
    rw[hw]
    simp [Nat.blt,D.plain];omega)
theorem zas(p b:Int)(i:List Int)(h:(Q1l p b i).2=true):
    1<=p/\p<=32/\0<=b/\b<=64/\(Q1l p b i).1.Mem.length=(p*32).toNat/\(Q1l p b i).1={(Q1l 1 0 []).1 with Mem:=(Q1l p b i).1.Mem,B1:={(Q1l 1 0 []).1.B1 with Blocks:=wrap u32 b}}:=by
  simp only[Q1l,Qar,Tree.m]at h⊢
  cases h1:decide (p<1)<;>rw[h1]at h
  . cases h2:decide (p>32)<;>rw[h2]at h
    . cases h3:decide (b<0)<;>rw[h3]at h
      . cases h4:decide (b>64)<;>rw[h4]at h
        . cases h5:decide ((i.length:Int)>i64.wrap (p*32))<;>rw[h5]at h
          . have g1:=oN h1
            have g2:=oN h2
            have hw:i64.wrap (p*32)=p*32:=by rw[wrap_i64];omega
            refine⟨by omega,by omega,by have:=oN h3;omega,by have:=oN h4;omega,?_,rfl⟩
            have g5:=oN h5
            rw[hw]at g5
            simp only[cond_false,letv]
            simp only[Qr2,Qip,Tree.m]
            rw[h1,h2,hw]
            simp only[cond_false,lA,List.length_take,List.length_drop,List.length_replicate]
            omega
          . simp at h
        . simp at h
      . simp at h
    . simp at h
  . simp at h
theorem xM(m:List Int)(p:Int)(h1:1<=p)(h2:p<=32)(h:m.length=(p*32).toNat):Q0m m=p:=by
 simp only[Q0m,Q7n,Tree.m]
 have e:(m.length:Int)=p*32:=by omega
 rw[e,Int.mul_tmod_left,Int.mul_tdiv_cancel p (by decide)]
 have h3:decide (p*32>1024)=false:=dN (by omega)
 rw[h3]
 simp only[bne_self_eq_false,cond_false]
 rw[wrap_i64];omega
theorem xas(m:List Int)(p b:Int)(h1:1<=p)(h2:p<=32)(hb0:0<=b)(hb:b<=64)(h:m.length=(p*32).toNat)(M:Q00)(hM:M={(Q1l 1 0 []).1 with Mem:=m,B1:={(Q1l 1 0 []).1.B1 with Blocks:=wrap u32 b}}):Q0t M=true/\Q44 M:=by
 have hp:=xM m p h1 h2 h
 have hmem:M.Mem=m:=by rw[hM]
 have hu:u32.wrap b=b:=by rw[wrap_u32];omega
 have h0:(p==0)=false:=by simp;omega
 have hdev:Q0r M=true:=by
  simp only[Q0r,Q1k,Tree.m]
  rw[hmem]
  simp only[letv,hp]
  subst hM
  have c1:Q2c {C9:=[]}=true:=by kernel_rfl
  have c2:Q49 (Q1l 1 0 []).1.A9=true:=by kernel_rfl
  have c3:Q16 {(Q1l 1 0 []).1.B1 with Blocks:=wrap u32 b} p=true:=by
   have:decide (u32.wrap b>64)=false:=dN (by omega)
   show(bif decide (u32.wrap b>64)then false else _)=true
   rw[this]
   kernel_rfl
  have c4:Q5c (Q1l 1 0 []).1.C3 p=true:=by kernel_rfl
  have c5:Q2k (Q1l 1 0 []).1.A0 p=true:=by
   simp only[Q2k,Q5l,Tree.m]
   have:Q1a (Q1l 1 0 []).1.A0.B9=0:=by kernel_rfl
   simp only[letv,this]
   split<;>first|(exact dY (by split<;>omega))|simp_all
  show(bif Q2c {C9:=[]}then _ else _)=true
  rw[c1]
  show(bif Q49 (Q1l 1 0 []).1.A9 then _ else _)=true
  rw[c2]
  simp only[cond_true,c3]
  show(bif Q5c (Q1l 1 0 []).1.C3 p then _ else _)=true
  rw[c4]
  exact c5
 have hdp:Q3h M:=by
  unfold Q3h Tree.p Q1k
  have hb':M.A0=(Q1l 1 0 []).1.A0:=by rw[hM]
  have hbp:∀x,Qg2 M.A0 x:=λx=>by
   rw[hb']
   exact w_an (ck (ckT (t:=Q2 _) (by delta Q2;infer_instance)) (by kernel_rfl)) (w_lv λ_ _=>trivial)
  refine w_lv λx0 _=>w_lv λx1 _=>w_br (λ_=>w_lv λx2 _=>w_br (λ_=>w_lv λx3 _=>w_br (λ_=>w_lv λx4 _=>w_br (λ_=>w_an (hbp _) (w_lv λ_ _=>trivial)) (λ_=>trivial)) (λ_=>trivial)) (λ_=>trivial)) (λ_=>trivial)
 constructor
 ·simp only[Q0t,Q5m,Tree.m]
  rw[hmem]
  simp only[letv,hp,h0,cond_false,hdev]
  subst hM
  kernel_rfl
 ·unfold Q44 Tree.p Q5m
  refine w_lv λx0 _=>?_
  iterate 7 refine w_br (λ_=>trivial) λ_=>?_
  exact w_br (λ_=>w_br (λ_=>trivial) (λ_=>w_an hdp (w_lv λ_ _=>trivial))) (λ_=>w_an hdp (w_lv λ_ _=>trivial))

import Derived.Test.YthjfindbamdacaaGreatDoorPostRunsYz
import Derived.Test.YthjfindbamdacaaGreatDoorPostRunsCk
open Int renaming tmod->dA
set_option maxRecDepth 100000
set_option linter.all false
namespace Go.Proofs.YthjfindbamdacaaGreatDoor
open Go Go.GD
open Go.IntKind(wrap i64 u32 wrap_i64 wrap_u32)
theorem Z21{n k:Int}(hk:0<k)(hk2:k<=4611686018427387904):0<=Q81 n k/\Q81 n k<k:=by
 have h1:=Int.tmod_lt_of_pos n hk
 have h2:=Int.lt_tmod_of_pos n hk
 have he:Q81 n k=bif decide (dA n k<0)then wrap .i64 (dA n k+k)else dA n k:=rfl
 rw[he]
 cases h:decide (dA n k<0)
 ·have h:=oN h
  simp only[cond_false];omega
 ·have h:=oY h
  simp only[cond_true]
  rw[wrap_i64];omega
theorem Qhy{n k:Int}(hk:k≠0):Q4v n k:=by
 exact w_cn (dY hk) (wB wL wL)
theorem vw:(Z8o.length:Int)=50:=by kernel_rfl
theorem xP(n:Int):Qgq n:=by
 unfold Qgq Tree.p Qls
 refine w_lv λx0 e0=>w_lv λx1 e1=>w_an ?_ (w_lv λx2 e2=>w_cn ?_ (w_an (Qhy (by decide)) (w_lv λ_ _=>w_an (Qhy (by decide)) (w_lv λ_ _=>w_an (Qhy (by decide)) (w_lv λ_ _=>w_an (Qhy (by decide)) (w_lv λ_ _=>?_))))))
 ·subst e0;rw[vw];exact Qhy (by decide)
 ·subst e0;rw[vw]at e2⊢
  have h:=Z21 (n:=x1) (k:=50) (by decide) (by decide)
  rw[<-e2]at h
  simpa using h
 ·repeat'(first|exact trivial|refine w_br (λ_=>?_) (λ_=>?_))
theorem Zd6(p:Int):Qjb p:=by
 unfold Qjb Tree.p Ql6
 first
 | (refine w_br (λ_=>trivial) λh1=>w_br (λ_=>trivial) λh2=>w_cn ?_ trivial
    have h1:=oN h1
    have h2:=oN h2
    have hw:i64.wrap (p*32)=p*32:=by rw[wrap_i64];omega
    rw[hw]
    simp [Nat.blt,D.plain];omega)
theorem Z8(a:List Int)(ha:a.length<=1000000000000):Qf0 a a=true:=by
 simp only[Qf0,Q8q,Tree.m]
 have h0:((a.length:Int) !=(a.length:Int))=false:=by simp
 rw[h0,cond_false]
 refine zw (P:=λv:Int=>0<=v/\v<=a.length) (R:=λb=>b=true) (μ:=Q5h a a) (λv ⟨h1,h2⟩=>?_) _ _ ⟨by omega,by omega⟩ (Nat.lt_succ_self _)
 cases h:decide (v<(a.length:Int))
 ·rfl
 ·have h:=oY h
  have h3:(a.getD v.toNat (0:Int) !=a.getD v.toNat (0:Int))=false:=by simp
  rw[h3]
  have hw:i64.wrap (v+1)=v+1:=by rw[wrap_i64];omega
  simp only[cond_true,cond_false,hw]
  refine⟨⟨by omega,by omega⟩,?_⟩
  show(_:Nat)<_
  unfold Q5h
  omega
theorem zaB(p b:Int)(i:List Int)(h:(Q25 p b i).2=true):
    1<=p/\p<=32/\0<=b/\b<=64/\(Q25 p b i).1.Mem.length=(p*32).toNat/\(Q25 p b i).1={(Q25 1 0 []).1 with Mem:=(Q25 p b i).1.Mem,B0:={(Q25 1 0 []).1.B0 with Blocks:=wrap u32 b}}:=by
  simp only[Q25,Qck,Tree.m]at h⊢
  cases h1:decide (p<1)<;>rw[h1]at h
  . cases h2:decide (p>32)<;>rw[h2]at h
    . cases h3:decide (b<0)<;>rw[h3]at h
      . cases h4:decide (b>64)<;>rw[h4]at h
        . cases h5:decide ((i.length:Int)>i64.wrap (p*32))<;>rw[h5]at h
          . have g1:=oN h1
            have g2:=oN h2
            have hw:i64.wrap (p*32)=p*32:=by rw[wrap_i64];omega
            refine⟨by omega,by omega,by have:=oN h3;omega,by have:=oN h4;omega,?_,rfl⟩
            have g5:=oN h5
            rw[hw]at g5
            simp only[cond_false,letv]
            simp only[Qtv,Ql6,Tree.m]
            rw[h1,h2,hw]
            simp only[cond_false,lA,List.length_take,List.length_drop,List.length_replicate]
            omega
          . simp at h
        . simp at h
      . simp at h
    . simp at h
  . simp at h
theorem zP(m:List Int)(p:Int)(h1:1<=p)(h2:p<=32)(h:m.length=(p*32).toNat):Q1 m=p:=by
 simp only[Q1,Q8z,Tree.m]
 have e:(m.length:Int)=p*32:=by omega
 rw[e,Int.mul_tmod_left,Int.mul_tdiv_cancel p (by decide)]
 have h3:decide (p*32>1024)=false:=dN (by omega)
 rw[h3]
 simp only[bne_self_eq_false,cond_false]
 rw[wrap_i64];omega
theorem xaB(m:List Int)(p b:Int)(h1:1<=p)(h2:p<=32)(hb0:0<=b)(hb:b<=64)(h:m.length=(p*32).toNat)(M:Q00)(hM:M={(Q25 1 0 []).1 with Mem:=m,B0:={(Q25 1 0 []).1.B0 with Blocks:=wrap u32 b}}):Q10 M=true/\Q51 M:=by
 have hp:=zP m p h1 h2 h
 have hmem:M.Mem=m:=by rw[hM]
 have hu:u32.wrap b=b:=by rw[wrap_u32];omega
 have h0:(p==0)=false:=by simp;omega
 have hdev:Q16 M=true:=by
  simp only[Q16,Q26,Tree.m]
  rw[hmem]
  simp only[letv,hp]
  subst hM
  have c1:Q2v {D0:=[]}=true:=by kernel_rfl
  have c2:Q56 (Q25 1 0 []).1.B2=true:=by kernel_rfl
  have c3:Q1m {(Q25 1 0 []).1.B0 with Blocks:=wrap u32 b} p=true:=by
   have:decide (u32.wrap b>64)=false:=dN (by omega)
   show(bif decide (u32.wrap b>64)then false else _)=true
   rw[this]
   kernel_rfl
  have c4:Q6i (Q25 1 0 []).1.C2 p=true:=by kernel_rfl
  have c5:Q37 (Q25 1 0 []).1.A1 p=true:=by
   simp only[Q37,Q71,Tree.m]
   have:Q1s (Q25 1 0 []).1.A1.C0=0:=by kernel_rfl
   simp only[letv,this]
   split<;>first|(exact dY (by split<;>omega))|simp_all
  show(bif Q2v {D0:=[]}then _ else _)=true
  rw[c1]
  show(bif Q56 (Q25 1 0 []).1.B2 then _ else _)=true
  rw[c2]
  simp only[cond_true,c3]
  show(bif Q6i (Q25 1 0 []).1.C2 p then _ else _)=true
  rw[c4]
  exact c5
 have hdp:Q4e M:=by
  unfold Q4e Tree.p Q26
  have hb':M.A1=(Q25 1 0 []).1.A1:=by rw[hM]
  have hbp:∀x,Qiz M.A1 x:=λx=>by
   rw[hb']
   exact w_an (ck (ckT (t:=Q2i _) (by delta Q2i;infer_instance)) (by kernel_rfl)) (w_lv λ_ _=>trivial)
  refine w_lv λx0 _=>w_lv λx1 _=>w_br (λ_=>w_lv λx2 _=>w_br (λ_=>w_lv λx3 _=>w_br (λ_=>w_lv λx4 _=>w_br (λ_=>w_an (hbp _) (w_lv λ_ _=>trivial)) (λ_=>trivial)) (λ_=>trivial)) (λ_=>trivial)) (λ_=>trivial)
 constructor
 ·simp only[Q10,Q6w,Tree.m]
  rw[hmem]
  simp only[letv,hp,h0,cond_false,hdev]
  subst hM
  kernel_rfl
 ·unfold Q51 Tree.p Q6w
  refine w_lv λx0 _=>?_
  iterate 7 refine w_br (λ_=>trivial) λ_=>?_
  exact w_br (λ_=>w_br (λ_=>trivial) (λ_=>w_an hdp (w_lv λ_ _=>trivial))) (λ_=>w_an hdp (w_lv λ_ _=>trivial))

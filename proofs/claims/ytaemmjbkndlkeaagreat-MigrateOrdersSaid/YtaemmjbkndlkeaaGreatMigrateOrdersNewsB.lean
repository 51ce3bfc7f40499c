import Derived.Test.YtaemmjbkndlkeaaGreatMigrateOrdersYz
import Derived.Test.YtaemmjbkndlkeaaGreatMigrateOrdersCk
open Int renaming tmod->cZ
set_option maxRecDepth 100000
set_option linter.all false
namespace Go.Proofs.YtaemmjbkndlkeaaGreat
open Go Go.GD
open Go.IntKind(wrap i64 u32 wrap_i64 wrap_u32)
variable {k n:Int}
theorem Z52(hk:0<k)(rH:k<=4611686018427387904):0<=CE n k/\CE n k<k:=by
 have h1:=Int.tmod_lt_of_pos n hk
 have h2:=Int.lt_tmod_of_pos n hk
 have he:CE n k=bif decide (cZ n k<0)then wrap .i64 (cZ n k+k)else cZ n k:=rfl
 rw[he]
 cases h:decide (cZ n k<0)
 ·have h:=oN h
  simp only[cond_false];omega
 ·have h:=oY h
  simp only[cond_true]
  rw[wrap_i64];omega
theorem IK(hk:k≠0):HU n k:=by
 exact aw (dY hk) (wB wL wL)
theorem qC:(Zfw.length:Int)=50:=by kernel_rfl
theorem yW(n:Int):Qig n:=by
 unfold Qig Tree.p Vu
 refine aq λx0 e0=>aq λx1 e1=>c8 ?_ (aq λx2 e2=>aw ?_ (c8 (IK (by decide)) (aq λ_ _=>c8 (IK (by decide)) (aq λ_ _=>c8 (IK (by decide)) (aq λ_ _=>c8 (IK (by decide)) (aq λ_ _=>?_))))))
 ·subst e0;rw[qC];exact IK (by decide)
 ·subst e0;rw[qC]at e2⊢
  have h:=Z52 (n:=x1) (k:=50) (by decide) (by decide)
  rw[<-e2]at h
  simpa using h
 ·repeat'(first|exact trivial|refine ab (λ_=>?_) (λ_=>?_))
theorem Zla(p:Int):Qm4 p:=by
 unfold Qm4 Tree.p RQ
 first
 | (refine ab (λ_=>trivial) λh1=>ab (λ_=>trivial) λh2=>aw ?_ trivial
    have h1:=oN h1
    have h2:=oN h2
    have hw:i64.wrap (p*32)=p*32:=by rw[wrap_i64];omega
    rw[hw]
    simp [Nat.blt,D.plain];omega)
theorem Yt(a:List Int)(ha:a.length<=1000000000000):PC a a=true:=by
 simp only[PC,Jp,Tree.m]
 have h0:((a.length:Int) !=(a.length:Int))=false:=by simp
 rw[h0,cond_false]
 refine zB (P:=λv:Int=>0<=v/\v<=a.length) (R:=λb=>b=true) (μ:=Jq a a) (λv ⟨h1,h2⟩=>?_) _ _ ⟨by omega,by omega⟩ (Nat.lt_succ_self _)
 cases h:decide (v<(a.length:Int))
 ·rfl
 ·have h:=oY h
  have h3:(a.getD v.toNat (0:Int) !=a.getD v.toNat (0:Int))=false:=by simp
  rw[h3]
  have hw:i64.wrap (v+1)=v+1:=by rw[wrap_i64];omega
  simp only[cond_true,cond_false,hw]
  refine⟨⟨by omega,by omega⟩,?_⟩
  show(_:Nat)<_
  unfold Jq
  omega
theorem qaL(p b:Int)(i:List Int)(h:(lr p b i).2=true):
    1<=p/\p<=32/\0<=b/\b<=64/\(lr p b i).1.Mem.length=(p*32).toNat/\(lr p b i).1={(lr 1 0 []).1 with Mem:=(lr p b i).1.Mem,B7:={(lr 1 0 []).1.B7 with ae:=wrap u32 b}}:=by
  simp only[lr,GP,Tree.m]at h⊢
  cases h1:decide (p<1)<;>rw[h1]at h
  . cases h2:decide (p>32)<;>rw[h2]at h
    . cases h3:decide (b<0)<;>rw[h3]at h
      . cases h4:decide (b>64)<;>rw[h4]at h
        . cases h5:decide ((i.length:Int)>i64.wrap (p*32))<;>rw[h5]at h
          . have g1:=oN h1
            have g2:=oN h2
            have hw:i64.wrap (p*32)=p*32:=by rw[wrap_i64];omega
            refine⟨by omega,by omega,by have:=oN h3;omega,by have:=oN h4;omega,?_,rfl⟩
            have g5:=oN h5
            rw[hw]at g5
            simp only[cond_false,ee]
            simp only[Tb,RQ,Tree.m]
            rw[h1,h2,hw]
            simp only[cond_false,lA,List.length_take,List.length_drop,List.length_replicate]
            omega
          . simp at h
        . simp at h
      . simp at h
    . simp at h
  . simp at h
theorem vW(m:List Int)(p:Int)(h1:1<=p)(h2:p<=32)(h:m.length=(p*32).toNat):jQ m=p:=by
 simp only[jQ,GQ,Tree.m]
 have e:(m.length:Int)=p*32:=by omega
 rw[e,Int.mul_tmod_left,Int.mul_tdiv_cancel p (by decide)]
 have h3:decide (p*32>1024)=false:=dN (by omega)
 rw[h3]
 simp only[bne_self_eq_false,cond_false]
 rw[wrap_i64];omega
theorem zaL(m:List Int)(p b:Int)(h1:1<=p)(h2:p<=32)(sK:0<=b)(hb:b<=64)(h:m.length=(p*32).toNat)(M:bc)(hM:M={(lr 1 0 []).1 with Mem:=m,B7:={(lr 1 0 []).1.B7 with ae:=wrap u32 b}}):Bb M=true/\Vv M:=by
 have hp:=vW m p h1 h2 h
 have jc:M.Mem=m:=by rw[hM]
 have hu:u32.wrap b=b:=by rw[wrap_u32];omega
 have h0:(p==0)=false:=by simp;omega
 have Jag:wC M=true:=by
  simp only[wC,GS,Tree.m]
  rw[jc]
  simp only[ee,hp]
  subst hM
  have c1:AY {D9:=[]}=true:=by kernel_rfl
  have c2:AZ (lr 1 0 []).1.B9=true:=by kernel_rfl
  have c3:re {(lr 1 0 []).1.B7 with ae:=wrap u32 b} p=true:=by
   have:decide (u32.wrap b>64)=false:=dN (by omega)
   show(bif decide (u32.wrap b>64)then false else _)=true
   rw[this]
   kernel_rfl
  have c4:wD (lr 1 0 []).1.D2 p=true:=by kernel_rfl
  have c5:Ba (lr 1 0 []).1.A7 p=true:=by
   simp only[Ba,IN,Tree.m]
   have:wE (lr 1 0 []).1.A7.D0=0:=by kernel_rfl
   simp only[ee,this]
   split<;>first|(exact dY (by split<;>omega))|simp_all
  show(bif AY {D9:=[]}then _ else _)=true
  rw[c1]
  show(bif AZ (lr 1 0 []).1.B9 then _ else _)=true
  rw[c2]
  simp only[cond_true,c3]
  show(bif wD (lr 1 0 []).1.D2 p then _ else _)=true
  rw[c4]
  exact c5
 have hdp:Vw M:=by
  unfold Vw Tree.p GS
  have rM:M.A7=(lr 1 0 []).1.A7:=by rw[hM]
  have hbp:∀x,Ql1 M.A7 x:=λx=>by
   rw[rM]
   exact c8 (ck (tP (t:=DR _) (by delta DR;infer_instance)) (by kernel_rfl)) (aq λ_ _=>trivial)
  refine aq λx0 _=>aq λx1 _=>ab (λ_=>aq λx2 _=>ab (λ_=>aq λx3 _=>ab (λ_=>aq λx4 _=>ab (λ_=>c8 (hbp _) (aq λ_ _=>trivial)) (λ_=>trivial)) (λ_=>trivial)) (λ_=>trivial)) (λ_=>trivial)
 constructor
 ·simp only[Bb,JZ,Tree.m]
  rw[jc]
  simp only[ee,hp,h0,cond_false,Jag]
  subst hM
  kernel_rfl
 ·unfold Vv Tree.p JZ
  refine aq λx0 _=>?_
  iterate 7 refine ab (λ_=>trivial) λ_=>?_
  exact ab (λ_=>ab (λ_=>trivial) (λ_=>c8 hdp (aq λ_ _=>trivial))) (λ_=>c8 hdp (aq λ_ _=>trivial))

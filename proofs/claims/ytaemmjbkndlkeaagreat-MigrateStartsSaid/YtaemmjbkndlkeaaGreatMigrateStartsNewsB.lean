import Derived.Test.YtaemmjbkndlkeaaGreatMigrateStartsYz
import Derived.Test.YtaemmjbkndlkeaaGreatMigrateStartsCk
open Int renaming tmod->cZ
set_option maxRecDepth 100000
set_option linter.all false
namespace Go.Proofs.YtaemmjbkndlkeaaGreat
open Go Go.GD
open Go.IntKind(wrap i64 u32 wrap_i64 wrap_u32)
variable {k n:Int}
theorem Zpr(hk:0<k)(rF:k<=4611686018427387904):0<=FR n k/\FR n k<k:=by
 have h1:=Int.tmod_lt_of_pos n hk
 have h2:=Int.lt_tmod_of_pos n hk
 have he:FR n k=bif decide (cZ n k<0)then wrap .i64 (cZ n k+k)else cZ n k:=rfl
 rw[he]
 cases h:decide (cZ n k<0)
 ·have h:=oN h
  simp only[cond_false];omega
 ·have h:=oY h
  simp only[cond_true]
  rw[wrap_i64];omega
theorem Lc(hk:k≠0):Q6 n k:=by
 exact av (dY hk) (wB wL wL)
theorem vC:(Zfu.length:Int)=50:=by kernel_rfl
theorem qZ(n:Int):Qjc n:=by
 unfold Qjc Tree.p VN
 refine aq λx0 e0=>aq λx1 e1=>cg ?_ (aq λx2 e2=>av ?_ (cg (Lc (by decide)) (aq λ_ _=>cg (Lc (by decide)) (aq λ_ _=>cg (Lc (by decide)) (aq λ_ _=>cg (Lc (by decide)) (aq λ_ _=>?_))))))
 ·subst e0;rw[vC];exact Lc (by decide)
 ·subst e0;rw[vC]at e2⊢
  have h:=Zpr (n:=x1) (k:=50) (by decide) (by decide)
  rw[<-e2]at h
  simpa using h
 ·repeat'(first|exact trivial|refine ae (λ_=>?_) (λ_=>?_))
theorem Zkb(p:Int):QF p:=by
 unfold QF Tree.p JA
 first
 | (refine ae (λ_=>trivial) λh1=>ae (λ_=>trivial) λh2=>av ?_ trivial
    have h1:=oN h1
    have h2:=oN h2
    have hw:i64.wrap (p*32)=p*32:=by rw[wrap_i64];omega
    rw[hw]
    simp [Nat.blt,D.plain];omega)
theorem YT(a:List Int)(ha:a.length<=1000000000000):PQ a a=true:=by
 simp only[PQ,Jv,Tree.m]
 have h0:((a.length:Int) !=(a.length:Int))=false:=by simp
 rw[h0,cond_false]
 refine xC (P:=λv:Int=>0<=v/\v<=a.length) (R:=λb=>b=true) (μ:=Jw a a) (λv ⟨h1,h2⟩=>?_) _ _ ⟨by omega,by omega⟩ (Nat.lt_succ_self _)
 cases h:decide (v<(a.length:Int))
 ·rfl
 ·have h:=oY h
  have h3:(a.getD v.toNat (0:Int) !=a.getD v.toNat (0:Int))=false:=by simp
  rw[h3]
  have hw:i64.wrap (v+1)=v+1:=by rw[wrap_i64];omega
  simp only[cond_true,cond_false,hw]
  refine⟨⟨by omega,by omega⟩,?_⟩
  show(_:Nat)<_
  unfold Jw
  omega
theorem zaP(p b:Int)(i:List Int)(h:(lr p b i).2=true):
    1<=p/\p<=32/\0<=b/\b<=64/\(lr p b i).1.Mem.length=(p*32).toNat/\(lr p b i).1={(lr 1 0 []).1 with Mem:=(lr p b i).1.Mem,B7:={(lr 1 0 []).1.B7 with ab:=wrap u32 b}}:=by
  simp only[lr,GC,Tree.m]at h⊢
  cases h1:decide (p<1)<;>rw[h1]at h
  . cases h2:decide (p>32)<;>rw[h2]at h
    . cases h3:decide (b<0)<;>rw[h3]at h
      . cases h4:decide (b>64)<;>rw[h4]at h
        . cases h5:decide ((i.length:Int)>i64.wrap (p*32))<;>rw[h5]at h
          . have g1:=oN h1
            have g2:=oN h2
            have hw:i64.wrap (p*32)=p*32:=by rw[wrap_i64];omega
            refine⟨by omega,by omega,by have:=oN h3;omega,by have:=oN h4;omega,?_,rfl⟩
            have g5:=oN h5
            rw[hw]at g5
            simp only[cond_false,eh]
            simp only[Lb,JA,Tree.m]
            rw[h1,h2,hw]
            simp only[cond_false,lA,List.length_take,List.length_drop,List.length_replicate]
            omega
          . simp at h
        . simp at h
      . simp at h
    . simp at h
  . simp at h
theorem xZ(m:List Int)(p:Int)(h1:1<=p)(h2:p<=32)(h:m.length=(p*32).toNat):jP m=p:=by
 simp only[jP,GF,Tree.m]
 have e:(m.length:Int)=p*32:=by omega
 rw[e,Int.mul_tmod_left,Int.mul_tdiv_cancel p (by decide)]
 have h3:decide (p*32>1024)=false:=dN (by omega)
 rw[h3]
 simp only[bne_self_eq_false,cond_false]
 rw[wrap_i64];omega
theorem xaP(m:List Int)(p b:Int)(h1:1<=p)(h2:p<=32)(sJ:0<=b)(hb:b<=64)(h:m.length=(p*32).toNat)(M:bg)(hM:M={(lr 1 0 []).1 with Mem:=m,B7:={(lr 1 0 []).1.B7 with ab:=wrap u32 b}}):AY M=true/\VO M:=by
 have hp:=xZ m p h1 h2 h
 have je:M.Mem=m:=by rw[hM]
 have hu:u32.wrap b=b:=by rw[wrap_u32];omega
 have h0:(p==0)=false:=by simp;omega
 have Jak:wx M=true:=by
  simp only[wx,GH,Tree.m]
  rw[je]
  simp only[eh,hp]
  subst hM
  have c1:AV {D9:=[]}=true:=by kernel_rfl
  have c2:AW (lr 1 0 []).1.B8=true:=by kernel_rfl
  have c3:ra {(lr 1 0 []).1.B7 with ab:=wrap u32 b} p=true:=by
   have:decide (u32.wrap b>64)=false:=dN (by omega)
   show(bif decide (u32.wrap b>64)then false else _)=true
   rw[this]
   kernel_rfl
  have c4:wy (lr 1 0 []).1.D4 p=true:=by kernel_rfl
  have c5:AX (lr 1 0 []).1.A6 p=true:=by
   simp only[AX,IQ,Tree.m]
   have:wz (lr 1 0 []).1.A6.D0=0:=by kernel_rfl
   simp only[eh,this]
   split<;>first|(exact dY (by split<;>omega))|simp_all
  show(bif AV {D9:=[]}then _ else _)=true
  rw[c1]
  show(bif AW (lr 1 0 []).1.B8 then _ else _)=true
  rw[c2]
  simp only[cond_true,c3]
  show(bif wy (lr 1 0 []).1.D4 p then _ else _)=true
  rw[c4]
  exact c5
 have hdp:VP M:=by
  unfold VP Tree.p GH
  have rJ:M.A6=(lr 1 0 []).1.A6:=by rw[hM]
  have hbp:∀x,Qju M.A6 x:=λx=>by
   rw[rJ]
   exact cg (ck (tR (t:=DL _) (by delta DL;infer_instance)) (by kernel_rfl)) (aq λ_ _=>trivial)
  refine aq λx0 _=>aq λx1 _=>ae (λ_=>aq λx2 _=>ae (λ_=>aq λx3 _=>ae (λ_=>aq λx4 _=>ae (λ_=>cg (hbp _) (aq λ_ _=>trivial)) (λ_=>trivial)) (λ_=>trivial)) (λ_=>trivial)) (λ_=>trivial)
 constructor
 ·simp only[AY,J8,Tree.m]
  rw[je]
  simp only[eh,hp,h0,cond_false,Jak]
  subst hM
  kernel_rfl
 ·unfold VO Tree.p J8
  refine aq λx0 _=>?_
  iterate 7 refine ae (λ_=>trivial) λ_=>?_
  exact ae (λ_=>ae (λ_=>trivial) (λ_=>cg hdp (aq λ_ _=>trivial))) (λ_=>cg hdp (aq λ_ _=>trivial))

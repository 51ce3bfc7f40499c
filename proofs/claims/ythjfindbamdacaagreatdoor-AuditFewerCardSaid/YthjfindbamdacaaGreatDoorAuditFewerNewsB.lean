import Derived.Test.YthjfindbamdacaaGreatDoorAuditFewerYz
import Derived.Test.YthjfindbamdacaaGreatDoorAuditFewerCk
open Int renaming tmod->dE
set_option maxRecDepth 100000
set_option linter.all false
namespace Go.Proofs.YthjfindbamdacaaGreatDoor
open Go Go.GD
open Go.IntKind(wrap i64 u32 wrap_i64 wrap_u32)
theorem Y6{n k:Int}(hk:0<k)(rR:k<=4611686018427387904):0<=tS n k/\tS n k<k:=by
 have h1:=Int.tmod_lt_of_pos n hk
 have h2:=Int.lt_tmod_of_pos n hk
 have he:tS n k=bif decide (dE n k<0)then wrap .i64 (dE n k+k)else dE n k:=rfl
 rw[he]
 cases h:decide (dE n k<0)
 ·have h:=oN h
  simp only[cond_false];omega
 ·have h:=oY h
  simp only[cond_true]
  rw[wrap_i64];omega
theorem Ft{n k:Int}(hk:k≠0):EG n k:=by
 exact ay (dY hk) (wB wL wL)
theorem zC:(Zbr.length:Int)=50:=by kernel_rfl
theorem yV(n:Int):Qgd n:=by
 unfold Qgd Tree.p VP
 refine ar λx0 e0=>ar λx1 e1=>cz ?_ (ar λx2 e2=>ay ?_ (cz (Ft (by decide)) (ar λ_ _=>cz (Ft (by decide)) (ar λ_ _=>cz (Ft (by decide)) (ar λ_ _=>cz (Ft (by decide)) (ar λ_ _=>?_))))))
 ·subst e0;rw[zC];exact Ft (by decide)
 ·subst e0;rw[zC]at e2⊢
  have h:=Y6 (n:=x1) (k:=50) (by decide) (by decide)
  rw[<-e2]at h
  simpa using h
 ·repeat'(first|exact trivial|refine aa (λ_=>?_) (λ_=>?_))
theorem Zfb(p:Int):Qj9 p:=by
 unfold Qj9 Tree.p R7
 first
 | (refine aa (λ_=>trivial) λh1=>aa (λ_=>trivial) λh2=>ay ?_ trivial
    have h1:=oN h1
    have h2:=oN h2
    have hw:i64.wrap (p*32)=p*32:=by rw[wrap_i64];omega
    rw[hw]
    simp [Nat.blt,D.plain];omega)
theorem xaS(p b:Int)(i:List Int)(h:(lu p b i).2=true):
    1<=p/\p<=32/\0<=b/\b<=64/\(lu p b i).1.Mem.length=(p*32).toNat/\(lu p b i).1={(lu 1 0 []).1 with Mem:=(lu p b i).1.Mem,B1:={(lu 1 0 []).1.B1 with ag:=wrap u32 b}}:=by
  simp only[lu,DZ,Tree.m]at h⊢
  cases h1:decide (p<1)<;>rw[h1]at h
  . cases h2:decide (p>32)<;>rw[h2]at h
    . cases h3:decide (b<0)<;>rw[h3]at h
      . cases h4:decide (b>64)<;>rw[h4]at h
        . cases h5:decide ((i.length:Int)>i64.wrap (p*32))<;>rw[h5]at h
          . have g1:=oN h1
            have g2:=oN h2
            have hw:i64.wrap (p*32)=p*32:=by rw[wrap_i64];omega
            refine⟨by omega,by omega,by have:=oN h3;omega,by have:=oN h4;omega,?_,rfl⟩
            have g5:=oN h5
            rw[hw]at g5
            simp only[cond_false,df]
            simp only[Tw,R7,Tree.m]
            rw[h1,h2,hw]
            simp only[cond_false,lA,List.length_take,List.length_drop,List.length_replicate]
            omega
          . simp at h
        . simp at h
      . simp at h
    . simp at h
  . simp at h
theorem vV(m:List Int)(p:Int)(h1:1<=p)(h2:p<=32)(h:m.length=(p*32).toNat):mb m=p:=by
 simp only[mb,Q8,Tree.m]
 have e:(m.length:Int)=p*32:=by omega
 rw[e,Int.mul_tmod_left,Int.mul_tdiv_cancel p (by decide)]
 have h3:decide (p*32>1024)=false:=dN (by omega)
 rw[h3]
 simp only[bne_self_eq_false,cond_false]
 rw[wrap_i64];omega
theorem qaT(m:List Int)(p b:Int)(h1:1<=p)(h2:p<=32)(pJ:0<=b)(hb:b<=64)(h:m.length=(p*32).toNat)(M:au)(hM:M={(lu 1 0 []).1 with Mem:=m,B1:={(lu 1 0 []).1.B1 with ag:=wrap u32 b}}):nj M=true/\R8 M:=by
 have hp:=vV m p h1 h2 h
 have gy:M.Mem=m:=by rw[hM]
 have hu:u32.wrap b=b:=by rw[wrap_u32];omega
 have h0:(p==0)=false:=by simp;omega
 have Jan:sT M=true:=by
  simp only[sT,Ec,Tree.m]
  rw[gy]
  simp only[df,hp]
  subst hM
  have c1:tN {D5:=[]}=true:=by kernel_rfl
  have c2:tO (lu 1 0 []).1.B2=true:=by kernel_rfl
  have c3:kr {(lu 1 0 []).1.B1 with ag:=wrap u32 b} p=true:=by
   have:decide (u32.wrap b>64)=false:=dN (by omega)
   show(bif decide (u32.wrap b>64)then false else _)=true
   rw[this]
   kernel_rfl
  have c4:pE (lu 1 0 []).1.C6 p=true:=by kernel_rfl
  have c5:uD (lu 1 0 []).1.A6 p=true:=by
   simp only[uD,GY,Tree.m]
   have:wP (lu 1 0 []).1.A6.C5=0:=by kernel_rfl
   simp only[df,this]
   split<;>first|(exact dY (by split<;>omega))|simp_all
  show(bif tN {D5:=[]}then _ else _)=true
  rw[c1]
  show(bif tO (lu 1 0 []).1.B2 then _ else _)=true
  rw[c2]
  simp only[cond_true,c3]
  show(bif pE (lu 1 0 []).1.C6 p then _ else _)=true
  rw[c4]
  exact c5
 have hdp:VQ M:=by
  unfold VQ Tree.p Ec
  have tM:M.A6=(lu 1 0 []).1.A6:=by rw[hM]
  have hbp:∀x,Qiy M.A6 x:=λx=>by
   rw[tM]
   exact cz (ck (rQ (t:=Ee _) (by delta Ee;infer_instance)) (by kernel_rfl)) (ar λ_ _=>trivial)
  refine ar λx0 _=>ar λx1 _=>aa (λ_=>ar λx2 _=>aa (λ_=>ar λx3 _=>aa (λ_=>ar λx4 _=>aa (λ_=>cz (hbp _) (ar λ_ _=>trivial)) (λ_=>trivial)) (λ_=>trivial)) (λ_=>trivial)) (λ_=>trivial)
 constructor
 ·simp only[nj,Kn,Tree.m]
  rw[gy]
  simp only[df,hp,h0,cond_false,Jan]
  subst hM
  kernel_rfl
 ·unfold R8 Tree.p Kn
  refine ar λx0 _=>?_
  iterate 7 refine aa (λ_=>trivial) λ_=>?_
  exact aa (λ_=>aa (λ_=>trivial) (λ_=>cz hdp (ar λ_ _=>trivial))) (λ_=>cz hdp (ar λ_ _=>trivial))

import Derived.Test.YthjfindbamdacaaGreatDoorAuditTellsYz
import Derived.Test.YthjfindbamdacaaGreatDoorAuditTellsCk
open Int renaming tmod->dD
set_option maxRecDepth 100000
set_option linter.all false
namespace Go.Proofs.YthjfindbamdacaaGreatDoor
open Go Go.GD
open Go.IntKind(wrap i64 u32 wrap_i64 wrap_u32)
theorem Zkg{n k:Int}(hk:0<k)(rR:k<=4611686018427387904):0<=Gc n k/\Gc n k<k:=by
 have h1:=Int.tmod_lt_of_pos n hk
 have h2:=Int.lt_tmod_of_pos n hk
 have he:Gc n k=bif decide (dD n k<0)then wrap .i64 (dD n k+k)else dD n k:=rfl
 rw[he]
 cases h:decide (dD n k<0)
 ·have h:=oN h
  simp only[cond_false];omega
 ·have h:=oY h
  simp only[cond_true]
  rw[wrap_i64];omega
theorem Lc{n k:Int}(hk:k≠0):Km n k:=by
 exact ar (dY hk) (wB wL wL)
theorem vz:(Zco.length:Int)=50:=by kernel_rfl
theorem zS(n:Int):Qfz n:=by
 unfold Qfz Tree.p Vw
 refine au λx0 e0=>au λx1 e1=>cu ?_ (au λx2 e2=>ar ?_ (cu (Lc (by decide)) (au λ_ _=>cu (Lc (by decide)) (au λ_ _=>cu (Lc (by decide)) (au λ_ _=>cu (Lc (by decide)) (au λ_ _=>?_))))))
 ·subst e0;rw[vz];exact Lc (by decide)
 ·subst e0;rw[vz]at e2⊢
  have h:=Zkg (n:=x1) (k:=50) (by decide) (by decide)
  rw[<-e2]at h
  simpa using h
 ·repeat'(first|exact trivial|refine ab (λ_=>?_) (λ_=>?_))
theorem Zi9(p:Int):Qjo p:=by
 unfold Qjo Tree.p RU
 first
 | (refine ab (λ_=>trivial) λh1=>ab (λ_=>trivial) λh2=>ar ?_ trivial
    have h1:=oN h1
    have h2:=oN h2
    have hw:i64.wrap (p*32)=p*32:=by rw[wrap_i64];omega
    rw[hw]
    simp [Nat.blt,D.plain];omega)
theorem qaG(p b:Int)(i:List Int)(h:(lz p b i).2=true):
    1<=p/\p<=32/\0<=b/\b<=64/\(lz p b i).1.Mem.length=(p*32).toNat/\(lz p b i).1={(lz 1 0 []).1 with Mem:=(lz p b i).1.Mem,A4:={(lz 1 0 []).1.A4 with ag:=wrap u32 b}}:=by
  simp only[lz,Ec,Tree.m]at h⊢
  cases h1:decide (p<1)<;>rw[h1]at h
  . cases h2:decide (p>32)<;>rw[h2]at h
    . cases h3:decide (b<0)<;>rw[h3]at h
      . cases h4:decide (b>64)<;>rw[h4]at h
        . cases h5:decide ((i.length:Int)>i64.wrap (p*32))<;>rw[h5]at h
          . have g1:=oN h1
            have g2:=oN h2
            have hw:i64.wrap (p*32)=p*32:=by rw[wrap_i64];omega
            refine⟨by omega,by omega,by have:=oN h3;omega,by have:=oN h4;omega,?_,rfl⟩
            have g5:=oN h5
            rw[hw]at g5
            simp only[cond_false,dk]
            simp only[Te,RU,Tree.m]
            rw[h1,h2,hw]
            simp only[cond_false,lA,List.length_take,List.length_drop,List.length_replicate]
            omega
          . simp at h
        . simp at h
      . simp at h
    . simp at h
  . simp at h
theorem yS(m:List Int)(p:Int)(h1:1<=p)(h2:p<=32)(h:m.length=(p*32).toNat):lZ m=p:=by
 simp only[lZ,Le,Tree.m]
 have e:(m.length:Int)=p*32:=by omega
 rw[e,Int.mul_tmod_left,Int.mul_tdiv_cancel p (by decide)]
 have h3:decide (p*32>1024)=false:=dN (by omega)
 rw[h3]
 simp only[bne_self_eq_false,cond_false]
 rw[wrap_i64];omega
theorem zaG(m:List Int)(p b:Int)(h1:1<=p)(h2:p<=32)(pE:0<=b)(hb:b<=64)(h:m.length=(p*32).toNat)(M:ao)(hM:M={(lz 1 0 []).1 with Mem:=m,A4:={(lz 1 0 []).1.A4 with ag:=wrap u32 b}}):mM M=true/\RV M:=by
 have hp:=yS m p h1 h2 h
 have gv:M.Mem=m:=by rw[hM]
 have hu:u32.wrap b=b:=by rw[wrap_u32];omega
 have h0:(p==0)=false:=by simp;omega
 have Jag:sP M=true:=by
  simp only[sP,Ef,Tree.m]
  rw[gv]
  simp only[dk,hp]
  subst hM
  have c1:tJ {C6:=[]}=true:=by kernel_rfl
  have c2:tK (lz 1 0 []).1.A9=true:=by kernel_rfl
  have c3:ky {(lz 1 0 []).1.A4 with ag:=wrap u32 b} p=true:=by
   have:decide (u32.wrap b>64)=false:=dN (by omega)
   show(bif decide (u32.wrap b>64)then false else _)=true
   rw[this]
   kernel_rfl
  have c4:pw (lz 1 0 []).1.C1 p=true:=by kernel_rfl
  have c5:uF (lz 1 0 []).1.A1 p=true:=by
   simp only[uF,GK,Tree.m]
   have:wS (lz 1 0 []).1.A1.C0=0:=by kernel_rfl
   simp only[dk,this]
   split<;>first|(exact dY (by split<;>omega))|simp_all
  show(bif tJ {C6:=[]}then _ else _)=true
  rw[c1]
  show(bif tK (lz 1 0 []).1.A9 then _ else _)=true
  rw[c2]
  simp only[cond_true,c3]
  show(bif pw (lz 1 0 []).1.C1 p then _ else _)=true
  rw[c4]
  exact c5
 have hdp:Vx M:=by
  unfold Vx Tree.p Ef
  have tI:M.A1=(lz 1 0 []).1.A1:=by rw[hM]
  have hbp:∀x,Qhb M.A1 x:=λx=>by
   rw[tI]
   exact cu (ck (rQ (t:=Eh _) (by delta Eh;infer_instance)) (by kernel_rfl)) (au λ_ _=>trivial)
  refine au λx0 _=>au λx1 _=>ab (λ_=>au λx2 _=>ab (λ_=>au λx3 _=>ab (λ_=>au λx4 _=>ab (λ_=>cu (hbp _) (au λ_ _=>trivial)) (λ_=>trivial)) (λ_=>trivial)) (λ_=>trivial)) (λ_=>trivial)
 constructor
 ·simp only[mM,Ke,Tree.m]
  rw[gv]
  simp only[dk,hp,h0,cond_false,Jag]
  subst hM
  kernel_rfl
 ·unfold RV Tree.p Ke
  refine au λx0 _=>?_
  iterate 7 refine ab (λ_=>trivial) λ_=>?_
  exact ab (λ_=>ab (λ_=>trivial) (λ_=>cu hdp (au λ_ _=>trivial))) (λ_=>cu hdp (au λ_ _=>trivial))

import Derived.Test.YthjfindbamdacaaGreatDoorAuditScriptsYz
import Derived.Test.YthjfindbamdacaaGreatDoorAuditScriptsCk
open Int renaming tmod->dE
set_option maxRecDepth 100000
set_option linter.all false
namespace Go.Proofs.YthjfindbamdacaaGreatDoor
open Go Go.GD
open Go.IntKind(wrap i64 u32 wrap_i64 wrap_u32)
theorem YQ{n k:Int}(hk:0<k)(rL:k<=4611686018427387904):0<=tM n k/\tM n k<k:=by
 have h1:=Int.tmod_lt_of_pos n hk
 have h2:=Int.lt_tmod_of_pos n hk
 have he:tM n k=bif decide (dE n k<0)then wrap .i64 (dE n k+k)else dE n k:=rfl
 rw[he]
 cases h:decide (dE n k<0)
 ·have h:=oN h
  simp only[cond_false];omega
 ·have h:=oY h
  simp only[cond_true]
  rw[wrap_i64];omega
theorem Ff{n k:Int}(hk:k≠0):Ev n k:=by
 exact ba (dY hk) (wB wL wL)
theorem yC:(Zds.length:Int)=50:=by kernel_rfl
theorem zV(n:Int):Qge n:=by
 unfold Qge Tree.p VA
 refine ar λx0 e0=>ar λx1 e1=>cz ?_ (ar λx2 e2=>ba ?_ (cz (Ff (by decide)) (ar λ_ _=>cz (Ff (by decide)) (ar λ_ _=>cz (Ff (by decide)) (ar λ_ _=>cz (Ff (by decide)) (ar λ_ _=>?_))))))
 ·subst e0;rw[yC];exact Ff (by decide)
 ·subst e0;rw[yC]at e2⊢
  have h:=YQ (n:=x1) (k:=50) (by decide) (by decide)
  rw[<-e2]at h
  simpa using h
 ·repeat'(first|exact trivial|refine aa (λ_=>?_) (λ_=>?_))
theorem Zfe(p:Int):Qje p:=by
 unfold Qje Tree.p RS
 first
 | (refine aa (λ_=>trivial) λh1=>aa (λ_=>trivial) λh2=>ba ?_ trivial
    have h1:=oN h1
    have h2:=oN h2
    have hw:i64.wrap (p*32)=p*32:=by rw[wrap_i64];omega
    rw[hw]
    simp [Nat.blt,D.plain];omega)
theorem zaS(p b:Int)(i:List Int)(h:(k9 p b i).2=true):
    1<=p/\p<=32/\0<=b/\b<=64/\(k9 p b i).1.Mem.length=(p*32).toNat/\(k9 p b i).1={(k9 1 0 []).1 with Mem:=(k9 p b i).1.Mem,A7:={(k9 1 0 []).1.A7 with ae:=wrap u32 b}}:=by
  simp only[k9,DP,Tree.m]at h⊢
  cases h1:decide (p<1)<;>rw[h1]at h
  . cases h2:decide (p>32)<;>rw[h2]at h
    . cases h3:decide (b<0)<;>rw[h3]at h
      . cases h4:decide (b>64)<;>rw[h4]at h
        . cases h5:decide ((i.length:Int)>i64.wrap (p*32))<;>rw[h5]at h
          . have g1:=oN h1
            have g2:=oN h2
            have hw:i64.wrap (p*32)=p*32:=by rw[wrap_i64];omega
            refine⟨by omega,by omega,by have:=oN h3;omega,by have:=oN h4;omega,?_,rfl⟩
            have g5:=oN h5
            rw[hw]at g5
            simp only[cond_false,dd]
            simp only[Tj,RS,Tree.m]
            rw[h1,h2,hw]
            simp only[cond_false,lA,List.length_take,List.length_drop,List.length_replicate]
            omega
          . simp at h
        . simp at h
      . simp at h
    . simp at h
  . simp at h
theorem yV(m:List Int)(p:Int)(h1:1<=p)(h2:p<=32)(h:m.length=(p*32).toNat):lT m=p:=by
 simp only[lT,Lb,Tree.m]
 have e:(m.length:Int)=p*32:=by omega
 rw[e,Int.mul_tmod_left,Int.mul_tdiv_cancel p (by decide)]
 have h3:decide (p*32>1024)=false:=dN (by omega)
 rw[h3]
 simp only[bne_self_eq_false,cond_false]
 rw[wrap_i64];omega
theorem xaS(m:List Int)(p b:Int)(h1:1<=p)(h2:p<=32)(pA:0<=b)(hb:b<=64)(h:m.length=(p*32).toNat)(M:au)(hM:M={(k9 1 0 []).1 with Mem:=m,A7:={(k9 1 0 []).1.A7 with ae:=wrap u32 b}}):nc M=true/\RU M:=by
 have hp:=yV m p h1 h2 h
 have gy:M.Mem=m:=by rw[hM]
 have hu:u32.wrap b=b:=by rw[wrap_u32];omega
 have h0:(p==0)=false:=by simp;omega
 have Jak:sK M=true:=by
  simp only[sK,DS,Tree.m]
  rw[gy]
  simp only[dd,hp]
  subst hM
  have c1:tH {D1:=[]}=true:=by kernel_rfl
  have c2:tI (k9 1 0 []).1.A9=true:=by kernel_rfl
  have c3:kd {(k9 1 0 []).1.A7 with ae:=wrap u32 b} p=true:=by
   have:decide (u32.wrap b>64)=false:=dN (by omega)
   show(bif decide (u32.wrap b>64)then false else _)=true
   rw[this]
   kernel_rfl
  have c4:pw (k9 1 0 []).1.C3 p=true:=by kernel_rfl
  have c5:uu (k9 1 0 []).1.A2 p=true:=by
   simp only[uu,GH,Tree.m]
   have:wH (k9 1 0 []).1.A2.C2=0:=by kernel_rfl
   simp only[dd,this]
   split<;>first|(exact dY (by split<;>omega))|simp_all
  show(bif tH {D1:=[]}then _ else _)=true
  rw[c1]
  show(bif tI (k9 1 0 []).1.A9 then _ else _)=true
  rw[c2]
  simp only[cond_true,c3]
  show(bif pw (k9 1 0 []).1.C3 p then _ else _)=true
  rw[c4]
  exact c5
 have hdp:VB M:=by
  unfold VB Tree.p DS
  have tG:M.A2=(k9 1 0 []).1.A2:=by rw[hM]
  have hbp:∀x,Qhe M.A2 x:=λx=>by
   rw[tG]
   exact cz (ck (rK (t:=DU _) (by delta DU;infer_instance)) (by kernel_rfl)) (ar λ_ _=>trivial)
  refine ar λx0 _=>ar λx1 _=>aa (λ_=>ar λx2 _=>aa (λ_=>ar λx3 _=>aa (λ_=>ar λx4 _=>aa (λ_=>cz (hbp _) (ar λ_ _=>trivial)) (λ_=>trivial)) (λ_=>trivial)) (λ_=>trivial)) (λ_=>trivial)
 constructor
 ·simp only[nc,Kd,Tree.m]
  rw[gy]
  simp only[dd,hp,h0,cond_false,Jak]
  subst hM
  kernel_rfl
 ·unfold RU Tree.p Kd
  refine ar λx0 _=>?_
  iterate 7 refine aa (λ_=>trivial) λ_=>?_
  exact aa (λ_=>aa (λ_=>trivial) (λ_=>cz hdp (ar λ_ _=>trivial))) (λ_=>cz hdp (ar λ_ _=>trivial))

import Derived.Test.YthjfindbamdacaaGreatDoorAuditFindsYz
import Derived.Test.YthjfindbamdacaaGreatDoorAuditFindsCk
open Int renaming tmod->dE
set_option maxRecDepth 100000
set_option linter.all false
namespace Go.Proofs.YthjfindbamdacaaGreatDoor
open Go Go.GD
open Go.IntKind(wrap i64 u32 wrap_i64 wrap_u32)
theorem YI{n k:Int}(hk:0<k)(rI:k<=4611686018427387904):0<=uw n k/\uw n k<k:=by
 have h1:=Int.tmod_lt_of_pos n hk
 have h2:=Int.lt_tmod_of_pos n hk
 have he:uw n k=bif decide (dE n k<0)then wrap .i64 (dE n k+k)else dE n k:=rfl
 rw[he]
 cases h:decide (dE n k<0)
 ·have h:=oN h
  simp only[cond_false];omega
 ·have h:=oY h
  simp only[cond_true]
  rw[wrap_i64];omega
theorem Fg{n k:Int}(hk:k≠0):Ev n k:=by
 exact ba (dY hk) (wB wL wL)
theorem zC:(Zaj.length:Int)=50:=by kernel_rfl
theorem vU(n:Int):Qgg n:=by
 unfold Qgg Tree.p Vr
 refine ar λx0 e0=>ar λx1 e1=>cz ?_ (ar λx2 e2=>ba ?_ (cz (Fg (by decide)) (ar λ_ _=>cz (Fg (by decide)) (ar λ_ _=>cz (Fg (by decide)) (ar λ_ _=>cz (Fg (by decide)) (ar λ_ _=>?_))))))
 ·subst e0;rw[zC];exact Fg (by decide)
 ·subst e0;rw[zC]at e2⊢
  have h:=YI (n:=x1) (k:=50) (by decide) (by decide)
  rw[<-e2]at h
  simpa using h
 ·repeat'(first|exact trivial|refine aa (λ_=>?_) (λ_=>?_))
theorem Zg7(p:Int):Qj4 p:=by
 unfold Qj4 Tree.p RL
 first
 | (refine aa (λ_=>trivial) λh1=>aa (λ_=>trivial) λh2=>ba ?_ trivial
    have h1:=oN h1
    have h2:=oN h2
    have hw:i64.wrap (p*32)=p*32:=by rw[wrap_i64];omega
    rw[hw]
    simp [Nat.blt,D.plain];omega)
theorem xaR(p b:Int)(i:List Int)(h:(k9 p b i).2=true):
    1<=p/\p<=32/\0<=b/\b<=64/\(k9 p b i).1.Mem.length=(p*32).toNat/\(k9 p b i).1={(k9 1 0 []).1 with Mem:=(k9 p b i).1.Mem,A7:={(k9 1 0 []).1.A7 with ag:=wrap u32 b}}:=by
  simp only[k9,DM,Tree.m]at h⊢
  cases h1:decide (p<1)<;>rw[h1]at h
  . cases h2:decide (p>32)<;>rw[h2]at h
    . cases h3:decide (b<0)<;>rw[h3]at h
      . cases h4:decide (b>64)<;>rw[h4]at h
        . cases h5:decide ((i.length:Int)>i64.wrap (p*32))<;>rw[h5]at h
          . have g1:=oN h1
            have g2:=oN h2
            have hw:i64.wrap (p*32)=p*32:=by rw[wrap_i64];omega
            refine⟨by omega,by omega,by have:=oN h3;omega,by have:=oN h4;omega,?_,rfl⟩
            have g5:=oN h5
            rw[hw]at g5
            simp only[cond_false,dd]
            simp only[Te,RL,Tree.m]
            rw[h1,h2,hw]
            simp only[cond_false,lA,List.length_take,List.length_drop,List.length_replicate]
            omega
          . simp at h
        . simp at h
      . simp at h
    . simp at h
  . simp at h
theorem xV(m:List Int)(p:Int)(h1:1<=p)(h2:p<=32)(h:m.length=(p*32).toNat):lR m=p:=by
 simp only[lR,K4,Tree.m]
 have e:(m.length:Int)=p*32:=by omega
 rw[e,Int.mul_tmod_left,Int.mul_tdiv_cancel p (by decide)]
 have h3:decide (p*32>1024)=false:=dN (by omega)
 rw[h3]
 simp only[bne_self_eq_false,cond_false]
 rw[wrap_i64];omega
theorem qaS(m:List Int)(p b:Int)(h1:1<=p)(h2:p<=32)(pz:0<=b)(hb:b<=64)(h:m.length=(p*32).toNat)(M:au)(hM:M={(k9 1 0 []).1 with Mem:=m,A7:={(k9 1 0 []).1.A7 with ag:=wrap u32 b}}):mZ M=true/\RM M:=by
 have hp:=xV m p h1 h2 h
 have gy:M.Mem=m:=by rw[hM]
 have hu:u32.wrap b=b:=by rw[wrap_u32];omega
 have h0:(p==0)=false:=by simp;omega
 have Jaj:sH M=true:=by
  simp only[sH,DO,Tree.m]
  rw[gy]
  simp only[dd,hp]
  subst hM
  have c1:tB {D1:=[]}=true:=by kernel_rfl
  have c2:tC (k9 1 0 []).1.A9=true:=by kernel_rfl
  have c3:ki {(k9 1 0 []).1.A7 with ag:=wrap u32 b} p=true:=by
   have:decide (u32.wrap b>64)=false:=dN (by omega)
   show(bif decide (u32.wrap b>64)then false else _)=true
   rw[this]
   kernel_rfl
  have c4:pr (k9 1 0 []).1.C3 p=true:=by kernel_rfl
  have c5:uk (k9 1 0 []).1.A2 p=true:=by
   simp only[uk,GH,Tree.m]
   have:wD (k9 1 0 []).1.A2.C2=0:=by kernel_rfl
   simp only[dd,this]
   split<;>first|(exact dY (by split<;>omega))|simp_all
  show(bif tB {D1:=[]}then _ else _)=true
  rw[c1]
  show(bif tC (k9 1 0 []).1.A9 then _ else _)=true
  rw[c2]
  simp only[cond_true,c3]
  show(bif pr (k9 1 0 []).1.C3 p then _ else _)=true
  rw[c4]
  exact c5
 have hdp:Vs M:=by
  unfold Vs Tree.p DO
  have tA:M.A2=(k9 1 0 []).1.A2:=by rw[hM]
  have hbp:∀x,Qhk M.A2 x:=λx=>by
   rw[tA]
   exact cz (ck (rH (t:=DQ _) (by delta DQ;infer_instance)) (by kernel_rfl)) (ar λ_ _=>trivial)
  refine ar λx0 _=>ar λx1 _=>aa (λ_=>ar λx2 _=>aa (λ_=>ar λx3 _=>aa (λ_=>ar λx4 _=>aa (λ_=>cz (hbp _) (ar λ_ _=>trivial)) (λ_=>trivial)) (λ_=>trivial)) (λ_=>trivial)) (λ_=>trivial)
 constructor
 ·simp only[mZ,J5,Tree.m]
  rw[gy]
  simp only[dd,hp,h0,cond_false,Jaj]
  subst hM
  kernel_rfl
 ·unfold RM Tree.p J5
  refine ar λx0 _=>?_
  iterate 7 refine aa (λ_=>trivial) λ_=>?_
  exact aa (λ_=>aa (λ_=>trivial) (λ_=>cz hdp (ar λ_ _=>trivial))) (λ_=>cz hdp (ar λ_ _=>trivial))

import Derived.Test.YthjfindbamdacaaGreatDoorAuditComparesYz
import Derived.Test.YthjfindbamdacaaGreatDoorAuditComparesCk
open Int renaming tmod->dE
set_option maxRecDepth 100000
set_option linter.all false
namespace Go.Proofs.YthjfindbamdacaaGreatDoor
open Go Go.GD
open Go.IntKind(wrap i64 u32 wrap_i64 wrap_u32)
theorem Zgi{n k:Int}(hk:0<k)(rb:k<=4611686018427387904):0<=Fv n k/\Fv n k<k:=by
 have h1:=Int.tmod_lt_of_pos n hk
 have h2:=Int.lt_tmod_of_pos n hk
 have he:Fv n k=bif decide (dE n k<0)then wrap .i64 (dE n k+k)else dE n k:=rfl
 rw[he]
 cases h:decide (dE n k<0)
 ·have h:=oN h
  simp only[cond_false];omega
 ·have h:=oY h
  simp only[cond_true]
  rw[wrap_i64];omega
theorem Ic{n k:Int}(hk:k≠0):JF n k:=by
 exact ax (dY hk) (wB wL wL)
theorem zA:(Zaw.length:Int)=50:=by kernel_rfl
theorem xV(n:Int):Zu n:=by
 unfold Zu Tree.p Uy
 refine aq λx0 e0=>aq λx1 e1=>cr ?_ (aq λx2 e2=>ax ?_ (cr (Ic (by decide)) (aq λ_ _=>cr (Ic (by decide)) (aq λ_ _=>cr (Ic (by decide)) (aq λ_ _=>cr (Ic (by decide)) (aq λ_ _=>?_))))))
 ·subst e0;rw[zA];exact Ic (by decide)
 ·subst e0;rw[zA]at e2⊢
  have h:=Zgi (n:=x1) (k:=50) (by decide) (by decide)
  rw[<-e2]at h
  simpa using h
 ·repeat'(first|exact trivial|refine aa (λ_=>?_) (λ_=>?_))
theorem Zci(p:Int):Zv p:=by
 unfold Zv Tree.p QQ
 first
 | (refine aa (λ_=>trivial) λh1=>aa (λ_=>trivial) λh2=>ax ?_ trivial
    have h1:=oN h1
    have h2:=oN h2
    have hw:i64.wrap (p*32)=p*32:=by rw[wrap_i64];omega
    rw[hw]
    simp [Nat.blt,D.plain];omega)
theorem xaL(p b:Int)(i:List Int)(h:(kI p b i).2=true):
    1<=p/\p<=32/\0<=b/\b<=64/\(kI p b i).1.Mem.length=(p*32).toNat/\(kI p b i).1={(kI 1 0 []).1 with Mem:=(kI p b i).1.Mem,A6:={(kI 1 0 []).1.A6 with ab:=wrap u32 b}}:=by
  simp only[kI,Dl,Tree.m]at h⊢
  cases h1:decide (p<1)<;>rw[h1]at h
  . cases h2:decide (p>32)<;>rw[h2]at h
    . cases h3:decide (b<0)<;>rw[h3]at h
      . cases h4:decide (b>64)<;>rw[h4]at h
        . cases h5:decide ((i.length:Int)>i64.wrap (p*32))<;>rw[h5]at h
          . have g1:=oN h1
            have g2:=oN h2
            have hw:i64.wrap (p*32)=p*32:=by rw[wrap_i64];omega
            refine⟨by omega,by omega,by have:=oN h3;omega,by have:=oN h4;omega,?_,rfl⟩
            have g5:=oN h5
            rw[hw]at g5
            simp only[cond_false,dj]
            simp only[Sk,QQ,Tree.m]
            rw[h1,h2,hw]
            simp only[cond_false,lA,List.length_take,List.length_drop,List.length_replicate]
            omega
          . simp at h
        . simp at h
      . simp at h
    . simp at h
  . simp at h
theorem zV(m:List Int)(p:Int)(h1:1<=p)(h2:p<=32)(h:m.length=(p*32).toNat):lC m=p:=by
 simp only[lC,Kr,Tree.m]
 have e:(m.length:Int)=p*32:=by omega
 rw[e,Int.mul_tmod_left,Int.mul_tdiv_cancel p (by decide)]
 have h3:decide (p*32>1024)=false:=dN (by omega)
 rw[h3]
 simp only[bne_self_eq_false,cond_false]
 rw[wrap_i64];omega
theorem qaM(m:List Int)(p b:Int)(h1:1<=p)(h2:p<=32)(oX:0<=b)(hb:b<=64)(h:m.length=(p*32).toNat)(M:au)(hM:M={(kI 1 0 []).1 with Mem:=m,A6:={(kI 1 0 []).1.A6 with ab:=wrap u32 b}}):mF M=true/\QR M:=by
 have hp:=zV m p h1 h2 h
 have gl:M.Mem=m:=by rw[hM]
 have hu:u32.wrap b=b:=by rw[wrap_u32];omega
 have h0:(p==0)=false:=by simp;omega
 have Zw:se M=true:=by
  simp only[se,Dn,Tree.m]
  rw[gl]
  simp only[dj,hp]
  subst hM
  have c1:ta {C5:=[]}=true:=by kernel_rfl
  have c2:te (kI 1 0 []).1.A7=true:=by kernel_rfl
  have c3:j5 {(kI 1 0 []).1.A6 with ab:=wrap u32 b} p=true:=by
   have:decide (u32.wrap b>64)=false:=dN (by omega)
   show(bif decide (u32.wrap b>64)then false else _)=true
   rw[this]
   kernel_rfl
  have c4:oU (kI 1 0 []).1.C1 p=true:=by kernel_rfl
  have c5:tV (kI 1 0 []).1.A1 p=true:=by
   simp only[tV,F5,Tree.m]
   have:wa (kI 1 0 []).1.A1.C0=0:=by kernel_rfl
   simp only[dj,this]
   split<;>first|(exact dY (by split<;>omega))|simp_all
  show(bif ta {C5:=[]}then _ else _)=true
  rw[c1]
  show(bif te (kI 1 0 []).1.A7 then _ else _)=true
  rw[c2]
  simp only[cond_true,c3]
  show(bif oU (kI 1 0 []).1.C1 p then _ else _)=true
  rw[c4]
  exact c5
 have hdp:Uz M:=by
  unfold Uz Tree.p Dn
  have s7:M.A1=(kI 1 0 []).1.A1:=by rw[hM]
  have hbp:∀x,Qhq M.A1 x:=λx=>by
   rw[s7]
   exact cr (ck (ra (t:=Dq _) (by delta Dq;infer_instance)) (by kernel_rfl)) (aq λ_ _=>trivial)
  refine aq λx0 _=>aq λx1 _=>aa (λ_=>aq λx2 _=>aa (λ_=>aq λx3 _=>aa (λ_=>aq λx4 _=>aa (λ_=>cr (hbp _) (aq λ_ _=>trivial)) (λ_=>trivial)) (λ_=>trivial)) (λ_=>trivial)) (λ_=>trivial)
 constructor
 ·simp only[mF,Jx,Tree.m]
  rw[gl]
  simp only[dj,hp,h0,cond_false,Zw]
  subst hM
  kernel_rfl
 ·unfold QR Tree.p Jx
  refine aq λx0 _=>?_
  iterate 7 refine aa (λ_=>trivial) λ_=>?_
  exact aa (λ_=>aa (λ_=>trivial) (λ_=>cr hdp (aq λ_ _=>trivial))) (λ_=>cr hdp (aq λ_ _=>trivial))

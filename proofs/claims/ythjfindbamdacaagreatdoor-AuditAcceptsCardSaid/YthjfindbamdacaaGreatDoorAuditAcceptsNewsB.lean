import Derived.Test.YthjfindbamdacaaGreatDoorAuditAcceptsYz
import Derived.Test.YthjfindbamdacaaGreatDoorAuditAcceptsCk
open Int renaming tmod->dE
set_option maxRecDepth 100000
set_option linter.all false
namespace Go.Proofs.YthjfindbamdacaaGreatDoor
open Go Go.GD
open Go.IntKind(wrap i64 u32 wrap_i64 wrap_u32)
variable {k n:Int}
theorem Z3z(hk:0<k)(rW:k<=4611686018427387904):0<=w7 n k/\w7 n k<k:=by
 have h1:=Int.tmod_lt_of_pos n hk
 have h2:=Int.lt_tmod_of_pos n hk
 have he:w7 n k=bif decide (dE n k<0)then wrap .i64 (dE n k+k)else dE n k:=rfl
 rw[he]
 cases h:decide (dE n k<0)
 ·have h:=oN h
  simp only[cond_false];omega
 ·have h:=oY h
  simp only[cond_true]
  rw[wrap_i64];omega
theorem GW(hk:k≠0):Gt n k:=by
 exact au (dY hk) (wB wL wL)
theorem vD:(Zez.length:Int)=50:=by kernel_rfl
theorem xW(n:Int):Qgy n:=by
 unfold Qgy Tree.p VU
 refine aq λx0 e0=>aq λx1 e1=>cj ?_ (aq λx2 e2=>au ?_ (cj (GW (by decide)) (aq λ_ _=>cj (GW (by decide)) (aq λ_ _=>cj (GW (by decide)) (aq λ_ _=>cj (GW (by decide)) (aq λ_ _=>?_))))))
 ·subst e0;rw[vD];exact GW (by decide)
 ·subst e0;rw[vD]at e2⊢
  have h:=Z3z (n:=x1) (k:=50) (by decide) (by decide)
  rw[<-e2]at h
  simpa using h
 ·repeat'(first|exact trivial|refine aa (λ_=>?_) (λ_=>?_))
theorem Zjh(p:Int):Qjw p:=by
 unfold Qjw Tree.p Sh
 first
 | (refine aa (λ_=>trivial) λh1=>aa (λ_=>trivial) λh2=>au ?_ trivial
    have h1:=oN h1
    have h2:=oN h2
    have hw:i64.wrap (p*32)=p*32:=by rw[wrap_i64];omega
    rw[hw]
    simp [Nat.blt,D.plain];omega)
theorem zaT(p b:Int)(i:List Int)(h:(lz p b i).2=true):
    1<=p/\p<=32/\0<=b/\b<=64/\(lz p b i).1.Mem.length=(p*32).toNat/\(lz p b i).1={(lz 1 0 []).1 with Mem:=(lz p b i).1.Mem,A7:={(lz 1 0 []).1.A7 with ag:=wrap u32 b}}:=by
  simp only[lz,Ei,Tree.m]at h⊢
  cases h1:decide (p<1)<;>rw[h1]at h
  . cases h2:decide (p>32)<;>rw[h2]at h
    . cases h3:decide (b<0)<;>rw[h3]at h
      . cases h4:decide (b>64)<;>rw[h4]at h
        . cases h5:decide ((i.length:Int)>i64.wrap (p*32))<;>rw[h5]at h
          . have g1:=oN h1
            have g2:=oN h2
            have hw:i64.wrap (p*32)=p*32:=by rw[wrap_i64];omega
            refine⟨by omega,by omega,by have:=oN h3;omega,by have:=oN h4;omega,?_,rfl⟩
            have g5:=oN h5
            rw[hw]at g5
            simp only[cond_false,df]
            simp only[TJ,Sh,Tree.m]
            rw[h1,h2,hw]
            simp only[cond_false,lA,List.length_take,List.length_drop,List.length_replicate]
            omega
          . simp at h
        . simp at h
      . simp at h
    . simp at h
  . simp at h
theorem zW(m:List Int)(p:Int)(h1:1<=p)(h2:p<=32)(h:m.length=(p*32).toNat):me m=p:=by
 simp only[me,Ls,Tree.m]
 have e:(m.length:Int)=p*32:=by omega
 rw[e,Int.mul_tmod_left,Int.mul_tdiv_cancel p (by decide)]
 have h3:decide (p*32>1024)=false:=dN (by omega)
 rw[h3]
 simp only[bne_self_eq_false,cond_false]
 rw[wrap_i64];omega
theorem xaT(m:List Int)(p b:Int)(h1:1<=p)(h2:p<=32)(pL:0<=b)(hb:b<=64)(h:m.length=(p*32).toNat)(M:av)(hM:M={(lz 1 0 []).1 with Mem:=m,A7:={(lz 1 0 []).1.A7 with ag:=wrap u32 b}}):mX M=true/\Si M:=by
 have hp:=zW m p h1 h2 h
 have gz:M.Mem=m:=by rw[hM]
 have hu:u32.wrap b=b:=by rw[wrap_u32];omega
 have h0:(p==0)=false:=by simp;omega
 have Jan:sX M=true:=by
  simp only[sX,El,Tree.m]
  rw[gz]
  simp only[df,hp]
  subst hM
  have c1:tR {C9:=[]}=true:=by kernel_rfl
  have c2:tS (lz 1 0 []).1.A9=true:=by kernel_rfl
  have c3:kD {(lz 1 0 []).1.A7 with ag:=wrap u32 b} p=true:=by
   have:decide (u32.wrap b>64)=false:=dN (by omega)
   show(bif decide (u32.wrap b>64)then false else _)=true
   rw[this]
   kernel_rfl
  have c4:pC (lz 1 0 []).1.C1 p=true:=by kernel_rfl
  have c5:uM (lz 1 0 []).1.A2 p=true:=by
   simp only[uM,G1,Tree.m]
   have:wW (lz 1 0 []).1.A2.C4=0:=by kernel_rfl
   simp only[df,this]
   split<;>first|(exact dY (by split<;>omega))|simp_all
  show(bif tR {C9:=[]}then _ else _)=true
  rw[c1]
  show(bif tS (lz 1 0 []).1.A9 then _ else _)=true
  rw[c2]
  simp only[cond_true,c3]
  show(bif pC (lz 1 0 []).1.C1 p then _ else _)=true
  rw[c4]
  exact c5
 have hdp:VV M:=by
  unfold VV Tree.p El
  have tQ:M.A2=(lz 1 0 []).1.A2:=by rw[hM]
  have hbp:∀x,Qig M.A2 x:=λx=>by
   rw[tQ]
   exact cj (ck (rV (t:=En _) (by delta En;infer_instance)) (by kernel_rfl)) (aq λ_ _=>trivial)
  refine aq λx0 _=>aq λx1 _=>aa (λ_=>aq λx2 _=>aa (λ_=>aq λx3 _=>aa (λ_=>aq λx4 _=>aa (λ_=>cj (hbp _) (aq λ_ _=>trivial)) (λ_=>trivial)) (λ_=>trivial)) (λ_=>trivial)) (λ_=>trivial)
 constructor
 ·simp only[mX,Kv,Tree.m]
  rw[gz]
  simp only[df,hp,h0,cond_false,Jan]
  subst hM
  kernel_rfl
 ·unfold Si Tree.p Kv
  refine aq λx0 _=>?_
  iterate 7 refine aa (λ_=>trivial) λ_=>?_
  exact aa (λ_=>aa (λ_=>trivial) (λ_=>cj hdp (aq λ_ _=>trivial))) (λ_=>cj hdp (aq λ_ _=>trivial))

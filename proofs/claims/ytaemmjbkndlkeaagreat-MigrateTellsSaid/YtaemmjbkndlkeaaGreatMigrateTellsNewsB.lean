import Derived.Test.YtaemmjbkndlkeaaGreatMigrateTellsYz
import Derived.Test.YtaemmjbkndlkeaaGreatMigrateTellsCk
open Int renaming tmod->cZ
set_option maxRecDepth 100000
set_option linter.all false
namespace Go.Proofs.YtaemmjbkndlkeaaGreat
open Go Go.GD
open Go.IntKind(wrap i64 u32 wrap_i64 wrap_u32)
variable {k n:Int}
theorem Zsu(hk:0<k)(so:k<=4611686018427387904):0<=GS n k/\GS n k<k:=by
 have h1:=Int.tmod_lt_of_pos n hk
 have h2:=Int.lt_tmod_of_pos n hk
 have he:GS n k=bif decide (cZ n k<0)then wrap .i64 (cZ n k+k)else cZ n k:=rfl
 rw[he]
 cases h:decide (cZ n k<0)
 ·have h:=oN h
  simp only[cond_false];omega
 ·have h:=oY h
  simp only[cond_true]
  rw[wrap_i64];omega
theorem Mc(hk:k≠0):Ld n k:=by
 exact ar (dY hk) (wB wL wL)
theorem zD:(Zm0.length:Int)=50:=by kernel_rfl
theorem y3(n:Int):Ql n:=by
 unfold Ql Tree.p Xx
 refine ai λx0 e0=>ai λx1 e1=>bz ?_ (ai λx2 e2=>ar ?_ (bz (Mc (by decide)) (ai λ_ _=>bz (Mc (by decide)) (ai λ_ _=>bz (Mc (by decide)) (ai λ_ _=>bz (Mc (by decide)) (ai λ_ _=>?_))))))
 ·subst e0;rw[zD];exact Mc (by decide)
 ·subst e0;rw[zD]at e2⊢
  have h:=Zsu (n:=x1) (k:=50) (by decide) (by decide)
  rw[<-e2]at h
  simpa using h
 ·repeat'(first|exact trivial|refine aa (λ_=>?_) (λ_=>?_))
theorem Zod(p:Int):RL p:=by
 unfold RL Tree.p Kr
 first
 | (refine aa (λ_=>trivial) λh1=>aa (λ_=>trivial) λh2=>ar ?_ trivial
    have h1:=oN h1
    have h2:=oN h2
    have hw:i64.wrap (p*32)=p*32:=by rw[wrap_i64];omega
    rw[hw]
    simp [Nat.blt,D.plain];omega)
theorem Z3m(a:List Int)(ha:a.length<=1000000000000):Nj a a=true:=by
 simp only[Nj,Gg,Tree.m]
 have h0:((a.length:Int) !=(a.length:Int))=false:=by simp
 rw[h0,cond_false]
 refine vC (P:=λv:Int=>0<=v/\v<=a.length) (R:=λb=>b=true) (μ:=H4 a a) (λv ⟨h1,h2⟩=>?_) _ _ ⟨by omega,by omega⟩ (Nat.lt_succ_self _)
 cases h:decide (v<(a.length:Int))
 ·rfl
 ·have h:=oY h
  have h3:(a.getD v.toNat (0:Int) !=a.getD v.toNat (0:Int))=false:=by simp
  rw[h3]
  have hw:i64.wrap (v+1)=v+1:=by rw[wrap_i64];omega
  simp only[cond_true,cond_false,hw]
  refine⟨⟨by omega,by omega⟩,?_⟩
  show(_:Nat)<_
  unfold H4
  omega
theorem xaV(p b:Int)(i:List Int)(h:(lT p b i).2=true):
    1<=p/\p<=32/\0<=b/\b<=64/\(lT p b i).1.Mem.length=(p*32).toNat/\(lT p b i).1={(lT 1 0 []).1 with Mem:=(lT p b i).1.Mem,B6:={(lT 1 0 []).1.B6 with ab:=wrap u32 b}}:=by
  simp only[lT,Hw,Tree.m]at h⊢
  cases h1:decide (p<1)<;>rw[h1]at h
  . cases h2:decide (p>32)<;>rw[h2]at h
    . cases h3:decide (b<0)<;>rw[h3]at h
      . cases h4:decide (b>64)<;>rw[h4]at h
        . cases h5:decide ((i.length:Int)>i64.wrap (p*32))<;>rw[h5]at h
          . have g1:=oN h1
            have g2:=oN h2
            have hw:i64.wrap (p*32)=p*32:=by rw[wrap_i64];omega
            refine⟨by omega,by omega,by have:=oN h3;omega,by have:=oN h4;omega,?_,rfl⟩
            have g5:=oN h5
            rw[hw]at g5
            simp only[cond_false,eu]
            simp only[Mb,Kr,Tree.m]
            rw[h1,h2,hw]
            simp only[cond_false,lA,List.length_take,List.length_drop,List.length_replicate]
            omega
          . simp at h
        . simp at h
      . simp at h
    . simp at h
  . simp at h
theorem y4(m:List Int)(p:Int)(h1:1<=p)(h2:p<=32)(h:m.length=(p*32).toNat):jX m=p:=by
 simp only[jX,Hx,Tree.m]
 have e:(m.length:Int)=p*32:=by omega
 rw[e,Int.mul_tmod_left,Int.mul_tdiv_cancel p (by decide)]
 have h3:decide (p*32>1024)=false:=dN (by omega)
 rw[h3]
 simp only[bne_self_eq_false,cond_false]
 rw[wrap_i64];omega
theorem qaW(m:List Int)(p b:Int)(h1:1<=p)(h2:p<=32)(tB:0<=b)(hb:b<=64)(h:m.length=(p*32).toNat)(M:bj)(hM:M={(lT 1 0 []).1 with Mem:=m,B6:={(lT 1 0 []).1.B6 with ab:=wrap u32 b}}):BO M=true/\Qb M:=by
 have hp:=y4 m p h1 h2 h
 have jy:M.Mem=m:=by rw[hM]
 have hu:u32.wrap b=b:=by rw[wrap_u32];omega
 have h0:(p==0)=false:=by simp;omega
 have Jav:Ab M=true:=by
  simp only[Ab,Hz,Tree.m]
  rw[jy]
  simp only[eu,hp]
  subst hM
  have c1:BL {D9:=[]}=true:=by kernel_rfl
  have c2:BM (lT 1 0 []).1.C1=true:=by kernel_rfl
  have c3:r3 {(lT 1 0 []).1.B6 with ab:=wrap u32 b} p=true:=by
   have:decide (u32.wrap b>64)=false:=dN (by omega)
   show(bif decide (u32.wrap b>64)then false else _)=true
   rw[this]
   kernel_rfl
  have c4:Ac (lT 1 0 []).1.D4 p=true:=by kernel_rfl
  have c5:BN (lT 1 0 []).1.B0 p=true:=by
   simp only[BN,JH,Tree.m]
   have:Ad (lT 1 0 []).1.B0.D1=0:=by kernel_rfl
   simp only[eu,this]
   split<;>first|(exact dY (by split<;>omega))|simp_all
  show(bif BL {D9:=[]}then _ else _)=true
  rw[c1]
  show(bif BM (lT 1 0 []).1.C1 then _ else _)=true
  rw[c2]
  simp only[cond_true,c3]
  show(bif Ac (lT 1 0 []).1.D4 p then _ else _)=true
  rw[c4]
  exact c5
 have hdp:Xy M:=by
  unfold Xy Tree.p Hz
  have su:M.B0=(lT 1 0 []).1.B0:=by rw[hM]
  have hbp:∀x,Qms M.B0 x:=λx=>by
   rw[su]
   exact bz (ck (uE (t:=EI _) (by delta EI;infer_instance)) (by kernel_rfl)) (ai λ_ _=>trivial)
  refine ai λx0 _=>ai λx1 _=>aa (λ_=>ai λx2 _=>aa (λ_=>ai λx3 _=>aa (λ_=>ai λx4 _=>aa (λ_=>bz (hbp _) (ai λ_ _=>trivial)) (λ_=>trivial)) (λ_=>trivial)) (λ_=>trivial)) (λ_=>trivial)
 constructor
 ·simp only[BO,K4,Tree.m]
  rw[jy]
  simp only[eu,hp,h0,cond_false,Jav]
  subst hM
  kernel_rfl
 ·unfold Qb Tree.p K4
  refine ai λx0 _=>?_
  iterate 7 refine aa (λ_=>trivial) λ_=>?_
  exact aa (λ_=>aa (λ_=>trivial) (λ_=>bz hdp (ai λ_ _=>trivial))) (λ_=>bz hdp (ai λ_ _=>trivial))

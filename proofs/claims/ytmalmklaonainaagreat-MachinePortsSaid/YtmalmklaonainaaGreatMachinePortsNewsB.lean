import Derived.Test.YtmalmklaonainaaGreatMachinePortsYz
import Derived.Test.YtmalmklaonainaaGreatMachinePortsCk
set_option maxRecDepth 100000
set_option linter.all false
namespace Go.Proofs.YtmalmklaonainaaGreat
open Go Go.GD
open Go.IntKind(wrap i64 u32 wrap_i64 wrap_u32)
theorem Qom(p:Int):Qec p:=by
 unfold Qec Tree.p Qet
 first
 | (refine w_br (λ_=>trivial) λh1=>w_br (λ_=>trivial) λh2=>w_cn ?_ trivial
    have h1:=oN h1
    have h2:=oN h2
    have hw:i64.wrap (p*32)=p*32:=by rw[wrap_i64];omega
    rw[hw]
    simp [Nat.blt,D.plain];omega)
theorem qao(p b:Int)(i:List Int)(h:(Q38 p b i).2=true):
    1<=p/\p<=32/\0<=b/\b<=64/\(Q38 p b i).1.Mem.length=(p*32).toNat/\(Q38 p b i).1={(Q38 1 0 []).1 with Mem:=(Q38 p b i).1.Mem,A9:={(Q38 1 0 []).1.A9 with Blocks:=wrap u32 b}}:=by
  simp only[Q38,Q8q,Tree.m]at h⊢
  cases h1:decide (p<1)<;>rw[h1]at h
  . cases h2:decide (p>32)<;>rw[h2]at h
    . cases h3:decide (b<0)<;>rw[h3]at h
      . cases h4:decide (b>64)<;>rw[h4]at h
        . cases h5:decide ((i.length:Int)>i64.wrap (p*32))<;>rw[h5]at h
          . have g1:=oN h1
            have g2:=oN h2
            have hw:i64.wrap (p*32)=p*32:=by rw[wrap_i64];omega
            refine⟨by omega,by omega,by have:=oN h3;omega,by have:=oN h4;omega,?_,rfl⟩
            have g5:=oN h5
            rw[hw]at g5
            simp only[cond_false,letv]
            simp only[Qy9,Qet,Tree.m]
            rw[h1,h2,hw]
            simp only[cond_false,lA,List.length_take,List.length_drop,List.length_replicate]
            omega
          . simp at h
        . simp at h
      . simp at h
    . simp at h
  . simp at h
theorem zL(m:List Int)(p:Int)(h1:1<=p)(h2:p<=32)(h:m.length=(p*32).toNat):Q0i m=p:=by
 simp only[Q0i,Q66,Tree.m]
 have e:(m.length:Int)=p*32:=by omega
 rw[e,Int.mul_tmod_left,Int.mul_tdiv_cancel p (by decide)]
 have h3:decide (p*32>1024)=false:=dN (by omega)
 rw[h3]
 simp only[bne_self_eq_false,cond_false]
 rw[wrap_i64];omega
theorem zao(m:List Int)(p b:Int)(h1:1<=p)(h2:p<=32)(hb0:0<=b)(hb:b<=64)(h:m.length=(p*32).toNat)(M:Q00)(hM:M={(Q38 1 0 []).1 with Mem:=m,A9:={(Q38 1 0 []).1.A9 with Blocks:=wrap u32 b}}):Q10 M=true/\Q3w M:=by
 have hp:=zL m p h1 h2 h
 have hmem:M.Mem=m:=by rw[hM]
 have hu:u32.wrap b=b:=by rw[wrap_u32];omega
 have h0:(p==0)=false:=by simp;omega
 have hdev:Q0l M=true:=by
   simp only[Q0l,Q19,Tree.m]
   rw[hmem]
   simp only[letv,hp]
   subst hM
   have c1:Q1r {C7:=[]}=true:=by kernel_rfl
   have c2:Q2w (Q38 1 0 []).1.A6=true:=by kernel_rfl
   have c3:Q11 {(Q38 1 0 []).1.A9 with Blocks:=wrap u32 b} p=true:=by
     have:decide (u32.wrap b>64)=false:=dN (by omega)
     show(bif decide (u32.wrap b>64) then false else _)=true
     rw[this]
     kernel_rfl
   have c4:Q44 (Q38 1 0 []).1.C2 p=true:=by kernel_rfl
   have c5:Q1y (Q38 1 0 []).1.A0 p=true:=by
     simp only[Q1y,Q2v,Tree.m]
     have:Q14 (Q38 1 0 []).1.A0.B8=0:=by kernel_rfl
     simp only[letv,this]
     split<;>first|(exact dY (by split<;>omega))|simp_all
   show(bif Q1r {C7:=[]} then _ else _)=true
   rw[c1]
   show(bif Q2w (Q38 1 0 []).1.A6 then _ else _)=true
   rw[c2]
   simp only[cond_true,c3]
   show(bif Q44 (Q38 1 0 []).1.C2 p then _ else _)=true
   rw[c4]
   exact c5
 have hdp:Q1z M:=by
   unfold Q1z Tree.p Q19
   have hb':M.A0=(Q38 1 0 []).1.A0:=by rw[hM]
   have hbp: ∀x,Q9e M.A0 x:=λx=>by
     rw[hb']
     exact w_an (ck (ckT (t:=Q1a _) (by delta Q1a;infer_instance)) (by kernel_rfl)) (w_lv λ_ _=>trivial)
   refine w_lv λx0 _=>w_lv λx1 _=>w_br (λ_=>w_lv λx2 _=>w_br (λ_=>w_lv λx3 _=>w_br (λ_=>w_lv λx4 _=>w_br (λ_=>w_an (hbp _) (w_lv λ_ _=>trivial)) (λ_=>trivial)) (λ_=>trivial)) (λ_=>trivial)) (λ_=>trivial)
 constructor
 . simp only[Q10,Q3h,Tree.m]
   rw[hmem]
   simp only[letv,hp,h0,cond_false,hdev]
   subst hM
   kernel_rfl
 . unfold Q3w Tree.p Q3h
   refine w_lv λx0 _=> ?_
   iterate 7 refine w_br (λ_=>trivial) λ_=> ?_
   exact w_br (λ_=>w_br (λ_=>trivial) (λ_=>w_an hdp (w_lv λ_ _=>trivial))) (λ_=>w_an hdp (w_lv λ_ _=>trivial))

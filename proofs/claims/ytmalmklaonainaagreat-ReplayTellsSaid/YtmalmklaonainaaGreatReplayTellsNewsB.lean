import Derived.Test.YtmalmklaonainaaGreatReplayTellsYz
import Derived.Test.YtmalmklaonainaaGreatReplayTellsCk
open Int renaming tmod->cX
set_option maxRecDepth 100000
set_option linter.all false
namespace Go.Proofs.YtmalmklaonainaaGreat
open Go Go.GD
theorem Z50{n k:Int}(hk:0<k)(hk2:k<=4611686018427387904):0<=Q3q n k/\Q3q n k<k:=by
 have h1:=Int.tmod_lt_of_pos n hk
 have h2:=Int.lt_tmod_of_pos n hk
 have he:Q3q n k=bif decide (cX n k<0) then IntKind.wrap .i64 (cX n k+k) else cX n k:=rfl
 rw[he]
 cases h:decide (cX n k<0)
 . have h:=oN h
   simp only[cond_false];omega
 . have h:=oY h
   simp only[cond_true]
   rw[IntKind.wrap_i64];omega
theorem Qes{n k:Int}(hk:k≠0):Q2z n k:=by
 exact w_cn (dY hk) (wB wL wL)
theorem zA:(Zdi.length:Int)=50:=by kernel_rfl
theorem zV(n:Int):Qib n:=by
 unfold Qib Tree.p Qno
 refine w_lv λx0 e0=>w_lv λx1 e1=>w_an ?_ (w_lv λx2 e2=>w_cn ?_ (w_an (Qes (by decide)) (w_lv λ_ _=>w_an (Qes (by decide)) (w_lv λ_ _=>w_an (Qes (by decide)) (w_lv λ_ _=>w_an (Qes (by decide)) (w_lv λ_ _=> ?_))))))
 . subst e0;rw[zA];exact Qes (by decide)
 . subst e0;rw[zA]at e2⊢
   have h:=Z50 (n:=x1) (k:=50) (by decide) (by decide)
   rw[<-e2]at h
   simpa using h
 . repeat'(first|exact trivial|refine w_br (λ_=> ?_) (λ_=> ?_))
theorem Zii(p:Int):Qgy p:=by
 unfold Qgy Tree.p Qj0
 first
 | (refine w_br (λ_=>trivial) λh1=>w_br (λ_=>trivial) λh2=>w_cn ?_ trivial
    have h1:=oN h1
    have h2:=oN h2
    have hw:IntKind.i64.wrap (p*32)=p*32:=by rw[IntKind.wrap_i64];omega
    rw[hw]
    simp [Nat.blt,D.plain];omega)
theorem Z9u(a:List Int)(ha:a.length<=1000000000000):Qgj a a=true:=by
 simp only[Qgj,Q93,Tree.m]
 have h0:((a.length:Int) !=(a.length:Int))=false:=by simp
 rw[h0,cond_false]
 refine xz (P:=λv:Int=>0<=v/\v<=a.length) (R:=λb=>b=true) (μ:=Q5b a a) (λv ⟨h1,h2⟩=> ?_) _ _ ⟨by omega,by omega⟩ (Nat.lt_succ_self _)
 cases h:decide (v<(a.length:Int))
 . rfl
 . have h:=oY h
   have h3:(a.getD v.toNat (0:Int) !=a.getD v.toNat (0:Int))=false:=by simp
   rw[h3]
   have hw:IntKind.i64.wrap (v+1)=v+1:=by rw[IntKind.wrap_i64];omega
   simp only[cond_true,cond_false,hw]
   refine⟨⟨by omega,by omega⟩,?_⟩
   show(_:Nat)<_
   unfold Q5b
   omega

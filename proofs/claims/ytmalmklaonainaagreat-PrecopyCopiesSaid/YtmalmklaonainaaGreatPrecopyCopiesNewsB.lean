/-
  A part of the proof.
-/
import Derived.Test.YtmalmklaonainaaGreatPrecopyCopiesYe
import Derived.Test.YtmalmklaonainaaGreatPrecopyCopiesCk
import Derived.SizedLaws
set_option maxRecDepth 100000
set_option linter.unusedVariables false
namespace Go.Proofs.YtmalmklaonainaaGreat
open Go Go.GD
theorem Qxv{n k:Int}(hk:0<k)(hk2:k≤4611686018427387904):0≤Q3d n k∧Q3d n k<k:=by
 have h1:=Int.tmod_lt_of_pos n hk
 have h2:=Int.lt_tmod_of_pos n hk
 have he:Q3d n k=bif decide (Int.tmod n k<0) then IntKind.wrap .i64 (Int.tmod n k+k) else Int.tmod n k:=rfl
 rw[he]
 cases h:decide (Int.tmod n k<0)
 · have h:=of_decide_eq_false h
   simp only[cond_false];omega
 · have h:=of_decide_eq_true h
   simp only[cond_true]
   rw[IntKind.wrap_i64];omega
theorem Qdn{n k:Int}(hk:k≠0):Q28 n k:=by
 exact w_cn (decide_eq_true hk) (wB wL wL)
theorem ops_len:(Z3z.length:Int)=50:=by kernel_rfl
theorem inst_pre(n:Int):Qc0 n:=by
 unfold Qc0 Tree.p Qgk
 refine w_lv λx0 e0=>w_lv λx1 e1=>w_an ?_ (w_lv λx2 e2=>w_cn ?_ (w_an (Qdn (by decide)) (w_lv λ_ _=>w_an (Qdn (by decide)) (w_lv λ_ _=>w_an (Qdn (by decide)) (w_lv λ_ _=>w_an (Qdn (by decide)) (w_lv λ_ _=> ?_))))))
 · subst e0;rw[ops_len];exact Qdn (by decide)
 · subst e0;rw[ops_len]at e2⊢
   have h:=Qxv (n:=x1) (k:=50) (by decide) (by decide)
   rw[←e2]at h
   simpa using h
 · repeat'(first|exact trivial|refine w_br (λ_=> ?_) (λ_=> ?_))
theorem Z8c(p:Int):Qek p:=by
 unfold Qek Tree.p Qkt
 first
 | (refine w_br (λ_=>trivial) λh1=>w_br (λ_=>trivial) λh2=>w_cn ?_ trivial
    have h1:=of_decide_eq_false h1
    have h2:=of_decide_eq_false h2
    have hw:IntKind.i64.wrap (p*32)=p*32:=by rw[IntKind.wrap_i64];omega
    rw[hw]
    simp [Nat.blt,D.plain];omega)
end Go.Proofs.YtmalmklaonainaaGreat

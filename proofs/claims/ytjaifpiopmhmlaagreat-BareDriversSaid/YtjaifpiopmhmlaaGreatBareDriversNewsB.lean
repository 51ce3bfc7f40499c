/-
  A part of the proof.
-/
import Derived.Test.YtjaifpiopmhmlaaGreatBareDriversYe
import Derived.Test.YtjaifpiopmhmlaaGreatBareDriversCk
import Derived.SizedLaws
set_option maxRecDepth 100000
set_option linter.unusedVariables false
namespace Go.Proofs.YtjaifpiopmhmlaaGreat
open Go Go.GD
theorem Qtm{n k:Int}(hk:0<k)(hk2:k≤4611686018427387904):0≤Q65 n k∧Q65 n k<k:=by
 have h1:=Int.tmod_lt_of_pos n hk
 have h2:=Int.lt_tmod_of_pos n hk
 have he:Q65 n k=bif decide (Int.tmod n k<0) then IntKind.wrap .i64 (Int.tmod n k+k) else Int.tmod n k:=rfl
 rw[he]
 cases h:decide (Int.tmod n k<0)
 · have h:=of_decide_eq_false h
   simp only[cond_false];omega
 · have h:=of_decide_eq_true h
   simp only[cond_true]
   rw[IntKind.wrap_i64];omega
theorem Z2u{n k:Int}(hk:k≠0):Q2y n k:=by
 exact w_cn (decide_eq_true hk) (wB wL wL)
end Go.Proofs.YtjaifpiopmhmlaaGreat

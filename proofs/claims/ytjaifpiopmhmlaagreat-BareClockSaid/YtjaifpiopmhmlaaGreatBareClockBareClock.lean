/-
  PROVED: 'Rows.BareClockSaid': whatever the input: vmfleetlaw13.BareClock returns true, and each argument reads behind the call as it read before. No condition.
-/
import Derived.Test.YtjaifpiopmhmlaaGreatRows
import Derived.WalkKit
import Derived.ProofKit
import Derived.OpenShut
import Derived.ShutString
import Derived.ChangeOld
import Derived.Below
import Derived.SizedLaws
import Derived.Test.YtjaifpiopmhmlaaGreatBareClockLaw
import Derived.Test.YtjaifpiopmhmlaaGreatBareClockFacts
import Derived.Test.YtjaifpiopmhmlaaGreatBareClockFin2
set_option linter.unusedVariables false
namespace Go.Proofs.YtjaifpiopmhmlaaGreat.bareClock
open Go Go.GD Go.ChangeShapes Go.WideShapes Go.ChangeAt Go.RowKit
theorem own:ownKnob Tryz.prog.godebug=none:=by kernel_rfl
theorem laidOut:laidOutB Tryz.prog=true:=by kernel_rfl
def sig:List (Bool×List STy):=[(false,[.int .u32]),(false,[.int .u64])]
theorem sigOK:SigOK Tryz.prog 8 Tryz.f9.params.toList sig:=by
 rw[Tryz.params9]
 exact⟨by kernel_rfl,by kernel_rfl,by kernel_rfl,of_decide_eq_true (by kernel_rfl),⟨by kernel_rfl,by kernel_rfl,by kernel_rfl,of_decide_eq_true (by kernel_rfl),trivial⟩⟩
theorem called(Ds:List D)(h:FitA sig Ds):Q3g Tryz.prog 9 Ds [] (.bool true) []:=by
 obtain⟨d1,Ds,rfl,h1,h⟩:=Z6u h
 obtain⟨d2,Ds,rfl,h2,h⟩:=Z6u h
 obtain rfl:=fitA_nil h
 obtain⟨n,rfl,b1⟩:=fit_int (Z79 h1)
 obtain⟨at0,rfl,b2⟩:=fit_int (Z79 h2)
 obtain⟨g1,g2⟩:=clocks n at0 b2.1
 have:=(Qmu.absW rfl [.int .u32 n, .int .u64 at0] [] _ Bool (Qe0 n at0) (λX=> .bool X) (λX=>[]) (by rfl) g1).1
 rw[g2]at this
 exact this
set_option maxRecDepth 100000 in
theorem lifted(os:Os)(started:os.Started)(H:Type)(enc:TypeId×Value→H):
   ReturnsInHanded {} Tryz.checked os 9 .any (Rows.bareClockSpec.pre6 enc Tryz.prog Tryz.f9 Rows.bareClockRow.domain false) (Rows.bareClockSpec.post enc Tryz.prog Tryz.f9 false true false false):=by
 refine returnsInHanded_of_change_sized (C:=Tryz.checked) own started (by kernel_rfl) Tryz.func9
   (ChangeSpec.witness6 (enc:=enc) (C:=Tryz.checked) false ⟨#[], #[.int .u32 0, .int .u64 0],[]⟩ 8 (by kernel_rfl) (by kernel_rfl) (by kernel_rfl) (by kernel_rfl)) ?_
 intro W base args ds gs before hval0 hW hcnd hsz _
 exact Z8m laidOut sigOK (by kernel_rfl) Tryz.underlying4 rfl (λds hd=>by match ds,hd with|[d0,d1],_=>exact⟨rfl,rfl,rfl⟩) called W base args ds gs before hval0 hW hsz
theorem named:Tryz.pinned.checked.prog.funcNamed Rows.bareClockRow.func=some 9:=by kernel_rfl
theorem inst:Tryz.f9.isInstance Tryz.pinned.checked.prog Rows.bareClockRow.origin Rows.bareClockRow.targs:=of_decide_eq_true (by kernel_rfl)
theorem wrap:Tryz.f9.isWrapper Tryz.pinned.checked.prog Rows.bareClockRow.wrapper Rows.bareClockRow.mainSum:=by unfold Func.isWrapper;first|(rw[if_pos (by decide+kernel)];kernel_rfl)|(rw[if_neg (by decide+kernel)];exact⟨rfl,rfl⟩)
theorem over:Rows.bareClockRow.holds Tryz.pinned (OpenSpec.ofChange Rows.bareClockSpec):=
 OpenClaim.holds_of_wide 9 Tryz.f9 rfl rfl rfl rfl rfl rfl rfl ⟨rfl,rfl,rfl,rfl,rfl⟩ rfl rfl rfl rfl rfl named Tryz.func9 facts inst wrap (λos started H enc _=>lifted os started H enc)
theorem proved:Rows.BareClockSaid:=over
#print axioms proved
end Go.Proofs.YtjaifpiopmhmlaaGreat.bareClock

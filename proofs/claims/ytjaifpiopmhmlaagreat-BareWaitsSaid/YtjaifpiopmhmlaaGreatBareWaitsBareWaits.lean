/-
  PROVED: 'Rows.BareWaitsSaid': whatever the input: vmfleetlaw13.BareWaits returns true, and each argument reads behind the call as it read before. No condition.
-/
import Derived.Test.YtjaifpiopmhmlaaGreatRows
import Derived.WalkKit
import Derived.ProofKit
import Derived.OpenShut
import Derived.ShutString
import Derived.ChangeOld
import Derived.Below
import Derived.SizedLaws
import Derived.Test.YtjaifpiopmhmlaaGreatBareWaitsLaw
import Derived.Test.YtjaifpiopmhmlaaGreatBareWaitsFacts
import Derived.Test.YtjaifpiopmhmlaaGreatBareWaitsFin2
set_option linter.unusedVariables false
namespace Go.Proofs.YtjaifpiopmhmlaaGreat.bareWaits
open Go Go.GD Go.ChangeShapes Go.WideShapes Go.ChangeAt Go.RowKit
theorem own:ownKnob Tryz.prog.godebug=none:=by kernel_rfl
theorem laidOut:laidOutB Tryz.prog=true:=by kernel_rfl
def sig:List (Bool×List STy):=[(false,[.int .u8]),(false,[.int .u64])]
theorem sigOK:SigOK Tryz.prog 8 Tryz.f8.params.toList sig:=by
 rw[Tryz.params8]
 exact⟨by kernel_rfl,by kernel_rfl,by kernel_rfl,of_decide_eq_true (by kernel_rfl),⟨by kernel_rfl,by kernel_rfl,by kernel_rfl,of_decide_eq_true (by kernel_rfl),trivial⟩⟩
theorem called(Ds:List D)(h:FitA sig Ds):Q3m Tryz.prog 8 Ds [] (.bool true) []:=by
 obtain⟨d1,Ds,rfl,h1,h⟩:=Z7z h
 obtain⟨d2,Ds,rfl,h2,h⟩:=Z7z h
 obtain rfl:=fitA_nil h
 obtain⟨key,rfl,b1⟩:=fit_int (Z8k h1)
 obtain⟨more,rfl,b2⟩:=fit_int (Z8k h2)
 obtain⟨g1,g2⟩:=waits key more b1.1 b1.2 b2.1
 have:=(Qm2.absW rfl [.int .u8 key, .int .u64 more] [] _ Bool (Qep key more) (λX=> .bool X) (λX=>[]) (by rfl) g1).1
 rw[g2]at this
 exact this
set_option maxRecDepth 100000 in
theorem lifted(os:Os)(started:os.Started)(H:Type)(enc:TypeId×Value→H):
   ReturnsInHanded {} Tryz.checked os 8 .any (Rows.bareWaitsSpec.pre6 enc Tryz.prog Tryz.f8 Rows.bareWaitsRow.domain false) (Rows.bareWaitsSpec.post enc Tryz.prog Tryz.f8 false true false false):=by
 refine returnsInHanded_of_change_sized (C:=Tryz.checked) own started (by kernel_rfl) Tryz.func8
   (ChangeSpec.witness6 (enc:=enc) (C:=Tryz.checked) false ⟨#[], #[.int .u8 0, .int .u64 0],[]⟩ 8 (by kernel_rfl) (by kernel_rfl) (by kernel_rfl) (by kernel_rfl)) ?_
 intro W base args ds gs before hval0 hW hcnd hsz _
 exact Za1 laidOut sigOK (by kernel_rfl) Tryz.underlying4 rfl (λds hd=>by match ds,hd with|[d0,d1],_=>exact⟨rfl,rfl,rfl⟩) called W base args ds gs before hval0 hW hsz
theorem named:Tryz.pinned.checked.prog.funcNamed Rows.bareWaitsRow.func=some 8:=by kernel_rfl
theorem inst:Tryz.f8.isInstance Tryz.pinned.checked.prog Rows.bareWaitsRow.origin Rows.bareWaitsRow.targs:=of_decide_eq_true (by kernel_rfl)
theorem wrap:Tryz.f8.isWrapper Tryz.pinned.checked.prog Rows.bareWaitsRow.wrapper Rows.bareWaitsRow.mainSum:=by unfold Func.isWrapper;first|(rw[if_pos (by decide+kernel)];kernel_rfl)|(rw[if_neg (by decide+kernel)];exact⟨rfl,rfl⟩)
theorem over:Rows.bareWaitsRow.holds Tryz.pinned (OpenSpec.ofChange Rows.bareWaitsSpec):=
 OpenClaim.holds_of_wide 8 Tryz.f8 rfl rfl rfl rfl rfl rfl rfl ⟨rfl,rfl,rfl,rfl,rfl⟩ rfl rfl rfl rfl rfl named Tryz.func8 facts inst wrap (λos started H enc _=>lifted os started H enc)
theorem proved:Rows.BareWaitsSaid:=over
#print axioms proved
end Go.Proofs.YtjaifpiopmhmlaaGreat.bareWaits

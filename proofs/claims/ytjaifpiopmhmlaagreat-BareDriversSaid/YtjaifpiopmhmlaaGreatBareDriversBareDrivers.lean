/-
  PROVED: 'Rows.BareDriversSaid': whatever the input: vmfleetlaw13.BareDrivers returns true, and each argument reads behind the call as it read before. No condition.
-/
import Derived.Test.YtjaifpiopmhmlaaGreatRows
import Derived.WalkKit
import Derived.ProofKit
import Derived.OpenShut
import Derived.ShutString
import Derived.ChangeOld
import Derived.Below
import Derived.SizedLaws
import Derived.Test.YtjaifpiopmhmlaaGreatBareDriversLaw
import Derived.Test.YtjaifpiopmhmlaaGreatBareDriversFacts
import Derived.Test.YtjaifpiopmhmlaaGreatBareDriversFin2
set_option linter.unusedVariables false
namespace Go.Proofs.YtjaifpiopmhmlaaGreat.bareDrivers
open Go Go.GD Go.ChangeShapes Go.WideShapes Go.ChangeAt Go.RowKit
theorem own:ownKnob Tryz.prog.godebug=none:=by kernel_rfl
theorem laidOut:laidOutB Tryz.prog=true:=by kernel_rfl
def sig:List (Bool×List STy):=[(false,[.sl [.int .u8]]),(false,[.sl [.int .i64]])]
theorem sigOK:SigOK Tryz.prog 8 Tryz.f6.params.toList sig:=by
 rw[Tryz.params6]
 exact⟨by kernel_rfl,by kernel_rfl,by kernel_rfl,of_decide_eq_true (by kernel_rfl),⟨by kernel_rfl,by kernel_rfl,by kernel_rfl,of_decide_eq_true (by kernel_rfl),trivial⟩⟩
theorem called(Ds:List D)(h:FitA sig Ds):Q3q Tryz.prog 6 Ds [] (.bool true) []:=by
 obtain⟨d1,Ds,rfl,h1,h⟩:=Z7e h
 obtain⟨d2,Ds,rfl,h2,h⟩:=Z7e h
 obtain rfl:=fitA_nil h
 obtain⟨keys,rfl,r1,b1⟩:=Z8k (Z7w h1)
 obtain⟨gaps,rfl,r2,_⟩:=Z8k (Z7w h2)
 obtain⟨g1,g2⟩:=drivers keys gaps b1 r2
 have:=(Qku.absW rfl [.sl 1 (.ints .u8 keys) false, .sl 1 (.ints .i64 gaps) false] [] _ Bool (Qau keys gaps) (λX=> .bool X) (λX=>[]) (by rfl) g1).1
 rw[g2]at this
 exact this
set_option maxRecDepth 100000 in
theorem lifted(os:Os)(started:os.Started)(H:Type)(enc:TypeId×Value→H):
   ReturnsInHanded {} Tryz.checked os 6 .any (Rows.bareDriversSpec.pre6 enc Tryz.prog Tryz.f6 Rows.bareDriversRow.domain false) (Rows.bareDriversSpec.post enc Tryz.prog Tryz.f6 false true false false):=by
 refine returnsInHanded_of_change_sized (C:=Tryz.checked) own started (by kernel_rfl) Tryz.func6
   (ChangeSpec.witness6 (enc:=enc) (C:=Tryz.checked) false ⟨#[], #[.slice none 0 0, .slice none 0 0],[]⟩ 8 (by kernel_rfl) (by kernel_rfl) (by kernel_rfl) (by kernel_rfl)) ?_
 intro W base args ds gs before hval0 hW hcnd hsz _
 exact Zav laidOut sigOK (by kernel_rfl) Tryz.underlying4 rfl (λds hd=>by match ds,hd with|[d0,d1],_=>exact⟨rfl,rfl,rfl⟩) called W base args ds gs before hval0 hW hsz
theorem named:Tryz.pinned.checked.prog.funcNamed Rows.bareDriversRow.func=some 6:=by kernel_rfl
theorem inst:Tryz.f6.isInstance Tryz.pinned.checked.prog Rows.bareDriversRow.origin Rows.bareDriversRow.targs:=of_decide_eq_true (by kernel_rfl)
theorem wrap:Tryz.f6.isWrapper Tryz.pinned.checked.prog Rows.bareDriversRow.wrapper Rows.bareDriversRow.mainSum:=by unfold Func.isWrapper;first|(rw[if_pos (by decide+kernel)];kernel_rfl)|(rw[if_neg (by decide+kernel)];exact⟨rfl,rfl⟩)
theorem over:Rows.bareDriversRow.holds Tryz.pinned (OpenSpec.ofChange Rows.bareDriversSpec):=
 OpenClaim.holds_of_wide 6 Tryz.f6 rfl rfl rfl rfl rfl rfl rfl ⟨rfl,rfl,rfl,rfl,rfl⟩ rfl rfl rfl rfl rfl named Tryz.func6 facts inst wrap (λos started H enc _=>lifted os started H enc)
theorem proved:Rows.BareDriversSaid:=over
#print axioms proved
end Go.Proofs.YtjaifpiopmhmlaaGreat.bareDrivers

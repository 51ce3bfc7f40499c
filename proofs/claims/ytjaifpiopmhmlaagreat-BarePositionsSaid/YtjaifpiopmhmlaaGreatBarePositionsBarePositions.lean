/-
  PROVED: 'Rows.BarePositionsSaid': whatever the input: vmfleetlaw13.BarePositions returns true, and each argument reads behind the call as it read before. No condition.
-/
import Derived.Test.YtjaifpiopmhmlaaGreatRows
import Derived.WalkKit
import Derived.ProofKit
import Derived.OpenShut
import Derived.ShutString
import Derived.ChangeOld
import Derived.Below
import Derived.SizedLaws
import Derived.Test.YtjaifpiopmhmlaaGreatBarePositionsLaw
import Derived.Test.YtjaifpiopmhmlaaGreatBarePositionsFacts
import Derived.Test.YtjaifpiopmhmlaaGreatBarePositionsFin2
set_option linter.unusedVariables false
namespace Go.Proofs.YtjaifpiopmhmlaaGreat.barePositions
open Go Go.GD Go.ChangeShapes Go.WideShapes Go.ChangeAt Go.RowKit
theorem own:ownKnob Tryz.prog.godebug=none:=by kernel_rfl
theorem laidOut:laidOutB Tryz.prog=true:=by kernel_rfl
def sig:List (Bool×List STy):=[(false,[.int .i64]),(false,[.sl [.int .i64]]),(false,[.sl [.int .i64]])]
theorem sigOK:SigOK Tryz.prog 8 Tryz.f5.params.toList sig:=by
 rw[Tryz.params5]
 exact⟨by kernel_rfl,by kernel_rfl,by kernel_rfl,of_decide_eq_true (by kernel_rfl),⟨by kernel_rfl,by kernel_rfl,by kernel_rfl,of_decide_eq_true (by kernel_rfl),⟨by kernel_rfl,by kernel_rfl,by kernel_rfl,of_decide_eq_true (by kernel_rfl),trivial⟩⟩⟩
theorem called(Ds:List D)(h:FitA sig Ds):Q41 Tryz.prog 5 Ds [] (.bool true) []:=by
 obtain⟨d1,Ds,rfl,h1,h⟩:=Z7s h
 obtain⟨d2,Ds,rfl,h2,h⟩:=Z7s h
 obtain⟨d3,Ds,rfl,h3,h⟩:=Z7s h
 obtain rfl:=fitA_nil h
 obtain⟨kind,rfl,b1⟩:=fit_int (Z6v h1)
 obtain⟨l,rfl,r2,_⟩:=Zhd (Z6v h2)
 obtain⟨acts,rfl,r3,_⟩:=Zhd (Z6v h3)
 obtain⟨g1,g2⟩:=positions kind l acts r2
 have:=(Qlz.absW rfl [.int .i64 kind, .sl 1 (.ints .i64 l) false, .sl 1 (.ints .i64 acts) false] [] _ Bool (Qal kind l acts) (λX=> .bool X) (λX=>[]) (by rfl) g1).1
 rw[g2]at this
 exact this
set_option maxRecDepth 100000 in
theorem lifted(os:Os)(started:os.Started)(H:Type)(enc:TypeId×Value→H):
   ReturnsInHanded {} Tryz.checked os 5 .any (Rows.barePositionsSpec.pre6 enc Tryz.prog Tryz.f5 Rows.barePositionsRow.domain false) (Rows.barePositionsSpec.post enc Tryz.prog Tryz.f5 false true false false):=by
 refine returnsInHanded_of_change_sized (C:=Tryz.checked) own started (by kernel_rfl) Tryz.func5
   (ChangeSpec.witness6 (enc:=enc) (C:=Tryz.checked) false ⟨#[], #[.int .i64 0, .slice none 0 0, .slice none 0 0],[]⟩ 8 (by kernel_rfl) (by kernel_rfl) (by kernel_rfl) (by kernel_rfl)) ?_
 intro W base args ds gs before hval0 hW hcnd hsz _
 exact Zkb laidOut sigOK (by kernel_rfl) Tryz.underlying4 rfl (λds hd=>by match ds,hd with|[d0,d1,d2],_=>exact⟨rfl,rfl,rfl⟩) called W base args ds gs before hval0 hW hsz
theorem named:Tryz.pinned.checked.prog.funcNamed Rows.barePositionsRow.func=some 5:=by kernel_rfl
theorem inst:Tryz.f5.isInstance Tryz.pinned.checked.prog Rows.barePositionsRow.origin Rows.barePositionsRow.targs:=of_decide_eq_true (by kernel_rfl)
theorem wrap:Tryz.f5.isWrapper Tryz.pinned.checked.prog Rows.barePositionsRow.wrapper Rows.barePositionsRow.mainSum:=by unfold Func.isWrapper;first|(rw[if_pos (by decide+kernel)];kernel_rfl)|(rw[if_neg (by decide+kernel)];exact⟨rfl,rfl⟩)
theorem over:Rows.barePositionsRow.holds Tryz.pinned (OpenSpec.ofChange Rows.barePositionsSpec):=
 OpenClaim.holds_of_wide 5 Tryz.f5 rfl rfl rfl rfl rfl rfl rfl ⟨rfl,rfl,rfl,rfl,rfl⟩ rfl rfl rfl rfl rfl named Tryz.func5 facts inst wrap (λos started H enc _=>lifted os started H enc)
theorem proved:Rows.BarePositionsSaid:=over
#print axioms proved
end Go.Proofs.YtjaifpiopmhmlaaGreat.barePositions

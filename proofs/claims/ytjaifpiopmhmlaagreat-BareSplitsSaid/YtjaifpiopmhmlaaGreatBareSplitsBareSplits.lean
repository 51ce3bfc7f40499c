/-
  PROVED: 'Rows.BareSplitsSaid': whatever the input: vmfleetlaw13.BareSplits returns true, and each argument reads behind the call as it read before. No condition.
-/
import Derived.Test.YtjaifpiopmhmlaaGreatRows
import Derived.WalkKit
import Derived.ProofKit
import Derived.OpenShut
import Derived.ShutString
import Derived.ChangeOld
import Derived.Below
import Derived.SizedLaws
import Derived.Test.YtjaifpiopmhmlaaGreatBareSplitsLaw
import Derived.Test.YtjaifpiopmhmlaaGreatBareSplitsFacts
import Derived.Test.YtjaifpiopmhmlaaGreatBareSplitsFin2
set_option linter.all false
namespace Go.Proofs.YtjaifpiopmhmlaaGreat.bareSplits
open Go Go.GD Go.ChangeShapes Go.WideShapes Go.ChangeAt Go.RowKit
theorem own:ownKnob Tryz.prog.godebug=none:=by kernel_rfl
theorem laidOut:laidOutB Tryz.prog=true:=by kernel_rfl
def sig:List (Bool×List STy):=[(false,[.int .i64]),(false,[.sl [.int .i64]]),(false,[.sl [.int .i64]]),(false,[.int .u64])]
theorem sigOK:SigOK Tryz.prog 8 Tryz.f4.params.toList sig:=by
 rw[Tryz.params4]
 exact⟨by kernel_rfl,by kernel_rfl,by kernel_rfl,of_decide_eq_true (by kernel_rfl),⟨by kernel_rfl,by kernel_rfl,by kernel_rfl,of_decide_eq_true (by kernel_rfl),⟨by kernel_rfl,by kernel_rfl,by kernel_rfl,of_decide_eq_true (by kernel_rfl),⟨by kernel_rfl,by kernel_rfl,by kernel_rfl,of_decide_eq_true (by kernel_rfl),trivial⟩⟩⟩⟩
theorem called(Ds:List D)(h:FitA sig Ds):Q3y Tryz.prog 4 Ds [] (.bool true) []:=by
 obtain⟨d1,Ds,rfl,h1,h⟩:=Qy7 h
 obtain⟨d2,Ds,rfl,h2,h⟩:=Qy7 h
 obtain⟨d3,Ds,rfl,h3,h⟩:=Qy7 h
 obtain⟨d4,Ds,rfl,h4,h⟩:=Qy7 h
 obtain rfl:=zR h
 obtain⟨kind,rfl,b1⟩:=yu (Qy1 h1)
 obtain⟨l,rfl,r2,_⟩:=Zi5 (Qy1 h2)
 obtain⟨acts,rfl,r3,_⟩:=Zi5 (Qy1 h3)
 obtain⟨at0,rfl,b4⟩:=yu (Qy1 h4)
 obtain⟨g1,g2⟩:=splits kind l acts at0 b4.1 r2
 have:=(Qq5.absW rfl [.int .i64 kind, .sl 1 (.ints .i64 l) false, .sl 1 (.ints .i64 acts) false, .int .u64 at0] [] _ Bool (Qfh kind l acts at0) (λX=> .bool X) (λX=>[]) (by rfl) g1).1
 rw[g2]at this
 exact this
set_option maxRecDepth 100000 in
theorem lifted(os:Os)(started:os.Started)(H:Type)(enc:TypeId×Value->H):
   ReturnsInHanded {} Tryz.checked os 4 .any (Rows.bareSplitsSpec.pre6 enc Tryz.prog Tryz.f4 Rows.bareSplitsRow.domain false) (Rows.bareSplitsSpec.post enc Tryz.prog Tryz.f4 false true false false):=by
 refine returnsInHanded_of_change_sized (C:=Tryz.checked) own started (by kernel_rfl) Tryz.func4
   (ChangeSpec.witness6 (enc:=enc) (C:=Tryz.checked) false ⟨#[], #[.int .i64 0, .slice none 0 0, .slice none 0 0, .int .u64 0],[]⟩ 8 (by kernel_rfl) (by kernel_rfl) (by kernel_rfl) (by kernel_rfl)) ?_
 intro W base args ds gs before hval0 hW hcnd hsz _
 exact Zl8 laidOut sigOK (by kernel_rfl) Tryz.underlying4 rfl (λds hd=>by match ds,hd with|[d0,d1,d2,d3],_=>exact⟨rfl,rfl,rfl⟩) called W base args ds gs before hval0 hW hsz
theorem named:Tryz.pinned.checked.prog.funcNamed Rows.bareSplitsRow.func=some 4:=by kernel_rfl
theorem inst:Tryz.f4.isInstance Tryz.pinned.checked.prog Rows.bareSplitsRow.origin Rows.bareSplitsRow.targs:=of_decide_eq_true (by kernel_rfl)
theorem wrap:Tryz.f4.isWrapper Tryz.pinned.checked.prog Rows.bareSplitsRow.wrapper Rows.bareSplitsRow.mainSum:=by unfold Func.isWrapper;first|(rw[if_pos (by decide+kernel)];kernel_rfl)|(rw[if_neg (by decide+kernel)];exact⟨rfl,rfl⟩)
theorem over:Rows.bareSplitsRow.holds Tryz.pinned (OpenSpec.ofChange Rows.bareSplitsSpec):=
 OpenClaim.holds_of_wide 4 Tryz.f4 rfl rfl rfl rfl rfl rfl rfl ⟨rfl,rfl,rfl,rfl,rfl⟩ rfl rfl rfl rfl rfl named Tryz.func4 facts inst wrap (λos started H enc _=>lifted os started H enc)
theorem proved:Rows.BareSplitsSaid:=over
#print axioms proved
end Go.Proofs.YtjaifpiopmhmlaaGreat.bareSplits

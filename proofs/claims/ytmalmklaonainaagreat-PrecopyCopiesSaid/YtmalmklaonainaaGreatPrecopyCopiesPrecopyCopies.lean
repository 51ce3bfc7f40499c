/-
  PROVED: 'Rows.PrecopyCopiesSaid': whatever the input: vmfleetlaw30.PrecopyCopies returns true, and each argument reads behind the call as it read before. No condition.
-/
import Derived.Test.YtmalmklaonainaaGreatRows
import Derived.WalkKit
import Derived.ProofKit
import Derived.OpenShut
import Derived.ShutString
import Derived.ChangeOld
import Derived.Below
import Derived.SizedLaws
import Derived.Test.YtmalmklaonainaaGreatPrecopyCopiesLaw
import Derived.Test.YtmalmklaonainaaGreatPrecopyCopiesFacts
import Derived.Test.YtmalmklaonainaaGreatPrecopyCopiesFin2
set_option linter.unusedVariables false
namespace Go.Proofs.YtmalmklaonainaaGreat.precopyCopies
open Go Go.GD Go.ChangeShapes Go.WideShapes Go.ChangeAt Go.RowKit
theorem own:ownKnob Tryz.prog.godebug=none:=by kernel_rfl
theorem laidOut:laidOutB Tryz.prog=true:=by kernel_rfl
def sig:List (Bool×List STy):=[(false,[.int .i64]),(false,[.sl [.int .i64]]),(false,[.sl [.int .i64]])]
theorem sigOK:SigOK Tryz.prog 8 Tryz.f6.params.toList sig:=by
 rw[Tryz.params6]
 exact⟨by kernel_rfl,by kernel_rfl,by kernel_rfl,of_decide_eq_true (by kernel_rfl),⟨by kernel_rfl,by kernel_rfl,by kernel_rfl,of_decide_eq_true (by kernel_rfl),⟨by kernel_rfl,by kernel_rfl,by kernel_rfl,of_decide_eq_true (by kernel_rfl),trivial⟩⟩⟩
theorem called(Ds:List D)(h:FitA sig Ds):Q2x Tryz.prog 6 Ds [] (.bool true) []:=by
 obtain⟨d1,Ds,rfl,h1,h⟩:=Z4j h
 obtain⟨d2,Ds,rfl,h2,h⟩:=Z4j h
 obtain⟨d3,Ds,rfl,h3,h⟩:=Z4j h
 obtain rfl:=fitA_nil h
 obtain⟨kind,rfl,_⟩:=fit_int (Z31 h1)
 obtain⟨prog,rfl,r2,_⟩:=Zcx (Z31 h2)
 obtain⟨rounds,rfl,_,_⟩:=Zcx (Z31 h3)
 obtain⟨g1,g2⟩:=Tree.pp (W:=λr=>r=true) (copies_w kind prog rounds r2)
 have:=(Qi6.absW rfl [.int .i64 kind, .sl 1 (.ints .i64 prog) false, .sl 1 (.ints .i64 rounds) false] [] _ Bool (Q7i kind prog rounds) (λX=> .bool X) (λX=>[]) (by rfl) g1).1
 rw[show Q7i kind prog rounds=true from g2]at this
 exact this
set_option maxRecDepth 100000 in
theorem lifted(os:Os)(started:os.Started)(H:Type)(enc:TypeId×Value→H):
   ReturnsInHanded {} Tryz.checked os 6 .any (Rows.precopyCopiesSpec.pre6 enc Tryz.prog Tryz.f6 Rows.precopyCopiesRow.domain false) (Rows.precopyCopiesSpec.post enc Tryz.prog Tryz.f6 false true false false):=by
 refine returnsInHanded_of_change_sized (C:=Tryz.checked) own started (by kernel_rfl) Tryz.func6
   (ChangeSpec.witness6 (enc:=enc) (C:=Tryz.checked) false ⟨#[], #[.int .i64 0, .slice none 0 0, .slice none 0 0],[]⟩ 8 (by kernel_rfl) (by kernel_rfl) (by kernel_rfl) (by kernel_rfl)) ?_
 intro W base args ds gs before hval0 hW hcnd hsz _
 exact Zft laidOut sigOK (by kernel_rfl) Tryz.underlying4 rfl (λds hd=>by match ds,hd with|[d0,d1,d2],_=>exact⟨rfl,rfl,rfl⟩) called W base args ds gs before hval0 hW hsz
theorem named:Tryz.pinned.checked.prog.funcNamed Rows.precopyCopiesRow.func=some 6:=by kernel_rfl
theorem inst:Tryz.f6.isInstance Tryz.pinned.checked.prog Rows.precopyCopiesRow.origin Rows.precopyCopiesRow.targs:=of_decide_eq_true (by kernel_rfl)
theorem wrap:Tryz.f6.isWrapper Tryz.pinned.checked.prog Rows.precopyCopiesRow.wrapper Rows.precopyCopiesRow.mainSum:=by unfold Func.isWrapper;first|(rw[if_pos (by decide+kernel)];kernel_rfl)|(rw[if_neg (by decide+kernel)];exact⟨rfl,rfl⟩)
theorem over:Rows.precopyCopiesRow.holds Tryz.pinned (OpenSpec.ofChange Rows.precopyCopiesSpec):=
 OpenClaim.holds_of_wide 6 Tryz.f6 rfl rfl rfl rfl rfl rfl rfl ⟨rfl,rfl,rfl,rfl,rfl⟩ rfl rfl rfl rfl rfl named Tryz.func6 facts inst wrap (λos started H enc _=>lifted os started H enc)
theorem proved:Rows.PrecopyCopiesSaid:=over
#print axioms proved
end Go.Proofs.YtmalmklaonainaaGreat.precopyCopies

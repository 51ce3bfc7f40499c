/-
  PROVED: 'Rows.BareSeesSaid': whatever the input: vmfleetlaw13.BareSees returns true, and each argument reads behind the call as it read before. No condition.
-/
import Derived.Test.YtjaifpiopmhmlaaGreatRows
import Derived.WalkKit
import Derived.ProofKit
import Derived.OpenShut
import Derived.ShutString
import Derived.ChangeOld
import Derived.Below
import Derived.SizedLaws
import Derived.Test.YtjaifpiopmhmlaaGreatBareSeesLaw
import Derived.Test.YtjaifpiopmhmlaaGreatBareSeesFacts
import Derived.Test.YtjaifpiopmhmlaaGreatBareSeesFin2
set_option linter.all false
namespace Go.Proofs.YtjaifpiopmhmlaaGreat.bareSees
open Go Go.GD Go.ChangeShapes Go.WideShapes Go.ChangeAt Go.RowKit
theorem own:ownKnob Tryz.prog.godebug=none:=by kernel_rfl
theorem laidOut:laidOutB Tryz.prog=true:=by kernel_rfl
def sig:List (Bool×List STy):=[(false,[.sl [.str]]),(false,[.sl [.int .i64, .int .u64, .int .u32, .str]]),(false,[.sl [.int .i64, .int .u64, .int .u32, .str]]),(false,[.int .i64]),(false,[.int .i64]),(false,[.bool])]
theorem sigOK:SigOK Tryz.prog 8 Tryz.f10.params.toList sig:=by
 rw[Tryz.params10]
 exact⟨by kernel_rfl,by kernel_rfl,by kernel_rfl,of_decide_eq_true (by kernel_rfl),⟨by kernel_rfl,by kernel_rfl,by kernel_rfl,of_decide_eq_true (by kernel_rfl),⟨by kernel_rfl,by kernel_rfl,by kernel_rfl,of_decide_eq_true (by kernel_rfl),⟨by kernel_rfl,by kernel_rfl,by kernel_rfl,of_decide_eq_true (by kernel_rfl),⟨by kernel_rfl,by kernel_rfl,by kernel_rfl,of_decide_eq_true (by kernel_rfl),⟨by kernel_rfl,by kernel_rfl,by kernel_rfl,of_decide_eq_true (by kernel_rfl),trivial⟩⟩⟩⟩⟩⟩
theorem called(Ds:List D)(h:FitA sig Ds):Q3l Tryz.prog 10 Ds [] (.bool true) []:=by
 obtain⟨d1,Ds,rfl,h1,h⟩:=Qog h
 obtain⟨d2,Ds,rfl,h2,h⟩:=Qog h
 obtain⟨d3,Ds,rfl,h3,h⟩:=Qog h
 obtain⟨d4,Ds,rfl,h4,h⟩:=Qog h
 obtain⟨d5,Ds,rfl,h5,h⟩:=Qog h
 obtain⟨d6,Ds,rfl,h6,h⟩:=Qog h
 obtain rfl:=xS h
 obtain⟨disk,hd,b1⟩:=qQ (Qow h1)
 obtain⟨a,ha,b2,ua⟩:=Zi5 (Qow h2)
 obtain⟨b,hb,b3,ub⟩:=Zi5 (Qow h3)
 obtain⟨n,rfl,_⟩:=Z18 (Qow h4)
 obtain⟨k,rfl,_⟩:=Z18 (Qow h5)
 obtain⟨made,rfl⟩:=zS (Qow h6)
 obtain⟨g1,g2⟩:=sees disk a b n k made b1 b2 b3 ua ub
 have:=(Qvi.absW rfl [.sl 1 (.recs .str disk) false, .sl 4 (.recs .apiOutput a) false, .sl 4 (.recs .apiOutput b) false, .int .i64 n, .int .i64 k, .bool made] [] _ Bool (Qj7 disk a b n k made) (λX=> .bool X) (λX=>[]) (by rfl) g1).1
 rw[g2]at this
 exact Q3l.sub (args':=[.sl 1 (.recs .str disk) false, .sl 4 (.recs .apiOutput a) false, .sl 4 (.recs .apiOutput b) false, .int .i64 n, .int .i64 k, .bool made]) ⟨hd,ha,hb,Sub1.rfl,Sub1.rfl,Sub1.rfl,trivial⟩ this
set_option maxRecDepth 100000 in
theorem lifted(os:Os)(started:os.Started)(H:Type)(enc:TypeId×Value->H):
   ReturnsInHanded {} Tryz.checked os 10 .any (Rows.bareSeesSpec.pre6 enc Tryz.prog Tryz.f10 Rows.bareSeesRow.domain false) (Rows.bareSeesSpec.post enc Tryz.prog Tryz.f10 false true false false):=by
 refine returnsInHanded_of_change_sized (C:=Tryz.checked) own started (by kernel_rfl) Tryz.func10
   (ChangeSpec.witness6 (enc:=enc) (C:=Tryz.checked) false ⟨#[], #[.slice none 0 0, .slice none 0 0, .slice none 0 0, .int .i64 0, .int .i64 0, .bool false],[]⟩ 8 (by kernel_rfl) (by kernel_rfl) (by kernel_rfl) (by kernel_rfl)) ?_
 intro W base args ds gs before hval0 hW hcnd hsz _
 exact Zly laidOut sigOK (by kernel_rfl) Tryz.underlying4 rfl (λds hd=>by match ds,hd with|[d0,d1,d2,d3,d4,d5],_=>exact⟨rfl,rfl,rfl⟩) called W base args ds gs before hval0 hW hsz
theorem named:Tryz.pinned.checked.prog.funcNamed Rows.bareSeesRow.func=some 10:=by kernel_rfl
theorem inst:Tryz.f10.isInstance Tryz.pinned.checked.prog Rows.bareSeesRow.origin Rows.bareSeesRow.targs:=of_decide_eq_true (by kernel_rfl)
theorem wrap:Tryz.f10.isWrapper Tryz.pinned.checked.prog Rows.bareSeesRow.wrapper Rows.bareSeesRow.mainSum:=by unfold Func.isWrapper;first|(rw[if_pos (by decide+kernel)];kernel_rfl)|(rw[if_neg (by decide+kernel)];exact⟨rfl,rfl⟩)
theorem over:Rows.bareSeesRow.holds Tryz.pinned (OpenSpec.ofChange Rows.bareSeesSpec):=
 OpenClaim.holds_of_wide 10 Tryz.f10 rfl rfl rfl rfl rfl rfl rfl ⟨rfl,rfl,rfl,rfl,rfl⟩ rfl rfl rfl rfl rfl named Tryz.func10 facts inst wrap (λos started H enc _=>lifted os started H enc)
theorem proved:Rows.BareSeesSaid:=over
#print axioms proved
end Go.Proofs.YtjaifpiopmhmlaaGreat.bareSees

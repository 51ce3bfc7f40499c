import Derived.Test.YtmalmklaonainaaGreatRows
import Derived.WalkKit
import Derived.ProofKit
import Derived.OpenShut
import Derived.ShutString
import Derived.ChangeOld
import Derived.Below
import Derived.SizedLaws
import Derived.Test.YtmalmklaonainaaGreatRecordCutsLaw
import Derived.Test.YtmalmklaonainaaGreatRecordCutsFacts
import Derived.Test.YtmalmklaonainaaGreatRecordCutsFin2
set_option linter.all false
namespace Go.Proofs.YtmalmklaonainaaGreat.recordCuts
open Go Go.GD Go.ChangeShapes Go.WideShapes Go.ChangeAt Go.RowKit
theorem own:ownKnob Tryz.prog.godebug=none:=by kernel_rfl
theorem laidOut:laidOutB Tryz.prog=true:=by kernel_rfl
def sig:List (Bool×List STy):=[(false,[.int .i64]),(false,[.sl [.int .i64]]),(false,[.sl [.int .i64]]),(false,[.sl [.bool]])]
theorem sigOK:SigOK Tryz.prog 8 Tryz.f7.params.toList sig:=by
 rw[Tryz.params7]
 exact⟨by kernel_rfl,by kernel_rfl,by kernel_rfl,of_decide_eq_true (by kernel_rfl),⟨by kernel_rfl,by kernel_rfl,by kernel_rfl,of_decide_eq_true (by kernel_rfl),⟨by kernel_rfl,by kernel_rfl,by kernel_rfl,of_decide_eq_true (by kernel_rfl),⟨by kernel_rfl,by kernel_rfl,by kernel_rfl,of_decide_eq_true (by kernel_rfl),trivial⟩⟩⟩⟩
theorem called(Ds:List D)(h:FitA sig Ds):Q4j Tryz.prog 7 Ds [] (.bool true) []:=by
 obtain⟨d1,Ds,rfl,h1,h⟩:=Qy5 h
 obtain⟨d2,Ds,rfl,h2,h⟩:=Qy5 h
 obtain⟨d3,Ds,rfl,h3,h⟩:=Qy5 h
 obtain⟨d4,Ds,rfl,h4,h⟩:=Qy5 h
 obtain rfl:=qR h
 obtain⟨kind,rfl,b1⟩:=xas (Qyj h1)
 obtain⟨l,rfl,r2,_⟩:=Zic (Qyj h2)
 obtain⟨acts,rfl,r3,_⟩:=Zic (Qyj h3)
 obtain⟨cs,rfl,r4⟩:=zc (Qyj h4)
 obtain⟨g1,g2⟩:=zaJ kind l acts cs r2
 have:=(Qpw.absW rfl [.int .i64 kind, .sl 1 (.ints .i64 l) false, .sl 1 (.ints .i64 acts) false, .sl 1 (.bools cs) false] [] _ Bool (Qfk kind l acts cs) (λX=> .bool X) (λX=>[]) (by rfl) g1).1
 rw[g2]at this
 exact this
set_option maxRecDepth 100000 in
theorem lifted(os:Os)(started:os.Started)(H:Type)(enc:TypeId×Value->H):
   ReturnsInHanded {} Tryz.checked os 7 .any (Rows.recordCutsSpec.pre6 enc Tryz.prog Tryz.f7 Rows.recordCutsRow.domain false) (Rows.recordCutsSpec.post enc Tryz.prog Tryz.f7 false true false false):=by
 refine returnsInHanded_of_change_sized (C:=Tryz.checked) own started (by kernel_rfl) Tryz.func7
   (ChangeSpec.witness6 (enc:=enc) (C:=Tryz.checked) false ⟨#[], #[.int .i64 0, .slice none 0 0, .slice none 0 0, .slice none 0 0],[]⟩ 8 (by kernel_rfl) (by kernel_rfl) (by kernel_rfl) (by kernel_rfl)) ?_
 intro W base args ds gs before hval0 hW hcnd hsz _
 exact Zkk laidOut sigOK (by kernel_rfl) Tryz.underlying4 rfl (λds hd=>by match ds,hd with|[d0,d1,d2,d3],_=>exact⟨rfl,rfl,rfl⟩) called W base args ds gs before hval0 hW hsz
theorem named:Tryz.pinned.checked.prog.funcNamed Rows.recordCutsRow.func=some 7:=by kernel_rfl
theorem inst:Tryz.f7.isInstance Tryz.pinned.checked.prog Rows.recordCutsRow.origin Rows.recordCutsRow.targs:=of_decide_eq_true (by kernel_rfl)
theorem wrap:Tryz.f7.isWrapper Tryz.pinned.checked.prog Rows.recordCutsRow.wrapper Rows.recordCutsRow.mainSum:=by unfold Func.isWrapper;first|(rw[if_pos (by decide+kernel)];kernel_rfl)|(rw[if_neg (by decide+kernel)];exact⟨rfl,rfl⟩)
theorem over:Rows.recordCutsRow.holds Tryz.pinned (OpenSpec.ofChange Rows.recordCutsSpec):=
 OpenClaim.holds_of_wide 7 Tryz.f7 rfl rfl rfl rfl rfl rfl rfl ⟨rfl,rfl,rfl,rfl,rfl⟩ rfl rfl rfl rfl rfl named Tryz.func7 facts inst wrap (λos started H enc _=>lifted os started H enc)
theorem proved:Rows.RecordCutsSaid:=over
#print axioms proved
end Go.Proofs.YtmalmklaonainaaGreat.recordCuts

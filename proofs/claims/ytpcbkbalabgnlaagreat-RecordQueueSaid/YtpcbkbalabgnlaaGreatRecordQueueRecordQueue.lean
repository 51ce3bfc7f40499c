/-
  PROVED: 'Rows.RecordQueueSaid': whatever the input: vmfleetlaw21.RecordQueue returns true, and each argument reads behind the call as it read before. No condition.
-/
import Derived.Test.YtpcbkbalabgnlaaGreatRows
import Derived.WalkKit
import Derived.ProofKit
import Derived.OpenShut
import Derived.ShutString
import Derived.ChangeOld
import Derived.Below
import Derived.SizedLaws
import Derived.Test.YtpcbkbalabgnlaaGreatRecordQueueLaw
import Derived.Test.YtpcbkbalabgnlaaGreatRecordQueueFacts
import Derived.Test.YtpcbkbalabgnlaaGreatRecordQueueFin2
set_option linter.unusedVariables false
namespace Go.Proofs.YtpcbkbalabgnlaaGreat.recordQueue
open Go Go.GD Go.ChangeShapes Go.WideShapes Go.ChangeAt Go.RowKit
theorem own:ownKnob Tryz.prog.godebug=none:=by kernel_rfl
theorem laidOut:laidOutB Tryz.prog=true:=by kernel_rfl
def sig:List (Bool×List STy):=[(false,[.int .i64]),(false,[.int .i64])]
theorem sigOK:SigOK Tryz.prog 8 Tryz.f8.params.toList sig:=by
 rw[Tryz.params8]
 exact⟨by kernel_rfl,by kernel_rfl,by kernel_rfl,of_decide_eq_true (by kernel_rfl),⟨by kernel_rfl,by kernel_rfl,by kernel_rfl,of_decide_eq_true (by kernel_rfl),trivial⟩⟩
theorem called(Ds:List D)(h:FitA sig Ds):Q4o Tryz.prog 8 Ds [] (.bool true) []:=by
 obtain⟨d1,Ds,rfl,h1,h⟩:=Z99 h
 obtain⟨d2,Ds,rfl,h2,h⟩:=Z99 h
 obtain rfl:=fitA_nil h
 obtain⟨many,rfl,b1⟩:=fit_int (Za h1)
 obtain⟨n,rfl,b2⟩:=fit_int (Za h2)
 obtain⟨g1,g2⟩:=queues many n
 have:=(Qlb.absW rfl [.int .i64 many, .int .i64 n] [] _ Bool (Qc2 many n) (λX=> .bool X) (λX=>[]) (by rfl) g1).1
 rw[g2]at this
 exact this
set_option maxRecDepth 100000 in
theorem lifted(os:Os)(started:os.Started)(H:Type)(enc:TypeId×Value→H):
   ReturnsInHanded {} Tryz.checked os 8 .any (Rows.recordQueueSpec.pre6 enc Tryz.prog Tryz.f8 Rows.recordQueueRow.domain false) (Rows.recordQueueSpec.post enc Tryz.prog Tryz.f8 false true false false):=by
 refine returnsInHanded_of_change_sized (C:=Tryz.checked) own started (by kernel_rfl) Tryz.func8
   (ChangeSpec.witness6 (enc:=enc) (C:=Tryz.checked) false ⟨#[], #[.int .i64 0, .int .i64 0],[]⟩ 8 (by kernel_rfl) (by kernel_rfl) (by kernel_rfl) (by kernel_rfl)) ?_
 intro W base args ds gs before hval0 hW hcnd hsz _
 exact Zaz laidOut sigOK (by kernel_rfl) Tryz.underlying4 rfl (λds hd=>by match ds,hd with|[d0,d1],_=>exact⟨rfl,rfl,rfl⟩) called W base args ds gs before hval0 hW hsz
theorem named:Tryz.pinned.checked.prog.funcNamed Rows.recordQueueRow.func=some 8:=by kernel_rfl
theorem inst:Tryz.f8.isInstance Tryz.pinned.checked.prog Rows.recordQueueRow.origin Rows.recordQueueRow.targs:=of_decide_eq_true (by kernel_rfl)
theorem wrap:Tryz.f8.isWrapper Tryz.pinned.checked.prog Rows.recordQueueRow.wrapper Rows.recordQueueRow.mainSum:=by unfold Func.isWrapper;first|(rw[if_pos (by decide+kernel)];kernel_rfl)|(rw[if_neg (by decide+kernel)];exact⟨rfl,rfl⟩)
theorem over:Rows.recordQueueRow.holds Tryz.pinned (OpenSpec.ofChange Rows.recordQueueSpec):=
 OpenClaim.holds_of_wide 8 Tryz.f8 rfl rfl rfl rfl rfl rfl rfl ⟨rfl,rfl,rfl,rfl,rfl⟩ rfl rfl rfl rfl rfl named Tryz.func8 facts inst wrap (λos started H enc _=>lifted os started H enc)
theorem proved:Rows.RecordQueueSaid:=over
#print axioms proved
end Go.Proofs.YtpcbkbalabgnlaaGreat.recordQueue

/-
  PROVED: 'Rows.RecordTimerSaid': whatever the input: vmfleetlaw21.RecordTimer returns true, and each argument reads behind the call as it read before. No condition.
-/
import Derived.Test.YtpcbkbalabgnlaaGreatRows
import Derived.WalkKit
import Derived.ProofKit
import Derived.OpenShut
import Derived.ShutString
import Derived.ChangeOld
import Derived.Below
import Derived.SizedLaws
import Derived.Test.YtpcbkbalabgnlaaGreatRecordTimerLaw
import Derived.Test.YtpcbkbalabgnlaaGreatRecordTimerFacts
import Derived.Test.YtpcbkbalabgnlaaGreatRecordTimerFin2
set_option linter.unusedVariables false
namespace Go.Proofs.YtpcbkbalabgnlaaGreat.recordTimer
open Go Go.GD Go.ChangeShapes Go.WideShapes Go.ChangeAt Go.RowKit
theorem own:ownKnob Tryz.prog.godebug=none:=by kernel_rfl
theorem laidOut:laidOutB Tryz.prog=true:=by kernel_rfl
def sig:List (Bool×List STy):=[(false,[.int .u32]),(false,[.int .i64]),(false,[.int .u32])]
theorem sigOK:SigOK Tryz.prog 8 Tryz.f6.params.toList sig:=by
 rw[Tryz.params6]
 exact⟨by kernel_rfl,by kernel_rfl,by kernel_rfl,of_decide_eq_true (by kernel_rfl),⟨by kernel_rfl,by kernel_rfl,by kernel_rfl,of_decide_eq_true (by kernel_rfl),⟨by kernel_rfl,by kernel_rfl,by kernel_rfl,of_decide_eq_true (by kernel_rfl),trivial⟩⟩⟩
theorem called(Ds:List D)(h:FitA sig Ds):Q4u Tryz.prog 6 Ds [] (.bool true) []:=by
 obtain⟨d1,Ds,rfl,h1,h⟩:=Qz0 h
 obtain⟨d2,Ds,rfl,h2,h⟩:=Qz0 h
 obtain⟨d3,Ds,rfl,h3,h⟩:=Qz0 h
 obtain rfl:=fitA_nil h
 obtain⟨deadline,rfl,b1⟩:=Z57 (Qzf h1)
 obtain⟨steps,rfl,b2⟩:=Z57 (Qzf h2)
 obtain⟨clock,rfl,b3⟩:=Z57 (Qzf h3)
 have uu: ∀{x:Int},(IntKind.u32.min≤x∧x≤IntKind.u32.max)→U x:=λh=>⟨h.1,by have:IntKind.u32.max=4294967295:=rfl;have:=h.2;omega⟩
 obtain⟨g1,g2⟩:=timers deadline steps clock (uu b1) ⟨b2.1,by have:IntKind.i64.max=9223372036854775807:=rfl;have:=b2.2;omega⟩ (uu b3)
 have:=(Qkv.absW rfl [.int .u32 deadline, .int .i64 steps, .int .u32 clock] [] _ Bool (Qcb deadline steps clock) (λX=> .bool X) (λX=>[]) (by rfl) g1).1
 rw[g2]at this
 exact this
set_option maxRecDepth 100000 in
theorem lifted(os:Os)(started:os.Started)(H:Type)(enc:TypeId×Value→H):
   ReturnsInHanded {} Tryz.checked os 6 .any (Rows.recordTimerSpec.pre6 enc Tryz.prog Tryz.f6 Rows.recordTimerRow.domain false) (Rows.recordTimerSpec.post enc Tryz.prog Tryz.f6 false true false false):=by
 refine returnsInHanded_of_change_sized (C:=Tryz.checked) own started (by kernel_rfl) Tryz.func6
   (ChangeSpec.witness6 (enc:=enc) (C:=Tryz.checked) false ⟨#[], #[.int .u32 0, .int .i64 0, .int .u32 0],[]⟩ 8 (by kernel_rfl) (by kernel_rfl) (by kernel_rfl) (by kernel_rfl)) ?_
 intro W base args ds gs before hval0 hW hcnd hsz _
 exact Zah laidOut sigOK (by kernel_rfl) Tryz.underlying4 rfl (λds hd=>by match ds,hd with|[d0,d1,d2],_=>exact⟨rfl,rfl,rfl⟩) called W base args ds gs before hval0 hW hsz
theorem named:Tryz.pinned.checked.prog.funcNamed Rows.recordTimerRow.func=some 6:=by kernel_rfl
theorem inst:Tryz.f6.isInstance Tryz.pinned.checked.prog Rows.recordTimerRow.origin Rows.recordTimerRow.targs:=of_decide_eq_true (by kernel_rfl)
theorem wrap:Tryz.f6.isWrapper Tryz.pinned.checked.prog Rows.recordTimerRow.wrapper Rows.recordTimerRow.mainSum:=by unfold Func.isWrapper;first|(rw[if_pos (by decide+kernel)];kernel_rfl)|(rw[if_neg (by decide+kernel)];exact⟨rfl,rfl⟩)
theorem over:Rows.recordTimerRow.holds Tryz.pinned (OpenSpec.ofChange Rows.recordTimerSpec):=
 OpenClaim.holds_of_wide 6 Tryz.f6 rfl rfl rfl rfl rfl rfl rfl ⟨rfl,rfl,rfl,rfl,rfl⟩ rfl rfl rfl rfl rfl named Tryz.func6 facts inst wrap (λos started H enc _=>lifted os started H enc)
theorem proved:Rows.RecordTimerSaid:=over
#print axioms proved
end Go.Proofs.YtpcbkbalabgnlaaGreat.recordTimer

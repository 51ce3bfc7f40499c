/-
  PROVED: 'Rows.MachineInterruptsSaid': whatever the input: vmfleetlaw12.MachineInterrupts returns true, and each argument reads behind the call as it read before. No condition.
-/
import Derived.Test.YtdkiadhigcfmkaaGreatRows
import Derived.WalkKit
import Derived.ProofKit
import Derived.OpenShut
import Derived.ShutString
import Derived.ChangeOld
import Derived.Below
import Derived.SizedLaws
import Derived.Test.YtdkiadhigcfmkaaGreatMachineInterruptsLaw
import Derived.Test.YtdkiadhigcfmkaaGreatMachineInterruptsFacts
import Derived.Test.YtdkiadhigcfmkaaGreatMachineInterruptsFin2
namespace Go.Proofs.YtdkiadhigcfmkaaGreat.machineInterrupts
open Go Go.GD Go.ChangeShapes Go.WideShapes Go.ChangeAt Go.RowKit
set_option linter.unusedVariables false
theorem own:ownKnob Tryz.prog.godebug=none:=by kernel_rfl
theorem laidOut:laidOutB Tryz.prog=true:=by kernel_rfl
def sig:List (Bool×List STy):=[(false,[.sl [.int .i64]]),(false,[.sl [.int .i64]]),(false,[.int .u32]),(false,[.bool]),(false,[.bool]),(false,[.int .i64])]
theorem sigOK:SigOK Tryz.prog 8 Tryz.f5.params.toList sig:=by
 rw[Tryz.params5]
 exact⟨by kernel_rfl,by kernel_rfl,by kernel_rfl,of_decide_eq_true (by kernel_rfl),⟨by kernel_rfl,by kernel_rfl,by kernel_rfl,of_decide_eq_true (by kernel_rfl),⟨by kernel_rfl,by kernel_rfl,by kernel_rfl,of_decide_eq_true (by kernel_rfl),⟨by kernel_rfl,by kernel_rfl,by kernel_rfl,of_decide_eq_true (by kernel_rfl),⟨by kernel_rfl,by kernel_rfl,by kernel_rfl,of_decide_eq_true (by kernel_rfl),⟨by kernel_rfl,by kernel_rfl,by kernel_rfl,of_decide_eq_true (by kernel_rfl),trivial⟩⟩⟩⟩⟩⟩
theorem called(Ds:List D)(h:FitA sig Ds):Q52 Tryz.prog 5 Ds [] (.bool true) []:=by
 obtain⟨d1,Ds,rfl,h1,h⟩:=Qm6 h
 obtain⟨d2,Ds,rfl,h2,h⟩:=Qm6 h
 obtain⟨d3,Ds,rfl,h3,h⟩:=Qm6 h
 obtain⟨d4,Ds,rfl,h4,h⟩:=Qm6 h
 obtain⟨d5,Ds,rfl,h5,h⟩:=Qm6 h
 obtain⟨d6,Ds,rfl,h6,h⟩:=Qm6 h
 obtain rfl:=fitA_nil h
 obtain⟨l,rfl,r1,_⟩:=Zdh (Qm5 h1)
 obtain⟨acts,rfl,r2,_⟩:=Zdh (Qm5 h2)
 obtain⟨enable,rfl,b3⟩:=fit_int (Qm5 h3)
 obtain⟨on0,rfl⟩:=Zd1 (Qm5 h4)
 obtain⟨waiting,rfl⟩:=Zd1 (Qm5 h5)
 obtain⟨n,rfl,_⟩:=fit_int (Qm5 h6)
 have uu: ∀{x:Int},(IntKind.u32.min≤x∧x≤IntKind.u32.max)→U x:=fun h=>⟨h.1,by have:IntKind.u32.max=4294967295:=rfl;have:=h.2;omega⟩
 obtain⟨g1,g2⟩:=Zf1 l acts on0 waiting n (uu b3) r1
 have:=(Qh8.absW rfl [.sl 1 (.ints .i64 l) false, .sl 1 (.ints .i64 acts) false, .int .u32 enable, .bool on0, .bool waiting, .int .i64 n] [] _ Bool (Q6z l acts enable on0 waiting n) (fun X=> .bool X) (fun X=>[]) (by rfl) g1).1
 rw[g2]at this
 exact this
set_option maxRecDepth 100000 in
theorem lifted(os:Os)(started:os.Started)(H:Type)(enc:TypeId×Value→H):
   ReturnsInHanded {} Tryz.checked os 5 .any (Rows.machineInterruptsSpec.pre6 enc Tryz.prog Tryz.f5 Rows.machineInterruptsRow.domain false) (Rows.machineInterruptsSpec.post enc Tryz.prog Tryz.f5 false true false false):=by
 refine returnsInHanded_of_change_sized (C:=Tryz.checked) own started (by kernel_rfl) Tryz.func5
   (ChangeSpec.witness6 (enc:=enc) (C:=Tryz.checked) false ⟨#[], #[.slice none 0 0, .slice none 0 0, .int .u32 0, .bool false, .bool false, .int .i64 0],[]⟩ 8 (by kernel_rfl) (by kernel_rfl) (by kernel_rfl) (by kernel_rfl)) ?_
 intro W base args ds gs before hval0 hW hcnd hsz _
 exact Zgy laidOut sigOK (by kernel_rfl) Tryz.underlying4 rfl (fun ds hd=>by match ds,hd with|[d0,d1,d2,d3,d4,d5],_=>exact⟨rfl,rfl,rfl⟩) called W base args ds gs before hval0 hW hsz
theorem named:Tryz.pinned.checked.prog.funcNamed Rows.machineInterruptsRow.func=some 5:=by kernel_rfl
theorem inst:Tryz.f5.isInstance Tryz.pinned.checked.prog Rows.machineInterruptsRow.origin Rows.machineInterruptsRow.targs:=of_decide_eq_true (by kernel_rfl)
theorem wrap:Tryz.f5.isWrapper Tryz.pinned.checked.prog Rows.machineInterruptsRow.wrapper Rows.machineInterruptsRow.mainSum:=by unfold Func.isWrapper;first|(rw[if_pos (by decide+kernel)];kernel_rfl)|(rw[if_neg (by decide+kernel)];exact⟨rfl,rfl⟩)
theorem over:Rows.machineInterruptsRow.holds Tryz.pinned (OpenSpec.ofChange Rows.machineInterruptsSpec):=
 OpenClaim.holds_of_wide 5 Tryz.f5 rfl rfl rfl rfl rfl rfl rfl ⟨rfl,rfl,rfl,rfl,rfl⟩ rfl rfl rfl rfl rfl named Tryz.func5 facts inst wrap (fun os started H enc _=>lifted os started H enc)
theorem proved:Rows.MachineInterruptsSaid:=over
#print axioms proved
end Go.Proofs.YtdkiadhigcfmkaaGreat.machineInterrupts

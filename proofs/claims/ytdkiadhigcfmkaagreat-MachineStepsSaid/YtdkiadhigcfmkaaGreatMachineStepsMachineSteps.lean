/-
  PROVED: 'Rows.MachineStepsSaid': whatever the input: vmfleetlaw12.MachineSteps returns true, and each argument reads behind the call as it read before. No condition.
-/
import Derived.Test.YtdkiadhigcfmkaaGreatRows
import Derived.WalkKit
import Derived.ProofKit
import Derived.OpenShut
import Derived.ShutString
import Derived.ChangeOld
import Derived.Below
import Derived.SizedLaws
import Derived.Test.YtdkiadhigcfmkaaGreatMachineStepsLaw
import Derived.Test.YtdkiadhigcfmkaaGreatMachineStepsFacts
import Derived.Test.YtdkiadhigcfmkaaGreatMachineStepsFin2
namespace Go.Proofs.YtdkiadhigcfmkaaGreat.machineSteps
open Go Go.GD Go.ChangeShapes Go.WideShapes Go.ChangeAt Go.RowKit
set_option linter.unusedVariables false
theorem own:ownKnob Tryz.prog.godebug=none:=by kernel_rfl
theorem laidOut:laidOutB Tryz.prog=true:=by kernel_rfl
def sig:List (Bool×List STy):=[(false,[.int .i64]),(false,[.sl [.int .i64]]),(false,[.sl [.int .i64]]),(false,[.int .i64]),(false,[.int .i64]),(true,[.int .u32, .int .u32, .int .u32, .int .u32, .int .u32, .int .u32, .int .u32, .int .u32, .int .u32, .int .u32, .int .u32, .int .u32, .int .u32, .int .u32, .int .u32, .int .u32, .int .u32, .int .u32, .int .u32, .int .u32, .int .u32, .int .u32, .int .u32, .int .u32, .int .u32, .sl [.int .u32], .str, .bool, .int .u32, .bool, .int .u32, .int .u32, .int .u32, .int .i64, .int .i64, .int .u32, .int .u32, .str, .int .u32, .int .u32, .bool, .int .u32, .bool, .int .u32, .int .u32, .int .u32, .int .u64, .bool, .bool]),(false,[.bool]),(false,[.int .u32])]
theorem sigOK:SigOK Tryz.prog 8 Tryz.f4.params.toList sig:=by
 rw[Tryz.params4]
 exact⟨by kernel_rfl,by kernel_rfl,by kernel_rfl,of_decide_eq_true (by kernel_rfl),⟨by kernel_rfl,by kernel_rfl,by kernel_rfl,of_decide_eq_true (by kernel_rfl),⟨by kernel_rfl,by kernel_rfl,by kernel_rfl,of_decide_eq_true (by kernel_rfl),⟨by kernel_rfl,by kernel_rfl,by kernel_rfl,of_decide_eq_true (by kernel_rfl),⟨by kernel_rfl,by kernel_rfl,by kernel_rfl,of_decide_eq_true (by kernel_rfl),⟨by kernel_rfl,by kernel_rfl,by kernel_rfl,of_decide_eq_true (by kernel_rfl),⟨by kernel_rfl,by kernel_rfl,by kernel_rfl,of_decide_eq_true (by kernel_rfl),⟨by kernel_rfl,by kernel_rfl,by kernel_rfl,of_decide_eq_true (by kernel_rfl),trivial⟩⟩⟩⟩⟩⟩⟩⟩
theorem called(Ds:List D)(h:FitA sig Ds):Q4b Tryz.prog 4 Ds [] (.bool true) []:=by
 obtain⟨d1,Ds,rfl,h1,h⟩:=Qjc h
 obtain⟨d2,Ds,rfl,h2,h⟩:=Qjc h
 obtain⟨d3,Ds,rfl,h3,h⟩:=Qjc h
 obtain⟨d4,Ds,rfl,h4,h⟩:=Qjc h
 obtain⟨d5,Ds,rfl,h5,h⟩:=Qjc h
 obtain⟨es,Ds,rfl,h6,h⟩:=fitA_agg h
 obtain⟨d7,Ds,rfl,h7,h⟩:=Qjc h
 obtain⟨d8,Ds,rfl,h8,h⟩:=Qjc h
 obtain rfl:=fitA_nil h
 obtain⟨kind,rfl,_⟩:=Q1b (Qin h1)
 obtain⟨l,rfl,r1,_⟩:=Z4x (Qin h2)
 obtain⟨acts,rfl,r2,_⟩:=Z4x (Qin h3)
 obtain⟨where0,rfl,_⟩:=Q1b (Qin h4)
 obtain⟨what,rfl,_⟩:=Q1b (Qin h5)
 obtain⟨w,rfl,hw,_⟩:=Z7q h6
 obtain⟨raw,rfl⟩:=Qiw (Qin h7)
 obtain⟨clock,rfl,b8⟩:=Q1b (Qin h8)
 obtain⟨g1,g2⟩:=Q8f kind l acts where0 what hw raw (u_of b8) r1
 have:=(Qke.absW rfl [.int .i64 kind, .sl 1 (.ints .i64 l) false, .sl 1 (.ints .i64 acts) false, .int .i64 where0, .int .i64 what, .agg w.cells, .bool raw, .int .u32 clock] [] _ Bool (Qb0 kind l acts where0 what w raw clock) (fun X=> .bool X) (fun X=>[]) (by rfl) g1).1
 rw[g2]at this
 exact this
set_option maxRecDepth 100000 in
theorem lifted(os:Os)(started:os.Started)(H:Type)(enc:TypeId×Value→H):
   ReturnsInHanded {} Tryz.checked os 4 .any (Rows.machineStepsSpec.pre6 enc Tryz.prog Tryz.f4 Rows.machineStepsRow.domain false) (Rows.machineStepsSpec.post enc Tryz.prog Tryz.f4 false true false false):=by
 refine returnsInHanded_of_change_sized (C:=Tryz.checked) own started (by kernel_rfl) Tryz.func4
   (ChangeSpec.witness6 (enc:=enc) (C:=Tryz.checked) false ⟨#[], #[.int .i64 0, .slice none 0 0, .slice none 0 0, .int .i64 0, .int .i64 0, .agg #[.int .u32 0, .int .u32 0, .int .u32 0, .int .u32 0, .int .u32 0, .int .u32 0, .int .u32 0, .int .u32 0, .int .u32 0, .int .u32 0, .int .u32 0, .int .u32 0, .int .u32 0, .int .u32 0, .int .u32 0, .int .u32 0, .int .u32 0, .int .u32 0, .int .u32 0, .int .u32 0, .int .u32 0, .int .u32 0, .int .u32 0, .int .u32 0, .int .u32 0, .slice none 0 0, .string ⟨#[]⟩, .bool false, .int .u32 0, .bool false, .int .u32 0, .int .u32 0, .int .u32 0, .int .i64 0, .int .i64 0, .int .u32 0, .int .u32 0, .string ⟨#[]⟩, .int .u32 0, .int .u32 0, .bool false, .int .u32 0, .bool false, .int .u32 0, .int .u32 0, .int .u32 0, .int .u64 0, .bool false, .bool false], .bool false, .int .u32 0],[]⟩ 8 (by kernel_rfl) (by kernel_rfl) (by kernel_rfl) (by kernel_rfl)) ?_
 intro W base args ds gs before hval0 hW hcnd hsz _
 exact Zdn laidOut sigOK (by kernel_rfl) Tryz.underlying4 rfl (fun ds hd=>by match ds,hd with|[d0,d1,d2,d3,d4,d5,d6,d7],_=>exact⟨rfl,rfl,rfl⟩) called W base args ds gs before hval0 hW hsz
theorem named:Tryz.pinned.checked.prog.funcNamed Rows.machineStepsRow.func=some 4:=by kernel_rfl
theorem inst:Tryz.f4.isInstance Tryz.pinned.checked.prog Rows.machineStepsRow.origin Rows.machineStepsRow.targs:=of_decide_eq_true (by kernel_rfl)
theorem wrap:Tryz.f4.isWrapper Tryz.pinned.checked.prog Rows.machineStepsRow.wrapper Rows.machineStepsRow.mainSum:=by unfold Func.isWrapper;first|(rw[if_pos (by decide+kernel)];kernel_rfl)|(rw[if_neg (by decide+kernel)];exact⟨rfl,rfl⟩)
theorem over:Rows.machineStepsRow.holds Tryz.pinned (OpenSpec.ofChange Rows.machineStepsSpec):=
 OpenClaim.holds_of_wide 4 Tryz.f4 rfl rfl rfl rfl rfl rfl rfl ⟨rfl,rfl,rfl,rfl,rfl⟩ rfl rfl rfl rfl rfl named Tryz.func4 facts inst wrap (fun os started H enc _=>lifted os started H enc)
theorem proved:Rows.MachineStepsSaid:=over
#print axioms proved
end Go.Proofs.YtdkiadhigcfmkaaGreat.machineSteps

/-
  PROVED: 'Rows.MachineAppliesSaid': whatever the input: vmfleetlaw12.MachineApplies returns true, and each argument reads behind the call as it read before. No condition.
-/
import Derived.Test.YtdkiadhigcfmkaaGreatRows
import Derived.WalkKit
import Derived.ProofKit
import Derived.OpenShut
import Derived.ShutString
import Derived.ChangeOld
import Derived.Below
import Derived.SizedLaws
import Derived.Test.YtdkiadhigcfmkaaGreatMachineAppliesLaw
import Derived.Test.YtdkiadhigcfmkaaGreatMachineAppliesFacts
import Derived.Test.YtdkiadhigcfmkaaGreatMachineAppliesFin2
namespace Go.Proofs.YtdkiadhigcfmkaaGreat.machineApplies
open Go Go.GD Go.ChangeShapes Go.WideShapes Go.ChangeAt Go.RowKit
set_option linter.unusedVariables false
theorem own:ownKnob Tryz.prog.godebug=none:=by kernel_rfl
theorem laidOut:laidOutB Tryz.prog=true:=by kernel_rfl
def sig:List (Bool×List STy):=[(false,[.int .i64]),(false,[.sl [.int .i64]]),(false,[.sl [.int .i64]]),(false,[.int .i64]),(false,[.int .i64]),(true,[.int .u32, .int .u32, .int .u32, .int .u32, .int .u32, .int .u32, .int .u32, .int .u32, .int .u32, .int .u32, .int .u32, .int .u32, .int .u32, .int .u32, .int .u32, .int .u32, .int .u32, .int .u32, .int .u32, .int .u32, .int .u32, .int .u32, .int .u32, .int .u32, .int .u32, .sl [.int .u32], .str, .bool, .int .u32, .bool, .int .u32, .int .u32, .int .u32, .int .i64, .int .i64, .int .u32, .int .u32, .str, .int .u32, .int .u32, .bool, .int .u32, .bool, .int .u32, .int .u32, .int .u32, .int .u64, .bool, .bool]),(false,[.bool]),(true,[.int .i64, .int .u32, .str]),(false,[.bool])]
theorem sigOK:SigOK Tryz.prog 8 Tryz.f9.params.toList sig:=by
 rw[Tryz.params9]
 exact⟨by kernel_rfl,by kernel_rfl,by kernel_rfl,of_decide_eq_true (by kernel_rfl),⟨by kernel_rfl,by kernel_rfl,by kernel_rfl,of_decide_eq_true (by kernel_rfl),⟨by kernel_rfl,by kernel_rfl,by kernel_rfl,of_decide_eq_true (by kernel_rfl),⟨by kernel_rfl,by kernel_rfl,by kernel_rfl,of_decide_eq_true (by kernel_rfl),⟨by kernel_rfl,by kernel_rfl,by kernel_rfl,of_decide_eq_true (by kernel_rfl),⟨by kernel_rfl,by kernel_rfl,by kernel_rfl,of_decide_eq_true (by kernel_rfl),⟨by kernel_rfl,by kernel_rfl,by kernel_rfl,of_decide_eq_true (by kernel_rfl),⟨by kernel_rfl,by kernel_rfl,by kernel_rfl,of_decide_eq_true (by kernel_rfl),⟨by kernel_rfl,by kernel_rfl,by kernel_rfl,of_decide_eq_true (by kernel_rfl),trivial⟩⟩⟩⟩⟩⟩⟩⟩⟩
theorem called(Ds:List D)(h:FitA sig Ds):Q31 Tryz.prog 9 Ds [] (.bool true) []:=by
 obtain⟨d1,Ds,rfl,h1,h⟩:=Qga h
 obtain⟨d2,Ds,rfl,h2,h⟩:=Qga h
 obtain⟨d3,Ds,rfl,h3,h⟩:=Qga h
 obtain⟨d4,Ds,rfl,h4,h⟩:=Qga h
 obtain⟨d5,Ds,rfl,h5,h⟩:=Qga h
 obtain⟨es,Ds,rfl,h6,h⟩:=Zbf h
 obtain⟨d7,Ds,rfl,h7,h⟩:=Qga h
 obtain⟨fs,Ds,rfl,h8,h⟩:=Zbf h
 obtain⟨d9,Ds,rfl,h9,h⟩:=Qga h
 obtain rfl:=fitA_nil h
 obtain⟨kind,rfl,_⟩:=Q16 (Qh4 h1)
 obtain⟨l,rfl,r1,_⟩:=Z1y (Qh4 h2)
 obtain⟨acts,rfl,r2,_⟩:=Z1y (Qh4 h3)
 obtain⟨where0,rfl,_⟩:=Q16 (Qh4 h4)
 obtain⟨what,rfl,_⟩:=Q16 (Qh4 h5)
 obtain⟨w,rfl,hw,_⟩:=Z6c h6
 obtain⟨raw,rfl⟩:=Qeh (Qh4 h7)
 obtain⟨e,rfl,he⟩:=Ze2 h8
 obtain⟨made,rfl⟩:=Qeh (Qh4 h9)
 obtain⟨g1,g2⟩:=applies kind l acts where0 what hw raw he made r1
 have:=(Qgm.absW rfl [.int .i64 kind, .sl 1 (.ints .i64 l) false, .sl 1 (.ints .i64 acts) false, .int .i64 where0, .int .i64 what, .agg w.cells, .bool raw, .agg e.cells, .bool made] [] _ Bool (Q6g kind l acts where0 what w raw e made) (fun X=> .bool X) (fun X=>[]) (by rfl) g1).1
 rw[g2]at this
 exact this
set_option maxRecDepth 100000 in
theorem lifted(os:Os)(started:os.Started)(H:Type)(enc:TypeId×Value→H):
   ReturnsInHanded {} Tryz.checked os 9 .any (Rows.machineAppliesSpec.pre6 enc Tryz.prog Tryz.f9 Rows.machineAppliesRow.domain false) (Rows.machineAppliesSpec.post enc Tryz.prog Tryz.f9 false true false false):=by
 refine returnsInHanded_of_change_sized (C:=Tryz.checked) own started (by kernel_rfl) Tryz.func9
   (ChangeSpec.witness6 (enc:=enc) (C:=Tryz.checked) false ⟨#[], #[.int .i64 0, .slice none 0 0, .slice none 0 0, .int .i64 0, .int .i64 0, .agg #[.int .u32 0, .int .u32 0, .int .u32 0, .int .u32 0, .int .u32 0, .int .u32 0, .int .u32 0, .int .u32 0, .int .u32 0, .int .u32 0, .int .u32 0, .int .u32 0, .int .u32 0, .int .u32 0, .int .u32 0, .int .u32 0, .int .u32 0, .int .u32 0, .int .u32 0, .int .u32 0, .int .u32 0, .int .u32 0, .int .u32 0, .int .u32 0, .int .u32 0, .slice none 0 0, .string ⟨#[]⟩, .bool false, .int .u32 0, .bool false, .int .u32 0, .int .u32 0, .int .u32 0, .int .i64 0, .int .i64 0, .int .u32 0, .int .u32 0, .string ⟨#[]⟩, .int .u32 0, .int .u32 0, .bool false, .int .u32 0, .bool false, .int .u32 0, .int .u32 0, .int .u32 0, .int .u64 0, .bool false, .bool false], .bool false, .agg #[.int .i64 0, .int .u32 0, .string ⟨#[]⟩], .bool false],[]⟩ 8 (by kernel_rfl) (by kernel_rfl) (by kernel_rfl) (by kernel_rfl)) ?_
 intro W base args ds gs before hval0 hW hcnd hsz _
 exact Zcx laidOut sigOK (by kernel_rfl) Tryz.underlying4 rfl (fun ds hd=>by match ds,hd with|[d0,d1,d2,d3,d4,d5,d6,d7,d8],_=>exact⟨rfl,rfl,rfl⟩) called W base args ds gs before hval0 hW hsz
theorem named:Tryz.pinned.checked.prog.funcNamed Rows.machineAppliesRow.func=some 9:=by kernel_rfl
theorem inst:Tryz.f9.isInstance Tryz.pinned.checked.prog Rows.machineAppliesRow.origin Rows.machineAppliesRow.targs:=of_decide_eq_true (by kernel_rfl)
theorem wrap:Tryz.f9.isWrapper Tryz.pinned.checked.prog Rows.machineAppliesRow.wrapper Rows.machineAppliesRow.mainSum:=by unfold Func.isWrapper;first|(rw[if_pos (by decide+kernel)];kernel_rfl)|(rw[if_neg (by decide+kernel)];exact⟨rfl,rfl⟩)
theorem over:Rows.machineAppliesRow.holds Tryz.pinned (OpenSpec.ofChange Rows.machineAppliesSpec):=
 OpenClaim.holds_of_wide 9 Tryz.f9 rfl rfl rfl rfl rfl rfl rfl ⟨rfl,rfl,rfl,rfl,rfl⟩ rfl rfl rfl rfl rfl named Tryz.func9 facts inst wrap (fun os started H enc _=>lifted os started H enc)
theorem proved:Rows.MachineAppliesSaid:=over
#print axioms proved
end Go.Proofs.YtdkiadhigcfmkaaGreat.machineApplies

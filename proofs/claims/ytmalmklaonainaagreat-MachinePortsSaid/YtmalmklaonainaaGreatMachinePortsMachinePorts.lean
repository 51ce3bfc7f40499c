import Derived.Test.YtmalmklaonainaaGreatMachinePortsFacts
import Derived.Test.YtmalmklaonainaaGreatMachinePortsFin2
set_option linter.all false
namespace Go.Proofs.YtmalmklaonainaaGreat.machinePorts
open Go Go.GD Go.ChangeShapes Go.WideShapes Go.ChangeAt Go.RowKit
theorem own:ownKnob Tryz.prog.godebug=none:=by kernel_rfl
theorem laidOut:laidOutB Tryz.prog=true:=by kernel_rfl
def sig:List (Bool×List STy):=[(false,[.sl [.int .u8]]),(false,[.int .u8])]
theorem sigOK:SigOK Tryz.prog 8 Tryz.f5.params.toList sig:=by
 rw[Tryz.params5]
 exact⟨by kernel_rfl,by kernel_rfl,by kernel_rfl,oY (by kernel_rfl),⟨by kernel_rfl,by kernel_rfl,by kernel_rfl,oY (by kernel_rfl),trivial⟩⟩
theorem called(Ds:List D)(h:FitA sig Ds):Q3v Tryz.prog 5 Ds [] (.bool true) []:=by
 obtain⟨d1,Ds,rfl,h1,h⟩:=Z6c h
 obtain⟨d2,Ds,rfl,h2,h⟩:=Z6c h
 obtain rfl:=yy h
 obtain⟨text,rfl,_,b1⟩:=zy (Z6q h1)
 obtain⟨key,rfl,b2⟩:=qT (Z6q h2)
 obtain⟨g1,g2⟩:=ports12 b1 b2
 have:=(Qif.absW rfl [.sl 1 (.ints .u8 text) false, .int .u8 key] [] _ Bool (Q6f text key) (λX=> .bool X) (λX=>[]) (by rfl) g1).1
 rw[g2]at this
 exact this
set_option maxRecDepth 100000 in
theorem lifted(os:Os)(started:os.Started)(H:Type)(enc:TypeId×Value->H):
   ReturnsInHanded {} Tryz.checked os 5 .any (Rows.machinePortsSpec.pre6 enc Tryz.prog Tryz.f5 Rows.machinePortsRow.domain false) (Rows.machinePortsSpec.post enc Tryz.prog Tryz.f5 false true false false):=by
 refine returnsInHanded_of_change_sized (C:=Tryz.checked) own started (by kernel_rfl) Tryz.func5
   (ChangeSpec.witness6 (enc:=enc) (C:=Tryz.checked) false ⟨#[], #[.slice none 0 0, .int .u8 0],[]⟩ 8 (by kernel_rfl) (by kernel_rfl) (by kernel_rfl) (by kernel_rfl)) ?_
 intro W base args ds gs before hval0 hW hcnd hsz _
 exact Z9v laidOut sigOK (by kernel_rfl) Tryz.underlying4 rfl (λds hd=>by match ds,hd with|[d0,d1],_=>exact⟨rfl,rfl,rfl⟩) called W base args ds gs before hval0 hW hsz
theorem named:Tryz.pinned.checked.prog.funcNamed Rows.machinePortsRow.func=some 5:=by kernel_rfl
theorem inst:Tryz.f5.isInstance Tryz.pinned.checked.prog Rows.machinePortsRow.origin Rows.machinePortsRow.targs:=oY (by kernel_rfl)
theorem wrap:Tryz.f5.isWrapper Tryz.pinned.checked.prog Rows.machinePortsRow.wrapper Rows.machinePortsRow.mainSum:=by unfold Func.isWrapper;first|(rw[if_pos (by decide+kernel)];kernel_rfl)|(rw[if_neg (by decide+kernel)];exact⟨rfl,rfl⟩)
theorem over:Rows.machinePortsRow.holds Tryz.pinned (OpenSpec.ofChange Rows.machinePortsSpec):=
 OpenClaim.holds_of_wide 5 Tryz.f5 rfl rfl rfl rfl rfl rfl rfl ⟨rfl,rfl,rfl,rfl,rfl⟩ rfl rfl rfl rfl rfl named Tryz.func5 facts inst wrap (λos started H enc _=>lifted os started H enc)
theorem proved:Rows.MachinePortsSaid:=over
#print axioms proved

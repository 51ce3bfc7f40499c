import Derived.Test.YtmalmklaonainaaGreatMachineEncodesFacts
import Derived.Test.YtmalmklaonainaaGreatMachineEncodesFin2
set_option linter.all false
namespace Go.Proofs.YtmalmklaonainaaGreat.machineEncodes
open Go Go.GD Go.ChangeShapes Go.WideShapes Go.ChangeAt Go.RowKit
theorem own:ownKnob Tryz.prog.godebug=none:=by kernel_rfl
theorem laidOut:laidOutB Tryz.prog=true:=by kernel_rfl
def sig:List (Bool×List STy):=[(false,[.int .i64]),(false,[.sl [.int .i64]]),(false,[.sl [.int .i64]]),(false,[.int .i64]),(false,[.int .i64]),(false,[.int .i64]),(false,[.int .i64])]
theorem sigOK:SigOK Tryz.prog 8 Tryz.f3.params.toList sig:=by
 rw[Tryz.params3]
 exact⟨by kernel_rfl,by kernel_rfl,by kernel_rfl,oY (by kernel_rfl),⟨by kernel_rfl,by kernel_rfl,by kernel_rfl,oY (by kernel_rfl),⟨by kernel_rfl,by kernel_rfl,by kernel_rfl,oY (by kernel_rfl),⟨by kernel_rfl,by kernel_rfl,by kernel_rfl,oY (by kernel_rfl),⟨by kernel_rfl,by kernel_rfl,by kernel_rfl,oY (by kernel_rfl),⟨by kernel_rfl,by kernel_rfl,by kernel_rfl,oY (by kernel_rfl),⟨by kernel_rfl,by kernel_rfl,by kernel_rfl,oY (by kernel_rfl),trivial⟩⟩⟩⟩⟩⟩⟩
theorem called(Ds:List D)(h:FitA sig Ds):Q41 Tryz.prog 3 Ds [] (.bool true) []:=by
 obtain⟨d1,Ds,rfl,h1,h⟩:=Qkk h
 obtain⟨d2,Ds,rfl,h2,h⟩:=Qkk h
 obtain⟨d3,Ds,rfl,h3,h⟩:=Qkk h
 obtain⟨d4,Ds,rfl,h4,h⟩:=Qkk h
 obtain⟨d5,Ds,rfl,h5,h⟩:=Qkk h
 obtain⟨d6,Ds,rfl,h6,h⟩:=Qkk h
 obtain⟨d7,Ds,rfl,h7,h⟩:=Qkk h
 obtain rfl:=zE h
 obtain⟨kind,rfl,_⟩:=Z1a (Qkn h1)
 obtain⟨l,rfl,r2,_⟩:=Zju (Qkn h2)
 obtain⟨acts,rfl,r3,_⟩:=Zju (Qkn h3)
 obtain⟨where0,rfl,_⟩:=Z1a (Qkn h4)
 obtain⟨what,rfl,_⟩:=Z1a (Qkn h5)
 obtain⟨there,rfl,_⟩:=Z1a (Qkn h6)
 obtain⟨that,rfl,_⟩:=Z1a (Qkn h7)
 obtain⟨g1,g2⟩:=zp kind l acts where0 what there that r2
 have:=(Ql2.absW rfl [.int .i64 kind, .sl 1 (.ints .i64 l) false, .sl 1 (.ints .i64 acts) false, .int .i64 where0, .int .i64 what, .int .i64 there, .int .i64 that] [] _ Bool (Q9p kind l acts where0 what there that) (λX=> .bool X) (λX=>[]) (by rfl) g1).1
 rw[g2]at this
 exact this
set_option maxRecDepth 100000 in
theorem lifted(os:Os)(started:os.Started)(H:Type)(enc:TypeId×Value->H):
   ReturnsInHanded {} Tryz.checked os 3 .any (Rows.machineEncodesSpec.pre6 enc Tryz.prog Tryz.f3 Rows.machineEncodesRow.domain false) (Rows.machineEncodesSpec.post enc Tryz.prog Tryz.f3 false true false false):=by
 refine returnsInHanded_of_change_sized (C:=Tryz.checked) own started (by kernel_rfl) Tryz.func3
   (ChangeSpec.witness6 (enc:=enc) (C:=Tryz.checked) false ⟨#[], #[.int .i64 0, .slice none 0 0, .slice none 0 0, .int .i64 0, .int .i64 0, .int .i64 0, .int .i64 0],[]⟩ 8 (by kernel_rfl) (by kernel_rfl) (by kernel_rfl) (by kernel_rfl)) ?_
 intro W base args ds gs before hval0 hW hcnd hsz _
 exact Zn2 laidOut sigOK (by kernel_rfl) Tryz.underlying4 rfl (λds hd=>by match ds,hd with|[d0,d1,d2,d3,d4,d5,d6],_=>exact⟨rfl,rfl,rfl⟩) called W base args ds gs before hval0 hW hsz
theorem named:Tryz.pinned.checked.prog.funcNamed Rows.machineEncodesRow.func=some 3:=by kernel_rfl
theorem inst:Tryz.f3.isInstance Tryz.pinned.checked.prog Rows.machineEncodesRow.origin Rows.machineEncodesRow.targs:=oY (by kernel_rfl)
theorem wrap:Tryz.f3.isWrapper Tryz.pinned.checked.prog Rows.machineEncodesRow.wrapper Rows.machineEncodesRow.mainSum:=by unfold Func.isWrapper;first|(rw[if_pos (by decide+kernel)];kernel_rfl)|(rw[if_neg (by decide+kernel)];exact⟨rfl,rfl⟩)
theorem over:Rows.machineEncodesRow.holds Tryz.pinned (OpenSpec.ofChange Rows.machineEncodesSpec):=
 OpenClaim.holds_of_wide 3 Tryz.f3 rfl rfl rfl rfl rfl rfl rfl ⟨rfl,rfl,rfl,rfl,rfl⟩ rfl rfl rfl rfl rfl named Tryz.func3 facts inst wrap (λos started H enc _=>lifted os started H enc)
theorem proved:Rows.MachineEncodesSaid:=over
#print axioms proved

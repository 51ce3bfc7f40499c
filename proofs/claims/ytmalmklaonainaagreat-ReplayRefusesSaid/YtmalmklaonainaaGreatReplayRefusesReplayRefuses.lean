import Derived.Test.YtmalmklaonainaaGreatReplayRefusesLaw
import Derived.Test.YtmalmklaonainaaGreatReplayRefusesFacts
import Derived.Test.YtmalmklaonainaaGreatReplayRefusesFin2
set_option linter.all false
namespace Go.Proofs.YtmalmklaonainaaGreat.replayRefuses
open Go Go.GD Go.ChangeShapes Go.WideShapes Go.ChangeAt Go.RowKit
theorem own:ownKnob Tryz.prog.godebug=none:=by kernel_rfl
theorem laidOut:laidOutB Tryz.prog=true:=by kernel_rfl
def sig:List (Bool×List STy):=[(false,[.int .i64]),(false,[.sl [.int .i64]]),(false,[.sl [.int .i64]]),(false,[.int .i64])]
theorem sigOK:SigOK Tryz.prog 8 Tryz.f12.params.toList sig:=by
 rw[Tryz.params12]
 exact⟨by kernel_rfl,by kernel_rfl,by kernel_rfl,oY (by kernel_rfl),⟨by kernel_rfl,by kernel_rfl,by kernel_rfl,oY (by kernel_rfl),⟨by kernel_rfl,by kernel_rfl,by kernel_rfl,oY (by kernel_rfl),⟨by kernel_rfl,by kernel_rfl,by kernel_rfl,oY (by kernel_rfl),trivial⟩⟩⟩⟩
theorem called(Ds:List D)(h:FitA sig Ds):Q4l Tryz.prog 12 Ds [] (.bool true) []:=by
 obtain⟨d1,Ds,rfl,h1,h⟩:=Z0j h
 obtain⟨d2,Ds,rfl,h2,h⟩:=Z0j h
 obtain⟨d3,Ds,rfl,h3,h⟩:=Z0j h
 obtain⟨d4,Ds,rfl,h4,h⟩:=Z0j h
 obtain rfl:=vU h
 obtain⟨kind,rfl,b1⟩:=zu (Z0i h1)
 obtain⟨l,rfl,r2,_⟩:=Zm9 (Z0i h2)
 obtain⟨acts,rfl,r3,_⟩:=Zm9 (Z0i h3)
 obtain⟨n,rfl,b4⟩:=zu (Z0i h4)
 obtain⟨g1,g2⟩:=qp kind l acts n r2
 have:=(Qo0.absW rfl [.int .i64 kind, .sl 1 (.ints .i64 l) false, .sl 1 (.ints .i64 acts) false, .int .i64 n] [] _ Bool (Qcz kind l acts n) (λX=> .bool X) (λX=>[]) (by rfl) g1).1
 rw[g2]at this
 exact this
set_option maxRecDepth 100000 in
theorem lifted(os:Os)(started:os.Started)(H:Type)(enc:TypeId×Value->H):
   ReturnsInHanded {} Tryz.checked os 12 .any (Rows.replayRefusesSpec.pre6 enc Tryz.prog Tryz.f12 Rows.replayRefusesRow.domain false) (Rows.replayRefusesSpec.post enc Tryz.prog Tryz.f12 false true false false):=by
 refine returnsInHanded_of_change_sized (C:=Tryz.checked) own started (by kernel_rfl) Tryz.func12
   (ChangeSpec.witness6 (enc:=enc) (C:=Tryz.checked) false ⟨#[], #[.int .i64 0, .slice none 0 0, .slice none 0 0, .int .i64 0],[]⟩ 8 (by kernel_rfl) (by kernel_rfl) (by kernel_rfl) (by kernel_rfl)) ?_
 intro W base args ds gs before hval0 hW hcnd hsz _
 exact Znh laidOut sigOK (by kernel_rfl) Tryz.underlying4 rfl (λds hd=>by match ds,hd with|[d0,d1,d2,d3],_=>exact⟨rfl,rfl,rfl⟩) called W base args ds gs before hval0 hW hsz
theorem named:Tryz.pinned.checked.prog.funcNamed Rows.replayRefusesRow.func=some 12:=by kernel_rfl
theorem inst:Tryz.f12.isInstance Tryz.pinned.checked.prog Rows.replayRefusesRow.origin Rows.replayRefusesRow.targs:=oY (by kernel_rfl)
theorem wrap:Tryz.f12.isWrapper Tryz.pinned.checked.prog Rows.replayRefusesRow.wrapper Rows.replayRefusesRow.mainSum:=by unfold Func.isWrapper;first|(rw[if_pos (by decide+kernel)];kernel_rfl)|(rw[if_neg (by decide+kernel)];exact⟨rfl,rfl⟩)
theorem over:Rows.replayRefusesRow.holds Tryz.pinned (OpenSpec.ofChange Rows.replayRefusesSpec):=
 OpenClaim.holds_of_wide 12 Tryz.f12 rfl rfl rfl rfl rfl rfl rfl ⟨rfl,rfl,rfl,rfl,rfl⟩ rfl rfl rfl rfl rfl named Tryz.func12 facts inst wrap (λos started H enc _=>lifted os started H enc)
theorem proved:Rows.ReplayRefusesSaid:=over
#print axioms proved

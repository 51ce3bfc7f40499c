import Derived.Test.YtmalmklaonainaaGreatReplayFollowsFacts
import Derived.Test.YtmalmklaonainaaGreatReplayFollowsFin2
set_option linter.all false
namespace Go.Proofs.YtmalmklaonainaaGreat.replayFollows
open Go Go.GD Go.ChangeShapes Go.WideShapes Go.ChangeAt Go.RowKit
theorem own:ownKnob Tryz.prog.godebug=none:=by kernel_rfl
theorem laidOut:laidOutB Tryz.prog=true:=by kernel_rfl
def sig:List (Bool×List STy):=[(false,[.int .i64]),(false,[.sl [.int .i64]]),(false,[.sl [.int .i64]]),(false,[.sl [.int .i64]])]
theorem sigOK:SigOK Tryz.prog 8 Tryz.f13.params.toList sig:=by
 rw[Tryz.params13]
 exact⟨by kernel_rfl,by kernel_rfl,by kernel_rfl,oY (by kernel_rfl),⟨by kernel_rfl,by kernel_rfl,by kernel_rfl,oY (by kernel_rfl),⟨by kernel_rfl,by kernel_rfl,by kernel_rfl,oY (by kernel_rfl),⟨by kernel_rfl,by kernel_rfl,by kernel_rfl,oY (by kernel_rfl),trivial⟩⟩⟩⟩
theorem called(Ds:List D)(h:FitA sig Ds):Q4f Tryz.prog 13 Ds [] (.bool true) []:=by
 obtain⟨d1,Ds,rfl,h1,h⟩:=Z08 h
 obtain⟨d2,Ds,rfl,h2,h⟩:=Z08 h
 obtain⟨d3,Ds,rfl,h3,h⟩:=Z08 h
 obtain⟨d4,Ds,rfl,h4,h⟩:=Z08 h
 obtain rfl:=vF h
 obtain⟨kind,rfl,b1⟩:=zae (Z01 h1)
 obtain⟨l,rfl,r2,_⟩:=Z9z (Z01 h2)
 obtain⟨acts,rfl,r3,_⟩:=Z9z (Z01 h3)
 obtain⟨pace,rfl,r4,_⟩:=Z9z (Z01 h4)
 obtain⟨g1,g2⟩:=Zjp kind l acts pace r2 r4
 have:=(Qni.absW rfl [.int .i64 kind, .sl 1 (.ints .i64 l) false, .sl 1 (.ints .i64 acts) false, .sl 1 (.ints .i64 pace) false] [] _ Bool (Qcq kind l acts pace) (λX=> .bool X) (λX=>[]) (by rfl) g1).1
 rw[g2]at this
 exact this
set_option maxRecDepth 100000 in
theorem lifted(os:Os)(started:os.Started)(H:Type)(enc:TypeId×Value->H):
   ReturnsInHanded {} Tryz.checked os 13 .any (Rows.replayFollowsSpec.pre6 enc Tryz.prog Tryz.f13 Rows.replayFollowsRow.domain false) (Rows.replayFollowsSpec.post enc Tryz.prog Tryz.f13 false true false false):=by
 refine returnsInHanded_of_change_sized (C:=Tryz.checked) own started (by kernel_rfl) Tryz.func13
   (ChangeSpec.witness6 (enc:=enc) (C:=Tryz.checked) false ⟨#[], #[.int .i64 0, .slice none 0 0, .slice none 0 0, .slice none 0 0],[]⟩ 8 (by kernel_rfl) (by kernel_rfl) (by kernel_rfl) (by kernel_rfl)) ?_
 intro W base args ds gs before hval0 hW hcnd hsz _
 exact Zob laidOut sigOK (by kernel_rfl) Tryz.underlying4 rfl (λds hd=>by match ds,hd with|[d0,d1,d2,d3],_=>exact⟨rfl,rfl,rfl⟩) called W base args ds gs before hval0 hW hsz
theorem named:Tryz.pinned.checked.prog.funcNamed Rows.replayFollowsRow.func=some 13:=by kernel_rfl
theorem inst:Tryz.f13.isInstance Tryz.pinned.checked.prog Rows.replayFollowsRow.origin Rows.replayFollowsRow.targs:=oY (by kernel_rfl)
theorem wrap:Tryz.f13.isWrapper Tryz.pinned.checked.prog Rows.replayFollowsRow.wrapper Rows.replayFollowsRow.mainSum:=by unfold Func.isWrapper;first|(rw[if_pos (by decide+kernel)];kernel_rfl)|(rw[if_neg (by decide+kernel)];exact⟨rfl,rfl⟩)
theorem over:Rows.replayFollowsRow.holds Tryz.pinned (OpenSpec.ofChange Rows.replayFollowsSpec):=
 OpenClaim.holds_of_wide 13 Tryz.f13 rfl rfl rfl rfl rfl rfl rfl ⟨rfl,rfl,rfl,rfl,rfl⟩ rfl rfl rfl rfl rfl named Tryz.func13 facts inst wrap (λos started H enc _=>lifted os started H enc)
theorem proved:Rows.ReplayFollowsSaid:=over
#print axioms proved

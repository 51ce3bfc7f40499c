import Derived.Test.YtmalmklaonainaaGreatReplayStopsFacts
import Derived.Test.YtmalmklaonainaaGreatReplayStopsFin2
set_option linter.all false
namespace Go.Proofs.YtmalmklaonainaaGreat.replayStops
open Go Go.GD Go.ChangeShapes Go.WideShapes Go.ChangeAt Go.RowKit
theorem own:ownKnob Tryz.prog.godebug=none:=by kernel_rfl
theorem laidOut:laidOutB Tryz.prog=true:=by kernel_rfl
def sig:List (Bool×List STy):=[(false,[.int .i64]),(false,[.sl [.int .i64]]),(false,[.sl [.int .i64]]),(false,[.int .i64]),(false,[.int .i64]),(false,[.int .u64])]
theorem sigOK:SigOK Tryz.prog 8 Tryz.f10.params.toList sig:=by
 rw[Tryz.params10]
 exact⟨by kernel_rfl,by kernel_rfl,by kernel_rfl,oY (by kernel_rfl),⟨by kernel_rfl,by kernel_rfl,by kernel_rfl,oY (by kernel_rfl),⟨by kernel_rfl,by kernel_rfl,by kernel_rfl,oY (by kernel_rfl),⟨by kernel_rfl,by kernel_rfl,by kernel_rfl,oY (by kernel_rfl),⟨by kernel_rfl,by kernel_rfl,by kernel_rfl,oY (by kernel_rfl),⟨by kernel_rfl,by kernel_rfl,by kernel_rfl,oY (by kernel_rfl),trivial⟩⟩⟩⟩⟩⟩
theorem called(Ds:List D)(h:FitA sig Ds):Q4k Tryz.prog 10 Ds [] (.bool true) []:=by
 obtain⟨d1,Ds,rfl,h1,h⟩:=Qqa h
 obtain⟨d2,Ds,rfl,h2,h⟩:=Qqa h
 obtain⟨d3,Ds,rfl,h3,h⟩:=Qqa h
 obtain⟨d4,Ds,rfl,h4,h⟩:=Qqa h
 obtain⟨d5,Ds,rfl,h5,h⟩:=Qqa h
 obtain⟨d6,Ds,rfl,h6,h⟩:=Qqa h
 obtain rfl:=zF h
 obtain⟨kind,rfl,b1⟩:=Zaf (Qq8 h1)
 obtain⟨l,rfl,r2,_⟩:=Zmg (Qq8 h2)
 obtain⟨acts,rfl,r3,_⟩:=Zmg (Qq8 h3)
 obtain⟨how,rfl,_⟩:=Zaf (Qq8 h4)
 obtain⟨at0,rfl,_⟩:=Zaf (Qq8 h5)
 obtain⟨less,rfl,_⟩:=Zaf (Qq8 h6)
 obtain⟨g1,g2⟩:=zp kind l acts how at0 less r2
 have:=(Qqw.absW rfl [.int .i64 kind, .sl 1 (.ints .i64 l) false, .sl 1 (.ints .i64 acts) false, .int .i64 how, .int .i64 at0, .int .u64 less] [] _ Bool (Qf2 kind l acts how at0 less) (λX=> .bool X) (λX=>[]) (by rfl) g1).1
 rw[g2]at this
 exact this
set_option maxRecDepth 100000 in
theorem lifted(os:Os)(started:os.Started)(H:Type)(enc:TypeId×Value->H):
   ReturnsInHanded {} Tryz.checked os 10 .any (Rows.replayStopsSpec.pre6 enc Tryz.prog Tryz.f10 Rows.replayStopsRow.domain false) (Rows.replayStopsSpec.post enc Tryz.prog Tryz.f10 false true false false):=by
 refine returnsInHanded_of_change_sized (C:=Tryz.checked) own started (by kernel_rfl) Tryz.func10
   (ChangeSpec.witness6 (enc:=enc) (C:=Tryz.checked) false ⟨#[], #[.int .i64 0, .slice none 0 0, .slice none 0 0, .int .i64 0, .int .i64 0, .int .u64 0],[]⟩ 8 (by kernel_rfl) (by kernel_rfl) (by kernel_rfl) (by kernel_rfl)) ?_
 intro W base args ds gs before hval0 hW hcnd hsz _
 exact Znj laidOut sigOK (by kernel_rfl) Tryz.underlying4 rfl (λds hd=>by match ds,hd with|[d0,d1,d2,d3,d4,d5],_=>exact⟨rfl,rfl,rfl⟩) called W base args ds gs before hval0 hW hsz
theorem named:Tryz.pinned.checked.prog.funcNamed Rows.replayStopsRow.func=some 10:=by kernel_rfl
theorem inst:Tryz.f10.isInstance Tryz.pinned.checked.prog Rows.replayStopsRow.origin Rows.replayStopsRow.targs:=oY (by kernel_rfl)
theorem wrap:Tryz.f10.isWrapper Tryz.pinned.checked.prog Rows.replayStopsRow.wrapper Rows.replayStopsRow.mainSum:=by unfold Func.isWrapper;first|(rw[if_pos (by decide+kernel)];kernel_rfl)|(rw[if_neg (by decide+kernel)];exact⟨rfl,rfl⟩)
theorem over:Rows.replayStopsRow.holds Tryz.pinned (OpenSpec.ofChange Rows.replayStopsSpec):=
 OpenClaim.holds_of_wide 10 Tryz.f10 rfl rfl rfl rfl rfl rfl rfl ⟨rfl,rfl,rfl,rfl,rfl⟩ rfl rfl rfl rfl rfl named Tryz.func10 facts inst wrap (λos started H enc _=>lifted os started H enc)
theorem proved:Rows.ReplayStopsSaid:=over
#print axioms proved

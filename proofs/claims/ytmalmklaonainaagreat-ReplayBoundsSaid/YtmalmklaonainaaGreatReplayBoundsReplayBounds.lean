import Derived.Test.YtmalmklaonainaaGreatReplayBoundsFacts
import Derived.Test.YtmalmklaonainaaGreatReplayBoundsFin2
set_option linter.all false
namespace Go.Proofs.YtmalmklaonainaaGreat.replayBounds
open Go Go.GD Go.ChangeShapes Go.WideShapes Go.ChangeAt Go.RowKit
theorem own:ownKnob Tryz.prog.godebug=none:=by kernel_rfl
theorem laidOut:laidOutB Tryz.prog=true:=by kernel_rfl
def sig:List (Bool×List STy):=[(false,[.int .i64]),(false,[.sl [.int .i64]]),(false,[.sl [.int .i64]]),(false,[.int .u64]),(false,[.int .i64])]
theorem sigOK:SigOK Tryz.prog 8 Tryz.f11.params.toList sig:=by
 rw[Tryz.params11]
 exact⟨by kernel_rfl,by kernel_rfl,by kernel_rfl,oY (by kernel_rfl),⟨by kernel_rfl,by kernel_rfl,by kernel_rfl,oY (by kernel_rfl),⟨by kernel_rfl,by kernel_rfl,by kernel_rfl,oY (by kernel_rfl),⟨by kernel_rfl,by kernel_rfl,by kernel_rfl,oY (by kernel_rfl),⟨by kernel_rfl,by kernel_rfl,by kernel_rfl,oY (by kernel_rfl),trivial⟩⟩⟩⟩⟩
theorem called(Ds:List D)(h:FitA sig Ds):Q4k Tryz.prog 11 Ds [] (.bool true) []:=by
 obtain⟨d1,Ds,rfl,h1,h⟩:=Qv h
 obtain⟨d2,Ds,rfl,h2,h⟩:=Qv h
 obtain⟨d3,Ds,rfl,h3,h⟩:=Qv h
 obtain⟨d4,Ds,rfl,h4,h⟩:=Qv h
 obtain⟨d5,Ds,rfl,h5,h⟩:=Qv h
 obtain rfl:=xF h
 obtain⟨kind,rfl,b1⟩:=Ziv (Qu0 h1)
 obtain⟨l,rfl,r2,_⟩:=Zm9 (Qu0 h2)
 obtain⟨acts,rfl,r3,_⟩:=Zm9 (Qu0 h3)
 obtain⟨at0,rfl,b4⟩:=Ziv (Qu0 h4)
 obtain⟨steps,rfl,b5⟩:=Ziv (Qu0 h5)
 obtain⟨g1,g2⟩:=Zmv kind l acts at0 steps (show(0:Int)<=at0 from b4.1) r2
 have:=(Qom.absW rfl [.int .i64 kind, .sl 1 (.ints .i64 l) false, .sl 1 (.ints .i64 acts) false, .int .u64 at0, .int .i64 steps] [] _ Bool (Qdj kind l acts at0 steps) (λX=> .bool X) (λX=>[]) (by rfl) g1).1
 rw[g2]at this
 exact this
set_option maxRecDepth 100000 in
theorem lifted(os:Os)(started:os.Started)(H:Type)(enc:TypeId×Value->H):
   ReturnsInHanded {} Tryz.checked os 11 .any (Rows.replayBoundsSpec.pre6 enc Tryz.prog Tryz.f11 Rows.replayBoundsRow.domain false) (Rows.replayBoundsSpec.post enc Tryz.prog Tryz.f11 false true false false):=by
 refine returnsInHanded_of_change_sized (C:=Tryz.checked) own started (by kernel_rfl) Tryz.func11
   (ChangeSpec.witness6 (enc:=enc) (C:=Tryz.checked) false ⟨#[], #[.int .i64 0, .slice none 0 0, .slice none 0 0, .int .u64 0, .int .i64 0],[]⟩ 8 (by kernel_rfl) (by kernel_rfl) (by kernel_rfl) (by kernel_rfl)) ?_
 intro W base args ds gs before hval0 hW hcnd hsz _
 exact Zn2 laidOut sigOK (by kernel_rfl) Tryz.underlying4 rfl (λds hd=>by match ds,hd with|[d0,d1,d2,d3,d4],_=>exact⟨rfl,rfl,rfl⟩) called W base args ds gs before hval0 hW hsz
theorem named:Tryz.pinned.checked.prog.funcNamed Rows.replayBoundsRow.func=some 11:=by kernel_rfl
theorem inst:Tryz.f11.isInstance Tryz.pinned.checked.prog Rows.replayBoundsRow.origin Rows.replayBoundsRow.targs:=oY (by kernel_rfl)
theorem wrap:Tryz.f11.isWrapper Tryz.pinned.checked.prog Rows.replayBoundsRow.wrapper Rows.replayBoundsRow.mainSum:=by unfold Func.isWrapper;first|(rw[if_pos (by decide+kernel)];kernel_rfl)|(rw[if_neg (by decide+kernel)];exact⟨rfl,rfl⟩)
theorem over:Rows.replayBoundsRow.holds Tryz.pinned (OpenSpec.ofChange Rows.replayBoundsSpec):=
 OpenClaim.holds_of_wide 11 Tryz.f11 rfl rfl rfl rfl rfl rfl rfl ⟨rfl,rfl,rfl,rfl,rfl⟩ rfl rfl rfl rfl rfl named Tryz.func11 facts inst wrap (λos started H enc _=>lifted os started H enc)
theorem proved:Rows.ReplayBoundsSaid:=over
#print axioms proved

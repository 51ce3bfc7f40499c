import Derived.Test.YtmalmklaonainaaGreatReplayPiecesFacts
import Derived.Test.YtmalmklaonainaaGreatReplayPiecesFin2
set_option linter.all false
namespace Go.Proofs.YtmalmklaonainaaGreat.replayPieces
open Go Go.GD Go.ChangeShapes Go.WideShapes Go.ChangeAt Go.RowKit
theorem own:ownKnob Tryz.prog.godebug=none:=by kernel_rfl
theorem laidOut:laidOutB Tryz.prog=true:=by kernel_rfl
def sig:List (Bool×List STy):=[(false,[.int .i64]),(false,[.sl [.int .i64]]),(false,[.sl [.int .i64]]),(false,[.int .i64]),(false,[.int .i64])]
theorem sigOK:SigOK Tryz.prog 8 Tryz.f9.params.toList sig:=by
 rw[Tryz.params9]
 exact⟨by kernel_rfl,by kernel_rfl,by kernel_rfl,oY (by kernel_rfl),⟨by kernel_rfl,by kernel_rfl,by kernel_rfl,oY (by kernel_rfl),⟨by kernel_rfl,by kernel_rfl,by kernel_rfl,oY (by kernel_rfl),⟨by kernel_rfl,by kernel_rfl,by kernel_rfl,oY (by kernel_rfl),⟨by kernel_rfl,by kernel_rfl,by kernel_rfl,oY (by kernel_rfl),trivial⟩⟩⟩⟩⟩
theorem called(Ds:List D)(h:FitA sig Ds):Q4e Tryz.prog 9 Ds [] (.bool true) []:=by
 obtain⟨d1,Ds,rfl,h1,h⟩:=Qtp h
 obtain⟨d2,Ds,rfl,h2,h⟩:=Qtp h
 obtain⟨d3,Ds,rfl,h3,h⟩:=Qtp h
 obtain⟨d4,Ds,rfl,h4,h⟩:=Qtp h
 obtain⟨d5,Ds,rfl,h5,h⟩:=Qtp h
 obtain rfl:=yF h
 obtain⟨kind,rfl,b1⟩:=Zko (Qtj h1)
 obtain⟨l,rfl,r2,_⟩:=Zn (Qtj h2)
 obtain⟨acts,rfl,r3,_⟩:=Zn (Qtj h3)
 obtain⟨one,rfl,b4⟩:=Zko (Qtj h4)
 obtain⟨two,rfl,b5⟩:=Zko (Qtj h5)
 obtain⟨g1,g2⟩:=Zot kind l acts one two r2
 have:=(Qog.absW rfl [.int .i64 kind, .sl 1 (.ints .i64 l) false, .sl 1 (.ints .i64 acts) false, .int .i64 one, .int .i64 two] [] _ Bool (Qec kind l acts one two) (λX=> .bool X) (λX=>[]) (by rfl) g1).1
 rw[g2]at this
 exact this
set_option maxRecDepth 100000 in
theorem lifted(os:Os)(started:os.Started)(H:Type)(enc:TypeId×Value->H):
   ReturnsInHanded {} Tryz.checked os 9 .any (Rows.replayPiecesSpec.pre6 enc Tryz.prog Tryz.f9 Rows.replayPiecesRow.domain false) (Rows.replayPiecesSpec.post enc Tryz.prog Tryz.f9 false true false false):=by
 refine returnsInHanded_of_change_sized (C:=Tryz.checked) own started (by kernel_rfl) Tryz.func9
   (ChangeSpec.witness6 (enc:=enc) (C:=Tryz.checked) false ⟨#[], #[.int .i64 0, .slice none 0 0, .slice none 0 0, .int .i64 0, .int .i64 0],[]⟩ 8 (by kernel_rfl) (by kernel_rfl) (by kernel_rfl) (by kernel_rfl)) ?_
 intro W base args ds gs before hval0 hW hcnd hsz _
 exact Zos laidOut sigOK (by kernel_rfl) Tryz.underlying4 rfl (λds hd=>by match ds,hd with|[d0,d1,d2,d3,d4],_=>exact⟨rfl,rfl,rfl⟩) called W base args ds gs before hval0 hW hsz
theorem named:Tryz.pinned.checked.prog.funcNamed Rows.replayPiecesRow.func=some 9:=by kernel_rfl
theorem inst:Tryz.f9.isInstance Tryz.pinned.checked.prog Rows.replayPiecesRow.origin Rows.replayPiecesRow.targs:=oY (by kernel_rfl)
theorem wrap:Tryz.f9.isWrapper Tryz.pinned.checked.prog Rows.replayPiecesRow.wrapper Rows.replayPiecesRow.mainSum:=by unfold Func.isWrapper;first|(rw[if_pos (by decide+kernel)];kernel_rfl)|(rw[if_neg (by decide+kernel)];exact⟨rfl,rfl⟩)
theorem over:Rows.replayPiecesRow.holds Tryz.pinned (OpenSpec.ofChange Rows.replayPiecesSpec):=
 OpenClaim.holds_of_wide 9 Tryz.f9 rfl rfl rfl rfl rfl rfl rfl ⟨rfl,rfl,rfl,rfl,rfl⟩ rfl rfl rfl rfl rfl named Tryz.func9 facts inst wrap (λos started H enc _=>lifted os started H enc)
theorem proved:Rows.ReplayPiecesSaid:=over
#print axioms proved

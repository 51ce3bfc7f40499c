import Derived.Test.YtmalmklaonainaaGreatReplayLiveFacts
import Derived.Test.YtmalmklaonainaaGreatReplayLiveFin2
set_option linter.all false
namespace Go.Proofs.YtmalmklaonainaaGreat.replayLive
open Go Go.GD Go.ChangeShapes Go.WideShapes Go.ChangeAt Go.RowKit
theorem own:ownKnob Tryz.prog.godebug=none:=by kernel_rfl
theorem laidOut:laidOutB Tryz.prog=true:=by kernel_rfl
def sig:List (Bool×List STy):=[(false,[.int .i64]),(false,[.sl [.int .i64]]),(false,[.sl [.int .i64]]),(false,[.int .i64]),(false,[.int .i64]),(false,[.int .u32])]
theorem sigOK:SigOK Tryz.prog 8 Tryz.f14.params.toList sig:=by
 rw[Tryz.params14]
 exact⟨by kernel_rfl,by kernel_rfl,by kernel_rfl,oY (by kernel_rfl),⟨by kernel_rfl,by kernel_rfl,by kernel_rfl,oY (by kernel_rfl),⟨by kernel_rfl,by kernel_rfl,by kernel_rfl,oY (by kernel_rfl),⟨by kernel_rfl,by kernel_rfl,by kernel_rfl,oY (by kernel_rfl),⟨by kernel_rfl,by kernel_rfl,by kernel_rfl,oY (by kernel_rfl),⟨by kernel_rfl,by kernel_rfl,by kernel_rfl,oY (by kernel_rfl),trivial⟩⟩⟩⟩⟩⟩
theorem called(Ds:List D)(h:FitA sig Ds):Q4r Tryz.prog 14 Ds [] (.bool true) []:=by
 obtain⟨d1,Ds,rfl,h1,h⟩:=Qrl h
 obtain⟨d2,Ds,rfl,h2,h⟩:=Qrl h
 obtain⟨d3,Ds,rfl,h3,h⟩:=Qrl h
 obtain⟨d4,Ds,rfl,h4,h⟩:=Qrl h
 obtain⟨d5,Ds,rfl,h5,h⟩:=Qrl h
 obtain⟨d6,Ds,rfl,h6,h⟩:=Qrl h
 obtain rfl:=yF h
 obtain⟨kind,rfl,b1⟩:=Zct (Qr2 h1)
 obtain⟨l,rfl,r2,_⟩:=Zo8 (Qr2 h2)
 obtain⟨acts,rfl,r3,_⟩:=Zo8 (Qr2 h3)
 obtain⟨n,rfl,b4⟩:=Zct (Qr2 h4)
 obtain⟨steps,rfl,b5⟩:=Zct (Qr2 h5)
 obtain⟨later,rfl,b6⟩:=Zct (Qr2 h6)
 have uu: ∀{x:Int},(IntKind.u32.min<=x/\x<=IntKind.u32.max)->U x:=λh=>⟨h.1,by have:IntKind.u32.max=4294967295:=rfl;have:=h.2;omega⟩
 obtain⟨g1,g2⟩:=zQ kind l acts n steps later (uu b6) r2
 have:=(Qti.absW rfl [.int .i64 kind, .sl 1 (.ints .i64 l) false, .sl 1 (.ints .i64 acts) false, .int .i64 n, .int .i64 steps, .int .u32 later] [] _ Bool (Qhk kind l acts n steps later) (λX=> .bool X) (λX=>[]) (by rfl) g1).1
 rw[g2]at this
 exact this
set_option maxRecDepth 100000 in
theorem lifted(os:Os)(started:os.Started)(H:Type)(enc:TypeId×Value->H):
   ReturnsInHanded {} Tryz.checked os 14 .any (Rows.replayLiveSpec.pre6 enc Tryz.prog Tryz.f14 Rows.replayLiveRow.domain false) (Rows.replayLiveSpec.post enc Tryz.prog Tryz.f14 false true false false):=by
 refine returnsInHanded_of_change_sized (C:=Tryz.checked) own started (by kernel_rfl) Tryz.func14
   (ChangeSpec.witness6 (enc:=enc) (C:=Tryz.checked) false ⟨#[], #[.int .i64 0, .slice none 0 0, .slice none 0 0, .int .i64 0, .int .i64 0, .int .u32 0],[]⟩ 8 (by kernel_rfl) (by kernel_rfl) (by kernel_rfl) (by kernel_rfl)) ?_
 intro W base args ds gs before hval0 hW hcnd hsz _
 exact Zq0 laidOut sigOK (by kernel_rfl) Tryz.underlying4 rfl (λds hd=>by match ds,hd with|[d0,d1,d2,d3,d4,d5],_=>exact⟨rfl,rfl,rfl⟩) called W base args ds gs before hval0 hW hsz
theorem named:Tryz.pinned.checked.prog.funcNamed Rows.replayLiveRow.func=some 14:=by kernel_rfl
theorem inst:Tryz.f14.isInstance Tryz.pinned.checked.prog Rows.replayLiveRow.origin Rows.replayLiveRow.targs:=oY (by kernel_rfl)
theorem wrap:Tryz.f14.isWrapper Tryz.pinned.checked.prog Rows.replayLiveRow.wrapper Rows.replayLiveRow.mainSum:=by unfold Func.isWrapper;first|(rw[if_pos (by decide+kernel)];kernel_rfl)|(rw[if_neg (by decide+kernel)];exact⟨rfl,rfl⟩)
theorem over:Rows.replayLiveRow.holds Tryz.pinned (OpenSpec.ofChange Rows.replayLiveSpec):=
 OpenClaim.holds_of_wide 14 Tryz.f14 rfl rfl rfl rfl rfl rfl rfl ⟨rfl,rfl,rfl,rfl,rfl⟩ rfl rfl rfl rfl rfl named Tryz.func14 facts inst wrap (λos started H enc _=>lifted os started H enc)
theorem proved:Rows.ReplayLiveSaid:=over
#print axioms proved

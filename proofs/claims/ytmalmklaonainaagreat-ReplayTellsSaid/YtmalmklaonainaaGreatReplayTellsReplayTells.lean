import Derived.Test.YtmalmklaonainaaGreatReplayTellsFacts
import Derived.Test.YtmalmklaonainaaGreatReplayTellsFin2
set_option linter.all false
namespace Go.Proofs.YtmalmklaonainaaGreat.replayTells
open Go Go.GD Go.ChangeShapes Go.WideShapes Go.ChangeAt Go.RowKit
theorem own:ownKnob Tryz.prog.godebug=none:=by kernel_rfl
theorem laidOut:laidOutB Tryz.prog=true:=by kernel_rfl
def sig:List (Bool×List STy):=[(false,[.int .i64]),(false,[.sl [.int .i64]]),(false,[.sl [.int .i64]]),(false,[.int .i64]),(false,[.int .i64]),(true,[.int .u32, .int .u32, .int .u32, .int .u32, .int .u32, .int .u32, .int .u32, .int .u32, .int .u32, .int .u32, .int .u32, .int .u32, .int .u32, .int .u32, .int .u32, .int .u32, .int .u32, .int .u32, .int .u32, .int .u32, .int .u32, .int .u32, .int .u32, .int .u32, .int .u32, .sl [.int .u32], .str, .bool, .int .u32, .bool, .int .u32, .int .u32, .int .u32, .int .i64, .int .i64, .int .u32, .int .u32, .str, .int .u32, .int .u32, .bool, .int .u32, .bool, .int .u32, .int .u32, .int .u32, .int .u64, .bool, .bool, .sl [.int .u64, .int .i64, .int .u32, .str], .int .u64, .int .u32]),(false,[.bool]),(false,[.sl [.int .u64, .int .i64, .int .u32, .str]]),(false,[.int .u64]),(false,[.int .i64]),(false,[.int .i64])]
theorem sigOK:SigOK Tryz.prog 8 Tryz.f8.params.toList sig:=by
 rw[Tryz.params8]
 exact⟨by kernel_rfl,by kernel_rfl,by kernel_rfl,oY (by kernel_rfl),⟨by kernel_rfl,by kernel_rfl,by kernel_rfl,oY (by kernel_rfl),⟨by kernel_rfl,by kernel_rfl,by kernel_rfl,oY (by kernel_rfl),⟨by kernel_rfl,by kernel_rfl,by kernel_rfl,oY (by kernel_rfl),⟨by kernel_rfl,by kernel_rfl,by kernel_rfl,oY (by kernel_rfl),⟨by kernel_rfl,by kernel_rfl,by kernel_rfl,oY (by kernel_rfl),⟨by kernel_rfl,by kernel_rfl,by kernel_rfl,oY (by kernel_rfl),⟨by kernel_rfl,by kernel_rfl,by kernel_rfl,oY (by kernel_rfl),⟨by kernel_rfl,by kernel_rfl,by kernel_rfl,oY (by kernel_rfl),⟨by kernel_rfl,by kernel_rfl,by kernel_rfl,oY (by kernel_rfl),⟨by kernel_rfl,by kernel_rfl,by kernel_rfl,oY (by kernel_rfl),trivial⟩⟩⟩⟩⟩⟩⟩⟩⟩⟩⟩
theorem called(Ds:List D)(h:FitA sig Ds):Q4b Tryz.prog 8 Ds [] (.bool true) []:=by
 obtain⟨d1,Ds,rfl,h1,h⟩:=Qgg h
 obtain⟨d2,Ds,rfl,h2,h⟩:=Qgg h
 obtain⟨d3,Ds,rfl,h3,h⟩:=Qgg h
 obtain⟨d4,Ds,rfl,h4,h⟩:=Qgg h
 obtain⟨d5,Ds,rfl,h5,h⟩:=Qgg h
 obtain⟨es,Ds,rfl,h6,h⟩:=qG h
 obtain⟨d7,Ds,rfl,h7,h⟩:=Qgg h
 obtain⟨d8,Ds,rfl,h8,h⟩:=Qgg h
 obtain⟨d9,Ds,rfl,h9,h⟩:=Qgg h
 obtain⟨d10,Ds,rfl,h10,h⟩:=Qgg h
 obtain⟨d11,Ds,rfl,h11,h⟩:=Qgg h
 obtain rfl:=xG h
 obtain⟨kind,rfl,_⟩:=Q1n (Qgi h1)
 obtain⟨l,rfl,r1,_⟩:=Zdv (Qgi h2)
 obtain⟨acts,rfl,r2,_⟩:=Zdv (Qgi h3)
 obtain⟨how,rfl,_⟩:=Q1n (Qgi h4)
 obtain⟨at0,rfl,_⟩:=Q1n (Qgi h5)
 obtain⟨p,hp,hv,hc,hpl,hpu⟩:=Ze9 h6
 obtain⟨raw,rfl⟩:=Qoe (Qgi h7)
 obtain⟨s,ho,hsl,hsu⟩:=Zmf (Qgi h8)
 obtain⟨known,rfl,bk⟩:=Q1n (Qgi h9)
 obtain⟨steps,rfl,_⟩:=Q1n (Qgi h10)
 obtain⟨more,rfl,_⟩:=Q1n (Qgi h11)
 obtain⟨g1,g2⟩:=vp kind l acts how at0 hv hc hpl hpu raw hsl hsu (known:=known) bk.1 steps more r1
 have:=(Qsw.absW rfl [.int .i64 kind, .sl 1 (.ints .i64 l) false, .sl 1 (.ints .i64 acts) false, .int .i64 how, .int .i64 at0, .agg p.cells, .bool raw, .sl 4 (.recs .apiEntry s) false, .int .u64 known, .int .i64 steps, .int .i64 more] [] _ Bool (Qg0 kind l acts how at0 p raw s known steps more) (λX=> .bool X) (λX=>[]) (by rfl) g1).1
 rw[g2]at this
 exact Q4b.sub (args':=[.int .i64 kind, .sl 1 (.ints .i64 l) false, .sl 1 (.ints .i64 acts) false, .int .i64 how, .int .i64 at0, .agg p.cells, .bool raw, .sl 4 (.recs .apiEntry s) false, .int .u64 known, .int .i64 steps, .int .i64 more]) ⟨Sub1.rfl,Sub1.rfl,Sub1.rfl,Sub1.rfl,Sub1.rfl,hp,Sub1.rfl,ho,Sub1.rfl,Sub1.rfl,Sub1.rfl,trivial⟩ this
set_option maxRecDepth 100000 in
theorem lifted(os:Os)(started:os.Started)(H:Type)(enc:TypeId×Value->H):
   ReturnsInHanded {} Tryz.checked os 8 .any (Rows.replayTellsSpec.pre6 enc Tryz.prog Tryz.f8 Rows.replayTellsRow.domain false) (Rows.replayTellsSpec.post enc Tryz.prog Tryz.f8 false true false false):=by
 refine returnsInHanded_of_change_sized (C:=Tryz.checked) own started (by kernel_rfl) Tryz.func8
   (ChangeSpec.witness6 (enc:=enc) (C:=Tryz.checked) false ⟨#[], #[.int .i64 0, .slice none 0 0, .slice none 0 0, .int .i64 0, .int .i64 0, .agg #[.int .u32 0, .int .u32 0, .int .u32 0, .int .u32 0, .int .u32 0, .int .u32 0, .int .u32 0, .int .u32 0, .int .u32 0, .int .u32 0, .int .u32 0, .int .u32 0, .int .u32 0, .int .u32 0, .int .u32 0, .int .u32 0, .int .u32 0, .int .u32 0, .int .u32 0, .int .u32 0, .int .u32 0, .int .u32 0, .int .u32 0, .int .u32 0, .int .u32 0, .slice none 0 0, .string ⟨#[]⟩, .bool false, .int .u32 0, .bool false, .int .u32 0, .int .u32 0, .int .u32 0, .int .i64 0, .int .i64 0, .int .u32 0, .int .u32 0, .string ⟨#[]⟩, .int .u32 0, .int .u32 0, .bool false, .int .u32 0, .bool false, .int .u32 0, .int .u32 0, .int .u32 0, .int .u64 0, .bool false, .bool false, .slice none 0 0, .int .u64 0, .int .u32 0], .bool false, .slice none 0 0, .int .u64 0, .int .i64 0, .int .i64 0],[]⟩ 8 (by kernel_rfl) (by kernel_rfl) (by kernel_rfl) (by kernel_rfl)) ?_
 intro W base args ds gs before hval0 hW hcnd hsz _
 exact Zpt laidOut sigOK (by kernel_rfl) Tryz.underlying4 rfl (λds hd=>by match ds,hd with|[d0,d1,d2,d3,d4,d5,d6,d7,d8,d9,d10],_=>exact⟨rfl,rfl,rfl⟩) called W base args ds gs before hval0 hW hsz
theorem named:Tryz.pinned.checked.prog.funcNamed Rows.replayTellsRow.func=some 8:=by kernel_rfl
theorem inst:Tryz.f8.isInstance Tryz.pinned.checked.prog Rows.replayTellsRow.origin Rows.replayTellsRow.targs:=oY (by kernel_rfl)
theorem wrap:Tryz.f8.isWrapper Tryz.pinned.checked.prog Rows.replayTellsRow.wrapper Rows.replayTellsRow.mainSum:=by unfold Func.isWrapper;first|(rw[if_pos (by decide+kernel)];kernel_rfl)|(rw[if_neg (by decide+kernel)];exact⟨rfl,rfl⟩)
theorem over:Rows.replayTellsRow.holds Tryz.pinned (OpenSpec.ofChange Rows.replayTellsSpec):=
 OpenClaim.holds_of_wide 8 Tryz.f8 rfl rfl rfl rfl rfl rfl rfl ⟨rfl,rfl,rfl,rfl,rfl⟩ rfl rfl rfl rfl rfl named Tryz.func8 facts inst wrap (λos started H enc _=>lifted os started H enc)
theorem proved:Rows.ReplayTellsSaid:=over
#print axioms proved

import Derived.Test.YtmalmklaonainaaGreatMachineTellsFacts
import Derived.Test.YtmalmklaonainaaGreatMachineTellsFin2
set_option linter.all false
namespace Go.Proofs.YtmalmklaonainaaGreat.machineTells
open Go Go.GD Go.ChangeShapes Go.WideShapes Go.ChangeAt Go.RowKit
theorem own:ownKnob Tryz.prog.godebug=none:=by kernel_rfl
theorem laidOut:laidOutB Tryz.prog=true:=by kernel_rfl
def sig:List (Bool×List STy):=[(false,[.int .i64]),(false,[.sl [.int .i64]]),(false,[.sl [.int .i64]]),(false,[.int .i64]),(false,[.int .i64]),(true,[.int .u32, .int .u32, .int .u32, .int .u32, .int .u32, .int .u32, .int .u32, .int .u32, .int .u32, .int .u32, .int .u32, .int .u32, .int .u32, .int .u32, .int .u32, .int .u32, .int .u32, .int .u32, .int .u32, .int .u32, .int .u32, .int .u32, .int .u32, .int .u32, .int .u32, .sl [.int .u32], .str, .bool, .int .u32, .bool, .int .u32, .int .u32, .int .u32, .int .i64, .int .i64, .int .u32, .int .u32, .str, .int .u32, .int .u32, .bool, .int .u32, .bool, .int .u32, .int .u32, .int .u32, .int .u64, .bool, .bool]),(false,[.bool])]
theorem sigOK:SigOK Tryz.prog 8 Tryz.f4.params.toList sig:=by
 rw[Tryz.params4]
 exact⟨by kernel_rfl,by kernel_rfl,by kernel_rfl,oY (by kernel_rfl),⟨by kernel_rfl,by kernel_rfl,by kernel_rfl,oY (by kernel_rfl),⟨by kernel_rfl,by kernel_rfl,by kernel_rfl,oY (by kernel_rfl),⟨by kernel_rfl,by kernel_rfl,by kernel_rfl,oY (by kernel_rfl),⟨by kernel_rfl,by kernel_rfl,by kernel_rfl,oY (by kernel_rfl),⟨by kernel_rfl,by kernel_rfl,by kernel_rfl,oY (by kernel_rfl),⟨by kernel_rfl,by kernel_rfl,by kernel_rfl,oY (by kernel_rfl),trivial⟩⟩⟩⟩⟩⟩⟩
theorem called(Ds:List D)(h:FitA sig Ds):Q4c Tryz.prog 4 Ds [] (.bool true) []:=by
 obtain⟨d1,Ds,rfl,h1,h⟩:=Qq0 h
 obtain⟨d2,Ds,rfl,h2,h⟩:=Qq0 h
 obtain⟨d3,Ds,rfl,h3,h⟩:=Qq0 h
 obtain⟨d4,Ds,rfl,h4,h⟩:=Qq0 h
 obtain⟨d5,Ds,rfl,h5,h⟩:=Qq0 h
 obtain⟨es,Ds,rfl,h6,h⟩:=xG h
 obtain⟨d7,Ds,rfl,h7,h⟩:=Qq0 h
 obtain rfl:=zG h
 obtain⟨kind,rfl,_⟩:=Q1p (Qpb h1)
 obtain⟨l,rfl,r1,_⟩:=Zal (Qpb h2)
 obtain⟨acts,rfl,r2,_⟩:=Zal (Qpb h3)
 obtain⟨where0,rfl,_⟩:=Q1p (Qpb h4)
 obtain⟨what,rfl,_⟩:=Q1p (Qpb h5)
 obtain⟨w,rfl,hw,_,hr⟩:=Zg9 h6
 obtain⟨raw,rfl⟩:=Qm0 (Qpb h7)
 obtain⟨g1,g2⟩:=qq kind l acts where0 what hw hr raw r1
 have:=(Qo4.absW rfl [.int .i64 kind, .sl 1 (.ints .i64 l) false, .sl 1 (.ints .i64 acts) false, .int .i64 where0, .int .i64 what, .agg w.cells, .bool raw] [] _ Bool (Qci kind l acts where0 what w raw) (λX=> .bool X) (λX=>[]) (by rfl) g1).1
 rw[g2]at this
 exact this
set_option maxRecDepth 100000 in
theorem lifted(os:Os)(started:os.Started)(H:Type)(enc:TypeId×Value->H):
   ReturnsInHanded {} Tryz.checked os 4 .any (Rows.machineTellsSpec.pre6 enc Tryz.prog Tryz.f4 Rows.machineTellsRow.domain false) (Rows.machineTellsSpec.post enc Tryz.prog Tryz.f4 false true false false):=by
 refine returnsInHanded_of_change_sized (C:=Tryz.checked) own started (by kernel_rfl) Tryz.func4
   (ChangeSpec.witness6 (enc:=enc) (C:=Tryz.checked) false ⟨#[], #[.int .i64 0, .slice none 0 0, .slice none 0 0, .int .i64 0, .int .i64 0, .agg #[.int .u32 0, .int .u32 0, .int .u32 0, .int .u32 0, .int .u32 0, .int .u32 0, .int .u32 0, .int .u32 0, .int .u32 0, .int .u32 0, .int .u32 0, .int .u32 0, .int .u32 0, .int .u32 0, .int .u32 0, .int .u32 0, .int .u32 0, .int .u32 0, .int .u32 0, .int .u32 0, .int .u32 0, .int .u32 0, .int .u32 0, .int .u32 0, .int .u32 0, .slice none 0 0, .string ⟨#[]⟩, .bool false, .int .u32 0, .bool false, .int .u32 0, .int .u32 0, .int .u32 0, .int .i64 0, .int .i64 0, .int .u32 0, .int .u32 0, .string ⟨#[]⟩, .int .u32 0, .int .u32 0, .bool false, .int .u32 0, .bool false, .int .u32 0, .int .u32 0, .int .u32 0, .int .u64 0, .bool false, .bool false], .bool false],[]⟩ 8 (by kernel_rfl) (by kernel_rfl) (by kernel_rfl) (by kernel_rfl)) ?_
 intro W base args ds gs before hval0 hW hcnd hsz _
 exact Zme laidOut sigOK (by kernel_rfl) Tryz.underlying4 rfl (λds hd=>by match ds,hd with|[d0,d1,d2,d3,d4,d5,d6],_=>exact⟨rfl,rfl,rfl⟩) called W base args ds gs before hval0 hW hsz
theorem named:Tryz.pinned.checked.prog.funcNamed Rows.machineTellsRow.func=some 4:=by kernel_rfl
theorem inst:Tryz.f4.isInstance Tryz.pinned.checked.prog Rows.machineTellsRow.origin Rows.machineTellsRow.targs:=oY (by kernel_rfl)
theorem wrap:Tryz.f4.isWrapper Tryz.pinned.checked.prog Rows.machineTellsRow.wrapper Rows.machineTellsRow.mainSum:=by unfold Func.isWrapper;first|(rw[if_pos (by decide+kernel)];kernel_rfl)|(rw[if_neg (by decide+kernel)];exact⟨rfl,rfl⟩)
theorem over:Rows.machineTellsRow.holds Tryz.pinned (OpenSpec.ofChange Rows.machineTellsSpec):=
 OpenClaim.holds_of_wide 4 Tryz.f4 rfl rfl rfl rfl rfl rfl rfl ⟨rfl,rfl,rfl,rfl,rfl⟩ rfl rfl rfl rfl rfl named Tryz.func4 facts inst wrap (λos started H enc _=>lifted os started H enc)
theorem proved:Rows.MachineTellsSaid:=over
#print axioms proved

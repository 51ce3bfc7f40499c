import Derived.Test.YtjaifpiopmhmlaaGreatRows
import Derived.WalkKit
import Derived.ProofKit
import Derived.OpenShut
import Derived.ShutString
import Derived.ChangeOld
import Derived.Below
import Derived.SizedLaws
import Derived.Test.YtjaifpiopmhmlaaGreatBareRunsLaw
import Derived.Test.YtjaifpiopmhmlaaGreatBareRunsFacts
import Derived.Test.YtjaifpiopmhmlaaGreatBareRunsFin2
set_option linter.all false
namespace Go.Proofs.YtjaifpiopmhmlaaGreat.bareRuns
open Go Go.GD Go.ChangeShapes Go.WideShapes Go.ChangeAt Go.RowKit
theorem own:ownKnob Tryz.prog.godebug=none:=by kernel_rfl
theorem laidOut:laidOutB Tryz.prog=true:=by kernel_rfl
def sig:List (Bool×List STy):=[(false,[.int .i64]),(false,[.sl [.int .i64]]),(false,[.sl [.int .i64]]),(false,[.int .i64]),(false,[.int .i64]),(false,[.int .i64]),(false,[.int .i64]),(true,[.int .u32, .int .u32, .int .u32, .int .u32, .int .u32, .int .u32, .int .u32, .int .u32, .int .u32, .int .u32, .int .u32, .int .u32, .int .u32, .int .u32, .int .u32, .int .u32, .int .u32, .int .u32, .int .u32, .int .u32, .int .u32, .int .u32, .int .u32, .int .u32, .int .u32, .sl [.int .u32], .str, .bool, .int .u32, .bool, .int .u32, .int .u32, .int .u32, .int .i64, .int .i64, .int .u32, .int .u32, .str, .int .u32, .int .u32, .bool, .int .u32, .bool, .int .u32, .int .u32, .int .u32, .int .u64, .bool, .bool]),(false,[.bool]),(false,[.sl [.int .u64, .int .i64, .int .u32, .str]]),(false,[.int .u64]),(false,[.int .u64])]
theorem sigOK:SigOK Tryz.prog 8 Tryz.f3.params.toList sig:=by
 rw[Tryz.params3]
 exact⟨by kernel_rfl,by kernel_rfl,by kernel_rfl,of_decide_eq_true (by kernel_rfl),⟨by kernel_rfl,by kernel_rfl,by kernel_rfl,of_decide_eq_true (by kernel_rfl),⟨by kernel_rfl,by kernel_rfl,by kernel_rfl,of_decide_eq_true (by kernel_rfl),⟨by kernel_rfl,by kernel_rfl,by kernel_rfl,of_decide_eq_true (by kernel_rfl),⟨by kernel_rfl,by kernel_rfl,by kernel_rfl,of_decide_eq_true (by kernel_rfl),⟨by kernel_rfl,by kernel_rfl,by kernel_rfl,of_decide_eq_true (by kernel_rfl),⟨by kernel_rfl,by kernel_rfl,by kernel_rfl,of_decide_eq_true (by kernel_rfl),⟨by kernel_rfl,by kernel_rfl,by kernel_rfl,of_decide_eq_true (by kernel_rfl),⟨by kernel_rfl,by kernel_rfl,by kernel_rfl,of_decide_eq_true (by kernel_rfl),⟨by kernel_rfl,by kernel_rfl,by kernel_rfl,of_decide_eq_true (by kernel_rfl),⟨by kernel_rfl,by kernel_rfl,by kernel_rfl,of_decide_eq_true (by kernel_rfl),⟨by kernel_rfl,by kernel_rfl,by kernel_rfl,of_decide_eq_true (by kernel_rfl),trivial⟩⟩⟩⟩⟩⟩⟩⟩⟩⟩⟩⟩
theorem called(Ds:List D)(h:FitA sig Ds):Q3w Tryz.prog 3 Ds [] (.bool true) []:=by
 obtain⟨d1,Ds,rfl,h1,h⟩:=Qca h
 obtain⟨d2,Ds,rfl,h2,h⟩:=Qca h
 obtain⟨d3,Ds,rfl,h3,h⟩:=Qca h
 obtain⟨d4,Ds,rfl,h4,h⟩:=Qca h
 obtain⟨d5,Ds,rfl,h5,h⟩:=Qca h
 obtain⟨d6,Ds,rfl,h6,h⟩:=Qca h
 obtain⟨d7,Ds,rfl,h7,h⟩:=Qca h
 obtain⟨es,Ds,rfl,h8,h⟩:=zQ h
 obtain⟨d9,Ds,rfl,h9,h⟩:=Qca h
 obtain⟨d10,Ds,rfl,h10,h⟩:=Qca h
 obtain⟨d11,Ds,rfl,h11,h⟩:=Qca h
 obtain⟨d12,Ds,rfl,h12,h⟩:=Qca h
 obtain rfl:=yQ h
 obtain⟨kind,rfl,_⟩:=Q1g (Qct h1)
 obtain⟨l,rfl,r1,_⟩:=Z7b (Qct h2)
 obtain⟨acts,rfl,r2,_⟩:=Z7b (Qct h3)
 obtain⟨where0,rfl,_⟩:=Q1g (Qct h4)
 obtain⟨what,rfl,_⟩:=Q1g (Qct h5)
 obtain⟨how,rfl,_⟩:=Q1g (Qct h6)
 obtain⟨at0,rfl,_⟩:=Q1g (Qct h7)
 obtain⟨w,rfl,hw,_⟩:=Zbx h8
 obtain⟨raw,rfl⟩:=Qll (Qct h9)
 obtain⟨other,ho,hol,hou⟩:=Zfx (Qct h10)
 obtain⟨until0,rfl,_⟩:=Q1g (Qct h11)
 obtain⟨more,rfl,_⟩:=Q1g (Qct h12)
 obtain⟨g1,g2⟩:=runs kind l acts where0 what how at0 hw raw hou hol until0 more r1
 have:=(Qvp.absW rfl [.int .i64 kind, .sl 1 (.ints .i64 l) false, .sl 1 (.ints .i64 acts) false, .int .i64 where0, .int .i64 what, .int .i64 how, .int .i64 at0, .agg w.cells, .bool raw, .sl 4 (.recs .apiEntry other) false, .int .u64 until0, .int .u64 more] [] _ Bool (Qjw kind l acts where0 what how at0 w raw other until0 more) (λX=> .bool X) (λX=>[]) (by rfl) g1).1
 rw[g2]at this
 exact Q3w.sub (args':=[.int .i64 kind, .sl 1 (.ints .i64 l) false, .sl 1 (.ints .i64 acts) false, .int .i64 where0, .int .i64 what, .int .i64 how, .int .i64 at0, .agg w.cells, .bool raw, .sl 4 (.recs .apiEntry other) false, .int .u64 until0, .int .u64 more]) ⟨Sub1.rfl,Sub1.rfl,Sub1.rfl,Sub1.rfl,Sub1.rfl,Sub1.rfl,Sub1.rfl,SubL.rfl,Sub1.rfl,ho,Sub1.rfl,Sub1.rfl,trivial⟩ this
set_option maxRecDepth 100000 in
theorem lifted(os:Os)(started:os.Started)(H:Type)(enc:TypeId×Value->H):
   ReturnsInHanded {} Tryz.checked os 3 .any (Rows.bareRunsSpec.pre6 enc Tryz.prog Tryz.f3 Rows.bareRunsRow.domain false) (Rows.bareRunsSpec.post enc Tryz.prog Tryz.f3 false true false false):=by
 refine returnsInHanded_of_change_sized (C:=Tryz.checked) own started (by kernel_rfl) Tryz.func3
   (ChangeSpec.witness6 (enc:=enc) (C:=Tryz.checked) false ⟨#[], #[.int .i64 0, .slice none 0 0, .slice none 0 0, .int .i64 0, .int .i64 0, .int .i64 0, .int .i64 0, .agg #[.int .u32 0, .int .u32 0, .int .u32 0, .int .u32 0, .int .u32 0, .int .u32 0, .int .u32 0, .int .u32 0, .int .u32 0, .int .u32 0, .int .u32 0, .int .u32 0, .int .u32 0, .int .u32 0, .int .u32 0, .int .u32 0, .int .u32 0, .int .u32 0, .int .u32 0, .int .u32 0, .int .u32 0, .int .u32 0, .int .u32 0, .int .u32 0, .int .u32 0, .slice none 0 0, .string ⟨#[]⟩, .bool false, .int .u32 0, .bool false, .int .u32 0, .int .u32 0, .int .u32 0, .int .i64 0, .int .i64 0, .int .u32 0, .int .u32 0, .string ⟨#[]⟩, .int .u32 0, .int .u32 0, .bool false, .int .u32 0, .bool false, .int .u32 0, .int .u32 0, .int .u32 0, .int .u64 0, .bool false, .bool false], .bool false, .slice none 0 0, .int .u64 0, .int .u64 0],[]⟩ 8 (by kernel_rfl) (by kernel_rfl) (by kernel_rfl) (by kernel_rfl)) ?_
 intro W base args ds gs before hval0 hW hcnd hsz _
 exact Zm6 laidOut sigOK (by kernel_rfl) Tryz.underlying4 rfl (λds hd=>by match ds,hd with|[d0,d1,d2,d3,d4,d5,d6,d7,d8,d9,d10,d11],_=>exact⟨rfl,rfl,rfl⟩) called W base args ds gs before hval0 hW hsz
theorem named:Tryz.pinned.checked.prog.funcNamed Rows.bareRunsRow.func=some 3:=by kernel_rfl
theorem inst:Tryz.f3.isInstance Tryz.pinned.checked.prog Rows.bareRunsRow.origin Rows.bareRunsRow.targs:=of_decide_eq_true (by kernel_rfl)
theorem wrap:Tryz.f3.isWrapper Tryz.pinned.checked.prog Rows.bareRunsRow.wrapper Rows.bareRunsRow.mainSum:=by unfold Func.isWrapper;first|(rw[if_pos (by decide+kernel)];kernel_rfl)|(rw[if_neg (by decide+kernel)];exact⟨rfl,rfl⟩)
theorem over:Rows.bareRunsRow.holds Tryz.pinned (OpenSpec.ofChange Rows.bareRunsSpec):=
 OpenClaim.holds_of_wide 3 Tryz.f3 rfl rfl rfl rfl rfl rfl rfl ⟨rfl,rfl,rfl,rfl,rfl⟩ rfl rfl rfl rfl rfl named Tryz.func3 facts inst wrap (λos started H enc _=>lifted os started H enc)
theorem proved:Rows.BareRunsSaid:=over
#print axioms proved
end Go.Proofs.YtjaifpiopmhmlaaGreat.bareRuns

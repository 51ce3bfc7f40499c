/-
  PROVED: 'Rows.RecordTellsSaid': whatever the input: vmfleetlaw21.RecordTells returns true, and each argument reads behind the call as it read before. No condition.
-/
import Derived.Test.YtpcbkbalabgnlaaGreatRows
import Derived.WalkKit
import Derived.ProofKit
import Derived.OpenShut
import Derived.ShutString
import Derived.ChangeOld
import Derived.Below
import Derived.SizedLaws
import Derived.Test.YtpcbkbalabgnlaaGreatRecordTellsLaw
import Derived.Test.YtpcbkbalabgnlaaGreatRecordTellsFacts
import Derived.Test.YtpcbkbalabgnlaaGreatRecordTellsFin2
set_option linter.unusedVariables false
namespace Go.Proofs.YtpcbkbalabgnlaaGreat.recordTells
open Go Go.GD Go.ChangeShapes Go.WideShapes Go.ChangeAt Go.RowKit
theorem own:ownKnob Tryz.prog.godebug=none:=by kernel_rfl
theorem laidOut:laidOutB Tryz.prog=true:=by kernel_rfl
def sig:List (Bool×List STy):=[(false,[.int .i64]),(false,[.sl [.int .i64]]),(false,[.sl [.int .i64]]),(false,[.int .i64]),(false,[.int .i64]),(true,[.int .u32, .int .u32, .int .u32, .int .u32, .int .u32, .int .u32, .int .u32, .int .u32, .int .u32, .int .u32, .int .u32, .int .u32, .int .u32, .int .u32, .int .u32, .int .u32, .int .u32, .int .u32, .int .u32, .int .u32, .int .u32, .int .u32, .int .u32, .int .u32, .int .u32, .sl [.int .u32], .str, .bool, .int .u32, .bool, .int .u32, .int .u32, .int .u32, .int .i64, .int .i64, .int .u32, .int .u32, .str, .int .u32, .int .u32, .bool, .int .u32, .bool, .int .u32, .int .u32, .int .u32, .int .u64, .bool, .bool, .int .u32, .sl [.int .u64, .int .i64, .int .u32, .str], .sl [.int .i64, .int .u32, .str]]),(false,[.bool]),(true,[.int .i64, .int .u32, .str]),(false,[.bool]),(false,[.int .i64]),(false,[.int .u32])]
theorem sigOK:SigOK Tryz.prog 8 Tryz.f3.params.toList sig:=by
 rw[Tryz.params3]
 exact⟨by kernel_rfl,by kernel_rfl,by kernel_rfl,of_decide_eq_true (by kernel_rfl),⟨by kernel_rfl,by kernel_rfl,by kernel_rfl,of_decide_eq_true (by kernel_rfl),⟨by kernel_rfl,by kernel_rfl,by kernel_rfl,of_decide_eq_true (by kernel_rfl),⟨by kernel_rfl,by kernel_rfl,by kernel_rfl,of_decide_eq_true (by kernel_rfl),⟨by kernel_rfl,by kernel_rfl,by kernel_rfl,of_decide_eq_true (by kernel_rfl),⟨by kernel_rfl,by kernel_rfl,by kernel_rfl,of_decide_eq_true (by kernel_rfl),⟨by kernel_rfl,by kernel_rfl,by kernel_rfl,of_decide_eq_true (by kernel_rfl),⟨by kernel_rfl,by kernel_rfl,by kernel_rfl,of_decide_eq_true (by kernel_rfl),⟨by kernel_rfl,by kernel_rfl,by kernel_rfl,of_decide_eq_true (by kernel_rfl),⟨by kernel_rfl,by kernel_rfl,by kernel_rfl,of_decide_eq_true (by kernel_rfl),⟨by kernel_rfl,by kernel_rfl,by kernel_rfl,of_decide_eq_true (by kernel_rfl),trivial⟩⟩⟩⟩⟩⟩⟩⟩⟩⟩⟩
theorem called(Ds:List D)(h:FitA sig Ds):Q5c Tryz.prog 3 Ds [] (.bool true) []:=by
 obtain⟨d1,Ds,rfl,h1,h⟩:=Qhi h
 obtain⟨d2,Ds,rfl,h2,h⟩:=Qhi h
 obtain⟨d3,Ds,rfl,h3,h⟩:=Qhi h
 obtain⟨d4,Ds,rfl,h4,h⟩:=Qhi h
 obtain⟨d5,Ds,rfl,h5,h⟩:=Qhi h
 obtain⟨es,Ds,rfl,h6,h⟩:=Zj6 h
 obtain⟨d7,Ds,rfl,h7,h⟩:=Qhi h
 obtain⟨fs,Ds,rfl,h8,h⟩:=Zj6 h
 obtain⟨d9,Ds,rfl,h9,h⟩:=Qhi h
 obtain⟨d10,Ds,rfl,h10,h⟩:=Qhi h
 obtain⟨d11,Ds,rfl,h11,h⟩:=Qhi h
 obtain rfl:=fitA_nil h
 obtain⟨kind,rfl,_⟩:=Q1o (Qhm h1)
 obtain⟨l,rfl,r1,_⟩:=Z8u (Qhm h2)
 obtain⟨acts,rfl,r2,_⟩:=Z8u (Qhm h3)
 obtain⟨where0,rfl,_⟩:=Q1o (Qhm h4)
 obtain⟨what,rfl,_⟩:=Q1o (Qhm h5)
 obtain⟨r,hr,hv,hrc,hru⟩:=Z7p h6
 obtain⟨raw,rfl⟩:=Qk0 (Qhm h7)
 obtain⟨e,rfl,he⟩:=Qv5 h8
 obtain⟨made,rfl⟩:=Qk0 (Qhm h9)
 obtain⟨steps,rfl,_⟩:=Q1o (Qhm h10)
 obtain⟨clock,rfl,b11⟩:=Q1o (Qhm h11)
 obtain⟨g1,g2⟩:=tells kind l acts where0 what hv hrc hru raw he made steps (u_of b11) r1
 have:=(Qpq.absW rfl [.int .i64 kind, .sl 1 (.ints .i64 l) false, .sl 1 (.ints .i64 acts) false, .int .i64 where0, .int .i64 what, .agg r.cells, .bool raw, .agg e.cells, .bool made, .int .i64 steps, .int .u32 clock] [] _ Bool (Qez kind l acts where0 what r raw e made steps clock) (λX=> .bool X) (λX=>[]) (by rfl) g1).1
 rw[g2]at this
 exact Q5c.sub (args':=[.int .i64 kind, .sl 1 (.ints .i64 l) false, .sl 1 (.ints .i64 acts) false, .int .i64 where0, .int .i64 what, .agg r.cells, .bool raw, .agg e.cells, .bool made, .int .i64 steps, .int .u32 clock]) ⟨Sub1.rfl,Sub1.rfl,Sub1.rfl,Sub1.rfl,Sub1.rfl,hr,Sub1.rfl,SubL.rfl,Sub1.rfl,Sub1.rfl,Sub1.rfl,trivial⟩ this
set_option maxRecDepth 100000 in
theorem lifted(os:Os)(started:os.Started)(H:Type)(enc:TypeId×Value→H):
   ReturnsInHanded {} Tryz.checked os 3 .any (Rows.recordTellsSpec.pre6 enc Tryz.prog Tryz.f3 Rows.recordTellsRow.domain false) (Rows.recordTellsSpec.post enc Tryz.prog Tryz.f3 false true false false):=by
 refine returnsInHanded_of_change_sized (C:=Tryz.checked) own started (by kernel_rfl) Tryz.func3
   (ChangeSpec.witness6 (enc:=enc) (C:=Tryz.checked) false ⟨#[], #[.int .i64 0, .slice none 0 0, .slice none 0 0, .int .i64 0, .int .i64 0, .agg #[.int .u32 0, .int .u32 0, .int .u32 0, .int .u32 0, .int .u32 0, .int .u32 0, .int .u32 0, .int .u32 0, .int .u32 0, .int .u32 0, .int .u32 0, .int .u32 0, .int .u32 0, .int .u32 0, .int .u32 0, .int .u32 0, .int .u32 0, .int .u32 0, .int .u32 0, .int .u32 0, .int .u32 0, .int .u32 0, .int .u32 0, .int .u32 0, .int .u32 0, .slice none 0 0, .string ⟨#[]⟩, .bool false, .int .u32 0, .bool false, .int .u32 0, .int .u32 0, .int .u32 0, .int .i64 0, .int .i64 0, .int .u32 0, .int .u32 0, .string ⟨#[]⟩, .int .u32 0, .int .u32 0, .bool false, .int .u32 0, .bool false, .int .u32 0, .int .u32 0, .int .u32 0, .int .u64 0, .bool false, .bool false, .int .u32 0, .slice none 0 0, .slice none 0 0], .bool false, .agg #[.int .i64 0, .int .u32 0, .string ⟨#[]⟩], .bool false, .int .i64 0, .int .u32 0],[]⟩ 8 (by kernel_rfl) (by kernel_rfl) (by kernel_rfl) (by kernel_rfl)) ?_
 intro W base args ds gs before hval0 hW hcnd hsz _
 exact Zk4 laidOut sigOK (by kernel_rfl) Tryz.underlying4 rfl (λds hd=>by match ds,hd with|[d0,d1,d2,d3,d4,d5,d6,d7,d8,d9,d10],_=>exact⟨rfl,rfl,rfl⟩) called W base args ds gs before hval0 hW hsz
theorem named:Tryz.pinned.checked.prog.funcNamed Rows.recordTellsRow.func=some 3:=by kernel_rfl
theorem inst:Tryz.f3.isInstance Tryz.pinned.checked.prog Rows.recordTellsRow.origin Rows.recordTellsRow.targs:=of_decide_eq_true (by kernel_rfl)
theorem wrap:Tryz.f3.isWrapper Tryz.pinned.checked.prog Rows.recordTellsRow.wrapper Rows.recordTellsRow.mainSum:=by unfold Func.isWrapper;first|(rw[if_pos (by decide+kernel)];kernel_rfl)|(rw[if_neg (by decide+kernel)];exact⟨rfl,rfl⟩)
theorem over:Rows.recordTellsRow.holds Tryz.pinned (OpenSpec.ofChange Rows.recordTellsSpec):=
 OpenClaim.holds_of_wide 3 Tryz.f3 rfl rfl rfl rfl rfl rfl rfl ⟨rfl,rfl,rfl,rfl,rfl⟩ rfl rfl rfl rfl rfl named Tryz.func3 facts inst wrap (λos started H enc _=>lifted os started H enc)
theorem proved:Rows.RecordTellsSaid:=over
#print axioms proved
end Go.Proofs.YtpcbkbalabgnlaaGreat.recordTells

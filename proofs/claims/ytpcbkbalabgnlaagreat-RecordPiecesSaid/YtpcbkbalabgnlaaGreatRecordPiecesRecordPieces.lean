/-
  PROVED: 'Rows.RecordPiecesSaid': whatever the input: vmfleetlaw21.RecordPieces returns true, and each argument reads behind the call as it read before. No condition.
-/
import Derived.Test.YtpcbkbalabgnlaaGreatRows
import Derived.WalkKit
import Derived.ProofKit
import Derived.OpenShut
import Derived.ShutString
import Derived.ChangeOld
import Derived.Below
import Derived.SizedLaws
import Derived.Test.YtpcbkbalabgnlaaGreatRecordPiecesLaw
import Derived.Test.YtpcbkbalabgnlaaGreatRecordPiecesFacts
import Derived.Test.YtpcbkbalabgnlaaGreatRecordPiecesFin2
set_option linter.unusedVariables false
namespace Go.Proofs.YtpcbkbalabgnlaaGreat.recordPieces
open Go Go.GD Go.ChangeShapes Go.WideShapes Go.ChangeAt Go.RowKit
theorem own:ownKnob Tryz.prog.godebug=none:=by kernel_rfl
theorem laidOut:laidOutB Tryz.prog=true:=by kernel_rfl
def sig:List (Bool×List STy):=[(false,[.int .i64]),(false,[.sl [.int .i64]]),(false,[.sl [.int .i64]]),(false,[.int .i64]),(false,[.int .i64]),(false,[.int .u32])]
theorem sigOK:SigOK Tryz.prog 8 Tryz.f4.params.toList sig:=by
 rw[Tryz.params4]
 exact⟨by kernel_rfl,by kernel_rfl,by kernel_rfl,of_decide_eq_true (by kernel_rfl),⟨by kernel_rfl,by kernel_rfl,by kernel_rfl,of_decide_eq_true (by kernel_rfl),⟨by kernel_rfl,by kernel_rfl,by kernel_rfl,of_decide_eq_true (by kernel_rfl),⟨by kernel_rfl,by kernel_rfl,by kernel_rfl,of_decide_eq_true (by kernel_rfl),⟨by kernel_rfl,by kernel_rfl,by kernel_rfl,of_decide_eq_true (by kernel_rfl),⟨by kernel_rfl,by kernel_rfl,by kernel_rfl,of_decide_eq_true (by kernel_rfl),trivial⟩⟩⟩⟩⟩⟩
theorem called(Ds:List D)(h:FitA sig Ds):Q5a Tryz.prog 4 Ds [] (.bool true) []:=by
 obtain⟨d1,Ds,rfl,h1,h⟩:=Qo7 h
 obtain⟨d2,Ds,rfl,h2,h⟩:=Qo7 h
 obtain⟨d3,Ds,rfl,h3,h⟩:=Qo7 h
 obtain⟨d4,Ds,rfl,h4,h⟩:=Qo7 h
 obtain⟨d5,Ds,rfl,h5,h⟩:=Qo7 h
 obtain⟨d6,Ds,rfl,h6,h⟩:=Qo7 h
 obtain rfl:=fitA_nil h
 obtain⟨kind,rfl,b1⟩:=Z80 (Qom h1)
 obtain⟨l,rfl,r2,_⟩:=Zic (Qom h2)
 obtain⟨acts,rfl,r3,_⟩:=Zic (Qom h3)
 obtain⟨one,rfl,b4⟩:=Z80 (Qom h4)
 obtain⟨two,rfl,b5⟩:=Z80 (Qom h5)
 obtain⟨clock,rfl,b6⟩:=Z80 (Qom h6)
 have uu: ∀{x:Int},(IntKind.u32.min≤x∧x≤IntKind.u32.max)→U x:=λh=>⟨h.1,by have:IntKind.u32.max=4294967295:=rfl;have:=h.2;omega⟩
 obtain⟨g1,g2⟩:=pieces kind l acts one two clock (uu b6) r2
 have:=(Qn8.absW rfl [.int .i64 kind, .sl 1 (.ints .i64 l) false, .sl 1 (.ints .i64 acts) false, .int .i64 one, .int .i64 two, .int .u32 clock] [] _ Bool (Qdi kind l acts one two clock) (λX=> .bool X) (λX=>[]) (by rfl) g1).1
 rw[g2]at this
 exact this
set_option maxRecDepth 100000 in
theorem lifted(os:Os)(started:os.Started)(H:Type)(enc:TypeId×Value→H):
   ReturnsInHanded {} Tryz.checked os 4 .any (Rows.recordPiecesSpec.pre6 enc Tryz.prog Tryz.f4 Rows.recordPiecesRow.domain false) (Rows.recordPiecesSpec.post enc Tryz.prog Tryz.f4 false true false false):=by
 refine returnsInHanded_of_change_sized (C:=Tryz.checked) own started (by kernel_rfl) Tryz.func4
   (ChangeSpec.witness6 (enc:=enc) (C:=Tryz.checked) false ⟨#[], #[.int .i64 0, .slice none 0 0, .slice none 0 0, .int .i64 0, .int .i64 0, .int .u32 0],[]⟩ 8 (by kernel_rfl) (by kernel_rfl) (by kernel_rfl) (by kernel_rfl)) ?_
 intro W base args ds gs before hval0 hW hcnd hsz _
 exact Zlc laidOut sigOK (by kernel_rfl) Tryz.underlying4 rfl (λds hd=>by match ds,hd with|[d0,d1,d2,d3,d4,d5],_=>exact⟨rfl,rfl,rfl⟩) called W base args ds gs before hval0 hW hsz
theorem named:Tryz.pinned.checked.prog.funcNamed Rows.recordPiecesRow.func=some 4:=by kernel_rfl
theorem inst:Tryz.f4.isInstance Tryz.pinned.checked.prog Rows.recordPiecesRow.origin Rows.recordPiecesRow.targs:=of_decide_eq_true (by kernel_rfl)
theorem wrap:Tryz.f4.isWrapper Tryz.pinned.checked.prog Rows.recordPiecesRow.wrapper Rows.recordPiecesRow.mainSum:=by unfold Func.isWrapper;first|(rw[if_pos (by decide+kernel)];kernel_rfl)|(rw[if_neg (by decide+kernel)];exact⟨rfl,rfl⟩)
theorem over:Rows.recordPiecesRow.holds Tryz.pinned (OpenSpec.ofChange Rows.recordPiecesSpec):=
 OpenClaim.holds_of_wide 4 Tryz.f4 rfl rfl rfl rfl rfl rfl rfl ⟨rfl,rfl,rfl,rfl,rfl⟩ rfl rfl rfl rfl rfl named Tryz.func4 facts inst wrap (λos started H enc _=>lifted os started H enc)
theorem proved:Rows.RecordPiecesSaid:=over
#print axioms proved
end Go.Proofs.YtpcbkbalabgnlaaGreat.recordPieces

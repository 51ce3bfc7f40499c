/-
  PROVED: 'Rows.RecordBareSaid': whatever the input: vmfleetlaw21.RecordBare returns true, and each argument reads behind the call as it read before. No condition.
-/
import Derived.Test.YtpcbkbalabgnlaaGreatRows
import Derived.WalkKit
import Derived.ProofKit
import Derived.OpenShut
import Derived.ShutString
import Derived.ChangeOld
import Derived.Below
import Derived.SizedLaws
import Derived.Test.YtpcbkbalabgnlaaGreatRecordBareLaw
import Derived.Test.YtpcbkbalabgnlaaGreatRecordBareFacts
import Derived.Test.YtpcbkbalabgnlaaGreatRecordBareFin2
set_option linter.unusedVariables false
namespace Go.Proofs.YtpcbkbalabgnlaaGreat.recordBare
open Go Go.GD Go.ChangeShapes Go.WideShapes Go.ChangeAt Go.RowKit
theorem own:ownKnob Tryz.prog.godebug=none:=by kernel_rfl
theorem laidOut:laidOutB Tryz.prog=true:=by kernel_rfl
def sig:List (Bool×List STy):=[(false,[.int .i64]),(false,[.sl [.int .i64]]),(false,[.sl [.int .i64]])]
theorem sigOK:SigOK Tryz.prog 8 Tryz.f10.params.toList sig:=by
 rw[Tryz.params10]
 exact⟨by kernel_rfl,by kernel_rfl,by kernel_rfl,of_decide_eq_true (by kernel_rfl),⟨by kernel_rfl,by kernel_rfl,by kernel_rfl,of_decide_eq_true (by kernel_rfl),⟨by kernel_rfl,by kernel_rfl,by kernel_rfl,of_decide_eq_true (by kernel_rfl),trivial⟩⟩⟩
theorem called(Ds:List D)(h:FitA sig Ds):Q5g Tryz.prog 10 Ds [] (.bool true) []:=by
 obtain⟨d1,Ds,rfl,h1,h⟩:=Z85 h
 obtain⟨d2,Ds,rfl,h2,h⟩:=Z85 h
 obtain⟨d3,Ds,rfl,h3,h⟩:=Z85 h
 obtain rfl:=fitA_nil h
 obtain⟨kind,rfl,b1⟩:=fit_int (Z7e h1)
 obtain⟨l,rfl,r2,_⟩:=Zi4 (Z7e h2)
 obtain⟨acts,rfl,r3,_⟩:=Zi4 (Z7e h3)
 obtain⟨g1,g2⟩:=bares kind l acts r2
 have:=(Qqf.absW rfl [.int .i64 kind, .sl 1 (.ints .i64 l) false, .sl 1 (.ints .i64 acts) false] [] _ Bool (Qg1 kind l acts) (λX=> .bool X) (λX=>[]) (by rfl) g1).1
 rw[g2]at this
 exact this
set_option maxRecDepth 100000 in
theorem lifted(os:Os)(started:os.Started)(H:Type)(enc:TypeId×Value→H):
   ReturnsInHanded {} Tryz.checked os 10 .any (Rows.recordBareSpec.pre6 enc Tryz.prog Tryz.f10 Rows.recordBareRow.domain false) (Rows.recordBareSpec.post enc Tryz.prog Tryz.f10 false true false false):=by
 refine returnsInHanded_of_change_sized (C:=Tryz.checked) own started (by kernel_rfl) Tryz.func10
   (ChangeSpec.witness6 (enc:=enc) (C:=Tryz.checked) false ⟨#[], #[.int .i64 0, .slice none 0 0, .slice none 0 0],[]⟩ 8 (by kernel_rfl) (by kernel_rfl) (by kernel_rfl) (by kernel_rfl)) ?_
 intro W base args ds gs before hval0 hW hcnd hsz _
 exact Zjq laidOut sigOK (by kernel_rfl) Tryz.underlying4 rfl (λds hd=>by match ds,hd with|[d0,d1,d2],_=>exact⟨rfl,rfl,rfl⟩) called W base args ds gs before hval0 hW hsz
theorem named:Tryz.pinned.checked.prog.funcNamed Rows.recordBareRow.func=some 10:=by kernel_rfl
theorem inst:Tryz.f10.isInstance Tryz.pinned.checked.prog Rows.recordBareRow.origin Rows.recordBareRow.targs:=of_decide_eq_true (by kernel_rfl)
theorem wrap:Tryz.f10.isWrapper Tryz.pinned.checked.prog Rows.recordBareRow.wrapper Rows.recordBareRow.mainSum:=by unfold Func.isWrapper;first|(rw[if_pos (by decide+kernel)];kernel_rfl)|(rw[if_neg (by decide+kernel)];exact⟨rfl,rfl⟩)
theorem over:Rows.recordBareRow.holds Tryz.pinned (OpenSpec.ofChange Rows.recordBareSpec):=
 OpenClaim.holds_of_wide 10 Tryz.f10 rfl rfl rfl rfl rfl rfl rfl ⟨rfl,rfl,rfl,rfl,rfl⟩ rfl rfl rfl rfl rfl named Tryz.func10 facts inst wrap (λos started H enc _=>lifted os started H enc)
theorem proved:Rows.RecordBareSaid:=over
#print axioms proved
end Go.Proofs.YtpcbkbalabgnlaaGreat.recordBare

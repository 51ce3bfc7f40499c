import Derived.Test.YtaemmjbkndlkeaaGreatMigrateOneFacts
import Derived.Test.YtaemmjbkndlkeaaGreatMigrateOneFin2
set_option linter.all false
namespace Go.Proofs.YtaemmjbkndlkeaaGreat.migrateOne
open Go Go.GD Go.ChangeShapes Go.WideShapes Go.ChangeAt Go.RowKit
theorem own:ownKnob Tryz.prog.godebug=none:=by kernel_rfl
theorem laidOut:laidOutB Tryz.prog=true:=by kernel_rfl
def sig:List (Bool×List lh):=[(false,[.int .i64]),(false,[.sl [.int .i64]]),(false,[.sl [.int .i64]])]
theorem QY:se Tryz.prog 8 Tryz.f5.params.toList sig:=by
 rw[Tryz.params5]
 exact⟨by kernel_rfl,by kernel_rfl,by kernel_rfl,oY (by kernel_rfl),⟨by kernel_rfl,by kernel_rfl,by kernel_rfl,oY (by kernel_rfl),⟨by kernel_rfl,by kernel_rfl,by kernel_rfl,oY (by kernel_rfl),trivial⟩⟩⟩
theorem called(Ds:List D)(h:kQ sig Ds):kg Tryz.prog 5 Ds [] (.bool true) []:=by
 obtain⟨d1,Ds,rfl,h1,h⟩:=Wc h
 obtain⟨d2,Ds,rfl,h2,h⟩:=Wc h
 obtain⟨d3,Ds,rfl,h3,h⟩:=Wc h
 obtain rfl:=zH h
 obtain⟨kind,rfl,_⟩:=qaf (Wd h1)
 obtain⟨prog,rfl,r2,_⟩:=Zod (Wd h2)
 obtain⟨l,rfl,_,_⟩:=Zod (Wd h3)
 obtain⟨g1,g2⟩:=Tree.pp (W:=λr=>r=true) (Pe kind prog l r2)
 have:=(Qv7.kW rfl [.int .i64 kind,.sl 1 (.ints .i64 prog) false,.sl 1 (.ints .i64 l) false] [] _ Bool (Qhf kind prog l) (λX=>.bool X) (λX=>[]) (by rfl) g1).1
 rw[show Qhf kind prog l=true from g2]at this
 exact this
set_option maxRecDepth 100000 in
theorem lifted(os:Os)(started:os.Started)(H:Type)(enc:TypeId×Value->H):
 ReturnsInHanded {} Tryz.checked os 5 .any (Rows.migrateOneSpec.pre6 enc Tryz.prog Tryz.f5 Rows.migrateOneRow.domain false) (Rows.migrateOneSpec.post enc Tryz.prog Tryz.f5 false true false false):=by
 refine returnsInHanded_of_change_sized (C:=Tryz.checked) own started (by kernel_rfl) Tryz.func5
  (ChangeSpec.witness6 (enc:=enc) (C:=Tryz.checked) false ⟨#[],#[.int .i64 0,.slice none 0 0,.slice none 0 0],[]⟩ 8 (by kernel_rfl) (by kernel_rfl) (by kernel_rfl) (by kernel_rfl)) ?_
 intro W base args ds gs before QZ hW Jao fq _
 exact Zs1 laidOut QY (by kernel_rfl) Tryz.underlying4 rfl (λds hd=>by match ds,hd with|[d0,d1,d2],_=>exact⟨rfl,rfl,rfl⟩) called W base args ds gs before QZ hW fq (λ_ hx=>nomatch hx)
theorem named:Tryz.pinned.checked.prog.funcNamed Rows.migrateOneRow.func=some 5:=by kernel_rfl
theorem inst:Tryz.f5.isInstance Tryz.pinned.checked.prog Rows.migrateOneRow.origin Rows.migrateOneRow.targs:=oY (by kernel_rfl)
theorem wrap:Tryz.f5.isWrapper Tryz.pinned.checked.prog Rows.migrateOneRow.wrapper Rows.migrateOneRow.mainSum:=by unfold Func.isWrapper;first|(rw[if_pos (by decide+kernel)];kernel_rfl)|(rw[if_neg (by decide+kernel)];exact⟨rfl,rfl⟩)
theorem ZM:Rows.migrateOneRow.holds Tryz.pinned (OpenSpec.ofChange Rows.migrateOneSpec):=
 OpenClaim.holds_of_wide 5 Tryz.f5 rfl rfl rfl rfl rfl rfl rfl ⟨rfl,rfl,rfl,rfl,rfl⟩ rfl rfl rfl rfl rfl named Tryz.func5 facts inst wrap (λos started H enc _=>lifted os started H enc)
theorem proved:Rows.MigrateOneSaid:=ZM
#print axioms proved

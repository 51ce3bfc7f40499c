import Derived.Test.YtaemmjbkndlkeaaGreatMigrateEndsFacts
import Derived.Test.YtaemmjbkndlkeaaGreatMigrateEndsFin2
set_option linter.all false
namespace Go.Proofs.YtaemmjbkndlkeaaGreat.migrateEnds
open Go Go.GD Go.ChangeShapes Go.WideShapes Go.ChangeAt Go.RowKit
theorem own:ownKnob Tryz.prog.godebug=none:=by kernel_rfl
theorem laidOut:laidOutB Tryz.prog=true:=by kernel_rfl
def sig:List (Bool×List lB):=[(false,[.int .i64]),(false,[.sl [.int .i64]]),(false,[.sl [.int .i64]])]
theorem Rw:sw Tryz.prog 8 Tryz.f7.params.toList sig:=by
 rw[Tryz.params7]
 exact⟨by kernel_rfl,by kernel_rfl,by kernel_rfl,oY (by kernel_rfl),⟨by kernel_rfl,by kernel_rfl,by kernel_rfl,oY (by kernel_rfl),⟨by kernel_rfl,by kernel_rfl,by kernel_rfl,oY (by kernel_rfl),trivial⟩⟩⟩
theorem called(Ds:List D)(h:lg sig Ds):ku Tryz.prog 7 Ds [] (.bool true) []:=by
 obtain⟨d1,Ds,rfl,h1,h⟩:=WJ h
 obtain⟨d2,Ds,rfl,h2,h⟩:=WJ h
 obtain⟨d3,Ds,rfl,h3,h⟩:=WJ h
 obtain rfl:=qI h
 obtain⟨kind,rfl,_⟩:=xaf (WK h1)
 obtain⟨prog,rfl,r2,_⟩:=Zqp (WK h2)
 obtain⟨l,rfl,_,_⟩:=Zqp (WK h3)
 obtain⟨g1,g2⟩:=Tree.pp (W:=λr=>r=true) (PB kind prog l r2)
 have:=(Qun.lr rfl [.int .i64 kind,.sl 1 (.ints .i64 prog) false,.sl 1 (.ints .i64 l) false] [] _ Bool (Qg4 kind prog l) (λX=>.bool X) (λX=>[]) (by rfl) g1).1
 rw[show Qg4 kind prog l=true from g2]at this
 exact this
set_option maxRecDepth 100000 in
theorem lifted(os:Os)(started:os.Started)(H:Type)(enc:TypeId×Value->H):
 ReturnsInHanded {} Tryz.checked os 7 .any (Rows.migrateEndsSpec.pre6 enc Tryz.prog Tryz.f7 Rows.migrateEndsRow.domain false) (Rows.migrateEndsSpec.post enc Tryz.prog Tryz.f7 false true false false):=by
 refine returnsInHanded_of_change_sized (C:=Tryz.checked) own started (by kernel_rfl) Tryz.func7
  (ChangeSpec.witness6 (enc:=enc) (C:=Tryz.checked) false ⟨#[],#[.int .i64 0,.slice none 0 0,.slice none 0 0],[]⟩ 8 (by kernel_rfl) (by kernel_rfl) (by kernel_rfl) (by kernel_rfl)) ?_
 intro W base args ds gs before Rx hW Jax ft _
 exact Zt laidOut Rw (by kernel_rfl) Tryz.underlying4 rfl (λds hd=>by match ds,hd with|[d0,d1,d2],_=>exact⟨rfl,rfl,rfl⟩) called W base args ds gs before Rx hW ft (λ_ hx=>nomatch hx)
theorem named:Tryz.pinned.checked.prog.funcNamed Rows.migrateEndsRow.func=some 7:=by kernel_rfl
theorem inst:Tryz.f7.isInstance Tryz.pinned.checked.prog Rows.migrateEndsRow.origin Rows.migrateEndsRow.targs:=oY (by kernel_rfl)
theorem wrap:Tryz.f7.isWrapper Tryz.pinned.checked.prog Rows.migrateEndsRow.wrapper Rows.migrateEndsRow.mainSum:=by unfold Func.isWrapper;first|(rw[if_pos (by decide+kernel)];kernel_rfl)|(rw[if_neg (by decide+kernel)];exact⟨rfl,rfl⟩)
theorem Jah:Rows.migrateEndsRow.holds Tryz.pinned (OpenSpec.ofChange Rows.migrateEndsSpec):=
 OpenClaim.holds_of_wide 7 Tryz.f7 rfl rfl rfl rfl rfl rfl rfl ⟨rfl,rfl,rfl,rfl,rfl⟩ rfl rfl rfl rfl rfl named Tryz.func7 facts inst wrap (λos started H enc _=>lifted os started H enc)
theorem proved:Rows.MigrateEndsSaid:=Jah
#print axioms proved

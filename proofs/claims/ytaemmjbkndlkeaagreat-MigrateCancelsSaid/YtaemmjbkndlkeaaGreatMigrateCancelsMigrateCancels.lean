import Derived.Test.YtaemmjbkndlkeaaGreatMigrateCancelsFacts
import Derived.Test.YtaemmjbkndlkeaaGreatMigrateCancelsFin2
set_option linter.all false
namespace Go.Proofs.YtaemmjbkndlkeaaGreat.migrateCancels
open Go Go.GD Go.ChangeShapes Go.WideShapes Go.ChangeAt Go.RowKit
theorem own:ownKnob Tryz.prog.godebug=none:=by kernel_rfl
theorem laidOut:laidOutB Tryz.prog=true:=by kernel_rfl
def sig:List (Bool×List lI):=[(false,[.int .i64]),(false,[.sl [.int .i64]]),(false,[.sl [.int .i64]]),(false,[.sl [.int .i64]]),(false,[.bool])]
theorem RM:sK Tryz.prog 8 Tryz.f9.params.toList sig:=by
 rw[Tryz.params9]
 exact⟨by kernel_rfl,by kernel_rfl,by kernel_rfl,oY (by kernel_rfl),⟨by kernel_rfl,by kernel_rfl,by kernel_rfl,oY (by kernel_rfl),⟨by kernel_rfl,by kernel_rfl,by kernel_rfl,oY (by kernel_rfl),⟨by kernel_rfl,by kernel_rfl,by kernel_rfl,oY (by kernel_rfl),⟨by kernel_rfl,by kernel_rfl,by kernel_rfl,oY (by kernel_rfl),trivial⟩⟩⟩⟩⟩
theorem called(Ds:List D)(h:lq sig Ds):kG Tryz.prog 9 Ds [] (.bool true) []:=by
 obtain⟨d1,Ds,rfl,h1,h⟩:=NA h
 obtain⟨d2,Ds,rfl,h2,h⟩:=NA h
 obtain⟨d3,Ds,rfl,h3,h⟩:=NA h
 obtain⟨d4,Ds,rfl,h4,h⟩:=NA h
 obtain⟨d5,Ds,rfl,h5,h⟩:=NA h
 obtain rfl:=zH h
 obtain⟨kind,rfl,_⟩:=xae (NB h1)
 obtain⟨prog,rfl,r2,_⟩:=WU (NB h2)
 obtain⟨before,rfl,_,_⟩:=WU (NB h3)
 obtain⟨after,rfl,_,_⟩:=WU (NB h4)
 obtain⟨back,rfl⟩:=yH (NB h5)
 obtain⟨g1,g2⟩:=Tree.pp (W:=λr=>r=true) (PM kind prog before after back r2)
 have:=(Qo8.lB rfl [.int .i64 kind,.sl 1 (.ints .i64 prog) false,.sl 1 (.ints .i64 before) false,.sl 1 (.ints .i64 after) false,.bool back] [] _ Bool (Qb9 kind prog before after back) (λX=>.bool X) (λX=>[]) (by rfl) g1).1
 rw[show Qb9 kind prog before after back=true from g2]at this
 exact this
set_option maxRecDepth 100000 in
theorem lifted(os:Os)(started:os.Started)(H:Type)(enc:TypeId×Value->H):
 ReturnsInHanded {} Tryz.checked os 9 .any (Rows.migrateCancelsSpec.pre6 enc Tryz.prog Tryz.f9 Rows.migrateCancelsRow.domain false) (Rows.migrateCancelsSpec.post enc Tryz.prog Tryz.f9 false true false false):=by
 refine returnsInHanded_of_change_sized (C:=Tryz.checked) own started (by kernel_rfl) Tryz.func9
  (ChangeSpec.witness6 (enc:=enc) (C:=Tryz.checked) false ⟨#[],#[.int .i64 0,.slice none 0 0,.slice none 0 0,.slice none 0 0,.bool false],[]⟩ 8 (by kernel_rfl) (by kernel_rfl) (by kernel_rfl) (by kernel_rfl)) ?_
 intro W base args ds gs before RN hW Jaz gd _
 exact Zsw laidOut RM (by kernel_rfl) Tryz.underlying4 rfl (λds hd=>by match ds,hd with|[d0,d1,d2,d3,d4],_=>exact⟨rfl,rfl,rfl⟩) called W base args ds gs before RN hW gd (λ_ hx=>nomatch hx)
theorem named:Tryz.pinned.checked.prog.funcNamed Rows.migrateCancelsRow.func=some 9:=by kernel_rfl
theorem inst:Tryz.f9.isInstance Tryz.pinned.checked.prog Rows.migrateCancelsRow.origin Rows.migrateCancelsRow.targs:=oY (by kernel_rfl)
theorem wrap:Tryz.f9.isWrapper Tryz.pinned.checked.prog Rows.migrateCancelsRow.wrapper Rows.migrateCancelsRow.mainSum:=by unfold Func.isWrapper;first|(rw[if_pos (by decide+kernel)];kernel_rfl)|(rw[if_neg (by decide+kernel)];exact⟨rfl,rfl⟩)
theorem Jaj:Rows.migrateCancelsRow.holds Tryz.pinned (OpenSpec.ofChange Rows.migrateCancelsSpec):=
 OpenClaim.holds_of_wide 9 Tryz.f9 rfl rfl rfl rfl rfl rfl rfl ⟨rfl,rfl,rfl,rfl,rfl⟩ rfl rfl rfl rfl rfl named Tryz.func9 facts inst wrap (λos started H enc _=>lifted os started H enc)
theorem proved:Rows.MigrateCancelsSaid:=Jaj
#print axioms proved

import Derived.Test.YtaemmjbkndlkeaaGreatMigrateContinuesFacts
import Derived.Test.YtaemmjbkndlkeaaGreatMigrateContinuesFin2
set_option linter.all false
namespace Go.Proofs.YtaemmjbkndlkeaaGreat.migrateContinues
open Go Go.GD Go.ChangeShapes Go.WideShapes Go.ChangeAt Go.RowKit
theorem own:ownKnob Tryz.prog.godebug=none:=by kernel_rfl
theorem laidOut:laidOutB Tryz.prog=true:=by kernel_rfl
def sig:List (Bool×List lq):=[(false,[.int .i64]),(false,[.sl [.int .i64]]),(false,[.sl [.int .i64]])]
theorem Re:se Tryz.prog 8 Tryz.f6.params.toList sig:=by
 rw[Tryz.params6]
 exact⟨by kernel_rfl,by kernel_rfl,by kernel_rfl,oY (by kernel_rfl),⟨by kernel_rfl,by kernel_rfl,by kernel_rfl,oY (by kernel_rfl),⟨by kernel_rfl,by kernel_rfl,by kernel_rfl,oY (by kernel_rfl),trivial⟩⟩⟩
theorem called(Ds:List D)(h:kR sig Ds):kg Tryz.prog 6 Ds [] (.bool true) []:=by
 obtain⟨d1,Ds,rfl,h1,h⟩:=Wn h
 obtain⟨d2,Ds,rfl,h2,h⟩:=Wn h
 obtain⟨d3,Ds,rfl,h3,h⟩:=Wn h
 obtain rfl:=zH h
 obtain⟨kind,rfl,_⟩:=xaf (Wo h1)
 obtain⟨prog,rfl,r2,_⟩:=Zq6 (Wo h2)
 obtain⟨l,rfl,_,_⟩:=Zq6 (Wo h3)
 obtain⟨g1,g2⟩:=Tree.pp (W:=λr=>r=true) (Pj kind prog l r2)
 have:=(Qm9.kY rfl [.int .i64 kind,.sl 1 (.ints .i64 prog) false,.sl 1 (.ints .i64 l) false] [] _ Bool (Q97 kind prog l) (λX=>.bool X) (λX=>[]) (by rfl) g1).1
 rw[show Q97 kind prog l=true from g2]at this
 exact this
set_option maxRecDepth 100000 in
theorem lifted(os:Os)(started:os.Started)(H:Type)(enc:TypeId×Value->H):
 ReturnsInHanded {} Tryz.checked os 6 .any (Rows.migrateContinuesSpec.pre6 enc Tryz.prog Tryz.f6 Rows.migrateContinuesRow.domain false) (Rows.migrateContinuesSpec.post enc Tryz.prog Tryz.f6 false true false false):=by
 refine returnsInHanded_of_change_sized (C:=Tryz.checked) own started (by kernel_rfl) Tryz.func6
  (ChangeSpec.witness6 (enc:=enc) (C:=Tryz.checked) false ⟨#[],#[.int .i64 0,.slice none 0 0,.slice none 0 0],[]⟩ 8 (by kernel_rfl) (by kernel_rfl) (by kernel_rfl) (by kernel_rfl)) ?_
 intro W base args ds gs before Rf hW Jap fp _
 exact Zry laidOut Re (by kernel_rfl) Tryz.underlying4 rfl (λds hd=>by match ds,hd with|[d0,d1,d2],_=>exact⟨rfl,rfl,rfl⟩) called W base args ds gs before Rf hW fp (λ_ hx=>nomatch hx)
theorem named:Tryz.pinned.checked.prog.funcNamed Rows.migrateContinuesRow.func=some 6:=by kernel_rfl
theorem inst:Tryz.f6.isInstance Tryz.pinned.checked.prog Rows.migrateContinuesRow.origin Rows.migrateContinuesRow.targs:=oY (by kernel_rfl)
theorem wrap:Tryz.f6.isWrapper Tryz.pinned.checked.prog Rows.migrateContinuesRow.wrapper Rows.migrateContinuesRow.mainSum:=by unfold Func.isWrapper;first|(rw[if_pos (by decide+kernel)];kernel_rfl)|(rw[if_neg (by decide+kernel)];exact⟨rfl,rfl⟩)
theorem ZZ:Rows.migrateContinuesRow.holds Tryz.pinned (OpenSpec.ofChange Rows.migrateContinuesSpec):=
 OpenClaim.holds_of_wide 6 Tryz.f6 rfl rfl rfl rfl rfl rfl rfl ⟨rfl,rfl,rfl,rfl,rfl⟩ rfl rfl rfl rfl rfl named Tryz.func6 facts inst wrap (λos started H enc _=>lifted os started H enc)
theorem proved:Rows.MigrateContinuesSaid:=ZZ
#print axioms proved

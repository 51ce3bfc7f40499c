import Derived.Test.YtaemmjbkndlkeaaGreatMigrateQuietFacts
import Derived.Test.YtaemmjbkndlkeaaGreatMigrateQuietFin2
set_option linter.all false
namespace Go.Proofs.YtaemmjbkndlkeaaGreat.migrateQuiet
open Go Go.GD Go.ChangeShapes Go.WideShapes Go.ChangeAt Go.RowKit
theorem own:ownKnob Tryz.prog.godebug=none:=by kernel_rfl
theorem laidOut:laidOutB Tryz.prog=true:=by kernel_rfl
def sig:List (Bool×List lD):=[(false,[.int .i64]),(false,[.sl [.int .i64]]),(false,[.sl [.int .i64]])]
theorem Rn:sr Tryz.prog 8 Tryz.f8.params.toList sig:=by
 rw[Tryz.params8]
 exact⟨by kernel_rfl,by kernel_rfl,by kernel_rfl,oY (by kernel_rfl),⟨by kernel_rfl,by kernel_rfl,by kernel_rfl,oY (by kernel_rfl),⟨by kernel_rfl,by kernel_rfl,by kernel_rfl,oY (by kernel_rfl),trivial⟩⟩⟩
theorem called(Ds:List D)(h:lg sig Ds):ko Tryz.prog 8 Ds [] (.bool true) []:=by
 obtain⟨d1,Ds,rfl,h1,h⟩:=Wt h
 obtain⟨d2,Ds,rfl,h2,h⟩:=Wt h
 obtain⟨d3,Ds,rfl,h3,h⟩:=Wt h
 obtain rfl:=qH h
 obtain⟨kind,rfl,_⟩:=zae (Zg h1)
 obtain⟨prog,rfl,r2,_⟩:=Zp7 (Zg h2)
 obtain⟨l,rfl,_,_⟩:=Zp7 (Zg h3)
 obtain⟨g1,g2⟩:=Tree.pp (W:=λr=>r=true) (Pq kind prog l r2)
 have:=(Qsi.lr rfl [.int .i64 kind,.sl 1 (.ints .i64 prog) false,.sl 1 (.ints .i64 l) false] [] _ Bool (Qe2 kind prog l) (λX=>.bool X) (λX=>[]) (by rfl) g1).1
 rw[show Qe2 kind prog l=true from g2]at this
 exact this
set_option maxRecDepth 100000 in
theorem lifted(os:Os)(started:os.Started)(H:Type)(enc:TypeId×Value->H):
 ReturnsInHanded {} Tryz.checked os 8 .any (Rows.migrateQuietSpec.pre6 enc Tryz.prog Tryz.f8 Rows.migrateQuietRow.domain false) (Rows.migrateQuietSpec.post enc Tryz.prog Tryz.f8 false true false false):=by
 refine returnsInHanded_of_change_sized (C:=Tryz.checked) own started (by kernel_rfl) Tryz.func8
  (ChangeSpec.witness6 (enc:=enc) (C:=Tryz.checked) false ⟨#[],#[.int .i64 0,.slice none 0 0,.slice none 0 0],[]⟩ 8 (by kernel_rfl) (by kernel_rfl) (by kernel_rfl) (by kernel_rfl)) ?_
 intro W base args ds gs before Ro hW Jaq fu _
 exact Zt3 laidOut Rn (by kernel_rfl) Tryz.underlying4 rfl (λds hd=>by match ds,hd with|[d0,d1,d2],_=>exact⟨rfl,rfl,rfl⟩) called W base args ds gs before Ro hW fu (λ_ hx=>nomatch hx)
theorem named:Tryz.pinned.checked.prog.funcNamed Rows.migrateQuietRow.func=some 8:=by kernel_rfl
theorem inst:Tryz.f8.isInstance Tryz.pinned.checked.prog Rows.migrateQuietRow.origin Rows.migrateQuietRow.targs:=oY (by kernel_rfl)
theorem wrap:Tryz.f8.isWrapper Tryz.pinned.checked.prog Rows.migrateQuietRow.wrapper Rows.migrateQuietRow.mainSum:=by unfold Func.isWrapper;first|(rw[if_pos (by decide+kernel)];kernel_rfl)|(rw[if_neg (by decide+kernel)];exact⟨rfl,rfl⟩)
theorem Jaa:Rows.migrateQuietRow.holds Tryz.pinned (OpenSpec.ofChange Rows.migrateQuietSpec):=
 OpenClaim.holds_of_wide 8 Tryz.f8 rfl rfl rfl rfl rfl rfl rfl ⟨rfl,rfl,rfl,rfl,rfl⟩ rfl rfl rfl rfl rfl named Tryz.func8 facts inst wrap (λos started H enc _=>lifted os started H enc)
theorem proved:Rows.MigrateQuietSaid:=Jaa
#print axioms proved

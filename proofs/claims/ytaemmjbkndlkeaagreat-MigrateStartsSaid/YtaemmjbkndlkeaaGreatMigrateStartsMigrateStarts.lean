import Derived.Test.YtaemmjbkndlkeaaGreatMigrateStartsFacts
import Derived.Test.YtaemmjbkndlkeaaGreatMigrateStartsFin2
set_option linter.all false
namespace Go.Proofs.YtaemmjbkndlkeaaGreat.migrateStarts
open Go Go.GD Go.ChangeShapes Go.WideShapes Go.ChangeAt Go.RowKit
theorem own:ownKnob Tryz.prog.godebug=none:=by kernel_rfl
theorem laidOut:laidOutB Tryz.prog=true:=by kernel_rfl
def sig:List (Bool×List ll):=[(true,[.int .u32,.int .u32,.int .u32,.int .u32,.int .u32,.int .u32,.int .u32,.int .u32,.int .u32,.int .u32,.int .u32,.int .u32,.int .u32,.int .u32,.int .u32,.int .u32,.int .u32,.int .u32,.int .u32,.int .u32,.int .u32,.int .u32,.int .u32,.int .u32,.int .u32,.sl [.int .u32],.str,.bool,.int .u32,.bool,.int .u32,.int .u32,.int .u32,.int .i64,.int .i64,.int .u32,.int .u32,.str,.int .u32,.int .u32,.bool,.int .u32,.bool,.int .u32,.int .u32,.int .u32,.int .u64,.bool,.bool]),(true,[.sl [.str],.int .u64,.int .i64])]
theorem Se:sB Tryz.prog 8 Tryz.f4.params.toList sig:=by
 rw[Tryz.params4]
 exact⟨by kernel_rfl,by kernel_rfl,by kernel_rfl,oY (by kernel_rfl),⟨by kernel_rfl,by kernel_rfl,by kernel_rfl,oY (by kernel_rfl),trivial⟩⟩
theorem called(Ds:List D)(h:lq sig Ds):kr Tryz.prog 4 Ds [] (.bool true) []:=by
 obtain⟨e1,Ds,rfl,h1,h⟩:=Zrj h
 obtain⟨e2,Ds,rfl,h2,h⟩:=Zrj h
 obtain rfl:=yI h
 obtain⟨m,rfl,hm⟩:=Zmz h1
 obtain⟨s,hs,_,hg⟩:=Zuu h2
 obtain⟨g1,g2⟩:=Tree.pp (W:=λr=>r=true) (zT hm hg)
 have:=(Qr9.lB rfl [.agg m.cells,.agg s.cells] [] _ Bool (Qd1 m s) (λX=>.bool X) (λX=>[]) (by rfl) g1).1
 rw[show Qd1 m s=true from g2]at this
 exact kr.sub (oD:=[.agg m.cells,.agg s.cells]) ⟨kd.rfl,hs,trivial⟩ this
set_option maxRecDepth 100000 in
theorem lifted(os:Os)(started:os.Started)(H:Type)(enc:TypeId×Value->H):
 ReturnsInHanded {} Tryz.checked os 4 .any (Rows.migrateStartsSpec.pre6 enc Tryz.prog Tryz.f4 Rows.migrateStartsRow.domain false) (Rows.migrateStartsSpec.post enc Tryz.prog Tryz.f4 false true false false):=by
 refine returnsInHanded_of_change_sized (C:=Tryz.checked) own started (by kernel_rfl) Tryz.func4
  (ChangeSpec.witness6 (enc:=enc) (C:=Tryz.checked) false ⟨#[],#[.agg #[.int .u32 0,.int .u32 0,.int .u32 0,.int .u32 0,.int .u32 0,.int .u32 0,.int .u32 0,.int .u32 0,.int .u32 0,.int .u32 0,.int .u32 0,.int .u32 0,.int .u32 0,.int .u32 0,.int .u32 0,.int .u32 0,.int .u32 0,.int .u32 0,.int .u32 0,.int .u32 0,.int .u32 0,.int .u32 0,.int .u32 0,.int .u32 0,.int .u32 0,.slice none 0 0,.string ⟨#[]⟩,.bool false,.int .u32 0,.bool false,.int .u32 0,.int .u32 0,.int .u32 0,.int .i64 0,.int .i64 0,.int .u32 0,.int .u32 0,.string ⟨#[]⟩,.int .u32 0,.int .u32 0,.bool false,.int .u32 0,.bool false,.int .u32 0,.int .u32 0,.int .u32 0,.int .u64 0,.bool false,.bool false],.agg #[.slice none 0 0,.int .u64 0,.int .i64 0]],[]⟩ 8 (by kernel_rfl) (by kernel_rfl) (by kernel_rfl) (by kernel_rfl)) ?_
 intro W base args ds gs before Sf hW Jaz ft _
 exact Zuy laidOut Se (by kernel_rfl) Tryz.underlying4 rfl (λds hd=>by match ds,hd with|[d0,d1],_=>exact⟨rfl,rfl,rfl⟩) called W base args ds gs before Sf hW ft (λ_ hx=>nomatch hx)
theorem named:Tryz.pinned.checked.prog.funcNamed Rows.migrateStartsRow.func=some 4:=by kernel_rfl
theorem inst:Tryz.f4.isInstance Tryz.pinned.checked.prog Rows.migrateStartsRow.origin Rows.migrateStartsRow.targs:=oY (by kernel_rfl)
theorem wrap:Tryz.f4.isWrapper Tryz.pinned.checked.prog Rows.migrateStartsRow.wrapper Rows.migrateStartsRow.mainSum:=by unfold Func.isWrapper;first|(rw[if_pos (by decide+kernel)];kernel_rfl)|(rw[if_neg (by decide+kernel)];exact⟨rfl,rfl⟩)
theorem Jaj:Rows.migrateStartsRow.holds Tryz.pinned (OpenSpec.ofChange Rows.migrateStartsSpec):=
 OpenClaim.holds_of_wide 4 Tryz.f4 rfl rfl rfl rfl rfl rfl rfl ⟨rfl,rfl,rfl,rfl,rfl⟩ rfl rfl rfl rfl rfl named Tryz.func4 facts inst wrap (λos started H enc _=>lifted os started H enc)
theorem proved:Rows.MigrateStartsSaid:=Jaj
#print axioms proved

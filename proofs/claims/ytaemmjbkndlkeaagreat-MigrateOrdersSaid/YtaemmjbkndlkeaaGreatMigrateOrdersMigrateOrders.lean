import Derived.Test.YtaemmjbkndlkeaaGreatMigrateOrdersFacts
import Derived.Test.YtaemmjbkndlkeaaGreatMigrateOrdersFin2
set_option linter.all false
namespace Go.Proofs.YtaemmjbkndlkeaaGreat.migrateOrders
open Go Go.GD Go.ChangeShapes Go.WideShapes Go.ChangeAt Go.RowKit
theorem own:ownKnob Tryz.prog.godebug=none:=by kernel_rfl
theorem laidOut:laidOutB Tryz.prog=true:=by kernel_rfl
def sig:List (Bool×List lM):=[(false,[.int .i64]),(false,[.sl [.int .i64]]),(false,[.int .i64]),(false,[.sl [.int .i64]])]
theorem RJ:sE Tryz.prog 8 Tryz.f10.params.toList sig:=by
 rw[Tryz.params10]
 exact⟨by kernel_rfl,by kernel_rfl,by kernel_rfl,oY (by kernel_rfl),⟨by kernel_rfl,by kernel_rfl,by kernel_rfl,oY (by kernel_rfl),⟨by kernel_rfl,by kernel_rfl,by kernel_rfl,oY (by kernel_rfl),⟨by kernel_rfl,by kernel_rfl,by kernel_rfl,oY (by kernel_rfl),trivial⟩⟩⟩⟩
theorem called(Ds:List D)(h:lq sig Ds):kq Tryz.prog 10 Ds [] (.bool true) []:=by
 obtain⟨d1,Ds,rfl,h1,h⟩:=S4 h
 obtain⟨d2,Ds,rfl,h2,h⟩:=S4 h
 obtain⟨d3,Ds,rfl,h3,h⟩:=S4 h
 obtain⟨d4,Ds,rfl,h4,h⟩:=S4 h
 obtain rfl:=zH h
 obtain⟨kind,rfl,_⟩:=zd (S5 h1)
 obtain⟨prog,rfl,r2,_⟩:=Zp9 (S5 h2)
 obtain⟨runs,rfl,_⟩:=zd (S5 h3)
 obtain⟨order,rfl,_,_⟩:=Zp9 (S5 h4)
 obtain⟨g1,g2⟩:=Tree.pp (W:=λr=>r=true) (PL kind prog runs order r2)
 have:=(Qqk.lH rfl [.int .i64 kind,.sl 1 (.ints .i64 prog) false,.int .i64 runs,.sl 1 (.ints .i64 order) false] [] _ Bool (Qcj kind prog runs order) (λX=>.bool X) (λX=>[]) (by rfl) g1).1
 rw[show Qcj kind prog runs order=true from g2]at this
 exact this
set_option maxRecDepth 100000 in
theorem lifted(os:Os)(started:os.Started)(H:Type)(enc:TypeId×Value->H):
 ReturnsInHanded {} Tryz.checked os 10 .any (Rows.migrateOrdersSpec.pre6 enc Tryz.prog Tryz.f10 Rows.migrateOrdersRow.domain false) (Rows.migrateOrdersSpec.post enc Tryz.prog Tryz.f10 false true false false):=by
 refine returnsInHanded_of_change_sized (C:=Tryz.checked) own started (by kernel_rfl) Tryz.func10
  (ChangeSpec.witness6 (enc:=enc) (C:=Tryz.checked) false ⟨#[],#[.int .i64 0,.slice none 0 0,.int .i64 0,.slice none 0 0],[]⟩ 8 (by kernel_rfl) (by kernel_rfl) (by kernel_rfl) (by kernel_rfl)) ?_
 intro W base args ds gs before RL hW Jav fp _
 exact Zso laidOut RJ (by kernel_rfl) Tryz.underlying4 rfl (λds hd=>by match ds,hd with|[d0,d1,d2,d3],_=>exact⟨rfl,rfl,rfl⟩) called W base args ds gs before RL hW fp (λ_ hx=>nomatch hx)
theorem named:Tryz.pinned.checked.prog.funcNamed Rows.migrateOrdersRow.func=some 10:=by kernel_rfl
theorem inst:Tryz.f10.isInstance Tryz.pinned.checked.prog Rows.migrateOrdersRow.origin Rows.migrateOrdersRow.targs:=oY (by kernel_rfl)
theorem wrap:Tryz.f10.isWrapper Tryz.pinned.checked.prog Rows.migrateOrdersRow.wrapper Rows.migrateOrdersRow.mainSum:=by unfold Func.isWrapper;first|(rw[if_pos (by decide+kernel)];kernel_rfl)|(rw[if_neg (by decide+kernel)];exact⟨rfl,rfl⟩)
theorem Jaf:Rows.migrateOrdersRow.holds Tryz.pinned (OpenSpec.ofChange Rows.migrateOrdersSpec):=
 OpenClaim.holds_of_wide 10 Tryz.f10 rfl rfl rfl rfl rfl rfl rfl ⟨rfl,rfl,rfl,rfl,rfl⟩ rfl rfl rfl rfl rfl named Tryz.func10 facts inst wrap (λos started H enc _=>lifted os started H enc)
theorem proved:Rows.MigrateOrdersSaid:=Jaf
#print axioms proved

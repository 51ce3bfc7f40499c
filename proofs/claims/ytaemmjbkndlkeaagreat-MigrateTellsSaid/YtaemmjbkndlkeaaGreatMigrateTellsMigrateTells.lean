import Derived.Test.YtaemmjbkndlkeaaGreatMigrateTellsFacts
import Derived.Test.YtaemmjbkndlkeaaGreatMigrateTellsFin2
set_option linter.all false
namespace Go.Proofs.YtaemmjbkndlkeaaGreat.migrateTells
open Go Go.GD Go.ChangeShapes Go.WideShapes Go.ChangeAt Go.RowKit
theorem own:ownKnob Tryz.prog.godebug=none:=by kernel_rfl
theorem laidOut:laidOutB Tryz.prog=true:=by kernel_rfl
def sig:List (Bool×List lG):=[(false,[.int .i64]),(false,[.sl [.int .i64]]),(false,[.sl [.int .i64]]),(false,[.sl [.int .i64,.int .i64,.bool,.int .u32]])]
theorem TC:tt Tryz.prog 8 Tryz.f3.params.toList sig:=by
 rw[Tryz.params3]
 exact⟨by kernel_rfl,by kernel_rfl,by kernel_rfl,oY (by kernel_rfl),⟨by kernel_rfl,by kernel_rfl,by kernel_rfl,oY (by kernel_rfl),⟨by kernel_rfl,by kernel_rfl,by kernel_rfl,oY (by kernel_rfl),⟨by kernel_rfl,by kernel_rfl,by kernel_rfl,oY (by kernel_rfl),trivial⟩⟩⟩⟩
theorem called(Ds:List D)(h:lR sig Ds):kM Tryz.prog 3 Ds [] (.bool true) []:=by
 obtain⟨d1,Ds,rfl,h1,h⟩:=U2 h
 obtain⟨d2,Ds,rfl,h2,h⟩:=U2 h
 obtain⟨d3,Ds,rfl,h3,h⟩:=U2 h
 obtain⟨d4,Ds,rfl,h4,h⟩:=U2 h
 obtain rfl:=qJ h
 obtain⟨kind,rfl,_⟩:=U4 (U3 h1)
 obtain⟨prog,rfl,r2,_⟩:=Zva (U3 h2)
 obtain⟨l,rfl,_,_⟩:=Zva (U3 h3)
 have q4:=U3 h4
 obtain⟨raw,hs,hr⟩:=xt q4
 unfold Fit at q4
 obtain⟨es,rfl,_⟩:=q4
 obtain⟨g1,g2⟩:=Tree.pp (W:=λr=>r=true) (xv kind prog l raw r2 hr)
 have:=(Qwc.lX rfl [.int .i64 kind,.sl 1 (.ints .i64 prog) false,.sl 1 (.ints .i64 l) false,.sl 4 (.ao .ba raw) false] [] _ Bool (Qft kind prog l raw) (λX=>.bool X) (λX=>[]) (by rfl) g1).1
 rw[show Qft kind prog l raw=true from g2]at this
 exact kM.sub (pj:=[.int .i64 kind,.sl 1 (.ints .i64 prog) false,.sl 1 (.ints .i64 l) false,.sl 4 (.ao .ba raw) false]) ⟨gr.rfl,gr.rfl,gr.rfl,hs,trivial⟩ this
set_option maxRecDepth 100000 in
theorem lifted(os:Os)(started:os.Started)(H:Type)(enc:TypeId×Value->H):
 ReturnsInHanded {} Tryz.checked os 3 .any (Rows.migrateTellsSpec.pre6 enc Tryz.prog Tryz.f3 Rows.migrateTellsRow.domain false) (Rows.migrateTellsSpec.post enc Tryz.prog Tryz.f3 false true false false):=by
 refine returnsInHanded_of_change_sized (C:=Tryz.checked) own started (by kernel_rfl) Tryz.func3
  (ChangeSpec.witness6 (enc:=enc) (C:=Tryz.checked) false ⟨#[],#[.int .i64 0,.slice none 0 0,.slice none 0 0,.slice none 0 0],[]⟩ 8 (by kernel_rfl) (by kernel_rfl) (by kernel_rfl) (by kernel_rfl)) ?_
 intro W base args ds gs before TE hW JaK ga _
 exact Zyj laidOut TC (by kernel_rfl) Tryz.underlying4 rfl (λds hd=>by match ds,hd with|[d0,d1,d2,d3],_=>exact⟨rfl,rfl,rfl⟩) called W base args ds gs before TE hW ga (λ_ hx=>nomatch hx)
theorem named:Tryz.pinned.checked.prog.funcNamed Rows.migrateTellsRow.func=some 3:=by kernel_rfl
theorem inst:Tryz.f3.isInstance Tryz.pinned.checked.prog Rows.migrateTellsRow.origin Rows.migrateTellsRow.targs:=oY (by kernel_rfl)
theorem wrap:Tryz.f3.isWrapper Tryz.pinned.checked.prog Rows.migrateTellsRow.wrapper Rows.migrateTellsRow.mainSum:=by unfold Func.isWrapper;first|(rw[if_pos (by decide+kernel)];kernel_rfl)|(rw[if_neg (by decide+kernel)];exact⟨rfl,rfl⟩)
theorem Jau:Rows.migrateTellsRow.holds Tryz.pinned (OpenSpec.ofChange Rows.migrateTellsSpec):=
 OpenClaim.holds_of_wide 3 Tryz.f3 rfl rfl rfl rfl rfl rfl rfl ⟨rfl,rfl,rfl,rfl,rfl⟩ rfl rfl rfl rfl rfl named Tryz.func3 facts inst wrap (λos started H enc _=>lifted os started H enc)
theorem proved:Rows.MigrateTellsSaid:=Jau
#print axioms proved

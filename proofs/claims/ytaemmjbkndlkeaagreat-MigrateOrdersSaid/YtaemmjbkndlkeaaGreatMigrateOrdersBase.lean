import Derived.Test.YtaemmjbkndlkeaaGreatMigrateOrdersMod
import Derived.Test.YtaemmjbkndlkeaaGreatMigrateOrdersLate
import Derived.Test.YtaemmjbkndlkeaaGreatMigrateOrdersT
import Derived.Test.YtaemmjbkndlkeaaGreatChecked
namespace Go.Proofs.YtaemmjbkndlkeaaGreat
open Go Go.GD
variable {cl:Prop}{f:FuncId}{flat:Bool}{fn:Func}{refs:List Bool}{du:List RT}{sig:List PT}
noncomputable abbrev pG:=Tryz.prog
theorem drawn:pD Tryz.prog:=qz (Checked.mixed Tryz.checked)
abbrev mT(f:FuncId)(refs:List Bool)(flat:Bool)(sig:List PT)(du:List RT){α:Type}(t:List D->List Row->Tree α)(enc:α->D)(out:α->List Row):ba:=lJ f refs flat sig du (λa r=>(t a r).p) (λa r=>(t a r).m) enc out
abbrev mS(f:FuncId)(refs:List Bool)(flat:Bool)(sig:List PT)(du:List RT){α:Type}(t:List D->List Row->Tree α)(enc:α->D)(out:α->List Row):ba:=Gm f refs flat sig du (λa r=>(t a r).m) enc out
theorem oT{G}{β:Type}{enc:β->D}{out:β->List Row}{t:List D->List Row->Tree β}(hG:jA pG G)(hf:pG.funcs[f]?=some fn)(he:∀args w,(callFunc f args).run pG w=.ok (.enter f args) w)(ds:List ng)(fm:List (Nat×cg))(dep:Nat)
 (hn:∀args rows Q,(kf jU G (LL jU G fn.ntmps du.length fm dep) fn (lg sig args 0) (ku du rows 0) λd R=>ob du.length ds d R Q)=(t args rows).q λX=>Q (enc X) (out X):=by intro _ _ _;kernel_rfl) (ju:flat=true->∀X,(tw (enc X)&&jv (out X))=true:=by intro _ _;kernel_rfl) (hy:Nat.blt f YB=true:=by rfl):bm pG (mT f refs flat sig du t enc out):=wc drawn jB hG hf he t ds fm dep hn (λ_ _=>rfl) (λ_ _ h=>h) ju hy
theorem oS{G}{β:Type}{enc:β->D}{out:β->List Row}{t:List D->List Row->Tree β}(hG:jA pG G)(hf:pG.funcs[f]?=some fn)(he:∀args w,(callFunc f args).run pG w=.ok (.enter f args) w)(ds:List ng)(fm:List (Nat×cg))(dep:Nat)
 (hn:∀args rows Q,(kf jU G (LL jU G fn.ntmps du.length fm dep) fn (lg sig args 0) (ku du rows 0) λd R=>ob du.length ds d R Q)=(t args rows).q λX=>Q (enc X) (out X):=by intro _ _ _;kernel_rfl) (hp:∀args rows,(t args rows).p:=by intro _ _;exact Tree.nT (by kernel_rfl)) (ju:flat=true->∀X,(tw (enc X)&&jv (out X))=true:=by intro _ _;kernel_rfl) (hy:Nat.blt f YB=true:=by rfl):bm pG (mS f refs flat sig du t enc out):=Q10 drawn jB hG hf he t ds fm dep hn (λ_ _=>rfl) hp ju hy
noncomputable def _root_.Go.Proofs.Tryz.rY:Func:=yFn 1000000095
theorem _root_.Go.Proofs.Tryz.oc(h:cl):o4 Tryz.prog 1000000095 Tryz.rY cl:=.yield (by decide) _ _ rfl rfl rfl rfl rfl rfl rfl h
noncomputable def _root_.Go.Proofs.Tryz.r3:Func:=yFn 1000000144
theorem _root_.Go.Proofs.Tryz.od(h:cl):o4 Tryz.prog 1000000144 Tryz.r3 cl:=.yield (by decide) _ _ rfl rfl rfl rfl rfl rfl rfl h

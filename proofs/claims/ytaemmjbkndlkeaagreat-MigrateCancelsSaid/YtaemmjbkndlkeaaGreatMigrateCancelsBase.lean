import Derived.Test.YtaemmjbkndlkeaaGreatMigrateCancelsMod
import Derived.Test.YtaemmjbkndlkeaaGreatMigrateCancelsLate
import Derived.Test.YtaemmjbkndlkeaaGreatMigrateCancelsT
import Derived.Test.YtaemmjbkndlkeaaGreatChecked
namespace Go.Proofs.YtaemmjbkndlkeaaGreat
open Go Go.GD
variable {cl:Prop}{f:FuncId}{flat:Bool}{fn:Func}{refs:List Bool}{ea:List RT}{sig:List PT}
noncomputable abbrev pG:=Tryz.prog
theorem drawn:pP Tryz.prog:=qz (Checked.mixed Tryz.checked)
abbrev mT(f:FuncId)(refs:List Bool)(flat:Bool)(sig:List PT)(ea:List RT){α:Type}(t:List D->List Row->Tree α)(enc:α->D)(out:α->List Row):bc:=lF f refs flat sig ea (λa r=>(t a r).p) (λa r=>(t a r).m) enc out
abbrev mS(f:FuncId)(refs:List Bool)(flat:Bool)(sig:List PT)(ea:List RT){α:Type}(t:List D->List Row->Tree α)(enc:α->D)(out:α->List Row):bc:=Gb f refs flat sig ea (λa r=>(t a r).m) enc out
theorem oT{G}{β:Type}{enc:β->D}{out:β->List Row}{t:List D->List Row->Tree β}(hG:jF pG G)(hf:pG.funcs[f]?=some fn)(he:∀args w,(callFunc f args).run pG w=.ok (.enter f args) w)(ds:List nk)(gb:List (Nat×cg))(dep:Nat)
 (hn:∀args rows Q,(ko j4 G (LL j4 G fn.ntmps ea.length gb dep) fn (lg sig args 0) (kH ea rows 0) λd R=>og ea.length ds d R Q)=(t args rows).q λX=>Q (enc X) (out X):=by intro _ _ _;kernel_rfl) (jB:flat=true->∀X,(tD (enc X)&&jC (out X))=true:=by intro _ _;kernel_rfl) (hy:Nat.blt f YB=true:=by rfl):bm pG (mT f refs flat sig ea t enc out):=wa drawn jG hG hf he t ds gb dep hn (λ_ _=>rfl) (λ_ _ h=>h) jB hy
theorem oS{G}{β:Type}{enc:β->D}{out:β->List Row}{t:List D->List Row->Tree β}(hG:jF pG G)(hf:pG.funcs[f]?=some fn)(he:∀args w,(callFunc f args).run pG w=.ok (.enter f args) w)(ds:List nk)(gb:List (Nat×cg))(dep:Nat)
 (hn:∀args rows Q,(ko j4 G (LL j4 G fn.ntmps ea.length gb dep) fn (lg sig args 0) (kH ea rows 0) λd R=>og ea.length ds d R Q)=(t args rows).q λX=>Q (enc X) (out X):=by intro _ _ _;kernel_rfl) (hp:∀args rows,(t args rows).p:=by intro _ _;exact Tree.nZ (by kernel_rfl)) (jB:flat=true->∀X,(tD (enc X)&&jC (out X))=true:=by intro _ _;kernel_rfl) (hy:Nat.blt f YB=true:=by rfl):bm pG (mS f refs flat sig ea t enc out):=Q1 drawn jG hG hf he t ds gb dep hn (λ_ _=>rfl) hp jB hy
noncomputable def _root_.Go.Proofs.Tryz.r9:Func:=yFn 1000000095
theorem _root_.Go.Proofs.Tryz.oh(h:cl):pn Tryz.prog 1000000095 Tryz.r9 cl:=.yield (by decide) _ _ rfl rfl rfl rfl rfl rfl rfl h
noncomputable def _root_.Go.Proofs.Tryz.sc:Func:=yFn 1000000144
theorem _root_.Go.Proofs.Tryz.oi(h:cl):pn Tryz.prog 1000000144 Tryz.sc cl:=.yield (by decide) _ _ rfl rfl rfl rfl rfl rfl rfl h

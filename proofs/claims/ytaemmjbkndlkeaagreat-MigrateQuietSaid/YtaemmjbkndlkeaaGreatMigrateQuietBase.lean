import Derived.Test.YtaemmjbkndlkeaaGreatMigrateQuietMod
import Derived.Test.YtaemmjbkndlkeaaGreatMigrateQuietLate
import Derived.Test.YtaemmjbkndlkeaaGreatMigrateQuietT
import Derived.Test.YtaemmjbkndlkeaaGreatChecked
namespace Go.Proofs.YtaemmjbkndlkeaaGreat
open Go Go.GD
variable {cl:Prop}{f:FuncId}{flat:Bool}{fn:Func}{refs:List Bool}{dt:List RT}{sig:List PT}
noncomputable abbrev pG:=Tryz.prog
theorem drawn:py Tryz.prog:=zy (Checked.mixed Tryz.checked)
abbrev mT(f:FuncId)(refs:List Bool)(flat:Bool)(sig:List PT)(dt:List RT){α:Type}(t:List D->List Row->Tree α)(enc:α->D)(out:α->List Row):ba:=ly f refs flat sig dt (λa r=>(t a r).p) (λa r=>(t a r).m) enc out
abbrev mS(f:FuncId)(refs:List Bool)(flat:Bool)(sig:List PT)(dt:List RT){α:Type}(t:List D->List Row->Tree α)(enc:α->D)(out:α->List Row):ba:=FL f refs flat sig dt (λa r=>(t a r).m) enc out
theorem oT{G}{β:Type}{enc:β->D}{out:β->List Row}{t:List D->List Row->Tree β}(hG:jz pG G)(hf:pG.funcs[f]?=some fn)(he:∀args w,(callFunc f args).run pG w=.ok (.enter f args) w)(ds:List mY)(ft:List (Nat×cg))(dep:Nat)
 (hn:∀args rows Q,(ka jV G (LL jV G fn.ntmps dt.length ft dep) fn (kW sig args 0) (kp dt rows 0) λd R=>nT dt.length ds d R Q)=(t args rows).q λX=>Q (enc X) (out X):=by intro _ _ _;kernel_rfl) (jv:flat=true->∀X,(tj (enc X)&&jx (out X))=true:=by intro _ _;kernel_rfl) (hy:Nat.blt f YB=true:=by rfl):bj pG (mT f refs flat sig dt t enc out):=uV drawn jA hG hf he t ds ft dep hn (λ_ _=>rfl) (λ_ _ h=>h) jv hy
theorem oS{G}{β:Type}{enc:β->D}{out:β->List Row}{t:List D->List Row->Tree β}(hG:jz pG G)(hf:pG.funcs[f]?=some fn)(he:∀args w,(callFunc f args).run pG w=.ok (.enter f args) w)(ds:List mY)(ft:List (Nat×cg))(dep:Nat)
 (hn:∀args rows Q,(ka jV G (LL jV G fn.ntmps dt.length ft dep) fn (kW sig args 0) (kp dt rows 0) λd R=>nT dt.length ds d R Q)=(t args rows).q λX=>Q (enc X) (out X):=by intro _ _ _;kernel_rfl) (hp:∀args rows,(t args rows).p:=by intro _ _;exact Tree.nM (by kernel_rfl)) (jv:flat=true->∀X,(tj (enc X)&&jx (out X))=true:=by intro _ _;kernel_rfl) (hy:Nat.blt f YB=true:=by rfl):bj pG (mS f refs flat sig dt t enc out):=Q1 drawn jA hG hf he t ds ft dep hn (λ_ _=>rfl) hp jv hy
noncomputable def _root_.Go.Proofs.Tryz.rP:Func:=yFn 1000000095
theorem _root_.Go.Proofs.Tryz.nU(h:cl):oQ Tryz.prog 1000000095 Tryz.rP cl:=.yield (by decide) _ _ rfl rfl rfl rfl rfl rfl rfl h
noncomputable def _root_.Go.Proofs.Tryz.rQ:Func:=yFn 1000000144
theorem _root_.Go.Proofs.Tryz.nV(h:cl):oQ Tryz.prog 1000000144 Tryz.rQ cl:=.yield (by decide) _ _ rfl rfl rfl rfl rfl rfl rfl h

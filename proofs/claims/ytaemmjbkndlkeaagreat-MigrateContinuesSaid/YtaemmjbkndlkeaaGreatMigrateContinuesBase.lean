import Derived.Test.YtaemmjbkndlkeaaGreatMigrateContinuesMod
import Derived.Test.YtaemmjbkndlkeaaGreatMigrateContinuesLate
import Derived.Test.YtaemmjbkndlkeaaGreatMigrateContinuesT
import Derived.Test.YtaemmjbkndlkeaaGreatChecked
namespace Go.Proofs.YtaemmjbkndlkeaaGreat
open Go Go.GD
variable {cl:Prop}{f:FuncId}{flat:Bool}{fn:Func}{refs:List Bool}{dt:List RT}{sig:List PT}
noncomputable abbrev pG:=Tryz.prog
theorem drawn:pk Tryz.prog:=qz (Checked.mixed Tryz.checked)
abbrev mT(f:FuncId)(refs:List Bool)(flat:Bool)(sig:List PT)(dt:List RT){α:Type}(t:List D->List Row->Tree α)(enc:α->D)(out:α->List Row):bc:=lh f refs flat sig dt (λa r=>(t a r).p) (λa r=>(t a r).m) enc out
abbrev mS(f:FuncId)(refs:List Bool)(flat:Bool)(sig:List PT)(dt:List RT){α:Type}(t:List D->List Row->Tree α)(enc:α->D)(out:α->List Row):bc:=FB f refs flat sig dt (λa r=>(t a r).m) enc out
theorem oT{G}{β:Type}{enc:β->D}{out:β->List Row}{t:List D->List Row->Tree β}(hG:jr pG G)(hf:pG.funcs[f]?=some fn)(he:∀args w,(callFunc f args).run pG w=.ok (.enter f args) w)(ds:List mP)(fm:List (Nat×cg))(dep:Nat)
 (hn:∀args rows Q,(j6 jQ G (LL jQ G fn.ntmps dt.length fm dep) fn (kN sig args 0) (kh dt rows 0) λd R=>nK dt.length ds d R Q)=(t args rows).q λX=>Q (enc X) (out X):=by intro _ _ _;kernel_rfl) (jn:flat=true->∀X,(sV (enc X)&&jo (out X))=true:=by intro _ _;kernel_rfl) (hy:Nat.blt f YB=true:=by rfl):bm pG (mT f refs flat sig dt t enc out):=uM drawn jt hG hf he t ds fm dep hn (λ_ _=>rfl) (λ_ _ h=>h) jn hy
theorem oS{G}{β:Type}{enc:β->D}{out:β->List Row}{t:List D->List Row->Tree β}(hG:jr pG G)(hf:pG.funcs[f]?=some fn)(he:∀args w,(callFunc f args).run pG w=.ok (.enter f args) w)(ds:List mP)(fm:List (Nat×cg))(dep:Nat)
 (hn:∀args rows Q,(j6 jQ G (LL jQ G fn.ntmps dt.length fm dep) fn (kN sig args 0) (kh dt rows 0) λd R=>nK dt.length ds d R Q)=(t args rows).q λX=>Q (enc X) (out X):=by intro _ _ _;kernel_rfl) (hp:∀args rows,(t args rows).p:=by intro _ _;exact Tree.nE (by kernel_rfl)) (jn:flat=true->∀X,(sV (enc X)&&jo (out X))=true:=by intro _ _;kernel_rfl) (hy:Nat.blt f YB=true:=by rfl):bm pG (mS f refs flat sig dt t enc out):=Q1 drawn jt hG hf he t ds fm dep hn (λ_ _=>rfl) hp jn hy
noncomputable def _root_.Go.Proofs.Tryz.rH:Func:=yFn 1000000095
theorem _root_.Go.Proofs.Tryz.nL(h:cl):oJ Tryz.prog 1000000095 Tryz.rH cl:=.yield (by decide) _ _ rfl rfl rfl rfl rfl rfl rfl h
noncomputable def _root_.Go.Proofs.Tryz.rI:Func:=yFn 1000000144
theorem _root_.Go.Proofs.Tryz.nM(h:cl):oJ Tryz.prog 1000000144 Tryz.rI cl:=.yield (by decide) _ _ rfl rfl rfl rfl rfl rfl rfl h

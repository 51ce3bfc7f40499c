import Derived.Test.YtaemmjbkndlkeaaGreatMigrateOneMod
import Derived.Test.YtaemmjbkndlkeaaGreatMigrateOneLate
import Derived.Test.YtaemmjbkndlkeaaGreatMigrateOneT
import Derived.Test.YtaemmjbkndlkeaaGreatChecked
namespace Go.Proofs.YtaemmjbkndlkeaaGreat
open Go Go.GD
noncomputable abbrev pG:=Tryz.prog
theorem drawn:pk Tryz.prog:=qz (Checked.mixed Tryz.checked)
abbrev mT(f:FuncId)(refs:List Bool)(flat:Bool)(sig:List PT)(dt:List RT){α:Type}(t:List D->List Row->Tree α)(enc:α->D)(out:α->List Row):ba:=kY f refs flat sig dt (λa r=>(t a r).p) (λa r=>(t a r).m) enc out
abbrev mS(f:FuncId)(refs:List Bool)(flat:Bool)(sig:List PT)(dt:List RT){α:Type}(t:List D->List Row->Tree α)(enc:α->D)(out:α->List Row):ba:=FC f refs flat sig dt (λa r=>(t a r).m) enc out
theorem oT{G}{f:FuncId}{fn:Func}{refs:List Bool}{flat:Bool}{sig:List PT}{dt:List RT}{β:Type}{enc:β->D}{out:β->List Row}{t:List D->List Row->Tree β}(hG:jr pG G)(hf:pG.funcs[f]?=some fn)(he:∀args w,(callFunc f args).run pG w=.ok (.enter f args) w)(ds:List mw)(fm:List (Nat×cg))(dep:Nat)
 (hn:∀args rows Q,(j5 jP G (LL jP G fn.ntmps dt.length fm dep) fn (kM sig args 0) (kh dt rows 0) λd R=>nL dt.length ds d R Q)=(t args rows).q λX=>Q (enc X) (out X):=by intro _ _ _;kernel_rfl) (jn:flat=true->∀X,(sU (enc X)&&jo (out X))=true:=by intro _ _;kernel_rfl) (hy:Nat.blt f YB=true:=by rfl):bm pG (mT f refs flat sig dt t enc out):=uL drawn jt hG hf he t ds fm dep hn (λ_ _=>rfl) (λ_ _ h=>h) jn hy
theorem oS{G}{f:FuncId}{fn:Func}{refs:List Bool}{flat:Bool}{sig:List PT}{dt:List RT}{β:Type}{enc:β->D}{out:β->List Row}{t:List D->List Row->Tree β}(hG:jr pG G)(hf:pG.funcs[f]?=some fn)(he:∀args w,(callFunc f args).run pG w=.ok (.enter f args) w)(ds:List mw)(fm:List (Nat×cg))(dep:Nat)
 (hn:∀args rows Q,(j5 jP G (LL jP G fn.ntmps dt.length fm dep) fn (kM sig args 0) (kh dt rows 0) λd R=>nL dt.length ds d R Q)=(t args rows).q λX=>Q (enc X) (out X):=by intro _ _ _;kernel_rfl) (hp:∀args rows,(t args rows).p:=by intro _ _;exact Tree.nF (by kernel_rfl)) (jn:flat=true->∀X,(sU (enc X)&&jo (out X))=true:=by intro _ _;kernel_rfl) (hy:Nat.blt f YB=true:=by rfl):bm pG (mS f refs flat sig dt t enc out):=Q1 drawn jt hG hf he t ds fm dep hn (λ_ _=>rfl) hp jn hy
noncomputable def _root_.Go.Proofs.Tryz.rH:Func:=yFn 1000000095
theorem _root_.Go.Proofs.Tryz.nM{cl:Prop}(h:cl):oJ Tryz.prog 1000000095 Tryz.rH cl:=.yield (by decide) _ _ rfl rfl rfl rfl rfl rfl rfl h
noncomputable def _root_.Go.Proofs.Tryz.rI:Func:=yFn 1000000144
theorem _root_.Go.Proofs.Tryz.nN{cl:Prop}(h:cl):oJ Tryz.prog 1000000144 Tryz.rI cl:=.yield (by decide) _ _ rfl rfl rfl rfl rfl rfl rfl h

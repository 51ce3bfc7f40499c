import Derived.Test.YtaemmjbkndlkeaaGreatMigrateStartsMod
import Derived.Test.YtaemmjbkndlkeaaGreatMigrateStartsLate
import Derived.Test.YtaemmjbkndlkeaaGreatMigrateStartsT
import Derived.Test.YtaemmjbkndlkeaaGreatChecked
namespace Go.Proofs.YtaemmjbkndlkeaaGreat
open Go Go.GD
variable {cl:Prop}{f:FuncId}{flat:Bool}{fn:Func}{refs:List Bool}{dt:List RT}{sig:List PT}
noncomputable abbrev pG:=Tryz.prog
theorem drawn:pB Tryz.prog:=yz (Checked.mixed Tryz.checked)
abbrev mT(f:FuncId)(refs:List Bool)(flat:Bool)(sig:List PT)(dt:List RT){α:Type}(t:List D->List Row->Tree α)(enc:α->D)(out:α->List Row):bb:=kH f refs flat sig dt (λa r=>(t a r).p) (λa r=>(t a r).m) enc out
abbrev mS(f:FuncId)(refs:List Bool)(flat:Bool)(sig:List PT)(dt:List RT){α:Type}(t:List D->List Row->Tree α)(enc:α->D)(out:α->List Row):bb:=Ga f refs flat sig dt (λa r=>(t a r).m) enc out
theorem oT{G}{β:Type}{enc:β->D}{out:β->List Row}{t:List D->List Row->Tree β}(hG:jB pG G)(hf:pG.funcs[f]?=some fn)(he:∀args w,(callFunc f args).run pG w=.ok (.enter f args) w)(ds:List nd)(fq:List (Nat×bu))(dep:Nat)
 (hn:∀args rows Q,(ko jY G (LL jY G fn.ntmps dt.length fq dep) fn (kZ sig args 0) (kA dt rows 0) λd R=>nU dt.length ds d R Q)=(t args rows).q λX=>Q (enc X) (out X):=by intro _ _ _;kernel_rfl) (jy:flat=true->∀X,(tv (enc X)&&jz (out X))=true:=by intro _ _;kernel_rfl) (hy:Nat.blt f YB=true:=by rfl):bj pG (mT f refs flat sig dt t enc out):=rU drawn jt hG hf he t ds fq dep hn (λ_ _=>rfl) (λ_ _ h=>h) jy hy
theorem oS{G}{β:Type}{enc:β->D}{out:β->List Row}{t:List D->List Row->Tree β}(hG:jB pG G)(hf:pG.funcs[f]?=some fn)(he:∀args w,(callFunc f args).run pG w=.ok (.enter f args) w)(ds:List nd)(fq:List (Nat×bu))(dep:Nat)
 (hn:∀args rows Q,(ko jY G (LL jY G fn.ntmps dt.length fq dep) fn (kZ sig args 0) (kA dt rows 0) λd R=>nU dt.length ds d R Q)=(t args rows).q λX=>Q (enc X) (out X):=by intro _ _ _;kernel_rfl) (hp:∀args rows,(t args rows).p:=by intro _ _;exact Tree.nN (by kernel_rfl)) (jy:flat=true->∀X,(tv (enc X)&&jz (out X))=true:=by intro _ _;kernel_rfl) (hy:Nat.blt f YB=true:=by rfl):bj pG (mS f refs flat sig dt t enc out):=Q11 drawn jt hG hf he t ds fq dep hn (λ_ _=>rfl) hp jy hy
noncomputable def _root_.Go.Proofs.Tryz.rV:Func:=yFn 1000000095
theorem _root_.Go.Proofs.Tryz.nV(h:cl):oV Tryz.prog 1000000095 Tryz.rV cl:=.yield (by decide) _ _ rfl rfl rfl rfl rfl rfl rfl h
noncomputable def _root_.Go.Proofs.Tryz.rW:Func:=yFn 1000000144
theorem _root_.Go.Proofs.Tryz.nW(h:cl):oV Tryz.prog 1000000144 Tryz.rW cl:=.yield (by decide) _ _ rfl rfl rfl rfl rfl rfl rfl h

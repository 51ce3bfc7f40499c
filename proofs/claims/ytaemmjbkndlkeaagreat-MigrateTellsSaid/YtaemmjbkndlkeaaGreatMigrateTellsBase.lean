import Derived.Test.YtaemmjbkndlkeaaGreatMigrateTellsMod
import Derived.Test.YtaemmjbkndlkeaaGreatMigrateTellsLate
import Derived.Test.YtaemmjbkndlkeaaGreatMigrateTellsT
import Derived.Test.YtaemmjbkndlkeaaGreatChecked
namespace Go.Proofs.YtaemmjbkndlkeaaGreat
open Go Go.GD
variable {cl:Prop}{f:FuncId}{flat:Bool}{fn:Func}{refs:List Bool}{du:List RT}{sig:List PT}
noncomputable abbrev pG:=Tryz.prog
theorem drawn:rm Tryz.prog:=zA (Checked.mixed Tryz.checked)
abbrev mT(f:FuncId)(refs:List Bool)(flat:Bool)(sig:List PT)(du:List RT){α:Type}(t:List D->List Row->Tree α)(enc:α->D)(out:α->List Row):bd:=lj f refs flat sig du (λa r=>(t a r).p) (λa r=>(t a r).m) enc out
abbrev mS(f:FuncId)(refs:List Bool)(flat:Bool)(sig:List PT)(du:List RT){α:Type}(t:List D->List Row->Tree α)(enc:α->D)(out:α->List Row):bd:=G7 f refs flat sig du (λa r=>(t a r).m) enc out
theorem oT{G}{β:Type}{enc:β->D}{out:β->List Row}{t:List D->List Row->Tree β}(hG:jU pG G)(hf:pG.funcs[f]?=some fn)(he:∀args w,(callFunc f args).run pG w=.ok (.enter f args) w)(ds:List nh)(fx:List (Nat×bw))(dep:Nat)
 (hn:∀args rows Q,(ky kb G (LL kb G fn.ntmps du.length fx dep) fn (lN sig args 0) (kR du rows 0) λd R=>ow du.length ds d R Q)=(t args rows).q λX=>Q (enc X) (out X):=by intro _ _ _;kernel_rfl) (jc:flat=true->∀X,(ue (enc X)&&jP (out X))=true:=by intro _ _;kernel_rfl) (hy:Nat.blt f YB=true:=by rfl):bu pG (mT f refs flat sig du t enc out):=sF drawn jL hG hf he t ds fx dep hn (λ_ _=>rfl) (λ_ _ h=>h) jc hy
theorem oS{G}{β:Type}{enc:β->D}{out:β->List Row}{t:List D->List Row->Tree β}(hG:jU pG G)(hf:pG.funcs[f]?=some fn)(he:∀args w,(callFunc f args).run pG w=.ok (.enter f args) w)(ds:List nh)(fx:List (Nat×bw))(dep:Nat)
 (hn:∀args rows Q,(ky kb G (LL kb G fn.ntmps du.length fx dep) fn (lN sig args 0) (kR du rows 0) λd R=>ow du.length ds d R Q)=(t args rows).q λX=>Q (enc X) (out X):=by intro _ _ _;kernel_rfl) (hp:∀args rows,(t args rows).p:=by intro _ _;exact Tree.mL (by kernel_rfl)) (jc:flat=true->∀X,(ue (enc X)&&jP (out X))=true:=by intro _ _;kernel_rfl) (hy:Nat.blt f YB=true:=by rfl):bu pG (mS f refs flat sig du t enc out):=Q10 drawn jL hG hf he t ds fx dep hn (λ_ _=>rfl) hp jc hy
noncomputable def _root_.Go.Proofs.Tryz.sG:Func:=yFn 1000000095
theorem _root_.Go.Proofs.Tryz.oG(h:cl):pI Tryz.prog 1000000095 Tryz.sG cl:=.yield (by decide) _ _ rfl rfl rfl rfl rfl rfl rfl h
noncomputable def _root_.Go.Proofs.Tryz.sH:Func:=yFn 1000000144
theorem _root_.Go.Proofs.Tryz.oH(h:cl):pI Tryz.prog 1000000144 Tryz.sH cl:=.yield (by decide) _ _ rfl rfl rfl rfl rfl rfl rfl h

import Derived.Test.YtaemmjbkndlkeaaGreatMigrateEndsMod
import Derived.Test.YtaemmjbkndlkeaaGreatMigrateEndsLate
import Derived.Test.YtaemmjbkndlkeaaGreatMigrateEndsT
import Derived.Test.YtaemmjbkndlkeaaGreatChecked
namespace Go.Proofs.YtaemmjbkndlkeaaGreat
open Go Go.GD
variable {cl:Prop}{f:FuncId}{flat:Bool}{fn:Func}{refs:List Bool}{du:List RT}{sig:List PT}
noncomputable abbrev pG:=Tryz.prog
theorem drawn:pA Tryz.prog:=yz (Checked.mixed Tryz.checked)
abbrev mT(f:FuncId)(refs:List Bool)(flat:Bool)(sig:List PT)(du:List RT){α:Type}(t:List D->List Row->Tree α)(enc:α->D)(out:α->List Row):bd:=kU f refs flat sig du (λa r=>(t a r).p) (λa r=>(t a r).m) enc out
abbrev mS(f:FuncId)(refs:List Bool)(flat:Bool)(sig:List PT)(du:List RT){α:Type}(t:List D->List Row->Tree α)(enc:α->D)(out:α->List Row):bd:=FP f refs flat sig du (λa r=>(t a r).m) enc out
theorem oT{G}{β:Type}{enc:β->D}{out:β->List Row}{t:List D->List Row->Tree β}(hG:jD pG G)(hf:pG.funcs[f]?=some fn)(he:∀args w,(callFunc f args).run pG w=.ok (.enter f args) w)(ds:List mY)(fq:List (Nat×cg))(dep:Nat)
 (hn:∀args rows Q,(kh jZ G (LL jZ G fn.ntmps du.length fq dep) fn (kW sig args 0) (kv du rows 0) λd R=>nT du.length ds d R Q)=(t args rows).q λX=>Q (enc X) (out X):=by intro _ _ _;kernel_rfl) (jx:flat=true->∀X,(tj (enc X)&&jy (out X))=true:=by intro _ _;kernel_rfl) (hy:Nat.blt f YB=true:=by rfl):bn pG (mT f refs flat sig du t enc out):=tG drawn jz hG hf he t ds fq dep hn (λ_ _=>rfl) (λ_ _ h=>h) jx hy
theorem oS{G}{β:Type}{enc:β->D}{out:β->List Row}{t:List D->List Row->Tree β}(hG:jD pG G)(hf:pG.funcs[f]?=some fn)(he:∀args w,(callFunc f args).run pG w=.ok (.enter f args) w)(ds:List mY)(fq:List (Nat×cg))(dep:Nat)
 (hn:∀args rows Q,(kh jZ G (LL jZ G fn.ntmps du.length fq dep) fn (kW sig args 0) (kv du rows 0) λd R=>nT du.length ds d R Q)=(t args rows).q λX=>Q (enc X) (out X):=by intro _ _ _;kernel_rfl) (hp:∀args rows,(t args rows).p:=by intro _ _;exact Tree.nM (by kernel_rfl)) (jx:flat=true->∀X,(tj (enc X)&&jy (out X))=true:=by intro _ _;kernel_rfl) (hy:Nat.blt f YB=true:=by rfl):bn pG (mS f refs flat sig du t enc out):=Q1 drawn jz hG hf he t ds fq dep hn (λ_ _=>rfl) hp jx hy
noncomputable def _root_.Go.Proofs.Tryz.rR:Func:=yFn 1000000095
theorem _root_.Go.Proofs.Tryz.nU(h:cl):oV Tryz.prog 1000000095 Tryz.rR cl:=.yield (by decide) _ _ rfl rfl rfl rfl rfl rfl rfl h
noncomputable def _root_.Go.Proofs.Tryz.rS:Func:=yFn 1000000144
theorem _root_.Go.Proofs.Tryz.nV(h:cl):oV Tryz.prog 1000000144 Tryz.rS cl:=.yield (by decide) _ _ rfl rfl rfl rfl rfl rfl rfl h

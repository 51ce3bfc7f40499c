import Derived.Test.YthjfindbamdacaaGreatDoorAuditComparesMod
import Derived.Test.YthjfindbamdacaaGreatDoorAuditComparesLate
import Derived.Test.YthjfindbamdacaaGreatDoorAuditComparesT
import Derived.Test.YthjfindbamdacaaGreatDoorChecked
namespace Go.Proofs.YthjfindbamdacaaGreatDoor
open Go Go.GD
noncomputable abbrev pG:=Tryz.prog
theorem drawn:rF Tryz.prog:=vw (Checked.mixed Tryz.checked)
abbrev mT(f:FuncId)(refs:List Bool)(flat:Bool)(sig:List PT)(dm:List RT){α:Type}(t:List D->List Row->Tree α)(enc:α->D)(out:α->List Row):ba:=mo f refs flat sig dm (λa r=>(t a r).p) (λa r=>(t a r).m) enc out
abbrev mS(f:FuncId)(refs:List Bool)(flat:Bool)(sig:List PT)(dm:List RT){α:Type}(t:List D->List Row->Tree α)(enc:α->D)(out:α->List Row):ba:=DV f refs flat sig dm (λa r=>(t a r).m) enc out
theorem oT{G}{f:FuncId}{fn:Func}{refs:List Bool}{flat:Bool}{sig:List PT}{dm:List RT}{β:Type}{enc:β->D}{out:β->List Row}{t:List D->List Row->Tree β}(hG:jO pG G)(hf:pG.funcs[f]?=some fn)(he:∀args w,(callFunc f args).run pG w=.ok (.enter f args) w)(ds:List oG)(gn:List (Nat×bw))(dep:Nat)
 (hn:∀args rows Q,(na kC G (LL kC G fn.ntmps dm.length gn dep) fn (lL sig args 0) (kU dm rows 0) λd R=>rG dm.length ds d R Q)=(t args rows).q λX=>Q (enc X) (out X):=by intro _ _ _;kernel_rfl) (jJ:flat=true->∀X,(uJ (enc X)&&jE (out X))=true:=by intro _ _;kernel_rfl) (hy:Nat.blt f YB=true:=by rfl):bj pG (mT f refs flat sig dm t enc out):=uK drawn mM hG hf he t ds gn dep hn (λ_ _=>rfl) (λ_ _ h=>h) jJ hy
theorem oS{G}{f:FuncId}{fn:Func}{refs:List Bool}{flat:Bool}{sig:List PT}{dm:List RT}{β:Type}{enc:β->D}{out:β->List Row}{t:List D->List Row->Tree β}(hG:jO pG G)(hf:pG.funcs[f]?=some fn)(he:∀args w,(callFunc f args).run pG w=.ok (.enter f args) w)(ds:List oG)(gn:List (Nat×bw))(dep:Nat)
 (hn:∀args rows Q,(na kC G (LL kC G fn.ntmps dm.length gn dep) fn (lL sig args 0) (kU dm rows 0) λd R=>rG dm.length ds d R Q)=(t args rows).q λX=>Q (enc X) (out X):=by intro _ _ _;kernel_rfl) (hp:∀args rows,(t args rows).p:=by intro _ _;exact Tree.uL (by kernel_rfl)) (jJ:flat=true->∀X,(uJ (enc X)&&jE (out X))=true:=by intro _ _;kernel_rfl) (hy:Nat.blt f YB=true:=by rfl):bj pG (mS f refs flat sig dm t enc out):=Q10 drawn mM hG hf he t ds gn dep hn (λ_ _=>rfl) hp jJ hy

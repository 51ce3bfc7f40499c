import Derived.Test.YthjfindbamdacaaGreatDoorAuditAcceptsMod
import Derived.Test.YthjfindbamdacaaGreatDoorAuditAcceptsLate
import Derived.Test.YthjfindbamdacaaGreatDoorAuditAcceptsT
import Derived.Test.YthjfindbamdacaaGreatDoorChecked
namespace Go.Proofs.YthjfindbamdacaaGreatDoor
open Go Go.GD
variable {f:FuncId}{flat:Bool}{fn:Func}{refs:List Bool}{dw:List RT}{sig:List PT}
noncomputable abbrev pG:=Tryz.prog
theorem drawn:sB Tryz.prog:=yA (Checked.mixed Tryz.checked)
abbrev mT(f:FuncId)(refs:List Bool)(flat:Bool)(sig:List PT)(dw:List RT){α:Type}(t:List D->List Row->Tree α)(enc:α->D)(out:α->List Row):bf:=mP f refs flat sig dw (λa r=>(t a r).p) (λa r=>(t a r).m) enc out
abbrev mS(f:FuncId)(refs:List Bool)(flat:Bool)(sig:List PT)(dw:List RT){α:Type}(t:List D->List Row->Tree α)(enc:α->D)(out:α->List Row):bf:=EZ f refs flat sig dw (λa r=>(t a r).m) enc out
theorem oT{G}{β:Type}{enc:β->D}{out:β->List Row}{t:List D->List Row->Tree β}(hG:j5 pG G)(hf:pG.funcs[f]?=some fn)(he:∀args w,(callFunc f args).run pG w=.ok (.enter f args) w)(ds:List pS)(ia:List (Nat×bn))(dep:Nat)
 (hn:∀args rows Q,(nD kY G (LL kY G fn.ntmps dw.length ia dep) fn (mw sig args 0) (lH dw rows 0) λd R=>sC dw.length ds d R Q)=(t args rows).q λX=>Q (enc X) (out X):=by intro _ _ _;kernel_rfl) (jY:flat=true->∀X,(wA (enc X)&&jO (out X))=true:=by intro _ _;kernel_rfl) (hy:Nat.blt f YB=true:=by rfl):bj pG (mT f refs flat sig dw t enc out):=ue drawn mQ hG hf he t ds ia dep hn (λ_ _=>rfl) (λ_ _ h=>h) jY hy
theorem oS{G}{β:Type}{enc:β->D}{out:β->List Row}{t:List D->List Row->Tree β}(hG:j5 pG G)(hf:pG.funcs[f]?=some fn)(he:∀args w,(callFunc f args).run pG w=.ok (.enter f args) w)(ds:List pS)(ia:List (Nat×bn))(dep:Nat)
 (hn:∀args rows Q,(nD kY G (LL kY G fn.ntmps dw.length ia dep) fn (mw sig args 0) (lH dw rows 0) λd R=>sC dw.length ds d R Q)=(t args rows).q λX=>Q (enc X) (out X):=by intro _ _ _;kernel_rfl) (hp:∀args rows,(t args rows).p:=by intro _ _;exact Tree.wC (by kernel_rfl)) (jY:flat=true->∀X,(wA (enc X)&&jO (out X))=true:=by intro _ _;kernel_rfl) (hy:Nat.blt f YB=true:=by rfl):bj pG (mS f refs flat sig dw t enc out):=Q11 drawn mQ hG hf he t ds ia dep hn (λ_ _=>rfl) hp jY hy

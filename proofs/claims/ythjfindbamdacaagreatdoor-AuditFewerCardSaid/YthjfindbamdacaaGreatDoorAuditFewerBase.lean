import Derived.Test.YthjfindbamdacaaGreatDoorAuditFewerMod
import Derived.Test.YthjfindbamdacaaGreatDoorAuditFewerLate
import Derived.Test.YthjfindbamdacaaGreatDoorAuditFewerT
import Derived.Test.YthjfindbamdacaaGreatDoorChecked
namespace Go.Proofs.YthjfindbamdacaaGreatDoor
open Go Go.GD
noncomputable abbrev pG:=Tryz.prog
theorem drawn:sj Tryz.prog:=xz (Checked.mixed Tryz.checked)
abbrev mT(f:FuncId)(refs:List Bool)(flat:Bool)(sig:List PT)(dt:List RT){α:Type}(t:List D->List Row->Tree α)(enc:α->D)(out:α->List Row):bc:=mW f refs flat sig dt (λa r=>(t a r).p) (λa r=>(t a r).m) enc out
abbrev mS(f:FuncId)(refs:List Bool)(flat:Bool)(sig:List PT)(dt:List RT){α:Type}(t:List D->List Row->Tree α)(enc:α->D)(out:α->List Row):bc:=EN f refs flat sig dt (λa r=>(t a r).m) enc out
theorem oT{G}{f:FuncId}{fn:Func}{refs:List Bool}{flat:Bool}{sig:List PT}{dt:List RT}{β:Type}{enc:β->D}{out:β->List Row}{t:List D->List Row->Tree β}(hG:jZ pG G)(hf:pG.funcs[f]?=some fn)(he:∀args w,(callFunc f args).run pG w=.ok (.enter f args) w)(ds:List pk)(h8:List (Nat×bw))(dep:Nat)
 (hn:∀args rows Q,(nF kR G (LL kR G fn.ntmps dt.length h8 dep) fn (mr sig args 0) (lG dt rows 0) λd R=>sq dt.length ds d R Q)=(t args rows).q λX=>Q (enc X) (out X):=by intro _ _ _;kernel_rfl) (jU:flat=true->∀X,(wm (enc X)&&jK (out X))=true:=by intro _ _;kernel_rfl) (hy:Nat.blt f YB=true:=by rfl):bn pG (mT f refs flat sig dt t enc out):=wo drawn mX hG hf he t ds h8 dep hn (λ_ _=>rfl) (λ_ _ h=>h) jU hy
theorem oS{G}{f:FuncId}{fn:Func}{refs:List Bool}{flat:Bool}{sig:List PT}{dt:List RT}{β:Type}{enc:β->D}{out:β->List Row}{t:List D->List Row->Tree β}(hG:jZ pG G)(hf:pG.funcs[f]?=some fn)(he:∀args w,(callFunc f args).run pG w=.ok (.enter f args) w)(ds:List pk)(h8:List (Nat×bw))(dep:Nat)
 (hn:∀args rows Q,(nF kR G (LL kR G fn.ntmps dt.length h8 dep) fn (mr sig args 0) (lG dt rows 0) λd R=>sq dt.length ds d R Q)=(t args rows).q λX=>Q (enc X) (out X):=by intro _ _ _;kernel_rfl) (hp:∀args rows,(t args rows).p:=by intro _ _;exact Tree.wq (by kernel_rfl)) (jU:flat=true->∀X,(wm (enc X)&&jK (out X))=true:=by intro _ _;kernel_rfl) (hy:Nat.blt f YB=true:=by rfl):bn pG (mS f refs flat sig dt t enc out):=Q1 drawn mX hG hf he t ds h8 dep hn (λ_ _=>rfl) hp jU hy

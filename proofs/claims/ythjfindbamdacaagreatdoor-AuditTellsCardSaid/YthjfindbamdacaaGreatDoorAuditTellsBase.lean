import Derived.Test.YthjfindbamdacaaGreatDoorAuditTellsMod
import Derived.Test.YthjfindbamdacaaGreatDoorAuditTellsLate
import Derived.Test.YthjfindbamdacaaGreatDoorAuditTellsT
import Derived.Test.YthjfindbamdacaaGreatDoorChecked
namespace Go.Proofs.YthjfindbamdacaaGreatDoor
open Go Go.GD
noncomputable abbrev pG:=Tryz.prog
theorem drawn:sj Tryz.prog:=yw (Checked.mixed Tryz.checked)
abbrev mT(f:FuncId)(refs:List Bool)(flat:Bool)(sig:List PT)(dq:List RT){α:Type}(t:List D->List Row->Tree α)(enc:α->D)(out:α->List Row):bb:=mU f refs flat sig dq (λa r=>(t a r).p) (λa r=>(t a r).m) enc out
abbrev mS(f:FuncId)(refs:List Bool)(flat:Bool)(sig:List PT)(dq:List RT){α:Type}(t:List D->List Row->Tree α)(enc:α->D)(out:α->List Row):bb:=EN f refs flat sig dq (λa r=>(t a r).m) enc out
theorem oT{G}{f:FuncId}{fn:Func}{refs:List Bool}{flat:Bool}{sig:List PT}{dq:List RT}{β:Type}{enc:β->D}{out:β->List Row}{t:List D->List Row->Tree β}(hG:j5 pG G)(hf:pG.funcs[f]?=some fn)(he:∀args w,(callFunc f args).run pG w=.ok (.enter f args) w)(ds:List o8)(gy:List (Nat×bm))(dep:Nat)
 (hn:∀args rows Q,(nz kX G (LL kX G fn.ntmps dq.length gy dep) fn (mq sig args 0) (lG dq rows 0) λd R=>sq dq.length ds d R Q)=(t args rows).q λX=>Q (enc X) (out X):=by intro _ _ _;kernel_rfl) (jZ:flat=true->∀X,(wu (enc X)&&jP (out X))=true:=by intro _ _;kernel_rfl) (hy:Nat.blt f YB=true:=by rfl):bj pG (mT f refs flat sig dq t enc out):=wv drawn nj hG hf he t ds gy dep hn (λ_ _=>rfl) (λ_ _ h=>h) jZ hy
theorem oS{G}{f:FuncId}{fn:Func}{refs:List Bool}{flat:Bool}{sig:List PT}{dq:List RT}{β:Type}{enc:β->D}{out:β->List Row}{t:List D->List Row->Tree β}(hG:j5 pG G)(hf:pG.funcs[f]?=some fn)(he:∀args w,(callFunc f args).run pG w=.ok (.enter f args) w)(ds:List o8)(gy:List (Nat×bm))(dep:Nat)
 (hn:∀args rows Q,(nz kX G (LL kX G fn.ntmps dq.length gy dep) fn (mq sig args 0) (lG dq rows 0) λd R=>sq dq.length ds d R Q)=(t args rows).q λX=>Q (enc X) (out X):=by intro _ _ _;kernel_rfl) (hp:∀args rows,(t args rows).p:=by intro _ _;exact Tree.wx (by kernel_rfl)) (jZ:flat=true->∀X,(wu (enc X)&&jP (out X))=true:=by intro _ _;kernel_rfl) (hy:Nat.blt f YB=true:=by rfl):bj pG (mS f refs flat sig dq t enc out):=Q10 drawn nj hG hf he t ds gy dep hn (λ_ _=>rfl) hp jZ hy

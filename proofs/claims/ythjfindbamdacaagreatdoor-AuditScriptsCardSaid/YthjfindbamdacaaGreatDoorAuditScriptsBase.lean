import Derived.Test.YthjfindbamdacaaGreatDoorAuditScriptsMod
import Derived.Test.YthjfindbamdacaaGreatDoorAuditScriptsLate
import Derived.Test.YthjfindbamdacaaGreatDoorAuditScriptsT
import Derived.Test.YthjfindbamdacaaGreatDoorChecked
namespace Go.Proofs.YthjfindbamdacaaGreatDoor
open Go Go.GD
noncomputable abbrev pG:=Tryz.prog
theorem drawn:Qf Tryz.prog:=zz (Checked.mixed Tryz.checked)
abbrev mT(f:FuncId)(refs:List Bool)(flat:Bool)(sig:List PT)(dr:List RT){α:Type}(t:List D->List Row->Tree α)(enc:α->D)(out:α->List Row):bc:=mP f refs flat sig dr (λa r=>(t a r).p) (λa r=>(t a r).m) enc out
abbrev mS(f:FuncId)(refs:List Bool)(flat:Bool)(sig:List PT)(dr:List RT){α:Type}(t:List D->List Row->Tree α)(enc:α->D)(out:α->List Row):bc:=EC f refs flat sig dr (λa r=>(t a r).m) enc out
theorem oT{G}{f:FuncId}{fn:Func}{refs:List Bool}{flat:Bool}{sig:List PT}{dr:List RT}{β:Type}{enc:β->D}{out:β->List Row}{t:List D->List Row->Tree β}(hG:jT pG G)(hf:pG.funcs[f]?=some fn)(he:∀args w,(callFunc f args).run pG w=.ok (.enter f args) w)(ds:List oZ)(h8:List (Nat×bu))(dep:Nat)
 (hn:∀args rows Q,(nz kN G (LL kN G fn.ntmps dr.length h8 dep) fn (Qe sig args 0) (lr dr rows 0) λd R=>sd dr.length ds d R Q)=(t args rows).q λX=>Q (enc X) (out X):=by intro _ _ _;kernel_rfl) (jP:flat=true->∀X,(wa (enc X)&&jI (out X))=true:=by intro _ _;kernel_rfl) (hy:Nat.blt f YB=true:=by rfl):bj pG (mT f refs flat sig dr t enc out):=wc drawn mQ hG hf he t ds h8 dep hn (λ_ _=>rfl) (λ_ _ h=>h) jP hy
theorem oS{G}{f:FuncId}{fn:Func}{refs:List Bool}{flat:Bool}{sig:List PT}{dr:List RT}{β:Type}{enc:β->D}{out:β->List Row}{t:List D->List Row->Tree β}(hG:jT pG G)(hf:pG.funcs[f]?=some fn)(he:∀args w,(callFunc f args).run pG w=.ok (.enter f args) w)(ds:List oZ)(h8:List (Nat×bu))(dep:Nat)
 (hn:∀args rows Q,(nz kN G (LL kN G fn.ntmps dr.length h8 dep) fn (Qe sig args 0) (lr dr rows 0) λd R=>sd dr.length ds d R Q)=(t args rows).q λX=>Q (enc X) (out X):=by intro _ _ _;kernel_rfl) (hp:∀args rows,(t args rows).p:=by intro _ _;exact Tree.we (by kernel_rfl)) (jP:flat=true->∀X,(wa (enc X)&&jI (out X))=true:=by intro _ _;kernel_rfl) (hy:Nat.blt f YB=true:=by rfl):bj pG (mS f refs flat sig dr t enc out):=Q1 drawn mQ hG hf he t ds h8 dep hn (λ_ _=>rfl) hp jP hy

import Derived.Test.YthjfindbamdacaaGreatDoorAuditFindsMod
import Derived.Test.YthjfindbamdacaaGreatDoorAuditFindsLate
import Derived.Test.YthjfindbamdacaaGreatDoorAuditFindsT
import Derived.Test.YthjfindbamdacaaGreatDoorChecked
namespace Go.Proofs.YthjfindbamdacaaGreatDoor
open Go Go.GD
noncomputable abbrev pG:=Tryz.prog
theorem drawn:r7 Tryz.prog:=xz (Checked.mixed Tryz.checked)
abbrev mT(f:FuncId)(refs:List Bool)(flat:Bool)(sig:List PT)(dr:List RT){α:Type}(t:List D->List Row->Tree α)(enc:α->D)(out:α->List Row):bc:=mM f refs flat sig dr (λa r=>(t a r).p) (λa r=>(t a r).m) enc out
abbrev mS(f:FuncId)(refs:List Bool)(flat:Bool)(sig:List PT)(dr:List RT){α:Type}(t:List D->List Row->Tree α)(enc:α->D)(out:α->List Row):bc:=ED f refs flat sig dr (λa r=>(t a r).m) enc out
theorem oT{G}{f:FuncId}{fn:Func}{refs:List Bool}{flat:Bool}{sig:List PT}{dr:List RT}{β:Type}{enc:β->D}{out:β->List Row}{t:List D->List Row->Tree β}(hG:jW pG G)(hf:pG.funcs[f]?=some fn)(he:∀args w,(callFunc f args).run pG w=.ok (.enter f args) w)(ds:List oX)(h8:List (Nat×bu))(dep:Nat)
 (hn:∀args rows Q,(ny kM G (LL kM G fn.ntmps dr.length h8 dep) fn (me sig args 0) (lr dr rows 0) λd R=>r8 dr.length ds d R Q)=(t args rows).q λX=>Q (enc X) (out X):=by intro _ _ _;kernel_rfl) (jS:flat=true->∀X,(uZ (enc X)&&jH (out X))=true:=by intro _ _;kernel_rfl) (hy:Nat.blt f YB=true:=by rfl):bj pG (mT f refs flat sig dr t enc out):=u5 drawn mN hG hf he t ds h8 dep hn (λ_ _=>rfl) (λ_ _ h=>h) jS hy
theorem oS{G}{f:FuncId}{fn:Func}{refs:List Bool}{flat:Bool}{sig:List PT}{dr:List RT}{β:Type}{enc:β->D}{out:β->List Row}{t:List D->List Row->Tree β}(hG:jW pG G)(hf:pG.funcs[f]?=some fn)(he:∀args w,(callFunc f args).run pG w=.ok (.enter f args) w)(ds:List oX)(h8:List (Nat×bu))(dep:Nat)
 (hn:∀args rows Q,(ny kM G (LL kM G fn.ntmps dr.length h8 dep) fn (me sig args 0) (lr dr rows 0) λd R=>r8 dr.length ds d R Q)=(t args rows).q λX=>Q (enc X) (out X):=by intro _ _ _;kernel_rfl) (hp:∀args rows,(t args rows).p:=by intro _ _;exact Tree.u6 (by kernel_rfl)) (jS:flat=true->∀X,(uZ (enc X)&&jH (out X))=true:=by intro _ _;kernel_rfl) (hy:Nat.blt f YB=true:=by rfl):bj pG (mS f refs flat sig dr t enc out):=Q1 drawn mN hG hf he t ds h8 dep hn (λ_ _=>rfl) hp jS hy

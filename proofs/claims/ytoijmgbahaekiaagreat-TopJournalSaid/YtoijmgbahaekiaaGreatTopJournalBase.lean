import Derived.Test.YtoijmgbahaekiaaGreatTopJournalMod
import Derived.Test.YtoijmgbahaekiaaGreatTopJournalLate
import Derived.Test.YtoijmgbahaekiaaGreatTopJournalT
import Derived.Test.YtoijmgbahaekiaaGreatChecked
namespace Go.Proofs.YtoijmgbahaekiaaGreat
open Go Go.GD
noncomputable abbrev pG:=Tryz.prog
theorem drawn:Qbz Tryz.prog:=xq (Checked.mixed Tryz.checked)
abbrev mT(f:FuncId)(refs:List Bool)(flat:Bool)(sig:List PT)(rsig:List RT){α:Type}(t:List D->List Row->Tree α)(enc:α->D)(out:α->List Row):Q09:=mkP f refs flat sig rsig (λa r=>(t a r).p) (λa r=>(t a r).m) enc out
abbrev mS(f:FuncId)(refs:List Bool)(flat:Bool)(sig:List PT)(rsig:List RT){α:Type}(t:List D->List Row->Tree α)(enc:α->D)(out:α->List Row):Q09:=mkR f refs flat sig rsig (λa r=>(t a r).m) enc out
theorem oT{G}{f:FuncId}{fn:Func}{refs:List Bool}{flat:Bool}{sig:List PT}{rsig:List RT}{β:Type}{enc:β->D}{out:β->List Row}{t:List D->List Row->Tree β}(hG:Q57 pG G)(hf:pG.funcs[f]?=some fn)(he:∀args w,(callFunc f args).run pG w=.ok (.enter f args) w)(ds:List Dir)(invs:List (Nat×LInv))(dep:Nat)
 (hn:∀args rows Q,(fnVC tab G (LL tab G fn.ntmps rsig.length invs dep) fn (Qc8 sig args 0) (Q4d rsig rows 0) λd R=>Q7p rsig.length ds d R Q)=(t args rows).q λX=>Q (enc X) (out X):=by intro _ _ _;kernel_rfl) (hff:flat=true->∀X,(ffB (enc X)&&ffBR (out X))=true:=by intro _ _;kernel_rfl) (hy:Nat.blt f YB=true:=by rfl):Q05 pG (mT f refs flat sig rsig t enc out):=Q0o drawn Q0k hG hf he t ds invs dep hn (λ_ _=>rfl) (λ_ _ h=>h) hff hy
theorem oS{G}{f:FuncId}{fn:Func}{refs:List Bool}{flat:Bool}{sig:List PT}{rsig:List RT}{β:Type}{enc:β->D}{out:β->List Row}{t:List D->List Row->Tree β}(hG:Q57 pG G)(hf:pG.funcs[f]?=some fn)(he:∀args w,(callFunc f args).run pG w=.ok (.enter f args) w)(ds:List Dir)(invs:List (Nat×LInv))(dep:Nat)
 (hn:∀args rows Q,(fnVC tab G (LL tab G fn.ntmps rsig.length invs dep) fn (Qc8 sig args 0) (Q4d rsig rows 0) λd R=>Q7p rsig.length ds d R Q)=(t args rows).q λX=>Q (enc X) (out X):=by intro _ _ _;kernel_rfl) (hp:∀args rows,(t args rows).p:=by intro _ _;exact Tree.free_ok (by kernel_rfl)) (hff:flat=true->∀X,(ffB (enc X)&&ffBR (out X))=true:=by intro _ _;kernel_rfl) (hy:Nat.blt f YB=true:=by rfl):Q05 pG (mS f refs flat sig rsig t enc out):=Q1z drawn Q0k hG hf he t ds invs dep hn (λ_ _=>rfl) hp hff hy

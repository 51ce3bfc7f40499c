/-
  What GD needs of this seat's program.
-/
import Derived.Test.YtfihpfnndbolpaaPrecopyTellsMod
import Derived.Test.YtfihpfnndbolpaaPrecopyTellsLate
import Derived.Test.YtfihpfnndbolpaaPrecopyTellsT
import Derived.Test.YtfihpfnndbolpaaChecked
namespace Go.Proofs.Ytfihpfnndbolpaa
open Go Go.GD
theorem drawn : DrawOK Try.prog := drawVC_ok (Checked.mixed Try.checked)
noncomputable def _root_.Go.Proofs.Try.f1000000009 : Func := yFn 1000000009
theorem _root_.Go.Proofs.Try.func1000000009 {cl : Prop} (h : cl) : FnAt Try.prog 1000000009 Try.f1000000009 cl := .yield (by decide) _ _ rfl rfl rfl rfl rfl rfl h
noncomputable def _root_.Go.Proofs.Try.f1000000035 : Func := yFn 1000000035
theorem _root_.Go.Proofs.Try.func1000000035 {cl : Prop} (h : cl) : FnAt Try.prog 1000000035 Try.f1000000035 cl := .yield (by decide) _ _ rfl rfl rfl rfl rfl rfl h
noncomputable def _root_.Go.Proofs.Try.f1000000046 : Func := yFn 1000000046
theorem _root_.Go.Proofs.Try.func1000000046 {cl : Prop} (h : cl) : FnAt Try.prog 1000000046 Try.f1000000046 cl := .yield (by decide) _ _ rfl rfl rfl rfl rfl rfl h
end Go.Proofs.Ytfihpfnndbolpaa

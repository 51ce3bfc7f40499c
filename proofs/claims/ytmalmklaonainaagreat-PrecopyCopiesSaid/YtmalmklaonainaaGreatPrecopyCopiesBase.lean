/-
  What GD needs of this seat's program.
-/
import Derived.Test.YtmalmklaonainaaGreatPrecopyCopiesMod
import Derived.Test.YtmalmklaonainaaGreatPrecopyCopiesLate
import Derived.Test.YtmalmklaonainaaGreatPrecopyCopiesT
import Derived.Test.YtmalmklaonainaaGreatChecked
namespace Go.Proofs.YtmalmklaonainaaGreat
open Go Go.GD
theorem drawn:Qat Tryz.prog:=drawVC_ok (Checked.mixed Tryz.checked)
noncomputable def _root_.Go.Proofs.Tryz.f1000000046:Func:=yFn 1000000046
theorem _root_.Go.Proofs.Tryz.func1000000046{cl:Prop}(h:cl):FnAt Tryz.prog 1000000046 Tryz.f1000000046 cl:= .yield (by decide) _ _ rfl rfl rfl rfl rfl rfl h
noncomputable def _root_.Go.Proofs.Tryz.f1000000204:Func:=yFn 1000000204
theorem _root_.Go.Proofs.Tryz.func1000000204{cl:Prop}(h:cl):FnAt Tryz.prog 1000000204 Tryz.f1000000204 cl:= .yield (by decide) _ _ rfl rfl rfl rfl rfl rfl h
noncomputable def _root_.Go.Proofs.Tryz.f1000000205:Func:=yFn 1000000205
theorem _root_.Go.Proofs.Tryz.func1000000205{cl:Prop}(h:cl):FnAt Tryz.prog 1000000205 Tryz.f1000000205 cl:= .yield (by decide) _ _ rfl rfl rfl rfl rfl rfl h
end Go.Proofs.YtmalmklaonainaaGreat

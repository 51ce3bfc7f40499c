import Derived.Test.YtmalmklaonainaaGreatReplayPiecesMod
import Derived.Test.YtmalmklaonainaaGreatReplayPiecesLate
import Derived.Test.YtmalmklaonainaaGreatReplayPiecesT
import Derived.Test.YtmalmklaonainaaGreatChecked
namespace Go.Proofs.YtmalmklaonainaaGreat
open Go Go.GD
noncomputable abbrev pG:=Tryz.prog
theorem drawn:Qgl Tryz.prog:=vv (Checked.mixed Tryz.checked)
noncomputable def _root_.Go.Proofs.Tryz.f1000000068:Func:=yFn 1000000068
theorem _root_.Go.Proofs.Tryz.func1000000068{cl:Prop}(h:cl):FnAt Tryz.prog 1000000068 Tryz.f1000000068 cl:= .yieldB (by decide) _ _ rfl rfl rfl rfl rfl rfl rfl rfl h

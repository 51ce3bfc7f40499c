/-
  Functions of the program: models, and that its calls come to them (by a program: gen3.py).
-/
import Derived.Test.YtmalmklaonainaaGreatPrecopyCopiesBase
import Derived.Test.YtmalmklaonainaaGreatPrecopyCopiesZc
import Derived.Test.YtmalmklaonainaaGreatPrecopyCopiesZb
import Derived.Test.YtmalmklaonainaaGreatPrecopyCopiesZa
set_option maxRecDepth 100000
set_option linter.unusedVariables false
set_option linter.unusedSimpArgs false
namespace Go.Proofs.YtmalmklaonainaaGreat
open Go Go.GD Go.IntKind
noncomputable section
instance sumInhZg {α β:Type} [Inhabited β]:Inhabited (α⊕β):=⟨.inr default⟩
end
end Go.Proofs.YtmalmklaonainaaGreat

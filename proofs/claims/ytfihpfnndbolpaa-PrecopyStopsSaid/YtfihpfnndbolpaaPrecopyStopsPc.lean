/-
  Functions of the program: models, and that its calls come to them (by a program: gen3.py).
-/
import Derived.Test.YtfihpfnndbolpaaPrecopyStopsBase
namespace Go.Proofs.Ytfihpfnndbolpaa
open Go Go.GD Go.IntKind
set_option linter.unusedVariables false
set_option linter.unusedSimpArgs false
set_option maxRecDepth 100000
noncomputable section
instance sumInhPc {α β : Type} [Inhabited β] : Inhabited (α ⊕ β) := ⟨.inr default⟩
end
end Go.Proofs.Ytfihpfnndbolpaa

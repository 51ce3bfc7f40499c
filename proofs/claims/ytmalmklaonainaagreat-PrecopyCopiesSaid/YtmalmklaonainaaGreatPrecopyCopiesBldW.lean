/-
  GD: copyCheck and String of a strings.Builder, walked over any program that bears their bodies; the builder may be a part of another variable.
-/
import Derived.Shelf.Strings.Builder1
import Derived.Test.YtmalmklaonainaaGreatPrecopyCopiesBld
set_option linter.unusedVariables false
set_option linter.unusedSimpArgs false
namespace Go.GD
open Go Go.Proofs Go.Shelf Go.RowKit
variable {P:Program} {ρ:Ren}
end Go.GD

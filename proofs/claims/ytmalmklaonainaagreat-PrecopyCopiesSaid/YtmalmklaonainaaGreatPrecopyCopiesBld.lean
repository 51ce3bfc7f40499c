/-
  GD: a builder of strings: copyCheck and String, as GD reads them.
-/
import Derived.Test.YtmalmklaonainaaGreatPrecopyCopiesMod
set_option linter.unusedVariables false
set_option linter.unusedSimpArgs false
namespace Go.GD
open Go
end Go.GD

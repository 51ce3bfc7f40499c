import Derived.Shelf.Strings.Builder1
import Derived.Test.YtmalmklaonainaaGreatReplayRefusesBld
set_option linter.all false
namespace Go.GD
open Go Go.Proofs Go.Shelf Go.RowKit
variable {P:Program} {ρ:Ren}

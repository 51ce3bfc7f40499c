import Derived.Test.YtmalmklaonainaaGreatReplayRefusesMod
set_option linter.all false
namespace Go.GD
open Go

import Derived.Test.YtmalmklaonainaaGreatRecordCutsMod
set_option linter.all false
namespace Go.GD
open Go
end Go.GD

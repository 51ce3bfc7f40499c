import Derived.Test.YtmalmklaonainaaGreatRecordCutsMod
import Derived.Test.YtmalmklaonainaaGreatRecordCutsLate
import Derived.Test.YtmalmklaonainaaGreatRecordCutsT
import Derived.Test.YtmalmklaonainaaGreatChecked
namespace Go.Proofs.YtmalmklaonainaaGreat
open Go Go.GD
theorem drawn:Qf7 Tryz.prog:=vt (Checked.mixed Tryz.checked)
end Go.Proofs.YtmalmklaonainaaGreat

import Derived.Test.YtmalmklaonainaaGreatMachinePortsMod
import Derived.Test.YtmalmklaonainaaGreatMachinePortsLate
import Derived.Test.YtmalmklaonainaaGreatMachinePortsT
import Derived.Test.YtmalmklaonainaaGreatChecked
namespace Go.Proofs.YtmalmklaonainaaGreat
open Go Go.GD
noncomputable abbrev pG:=Tryz.prog
theorem drawn:Qdz Tryz.prog:=xp (Checked.mixed Tryz.checked)

import Derived.Test.YtjaifpiopmhmlaaGreatBareRunsMod
import Derived.Test.YtjaifpiopmhmlaaGreatBareRunsLate
import Derived.Test.YtjaifpiopmhmlaaGreatBareRunsT
import Derived.Test.YtjaifpiopmhmlaaGreatChecked
namespace Go.Proofs.YtjaifpiopmhmlaaGreat
open Go Go.GD
theorem Q0j:Qk9 Tryz.prog:=xu (Checked.mixed Tryz.checked)
end Go.Proofs.YtjaifpiopmhmlaaGreat

/- The small input of law 05 is answered. No condition. -/
import Derived.Test.YtdcojinnjpihaaaDoorXPure
import Derived.Test.YtdcojinnjpihaaaDoorF9
namespace Go.Proofs.YtdcojinnjpihaaaDoor.F
open Go Go.RowKit Go.Proofs.YtdcojinnjpihaaaDoor.X

set_option maxRecDepth 1000000 in
theorem headgatelaw05_wakes.is (k : Nat) : headgatelaw05_wakes.f (k + 200) = some true := by kernel_rfl

end Go.Proofs.YtdcojinnjpihaaaDoor.F

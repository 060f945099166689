/- The plain law of headgatelaw14.ExecNone: whatever the input, it is true. No condition. -/
import Derived.Test.YteahodjiihjmnaaGreatDoorXPure
import Derived.Test.YteahodjiihjmnaaGreatDoorF13
namespace Go.Proofs.YteahodjiihjmnaaGreatDoor.F
open Go Go.RowKit Go.Proofs.YteahodjiihjmnaaGreatDoor.X
theorem headgatelaw14_ExecNone.pure (a0 : T_api_Cmd) (o0 : a0.ok) : ∃ K, headgatelaw14_ExecNone.f K a0 = some true := ⟨5, by kernel_rfl⟩
end Go.Proofs.YteahodjiihjmnaaGreatDoor.F

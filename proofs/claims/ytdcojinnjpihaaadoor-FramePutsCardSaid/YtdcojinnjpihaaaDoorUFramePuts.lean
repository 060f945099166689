/- The plain law of headgatelaw05.FramePuts: whatever the input, it is true. No condition. -/
import Derived.Test.YtdcojinnjpihaaaDoorUFrame
import Derived.Test.YtdcojinnjpihaaaDoorUFrameW
import Derived.Test.YtdcojinnjpihaaaDoorF24
namespace Go.Proofs.YtdcojinnjpihaaaDoor.F
open Go Go.RowKit Go.Proofs.YtdcojinnjpihaaaDoor.X
set_option linter.unusedVariables false
set_option linter.unusedSimpArgs false

theorem headgatelaw05_FramePuts.pure (a0 : Int) (a1 : ByteArray) (a2 : Int) (o0 : 0 ≤ a0 ∧ a0 ≤ 18446744073709551615) (o1 : a1.size ≤ 140737488351232) (o2 : (-9223372036854775808) ≤ a2 ∧ a2 ≤ 9223372036854775807) : ∃ K, headgatelaw05_FramePuts.f K a0 a1 a2 = some true := by
  refine ⟨100000 + 200, ?_⟩
  have hw : headgatelaw05_wakes.f (100000 + 200) = some true := headgatelaw05_wakes.is 100000
  unfold headgatelaw05_FramePuts.f
  by_cases h : (a1.size : Int) > 70000
  · rw [if_pos h, hw]; rfl
  rw [if_neg h, frame_Put.is a0 o0.1 o0.2 a1 (by omega) _ (by omega), Option.bind_some, headgateref05_Put.is a0 o0.1 o0.2 a1 (by omega) _ (by omega), Option.bind_some, if_pos rfl, if_pos rfl, frame_Sectors.is a2 o2.1 o2.2, Option.bind_some, headgateref05_Sectors.is a2 o2.1 o2.2, Option.bind_some, if_pos rfl, hw]
  rfl

end Go.Proofs.YtdcojinnjpihaaaDoor.F

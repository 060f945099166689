/- The plain law of headgatelaw05.FrameGets: whatever the input, it is true. No condition. -/
import Derived.Test.YtdcojinnjpihaaaDoorUFrame
import Derived.Test.YtdcojinnjpihaaaDoorUFrameW
import Derived.Test.YtdcojinnjpihaaaDoorF42
namespace Go.Proofs.YtdcojinnjpihaaaDoor.F
open Go Go.RowKit Go.Proofs.YtdcojinnjpihaaaDoor.X
set_option linter.unusedVariables false
set_option linter.unusedSimpArgs false

theorem headgatelaw05_FrameGets.pure (a0 : ByteArray) (o0 : a0.size ≤ 140737488351232) : ∃ K, headgatelaw05_FrameGets.f K a0 = some true := by
  refine ⟨100000 + 200, ?_⟩
  have hw : headgatelaw05_wakes.f (100000 + 200) = some true := headgatelaw05_wakes.is 100000
  unfold headgatelaw05_FrameGets.f
  by_cases h : (a0.size : Int) > 70000
  · rw [if_pos h, hw]; rfl
  rw [if_neg h, frame_Get.is a0 (by omega) _ (by omega), Option.bind_some, headgateref05_Get.is a0 (by omega) _ (by omega), Option.bind_some]
  have e1 : (outB a0).1 = (refB a0).1.f0 := by unfold outB refB; cases getB a0 <;> rfl
  have e2 : (outB a0).2.1 = (refB a0).1.f1 := by unfold outB refB; cases getB a0 <;> rfl
  have e3 : (outB a0).2.2.1 = (refB a0).1.f2 := by unfold outB refB; cases getB a0 <;> rfl
  have e4 : (outB a0).2.2.2 = (refB a0).2 := by unfold outB refB; cases getB a0 <;> rfl
  rw [if_pos e1, if_pos e2, if_pos e3, if_pos e4, hw]
  rfl

end Go.Proofs.YtdcojinnjpihaaaDoor.F

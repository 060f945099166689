/- The plain law of headgatelaw25.SqeGets: whatever the input, it is true. No condition. -/
import Derived.Test.YtceagilmillgfaaDoorUSqeGet
import Derived.Test.YtceagilmillgfaaDoorUSqePuts
import Derived.Test.YtceagilmillgfaaDoorF5
namespace Go.Proofs.YtceagilmillgfaaDoor.F
open Go Go.RowKit Go.Proofs.YtceagilmillgfaaDoor.X
open Classical
set_option linter.unusedVariables false
set_option linter.unusedSimpArgs false

theorem headgatelaw25_SqeGets.pure (a0 : ByteArray) (o0 : a0.size ≤ 140737488351232) : ∃ K, headgatelaw25_SqeGets.f K a0 = some true := by
  refine ⟨180 + 20, ?_⟩
  have hw : headgatelaw25_wakes.f (180 + 20) = some true := headgatelaw25_wakes.is 0
  unfold headgatelaw25_SqeGets.f
  by_cases h : (a0.size : Int) > 5000
  · rw [if_pos h, hw]; rfl
  · rw [if_neg h, sqe_Get.is, Option.bind_some, headgateref25_Get.is, Option.bind_some, sqe_Ended.is, Option.bind_some, headgateref25_Ended.is, Option.bind_some, headgateref25_Same.is, Option.bind_some, if_pos (by simp), if_pos rfl, if_pos rfl, headgateref25_SameEnd.is, Option.bind_some, if_pos (by simp), if_pos rfl, hw]
    rfl

end Go.Proofs.YtceagilmillgfaaDoor.F

/- The plain law of headgatelaw25.SqePuts: whatever the input, it is true. No condition. -/
import Derived.Test.YtceagilmillgfaaDoorUSqe
import Derived.Test.YtceagilmillgfaaDoorF3
import Derived.Test.YtceagilmillgfaaDoorF17
namespace Go.Proofs.YtceagilmillgfaaDoor.F
open Go Go.RowKit Go.Proofs.YtceagilmillgfaaDoor.X
set_option linter.unusedVariables false
set_option linter.unusedSimpArgs false

theorem headgatelaw25_wakes.is (k : Nat) : headgatelaw25_wakes.f (k + 200) = some true := by kernel_rfl

theorem headgatelaw25_SqePuts.pure (a0 : T_api_Sqe) (a1 : Bool) (a2 : T_api_Cqe) (o0 : a0.ok) (o1 : True) (o2 : a2.ok) : ∃ K, headgatelaw25_SqePuts.f K a0 a1 a2 = some true := by
  refine ⟨180 + 20, ?_⟩
  have hw : headgatelaw25_wakes.f (180 + 20) = some true := headgatelaw25_wakes.is 0
  unfold headgatelaw25_SqePuts.f
  rw [sqe_Put.is _ o0, Option.bind_some, headgateref25_Put.is _ o0, Option.bind_some, sqe_End.is _ o2, Option.bind_some, headgateref25_End.is _ o2, Option.bind_some, if_pos rfl, if_pos rfl, if_pos rfl, if_pos rfl, hw]
  rfl

end Go.Proofs.YtceagilmillgfaaDoor.F

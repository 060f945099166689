/- The plain law of headgatelaw16.SenseOf: whatever the input, it is true. No condition. -/
import Derived.Test.YthjjbkgifelooaaDoorUSenseRef
import Derived.Test.YthjjbkgifelooaaDoorUSenseBytes0
import Derived.Test.YthjjbkgifelooaaDoorF7
namespace Go.Proofs.YthjjbkgifelooaaDoor.F
open Go Go.RowKit Go.Proofs.YthjjbkgifelooaaDoor.X
set_option linter.unusedVariables false
set_option linter.unusedSimpArgs false
theorem headgatelaw16_SenseOf.pure (a0 : T_api_Out) (a1 : Int) (a2 : T_api_Sense) (o0 : a0.ok) (o1 : (-9223372036854775808) ≤ a1 ∧ a1 ≤ 9223372036854775807) (o2 : a2.ok) : ∃ K, headgatelaw16_SenseOf.f K a0 a1 a2 = some true := by
  refine ⟨12, ?_⟩
  unfold headgatelaw16_SenseOf.f
  rw [show (12 : Nat) = 0 + 12 from rfl, sense_Of.is, Option.bind_some, headgateref16_Of.is, Option.bind_some, sense_Code.is, Option.bind_some, headgateref16_Code.is, Option.bind_some]
  unfold repS codeR outS
  dsimp only
  rw [if_pos rfl, senses_is, Option.bind_some, if_pos (by simp), if_pos rfl, if_pos rfl, if_pos rfl, if_pos rfl, wakes16]
  rfl
end Go.Proofs.YthjjbkgifelooaaDoor.F

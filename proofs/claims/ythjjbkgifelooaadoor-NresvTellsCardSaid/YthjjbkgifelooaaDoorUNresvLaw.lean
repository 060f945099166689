/- What layer 27's laws share. No condition. -/
import Derived.Test.YthjjbkgifelooaaDoorXPure
import Derived.Test.YthjjbkgifelooaaDoorF23
import Derived.Test.YthjjbkgifelooaaDoorF77
import Derived.KernelRfl
namespace Go.Proofs.YthjjbkgifelooaaDoor.F
open Go Go.RowKit Go.Proofs.YthjjbkgifelooaaDoor.X
set_option linter.unusedVariables false
set_option linter.unusedSimpArgs false

theorem headgatelaw27_wakes.is (k : Nat) : headgatelaw27_wakes.f (k + 200) = some true := by kernel_rfl
theorem headgatelaw27_large.is (c : T_api_Cmd) : ∃ b, headgatelaw27_large.f c = some b ∧ (b = false → c.f7.length ≤ 100) := by
  unfold headgatelaw27_large.f
  split
  · exact ⟨true, rfl, by simp⟩
  · split
    · exact ⟨true, rfl, by simp⟩
    · exact ⟨_, rfl, by simp; omega⟩

end Go.Proofs.YthjjbkgifelooaaDoor.F

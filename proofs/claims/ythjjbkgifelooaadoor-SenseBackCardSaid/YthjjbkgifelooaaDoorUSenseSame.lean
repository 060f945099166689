/- When two senses are the same. No condition. -/
import Derived.Test.YthjjbkgifelooaaDoorUSense
import Derived.Test.YthjjbkgifelooaaDoorF64
namespace Go.Proofs.YthjjbkgifelooaaDoor.F
open Go Go.RowKit Go.Proofs.YthjjbkgifelooaaDoor.X
set_option linter.unusedVariables false
set_option linter.unusedSimpArgs false
instance : DecidableEq T_api_Sense := fun x y => decidable_of_iff (x.f0 = y.f0 ∧ x.f1 = y.f1 ∧ x.f2 = y.f2 ∧ x.f3 = y.f3) (by obtain ⟨a, b, c, d⟩ := x; obtain ⟨a', b', c', d'⟩ := y; simp only [T_api_Sense.mk.injEq])
theorem senses_is (x y : T_api_Sense) : headgatekeep_Senses.f x y = some (decide (x = y)) := by
  unfold headgatekeep_Senses.f
  obtain ⟨a, b, c, d⟩ := x
  obtain ⟨a', b', c', d'⟩ := y
  simp only [T_api_Sense.mk.injEq]
  by_cases h1 : a = a'
  · by_cases h2 : b = b'
    · by_cases h3 : c = c'
      · rw [if_pos h1, if_pos h2, if_pos h3, Bool.beq_eq_decide_eq]; simp [h1, h2, h3]
      · rw [if_pos h1, if_pos h2, if_neg h3]; simp [h3]
    · rw [if_pos h1, if_neg h2]; simp [h2]
  · rw [if_neg h1]; simp [h1]
end Go.Proofs.YthjjbkgifelooaaDoor.F

/- The plain law of headgatelaw17.InquiryPages: whatever the input, it is true. No condition. -/
import Derived.Test.YtccmdlbdpapigaaUInq
import Derived.Test.YtccmdlbdpapigaaF43
import Derived.Test.YtccmdlbdpapigaaF43
namespace Go.Proofs.Ytccmdlbdpapigaa.F
open Go Go.RowKit Go.Proofs.Ytccmdlbdpapigaa.X
set_option linter.unusedVariables false
set_option linter.unusedSimpArgs false
theorem rpage0 (u : T_api_Unit) (there : Bool) : headgateref17_Page.f 300 u there 0 = some (if there = true then (strOfNums (plainL 0), 0) else (strOfNums (plainL 127), 0)) := by
  cases there
  · exact (show _ = _ by kernel_rfl)
  · exact (show _ = _ by kernel_rfl)
theorem headgateref17_Page.is (u : T_api_Unit) (there : Bool) (n : Int) (hu : u.f1.size ≤ 100000) : headgateref17_Page.f 300 u there n = some (pageS u.f1 there n) := by
  have j0 : ∀ x : Bool, headgateref17_Page.j0 300 u n x = some (if x = true then (strOfNums ([0, 131, 0, 20, 1, 1, 0, 16] ++ numsOf u.f1), 0) else if n = 432 then (strOfNums limL, 0) else (⟨#[]⟩, 180)) := by
    intro x
    unfold headgateref17_Page.j0
    by_cases hx : x = true
    · rw [if_pos hx, if_pos hx, asrt_pos (by omega), ← nums_append, nums_numsOf]
      rfl
    · rw [if_neg hx, if_neg hx]
      by_cases h : n = 432
      · rw [if_pos h, if_pos h]
        exact (show _ = _ by kernel_rfl)
      · rw [if_neg h, if_neg h]
  by_cases h0 : n = 0
  · subst h0
    rw [rpage0]
    unfold pageS
    rw [if_pos rfl]
  · unfold headgateref17_Page.f pageS
    rw [if_neg h0, if_neg h0]
    cases there
    · rw [if_neg (by decide), if_neg (by decide)]
    · rw [if_pos rfl, if_pos rfl]
      by_cases h1 : n = 256
      · rw [if_pos h1, if_pos h1]; rfl
      · rw [if_neg h1, if_neg h1, j0, j0]
        by_cases h2 : n = 387
        · rw [if_pos h2]
          by_cases h3 : u.f1.size = 16
          · rw [if_pos (show n = 387 ∧ u.f1.size = 16 from ⟨h2, h3⟩), if_pos (by rw [h3]; rfl)]
          · rw [if_neg (show ¬ (n = 387 ∧ u.f1.size = 16) from fun g => h3 g.2), if_neg (by rw [Bool.beq_eq_decide_eq, decide_eq_true_eq]; omega)]
        · rw [if_neg h2, if_neg (show ¬ (n = 387 ∧ u.f1.size = 16) from fun g => h2 g.1), if_neg (by decide)]
theorem headgatelaw17_InquiryPages.pure (a0 : T_api_Unit) (a1 : Bool) (a2 : Int) (o0 : a0.ok) (o1 : True) (o2 : (-9223372036854775808) ≤ a2 ∧ a2 ≤ 9223372036854775807) : ∃ K, headgatelaw17_InquiryPages.f K a0 a1 a2 = some true := by
  refine ⟨300, ?_⟩
  unfold headgatelaw17_InquiryPages.f
  by_cases h : (a0.f1.size : Int) > 5000
  · rw [if_pos h, wakes17]; rfl
  · rw [if_neg h, inquiry_Page.is _ _ _ (by omega), Option.bind_some, headgateref17_Page.is _ _ _ (by omega), Option.bind_some, if_pos rfl, if_pos rfl, wakes17]; rfl
end Go.Proofs.Ytccmdlbdpapigaa.F

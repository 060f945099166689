/- Two commands are alike (the verifier's and layer 27's own comparison). No condition. -/
import Derived.Test.YthjjbkgifelooaaDoorUKeep
import Derived.Test.YthjjbkgifelooaaDoorF23
namespace Go.Proofs.YthjjbkgifelooaaDoor.F
open Go Go.RowKit Go.Proofs.YthjjbkgifelooaaDoor.X
open Classical
set_option linter.unusedVariables false
set_option linter.unusedSimpArgs false

theorem nresv_same.is (a b : T_api_Cmd) (ha : a.f7 = []) : nresv_same.f a b = some (decide (a = b)) := by
  unfold nresv_same.f
  obtain ⟨a0, a1, a2, a3, a4, a5, a6, a7, a8, a9, a10, a11, a12, a13⟩ := a
  obtain ⟨b0, b1, b2, b3, b4, b5, b6, b7, b8, b9, b10, b11, b12, b13⟩ := b
  simp only at ha
  subst ha
  simp only [T_api_Cmd.mk.injEq]
  by_cases h0 : a0 = b0 <;> simp [h0]
  by_cases h1 : a1 = b1 <;> simp [h1]
  by_cases h2 : a2 = b2 <;> simp [h2]
  by_cases h3 : a3 = b3 <;> simp [h3]
  by_cases h4 : a4 = b4 <;> simp [h4]
  by_cases h5 : a5 = b5 <;> simp [h5]
  by_cases h6 : a6 = b6 <;> simp [h6]
  cases b7 with
  | cons y ys =>
    have : ¬ ((0 : Int) = (((y :: ys).length : Nat) : Int)) := by simp only [List.length_cons]; omega
    rw [if_neg this]
    simp
  | nil =>
  simp
  by_cases h8 : a8 = b8 <;> simp [h8]
  by_cases h9 : a9 = b9 <;> simp [h9]
  by_cases h10 : a10 = b10 <;> simp [h10]
  by_cases h11 : a11 = b11 <;> simp [h11]
  by_cases h12 : a12 = b12 <;> simp [h12]
  by_cases h13 : a13 = b13 <;> simp [h13]

end Go.Proofs.YthjjbkgifelooaaDoor.F

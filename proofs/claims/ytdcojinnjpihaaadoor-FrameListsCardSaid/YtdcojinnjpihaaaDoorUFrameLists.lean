/- The plain law of headgatelaw05.FrameLists: whatever the input, it is true. No condition. -/
import Derived.Test.YtdcojinnjpihaaaDoorUWrites
import Derived.Test.YtdcojinnjpihaaaDoorUFrameW
import Derived.Test.YtdcojinnjpihaaaDoorF7
namespace Go.Proofs.YtdcojinnjpihaaaDoor.F
open Go Go.RowKit Go.Proofs.YtdcojinnjpihaaaDoor.X
set_option linter.unusedVariables false
set_option linter.unusedSimpArgs false

theorem lists_loop (hw : headgatelaw05_wakes.f (100000 + 200) = some true) (a0 : List T_api_Write) (a1 : ByteArray) (h0 : a0.length ≤ 200) (h1 : a1.size ≤ 70000) : ∀ (r j i : Nat), i + r = a0.length →
    headgatelaw05_FrameLists.l0 (100000 + 200) a0 a1 (r + 1 + j) (i : Int) = some true := by
  intro r
  induction r with
  | zero =>
    intro j i hi
    have e : 100000 + 200 = 100191 + 9 := rfl
    have hsl := splitB_length a1
    rw [show 0 + 1 + j = j + 1 by omega, headgatelaw05_FrameLists.l0, headgatelaw05_FrameLists.b0, if_neg (by omega), List.nil_append, asrt_pos (by simp; omega), e, frame_Writes.is _ _ (by omega), Option.bind_some, headgateref05_Writes.is _ _ (by omega), Option.bind_some, frame_Split.is _ (by omega) _ (by omega), Option.bind_some, headgateref05_Split.is _ (by omega) _ (by omega), Option.bind_some, if_pos rfl, if_pos rfl,
      headgateref05_Same.is _ (by omega) _ (by omega), Option.bind_some, if_pos rfl, if_pos rfl, headgateref05_Same.is _ (by omega) _ (by omega), Option.bind_some, if_pos rfl, ← e, hw]
    rfl
  | succ r ih =>
    intro j i hi
    rw [show r + 1 + 1 + j = (r + 1 + j) + 1 by omega, headgatelaw05_FrameLists.l0, headgatelaw05_FrameLists.b0, if_pos (by omega), asrt_pos (by omega)]
    split
    · rw [hw]; rfl
    · rw [show IntKind.wrap .i64 ((i : Int) + 1) = ((i + 1 : Nat) : Int) by rw [wi] <;> omega]
      exact ih j (i + 1) (by omega)

theorem headgatelaw05_FrameLists.pure (a0 : List T_api_Write) (a1 : ByteArray) (o0 : a0.length * 24 ≤ 140737488351232 ∧ ∀ y ∈ a0, y.ok) (o1 : a1.size ≤ 140737488351232) : ∃ K, headgatelaw05_FrameLists.f K a0 a1 = some true := by
  refine ⟨100000 + 200, ?_⟩
  have hw : headgatelaw05_wakes.f (100000 + 200) = some true := headgatelaw05_wakes.is 100000
  have j1 : headgatelaw05_FrameLists.j0 (100000 + 200) a0 a1 true = some true := by
    unfold headgatelaw05_FrameLists.j0
    rw [if_pos rfl, hw]
    rfl
  unfold headgatelaw05_FrameLists.f
  by_cases h : (a0.length : Int) > 200
  · rw [if_pos h]; exact j1
  rw [if_neg h]
  by_cases h2 : (a1.size : Int) > 70000
  · rw [decide_eq_true h2]; exact j1
  rw [decide_eq_false h2]
  unfold headgatelaw05_FrameLists.j0
  rw [if_neg (by simp)]
  have := lists_loop hw a0 a1 (by omega) (by omega) a0.length (100000 + 199 - a0.length) 0 (by omega)
  rwa [show a0.length + 1 + (100000 + 199 - a0.length) = 100000 + 200 by omega] at this

end Go.Proofs.YtdcojinnjpihaaaDoor.F

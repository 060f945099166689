/- The plain law of headgatelaw19.ScsiNeeds: whatever the input, it is true. No condition. -/
import Derived.Test.YteilejfncdacfaaGreatDoorUScsiNeed
import Derived.Test.YteilejfncdacfaaGreatDoorF62
import Derived.Test.YteilejfncdacfaaGreatDoorF4
namespace Go.Proofs.YteilejfncdacfaaGreatDoor.F
open Go Go.RowKit Go.Proofs.YteilejfncdacfaaGreatDoor.X
open Classical
set_option linter.unusedVariables false
set_option linter.unusedSimpArgs false

theorem headgateref19_Need.is (s : ByteArray) (hs : (s.size : Int) ≤ 100000) (K : Nat) : headgateref19_Need.f (K + 70) s = some (needB s) := by
  unfold headgateref19_Need.f needB
  rw [headgateref15_Parse.is s hs K, Option.bind_some]
  by_cases h : (cparse s).2 = 0
  rotate_left
  · rw [if_neg (by simpa using h)]; simp only [h, if_false]
  obtain ⟨h0, hop, hx⟩ := cparse_op s h
  rw [if_pos (by simpa using h)]
  simp only [h, if_true]
  unfold headgateref19_Need.j0 headgateref19_Need.j1 headgateref19_Need.j2 toR
  generalize (cparse s).1 = a at *
  simp only
  generalize bt s 0 = b at *
  rcases hx with ⟨hx, n1, n2⟩ | ⟨rfl, h1, h2, hx⟩ | ⟨rfl, h1, h2⟩
  · rw [hx]
    unfold isOp at hop
    rcases hop with rfl | rfl | rfl | rfl | rfl | rfl | rfl | rfl | rfl | rfl | rfl | rfl | rfl | rfl <;> first | (exact absurd rfl n1) | (exact absurd rfl n2) | simp
  · rcases hx with hx | hx <;> rw [hx] <;> simp
  · have e : ¬ a.f0 = 40 ∧ ¬ a.f0 = 136 ∧ ¬ a.f0 = 37 ∧ ¬ a.f0 = 42 ∧ ¬ a.f0 = 138 ∧ ¬ a.f0 = 137 ∧ ¬ a.f0 = 18 ∧ ¬ a.f0 = 160 ∧ ¬ a.f0 = 24064 ∧ ¬ a.f0 = 24065 ∧ ¬ a.f0 = 66 ∧ a.f0 ≥ 24320 := by omega
    obtain ⟨q1, q2, q3, q4, q5, q6, q7, q8, q9, q10, q11, q12⟩ := e
    simp [q1, q2, q3, q4, q5, q6, q7, q8, q9, q10, q11, q12]

theorem headgatelaw19_ScsiNeeds.pure (a0 : ByteArray) (o0 : a0.size ≤ 140737488351232) : ∃ K, headgatelaw19_ScsiNeeds.f K a0 = some true := by
  refine ⟨130 + 70, ?_⟩
  have hw : headgatelaw19_wakes.f = some true := rfl
  unfold headgatelaw19_ScsiNeeds.f
  by_cases h : (a0.size : Int) > 5000
  · rw [if_pos h, hw]; rfl
  rw [if_neg h, scsi_Need.is a0 (by omega) 130, Option.bind_some, headgateref19_Need.is a0 (by omega) 130, Option.bind_some, if_pos rfl, if_pos rfl, hw]
  rfl

end Go.Proofs.YteilejfncdacfaaGreatDoor.F

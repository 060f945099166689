/- The plain law of headgatelaw17.InquiryBack: whatever the input, it is true. No condition. -/
import Derived.Test.YtccmdlbdpapigaaUInqRanges
import Derived.Test.YtccmdlbdpapigaaF7
namespace Go.Proofs.Ytccmdlbdpapigaa.F
open Go Go.RowKit Go.Proofs.Ytccmdlbdpapigaa.X
open Classical
set_option linter.unusedVariables false
set_option linter.unusedSimpArgs false
theorem inB_rangeL (r : T_api_Range) : inB (rangeL r) := inB_append (inB_append (inB_beB _ _) (inB_beB _ _)) (inB_zero 4)
theorem rows_lay : ∀ (l : List T_api_Range) (H : List Int), (∀ r ∈ l, okR r) → rowsR (strOfNums (H ++ l.flatMap rangeL)) l.length (H.length : Int) = l := by
  intro l
  induction l with
  | nil => intro H _; rfl
  | cons r l ih =>
    intro H hl
    obtain ⟨g0, g1, g2, g3⟩ := hl r (by simp)
    rw [List.length_cons, rowsR, List.flatMap_cons]
    have e0 : be (strOfNums (H ++ (rangeL r ++ l.flatMap rangeL))) (H.length : Int) 8 = r.f0 := by
      rw [← nums_append, be_right _ _ _ _ (by rw [strOfNums_size]; omega), strOfNums_size, Int.sub_self, show rangeL r ++ l.flatMap rangeL = beB r.f0 8 ++ (beB r.f1 4 ++ [0, 0, 0, 0] ++ l.flatMap rangeL) by unfold rangeL; simp only [List.append_assoc],
        ← nums_append, be_left _ _ _ _ (by omega) (by rw [strOfNums_size, beB_length]; omega)]
      exact be_put r.f0 8 g0 (by omega)
    have e1 : be (strOfNums (H ++ (rangeL r ++ l.flatMap rangeL))) ((H.length : Int) + 8) 4 = r.f1 := by
      rw [show H ++ (rangeL r ++ l.flatMap rangeL) = (H ++ beB r.f0 8) ++ (beB r.f1 4 ++ ([0, 0, 0, 0] ++ l.flatMap rangeL)) by unfold rangeL; simp only [List.append_assoc], ← nums_append,
        be_right _ _ _ _ (by rw [strOfNums_size, List.length_append, beB_length]; omega), strOfNums_size, List.length_append, beB_length, show (H.length : Int) + 8 - ((H.length + 8 : Nat) : Int) = 0 by omega,
        ← nums_append, be_left _ _ _ _ (by omega) (by rw [strOfNums_size, beB_length]; omega)]
      exact be_put r.f1 4 g2 (by omega)
    rw [e0, e1]
    have := ih (H ++ rangeL r) (fun y hy => hl y (List.mem_cons_of_mem _ hy))
    rw [List.length_append, rangeL_length, List.append_assoc] at this
    rw [show (H.length : Int) + 16 = ((H.length + 16 : Nat) : Int) by omega, this]
theorem ranges_back (l : List T_api_Range) (s : ByteArray) (h : unmapR l = (s, 0)) : rangesR s = (l, 0) ∧ l.length ≤ 16 ∧ s.size ≤ 264 := by
  have h' := h
  unfold unmapR at h
  by_cases g : l.length ≤ 16 ∧ ∀ r ∈ l, okR r
  · rw [if_pos g] at h
    have hs := (Prod.mk.inj h).1
    have hz : s.size = 8 + 16 * l.length := by
      rw [← hs, strOfNums_size]
      unfold layR
      rw [List.length_append, headL_length, flat_length]
    refine ⟨?_, g.1, by omega⟩
    unfold rangesR
    have hr : rowsR s ((s.size - 8) / 16) 8 = l := by
      have := rows_lay l (headL l.length) g.2
      rw [headL_length] at this
      rw [hz, show (8 + 16 * l.length - 8) / 16 = l.length by omega, ← hs]
      exact this
    rw [if_pos (by omega), hr]
    unfold finR
    rw [if_pos h']
  · rw [if_neg g] at h
    exact absurd (Prod.mk.inj h).2 (by decide)
theorem headgatelaw17_InquiryBack.pure (a0 : List T_api_Range) (a1 : ByteArray) (o0 : a0.length * 16 ≤ 140737488351232 ∧ ∀ y ∈ a0, y.ok) (o1 : a1.size ≤ 140737488351232) : ∃ K, headgatelaw17_InquiryBack.f K a0 a1 = some true := by
  refine ⟨300, ?_⟩
  have big : ∀ x : Bool, x = true → headgatelaw17_InquiryBack.j0 300 a0 a1 x = some true := by
    intro x hx
    unfold headgatelaw17_InquiryBack.j0
    rw [if_pos hx, wakes17]; rfl
  unfold headgatelaw17_InquiryBack.f
  by_cases h : (a0.length : Int) > 200
  · rw [if_pos h, big _ rfl]
  rw [if_neg h]
  by_cases hs : (a1.size : Int) > 5000
  · rw [big _ (decide_eq_true hs)]
  have j1 : headgatelaw17_InquiryBack.j1 300 a1 = some true := by
    unfold headgatelaw17_InquiryBack.j1
    rw [inquiry_Ranges.is a1 (by omega), Option.bind_some]
    rcases rangesR_cases a1 with g | ⟨k, g1, g2, g3⟩
    · rw [g, if_neg (show ¬ (180 : Int) = 0 by decide), if_pos rfl, wakes17]; rfl
    · rw [g2, if_pos rfl, inquiry_Unmap.is k (by omega), g1, Option.bind_some, if_pos rfl, if_pos rfl, wakes17]; rfl
  rw [decide_eq_false hs]
  unfold headgatelaw17_InquiryBack.j0
  rw [if_neg (by decide), headgatekeep_CopyRanges.is a0 (by omega), Option.bind_some, inquiry_Unmap.is a0 (by omega), Option.bind_some]
  by_cases h2 : (unmapR a0).2 = 0
  · obtain ⟨r1, r2, r3⟩ := ranges_back a0 (unmapR a0).1 (Prod.ext rfl h2)
    rw [if_pos h2, inquiry_Ranges.is _ (by omega), Option.bind_some, r1, if_pos rfl, headgatekeep_Ranges.is a0 (by omega), Option.bind_some, if_pos rfl, j1]
  · rw [if_neg h2, j1]
end Go.Proofs.Ytccmdlbdpapigaa.F

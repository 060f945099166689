/- Tables: large ones, copies, alike. No condition. -/
import Derived.Test.YthjjbkgifelooaaDoorUKeep
import Derived.Test.YthjjbkgifelooaaDoorF12
import Derived.Test.YthjjbkgifelooaaDoorF12
import Derived.Test.YthjjbkgifelooaaDoorF16
namespace Go.Proofs.YthjjbkgifelooaaDoor.F
open Go Go.RowKit Go.Proofs.YthjjbkgifelooaaDoor.X
open Classical
set_option linter.unusedVariables false
set_option linter.unusedSimpArgs false

theorem large_loop (t : T_api_Table) (hl : t.f0.length ≤ 1000000) : ∀ (m K j : Nat), m ≤ t.f0.length → ∃ b, headgatelaw10_Large.l0 K t (m + 1 + j) ((t.f0.length : Int) - m) = some b := by
  intro m
  induction m with
  | zero =>
    intro K j hm
    rw [show 0 + 1 + j = j + 1 by omega, headgatelaw10_Large.l0]
    unfold headgatelaw10_Large.b0
    rw [if_neg (by omega)]
    exact ⟨_, rfl⟩
  | succ m ih =>
    intro K j hm
    have e1 : IntKind.wrap .i64 ((t.f0.length : Int) - ((m + 1 : Nat) : Int) + 1) = (t.f0.length : Int) - m := by rw [wi] <;> omega
    rw [show m + 1 + 1 + j = (m + 1 + j) + 1 by omega, headgatelaw10_Large.l0]
    unfold headgatelaw10_Large.b0
    rw [if_pos (by omega), asrt_pos (by omega), e1]
    split
    · exact ⟨_, rfl⟩
    · exact ih K j (by omega)
/-- A table that is not large has at most 200 registrations. -/
theorem headgatelaw10_Large.is (t : T_api_Table) (K : Nat) (hK : 201 < K) : ∃ b, headgatelaw10_Large.f K t = some b ∧ (b = false → t.f0.length ≤ 200) := by
  unfold headgatelaw10_Large.f
  by_cases h : (t.f0.length : Int) > 200
  · rw [if_pos h]; exact ⟨true, rfl, fun h => by cases h⟩
  · rw [if_neg h]
    by_cases h' : (t.f1.f1.size : Int) > 1000
    · rw [if_pos h']; exact ⟨true, rfl, fun h => by cases h⟩
    · rw [if_neg h']
      obtain ⟨b, hb⟩ := large_loop t (by omega) t.f0.length K (K - t.f0.length - 1) (Nat.le_refl _)
      rw [show t.f0.length + 1 + (K - t.f0.length - 1) = K by omega, Int.sub_self] at hb
      exact ⟨b, hb, fun _ => by omega⟩

theorem headgatekeep_CopyTable.is (t : T_api_Table) (h : t.f0.length ≤ 1000000) : headgatekeep_CopyTable.f t = some t := by
  unfold headgatekeep_CopyTable.f
  rw [asrt_pos (by simp; omega)]
  obtain ⟨f0, ⟨a, b⟩, f2, f3⟩ := t
  rfl

theorem regs_loop (a b : List T_api_Reg) (hl : a.length = b.length) (hb : a.length ≤ 1000000) : ∀ (m K j : Nat), m ≤ a.length →
    headgatekeep_Regs.l0 K a b (m + 1 + j) ((a.length : Int) - m) = some (decide (a.drop (a.length - m) = b.drop (a.length - m))) := by
  intro m
  induction m with
  | zero =>
    intro K j h
    rw [show 0 + 1 + j = j + 1 by omega, headgatekeep_Regs.l0]
    unfold headgatekeep_Regs.b0
    rw [if_neg (by omega), Nat.sub_zero, List.drop_eq_nil_of_le (Nat.le_refl _), List.drop_eq_nil_of_le (by omega)]
    simp
  | succ m ih =>
    intro K j h
    have e1 : IntKind.wrap .i64 ((a.length : Int) - ((m + 1 : Nat) : Int) + 1) = (a.length : Int) - m := by rw [wi] <;> omega
    have e2 : (a.length : Int) - ((m + 1 : Nat) : Int) = ((a.length - (m + 1) : Nat) : Int) := by omega
    rw [show m + 1 + 1 + j = (m + 1 + j) + 1 by omega, headgatekeep_Regs.l0]
    unfold headgatekeep_Regs.b0
    rw [if_pos (by omega), asrt_pos (by omega), asrt_pos (by omega), e1, ih K j (by omega), e2, rdL_eq _ _ _ (by omega), rdL_eq _ _ _ (by omega)]
    have d1 : a.drop (a.length - (m + 1)) = a[a.length - (m + 1)] :: a.drop (a.length - m) := by
      rw [List.drop_eq_getElem_cons (by omega)]; congr 2; omega
    have d2 : b.drop (a.length - (m + 1)) = b[a.length - (m + 1)] :: b.drop (a.length - m) := by
      rw [List.drop_eq_getElem_cons (by omega)]; congr 2; omega
    rw [d1, d2]
    generalize a[a.length - (m + 1)] = x
    generalize b[a.length - (m + 1)] = y
    obtain ⟨x0, x1⟩ := x
    obtain ⟨y0, y1⟩ := y
    by_cases h0 : x0 = y0 <;> by_cases h1 : x1 = y1 <;> simp [h0, h1]

theorem headgatekeep_Regs.is (a b : List T_api_Reg) (K : Nat) (hK : a.length < K) (hb : a.length ≤ 1000000) : headgatekeep_Regs.f K a b = some (decide (a = b)) := by
  unfold headgatekeep_Regs.f
  by_cases hl : a.length = b.length
  · rw [if_pos (by omega)]
    have := regs_loop a b hl hb a.length K (K - a.length - 1) (Nat.le_refl _)
    rw [show a.length + 1 + (K - a.length - 1) = K by omega] at this
    simpa using this
  · rw [if_neg (by omega)]
    have : a ≠ b := fun h => hl (by rw [h])
    simp [this]

end Go.Proofs.YthjjbkgifelooaaDoor.F

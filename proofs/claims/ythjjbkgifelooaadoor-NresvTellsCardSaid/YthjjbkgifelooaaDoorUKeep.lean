/- Two commands are alike: the verifier's comparison. No condition. -/
import Derived.Test.YthjjbkgifelooaaDoorXPure
import Derived.Test.YthjjbkgifelooaaDoorF28
import Derived.Test.YthjjbkgifelooaaDoorF26
namespace Go.Proofs.YthjjbkgifelooaaDoor.F
open Go Go.RowKit Go.Proofs.YthjjbkgifelooaaDoor.X
open Classical
set_option linter.unusedVariables false
set_option linter.unusedSimpArgs false

theorem rdL_eq {α : Type} (d : α) (xs : List α) (i : Nat) (h : i < xs.length) : rdL d xs (i : Int) = xs[i] := by
  unfold rdL
  rw [List.getD_eq_getElem?_getD, Int.toNat_natCast, List.getElem?_eq_getElem h]; rfl

theorem ranges_loop (a b : List T_api_Range) (hl : a.length = b.length) (hb : a.length ≤ 1000000) : ∀ (m K j : Nat), m ≤ a.length →
    headgatekeep_Ranges.l0 K a b (m + 1 + j) ((a.length : Int) - m) = some (decide (a.drop (a.length - m) = b.drop (a.length - m))) := by
  intro m
  induction m with
  | zero =>
    intro K j h
    rw [show 0 + 1 + j = j + 1 by omega, headgatekeep_Ranges.l0]
    unfold headgatekeep_Ranges.b0
    rw [if_neg (by omega), Nat.sub_zero, List.drop_eq_nil_of_le (Nat.le_refl _), List.drop_eq_nil_of_le (by omega)]
    simp
  | succ m ih =>
    intro K j h
    have e1 : IntKind.wrap .i64 ((a.length : Int) - ((m + 1 : Nat) : Int) + 1) = (a.length : Int) - m := by rw [wi] <;> omega
    have e2 : (a.length : Int) - ((m + 1 : Nat) : Int) = ((a.length - (m + 1) : Nat) : Int) := by omega
    rw [show m + 1 + 1 + j = (m + 1 + j) + 1 by omega, headgatekeep_Ranges.l0]
    unfold headgatekeep_Ranges.b0
    rw [if_pos (by omega), asrt_pos (by omega), asrt_pos (by omega), e1, ih K j (by omega), e2, rdL_eq _ _ _ (by omega), rdL_eq _ _ _ (by omega)]
    have d1 : a.drop (a.length - (m + 1)) = a[a.length - (m + 1)] :: a.drop (a.length - m) := by
      rw [List.drop_eq_getElem_cons (by omega)]; congr 2; omega
    have d2 : b.drop (a.length - (m + 1)) = b[a.length - (m + 1)] :: b.drop (a.length - m) := by
      rw [List.drop_eq_getElem_cons (by omega)]; congr 2; omega
    rw [d1, d2]
    generalize a[a.length - (m + 1)] = x
    generalize b[a.length - (m + 1)] = y
    obtain ⟨x0, x1⟩ := x
    obtain ⟨y0, y1⟩ := y
    by_cases h0 : x0 = y0 <;> by_cases h1 : x1 = y1 <;> simp [h0, h1]

theorem headgatekeep_Ranges.is (a b : List T_api_Range) (K : Nat) (hK : a.length < K) (hb : a.length ≤ 1000000) : headgatekeep_Ranges.f K a b = some (decide (a = b)) := by
  unfold headgatekeep_Ranges.f
  by_cases hl : a.length = b.length
  · rw [if_pos (by omega)]
    have := ranges_loop a b hl hb a.length K (K - a.length - 1) (Nat.le_refl _)
    rw [show a.length + 1 + (K - a.length - 1) = K by omega] at this
    simpa using this
  · rw [if_neg (by omega)]
    have : a ≠ b := fun h => hl (by rw [h])
    simp [this]

theorem headgatekeep_Cmds.is (a b : T_api_Cmd) (K : Nat) (hK : a.f7.length < K) (hb : a.f7.length ≤ 1000000) : headgatekeep_Cmds.f K a b = some (decide (a = b)) := by
  unfold headgatekeep_Cmds.f
  rw [headgatekeep_Ranges.is a.f7 b.f7 K hK hb]
  obtain ⟨a0, a1, a2, a3, a4, a5, a6, a7, a8, a9, a10, a11, a12, a13⟩ := a
  obtain ⟨b0, b1, b2, b3, b4, b5, b6, b7, b8, b9, b10, b11, b12, b13⟩ := b
  simp only [Option.bind_some, T_api_Cmd.mk.injEq]
  by_cases h0 : a0 = b0 <;> simp [h0]
  by_cases h1 : a1 = b1 <;> simp [h1]
  by_cases h2 : a2 = b2 <;> simp [h2]
  by_cases h3 : a3 = b3 <;> simp [h3]
  by_cases h4 : a4 = b4 <;> simp [h4]
  by_cases h5 : a5 = b5 <;> simp [h5]
  by_cases h6 : a6 = b6 <;> simp [h6]
  by_cases h7 : a7 = b7 <;> simp [h7]
  by_cases h8 : a8 = b8 <;> simp [h8]
  by_cases h9 : a9 = b9 <;> simp [h9]
  by_cases h10 : a10 = b10 <;> simp [h10]
  by_cases h11 : a11 = b11 <;> simp [h11]
  by_cases h12 : a12 = b12 <;> simp [h12]
  by_cases h13 : a13 = b13 <;> simp [h13]

end Go.Proofs.YthjjbkgifelooaaDoor.F

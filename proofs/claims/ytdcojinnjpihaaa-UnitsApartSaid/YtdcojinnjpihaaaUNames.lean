/- What is a name, by both. No condition. -/
import Derived.Test.YtdcojinnjpihaaaF7
import Derived.Test.YtdcojinnjpihaaaF24
import Derived.Test.YtdcojinnjpihaaaXPure
namespace Go.Proofs.Ytdcojinnjpihaaa.F
open Go Go.RowKit Go.Proofs.Ytdcojinnjpihaaa.X
set_option linter.unusedVariables false
set_option linter.unusedSimpArgs false

def okByte (b : Nat) : Bool := (Nat.ble 97 b && Nat.ble b 122) || (Nat.ble 48 b && Nat.ble b 57) || Nat.beq b 45 || Nat.beq b 46 || Nat.beq b 58
def okFrom (s : ByteArray) (i : Nat) : Bool := (List.range' i (s.size - i)).all fun j => okByte (bt s (j : Int)).toNat
def isName (s : ByteArray) : Bool := decide (1 ≤ s.size) && decide (s.size ≤ 64) && (decide (97 ≤ bt s 0) && decide (bt s 0 ≤ 122)) && okFrom s 0

theorem okFrom_step (s : ByteArray) (i : Nat) (h : i < s.size) : okFrom s i = (okByte (bt s (i : Int)).toNat && okFrom s (i + 1)) := by
  unfold okFrom
  rw [show s.size - i = (s.size - (i + 1)) + 1 by omega, List.range'_succ, List.all_cons]
theorem okFrom_end (s : ByteArray) (i : Nat) (h : ¬ i < s.size) : okFrom s i = true := by
  unfold okFrom
  rw [show s.size - i = 0 by omega]
  rfl

theorem letters_at (b : Int) (h0 : 0 ≤ b) (h1 : b < 256) : rdL false LETTERS b = okByte b.toNat := by
  obtain ⟨n, rfl⟩ := Int.eq_ofNat_of_zero_le h0
  have hn : n < 256 := by omega
  have h := List.getElem?_range hn
  show (LETTERS.getD n false) = okByte n
  unfold LETTERS okByte
  simp [List.getD_eq_getElem?_getD, hn]

theorem byte_bound (s : ByteArray) (i : Int) : bt s i < 256 := by have := bt_hi s i; omega

theorem name_loop (K : Nat) (s : ByteArray) (hs : s.size ≤ 64) : ∀ (k i : Nat), i ≤ s.size → s.size < k + i → names_Name.l0 K s k (i : Int) = some (okFrom s i)
  | 0, i, h1, h2 => by omega
  | k + 1, i, h1, h2 => by
    show names_Name.b0 K s (names_Name.l0 K s k) (i : Int) = _
    unfold names_Name.b0
    by_cases hi : i < s.size
    · rw [if_pos (by omega), asrt_pos (by omega), asrt_pos (bt_lo s _), asrt_pos (byte_bound s _), letters_at _ (bt_lo s _) (byte_bound s _), okFrom_step s i hi]
      cases okByte (bt s (i : Int)).toNat
      · rfl
      · rw [if_pos rfl, wi (by omega) (by omega), show (i : Int) + 1 = ((i + 1 : Nat) : Int) by omega, name_loop K s hs k (i + 1) (by omega) (by omega)]
        rfl
    · rw [if_neg (by omega), okFrom_end s i hi]

theorem name_run (K : Nat) (s : ByteArray) (hK : 66 ≤ K) : names_Name.f K s = some (isName s) := by
  unfold names_Name.f isName
  by_cases h1 : (s.size : Int) < 1
  · rw [if_pos h1]
    have : ¬ 1 ≤ s.size := by omega
    simp [this]
  · rw [if_neg h1]
    by_cases h2 : (s.size : Int) > 64
    · rw [if_pos h2]
      have : ¬ s.size ≤ 64 := by omega
      simp [this]
    · rw [if_neg h2, asrt_pos (by omega)]
      have e1 : 1 ≤ s.size := by omega
      have e2 : s.size ≤ 64 := by omega
      by_cases h3 : bt s 0 < 97
      · rw [if_pos h3]
        have : ¬ 97 ≤ bt s 0 := by omega
        simp [this]
      · rw [if_neg h3]
        by_cases h4 : bt s 0 > 122
        · rw [if_pos h4]
          have : ¬ bt s 0 ≤ 122 := by omega
          simp [this]
        · rw [if_neg h4]
          have := name_loop K s e2 K 0 (by omega) (by omega)
          rw [show ((0 : Nat) : Int) = 0 from rfl] at this
          rw [this]
          have e3 : 97 ≤ bt s 0 := by omega
          have e4 : bt s 0 ≤ 122 := by omega
          simp [e1, e2, e3, e4]

theorem letter_run (b : Int) : headgateref03_letter.f b = some (decide (97 ≤ b) && decide (b ≤ 122)) := by
  unfold headgateref03_letter.f
  by_cases h : b ≥ 97
  · rw [if_pos h]
    have : 97 ≤ b := h
    simp [this]
  · rw [if_neg h]
    have : ¬ 97 ≤ b := h
    simp [this]
theorem digit_run (b : Int) : headgateref03_digit.f b = some (decide (48 ≤ b) && decide (b ≤ 57)) := by
  unfold headgateref03_digit.f
  by_cases h : b ≥ 48
  · rw [if_pos h]
    have : 48 ≤ b := h
    simp [this]
  · rw [if_neg h]
    have : ¬ 48 ≤ b := h
    simp [this]

theorem okByte_is (b : Int) (h0 : 0 ≤ b) : okByte b.toNat = ((decide (97 ≤ b) && decide (b ≤ 122)) || (decide (48 ≤ b) && decide (b ≤ 57)) || decide (b = 45) || decide (b = 46) || decide (b = 58)) := by
  obtain ⟨n, rfl⟩ := Int.eq_ofNat_of_zero_le h0
  have e : ∀ (p q : Bool), (p = true ↔ q = true) → p = q := by intro p q h; cases p <;> cases q <;> simp_all
  apply e
  simp only [okByte, Int.toNat_natCast, Bool.or_eq_true, Bool.and_eq_true, decide_eq_true_eq, Nat.ble_eq, Nat.beq_eq]
  omega

theorem refname_loop (K : Nat) (s : ByteArray) (hs : s.size ≤ 64) : ∀ (k i : Nat), i ≤ s.size → s.size < k + i → headgateref03_Name.l0 K s k (i : Int) = some (okFrom s i)
  | 0, i, h1, h2 => by omega
  | k + 1, i, h1, h2 => by
    show headgateref03_Name.b0 K s (headgateref03_Name.l0 K s k) (i : Int) = _
    unfold headgateref03_Name.b0
    by_cases hi : i < s.size
    · have hr : headgateref03_Name.l0 K s k (IntKind.wrap .i64 ((i : Int) + 1)) = some (okFrom s (i + 1)) := by
        rw [wi (by omega) (by omega), show (i : Int) + 1 = ((i + 1 : Nat) : Int) by omega]
        exact refname_loop K s hs k (i + 1) (by omega) (by omega)
      rw [if_pos (by omega), asrt_pos (by omega), letter_run, digit_run, okFrom_step s i hi, okByte_is _ (bt_lo s _), hr]
      simp only [Option.bind_some]
      cases (decide (97 ≤ bt s (i : Int)) && decide (bt s (i : Int) ≤ 122))
      · cases (decide (48 ≤ bt s (i : Int)) && decide (bt s (i : Int) ≤ 57))
        · by_cases h1 : bt s (i : Int) = 46
          · simp [h1]
          · by_cases h2 : bt s (i : Int) = 45
            · simp [h2]
            · by_cases h3 : bt s (i : Int) = 58
              · simp [h3]
              · simp [h1, h2, h3]
        · simp
      · simp
    · rw [if_neg (by omega), okFrom_end s i hi]

theorem refname_run (K : Nat) (s : ByteArray) (hK : 66 ≤ K) : headgateref03_Name.f K s = some (isName s) := by
  unfold headgateref03_Name.f isName
  by_cases h1 : (s.size : Int) < 1
  · rw [if_pos h1]
    have : ¬ 1 ≤ s.size := by omega
    simp [this]
  · rw [if_neg h1]
    by_cases h2 : (s.size : Int) > 64
    · rw [if_pos h2]
      have : ¬ s.size ≤ 64 := by omega
      simp [this]
    · rw [if_neg h2, asrt_pos (by omega), letter_run]
      have e1 : 1 ≤ s.size := by omega
      have e2 : s.size ≤ 64 := by omega
      have := refname_loop K s e2 K 0 (by omega) (by omega)
      rw [show ((0 : Nat) : Int) = 0 from rfl] at this
      rw [this]
      simp only [Option.bind_some]
      cases (decide (97 ≤ bt s 0) && decide (bt s 0 ≤ 122)) <;> simp [e1, e2]
end Go.Proofs.Ytdcojinnjpihaaa.F

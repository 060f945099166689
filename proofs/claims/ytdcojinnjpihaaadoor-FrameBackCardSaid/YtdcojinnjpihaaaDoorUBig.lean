/- A number out of bytes, the highest first: the program's way and the document's come to the same. No condition. -/
import Derived.Test.YtdcojinnjpihaaaDoorXPure
import Derived.Test.YtdcojinnjpihaaaDoorF45
import Derived.Test.YtdcojinnjpihaaaDoorF24
import Derived.Test.YtdcojinnjpihaaaDoorF45
import Derived.Test.YtdcojinnjpihaaaDoorF45
import Derived.Test.YtdcojinnjpihaaaDoorF24
namespace Go.Proofs.YtdcojinnjpihaaaDoor.F
open Go Go.RowKit Go.Proofs.YtdcojinnjpihaaaDoor.X
set_option linter.unusedVariables false
set_option linter.unusedSimpArgs false

def shB (n : Nat) (i : Nat) : Int := 8 * ((n : Int) - 1 - i)
theorem shifts_loop (n : Nat) (hn : n ≤ 8) : ∀ (m K : Nat), m ≤ n → fields_shifts.l0 K (n : Int) true (m + 1) ((List.range (n - m)).map (shB n)) ((n : Int) - m) = some ((List.range n).map (shB n)) := by
  intro m
  induction m with
  | zero => intro K h; simp [fields_shifts.l0, fields_shifts.b0]
  | succ m ih =>
    intro K h
    rw [fields_shifts.l0, fields_shifts.b0, if_pos (by omega), if_pos rfl, asrt_pos (by simp; omega)]
    have e1 : IntKind.wrap .i64 ((n : Int) - (m + 1 : Nat) + 1) = (n : Int) - m := by rw [wi] <;> omega
    have e2 : IntKind.wrap .i64 (8 * IntKind.wrap .i64 (IntKind.wrap .i64 ((n : Int) - 1) - ((n : Int) - (m + 1 : Nat)))) = shB n (n - (m + 1)) := by
      unfold shB
      simp only [wrapi64]
      omega
    have e3 : (List.range (n - (m + 1))).map (shB n) ++ [shB n (n - (m + 1))] = (List.range (n - m)).map (shB n) := by
      rw [show n - m = (n - (m + 1)) + 1 by omega, List.range_succ, List.map_append]; rfl
    rw [e1, e2, e3]
    exact ih K (by omega)

theorem shifts_big (n : Nat) (hn : n ≤ 8) (K : Nat) : fields_shifts.f (K + 9) (n : Int) true = some ((List.range n).map (shB n)) := by
  have up : ∀ (m m' : Nat) (xs : List Int) (x : Int) (r : List Int) (K : Nat), fields_shifts.l0 K (n : Int) true m xs x = some r → fields_shifts.l0 K (n : Int) true (m + m') xs x = some r := by
    intro m
    induction m with
    | zero => intro m' xs x r K h; simp [fields_shifts.l0] at h
    | succ m ih =>
      intro m' xs x r K h
      rw [Nat.succ_add, fields_shifts.l0]
      rw [fields_shifts.l0] at h
      unfold fields_shifts.b0 at h ⊢
      split at h
      · rename_i h1
        rw [if_pos h1]
        rw [if_pos rfl] at h ⊢
        obtain ⟨h2, h3⟩ := asrt_some h
        rw [asrt_pos h2]
        exact ih _ _ _ _ _ h3
      · rename_i h1
        rw [if_neg h1]
        exact h
  have := shifts_loop n hn n (K + 9) (Nat.le_refl n)
  have h := up (n + 1) (K + 8 - n) _ _ _ _ this
  rw [show n + 1 + (K + 8 - n) = K + 9 by omega] at h
  unfold fields_shifts.f
  simpa using h

theorem get_loop (s : ByteArray) (p : Int) (n : Nat) (hn : n ≤ 8) (h0 : 0 ≤ p) (h1 : p + n ≤ s.size) (h2 : (s.size : Int) ≤ 4611686018427387904) : ∀ (m K j : Nat), m ≤ n →
    fields_get_uint64.l0 K s p ((List.range n).map (shB n)) (m + 1 + j) (be s p (n - m) * 256 ^ m) ((n : Int) - m) = some (be s p n, true) := by
  intro m
  induction m with
  | zero => intro K j h; rw [show 0 + 1 + j = j + 1 by omega, fields_get_uint64.l0, fields_get_uint64.b0, if_neg (by simp)]; simp
  | succ m ih =>
    intro K j h
    have hi : ((n : Int) - (m + 1 : Nat)).toNat = n - (m + 1) := by omega
    have er : rdL (0 : Int) ((List.range n).map (shB n)) ((n : Int) - (m + 1 : Nat)) = 8 * (m : Int) := by
      unfold rdL
      rw [hi, List.getD_eq_getElem?_getD, List.getElem?_map, List.getElem?_range (by omega)]
      simp only [Option.map_some, Option.getD_some, shB]
      omega
    have ew : IntKind.wrap .i64 (p + ((n : Int) - (m + 1 : Nat))) = p + ((n - (m + 1) : Nat) : Int) := by rw [wi] <;> omega
    rw [show m + 1 + 1 + j = (m + 1 + j) + 1 by omega, fields_get_uint64.l0, fields_get_uint64.b0, if_pos (by simp; omega), asrt_pos (by omega), ew, asrt_pos (by omega), asrt_pos (by omega), er, asrt_pos (by omega)]
    have e1 : IntKind.wrap .i64 ((n : Int) - (m + 1 : Nat) + 1) = (n : Int) - m := by rw [wi] <;> omega
    have hb0 := bt_lo s (p + ((n - (m + 1) : Nat) : Int)); have hb1 := bt_hi s (p + ((n - (m + 1) : Nat) : Int))
    have hx0 := be_lo s p (n - (m + 1)); have hx1 := be_hi s p (n - (m + 1))
    have eb : be s p (n - m) = be s p (n - (m + 1)) * 256 + bt s (p + ((n - (m + 1) : Nat) : Int)) := by
      rw [show n - m = (n - (m + 1)) + 1 by omega, be]
    have e2 : bor .u64 (be s p (n - (m + 1)) * 256 ^ (m + 1)) (sshl .u64 (IntKind.wrap .u64 (bt s (p + ((n - (m + 1) : Nat) : Int)))) (8 * (m : Int))) = be s p (n - m) * 256 ^ m := by
      rw [eb]
      generalize bt s (p + ((n - (m + 1) : Nat) : Int)) = b at hb0 hb1
      generalize be s p (n - (m + 1)) = A at hx0 hx1
      obtain ⟨b, rfl⟩ := Int.eq_ofNat_of_zero_le hb0
      obtain ⟨A, rfl⟩ := Int.eq_ofNat_of_zero_le hx0
      have hA : A * 256 ^ (m + 1) + 256 ^ (m + 1) ≤ 18446744073709551616 := by
        have hA1 : A < 256 ^ (n - (m + 1)) := by rw [← c256] at hx1; exact Int.ofNat_lt.1 hx1
        have : (A + 1) * 256 ^ (m + 1) ≤ 256 ^ (n - (m + 1)) * 256 ^ (m + 1) := Nat.mul_le_mul_right _ hA1
        rw [← Nat.pow_add, show n - (m + 1) + (m + 1) = n by omega] at this
        have h8 : 256 ^ n ≤ 256 ^ 8 := Nat.pow_le_pow_right (by omega) hn
        rw [Nat.add_mul] at this
        omega
      have hB : b * 256 ^ m < 256 ^ (m + 1) := by
        rw [Nat.pow_succ, Nat.mul_comm (256 ^ m) 256]
        exact Nat.mul_lt_mul_of_pos_right (by omega) (Nat.pow_pos (by omega))
      have es : sshl .u64 (IntKind.wrap .u64 (b : Int)) (8 * (m : Int)) = ((b * 256 ^ m : Nat) : Int) := by
        rw [wu (by omega) (by omega)]
        unfold sshl
        have : min (8 * (m : Int)).toNat IntKind.u64.bits = 8 * m := by simp only [IntKind.bits]; omega
        rw [this, wrapu64]
        have e256 : (2 : Int) ^ (8 * m) = ((256 ^ m : Nat) : Int) := by rw [c256, Int.pow_mul]; rfl
        rw [e256]
        have : ((b : Int) * ((256 ^ m : Nat) : Int)) = ((b * 256 ^ m : Nat) : Int) := by rw [Int.natCast_mul]
        rw [this]
        omega
      rw [es]
      have c1 : (A : Int) * 256 ^ (m + 1) = ((A * 256 ^ (m + 1) : Nat) : Int) := by rw [Int.natCast_mul, c256]
      rw [c1, bits_or _ _ (by have : 0 < 256 ^ (m + 1) := Nat.pow_pos (by omega); omega) (by omega), or_up A b m (by omega), Int.natCast_mul, c256]
      rfl
    rw [e1, e2]
    exact ih K j (by omega)

/-- The program's. -/
theorem fields_Big.is (s : ByteArray) (p : Int) (n K : Nat) (h1 : 1 ≤ n) (hn : n ≤ 8) (h2 : (s.size : Int) ≤ 4611686018427387904) :
    fields_Big.f (K + 9) s p (n : Int) = some (if 0 ≤ p ∧ p + n ≤ s.size then (be s p n, true) else (0, false)) := by
  unfold fields_Big.f fields_get_uint64.f
  rw [if_neg (by omega), if_neg (by omega)]
  have ew : IntKind.wrap .i64 ((s.size : Int) - n) = (s.size : Int) - n := by rw [wi] <;> omega
  rw [ew]
  by_cases hp : 0 ≤ p ∧ p + n ≤ s.size
  · rw [if_neg (by omega), if_neg (by omega), if_pos hp, shifts_big n hn]
    simp only [Option.bind_some]
    have := get_loop s p n hn hp.1 hp.2 h2 n (K + 9) (K + 8 - n) (Nat.le_refl n)
    rw [show n + 1 + (K + 8 - n) = K + 9 by omega] at this
    simp only [Nat.sub_self, be, Int.zero_mul, Int.sub_self] at this
    rw [this]; rfl
  · rw [if_neg hp]
    by_cases h : p < 0
    · rw [if_pos h]; rfl
    · rw [if_neg h, if_pos (by omega)]; rfl

theorem ref_loop (s : ByteArray) (p : Int) (n : Nat) (hn : n ≤ 8) (h0 : 0 ≤ p) (h1 : p + n ≤ s.size) (h2 : (s.size : Int) ≤ 4611686018427387904) : ∀ (m K j : Nat), m ≤ n →
    headgateref01_Big.l0 K s p (n : Int) (m + 1 + j) (be s p (n - m)) ((n : Int) - m) = some (be s p n, true) := by
  intro m
  induction m with
  | zero => intro K j h; rw [show 0 + 1 + j = j + 1 by omega, headgateref01_Big.l0, headgateref01_Big.b0, if_neg (by simp)]; simp
  | succ m ih =>
    intro K j h
    have ew : IntKind.wrap .i64 (p + ((n : Int) - (m + 1 : Nat))) = p + ((n - (m + 1) : Nat) : Int) := by rw [wi] <;> omega
    have e1 : IntKind.wrap .i64 ((n : Int) - (m + 1 : Nat) + 1) = (n : Int) - m := by rw [wi] <;> omega
    have hb0 := bt_lo s (p + ((n - (m + 1) : Nat) : Int)); have hb1 := bt_hi s (p + ((n - (m + 1) : Nat) : Int))
    have hx0 := be_lo s p (n - (m + 1)); have hx1 := be_hi s p (n - (m + 1))
    have h7 : (256 : Int) ^ (n - (m + 1)) ≤ 256 ^ 7 := pow256 (by omega)
    have eb : be s p (n - m) = be s p (n - (m + 1)) * 256 + bt s (p + ((n - (m + 1) : Nat) : Int)) := by
      rw [show n - m = (n - (m + 1)) + 1 by omega, be]
    rw [show m + 1 + 1 + j = (m + 1 + j) + 1 by omega, headgateref01_Big.l0, headgateref01_Big.b0, if_pos (by omega), ew, asrt_pos (by omega), asrt_pos (by omega), e1]
    have e2 : IntKind.wrap .u64 ((IntKind.wrap .u64 (be s p (n - (m + 1)) * 256)) + (IntKind.wrap .u64 (bt s (p + ((n - (m + 1) : Nat) : Int))))) = be s p (n - m) := by
      rw [eb]
      simp only [wrapu64]
      omega
    rw [e2]
    exact ih K j (by omega)

/-- The document's. -/
theorem headgateref01_Big.is (s : ByteArray) (p : Int) (n K : Nat) (h1 : 1 ≤ n) (hn : n ≤ 8) (h2 : (s.size : Int) ≤ 4611686018427387904) :
    headgateref01_Big.f (K + 9) s p (n : Int) = some (if 0 ≤ p ∧ p + n ≤ s.size then (be s p n, true) else (0, false)) := by
  unfold headgateref01_Big.f headgateref01_there.f
  rw [if_neg (by omega), if_neg (by omega)]
  by_cases hp : 0 ≤ p ∧ p + n ≤ s.size
  · have ew : IntKind.wrap .i64 ((s.size : Int) - p) = (s.size : Int) - p := by rw [wi] <;> omega
    rw [if_pos (by omega), if_pos (by omega), if_pos (by omega), if_pos hp, ew, decide_eq_true (by omega)]
    simp only [Option.bind_some, if_pos]
    have := ref_loop s p n hn hp.1 hp.2 h2 n (K + 9) (K + 8 - n) (Nat.le_refl n)
    rw [show n + 1 + (K + 8 - n) = K + 9 by omega] at this
    simpa only [Nat.sub_self, be, Int.sub_self] using this
  · rw [if_neg hp]
    by_cases h : p ≥ 0
    · rw [if_pos h, if_pos (by omega)]
      by_cases h' : p ≤ s.size
      · have ew : IntKind.wrap .i64 ((s.size : Int) - p) = (s.size : Int) - p := by rw [wi] <;> omega
        rw [if_pos h', ew, decide_eq_false (by omega)]; rfl
      · rw [if_neg h']; rfl
    · rw [if_neg h]; rfl

end Go.Proofs.YtdcojinnjpihaaaDoor.F
